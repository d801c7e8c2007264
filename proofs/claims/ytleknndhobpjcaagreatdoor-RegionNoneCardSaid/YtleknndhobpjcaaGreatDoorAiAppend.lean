/- The evaluator's append is the model's, whether the model finds room or makes a new row. No program is named here. -/
import Derived.Test.YtleknndhobpjcaaGreatDoorAiStep2
namespace Go.AI
variable {E : Ext} {P : Program} {W0 : World} {ρ : Ren} {φ : Foot} {m m' : Mem E.X} {w : World} {env : List (Nat × Value)} {a : Act}

theorem growBy_le (n : Nat) : ∀ (r c : Nat), c ≤ 2 * n + 768 → Builtin.growBy n r c ≤ 2 * n + 768
  | 0, c, h => h
  | r + 1, c, h => by
    unfold Builtin.growBy
    split
    · exact h
    · exact growBy_le n r _ (by omega)

theorem next_le {n c : Nat} (h : c < n) : Builtin.nextslicecap n c ≤ 2 * n + 768 := by
  unfold Builtin.nextslicecap
  split
  · omega
  · split
    · omega
    · exact growBy_le n 4 c (by omega)

section
variable {ts : Array TypeId} {ty t u e : TypeId} {i : TypeInfo} {z : List Value} {base : Option Addr} {l c n : Nat} {y : Value}

theorem append_room (ht : ts[0]? = some t) (hu : P.underlying t = some (.slice e)) (hi : P.info? e = some i) (ht1 : ts[1]? = some u) (hsrc : (∃ q, P.underlying u = some (.slice q)) ∨ P.underlying u = some .string)
    (hl : (Builtin.lenOf y).run P w = .ok n w) {src : List Value} {w' : World} (hn : l + n ≤ c) (hf : (Builtin.firstCells i.size n y).run P w = .ok ⟨src⟩ w)
    (hst : (match base with | some b => (storeCells (b.add (l * i.size)) src).run P w | none => Result.ok () w) = .ok () w') :
    (Builtin.append_ ts ty ⟨[.slice base l c, y]⟩).run P w = .ok (.slice base (l + n) c) w' := by
  have g0 : (⟨[Value.slice base l c, y]⟩ : Array Value)[0]? = some (.slice base l c) := by rw [arr_get]; rfl
  have g1 : (⟨[Value.slice base l c, y]⟩ : Array Value)[1]? = some y := by rw [arr_get]; rfl
  have hsz : sizeT P e = some i.size := by simp [sizeT, hi]
  rcases hsrc with ⟨q, hq⟩ | hq
  all_goals
    simp only [Builtin.append_, ht, ht1, g0, g1, Sem.run_bind, run_under hu, run_under hq, Result.andThen_ok, run_size hsz, Sem.run_pure, Bool.false_eq_true, if_false, hl, hn, if_true, Bool.not_false, hf]
    cases base with
    | none => simp only at hst; injection hst with _ h; subst h; rfl
    | some b => simp only at hst; simp only [Sem.run_bind, hst, Result.andThen_ok, Sem.run_pure]

theorem append_new (ht : ts[0]? = some t) (hu : P.underlying t = some (.slice e)) (hi : P.info? e = some i) (ht1 : ts[1]? = some u) (hsrc : (∃ q, P.underlying u = some (.slice q)) ∨ P.underlying u = some .string)
    (hz : zeroOf P e = some z) (hl : (Builtin.lenOf y).run P w = .ok n w) (hn : ¬ l + n ≤ c) (hr : roomy (l + n) i.bytes = true) (hb : i.bytes ≠ 0) {src old : List Value}
    (hf : (Builtin.firstCells i.size n y).run P { w with drawn := w.drawn + 1 } = .ok ⟨src⟩ { w with drawn := w.drawn + 1 })
    (ho : (Builtin.firstCells i.size l (.slice base l c)).run P { w with drawn := w.drawn + 1 } = .ok ⟨old⟩ { w with drawn := w.drawn + 1 }) :
    ∃ s rest, rest.length = s * i.size ∧ (Builtin.append_ ts ty ⟨[.slice base l c, y]⟩).run P w = .ok (.slice (some ⟨w.heap.size, 0, none⟩) (l + n) (l + n + s)) { w with drawn := w.drawn + 1, heap := w.heap.push (.cells ⟨(old ++ src) ++ rest⟩ e) } := by
  have g0 : (⟨[Value.slice base l c, y]⟩ : Array Value)[0]? = some (.slice base l c) := by rw [arr_get]; rfl
  have g1 : (⟨[Value.slice base l c, y]⟩ : Array Value)[1]? = some y := by rw [arr_get]; rfl
  have hsz : sizeT P e = some i.size := by simp [sizeT, hi]
  have hnf : ¬ (Question.appendCap (l + n) c e).forced = true := by simp [Question.forced]
  have hcap : l + n ≤ (Question.appendCap (l + n) c e).cut (w.tape w.drawn (Question.appendCap (l + n) c e)) := by simp [Question.cut]
  generalize hC : (Question.appendCap (l + n) c e).cut (w.tape w.drawn (Question.appendCap (l + n) c e)) = C at hcap
  unfold roomy at hr
  rw [Nat.ble_eq] at hr
  have c2 : ¬ (Builtin.nextslicecap (l + n) c * i.bytes > 2 ^ 48) := by
    have h1 := next_le (n := l + n) (c := c) (by omega)
    generalize Builtin.nextslicecap (l + n) c = N at h1 ⊢
    have h0 : N ≤ 2 * (l + n + 1000) := (fun (a b c d : Nat) (h : a ≤ 2 * (b + c) + d) (e : d ≤ 2000) => by omega : ∀ a b c d : Nat, a ≤ 2 * (b + c) + d → d ≤ 2000 → a ≤ 2 * (b + c + 1000)) N l n 768 h1 (by decide)
    have h2 : N * i.bytes ≤ (2 * (l + n + 1000)) * i.bytes := Nat.mul_le_mul_right i.bytes h0
    have h3 : (2 * (l + n + 1000)) * i.bytes = 2 * ((l + n + 1000) * i.bytes) := Nat.mul_assoc _ _ _
    omega
  obtain ⟨zv, z1, z2, z3, z4⟩ := run_zero (ρ := fun _ => none) (w := { w with drawn := w.drawn + 1 }) hz
  have hz' : zv.cells = ⟨z⟩ := Array.ext' z2
  refine ⟨C - (l + n), rows (C - (l + n)) z, ?_, ?_⟩
  · rw [rows_length]; rw [hsz] at z4; injection z4 with z4; rw [z4]
  · have c1' : ¬ (((l + n : Nat) : Int) > IntKind.i64.max ∧ (False ∨ i.bytes = 0)) := by
      rintro ⟨_, h | h⟩
      · exact h
      · exact hb h
    have e1 : (⟨old⟩ : Array Value) ++ ⟨src⟩ ++ Builtin.zeroCells ⟨z⟩ (C - (l + n)) = ⟨(old ++ src) ++ rows (C - (l + n)) z⟩ := by
      apply Array.ext'
      rw [Array.toList_append, Array.toList_append, zeroCells_rows]
    rcases hsrc with ⟨q, hq⟩ | hq
    all_goals
      simp only [Builtin.append_, ht, ht1, g0, g1, Sem.run_bind, run_under hu, run_under hq, Result.andThen_ok, run_size hsz, Sem.run_pure, Bool.false_eq_true, if_false, hl, hn, run_info hi, c1', c2, run_choose, hnf, hC, Go.run_askRoom, Bool.not_false, if_true, ho, hf, z1, hz', run_newRow, e1]
      rw [show l + n + (C - (l + n)) = C by omega]
end


/-- AN OBJECT UNDER A NEW NUMBER, in its old place: what it was is not seen any more. -/
theorem Good.swap {V V' : View E} {n : Nat} {w' : World} (g : Good (E := E) W0 ρ φ V n w) {i b s' : Nat} {o o' : AObj E.X} (hi : V i = some o)
    (hsz : w'.heap.size = w.heap.size) (ho : w'.os = w.os) (hp : w'.output = w.output) (hold : ∀ c, ¬ (φ i).1 c → w'.heap[c]? = w.heap[c]?)
    (hrel : ObjR E (ρ.put n (b, s')) o' b s' (φ i).1 (φ i).2 w')
    (hV : ∀ j oj, V' j = some oj → (j = n ∧ oj = o') ∨ (j ≠ n ∧ j ≠ i ∧ V j = some oj)) :
    Post W0 ρ φ V n w (ρ.put n (b, s')) (fun j => if j = n then φ i else φ j) V' (n + 1) w' := by
  have hle := le_put (ρ := ρ) (x := (b, s')) (g.dom n (Nat.le_refl _))
  have hV' : ∀ j oj, V' j = some oj → ∃ k ok, V k = some ok ∧ (if j = n then φ i else φ j) = φ k ∧ (j = n → k = i) ∧ (j ≠ n → k = j) := by
    intro j oj hj
    rcases hV j oj hj with ⟨rfl, rfl⟩ | ⟨h1, h2, h3⟩
    · exact ⟨i, o, hi, by simp, fun _ => rfl, fun h => absurd rfl h⟩
    · exact ⟨j, oj, h3, by simp [h1], fun h => absurd h h1, fun _ => rfl⟩
  refine ⟨⟨?_, ?_, ?_, ?_, ?_, ?_, by rw [hsz]; exact g.size, ?_, by rw [ho]; exact g.os, by rw [hp]; exact g.out⟩, hle, by omega, by omega, fun c _ hF => hold c (hF i o hi), ?_, ?_, ?_, fun j hj => by simp [Ren.put, show j ≠ n by omega]⟩
  · intro j hj
    have : j ≠ n := by omega
    simp only [Ren.put, this, if_false]
    exact g.dom j (by omega)
  · intro j oj hj
    rcases hV j oj hj with ⟨rfl, rfl⟩ | ⟨h1, h2, h3⟩
    · exact ⟨b, s', by simp [Ren.put], by simpa using hrel⟩
    · obtain ⟨b2, s2, hb, hr⟩ := g.rel j oj h3
      refine ⟨b2, s2, hle _ _ hb, ?_⟩
      simp only [h1, if_false]
      exact hr.frame hle fun c hc => hold c fun hF => g.dis i j o oj c hi h3 (fun e => h2 e.symm) hF hc
  · intro j k oj ok c hj hk hne hF hD
    obtain ⟨j', oj', h1, h2, h3, h4⟩ := hV' j oj hj
    obtain ⟨k', ok', h5, h6, h7, h8⟩ := hV' k ok hk
    simp only [h2] at hF
    simp only [h6] at hD
    refine g.dis j' k' oj' ok' c h1 h5 ?_ hF hD
    intro e
    by_cases ej : j = n
    · by_cases ek : k = n
      · exact hne (ej.trans ek.symm)
      · rcases hV k ok hk with ⟨h, _⟩ | ⟨_, h, _⟩
        · exact ek h
        · exact h (by rw [← h8 ek, ← e, h3 ej])
    · by_cases ek : k = n
      · rcases hV j oj hj with ⟨h, _⟩ | ⟨_, h, _⟩
        · exact ej h
        · exact h (by rw [← h4 ej, e, h7 ek])
      · exact hne (by rw [← h4 ej, e, h8 ek])
  · intro j oj c hj hF
    obtain ⟨j', oj', h1, h2, _, _⟩ := hV' j oj hj
    simp only [h2] at hF ⊢
    exact g.sub j' oj' c h1 hF
  · intro j oj c hj hD
    obtain ⟨j', oj', h1, h2, _, _⟩ := hV' j oj hj
    simp only [h2] at hD
    rw [hsz]; exact g.lts j' oj' c h1 hD
  · intro j oj c hj hF
    obtain ⟨j', oj', h1, h2, _, _⟩ := hV' j oj hj
    simp only [h2] at hF
    exact g.frs j' oj' c h1 hF
  · intro c hc
    rw [hold c fun hF => by have := g.frs i o c hi hF; omega]
    exact g.base c hc
  · intro j oj c hj hF
    obtain ⟨j', oj', h1, h2, _, _⟩ := hV' j oj hj
    simp only [h2] at hF
    exact .inr ⟨j', oj', h1, hF⟩
  · intro j oj c hj hD
    obtain ⟨j', oj', h1, h2, _, _⟩ := hV' j oj hj
    simp only [h2] at hD
    exact .inr ⟨j', oj', h1, hD⟩
  · intro j oj hj
    rcases hV j oj hj with ⟨h, _⟩ | ⟨_, _, h⟩
    · left; omega
    · exact .inr ⟨oj, h⟩

theorem source_sound {e n : Nat} {y y' : Value} {src : List Value} (h : source m e y = some (n, src)) (hy : VR ρ y y') :
    (∀ w : World, (Builtin.lenOf y').run P w = .ok n w) ∧ (n = 0 → src = []) ∧ ∀ (w : World), Good (E := E) W0 ρ φ m.get m.next w → ∃ src', (Builtin.firstCells e n y').run P w = .ok ⟨src'⟩ w ∧ All2 (FR ρ) src src' := by
  unfold source at h
  split at h
  · rename_i s
    simp only [Option.some.injEq, Prod.mk.injEq] at h
    obtain ⟨rfl, rfl⟩ := h
    cases hy.str_inv
    refine ⟨fun w => by simp [Builtin.lenOf], fun h => ?_, fun w _ => ⟨byteCells s.data.toList, ?_, byte_cells _⟩⟩
    · have : s.data.toList = [] := List.eq_nil_of_length_eq_zero h
      rw [this]; rfl
    · simp only [Builtin.firstCells, Sem.run_pure]
      rw [bytes_cells_map, List.take_length]
  · rename_i ad k c
    simp only [Option.map_eq_some_iff, Prod.mk.injEq] at h
    obtain ⟨cs, hcs, rfl, rfl⟩ := h
    have hf := hy.flat_slice
    obtain ⟨b, c', rfl⟩ := hf.slice_shape
    refine ⟨fun w => rfl, fun h => ?_, fun w g => ?_⟩
    · subst h
      simp only [Mem.loads, Nat.zero_mul, Nat.beq_refl, cond_true, Option.some.injEq] at hcs
      exact hcs.symm
    · obtain ⟨r', l1, l2⟩ := loads_sound (P := P) hcs g hf (fun e => loads_none (e ▸ hcs)) (fun h e => h (by rw [e, Nat.zero_mul]))
      refine ⟨r', ?_, l2⟩
      cases b with
      | none => exact l1
      | some b => exact l1
  · cases h


theorem good_drawn {V : View E} {n : Nat} (g : Good (E := E) W0 ρ φ V n w) : Good (E := E) W0 ρ φ V n { w with drawn := w.drawn + 1 } := g.world rfl rfl rfl

/-- The new row of an append. -/
theorem append_grown {cs cs' rest : List Value} {s ez : Nat} (g : Good (E := E) W0 ρ φ m.get m.next w) (hs : m.Sep) (e : TypeId) (hc : All2 (FR ρ) cs cs') (hr : rest.length = s * ez) :
    ∃ ρ' φ', ρ' m.next = some (w.heap.size, s) ∧ Post W0 ρ φ m.get m.next w ρ' φ' (m.new true (.grown ez e cs)).get (m.new true (.grown ez e cs)).next { w with drawn := w.drawn + 1, heap := w.heap.push (.cells ⟨cs' ++ rest⟩ e) } ∧ (m.new true (.grown ez e cs)).Sep :=
  new_grown (heap := true) g hs e hc hr (0, 0) (free_zero _) rfl rfl rfl

theorem first_slice {k l c : Nat} {b : Option Addr} {w : World} : (Builtin.firstCells k l (.slice b l c)).run P w = (match b with | some b => (loadCells b (l * k)).run P w | none => Result.ok #[] w) := by
  cases b <;> rfl

theorem step_append (ts : Array TypeId) (as : Array Operand) {t u e : TypeId} {i : TypeInfo} {d : Nat} {z : List Value} {x y : Opd} (ht : ts[0]? = some t) (ht1 : ts[1]? = some u) (hu : P.underlying t = some (.slice e)) (hsrc : (∃ q, P.underlying u = some (.slice q)) ∨ P.underlying u = some .string) (hi : P.info? e = some i) (hz : zeroOf P e = some z)
    (hb0 : i.bytes ≠ 0) (hs0 : i.size ≠ 0) (hxs : mkOpds as.toList = some [x, y]) :
    StepOk E P env a (.call ⟨.builtin .append, as, ts⟩) (.append d i.size i.bytes e x y) := by
  intro W0 ρ φ m m' v w hm hE hG hs dst ty pos af gd
  simp only [mstep] at hm
  split at hm
  · rename_i xv yv hx hy
    have hall := opds_sound (a := a) hxs (show evs env [x, y] = some [xv, yv] by simp [evs, hx, hy]) hE
    have hm0 := map_toList (a := a) (as := as) rfl
    generalize as.toList.map a.eval = ws at hall hm0
    cases hall with
    | cons r1 rest =>
      cases rest with
      | cons r2 rest2 =>
        cases rest2
        rename_i xc yc
        have hexec : ∀ {q : Value} {w' : World}, (Builtin.append_ ts ty ⟨[xc, yc]⟩).run P w = .ok q w' → (execOp a.eval ⟨dst, .call ⟨.builtin .append, as, ts⟩, ty, pos, af, gd⟩).run P w = .ok (.value q) w' := by
          intro q w' h
          simp only [execOp, resolve, Sem.run_bind, Sem.run_pure, Result.andThen_ok, invoke, Go.builtin, hm0, h]
        unfold appendM at hm
        split at hm
        · -- a nil slice
          rename_i l cp n src hsr
          obtain ⟨s1, s2, s3⟩ := source_sound (P := P) (ρ := ρ) (W0 := W0) (φ := φ) hsr r2
          have hf := r1.flat_slice
          cases hf
          cases hb : Nat.ble (l + n) cp with
          | true =>
            rw [hb, cond_true] at hm
            rw [Nat.ble_eq] at hb
            simp only [Option.some.injEq, Prod.mk.injEq] at hm
            obtain ⟨rfl, rfl⟩ := hm
            obtain ⟨src', k1, k2⟩ := s3 w hG
            exact ⟨.value (.slice none (l + n) cp), w, ρ, φ, hexec (append_room ht hu hi ht1 hsrc (s1 w) hb k1 rfl), .of_flat (.nils _ _), fun h => .inr trivial, Post.refl hG, hs⟩
          | false =>
            rw [hb, cond_false] at hm
            have hnb : ¬ l + n ≤ cp := fun h => by rw [← Nat.ble_eq] at h; rw [h] at hb; cases hb
            cases hcnd : (Nat.beq l 0 && roomy (l + n) i.bytes) with
            | false => rw [hcnd] at hm; cases hm
            | true =>
              rw [hcnd, cond_true] at hm
              simp only [Bool.and_eq_true, Nat.beq_eq] at hcnd
              obtain ⟨rfl, hro⟩ := hcnd
              simp only [Option.some.injEq, Prod.mk.injEq] at hm
              obtain ⟨rfl, rfl⟩ := hm
              obtain ⟨src', k1, k2⟩ := s3 _ (good_drawn hG)
              obtain ⟨s, rest, q1, q2⟩ := append_new (ty := ty) (base := none) ht hu hi ht1 hsrc hz (s1 w) hnb hro hb0 k1 (old := []) rfl
              obtain ⟨ρ', φ', p1, p2, p3⟩ := append_grown (rest := rest) hG hs e k2 q1
              refine ⟨_, _, ρ', φ', hexec q2, .of_flat (.slc p1), fun h => .inr trivial, ?_, p3⟩
              simpa using p2
        · rename_i ii o sp l cp n src hsr
          obtain ⟨s1, s2, s3⟩ := source_sound (P := P) (ρ := ρ) (W0 := W0) (φ := φ) hsr r2
          split at hm
          · rename_i ob hob
            -- the place of the slice
            have hf := r1.flat_slice
            obtain ⟨b, s, hbs, hobj⟩ := hG.rel ii ob hob
            simp only at hm
            generalize hex : exactB sp ob = exact at hm
            generalize hmi : mineB i.size e o cp l n src sp ob = mine at hm
            cases hcnd : (exact || mine) with
            | false => rw [hcnd] at hm; cases hm
            | true =>
              rw [hcnd, cond_true] at hm
              -- what stands for the slice
              obtain ⟨cp', hxc, hcp, hex'⟩ : ∃ cp', xc = .slice (some ⟨b, o, none⟩) l cp' ∧ cp ≤ cp' ∧ (exact = true → cp' = cp) ∧ (exact = false → sp = none ∧ cp' = cp + s) := by
                cases hf with
                | slc hr =>
                  rw [hbs] at hr; injection hr with hr; injection hr with e1 e2; subst e1; subst e2
                  refine ⟨_, rfl, by omega, fun he => ?_, fun _ => ⟨rfl, rfl⟩⟩
                  cases ob with
                  | cells c => obtain ⟨h0, _⟩ := hobj; omega
                  | _ => rw [he] at hex; simp [exactB] at hex
                | slx hr =>
                  rw [hbs] at hr; injection hr with hr; injection hr with e1 e2; subst e1; subst e2
                  refine ⟨_, rfl, Nat.le_refl _, fun _ => rfl, fun he => ?_⟩
                  subst he
                  simp only [Bool.false_or] at hcnd
                  subst hcnd
                  simp [mineB] at hmi
                | slz hr =>
                  exfalso
                  simp only [Bool.or_eq_true] at hcnd
                  rcases hcnd with h | h
                  · rw [h] at hex; simp [exactB] at hex
                  · rw [h] at hmi; simp [mineB] at hmi
              subst hxc
              have hvr : ∀ k, (cp' = cp ∨ sp = none ∧ cp' = cp + s) → FR ρ (.slice (some ⟨ii, o, sp⟩) k cp) (.slice (some ⟨b, o, none⟩) k cp') := by
                intro k hk
                cases hf with
                | slc hr => exact .slc hr
                | slx hr => exact .slx hr
                | slz hr =>
                  simp only [Bool.or_eq_true] at hcnd
                  rcases hcnd with h | h
                  · rw [h] at hex; simp [exactB] at hex
                  · rw [h] at hmi; simp [mineB] at hmi
              have hcase : cp' = cp ∨ sp = none ∧ cp' = cp + s := by
                cases exact with
                | true => exact .inl (hex'.1 rfl)
                | false => exact .inr (hex'.2 rfl)
              cases hb : Nat.ble (l + n) cp with
              | true =>
                rw [hb, cond_true] at hm
                rw [Nat.ble_eq] at hb
                obtain ⟨src', k1, k2⟩ := s3 w hG
                cases hn : Nat.beq n 0 with
                | true =>
                  rw [hn, cond_true] at hm
                  rw [Nat.beq_eq] at hn
                  simp only [Option.some.injEq, Prod.mk.injEq] at hm
                  obtain ⟨rfl, rfl⟩ := hm
                  have := s2 hn
                  subst this
                  cases k2
                  exact ⟨.value (.slice (some ⟨b, o, none⟩) (l + n) cp'), w, ρ, φ, hexec (append_room ht hu hi ht1 hsrc (s1 w) (by omega) k1 rfl), .of_flat (hvr _ hcase), fun h => .inr trivial, Post.refl hG, hs⟩
                | false =>
                  rw [hn, cond_false] at hm
                  simp only [Option.map_eq_some_iff, Prod.mk.injEq] at hm
                  obtain ⟨m1, h1, rfl, rfl⟩ := hm
                  obtain ⟨w', q1, q2, q3⟩ := store_sound (P := P) h1 hG hs (.ptr hbs) k2
                  refine ⟨.value (.slice (some ⟨b, o, none⟩) (l + n) cp'), w', ρ, φ, hexec (append_room ht hu hi ht1 hsrc (s1 w) (by omega) k1 ?_), .of_flat (hvr _ hcase), fun h => .inr trivial, q2, q3⟩
                  simp only [add_addr]
                  exact q1
              | false =>
                rw [hb, cond_false] at hm
                have hnb : ¬ l + n ≤ cp := fun h => by rw [← Nat.ble_eq] at h; rw [h] at hb; cases hb
                cases hro : roomy (l + n) i.bytes with
                | false => rw [hro] at hm; cases hm
                | true =>
                  rw [hro, cond_true] at hm
                  split at hm
                  · rename_i old hold
                    have hfold : ∀ w : World, Good (E := E) W0 ρ φ m.get m.next w → ∃ old', (Builtin.firstCells i.size l (.slice (some ⟨b, o, none⟩) l cp')).run P w = .ok ⟨old'⟩ w ∧ All2 (FR ρ) old old' := by
                      intro w g
                      obtain ⟨r', l1, l2⟩ := loads_sound (P := P) (l := l) (c := cp) (x' := some ⟨b, o, none⟩) (l' := l) (c' := cp + s) hold g (.slc hbs) (by simp) (fun h e => h (by rw [e, Nat.zero_mul]))
                      exact ⟨r', by rw [first_slice]; exact l1, l2⟩
                    cases exact with
                    | true =>
                      have := hex'.1 rfl
                      subst this
                      simp only [cond_true, Option.some.injEq, Prod.mk.injEq] at hm
                      obtain ⟨rfl, rfl⟩ := hm
                      obtain ⟨src', k1, k2⟩ := s3 _ (good_drawn hG)
                      obtain ⟨old', o1, o2⟩ := hfold _ (good_drawn hG)
                      obtain ⟨s', rest, q1, q2⟩ := append_new (ty := ty) ht hu hi ht1 hsrc hz (s1 w) hnb hro hb0 k1 o1
                      obtain ⟨ρ', φ', p1, p2, p3⟩ := append_grown (rest := rest) hG hs e (o2.append k2) q1
                      exact ⟨_, _, ρ', φ', hexec q2, .of_flat (.slc p1), fun h => .inr trivial, p2, p3⟩
                    | false =>
                      obtain ⟨hsp, hcp'⟩ := hex'.2 rfl
                      subst hsp; subst hcp'
                      simp only [Bool.false_or] at hcnd
                      subst hcnd
                      simp only [cond_false, Option.some.injEq, Prod.mk.injEq] at hm
                      obtain ⟨rfl, rfl⟩ := hm
                      cases ob with
                      | typed t cs => simp [mineB] at hmi
                      | grown e' t' cs =>
                        simp only [mineB, Bool.and_eq_true, Nat.beq_eq, Nat.ble_eq] at hmi
                        obtain ⟨⟨⟨⟨⟨m0, m1⟩, m2⟩, m3⟩, m4⟩, m5⟩ := hmi
                        subst m0
                        subst m1; subst m2
                        have hks : (m.kill ii).Sep := Mem.sep_kill ii hs
                        have hksub := Mem.kill_sub m ii
                        by_cases hroom : l + n ≤ cp + s
                        · -- the model finds room
                          obtain ⟨src', k1, k2⟩ := s3 w hG
                          obtain ⟨hF, hD, cs', e2, f2, c1, c2, c3, c4, c5⟩ := hobj
                          have hsl := k2.length
                          have hle : l * i.size + src'.length ≤ cs'.size := by
                            rw [c2, m3, ← hsl, m4, ← Nat.add_mul, ← Nat.add_mul]
                            exact Nat.mul_le_mul_right _ hroom
                          have h1 : ∀ v ∈ src', v.oneCell' = true := by
                            clear hle hsl k1 m4 s3 hsr s2 s1 hnb hroom hro hb
                            induction k2 with
                            | nil => intro v hv; cases hv
                            | cons hf _ ih => intro v hv; rcases List.mem_cons.1 hv with rfl | hv; exact hf.one; exact ih v hv
                          have hst := run_storeCells (P := P) (off := l * i.size) c1 c4 h1 hle
                          have hgood := hG.part (V' := (m.kill ii).get) (n' := m.next) (fun j oj h => (hksub j oj h).1) (Nat.le_refl _)
                          have hnn := Mem.none_next (m := m.kill ii) hgood
                          have hold2 : old = cs.take (l * i.size) := by
                            unfold Mem.loads at hold
                            cases hz0 : Nat.beq (l * i.size) 0 with
                            | true =>
                              rw [hz0, cond_true, Option.some.injEq] at hold
                              rw [Nat.beq_eq] at hz0
                              rw [← hold, hz0]; rfl
                            | false =>
                              rw [hz0, cond_false] at hold
                              simp only [Mem.load, hob, cellsO, takeN, List.drop_zero] at hold
                              cases hq : Nat.beq (cs.take (l * i.size)).length (l * i.size) with
                              | false => rw [hq] at hold; cases hold
                              | true => rw [hq, cond_true, Option.some.injEq] at hold; exact hold.symm
                          have hlcs : l * i.size ≤ cs.length := by rw [m3]; exact Nat.mul_le_mul_right _ m5
                          have hlold : old.length = l * i.size := by rw [hold2, List.length_take]; omega
                          refine ⟨.value (.slice (some ⟨b, 0, none⟩) (l + n) (cp + s)), setRow w b (.cells ⟨splice cs'.toList (l * i.size) src'⟩ e2 f2), ρ.put m.next (b, cp + s - (l + n)), (fun j => if j = m.next then φ ii else φ j), hexec (append_room ht hu hi ht1 hsrc (s1 w) hroom k1 (by have := hst; simp only [add_addr, Nat.zero_add]; exact this)), ?_, fun h => .inr trivial, ?_, ?_⟩
                          · have := FR.slc (ρ := ρ.put m.next (b, cp + s - (l + n))) (i := m.next) (b := b) (s := cp + s - (l + n)) (o := 0) (l := l + n) (c := l + n) (by simp [Ren.put])
                            rw [show l + n + (cp + s - (l + n)) = cp + s by omega] at this
                            exact .of_flat this
                          · rw [Mem.next_new]
                            show Post W0 ρ φ m.get m.next w _ _ _ (m.next + 1) _
                            refine hG.swap (o' := .grown i.size t' (old ++ src)) hob (by unfold setRow; simp) rfl rfl (fun c hc => setRow_other b c _ fun e => hc (e ▸ (hF b).2 rfl)) ?_ ?_
                            · have hsz2 : (⟨splice cs'.toList (l * i.size) src'⟩ : Array Value).size = cs'.size := by
                                show (splice cs'.toList (l * i.size) src').length = _
                                rw [splice_length (by simpa using hle)]; simp
                              refine ⟨hF, hD, _, _, _, setRow_same _ c1, ?_, ?_, by rw [hsz2]; exact c4, c5⟩
                              · rw [hsz2, c2, List.length_append, hlold, m3, m4, ← Nat.add_mul, ← Nat.add_mul, ← Nat.add_mul]
                                congr 1; omega
                              · have hle2 := le_put (ρ := ρ) (x := (b, cp + s - (l + n))) (hG.dom m.next (Nat.le_refl _))
                                have e3 : List.take (old ++ src).length (splice cs'.toList (l * i.size) src') = cs'.toList.take (l * i.size) ++ src' := by
                                  rw [splice_eq _ _ _ (by simpa using hle)]
                                  rw [List.take_left']
                                  rw [List.length_append, List.length_append, hlold, hsl, List.length_take, Array.length_toList]
                                  omega
                                show All2 _ (old ++ src) (List.take (old ++ src).length (splice cs'.toList (l * i.size) src'))
                                rw [e3]
                                have e4 : All2 (FR ρ) old (cs'.toList.take (l * i.size)) := by
                                  have := c3.take (l * i.size)
                                  rw [List.take_take, Nat.min_eq_left hlcs] at this
                                  rw [hold2]; exact this
                                exact (e4.append k2).mono fun _ _ => FR.mono hle2
                            · intro j oj hj
                              rw [Mem.get_new hnn.1] at hj
                              simp only [View.put] at hj
                              split at hj
                              · rename_i he
                                injection hj with hj
                                exact .inl ⟨he, hj.symm⟩
                              · rename_i he
                                exact .inr ⟨he, (hksub j oj hj).2, (hksub j oj hj).1⟩
                          · exact Mem.sep_new hks hnn.1 hnn.2
                        · -- the model makes a new row
                          obtain ⟨src', k1, k2⟩ := s3 _ (good_drawn hG)
                          obtain ⟨old', o1, o2⟩ := hfold _ (good_drawn hG)
                          obtain ⟨s', rest, q1, q2⟩ := append_new (ty := ty) ht hu hi ht1 hsrc hz (s1 w) hroom hro hb0 k1 o1
                          have hgood := hG.part (V' := (m.kill ii).get) (n' := m.next) (fun j oj h => (hksub j oj h).1) (Nat.le_refl _)
                          obtain ⟨ρ', φ', p1, p2, p3⟩ := append_grown (m := m.kill ii) (rest := rest) hgood hks _ (o2.append k2) q1
                          refine ⟨_, _, ρ', φ', hexec q2, .of_flat (.slc p1), fun h => .inr trivial, ?_, p3⟩
                          exact (Post.part (Post.refl hG) (fun j oj h => (hksub j oj h).1) (Nat.le_refl _)).trans p2
                      | cells c => simp [exactB] at hex
                      | ro c => simp [mineB] at hmi
                      | map es c => simp [mineB] at hmi
                      | ext x => simp [mineB] at hmi
                  · cases hm
          · cases hm
        · cases hm
  · cases hm

end Go.AI
