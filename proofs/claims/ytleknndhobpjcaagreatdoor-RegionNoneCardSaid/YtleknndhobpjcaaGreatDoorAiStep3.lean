/- The evaluator's steps upon a library's own struct that holds itself: its making, its pointer through unsafe.Pointer, a row of bytes seen as a string. Each is the model's. No program is named here. -/
import Derived.Test.YtleknndhobpjcaaGreatDoorAiAppend
import Derived.Lib.UnsafeStr
import Derived.Lib.Builder
namespace Go.AI

section
variable {E : Ext} {P : Program} {W0 : World} {ρ : Ren} {φ : Foot} {m m' : Mem E.X} {w : World} {env : List (Nat × Value)} {a : Act}

/-- A new object whose type is remembered. -/
theorem new_typed {t : TypeId} {cs cs' : List Value} {heap : Bool} (g : Good (E := E) W0 ρ φ m.get m.next w) (hs : m.Sep) (hc : All2 (FR ρ) cs cs') :
    ∃ ρ' φ', ρ' m.next = some (w.heap.size, 0) ∧ Post W0 ρ φ m.get m.next w ρ' φ' (m.new heap (.typed t cs)).get (m.new heap (.typed t cs)).next { w with heap := w.heap.push (.cells ⟨cs'⟩ t) } ∧ (m.new heap (.typed t cs)).Sep := by
  have hle := le_put (ρ := ρ) (x := (w.heap.size, 0)) (g.dom m.next (Nat.le_refl _))
  obtain ⟨k1, k2⟩ := post_new (o := .typed t cs) (s := 0) (heap := heap) (c := .cells ⟨cs'⟩ t) (w' := { w with heap := w.heap.push (.cells ⟨cs'⟩ t) }) g hs rfl rfl rfl
    ⟨rfl, fun _ => Iff.rfl, fun _ => Iff.rfl, ⟨cs'⟩, t, (0, 0), by simp, hc.mono fun _ _ => FR.mono hle, free_zero _, rfl⟩
  exact ⟨_, _, by simp [Ren.put], k1, k2⟩

theorem step_newt (t : TypeId) {d : Nat} {hp : Bool} {z : List Value} (hz : zeroOf P t = some z) : StepOk E P env a (.alloc t) (.newt d hp t z) := by
  intro W0 ρ φ m m' v w hm hE hG hs dst ty pos af gd
  simp only [mstep, Option.some.injEq, Prod.mk.injEq] at hm
  obtain ⟨rfl, rfl⟩ := hm
  obtain ⟨zv, z1, z2, z3, z4⟩ := run_zero (ρ := ρ) (w := w) hz
  have hz' : zv.cells = ⟨z⟩ := Array.ext' z2
  obtain ⟨ρ', φ', h1, h2, h3⟩ := new_typed (heap := hp) (t := t) hG hs z3
  refine ⟨.value (.pointer (some ⟨w.heap.size, 0, none⟩)), { w with heap := w.heap.push (.cells ⟨z⟩ t) }, ρ', φ', ?_, .of_flat (.ptr h1), fun h => .inr trivial, h2, h3⟩
  simp only [execOp, Instr.alloc, newVar, Sem.run_bind, z1, Result.andThen_ok, Sem.run_pure, hz', run_newRow]

theorem shape_of {b : Nat} {cs : Array Value} {e : TypeId} {f : Nat × Nat} (h : w.heap[b]? = some (.cells cs e f)) : w.shape? b = some (e, cs.size) := by
  simp [World.shape?, h]

theorem step_tou (s t u : TypeId) (x : Operand) {j : TypeInfo} {d : Nat} {y : Opd} (hs : P.underlying s = some (.pointer u)) (ht : P.underlying t = some .unsafePointer) (hu : P.info? u = some j) (hj : j.size ≠ 0) (hx : mkOpd x = some y) :
    StepOk E P env a (.convert s t x) (.tou d u y) := by
  intro W0 ρ φ m m' v w hm hE hG hsp dst ty pos af gd
  simp only [mstep] at hm
  split at hm
  · rename_i i hv
    split at hm
    · rename_i t' c cs hob
      cases hb : Nat.beq t' u with
      | false => rw [hb] at hm; cases hm
      | true =>
        rw [hb, cond_true] at hm
        rw [Nat.beq_eq] at hb
        subst hb
        simp only [Option.some.injEq, Prod.mk.injEq] at hm
        obtain ⟨rfl, rfl⟩ := hm
        have hp := opd_sound hx hv hE
        obtain ⟨b, s', hbs, hobj⟩ := hG.rel i _ hob
        obtain ⟨h0, _, _, cs', e, f, h4, h5, h6, h7⟩ := hobj
        subst h0; subst h7
        refine ⟨.value (a.eval x), w, ρ, φ, ?_, hp, fun h => .inr trivial, Post.refl hG, hsp⟩
        generalize hq : a.eval x = q at hp
        cases hp.flat_ptr with
        | ptr hr =>
          rw [hbs] at hr; injection hr with hr; injection hr with e1 e2; subst e1
          have hl := h5.length
          have hsz : 0 < cs'.size := by simp at hl; omega
          have := Lib.run_to_unsafe (P := P) w (src := s) (dst := t) (t := e) ⟨b, 0, none⟩ hs ht hu hj (shape_of h4) hsz
          simp only [execOp, Sem.run_bind, hq, this, Result.andThen_ok, Sem.run_pure]
    · cases hm
  · cases hm

theorem step_fromu (s t u : TypeId) (x : Operand) {j : TypeInfo} {d : Nat} {y : Opd} (hs : P.underlying s = some .unsafePointer) (ht : P.underlying t = some (.pointer u)) (hu : P.info? u = some j)
    (hlies : liesAt P P.depth u (j.size / P.cellsOf u) 0 u 1 = true) (hx : mkOpd x = some y) :
    StepOk E P env a (.convert s t x) (.fromu d u j.size y) := by
  intro W0 ρ φ m m' v w hm hE hG hsp dst ty pos af gd
  simp only [mstep] at hm
  split at hm
  · rename_i i hv
    split at hm
    · rename_i t' cs hob
      cases hb : (Nat.beq t' u && Nat.beq cs.length j.size) with
      | false => rw [hb] at hm; cases hm
      | true =>
        rw [hb, cond_true] at hm
        simp only [Bool.and_eq_true, Nat.beq_eq] at hb
        obtain ⟨hb, hn⟩ := hb
        subst hb
        simp only [Option.some.injEq, Prod.mk.injEq] at hm
        obtain ⟨rfl, rfl⟩ := hm
        have hp := opd_sound hx hv hE
        obtain ⟨b, s', hbs, hobj⟩ := hG.rel i _ hob
        obtain ⟨h0, _, _, cs', e, f, h4, h5, h6, h7⟩ := hobj
        subst h0; subst h7
        refine ⟨.value (a.eval x), w, ρ, φ, ?_, hp, fun h => .inr trivial, Post.refl hG, hsp⟩
        generalize hq : a.eval x = q at hp
        cases hp.flat_ptr with
        | ptr hr =>
          rw [hbs] at hr; injection hr with hr; injection hr with e1 e2; subst e1
          have hl := h5.length
          have hsz : cs'.size = j.size := by simp at hl; omega
          have := Lib.run_from_unsafe (P := P) w (src := s) (dst := t) (u := e) ⟨b, 0, none⟩ hs ht hu (shape_of h4) (by rw [hsz]; exact hlies)
          simp only [execOp, Sem.run_bind, hq, this, Result.andThen_ok, Sem.run_pure]
    · cases hm
  · cases hm

theorem step_usd (ts : Array TypeId) (as : Array Operand) {d : Nat} {x : Opd} (hxs : mkOpds as.toList = some [x]) :
    StepOk E P env a (.call ⟨.builtin .unsafeSliceData, as, ts⟩) (.usd d x) := by
  intro W0 ρ φ m m' v w hm hE hG hsp dst ty pos af gd
  simp only [mstep] at hm
  have key : ∀ xv, evo env x = some xv → ∃ xc, VR ρ xv xc ∧ ∀ (q : Value), (Builtin.unsafeSliceData_ ts ty #[xc]).run P w = .ok q w → (execOp a.eval ⟨dst, .call ⟨.builtin .unsafeSliceData, as, ts⟩, ty, pos, af, gd⟩).run P w = .ok (.value q) w := by
    intro xv hx
    have hall := opds_sound (a := a) hxs (show evs env [x] = some [xv] by simp [evs, hx]) hE
    have hm0 := map_toList (a := a) (as := as) rfl
    generalize as.toList.map a.eval = ws at hall hm0
    cases hall with
    | cons r1 rest =>
      cases rest
      rename_i xc
      refine ⟨xc, r1, fun q h => ?_⟩
      simp only [execOp, resolve, Sem.run_bind, Sem.run_pure, Result.andThen_ok, invoke, Go.builtin, hm0, h]
  split at hm
  · rename_i l c hx
    simp only [Option.some.injEq, Prod.mk.injEq] at hm
    obtain ⟨rfl, rfl⟩ := hm
    obtain ⟨xc, h1, h2⟩ := key _ hx
    cases h1.flat_slice
    exact ⟨_, w, ρ, φ, h2 (.pointer none) rfl, .of_flat .nilp, fun h => .inr trivial, Post.refl hG, hsp⟩
  · rename_i i o l c hx
    cases hc : Nat.beq c 0 with
    | true => rw [hc] at hm; cases hm
    | false =>
      rw [hc, cond_false] at hm
      simp only [Option.some.injEq, Prod.mk.injEq] at hm
      obtain ⟨rfl, rfl⟩ := hm
      rw [← Bool.not_eq_true, Nat.beq_eq] at hc
      obtain ⟨xc, h1, h2⟩ := key _ hx
      cases h1.flat_slice with
      | slc hr =>
        refine ⟨_, w, ρ, φ, h2 (.pointer (some ⟨_, o, none⟩)) ?_, .of_flat (.ptr hr), fun h => .inr trivial, Post.refl hG, hsp⟩
        rename_i b s
        exact Lib.run_unsafeSliceData_row w ts ty _ _ _ (by omega)
  · cases hm

/-- An object is lost: its own blocks may turn. -/
theorem Good.lose {V V' : View E} {n i : Nat} {o : AObj E.X} {w' : World} (g : Good W0 ρ φ V n w) (hi : V i = some o) (hV : ∀ j oj, V' j = some oj → V j = some oj ∧ j ≠ i)
    (hsz : w'.heap.size = w.heap.size) (ho : w'.os = w.os) (hp : w'.output = w.output) (hold : ∀ c, ¬ (φ i).1 c → w'.heap[c]? = w.heap[c]?) : Post W0 ρ φ V n w ρ φ V' n w' where
  good := by
    refine ⟨g.dom, ?_, fun i j oi oj b a c => g.dis i j oi oj b (hV _ _ a).1 (hV _ _ c).1, fun i o b a => g.sub i o b (hV _ _ a).1, fun i o b a c => by rw [hsz]; exact g.lts i o b (hV _ _ a).1 c, fun i o b a => g.frs i o b (hV _ _ a).1, by rw [hsz]; exact g.size, ?_, ho.trans g.os, hp.trans g.out⟩
    · intro j oj hj
      obtain ⟨h1, h2⟩ := hV j oj hj
      obtain ⟨b, s, h3, h4⟩ := g.rel j oj h1
      exact ⟨b, s, h3, h4.frame (Ren.le_refl ρ) fun c hc => hold c fun hF => g.dis i j o oj c hi h1 (fun e => h2 e.symm) hF hc⟩
    · intro b hb
      rw [← g.base b hb]
      refine hold b fun hF => ?_
      have := g.frs i o b hi hF
      omega
  le := Ren.le_refl ρ
  nle := Nat.le_refl n
  sz := by rw [hsz]; exact Nat.le_refl _
  keep := fun c _ hF => hold c (hF i o hi)
  fF := fun j oj c hj hc => .inr ⟨j, oj, (hV j oj hj).1, hc⟩
  fD := fun j oj c hj hc => .inr ⟨j, oj, (hV j oj hj).1, hc⟩
  ids := fun j oj hj => .inr ⟨oj, (hV j oj hj).1⟩
  old := fun _ _ => rfl

theorem all2_get {R : Value → Value → Prop} : ∀ {l l' : List Value}, All2 R l l' → ∀ {j : Nat} {x : Value}, l[j]? = some x → ∃ y, l'[j]? = some y ∧ R x y
  | _, _, .nil, j, x, h => by simp at h
  | _, _, .cons (b := b) h1 h2, 0, x, h => by
    simp only [List.getElem?_cons_zero, Option.some.injEq] at h; subst h
    exact ⟨b, rfl, h1⟩
  | _, _, .cons h1 h2, j + 1, x, h => by
    simp only [List.getElem?_cons_succ] at h ⊢
    exact all2_get h2 h

theorem bytesX_inv : ∀ {cs : List Value} {l : List UInt8}, cellBytesX cs = some l → cs = l.map fun b => .int .u8 b.toNat
  | [], l, h => by simp only [cellBytesX, Option.some.injEq] at h; subst h; rfl
  | c :: cs, l, h => by
    unfold cellBytesX at h
    split at h
    · rename_i h'; cases h'
    · rename_i n r hcs
      injection hcs with e1 e2; subst e1; subst e2
      cases hn : Nat.blt n 256 with
      | false => rw [hn] at h; cases h
      | true =>
        rw [hn, cond_true] at h
        rw [blt_iff, decide_eq_true_eq] at hn
        simp only [Option.map_eq_some_iff] at h
        obtain ⟨l', h3, rfl⟩ := h
        rw [bytesX_inv h3]
        simp only [List.map_cons, List.cons.injEq, and_true]
        have : (UInt8.ofNat n).toNat = n := by simp; omega
        rw [this]; rfl
    · cases h

theorem run_ustr_congr (ts : Array TypeId) (pt ty : TypeId) (p : Option Addr) (v : Value) (h : ts[0]? = some pt) : Builtin.unsafeString_ ts ty #[.pointer p, v] = Builtin.unsafeString_ #[pt, pt] ty #[.pointer p, v] := by
  obtain ⟨l⟩ := ts
  cases l with
  | nil => simp at h
  | cons x r =>
    have : x = pt := by simpa using h
    subst this
    rfl

theorem step_ustr (ts : Array TypeId) (as : Array Operand) {pt t : TypeId} {d : Nat} {x n : Opd} (ht : ts[0]? = some pt) (hpt : P.underlying pt = some (.pointer t)) (hc : P.cellsOf t = 1) (hxs : mkOpds as.toList = some [x, n]) :
    StepOk E P env a (.call ⟨.builtin .unsafeString, as, ts⟩) (.ustr d t x n) := by
  intro W0 ρ φ m m' v w hm hE hG hsp dst ty pos af gd
  simp only [mstep] at hm
  split at hm
  · rename_i p n hx hn
    have hall := opds_sound (a := a) hxs (vs := [.pointer p, .int .i64 (.ofNat n)]) (by simp only [evs, hx, hn]) hE
    have hm0 := map_toList (a := a) (as := as) rfl
    generalize as.toList.map a.eval = ws at hall hm0
    cases hall with
    | cons r1 rest =>
      cases rest with
      | cons r2 rest =>
        cases rest
        rename_i xc nc
        obtain ⟨pc, hpc⟩ : ∃ pc, xc = .pointer pc := by cases r1.flat_ptr <;> exact ⟨_, rfl⟩
        subst hpc
        have hexec : ∀ {q : Value} {w' : World}, (Builtin.unsafeString_ #[pt, pt] ty #[.pointer pc, nc]).run P w = .ok q w' → (execOp a.eval ⟨dst, .call ⟨.builtin .unsafeString, as, ts⟩, ty, pos, af, gd⟩).run P w = .ok (.value q) w' := by
          intro q w' h
          rw [← run_ustr_congr ts pt ty _ _ ht] at h
          simp only [execOp, resolve, Sem.run_bind, Sem.run_pure, Result.andThen_ok, invoke, Go.builtin, hm0, h]
        have hnc := r2.int_inv
        subst hnc
        have hpv := r1.flat_ptr
        cases h0 : Nat.beq n 0 with
        | true =>
          rw [h0, cond_true] at hm
          rw [Nat.beq_eq] at h0
          subst h0
          simp only [Option.some.injEq, Prod.mk.injEq] at hm
          obtain ⟨rfl, rfl⟩ := hm
          refine ⟨_, w, ρ, φ, hexec ?_, .of_flat (.str ⟨⟨[]⟩⟩), fun h => .inr trivial, Post.refl hG, hsp⟩
          cases hpv with
          | nilp => exact Lib.run_unsafeString_none w pt pt ty none
          | ptr hr => exact Lib.run_unsafeString_none w pt pt ty _
        | false =>
          rw [h0, cond_false] at hm
          rw [← Bool.not_eq_true, Nat.beq_eq] at h0
          split at hm
          · rename_i i
            split at hm
            · rename_i ez t' cs hob
              cases hb : (Nat.beq t' t && Nat.ble n 9223372036854775807) with
              | false => rw [hb] at hm; cases hm
              | true =>
                rw [hb, cond_true] at hm
                simp only [Bool.and_eq_true, Nat.beq_eq, Nat.ble_eq] at hb
                obtain ⟨hb, h63⟩ := hb
                subst hb
                split at hm
                · rename_i l hl
                  cases hln : Nat.beq l.length n with
                  | false => rw [hln] at hm; cases hm
                  | true =>
                    rw [hln, cond_true] at hm
                    rw [Nat.beq_eq] at hln
                    simp only [Option.some.injEq, Prod.mk.injEq] at hm
                    obtain ⟨rfl, rfl⟩ := hm
                    obtain ⟨b, s', hbs, hobj⟩ := hG.rel i _ hob
                    obtain ⟨hF, hD, cs', e, f, c1, c2, c3, c4, c5⟩ := hobj
                    subst c5
                    cases hpv with
                    | ptr hr =>
                      rw [hbs] at hr; injection hr with hr; injection hr with e1 e2; subst e1
                      have hcs := bytesX_inv hl
                      have hlc : n ≤ cs.length := by
                        have := congrArg List.length hcs
                        simp only [List.length_take, List.length_map, hln] at this
                        omega
                      have hget : ∀ (j : Nat) (x : UInt8), l[j]? = some x → cs'[j]? = some (.int .u8 x.toNat) := by
                        intro j x hj
                        have hjl : j < n := by
                          rcases Nat.lt_or_ge j n with h | h
                          · exact h
                          · rw [List.getElem?_eq_none (by omega)] at hj; cases hj
                        have h1 : (cs.take n)[j]? = some (.int .u8 x.toNat) := by rw [hcs, List.getElem?_map, hj]; rfl
                        rw [List.getElem?_take_of_lt hjl] at h1
                        obtain ⟨y, h3, h4⟩ := all2_get c3 h1
                        rw [List.getElem?_take_of_lt (by omega)] at h3
                        cases h4
                        rw [← Array.getElem?_toList]; exact h3
                      have hrun := Lib.run_unsafeString_row (P := P) w pt pt ty e hpt hc b cs'.size (shape_of c1) l (by intro h; rw [h] at hln; exact h0 hln.symm) (by rw [hln, c2]; omega) (by omega)
                        (fun j x hj => by rw [add_addr, Nat.zero_add, cell_of c1]; exact hget j x hj)
                      refine ⟨.value (.string ⟨⟨l⟩⟩), w.freeze ⟨b, 0, none⟩ l.length, ρ, φ, hexec ?_, .of_flat (.str _), fun h => .inr trivial, ?_, Mem.sep_kill i hsp⟩
                      · rw [← hln]; exact hrun
                      · refine hG.lose (i := i) hob (Mem.kill_sub m i) ?_ ?_ ?_ ?_
                        · unfold World.freeze; split <;> simp
                        · unfold World.freeze; split <;> rfl
                        · unfold World.freeze; split <;> rfl
                        · intro c hc'
                          unfold World.freeze
                          split
                          · rfl
                          · rw [Array.getElem?_modify, if_neg]
                            exact fun e => hc' ((hF c).2 e.symm)
                · cases hm
            · cases hm
          · cases hm
  · cases hm
end
end Go.AI
