/- The evaluator's steps upon bytes, copies and appends are the model's. No program is named here. -/
import Derived.Test.YtleknndhobpjcaaGreatDoorAiStep
namespace Go.AI
variable {E : Ext} {P : Program} {W0 : World} {ρ : Ren} {φ : Foot} {m m' : Mem E.X} {w : World} {env : List (Nat × Value)} {a : Act}

theorem cellBytes_inv : ∀ {cs : List Value} {l : List UInt8}, cellBytes cs = some l → ∃ ns : List Nat, cs = ns.map (fun (n : Nat) => Value.int .u8 n) ∧ l = ns.map UInt8.ofNat
  | [], l, h => by simp only [cellBytes, Option.some.injEq] at h; subst h; exact ⟨[], rfl, rfl⟩
  | c :: cs, l, h => by
    unfold cellBytes at h
    split at h
    · rename_i heq; cases heq
    · rename_i n r heq
      injection heq with e1 e2; subst e1; subst e2
      simp only [Option.map_eq_some_iff] at h
      obtain ⟨l', h', rfl⟩ := h
      obtain ⟨ns, rfl, rfl⟩ := cellBytes_inv h'
      exact ⟨n :: ns, rfl, rfl⟩
    · cases h

theorem ints_same {ns : List Nat} {ys : List Value} (h : All2 (FR ρ) (ns.map (fun (n : Nat) => Value.int .u8 n)) ys) : ys = ns.map (fun (n : Nat) => Value.int .u8 n) := by
  induction ns generalizing ys with
  | nil => cases h; rfl
  | cons n ns ih =>
    cases h with
    | cons hf ht => cases hf; rw [ih ht]; rfl

theorem push_loop {f : Value → ByteArray → Sem (ForInStep ByteArray)} (hf : ∀ (n : Int) (s : ByteArray), f (.int .u8 n) s = pure (ForInStep.yield (s.push (UInt8.ofNat n.toNat)))) (ns : List Nat) :
    ∀ (s : ByteArray), (forIn (m := Sem) (ns.map (fun (n : Nat) => Value.int .u8 n)) s f).run P w = .ok ⟨⟨s.data.toList ++ ns.map UInt8.ofNat⟩⟩ w := by
  induction ns with
  | nil => intro s; simp
  | cons n ns ih =>
    intro s
    simp only [List.map_cons, List.forIn_cons, Sem.run_bind, hf, Sem.run_pure, Result.andThen_ok]
    rw [ih]
    simp

theorem step_b2s (s t : TypeId) (x : Operand) {e : TypeId} {d : Nat} {y : Opd} (hs1 : P.underlying s = some (.slice e)) (ht : P.underlying t = some .string) (he : P.underlying e = some (.int .u8)) (hx : mkOpd x = some y) :
    StepOk E P env a (.convert s t x) (.b2s d y) := by
  intro W0 ρ φ m m' v w hm hE hG hs dst ty pos af gd
  simp only [mstep] at hm
  split at hm
  · rename_i l c hq
    simp only [Option.some.injEq, Prod.mk.injEq] at hm
    obtain ⟨rfl, rfl⟩ := hm
    have hf := (opd_sound hx hq hE).flat_slice
    refine ⟨.value (.string ⟨⟨[]⟩⟩), w, ρ, φ, ?_, .of_flat (.str _), fun h => .inr trivial, Post.refl hG, hs⟩
    generalize hz : a.eval x = z at hf
    cases hf
    simp only [execOp, hz, convert, Sem.run_bind, run_under hs1, run_under ht, run_under he, Result.andThen_ok, Conv.bytesToString, Sem.run_pure]
    rfl
  · rename_i ad n c hq
    split at hm
    · rename_i cs hcs
      simp only [Option.map_eq_some_iff, Prod.mk.injEq] at hm
      obtain ⟨l, hl, rfl, rfl⟩ := hm
      have hf := (opd_sound hx hq hE).flat_slice
      obtain ⟨z, c', hz⟩ := hf.slice_shape
      rw [hz] at hf
      obtain ⟨r', l1, l2⟩ := loads_sound (P := P) hcs hG hf (by simp) (fun h => h)
      obtain ⟨ns, rfl, rfl⟩ := cellBytes_inv hl
      have := ints_same l2
      subst this
      refine ⟨.value (.string ⟨⟨ns.map UInt8.ofNat⟩⟩), w, ρ, φ, ?_, .of_flat (.str _), fun h => .inr trivial, Post.refl hG, hs⟩
      obtain ⟨zz, rfl⟩ : ∃ zz, z = some zz := by cases hf <;> exact ⟨_, rfl⟩
      simp only [execOp, hz, convert, Sem.run_bind, run_under hs1, run_under ht, run_under he, Result.andThen_ok, Conv.bytesToString, Sem.run_pure]
      simp only at l1
      rw [l1]
      simp only [Result.andThen_ok]
      rw [← Array.forIn_toList]
      rw [push_loop (fun n s => rfl) ns ByteArray.empty]
      simp
    · cases hm
  · cases hm

theorem bytes_cells_map (s : ByteArray) (n : Nat) : ((s.extract 0 n).data.map fun b => (Value.int .u8 b.toNat)) = ⟨byteCells (s.data.toList.take n)⟩ := by
  apply Array.ext'
  simp [byteCells, Array.toList_extract, List.map_take]

theorem store_slice {x x' : Option Addr} {i o l c l' c' : Nat} {sp : Option Nat} {vs vs' : List Value} (hx : x = some ⟨i, o, sp⟩) (hl : l ≠ 0) (hf : FR ρ (.slice x l c) (.slice x' l' c')) (h : m.store ⟨i, o, none⟩ vs = some m') (g : Good (E := E) W0 ρ φ m.get m.next w) (hs : m.Sep) (hv : All2 (FR ρ) vs vs') :
    ∃ b w', x' = some b ∧ (storeCells b vs').run P w = .ok () w' ∧ Post W0 ρ φ m.get m.next w ρ φ m'.get m'.next w' ∧ m'.Sep := by
  subst hx
  cases hf with
  | slc hr => obtain ⟨w', k1, k2, k3⟩ := store_sound (P := P) h g hs (.ptr hr) hv; exact ⟨_, w', rfl, k1, k2, k3⟩
  | slx hr => obtain ⟨w', k1, k2, k3⟩ := store_sound (P := P) h g hs (.ptr hr) hv; exact ⟨_, w', rfl, k1, k2, k3⟩
  | slz hr => exact (hl rfl).elim

theorem loads_none {n : Nat} {r : List Value} (h : m.loads none n = some r) : n = 0 := by
  unfold Mem.loads at h
  cases hb : Nat.beq n 0 with
  | true => rw [Nat.beq_eq] at hb; exact hb
  | false => rw [hb] at h; cases h

theorem step_copy (ts : Array TypeId) (as : Array Operand) {t e : TypeId} {d k : Nat} {x y : Opd} (ht : ts[0]? = some t) (hu : P.underlying t = some (.slice e)) (hk : sizeT P e = some k) (hk0 : k ≠ 0) (hxs : mkOpds as.toList = some [x, y]) :
    StepOk E P env a (.call ⟨.builtin .copy, as, ts⟩) (.copy d k x y) := by
  intro W0 ρ φ m m' v w hm hE hG hs dst ty pos af gd
  simp only [mstep] at hm
  split at hm
  · rename_i ad dl dc val hx hy
    have hall := opds_sound (a := a) hxs (show evs env [x, y] = some [.slice ad dl dc, val] by simp [evs, hx, hy]) hE
    have hm0 := map_toList (a := a) (as := as) rfl
    generalize as.toList.map a.eval = ws at hall hm0
    cases hall with
    | cons r1 rest =>
      cases rest with
      | cons r2 rest2 =>
        cases rest2
        rename_i xv yv
        have hf := r1.flat_slice
        obtain ⟨b, dc', rfl⟩ := hf.slice_shape
        have hexec : ∀ {q : Value} {w' : World}, (Builtin.copy_ ts ty ⟨[.slice b dl dc', yv]⟩).run P w = .ok q w' → (execOp a.eval ⟨dst, .call ⟨.builtin .copy, as, ts⟩, ty, pos, af, gd⟩).run P w = .ok (.value q) w' := by
          intro q w' h
          simp only [execOp, resolve, Sem.run_bind, Sem.run_pure, Result.andThen_ok, invoke, Go.builtin, hm0, h]
        split at hm
        · rename_i s
          cases r2.str_inv
          have hcopy : ∀ {w' : World} , (match b with | some b => (storeCells b (byteCells (s.data.toList.take dl))).run P w | none => Result.ok () w) = .ok () w' →
              (Builtin.copy_ ts ty ⟨[.slice b dl dc', .string s]⟩).run P w = .ok (.int .i64 (Int.ofNat (Nat.min s.data.toList.length dl))) w' := by
            intro w' h
            have hmin : Nat.min s.size dl = Nat.min s.data.toList.length dl := by simp
            have hcells : ((s.extract 0 (Nat.min s.data.toList.length dl)).data.map fun b => (Value.int .u8 b.toNat)) = ⟨byteCells (s.data.toList.take dl)⟩ := by
              rw [bytes_cells_map]
              congr 2
              rw [List.take_eq_take_iff]
              show min (min _ dl) _ = _
              omega
            have g0 : (⟨[Value.slice b dl dc', Value.string s]⟩ : Array Value)[0]? = some (.slice b dl dc') := by rw [arr_get]; rfl
            have g1 : (⟨[Value.slice b dl dc', Value.string s]⟩ : Array Value)[1]? = some (.string s) := by rw [arr_get]; rfl
            simp only [Builtin.copy_, ht, g0, g1, Sem.run_bind, run_under hu, Result.andThen_ok, Builtin.lenOf, Sem.run_pure, run_size hk, hmin, Builtin.firstCells, hcells]
            cases b with
            | none => simp only at h; injection h with _ h; subst h; rfl
            | some b => simp only at h; simp only [Sem.run_bind, h, Result.andThen_ok, Sem.run_pure]; rfl
          cases hb : Nat.beq (byteCells (s.data.toList.take dl)).length 0 with
          | true =>
            rw [hb, cond_true] at hm
            rw [Nat.beq_eq] at hb
            simp only [Option.some.injEq, Prod.mk.injEq] at hm
            obtain ⟨rfl, rfl⟩ := hm
            have h0 : byteCells (s.data.toList.take dl) = [] := List.eq_nil_of_length_eq_zero hb
            have h0' : Nat.min s.data.toList.length dl = 0 := by
              simp only [byteCells, List.length_map, List.length_take] at hb
              show min _ _ = 0
              omega
            refine ⟨.value (.int .i64 (Int.ofNat (Nat.min s.data.toList.length dl))), w, ρ, φ, hexec (hcopy ?_), by rw [h0']; exact .of_flat (.int _ _), fun h => .inr trivial, Post.refl hG, hs⟩
            rw [h0]
            cases b <;> rfl
          | false =>
            rw [hb, cond_false] at hm
            have hdl : dl ≠ 0 := by
              intro e; subst e; simp [byteCells] at hb
            split at hm
            · rename_i i o sp
              simp only [Option.map_eq_some_iff, Prod.mk.injEq] at hm
              obtain ⟨m1, h1, rfl, rfl⟩ := hm
              obtain ⟨b', w', rfl, k1, k2, k3⟩ := store_slice (P := P) rfl hdl hf h1 hG hs (byte_cells _)
              exact ⟨.value (.int .i64 (Int.ofNat (Nat.min s.data.toList.length dl))), w', ρ, φ, hexec (hcopy k1), .of_flat (.int _ _), fun h => .inr trivial, k2, k3⟩
            · cases hm
        · rename_i sb sl sc
          have hf2 := r2.flat_slice
          obtain ⟨b2, sc', rfl⟩ := hf2.slice_shape
          have ek : (bif Nat.ble sl dl then sl else dl) = Nat.min sl dl := by
            cases hb : Nat.ble sl dl with
            | true => rw [Nat.ble_eq] at hb; show sl = min sl dl; omega
            | false => have : ¬ sl ≤ dl := fun h => by rw [← Nat.ble_eq] at h; rw [h] at hb; cases hb
                       show dl = min sl dl; omega
          simp only [ek] at hm
          have hcopy : ∀ {cs : List Value} {w' : World}, (match b2 with | some b => (loadCells b (Nat.min sl dl * k)).run P w | none => Result.ok #[] w) = .ok ⟨cs⟩ w → (match b with | some b => (storeCells b cs).run P w | none => Result.ok () w) = .ok () w' →
              (Builtin.copy_ ts ty ⟨[.slice b dl dc', .slice b2 sl sc']⟩).run P w = .ok (.int .i64 (Int.ofNat (Nat.min sl dl))) w' := by
            intro cs w' h1 h2
            have g0 : (⟨[Value.slice b dl dc', Value.slice b2 sl sc']⟩ : Array Value)[0]? = some (.slice b dl dc') := by rw [arr_get]; rfl
            have g1 : (⟨[Value.slice b dl dc', Value.slice b2 sl sc']⟩ : Array Value)[1]? = some (.slice b2 sl sc') := by rw [arr_get]; rfl
            have hfc : (Builtin.firstCells k (Nat.min sl dl) (.slice b2 sl sc')).run P w = .ok ⟨cs⟩ w := by
              cases b2 with
              | none => exact h1
              | some b2 => exact h1
            simp only [Builtin.copy_, ht, g0, g1, Sem.run_bind, run_under hu, Result.andThen_ok, Builtin.lenOf, Sem.run_pure, run_size hk, hfc]
            cases b with
            | none => simp only at h2; injection h2 with _ h2; subst h2; rfl
            | some b => simp only at h2; simp only [Sem.run_bind, h2, Result.andThen_ok, Sem.run_pure]; rfl
          cases hb : Nat.beq (Nat.min sl dl) 0 with
          | true =>
            rw [hb, cond_true] at hm
            rw [Nat.beq_eq] at hb
            simp only [Option.some.injEq, Prod.mk.injEq] at hm
            obtain ⟨rfl, rfl⟩ := hm
            refine ⟨.value (.int .i64 (Int.ofNat (Nat.min sl dl))), w, ρ, φ, hexec (hcopy (cs := []) ?_ ?_), by rw [hb]; exact .of_flat (.int _ _), fun h => .inr trivial, Post.refl hG, hs⟩
            · rw [hb, Nat.zero_mul]; cases b2 <;> rfl
            · cases b <;> rfl
          | false =>
            rw [hb, cond_false] at hm
            have hne : Nat.min sl dl ≠ 0 := fun e => by rw [e] at hb; simp at hb
            have hmin : min sl dl = Nat.min sl dl := rfl
            split at hm
            · rename_i i o sp src hsrc
              simp only [Option.map_eq_some_iff, Prod.mk.injEq] at hm
              obtain ⟨m1, h1, rfl, rfl⟩ := hm
              have hnk : Nat.min sl dl * k ≠ 0 := Nat.mul_ne_zero hne hk0
              obtain ⟨r', l1, l2⟩ := loads_sound (P := P) hsrc hG hf2 (fun e => loads_none (e ▸ hsrc)) (fun _ h => hne (by show min sl dl = 0; omega))
              obtain ⟨b', w', rfl, k1, k2, k3⟩ := store_slice (P := P) rfl (fun h => hne (by show min sl dl = 0; omega)) hf h1 hG hs l2
              exact ⟨.value (.int .i64 (Int.ofNat (Nat.min sl dl))), w', ρ, φ, hexec (hcopy l1 k1), .of_flat (.int _ _), fun h => .inr trivial, k2, k3⟩
            · cases hm
        · cases hm
  · cases hm

theorem zeroCells_rows (z : List Value) (n : Nat) : (Builtin.zeroCells ⟨z⟩ n).toList = rows n z := by
  by_cases h : z.length = 0
  · have hz : z = [] := List.eq_nil_of_length_eq_zero h
    subst hz
    simp [Builtin.zeroCells, rows]
  · have := rows_model n (⟨z⟩ : Array Value) (.inl h)
    unfold Builtin.zeroCells
    rw [this]

theorem step_clear (ts : Array TypeId) (as : Array Operand) {t e : TypeId} {d k : Nat} {z : List Value} {x : Opd} (ht : ts[0]? = some t) (hu : P.underlying t = some (.slice e)) (hz : zeroOf P e = some z) (hxs : mkOpds as.toList = some [x]) :
    StepOk E P env a (.call ⟨.builtin .clear, as, ts⟩) (.clear d k z x) := by
  intro W0 ρ φ m m' v w hm hE hG hs dst ty pos af gd
  obtain ⟨yo, hyo, hx⟩ := mkOpds_one hxs
  have hm0 : as.map a.eval = ⟨[a.eval yo]⟩ := map_toList (by rw [hyo]; rfl)
  simp only [mstep] at hm
  split at hm
  · rename_i ad n c hq
    have hf := (opd_sound hx hq hE).flat_slice
    obtain ⟨b, c', hb⟩ := hf.slice_shape
    rw [hb] at hf hm0
    have hexec : ∀ {q : Value} {w' : World}, (Builtin.clear_ ts ty ⟨[.slice b n c']⟩).run P w = .ok q w' → (execOp a.eval ⟨dst, .call ⟨.builtin .clear, as, ts⟩, ty, pos, af, gd⟩).run P w = .ok (.value q) w' := by
      intro q w' h
      simp only [execOp, resolve, Sem.run_bind, Sem.run_pure, Result.andThen_ok, invoke, Go.builtin, hm0, h]
    have g0 : (⟨[Value.slice b n c']⟩ : Array Value)[0]? = some (.slice b n c') := by rw [arr_get]; rfl
    cases hn : Nat.beq n 0 with
    | true =>
      rw [hn, cond_true] at hm
      rw [Nat.beq_eq] at hn; subst hn
      simp only [Option.some.injEq, Prod.mk.injEq] at hm
      obtain ⟨rfl, rfl⟩ := hm
      refine ⟨.value (.tuple ⟨[]⟩), w, ρ, φ, hexec ?_, .tup .nil, fun h => .inr trivial, Post.refl hG, hs⟩
      simp only [Builtin.clear_, ht, g0, Sem.run_bind, run_under hu, Result.andThen_ok]
      cases b <;> rfl
    | false =>
      rw [hn, cond_false] at hm
      have hn0 : n ≠ 0 := fun e => by rw [e] at hn; simp at hn
      split at hm
      · rename_i i o sp
        simp only [Option.map_eq_some_iff, Prod.mk.injEq] at hm
        obtain ⟨m1, h1, rfl, rfl⟩ := hm
        obtain ⟨zv, z1, z2, z3, z4⟩ := run_zero (ρ := ρ) (w := w) hz
        have hz' : zv.cells = ⟨z⟩ := Array.ext' z2
        obtain ⟨b', w', rfl, k1, k2, k3⟩ := store_slice (P := P) rfl hn0 hf h1 hG hs (rows_all2 (n := n) z3)
        refine ⟨.value (.tuple ⟨[]⟩), w', ρ, φ, hexec ?_, .tup .nil, fun h => .inr trivial, k2, k3⟩
        obtain ⟨n', rfl⟩ : ∃ n', n = n' + 1 := ⟨n - 1, by omega⟩
        simp only [Builtin.clear_, ht, g0, Sem.run_bind, run_under hu, Result.andThen_ok, z1, hz', zeroCells_rows, k1, Sem.run_pure]
      · cases hm
  · cases hm

end Go.AI
