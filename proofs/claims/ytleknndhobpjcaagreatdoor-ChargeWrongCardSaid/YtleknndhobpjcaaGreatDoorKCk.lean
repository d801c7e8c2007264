/- What a call has made, and nobody sees any more, is forgotten. No program is named here. -/
import Derived.Test.YtleknndhobpjcaaGreatDoorAiBase
import Derived.Test.YtleknndhobpjcaaGreatDoorKArC
import Derived.Test.YtleknndhobpjcaaGreatDoorIfn2
import Derived.Test.YtleknndhobpjcaaGreatDoorAw1
import Derived.Test.YtleknndhobpjcaaGreatDoorAw8
import Derived.Test.YtleknndhobpjcaaGreatDoorStart
namespace Go.AI

theorem All2.down {α β : Type} {R R' : α → β → Prop} (h : ∀ a b c, R a b → R' a c → R a c) : ∀ {x y z}, All2 R x y → All2 R' x z → All2 R x z
  | _, _, _, .nil, .nil => .nil
  | _, _, _, .cons a t, .cons a' t' => .cons (h _ _ _ a a') (t.down h t')
theorem AR.down {ρ ρ' : Ren} (hle : ρ.le ρ') {a b c : Addr} (h : AR ρ a b) (h' : AR ρ' a c) : AR ρ a c := by
  cases h with
  | mk e =>
    cases h' with
    | mk e' =>
      have := hle _ _ e
      rw [this] at e'
      injection e' with e'; injection e' with e1 e2
      subst e1
      exact .mk e
theorem ptr_map_inj : ∀ {x y : List Addr}, x.map (fun a => Value.pointer (some a)) = y.map (fun a => Value.pointer (some a)) → x = y
  | [], [], _ => rfl
  | [], _ :: _, h => by simp at h
  | _ :: _, [], h => by simp at h
  | a :: x, b :: y, h => by
    simp only [List.map_cons, List.cons.injEq, Value.pointer.injEq, Option.some.injEq] at h
    rw [h.1, ptr_map_inj h.2]
theorem FR.down {ρ ρ' : Ren} (hle : ρ.le ρ') {a b c : Value} (h : FR ρ a b) (h' : FR ρ' a c) : FR ρ a c := by
  cases h with
  | bool x => cases h'; exact .bool x
  | int k n => cases h'; exact .int k n
  | str s => cases h'; exact .str s
  | nilp => cases h'; exact .nilp
  | ptr e =>
    cases h' with
    | ptr e' =>
      rw [hle _ _ e] at e'
      injection e' with e'; injection e' with e1 e2
      subst e1
      exact .ptr e
  | nils l c => cases h'; exact .nils l c
  | slc e =>
    cases h' with
    | slc e' =>
      rw [hle _ _ e] at e'
      injection e' with e'; injection e' with e1 e2
      subst e1; subst e2
      exact .slc e
  | slx e =>
    cases h' with
    | slx e' =>
      rw [hle _ _ e] at e'
      injection e' with e'; injection e' with e1 e2
      subst e1
      exact .slx e
  | slz e =>
    cases h' with
    | slz e' =>
      rw [hle _ _ e] at e'
      injection e' with e'; injection e' with e1 e2
      subst e1
      exact .slz e
  | nilm => cases h'; exact .nilm
  | mp e =>
    cases h' with
    | mp e' =>
      rw [hle _ _ e] at e'
      injection e' with e'; injection e' with e1 e2
      subst e1
      exact .mp e
  | nilf => cases h'; exact .nilf
  | nili => cases h'; exact .nili
  | tok e =>
    cases h' with
    | tok e' =>
      rw [hle _ _ e] at e'
      injection e' with e'; injection e' with e1 e2
      subst e1; subst e2
      exact .tok e
  | fn f hcs =>
    rename_i cs ds
    generalize hx : Value.func (.func f) #[] ⟨cs.map fun a => .pointer (some a)⟩ = x at h'
    cases h' with
    | fn f' hcs' =>
      rename_i cs2 ds2
      injection hx with e1 e2 e3
      injection e1 with e1
      injection e3 with e3
      have e4 := ptr_map_inj e3
      subst e4; subst e1
      exact .fn _ (All2.down (R := AR ρ) (R' := AR ρ') (fun _ _ _ r r' => AR.down hle r r') hcs hcs')
    | _ => cases hx
theorem XR.down {ρ ρ' : Ren} (hle : ρ.le ρ') {a b c : Value} (h : XR ρ a b) (h' : XR ρ' a c) : XR ρ a c := by
  cases h with
  | flat r =>
    cases h' with
    | flat r' => exact .flat (r.down hle r')
    | agg h => cases r
  | agg h =>
    cases h' with
    | flat r => cases r
    | agg h' => exact .agg (All2.down (R := FR ρ) (R' := FR ρ') (fun _ _ _ r r' => FR.down hle r r') h h')
variable {E : Ext}
theorem ObjR.down {ρ ρ' : Ren} (hle : ρ.le ρ') {o : AObj E.X} {b s : Nat} {F D F' D' : Nat → Prop} {w w' : World} (h : ObjR E ρ o b s F D w) (h' : ObjR E ρ' o b s F' D' w') : ObjR E ρ o b s F' D' w' := by
  cases o with
  | cells cs =>
    obtain ⟨_, _, _, _, _, _, _, a1, _⟩ := h
    obtain ⟨h1, h2, h3, cs', e, f, h4, a2, h6⟩ := h'
    exact ⟨h1, h2, h3, cs', e, f, h4, All2.down (R := FR ρ) (R' := FR ρ') (fun _ _ _ r r' => FR.down hle r r') a1 a2, h6⟩
  | typed t cs =>
    obtain ⟨_, _, _, _, _, _, _, a1, _⟩ := h
    obtain ⟨h1, h2, h3, cs', e, f, h4, a2, h6⟩ := h'
    exact ⟨h1, h2, h3, cs', e, f, h4, All2.down (R := FR ρ) (R' := FR ρ') (fun _ _ _ r r' => FR.down hle r r') a1 a2, h6⟩
  | grown ez t cs =>
    obtain ⟨_, _, _, _, _, _, _, a1, _⟩ := h
    obtain ⟨h2, h3, cs', e, f, h4, h5, a2, h7⟩ := h'
    exact ⟨h2, h3, cs', e, f, h4, h5, All2.down (R := FR ρ) (R' := FR ρ') (fun _ _ _ r r' => FR.down hle r r') a1 a2, h7⟩
  | ro cs =>
    obtain ⟨_, _, _, _, _, _, a1⟩ := h
    obtain ⟨h2, h3, cs', e, f, h4, a2⟩ := h'
    exact ⟨h2, h3, cs', e, f, h4, All2.down (R := FR ρ) (R' := FR ρ') (fun _ _ _ r r' => FR.down hle r r') a1 a2⟩
  | map es clock =>
    obtain ⟨_, _, _, _, a1⟩ := h
    obtain ⟨h2, h3, es', h4, a2⟩ := h'
    exact ⟨h2, h3, es', h4, a1.down (fun _ _ _ r r' => ⟨r.1.down hle r'.1, r.2.1.down hle r'.2.1, r'.2.2⟩) a2⟩
  | ext x => exact h'

/-- What was seen at first is as it was: all else is forgotten. -/
theorem Post.forget {W0 : World} {ρ ρ' : Ren} {φ φ' : Foot} {V V' : View E} {n n' : Nat} {w w' : World} (g : Good W0 ρ φ V n w) (p : Post W0 ρ φ V n w ρ' φ' V' n' w') (hV : ∀ i o, V i = some o → V' i = some o) : Post W0 ρ φ V n w ρ φ' V n w' where
  good := ⟨g.dom, fun i o hi => by
      obtain ⟨b, s, h1, h2⟩ := p.good.rel i o (hV i o hi)
      obtain ⟨b', s', h3, h4⟩ := g.rel i o hi
      rw [p.le _ _ h3] at h1
      injection h1 with h1; injection h1 with e1 e2
      subst e1; subst e2
      exact ⟨b', s', h3, h4.down p.le h2⟩,
    fun i j oi oj b hi hj => p.good.dis i j oi oj b (hV _ _ hi) (hV _ _ hj), fun i o b hi => p.good.sub i o b (hV _ _ hi), fun i o b hi => p.good.lts i o b (hV _ _ hi), fun i o b hi => p.good.frs i o b (hV _ _ hi), p.good.size, p.good.base, p.good.os, p.good.out⟩
  le := Ren.le_refl ρ
  nle := Nat.le_refl n
  sz := p.sz
  keep := p.keep
  fF := fun i o c hi hc => p.fF i o c (hV _ _ hi) hc
  fD := fun i o c hi hc => p.fD i o c (hV _ _ hi) hc
  ids := fun i o hi => .inr ⟨o, hi⟩
  old := fun _ _ => rfl
end Go.AI
/- What the functions above the arena do where an address is not known: a view's making; a chunk's header that is not there. -/
namespace Go.AI
open Go.Proofs

def hk1 : Hook Ar := hookL hAr
/-- At the upper level. -/
noncomputable def R1 (n : Nat) : CallFn Ar := run FA (fun _ => false) hk1 n
theorem R1_ok {W0 : World} {Cls : Nat → Int → Prop} {n : Nat} : CallsOk (Ext1 Cls) PZ W0 (R1 n) := run_sound (esc := escA) mixedZ (hookL_ok hAr_ok) n

theorem hk1_none {k : Nat} (h : k ≠ 83 ∧ k ≠ 84 ∧ k ≠ 109 ∧ k ≠ 117 ∧ k ≠ 129 ∧ k ≠ 211 ∧ k ≠ 238 ∧ k ≠ 249 ∧ k ≠ 269) : hk1 k = none := by
  obtain ⟨h1, h2, h3, h4, h5, h6, h7, h8, h9⟩ := h
  simp only [hk1, hAr, hookL, beq_no h1, beq_no h2, beq_no h3, beq_no h4, beq_no h5, beq_no h6, beq_no h7, beq_no h8, beq_no h9, cond_false]

theorem upd_same {X : Type} {t : List (Nat × AObj X)} {i : Nat} {o : AObj X} (h : look i t = some o) (k : Nat) : look k (upd i o t) = look k t := by
  rw [look_upd]
  split
  · rename_i e; subst e; rw [h]; rfl
  · rfl
theorem keep_same {X : Type} {t : List (Nat × AObj X)} {n i : Nat} {o : AObj X} (hf : Fresh t n) (h : look i t = some o) : Keep t n (upd i o t) n := ⟨hf.upd, Nat.le_refl _, fun k _ => upd_same h k⟩

theorem bytes_at {n i : Nat} {x : Ar} {a k : Int} {v : Value} {h : Hp Ar} (hA : look i h.tbl = some (.ext x)) (hrf : x.refuse < 9223372036854775808) (hs : bytesS x [.int .i64 a, .int .i64 k] = some (v, x)) (hp : plainV v = true) :
    R1 (n + 1) 109 [.pointer (some ⟨i, 0, none⟩), .int .i64 a, .int .i64 k] h = some (v, ⟨upd i (.ext x) h.tbl, h.next⟩) := by
  have hh : hk1 109 = some (methH bytesS) := rfl
  unfold R1
  rw [run_hook hh]
  have hpl : (List.all [Value.int .i64 a, Value.int .i64 k] plainV) = true := rfl
  have hrf' : Nat.blt x.refuse 9223372036854775808 = true := by rw [blt_iff]; exact decide_eq_true hrf
  simp only [methH, hA, hpl, hrf', Bool.and_self, cond_true, hs, hp]
theorem load_at {n i : Nat} {x : Ar} {a k : Int} {v : Value} {h : Hp Ar} (hA : look i h.tbl = some (.ext x)) (hrf : x.refuse < 9223372036854775808) (hs : loadS x [.int .i64 a, .int .i64 k] = some (v, x)) (hp : plainV v = true) :
    R1 (n + 1) 238 [.pointer (some ⟨i, 0, none⟩), .int .i64 a, .int .i64 k] h = some (v, ⟨upd i (.ext x) h.tbl, h.next⟩) := by
  have hh : hk1 238 = some (methH loadS) := rfl
  unfold R1
  rw [run_hook hh]
  have hpl : (List.all [Value.int .i64 a, Value.int .i64 k] plainV) = true := rfl
  have hrf' : Nat.blt x.refuse 9223372036854775808 = true := by rw [blt_iff]; exact decide_eq_true hrf
  simp only [methH, hA, hpl, hrf', Bool.and_self, cond_true, hs, hp]

theorem bytesS_no {x : Ar} {a k : Int} (h : checkA x.pages a k ≠ 0) : bytesS x [.int .i64 a, .int .i64 k] = some (.tuple ⟨[.string ⟨⟨[]⟩⟩, errV 3]⟩, x) := by
  unfold bytesS
  cases a with
  | negSucc a => rfl
  | ofNat a =>
    cases k with
    | negSucc k => rfl
    | ofNat k =>
      dsimp only
      cases hc : checkN x.pages a k with
      | zero => exact (h hc).elim
      | succ m => rfl
theorem bytesS_yes {x : Ar} {a k : Nat} (h : checkN x.pages a k = 0) : bytesS x [.int .i64 (Int.ofNat a), .int .i64 (Int.ofNat k)] = some (.tuple ⟨[.string ⟨⟨bytesA x.pages (fuelA k) a k⟩⟩, errV 0]⟩, x) := by
  unfold bytesS
  dsimp only
  rw [h]

abbrev vwV (i : Nat) (a s : Int) : Value := .agg ⟨[.pointer (some ⟨i, 0, none⟩), .int .i64 a, .int .i64 s]⟩
abbrev vw0 : Value := .agg ⟨[.pointer none, .int .i64 (.ofNat 0), .int .i64 (.ofNat 0)]⟩
abbrev ck0 : Value := .agg ⟨[.int .i64 (.ofNat 0), .int .i64 (.ofNat 0), .int .u64 (.ofNat 0), .int .i64 (.ofNat 0)]⟩

theorem of_no {n i : Nat} {x : Ar} {a k : Int} {h : Hp Ar} (hf : Fresh h.tbl h.next) (hA : look i h.tbl = some (.ext x)) (hrf : x.refuse < 9223372036854775808) (hc : checkA x.pages a k ≠ 0) :
    ∃ v h', R1 (n + 2) 17 [.pointer (some ⟨i, 0, none⟩), .int .i64 a, .int .i64 k] h = some (v, h') ∧ (v = .tuple ⟨[vw0, errV 3]⟩ ∧ Keep h.tbl h.next h'.tbl h'.next) := by
  refine run_fn (hk1_none (by decide)) f17 (by simp [i17]) ?_
  dsimp only [i17, argsE]
  have k1 := Keep.new hf (.cells [.pointer none, .int .i64 (.ofNat 0), .int .i64 (.ofNat 0)])
  have hlt : i < h.next := by
    rcases Nat.lt_or_ge i h.next with q | q
    · exact q
    · have := hf i q; rw [hA] at this; cases this
  have hA1 : look i ((h.next, .cells [.pointer none, .int .i64 (.ofNat 0), .int .i64 (.ofNat 0)]) :: h.tbl) = some (.ext x) := (look_old (by omega)).trans hA
  refine WC.seq (WC.ops (WO.new (WO.mv rfl (WO.nil (thenC_norm (WC.seq (WC.seq (WC.ops ?_))))))))
  refine WO.mv rfl (WO.mv rfl (WO.mv rfl (WO.fcall rfl rfl (bytes_at (n := n) (h := ⟨_, _⟩) hA1 hrf (bytesS_no hc) rfl) ?_)))
  have k2 := k1.trans (keep_same k1.fr hA1)
  have h6 : look h.next (upd i (.ext x) ((h.next, .cells [.pointer none, .int .i64 (.ofNat 0), .int .i64 (.ofNat 0)]) :: h.tbl)) = some (.cells [.pointer none, .int .i64 (.ofNat 0), .int .i64 (.ofNat 0)]) := (upd_same hA1 _).trans look_new
  refine WO.mv rfl (WO.pure rfl (WO.pure rfl (WO.mv rfl (WO.mv rfl (WO.nil (thenC_norm (WC.seq (WC.ops ?_))))))))
  refine WO.mv rfl (WO.neqS rfl rfl (fun _ => ?_) (fun he => by cases he))
  refine WO.nil (WC.cond_true rfl (WC.seq (WC.ops ?_)))
  refine WO.pure rfl (WO.mv rfl (WO.store (ob' := .cells [.pointer none, .int .i64 (.ofNat 0), .int .i64 (.ofNat 0)]) rfl rfl rfl rfl h6 rfl (by show (3 : Nat) ≤ 3; exact Nat.le_refl _) rfl (WO.mv rfl (WO.nil (thenC_norm (WC.ret ?_))))))
  exact ⟨[vw0, errV 3], _, resV_cell rfl (mem_load (look_upd_same h6) rfl rfl) rfl (resV_tmp rfl rfl), rfl, rfl, k2.upd (Nat.le_refl _)⟩
theorem of_yes {n i : Nat} {x : Ar} {a k : Nat} {h : Hp Ar} (hf : Fresh h.tbl h.next) (hA : look i h.tbl = some (.ext x)) (hrf : x.refuse < 9223372036854775808) (hc : checkN x.pages a k = 0) :
    ∃ v h', R1 (n + 2) 17 [.pointer (some ⟨i, 0, none⟩), .int .i64 (Int.ofNat a), .int .i64 (Int.ofNat k)] h = some (v, h') ∧ (v = .tuple ⟨[vwV i (Int.ofNat a) (Int.ofNat k), errV 0]⟩ ∧ Keep h.tbl h.next h'.tbl h'.next) := by
  refine run_fn (hk1_none (by decide)) f17 (by simp [i17]) ?_
  dsimp only [i17, argsE]
  have k1 := Keep.new hf (.cells [.pointer none, .int .i64 (.ofNat 0), .int .i64 (.ofNat 0)])
  have hlt : i < h.next := by
    rcases Nat.lt_or_ge i h.next with q | q
    · exact q
    · have := hf i q; rw [hA] at this; cases this
  have hA1 : look i ((h.next, .cells [.pointer none, .int .i64 (.ofNat 0), .int .i64 (.ofNat 0)]) :: h.tbl) = some (.ext x) := (look_old (by omega)).trans hA
  refine WC.seq (WC.ops (WO.new (WO.mv rfl (WO.nil (thenC_norm (WC.seq (WC.seq (WC.ops ?_))))))))
  refine WO.mv rfl (WO.mv rfl (WO.mv rfl (WO.fcall rfl rfl (bytes_at (n := n) (h := ⟨_, _⟩) hA1 hrf (bytesS_yes hc) rfl) ?_)))
  have k2 := k1.trans (keep_same k1.fr hA1)
  have h6 : look h.next (upd i (.ext x) ((h.next, .cells [.pointer none, .int .i64 (.ofNat 0), .int .i64 (.ofNat 0)]) :: h.tbl)) = some (.cells [.pointer none, .int .i64 (.ofNat 0), .int .i64 (.ofNat 0)]) := (upd_same hA1 _).trans look_new
  refine WO.mv rfl (WO.pure rfl (WO.pure rfl (WO.mv rfl (WO.mv rfl (WO.nil (thenC_norm (WC.seq (WC.ops ?_))))))))
  refine WO.mv rfl (WO.neqS rfl rfl (fun hne => (hne rfl).elim) (fun _ => ?_))
  refine WO.nil (WC.cond_false rfl (WC.skip (thenC_norm (WC.seq (WC.ops ?_)))))
  refine WO.mv rfl (WO.mv rfl (WO.mv rfl (WO.pure rfl (WO.store (ob' := .cells [.pointer (some ⟨i, 0, none⟩), .int .i64 (Int.ofNat a), .int .i64 (Int.ofNat k)]) rfl rfl rfl rfl h6 rfl (by show (3 : Nat) ≤ 3; exact Nat.le_refl _) rfl (WO.mv rfl (WO.nil (thenC_norm (WC.ret ?_))))))))
  exact ⟨[vwV i (Int.ofNat a) (Int.ofNat k), errV 0], _, resV_cell rfl (mem_load (look_upd_same h6) rfl rfl) rfl (resV_tmp rfl rfl), rfl, rfl, k2.upd (Nat.le_refl _)⟩

/-- chunk.Read where no bytes are. -/
theorem read_no {n i : Nat} {x : Ar} {a : Int} {h : Hp Ar} (hf : Fresh h.tbl h.next) (hA : look i h.tbl = some (.ext x)) (hrf : x.refuse < 9223372036854775808) (hc : checkA x.pages a (Int.ofNat 32) ≠ 0) :
    ∃ v h', R1 (n + 3) 157 [.pointer (some ⟨i, 0, none⟩), .int .i64 a] h = some (v, h') ∧ (v = .tuple ⟨[ck0, errV 3]⟩ ∧ Keep h.tbl h.next h'.tbl h'.next) := by
  refine run_fn (hk1_none (by decide)) f157 (by simp [i157]) ?_
  dsimp only [i157, argsE]
  have hlt : i < h.next := by
    rcases Nat.lt_or_ge i h.next with q | q
    · exact q
    · have := hf i q; rw [hA] at this; cases this
  have k1 := Keep.new hf (.cells [.int .i64 (.ofNat 0), .int .i64 (.ofNat 0), .int .u64 (.ofNat 0), .int .i64 (.ofNat 0)])
  have hA1 : look i ((h.next, .cells [.int .i64 (.ofNat 0), .int .i64 (.ofNat 0), .int .u64 (.ofNat 0), .int .i64 (.ofNat 0)]) :: h.tbl) = some (.ext x) := (look_old (by omega)).trans hA
  refine WC.seq (WC.ops (WO.new (WO.mv rfl (WO.nil (thenC_norm (WC.seq (WC.ops ?_)))))))
  refine WO.mv rfl (WO.mv rfl (WO.fcall_ex rfl rfl (of_no (n := n) (h := ⟨_, _⟩) k1.fr hA1 hrf hc) ?_))
  rintro v2 ⟨tb2, nx2⟩ ⟨rfl, k2⟩
  have hnx : h.next + 1 ≤ nx2 := k2.le
  have h4 : look h.next tb2 = some (.cells [.int .i64 (.ofNat 0), .int .i64 (.ofNat 0), .int .u64 (.ofNat 0), .int .i64 (.ofNat 0)]) := (k2.same h.next (by show h.next < h.next + 1; omega)).trans look_new
  have kA := k1.trans k2
  have k3 := Keep.new kA.fr (.cells [.pointer none, .int .i64 (.ofNat 0), .int .i64 (.ofNat 0)])
  refine WO.mv rfl (WO.pure rfl (WO.pure rfl (WO.new (WO.store (ob' := .cells [.pointer none, .int .i64 (.ofNat 0), .int .i64 (.ofNat 0)]) rfl rfl rfl rfl look_new rfl (by show (3 : Nat) ≤ 3; exact Nat.le_refl _) rfl (WO.mv rfl (WO.nil (thenC_norm (WC.seq (WC.seq (WC.ops ?_))))))))))
  refine WO.mv rfl (WO.neqS rfl rfl (fun _ => ?_) (fun he => by cases he))
  have h4' : look h.next (upd nx2 (.cells [.pointer none, .int .i64 (.ofNat 0), .int .i64 (.ofNat 0)]) ((nx2, .cells [.pointer none, .int .i64 (.ofNat 0), .int .i64 (.ofNat 0)]) :: tb2)) = some (.cells [.int .i64 (.ofNat 0), .int .i64 (.ofNat 0), .int .u64 (.ofNat 0), .int .i64 (.ofNat 0)]) := (look_upd_ne (by omega)).trans ((look_old (by omega)).trans h4)
  have k4 := (kA.trans k3).upd (i := nx2) (o := .cells [.pointer none, .int .i64 (.ofNat 0), .int .i64 (.ofNat 0)]) (by omega)
  refine WO.nil (thenC_norm (WC.cond_true rfl (WC.seq (WC.ops ?_))))
  refine WO.pure rfl (WO.mv rfl (WO.store (ob' := .cells [.int .i64 (.ofNat 0), .int .i64 (.ofNat 0), .int .u64 (.ofNat 0), .int .i64 (.ofNat 0)]) rfl rfl rfl rfl h4' rfl (by show (4 : Nat) ≤ 4; exact Nat.le_refl _) rfl (WO.mv rfl (WO.nil (thenC_norm (WC.ret ?_))))))
  exact ⟨[ck0, errV 3], _, resV_cell rfl (mem_load (look_upd_same h4') rfl rfl) rfl (resV_tmp rfl rfl), rfl, rfl, k4.upd (Nat.le_refl _)⟩
end Go.AI
/- What the functions above the arena do where an address is not known: a view's numbers. -/
namespace Go.AI
open Go.Proofs

theorem all_get {l : List (Option Nat)} : ∀ (c p : Nat), (∀ i, i < c → ∃ P, pgAt l (p + i) = some P) → allC l p c = true
  | 0, p, _ => rfl
  | c + 1, p, h => by
    obtain ⟨P, hP⟩ := h 0 (by omega)
    rw [Nat.add_zero] at hP
    simp only [allC, hP]
    exact all_get c (p + 1) fun i hi => by
      obtain ⟨Q, hQ⟩ := h (i + 1) (by omega)
      exact ⟨Q, by rw [← hQ]; congr 1; omega⟩
theorem there_check {l : List (Option Nat)} {a k : Nat} (h : There l a k) : checkN l a k = 0 := by
  unfold checkN
  have h1 : Nat.ble (Nat.add a k) (Nat.mul l.length 4096) = true := by rw [Nat.ble_eq]; exact h.1
  rw [h1, cond_true]
  rcases Nat.eq_zero_or_pos k with h0 | h0
  · subst h0; rfl
  · have h2 : Nat.beq k 0 = false := beq_no (by omega)
    have h3 : allC l (a / 4096) ((a + k - 1) / 4096 - a / 4096 + 1) = true := all_get _ _ fun i hi => h.2 h0 _ (by omega) (by
      have : a / 4096 ≤ (a + k - 1) / 4096 := Nat.div_le_div_right (by omega)
      omega)
    rw [h2, cond_false]
    show (bif allC l (a / 4096) ((a + k - 1) / 4096 - a / 4096 + 1) then 0 else 3) = 0
    rw [h3]; rfl
theorem check_sub {l : List (Option Nat)} {a k b m : Nat} (h : checkN l a k = 0) (h1 : b + m ≤ k) : checkN l (a + b) m = 0 := by
  have ht := check_there h
  refine there_check ⟨by have := ht.1; omega, fun hm q q1 q2 => ht.2 (by omega) q ?_ ?_⟩
  · exact Nat.le_trans (Nat.div_le_div_right (by omega)) q1
  · exact Nat.le_trans q2 (Nat.div_le_div_right (by omega))
theorem loadS_yes {x : Ar} {a k : Nat} (hk : k = 1 ∨ k = 2 ∨ k = 4 ∨ k = 8) (h : checkN x.pages a k = 0) : loadS x [.int .i64 (Int.ofNat a), .int .i64 (Int.ofNat k)] = some (.tuple ⟨[.int .u64 (Int.ofNat (loadA x.pages a k)), errV 0]⟩, x) := by
  have hw : wholeN k = true := (wholeN_iff k).2 hk
  unfold loadS
  dsimp only
  rw [hw, cond_true, h]

theorem lt_of_look {X : Type} {t : List (Nat × AObj X)} {n i : Nat} {o : AObj X} (hf : Fresh t n) (h : look i t = some o) : i < n := by
  rcases Nat.lt_or_ge i n with q | q
  · exact q
  · have := hf i q; rw [h] at this; cases this

theorem vcheck_ok {n i : Nat} {a s b m : Nat} {h : Hp Ar} (hf : Fresh h.tbl h.next) (hs : s ≤ 4294967296) (hb : b + m ≤ s) :
    ∃ v h', R1 (n + 1) 229 [vwV i (Int.ofNat a) (Int.ofNat s), .int .i64 (Int.ofNat b), .int .i64 (Int.ofNat m)] h = some (v, h') ∧ (v = errV 0 ∧ Keep h.tbl h.next h'.tbl h'.next) := by
  refine run_fn (hk1_none (by decide)) f229 (by simp [i229]) ?_
  dsimp only [i229, argsE]
  have k1 := Keep.new hf (.cells [.pointer (some ⟨i, 0, none⟩), .int .i64 (Int.ofNat a), .int .i64 (Int.ofNat s)])
  refine WC.seq (WC.ops (WO.box rfl rfl (WO.mv rfl (WO.nil (thenC_norm (WC.seq (WC.block (WC.seq (WC.ops ?_)))))))))
  refine WO.fadd rfl (WO.load rfl look_new rfl rfl rfl (WO.pure rfl (WO.mv rfl (WO.nil (thenC_norm (WC.cond_false rfl (WC.seq (WC.ops ?_))))))))
  refine WO.mv rfl (WO.lssS rfl rfl (fun h => absurd h (by simp only [Int.ofNat_eq_natCast]; omega)) (fun _ => ?_))
  refine WO.mv rfl (WO.take rfl rfl (WO.mv rfl (WO.take rfl rfl (WO.lssS rfl rfl (fun h => absurd h (by simp only [Int.ofNat_eq_natCast]; omega)) (fun _ => ?_)))))
  refine WO.pure rfl (WO.mv rfl (WO.take rfl rfl (WO.mv rfl (WO.take rfl rfl (WO.fadd rfl (WO.take rfl rfl (WO.load rfl look_new rfl rfl rfl (WO.take rfl rfl (WO.gtrS rfl rfl (fun h => absurd h (by simp only [Int.ofNat_eq_natCast]; omega)) (fun _ => ?_))))))))))
  refine WO.pure rfl (WO.mv rfl (WO.take rfl rfl (WO.mv rfl (WO.take rfl rfl (WO.fadd rfl (WO.take rfl rfl (WO.load rfl look_new rfl rfl rfl (WO.take rfl rfl (WO.mv rfl (WO.take rfl rfl ?_)))))))))) 
  refine WO.sub rfl rfl (by simp only [Int.ofNat_eq_natCast]; omega) (by simp only [Int.ofNat_eq_natCast]; omega) (WO.take rfl rfl (WO.gtrS rfl rfl (fun h => absurd h (by simp only [Int.ofNat_eq_natCast]; omega)) (fun _ => ?_)))
  refine WO.pure rfl (WO.mv rfl (WO.nil (thenC_norm (WC.cond_false rfl (WC.skip (blockC_norm (thenC_norm (WC.seq (WC.ops (WO.mv rfl (WO.nil (thenC_norm (WC.ret ?_)))))))))))))
  exact ⟨_, _, rfl, rfl, rfl, k1⟩
theorem vwhole_ok {n i : Nat} {a s : Int} {m : Nat} {h : Hp Ar} (hf : Fresh h.tbl h.next) (hm : m = 1 ∨ m = 2 ∨ m = 4 ∨ m = 8) :
    ∃ v h', R1 (n + 1) 237 [vwV i a s, .int .i64 (Int.ofNat m)] h = some (v, h') ∧ (v = errV 0 ∧ Keep h.tbl h.next h'.tbl h'.next) := by
  refine run_fn (hk1_none (by decide)) f237 (by simp [i237]) ?_
  dsimp only [i237, argsE]
  have k1 := Keep.new hf (.cells [.pointer (some ⟨i, 0, none⟩), .int .i64 a, .int .i64 s])
  refine WC.seq (WC.ops (WO.box rfl rfl (WO.mv rfl (WO.nil (thenC_norm (WC.seq (WC.block (WC.seq (WC.ops ?_)))))))))
  refine WO.fadd rfl (WO.load rfl look_new rfl rfl rfl (WO.pure rfl (WO.mv rfl (WO.nil (thenC_norm (WC.cond_false rfl (WC.seq (WC.seq (WC.ops ?_)))))))))
  rcases hm with rfl | rfl | rfl | rfl
  all_goals
    repeat' first
      | with_reducible refine WC.seq ?_
      | with_reducible refine WC.ops ?_
      | with_reducible refine WC.ret ?_
      | with_reducible refine WC.skip ?_
      | with_reducible refine thenC_norm ?_
      | with_reducible refine WO.nil ?_
      | refine WO.mv rfl ?_
      | refine WC.cond_true rfl ?_
      | refine WC.cond_false rfl ?_
      | refine WO.pure rfl ?_
    exact ⟨_, _, rfl, rfl, rfl, k1⟩

theorem vbytes_ok {n i : Nat} {x : Ar} {a s m : Nat} {h : Hp Ar} (hf : Fresh h.tbl h.next) (hA : look i h.tbl = some (.ext x)) (hrf : x.refuse < 9223372036854775808) (ha : a ≤ 4294967296) (hs : s ≤ 4294967296) (hc : checkN x.pages a s = 0) (hm : m ≤ s) :
    ∃ v h', R1 (n + 2) 231 [vwV i (Int.ofNat a) (Int.ofNat s), .int .i64 (Int.ofNat 0), .int .i64 (Int.ofNat m)] h = some (v, h') ∧ ((∃ st, v = .tuple ⟨[.string st, errV 0]⟩) ∧ Keep h.tbl h.next h'.tbl h'.next) := by
  refine run_fn (hk1_none (by decide)) f231 (by simp [i231]) ?_
  dsimp only [i231, argsE]
  have hlt := lt_of_look hf hA
  have k1 := Keep.new hf (.cells [.pointer (some ⟨i, 0, none⟩), .int .i64 (Int.ofNat a), .int .i64 (Int.ofNat s)])
  refine WC.seq (WC.ops (WO.box rfl rfl (WO.mv rfl (WO.mv rfl (WO.nil (thenC_norm (WC.seq (WC.seq (WC.ops ?_)))))))))
  refine WO.load rfl look_new rfl rfl rfl (WO.mv rfl (WO.mv rfl (WO.fcall_ex rfl rfl (vcheck_ok (n := n) (i := i) (a := a) (s := s) (b := 0) (m := m) (h := ⟨_, _⟩) k1.fr hs (by omega)) ?_)))
  rintro v2 ⟨tb2, nx2⟩ ⟨rfl, k2⟩
  have hb : look h.next tb2 = some (.cells [.pointer (some ⟨i, 0, none⟩), .int .i64 (Int.ofNat a), .int .i64 (Int.ofNat s)]) := (k2.same h.next (by show h.next < h.next + 1; omega)).trans look_new
  have hA2 : look i tb2 = some (.ext x) := (k2.same i (by show i < h.next + 1; omega)).trans ((look_old (by omega)).trans hA)
  refine WO.mv rfl (WO.nil (thenC_norm (WC.seq (WC.ops (WO.mv rfl (WO.neqS rfl rfl (fun hne => (hne rfl).elim) (fun _ => ?_)))))))
  refine WO.nil (WC.cond_false rfl (WC.skip (thenC_norm (WC.seq (WC.ops ?_)))))
  refine WO.fadd rfl (WO.load rfl hb rfl rfl rfl (WO.fadd rfl (WO.load rfl hb rfl rfl rfl (WO.mv rfl ?_))))
  refine WO.add rfl rfl (by simp only [Int.ofNat_eq_natCast]; omega) (by simp only [Int.ofNat_eq_natCast]; omega) (WO.as (b := Int.ofNat (a + 0)) (by simp only [Int.ofNat_eq_natCast]; omega) (WO.mv rfl ?_))
  refine WO.fcall rfl rfl (bytes_at (n := n) (h := ⟨tb2, nx2⟩) hA2 hrf (bytesS_yes (check_sub hc (by omega))) rfl) ?_
  refine WO.pure rfl (WO.pure rfl (WO.mv rfl (WO.mv rfl (WO.nil (thenC_norm (WC.ret ?_))))))
  exact ⟨_, _, rfl, rfl, ⟨_, rfl⟩, (k1.trans k2).trans (keep_same (k1.trans k2).fr hA2)⟩

theorem vload_ok {n i : Nat} {x : Ar} {a s b m : Nat} {h : Hp Ar} (hf : Fresh h.tbl h.next) (hA : look i h.tbl = some (.ext x)) (hrf : x.refuse < 9223372036854775808) (ha : a ≤ 4294967296) (hs : s ≤ 4294967296) (hc : checkN x.pages a s = 0) (hb : b + m ≤ s) (hm : m = 1 ∨ m = 2 ∨ m = 4 ∨ m = 8) :
    ∃ v h', R1 (n + 2) 159 [vwV i (Int.ofNat a) (Int.ofNat s), .int .i64 (Int.ofNat b), .int .i64 (Int.ofNat m)] h = some (v, h') ∧ ((∃ y : Nat, v = .tuple ⟨[.int .u64 (Int.ofNat y), errV 0]⟩) ∧ Keep h.tbl h.next h'.tbl h'.next) := by
  refine run_fn (hk1_none (by decide)) f159 (by simp [i159]) ?_
  dsimp only [i159, argsE]
  have hlt := lt_of_look hf hA
  have k1 := Keep.new hf (.cells [.pointer (some ⟨i, 0, none⟩), .int .i64 (Int.ofNat a), .int .i64 (Int.ofNat s)])
  refine WC.seq (WC.ops (WO.box rfl rfl (WO.mv rfl (WO.mv rfl (WO.nil (thenC_norm (WC.seq (WC.seq (WC.ops ?_)))))))))
  refine WO.load rfl look_new rfl rfl rfl (WO.mv rfl (WO.fcall_ex rfl rfl (vwhole_ok (n := n) (i := i) (a := Int.ofNat a) (s := Int.ofNat s) (m := m) (h := ⟨_, _⟩) k1.fr hm) ?_))
  rintro v2 ⟨tb2, nx2⟩ ⟨rfl, k2⟩
  have hbx : look h.next tb2 = some (.cells [.pointer (some ⟨i, 0, none⟩), .int .i64 (Int.ofNat a), .int .i64 (Int.ofNat s)]) := (k2.same h.next (by show h.next < h.next + 1; omega)).trans look_new
  have hn2 : h.next + 1 ≤ nx2 := k2.le
  refine WO.mv rfl (WO.nil (thenC_norm (WC.seq (WC.ops (WO.mv rfl (WO.neqS rfl rfl (fun hne => (hne rfl).elim) (fun _ => ?_)))))))
  refine WO.nil (WC.cond_false rfl (WC.skip (thenC_norm (WC.seq (WC.seq (WC.ops ?_))))))
  refine WO.load rfl hbx rfl rfl rfl (WO.mv rfl (WO.mv rfl (WO.fcall_ex rfl rfl (vcheck_ok (n := n) (i := i) (a := a) (s := s) (b := b) (m := m) (h := ⟨tb2, nx2⟩) k2.fr hs hb) ?_)))
  rintro v3 ⟨tb3, nx3⟩ ⟨rfl, k3⟩
  have kA := (k1.trans k2).trans k3
  have hb3 : look h.next tb3 = some (.cells [.pointer (some ⟨i, 0, none⟩), .int .i64 (Int.ofNat a), .int .i64 (Int.ofNat s)]) := (k3.same h.next (by show h.next < nx2; omega)).trans hbx
  have hA3 : look i tb3 = some (.ext x) := (kA.same i hlt).trans hA
  refine WO.mv rfl (WO.nil (thenC_norm (WC.seq (WC.ops (WO.mv rfl (WO.neqS rfl rfl (fun hne => (hne rfl).elim) (fun _ => ?_)))))))
  refine WO.nil (WC.cond_false rfl (WC.skip (thenC_norm (WC.seq (WC.ops ?_)))))
  refine WO.fadd rfl (WO.load rfl hb3 rfl rfl rfl (WO.fadd rfl (WO.load rfl hb3 rfl rfl rfl (WO.mv rfl ?_))))
  refine WO.add rfl rfl (by simp only [Int.ofNat_eq_natCast]; omega) (by simp only [Int.ofNat_eq_natCast]; omega) (WO.as (b := Int.ofNat (a + b)) (by simp only [Int.ofNat_eq_natCast]; omega) (WO.mv rfl ?_))
  refine WO.fcall rfl rfl (load_at (n := n) (h := ⟨tb3, nx3⟩) hA3 hrf (loadS_yes hm (check_sub hc hb)) rfl) ?_
  refine WO.pure rfl (WO.pure rfl (WO.mv rfl (WO.mv rfl (WO.nil (thenC_norm (WC.ret ?_))))))
  exact ⟨_, _, rfl, rfl, ⟨_, rfl⟩, kA.trans (keep_same kA.fr hA3)⟩
end Go.AI
/- What the functions above the arena do where an address is not known: a record's fields; a chunk's header. -/
namespace Go.AI
open Go.Proofs

/-- The widths of a chunk's header. -/
def wds : List Value := [.int .i64 (.ofNat 4), .int .i64 (.ofNat 4), .int .i64 (.ofNat 8), .int .i64 (.ofNat 8)]
def pre : Nat → Nat
  | 0 => 0
  | 1 => 4
  | 2 => 8
  | 3 => 16
  | _ => 24
def wid : Nat → Nat
  | 0 => 4
  | 1 => 4
  | _ => 8
abbrev recV (W : Nat) : Value := .agg ⟨[.slice (some ⟨W, 0, none⟩) 4 4]⟩
theorem wds_take {i : Nat} (h : i < 4) : takeN wds i 1 = some [.int .i64 (Int.ofNat (wid i))] := by
  match i, h with
  | 0, _ => rfl
  | 1, _ => rfl
  | 2, _ => rfl
  | 3, _ => rfl
theorem pre_step {i : Nat} (h : i < 4) : pre i + wid i = pre (i + 1) := by
  match i, h with
  | 0, _ => rfl
  | 1, _ => rfl
  | 2, _ => rfl
  | 3, _ => rfl
theorem pre_le (i : Nat) : pre i ≤ 24 := by
  unfold pre; split <;> decide
theorem wid_ok (i : Nat) : wid i = 1 ∨ wid i = 2 ∨ wid i = 4 ∨ wid i = 8 := by
  unfold wid; split <;> simp

theorem ahead_run {n W i : Nat} {h : Hp Ar} (hn : 10 ≤ n) (hf : Fresh h.tbl h.next) (hW : ∃ ob, look W h.tbl = some ob ∧ cellsO ob = some wds) (hi : i ≤ 4) :
    ∃ v h', R1 (n + 1) 294 [recV W, .int .i64 (Int.ofNat i)] h = some (v, h') ∧ (v = .int .i64 (Int.ofNat (pre i)) ∧ Keep h.tbl h.next h'.tbl h'.next) := by
  obtain ⟨ob, hW1, hW2⟩ := hW
  have hWl := lt_of_look hf hW1
  refine run_fn (hk1_none (by decide)) f294 (by simp [i294]) ?_
  dsimp only [i294, argsE]
  have k1 := Keep.new hf (.cells [.slice (some ⟨W, 0, none⟩) 4 4])
  refine WC.seq (WC.ops (WO.box rfl rfl (WO.mv rfl (WO.nil (thenC_norm (WC.seq (WC.ops (WO.mv rfl (WO.nil (thenC_norm (WC.seq (WC.seq (WC.ops ?_)))))))))))))
  refine WO.fadd rfl (WO.load rfl look_new rfl rfl rfl (WO.mv rfl (WO.pure (v := .slice (some ⟨W, 0, none⟩) i 4) ?_ ?_)))
  · have h1 : Nat.ble i 4 = true := by rw [Nat.ble_eq]; exact hi
    show sliceL 1 (some ⟨W, 0, none⟩) 4 4 none (some (.int .i64 (Int.ofNat i))) none = _
    have hb : bounds 4 4 none (some (.int .i64 (Int.ofNat i))) none = some (0, i, 4) := by
      simp only [bounds, natOpt, natOf, h1]
      rfl
    simp only [sliceL, hb]
    rfl
  refine WO.len rfl (WO.mv rfl (WO.nil (thenC_norm (WC.block ?_))))
  refine WC.loop (fun j e tbl nx => ∃ q, q + j = i ∧ e 11 = some (.slice (some ⟨W, 0, none⟩) i 4) ∧ e 12 = some (.int .i64 (Int.ofNat i)) ∧ e 13 = some (.int .i64 (Int.ofNat q)) ∧ e 5 = some (.int .i64 (Int.ofNat (pre q))) ∧ look W tbl = some ob ∧ Keep h.tbl h.next tbl nx) (k := i) (by omega) ⟨0, by omega, rfl, rfl, rfl, rfl, (look_old (by omega)).trans hW1, k1⟩ ?_
  rintro j e tbl nx ⟨q, hq, e11, e12, e13, e5, hW3, hk⟩
  refine WC.seq (WC.ops (WO.lssS e13 e12 (fun hlt => ?_) (fun hlt => ?_)))
  · simp only [Int.ofNat_eq_natCast] at hlt
    have hqi : q < i := by omega
    have hp := pre_le q
    have hst := pre_step (i := q) (by omega)
    have hp2 := pre_le (q + 1)
    refine WO.nil (thenC_norm (WC.seq (WC.cond_true rfl (WC.skip (thenC_norm (WC.seq (WC.block (WC.seq (WC.ops ?_)))))))))
    refine WO.idxL e11 e13 rfl hqi (WO.load rfl hW3 hW2 (by rw [show 0 + q * 1 = q by omega]; exact wds_take (by omega)) rfl (WO.mv rfl (WO.nil (thenC_norm (WC.ops ?_)))))
    refine WO.mv e5 (WO.mv rfl (WO.add rfl rfl (by simp only [Int.ofNat_eq_natCast]; omega) (by simp only [Int.ofNat_eq_natCast]; omega) (WO.as (b := Int.ofNat (pre (q + 1))) (by simp only [Int.ofNat_eq_natCast]; omega) (WO.mv rfl (WO.nil (blockC_norm (thenC_norm (WC.ops ?_))))))))
    refine WO.add e13 rfl (by simp only [Int.ofNat_eq_natCast]; omega) (by simp only [Int.ofNat_eq_natCast]; omega) (WO.as (b := Int.ofNat (q + 1)) (by simp only [Int.ofNat_eq_natCast]; omega) (WO.mv rfl (WO.nil ?_)))
    exact ⟨j - 1, by omega, rfl, q + 1, by omega, e11, e12, rfl, rfl, hW3, hk⟩
  · simp only [Int.ofNat_eq_natCast] at hlt
    have hqi : q = i := by omega
    subst hqi
    refine WO.nil (thenC_norm (WC.seq (WC.cond_false rfl (WC.exit (thenC_exit (blockC_exit (thenC_norm (WC.seq (WC.ops ?_)))))))))
    refine WO.mv e5 (WO.mv rfl (WO.nil (thenC_norm (WC.ret ?_))))
    exact ⟨_, _, rfl, rfl, rfl, hk⟩
theorem has_run {n W i : Nat} {h : Hp Ar} (hf : Fresh h.tbl h.next) (hi : i < 4) :
    ∃ v h', R1 (n + 1) 295 [recV W, .int .i64 (Int.ofNat i)] h = some (v, h') ∧ (v = .bool true ∧ Keep h.tbl h.next h'.tbl h'.next) := by
  refine run_fn (hk1_none (by decide)) f295 (by simp [i295]) ?_
  dsimp only [i295, argsE]
  have k1 := Keep.new hf (.cells [.slice (some ⟨W, 0, none⟩) 4 4])
  refine WC.seq (WC.ops (WO.box rfl rfl (WO.mv rfl (WO.nil (thenC_norm (WC.seq (WC.ops ?_)))))))
  refine WO.mv rfl (WO.geqS rfl rfl (fun _ => ?_) (fun h => absurd (by simp only [Int.ofNat_eq_natCast]; omega) h))
  refine WO.mv rfl (WO.take rfl rfl (WO.mv rfl (WO.take rfl rfl (WO.fadd rfl (WO.take rfl rfl (WO.load rfl look_new rfl rfl rfl (WO.take rfl rfl (WO.len rfl (WO.take rfl rfl (WO.lssS rfl rfl (fun _ => ?_) (fun h => absurd (by simp only [Int.ofNat_eq_natCast]; omega) h)))))))))))
  refine WO.pure rfl (WO.mv rfl (WO.nil (thenC_norm (WC.ret ?_))))
  exact ⟨_, _, rfl, rfl, rfl, k1⟩
theorem rat_run {n W i : Nat} {h : Hp Ar} (hn : 10 ≤ n) (hf : Fresh h.tbl h.next) (hW : ∃ ob, look W h.tbl = some ob ∧ cellsO ob = some wds) (hi : i < 4) :
    ∃ v h', R1 (n + 2) 291 [recV W, .int .i64 (Int.ofNat i)] h = some (v, h') ∧ (v = .int .i64 (Int.ofNat (pre i)) ∧ Keep h.tbl h.next h'.tbl h'.next) := by
  obtain ⟨ob, hW1, hW2⟩ := hW
  have hWl := lt_of_look hf hW1
  refine run_fn (hk1_none (by decide)) f291 (by simp [i291]) ?_
  dsimp only [i291, argsE]
  have k1 := Keep.new hf (.cells [.slice (some ⟨W, 0, none⟩) 4 4])
  refine WC.seq (WC.ops (WO.box rfl rfl (WO.mv rfl (WO.nil (thenC_norm (WC.seq (WC.seq (WC.ops ?_))))))))
  refine WO.load rfl look_new rfl rfl rfl (WO.mv rfl (WO.fcall_ex rfl rfl (has_run (n := n) (W := W) (i := i) (h := ⟨_, _⟩) k1.fr hi) ?_))
  rintro v2 ⟨tb2, nx2⟩ ⟨rfl, k2⟩
  have hb : look h.next tb2 = some (.cells [.slice (some ⟨W, 0, none⟩) 4 4]) := (k2.same h.next (by show h.next < h.next + 1; omega)).trans look_new
  have hW3 : look W tb2 = some ob := (k2.same W (by show W < h.next + 1; omega)).trans ((look_old (by omega)).trans hW1)
  refine WO.pure rfl (WO.nil (thenC_norm (WC.cond_false rfl (WC.skip (thenC_norm (WC.seq (WC.ops ?_)))))))
  refine WO.load rfl hb rfl rfl rfl (WO.mv rfl (WO.fcall_ex rfl rfl (ahead_run (n := n) (W := W) (i := i) (h := ⟨tb2, nx2⟩) hn k2.fr ⟨ob, hW3, hW2⟩ (by omega)) ?_))
  rintro v3 h3 ⟨rfl, k3⟩
  refine WO.mv rfl (WO.nil (thenC_norm (WC.ret ?_)))
  exact ⟨_, _, rfl, rfl, rfl, (k1.trans k2).trans k3⟩
theorem size_run {n W : Nat} {h : Hp Ar} (hn : 10 ≤ n) (hf : Fresh h.tbl h.next) (hW : ∃ ob, look W h.tbl = some ob ∧ cellsO ob = some wds) :
    ∃ v h', R1 (n + 2) 232 [recV W] h = some (v, h') ∧ (v = .int .i64 (Int.ofNat 24) ∧ Keep h.tbl h.next h'.tbl h'.next) := by
  obtain ⟨ob, hW1, hW2⟩ := hW
  have hWl := lt_of_look hf hW1
  refine run_fn (hk1_none (by decide)) f232 (by simp [i232]) ?_
  dsimp only [i232, argsE]
  have k1 := Keep.new hf (.cells [.slice (some ⟨W, 0, none⟩) 4 4])
  refine WC.seq (WC.ops (WO.box rfl rfl (WO.mv rfl (WO.nil (thenC_norm (WC.seq (WC.ops ?_)))))))
  refine WO.load rfl look_new rfl rfl rfl (WO.fadd rfl (WO.load rfl look_new rfl rfl rfl (WO.len rfl (WO.fcall_ex rfl rfl (ahead_run (n := n) (W := W) (i := 4) (h := ⟨_, _⟩) hn k1.fr ⟨ob, (look_old (by omega)).trans hW1, hW2⟩ (by omega)) ?_))))
  rintro v3 h3 ⟨rfl, k3⟩
  refine WO.mv rfl (WO.nil (thenC_norm (WC.ret ?_)))
  exact ⟨_, _, rfl, rfl, rfl, k1.trans k3⟩
end Go.AI
/- What the functions above the arena do where an address is not known: a record is made; its fields are read. -/
namespace Go.AI
open Go.Proofs

/-- slices.Clone of the widths. -/
theorem clonew_run {n S : Nat} {h : Hp Ar} (hf : Fresh h.tbl h.next) (hS : look S h.tbl = some (.cells wds)) :
    ∃ v h', R1 (n + 1) 293 [.slice (some ⟨S, 0, none⟩) 4 4] h = some (v, h') ∧ ∃ W, h.next ≤ W ∧ v = .slice (some ⟨W, 0, none⟩) 4 4 ∧ look W h'.tbl = some (.grown 1 3 wds) ∧ Keep h.tbl h.next h'.tbl h'.next := by
  have hSl := lt_of_look hf hS
  refine run_fn (hk1_none (by decide)) f293 (by simp [i293]) ?_
  dsimp only [i293, argsE]
  refine WC.seq (WC.ops (WO.mv rfl (WO.nil (thenC_norm (WC.seq (WC.seq (WC.ops (WO.mv rfl (WO.pure rfl (WO.nil (thenC_norm (WC.cond_false rfl (WC.skip (thenC_norm (WC.seq (WC.ops ?_))))))))))))))))
  refine WO.step (i := .bslice 5 0 1 [.int .i64 (.ofNat 0)] []) (v := .slice (some ⟨h.next, 0, none⟩) 0 0) (m' := ⟨[], (h.next, .cells []) :: h.tbl, h.next + 1⟩) rfl ?_
  have k1 := Keep.new hf (.cells ([] : List Value))
  have hS1 : look S ((h.next, .cells []) :: h.tbl) = some (.cells wds) := (look_old (by omega)).trans hS
  refine WO.mv rfl (WO.append (w := .slice (some ⟨h.next + 1, 0, none⟩) 4 4) (m' := ⟨[], (h.next + 1, .grown 1 3 wds) :: (h.next, .cells []) :: h.tbl, h.next + 1 + 1⟩) rfl rfl ?_ ?_)
  · have hsrc : source (⟨[], (h.next, .cells []) :: h.tbl, h.next + 1⟩ : Mem Ar) 1 (.slice (some ⟨S, 0, none⟩) 4 4) = some (4, wds) := by
      have := mem_loads (nx := h.next + 1) (sp := none) (o := 0) (n := 4 * 1) (s := wds) hS1 rfl rfl (by decide)
      simp only [source, this, Option.map]
    have hg : (⟨[], (h.next, .cells []) :: h.tbl, h.next + 1⟩ : Mem Ar).get h.next = some (.cells []) := look_new
    simp only [appendM, hsrc, hg]
    rfl
  have k2 := Keep.new k1.fr (.grown 1 3 wds)
  refine WO.mv rfl (WO.nil (thenC_norm (WC.ret ⟨_, _, rfl, rfl, h.next + 1, by omega, rfl, look_new, k1.trans k2⟩)))

theorem of4_run {n S : Nat} {h : Hp Ar} (hn : 10 ≤ n) (hf : Fresh h.tbl h.next) (hS : look S h.tbl = some (.cells wds)) :
    ∃ v h', R1 (n + 2) 230 [.slice (some ⟨S, 0, none⟩) 4 4] h = some (v, h') ∧ ∃ W, h.next ≤ W ∧ v = .tuple ⟨[recV W, errV 0]⟩ ∧ look W h'.tbl = some (.grown 1 3 wds) ∧ Keep h.tbl h.next h'.tbl h'.next := by
  have hSl := lt_of_look hf hS
  refine run_fn (hk1_none (by decide)) f230 (by simp [i230]) ?_
  dsimp only [i230, argsE]
  have k1 := Keep.new hf (.cells [.slice none 0 0])
  have hS1 : look S ((h.next, .cells [.slice none 0 0]) :: h.tbl) = some (.cells wds) := (look_old (by omega)).trans hS
  refine WC.seq (WC.ops (WO.new (WO.mv rfl (WO.nil (thenC_norm (WC.seq (WC.block (WC.seq (WC.ops ?_)))))))))
  refine WO.mv rfl (WO.len rfl (WO.eqlS rfl rfl (fun he => by cases he) (fun _ => WO.mv rfl (WO.nil (thenC_norm (WC.cond_false rfl (WC.seq (WC.ops ?_))))))))
  refine WO.mv rfl (WO.len rfl (WO.gtrS rfl rfl (fun he => absurd he (by decide)) (fun _ => WO.mv rfl (WO.nil (thenC_norm (WC.cond_false rfl (WC.skip (blockC_norm (thenC_norm (WC.seq (WC.seq (WC.ops ?_)))))))))))) 
  refine WO.mv rfl (WO.len rfl (WO.mv rfl (WO.nil (thenC_norm (WC.block ?_)))))
  refine WC.loop (fun j e tbl nx => ∃ q, q + j = 4 ∧ e 0 = some (.slice (some ⟨S, 0, none⟩) 4 4) ∧ e 16 = some (.slice (some ⟨S, 0, none⟩) 4 4) ∧ e 17 = some (.int .i64 (Int.ofNat 4)) ∧ e 18 = some (.int .i64 (Int.ofNat q)) ∧ e 2 = some (.pointer (some ⟨h.next, 0, none⟩)) ∧ tbl = (h.next, .cells [.slice none 0 0]) :: h.tbl ∧ nx = h.next + 1) (k := 4) (by omega) ⟨0, by omega, rfl, rfl, rfl, rfl, rfl, rfl, rfl⟩ ?_
  rintro j e tbl nx ⟨q, hq, e0, e16, e17, e18, e2, rfl, rfl⟩
  refine WC.seq (WC.ops (WO.lssS e18 e17 (fun hlt => ?_) (fun hlt => ?_)))
  · simp only [Int.ofNat_eq_natCast] at hlt
    have hq4 : q < 4 := by omega
    refine WO.nil (thenC_norm (WC.seq (WC.cond_true rfl (WC.skip (thenC_norm (WC.seq (WC.block (WC.seq (WC.ops ?_)))))))))
    refine WO.idxL e16 e18 rfl hq4 (WO.load rfl hS1 rfl (by rw [show 0 + q * 1 = q by omega]; exact wds_take hq4) rfl (WO.mv rfl (WO.nil (thenC_norm (WC.seq (WC.ops ?_))))))
    have hfin : ∀ e', (∀ k, k ≠ 37 → k ≠ 18 → k ≠ 5 → k < 20 → look k e' = look k e) → WC (run FA (fun _ => false) hk1 (n + 1)) (n + 1) (.ops [(none, .pure 37 (.bin .add .no (.t 18) (.c (.int .i64 (.ofNat 1))))), (none, .pure 18 (.mv (.t 37)))]) e' ⟨[], (h.next, .cells [.slice none 0 0]) :: h.tbl, h.next + 1⟩ (fun x e' m' => match x with
      | .norm => ∃ j', j' < j ∧ m'.loc = [] ∧ ∃ q, q + j' = 4 ∧ look 0 e' = some (.slice (some ⟨S, 0, none⟩) 4 4) ∧ look 16 e' = some (.slice (some ⟨S, 0, none⟩) 4 4) ∧ look 17 e' = some (.int .i64 (Int.ofNat 4)) ∧ look 18 e' = some (.int .i64 (Int.ofNat q)) ∧ look 2 e' = some (.pointer (some ⟨h.next, 0, none⟩)) ∧ m'.tbl = (h.next, .cells [.slice none 0 0]) :: h.tbl ∧ m'.next = h.next + 1
      | _ => False) → True := fun _ _ _ => trivial
    have e18' := e18
    match q, hq4 with
    | 0, _ | 1, _ | 2, _ | 3, _ =>
      refine WO.mv rfl (WO.neqS rfl rfl (fun _ => ?_) (fun he => by cases he))
      refine WO.mv rfl (WO.take rfl rfl (WO.mv rfl (WO.take rfl rfl (WO.neqS rfl rfl (fun _ => ?_) (fun he => by cases he)))))
      refine WO.pure rfl (WO.mv rfl (WO.take rfl rfl (WO.mv rfl (WO.take rfl rfl (WO.neqS rfl rfl (fun hne => ?_) (fun he => ?_))))))
      all_goals first
        | exact (hne rfl).elim
        | (cases he; done)
        | (refine WO.pure rfl (WO.mv rfl (WO.skip rfl rfl (WO.skip rfl rfl (WO.pure rfl (WO.nil (thenC_norm (WC.cond_false rfl (WC.skip (blockC_norm (thenC_norm (WC.ops ?_)))))))))))
           refine WO.add e18' rfl (by decide) (by decide) (WO.mv rfl (WO.nil ?_))
           exact ⟨j - 1, by omega, rfl, _, by omega, e0, e16, e17, rfl, e2, rfl, rfl⟩)
        | (refine WO.pure rfl (WO.mv rfl (WO.take rfl rfl (WO.mv rfl (WO.take rfl rfl (WO.neqS rfl rfl (fun hne => (hne rfl).elim) (fun _ => WO.pure rfl (WO.nil (thenC_norm (WC.cond_false rfl (WC.skip (blockC_norm (thenC_norm (WC.ops ?_)))))))))))))
           refine WO.add e18' rfl (by decide) (by decide) (WO.mv rfl (WO.nil ?_))
           exact ⟨j - 1, by omega, rfl, _, by omega, e0, e16, e17, rfl, e2, rfl, rfl⟩)
  · simp only [Int.ofNat_eq_natCast] at hlt
    have hq4 : q = 4 := by omega
    subst hq4
    refine WO.nil (thenC_norm (WC.seq (WC.cond_false rfl (WC.exit (thenC_exit (blockC_exit (thenC_norm (WC.seq (WC.ops ?_)))))))))
    refine WO.mv e0 (WO.fcall_ex rfl rfl (clonew_run (n := n) (h := ⟨_, _⟩) k1.fr hS1) ?_)
    rintro v2 ⟨tb2, nx2⟩ ⟨W, hW1, rfl, hW2, k2⟩
    have hW1 : h.next + 1 ≤ W := hW1
    have hW2 : look W tb2 = some (.grown 1 3 wds) := hW2
    have h2 : look h.next tb2 = some (.cells [.slice none 0 0]) := (k2.same h.next (by show h.next < h.next + 1; omega)).trans look_new
    refine WO.pure rfl (WO.store (ob' := .cells [.slice (some ⟨W, 0, none⟩) 4 4]) (by exact e2) rfl rfl rfl h2 rfl (by show (1 : Nat) ≤ 1; exact Nat.le_refl _) rfl (WO.mv rfl (WO.nil (thenC_norm (WC.ret ?_)))))
    exact ⟨[recV W, errV 0], _, resV_cell (by exact e2) (mem_load (look_upd_same h2) rfl rfl) rfl (resV_tmp rfl rfl), rfl, W, by omega, rfl, (look_upd_ne (by omega)).trans hW2, (k1.trans k2).upd (Nat.le_refl _)⟩

theorem rec_run {n : Nat} {h : Hp Ar} (hn : 10 ≤ n) (hf : Fresh h.tbl h.next) :
    ∃ v h', R1 (n + 3) 236 [] h = some (v, h') ∧ ∃ W, h.next ≤ W ∧ v = recV W ∧ look W h'.tbl = some (.grown 1 3 wds) ∧ Keep h.tbl h.next h'.tbl h'.next := by
  refine run_fn (hk1_none (by decide)) f236 (by simp [i236]) ?_
  dsimp only [i236, argsE]
  have k1 := Keep.new hf (.cells [.slice none 0 0])
  have k2 := Keep.new k1.fr (.cells wds)
  refine WC.seq (WC.ops (WO.new (WO.nil (thenC_norm (WC.seq (WC.ops ?_))))))
  refine WO.step (v := .slice (some ⟨h.next + 1, 0, none⟩) 4 4) (m' := ⟨[], (h.next + 1, .cells wds) :: (h.next, .cells [.slice none 0 0]) :: h.tbl, h.next + 1 + 1⟩) rfl ?_
  refine WO.fcall_ex rfl rfl (of4_run (n := n) (h := ⟨_, _⟩) hn (k1.trans k2).fr look_new) ?_
  rintro v2 ⟨tb2, nx2⟩ ⟨W, hW1, rfl, hW2, k3⟩
  have hW1 : h.next + 1 + 1 ≤ W := hW1
  have hW2 : look W tb2 = some (.grown 1 3 wds) := hW2
  have kA := (k1.trans k2).trans k3
  have hWl := lt_of_look kA.fr hW2
  have hWl : W < nx2 := hWl
  have h0 : look h.next tb2 = some (.cells [.slice none 0 0]) := (k3.same h.next (by show h.next < h.next + 1 + 1; omega)).trans ((look_old (by omega)).trans look_new)
  have k4 := Keep.new kA.fr (.cells [.slice none 0 0])
  refine WO.mv rfl (WO.pure rfl (WO.pure rfl (WO.new (WO.store (ob' := .cells [.slice (some ⟨W, 0, none⟩) 4 4]) rfl rfl rfl rfl look_new rfl (by show (1 : Nat) ≤ 1; exact Nat.le_refl _) rfl (WO.mv rfl (WO.nil (thenC_norm (WC.seq (WC.ops ?_)))))))))
  have h1 : look nx2 (upd nx2 (.cells [.slice (some ⟨W, 0, none⟩) 4 4]) ((nx2, .cells [.slice none 0 0]) :: tb2)) = some (.cells [.slice (some ⟨W, 0, none⟩) 4 4]) := look_upd_same look_new
  have h0' : look h.next (upd nx2 (.cells [.slice (some ⟨W, 0, none⟩) 4 4]) ((nx2, .cells [.slice none 0 0]) :: tb2)) = some (.cells [.slice none 0 0]) := (look_upd_ne (by omega)).trans ((look_old (by omega)).trans h0)
  refine WO.load rfl h1 rfl rfl rfl (WO.store (ob' := .cells [.slice (some ⟨W, 0, none⟩) 4 4]) rfl rfl rfl rfl h0' rfl (by show (1 : Nat) ≤ 1; exact Nat.le_refl _) rfl (WO.nil (thenC_norm (WC.ret ?_))))
  exact ⟨[recV W], _, resV_cell rfl (mem_load (look_upd_same h0') rfl rfl) rfl rfl, rfl, W, by omega, rfl, (look_upd_ne (by omega)).trans ((look_upd_ne (by omega)).trans ((look_old (by omega)).trans hW2)), ((kA.trans k4).upd (by omega)).upd (Nat.le_refl _)⟩
end Go.AI
/- What the functions above the arena do where an address is not known: a record's field, all fields. -/
namespace Go.AI
open Go.Proofs

theorem rget_run {n i W q : Nat} {x : Ar} {a s : Nat} {h : Hp Ar} (hn : 10 ≤ n) (hf : Fresh h.tbl h.next) (hA : look i h.tbl = some (.ext x)) (hrf : x.refuse < 9223372036854775808) (hW : look W h.tbl = some (.grown 1 3 wds)) (ha : a ≤ 4294967296) (hs : s ≤ 4294967296) (h24 : 24 ≤ s) (hc : checkN x.pages a s = 0) (hq : q < 4) :
    ∃ v h', R1 (n + 3) 233 [recV W, vwV i (Int.ofNat a) (Int.ofNat s), .int .i64 (Int.ofNat q)] h = some (v, h') ∧ ((∃ y : Nat, v = .tuple ⟨[.int .u64 (Int.ofNat y), errV 0]⟩) ∧ Keep h.tbl h.next h'.tbl h'.next) := by
  have hil := lt_of_look hf hA
  have hWl := lt_of_look hf hW
  refine run_fn (hk1_none (by decide)) f233 (by simp [i233]) ?_
  dsimp only [i233, argsE]
  have k1 := Keep.new hf (.cells [.slice (some ⟨W, 0, none⟩) 4 4])
  have k2 := Keep.new k1.fr (.cells [.pointer (some ⟨i, 0, none⟩), .int .i64 (Int.ofNat a), .int .i64 (Int.ofNat s)])
  have kA := k1.trans k2
  refine WC.seq (WC.ops (WO.box rfl rfl (WO.box rfl rfl (WO.mv rfl (WO.mv rfl (WO.nil (thenC_norm (WC.seq (WC.seq (WC.ops ?_))))))))))
  have hr0 : look h.next ((h.next + 1, .cells [.pointer (some ⟨i, 0, none⟩), .int .i64 (Int.ofNat a), .int .i64 (Int.ofNat s)]) :: (h.next, .cells [.slice (some ⟨W, 0, none⟩) 4 4]) :: h.tbl) = some (.cells [.slice (some ⟨W, 0, none⟩) 4 4]) := (look_old (by omega)).trans look_new
  refine WO.load rfl hr0 rfl rfl rfl (WO.mv rfl (WO.fcall_ex rfl rfl (has_run (n := n + 1) (W := W) (i := q) (h := ⟨_, _⟩) kA.fr hq) ?_))
  rintro v2 ⟨tb2, nx2⟩ ⟨rfl, k3⟩
  have hn2 : h.next + 1 + 1 ≤ nx2 := k3.le
  have kB := kA.trans k3
  have hr2 : look h.next tb2 = some (.cells [.slice (some ⟨W, 0, none⟩) 4 4]) := (k3.same h.next (by show h.next < h.next + 1 + 1; omega)).trans hr0
  have hv2 : look (h.next + 1) tb2 = some (.cells [.pointer (some ⟨i, 0, none⟩), .int .i64 (Int.ofNat a), .int .i64 (Int.ofNat s)]) := (k3.same (h.next + 1) (by show h.next + 1 < h.next + 1 + 1; omega)).trans look_new
  have hW2 : look W tb2 = some (.grown 1 3 wds) := (kB.same W hWl).trans hW
  have hA2 : look i tb2 = some (.ext x) := (kB.same i hil).trans hA
  refine WO.pure rfl (WO.nil (thenC_norm (WC.cond_false rfl (WC.skip (thenC_norm (WC.seq (WC.drawnW ?_)))))))
  -- the two calls
  have hfr : Fresh tb2 (nx2 + 14) := fun k hk => kB.fr k (by show nx2 ≤ k; omega)
  obtain ⟨v3, ⟨tb3, nx3⟩, hc3, rfl, k4⟩ := rat_run (n := n) (W := W) (i := q) (h := ⟨tb2, nx2 + 14⟩) hn hfr ⟨_, hW2, rfl⟩ hq
  have hn3 : nx2 + 14 ≤ nx3 := k4.le
  have k4 : Keep tb2 (nx2 + 14) tb3 nx3 := k4
  have hp := pre_step hq
  have hp2 := pre_le (q + 1)
  have hA3 : look i tb3 = some (.ext x) := (k4.same i (by omega)).trans hA2
  obtain ⟨v4, ⟨tb4, nx4⟩, hc4, ⟨y, rfl⟩, k5⟩ := vload_ok (n := n) (i := i) (a := a) (s := s) (b := pre q) (m := wid q) (h := ⟨tb3, nx3⟩) k4.fr hA3 hrf ha hs hc (by omega) (wid_ok q)
  have k5 : Keep tb3 nx3 tb4 nx4 := k5
  have l12 : ∀ nx, (⟨[], tb2, nx⟩ : Mem Ar).load ⟨h.next + 1, 0, none⟩ 3 = some [.pointer (some ⟨i, 0, none⟩), .int .i64 (Int.ofNat a), .int .i64 (Int.ofNat s)] := fun nx => mem_load hv2 rfl rfl
  have l13 : ∀ nx, (⟨[], tb2, nx⟩ : Mem Ar).load ⟨h.next, 0, none⟩ 1 = some [.slice (some ⟨W, 0, none⟩) 4 4] := fun nx => mem_load hr2 rfl rfl
  have m12 : ∀ nx, (⟨[], tb3, nx⟩ : Mem Ar).load ⟨h.next + 1, 0, none⟩ 3 = some [.pointer (some ⟨i, 0, none⟩), .int .i64 (Int.ofNat a), .int .i64 (Int.ofNat s)] := fun nx => mem_load ((k4.same (h.next + 1) (by omega)).trans hv2) rfl rfl
  have hr3 : look h.next tb3 = some (.cells [.slice (some ⟨W, 0, none⟩) 4 4]) := (k4.same h.next (by omega)).trans hr2
  have m17 : ∀ nx, (⟨[], tb3, nx⟩ : Mem Ar).load ⟨h.next, 0 + 0, none⟩ 1 = some [.slice (some ⟨W, 0, none⟩) 4 4] := fun nx => mem_load hr3 rfl rfl
  have l17 : ∀ nx, (⟨[], tb2, nx⟩ : Mem Ar).load ⟨h.next, 0 + 0, none⟩ 1 = some [.slice (some ⟨W, 0, none⟩) 4 4] := fun nx => mem_load hr2 rfl rfl
  have hW3 : look W tb3 = some (.grown 1 3 wds) := (k4.same W (by omega)).trans hW2
  have m20 : ∀ nx, (⟨[], tb3, nx⟩ : Mem Ar).load ⟨W, 0 + q * 1, none⟩ 1 = some [.int .i64 (Int.ofNat (wid q))] := fun nx => mem_load hW3 rfl (by rw [show 0 + q * 1 = q by omega]; exact wds_take hq)
  have l20 : ∀ nx, (⟨[], tb2, nx⟩ : Mem Ar).load ⟨W, 0 + q * 1, none⟩ 1 = some [.int .i64 (Int.ofNat (wid q))] := fun nx => mem_load hW2 rfl (by rw [show 0 + q * 1 = q by omega]; exact wds_take hq)
  refine WD.load rfl (l12 _) rfl (WD.load rfl (l13 _) rfl (WD.pure rfl ?_))
  refine WD.chn (v := .int .i64 (Int.ofNat (pre q))) (m' := ⟨[], tb3, nx3⟩) rfl rfl rfl (Eq.trans (estep_call (vs := [recV W, .int .i64 (Int.ofNat q)]) (kf := 291) (fst := #[]) (caps := #[]) (h := ⟨tb3, nx3⟩) rfl rfl hc3) rfl) ?_
  refine WD.pure rfl (WD.load rfl (m17 _) rfl (WD.pure rfl (WD.pure (pv_idxL (n := q) rfl rfl hq) (WD.load rfl (m20 _) rfl ?_))))
  refine WD.chn (v := .tuple ⟨[.int .u64 (Int.ofNat y), errV 0]⟩) (m' := ⟨[], tb4, nx4⟩) rfl rfl rfl (Eq.trans (estep_call (vs := [vwV i (Int.ofNat a) (Int.ofNat s), .int .i64 (Int.ofNat (pre q)), .int .i64 (Int.ofNat (wid q))]) (kf := 159) (fst := #[]) (caps := #[]) (h := ⟨tb4, nx4⟩) rfl rfl hc4) rfl) ?_
  refine WD.pure rfl (WD.pure rfl (WD.pure rfl (WD.pure rfl (WD.nil ⟨?_, _, _, rfl, ?_⟩))))
  · have c1 : ceqs [Value.pointer (some ⟨i, 0, none⟩), .int .i64 (Int.ofNat a), .int .i64 (Int.ofNat s)] [Value.pointer (some ⟨i, 0, none⟩), .int .i64 (Int.ofNat a), .int .i64 (Int.ofNat s)] = true := by simp [ceqs, ceq, ieqF_eq]
    have c2 : ceqs [Value.slice (some ⟨W, 0, none⟩) 4 4] [Value.slice (some ⟨W, 0, none⟩) 4 4] = true := by simp [ceqs, ceq]
    have c3 : ceqs [Value.int .i64 (Int.ofNat (wid q))] [Value.int .i64 (Int.ofNat (wid q))] = true := by simp [ceqs, ceq, ieqF_eq]
    simp only [heldAll, loadsIn, l12, l13, m12, m17, m20, l20, c1, c2, c3]
    rfl
  refine thenC_norm (WC.ret ?_)
  exact ⟨_, _, rfl, rfl, ⟨y, rfl⟩, (kB.more (n'' := nx2 + 14) (by show nx2 ≤ nx2 + 14; omega)).trans (k4.trans k5)⟩

theorem rall_run {n i W : Nat} {x : Ar} {a s : Nat} {h : Hp Ar} (hn : 10 ≤ n) (hf : Fresh h.tbl h.next) (hA : look i h.tbl = some (.ext x)) (hrf : x.refuse < 9223372036854775808) (hW : look W h.tbl = some (.grown 1 3 wds)) (ha : a ≤ 4294967296) (hs : s ≤ 4294967296) (h24 : 24 ≤ s) (hc : checkN x.pages a s = 0) :
    ∃ v h', R1 (n + 4) 149 [recV W, vwV i (Int.ofNat a) (Int.ofNat s)] h = some (v, h') ∧ ∃ G, ∃ ys : List Nat, v = .tuple ⟨[.slice (some ⟨G, 0, none⟩) 4 4, errV 0]⟩ ∧ ys.length = 4 ∧ look G h'.tbl = some (.grown 1 42 (ys.map fun y => .int .u64 (Int.ofNat y))) ∧ h.next ≤ G ∧ Keep h.tbl h.next h'.tbl h'.next := by
  have hil := lt_of_look hf hA
  have hWl := lt_of_look hf hW
  refine run_fn (hk1_none (by decide)) f149 (by simp [i149]) ?_
  dsimp only [i149, argsE]
  have k1 := Keep.new hf (.cells [.slice (some ⟨W, 0, none⟩) 4 4])
  have k2 := Keep.new k1.fr (.cells [.pointer (some ⟨i, 0, none⟩), .int .i64 (Int.ofNat a), .int .i64 (Int.ofNat s)])
  have kA := k1.trans k2
  have hr0 : look h.next ((h.next + 1, .cells [.pointer (some ⟨i, 0, none⟩), .int .i64 (Int.ofNat a), .int .i64 (Int.ofNat s)]) :: (h.next, .cells [.slice (some ⟨W, 0, none⟩) 4 4]) :: h.tbl) = some (.cells [.slice (some ⟨W, 0, none⟩) 4 4]) := (look_old (by omega)).trans look_new
  have hv0 : look (h.next + 1) ((h.next + 1, .cells [.pointer (some ⟨i, 0, none⟩), .int .i64 (Int.ofNat a), .int .i64 (Int.ofNat s)]) :: (h.next, .cells [.slice (some ⟨W, 0, none⟩) 4 4]) :: h.tbl) = some (.cells [.pointer (some ⟨i, 0, none⟩), .int .i64 (Int.ofNat a), .int .i64 (Int.ofNat s)]) := look_new
  have hW0 := (kA.same W hWl).trans hW
  have hA0 := (kA.same i hil).trans hA
  refine WC.seq (WC.ops (WO.box rfl rfl (WO.box rfl rfl (WO.mv rfl (WO.mv rfl (WO.nil (thenC_norm (WC.seq (WC.seq (WC.drawnW ?_))))))))))
  generalize ((h.next + 1, AObj.cells [Value.pointer (some ⟨i, 0, none⟩), .int .i64 (Int.ofNat a), .int .i64 (Int.ofNat s)]) :: (h.next, .cells [.slice (some ⟨W, 0, none⟩) 4 4]) :: h.tbl) = tb0 at kA hr0 hv0 hW0 hA0
  have kA : Keep h.tbl h.next tb0 (h.next + 1 + 1) := kA
  have hfr : Fresh tb0 (h.next + 1 + 1 + 9) := fun k hk => kA.fr k (by omega)
  obtain ⟨v3, ⟨tb3, nx3⟩, hc3, rfl, k3⟩ := size_run (n := n + 1) (W := W) (h := ⟨tb0, h.next + 1 + 1 + 9⟩) (by omega) hfr ⟨_, hW0, rfl⟩
  have k3 : Keep tb0 (h.next + 1 + 1 + 9) tb3 nx3 := k3
  have hn3 := k3.le
  obtain ⟨v4, ⟨tb4, nx4⟩, hc4, ⟨st, rfl⟩, k4⟩ := vbytes_ok (n := n + 1) (i := i) (a := a) (s := s) (m := 24) (h := ⟨tb3, nx3⟩) k3.fr ((k3.same i (by omega)).trans hA0) hrf ha hs hc h24
  have k4 : Keep tb3 nx3 tb4 nx4 := k4
  have hn4 := k4.le
  have l13 : ∀ nx, (⟨[], tb0, nx⟩ : Mem Ar).load ⟨h.next + 1, 0, none⟩ 3 = some [.pointer (some ⟨i, 0, none⟩), .int .i64 (Int.ofNat a), .int .i64 (Int.ofNat s)] := fun nx => mem_load hv0 rfl rfl
  have l14 : ∀ nx, (⟨[], tb0, nx⟩ : Mem Ar).load ⟨h.next, 0, none⟩ 1 = some [.slice (some ⟨W, 0, none⟩) 4 4] := fun nx => mem_load hr0 rfl rfl
  have m13 : ∀ nx, (⟨[], tb3, nx⟩ : Mem Ar).load ⟨h.next + 1, 0, none⟩ 3 = some [.pointer (some ⟨i, 0, none⟩), .int .i64 (Int.ofNat a), .int .i64 (Int.ofNat s)] := fun nx => mem_load ((k3.same (h.next + 1) (by omega)).trans hv0) rfl rfl
  refine WD.load rfl (l13 _) rfl (WD.load rfl (l14 _) rfl ?_)
  refine WD.chn (v := .int .i64 (Int.ofNat 24)) (m' := ⟨[], tb3, nx3⟩) rfl rfl rfl (Eq.trans (estep_call (vs := [recV W]) (kf := 232) (fst := #[]) (caps := #[]) (h := ⟨tb3, nx3⟩) rfl rfl hc3) rfl) ?_
  refine WD.chn (v := .tuple ⟨[.string st, errV 0]⟩) (m' := ⟨[], tb4, nx4⟩) rfl rfl rfl (Eq.trans (estep_call (vs := [vwV i (Int.ofNat a) (Int.ofNat s), .int .i64 (Int.ofNat 0), .int .i64 (Int.ofNat 24)]) (kf := 231) (fst := #[]) (caps := #[]) (h := ⟨tb4, nx4⟩) rfl rfl hc4) rfl) ?_
  refine WD.pure rfl (WD.pure rfl (WD.pure rfl (WD.pure rfl (WD.pure rfl (WD.nil ⟨?_, _, _, rfl, ?_⟩)))))
  · have c1 : ceqs [Value.pointer (some ⟨i, 0, none⟩), .int .i64 (Int.ofNat a), .int .i64 (Int.ofNat s)] [Value.pointer (some ⟨i, 0, none⟩), .int .i64 (Int.ofNat a), .int .i64 (Int.ofNat s)] = true := by simp [ceqs, ceq, ieqF_eq]
    have c2 : ceqs [Value.slice (some ⟨W, 0, none⟩) 4 4] [Value.slice (some ⟨W, 0, none⟩) 4 4] = true := by simp [ceqs, ceq]
    simp only [heldAll, loadsIn, l13, l14, m13, c1, c2]
    rfl
  have kB : Keep h.tbl h.next tb4 nx4 := (kA.more (n'' := h.next + 1 + 1 + 9) (by omega)).trans (k3.trans k4)
  have hr4 : look h.next tb4 = some (.cells [.slice (some ⟨W, 0, none⟩) 4 4]) := (k4.same h.next (by omega)).trans ((k3.same h.next (by omega)).trans hr0)
  have hv4 : look (h.next + 1) tb4 = some (.cells [.pointer (some ⟨i, 0, none⟩), .int .i64 (Int.ofNat a), .int .i64 (Int.ofNat s)]) := (k4.same (h.next + 1) (by omega)).trans ((k3.same (h.next + 1) (by omega)).trans hv0)
  refine thenC_norm (WC.seq (WC.ops (WO.mv rfl (WO.neqS rfl rfl (fun hne => (hne rfl).elim) (fun _ => ?_)))))
  refine WO.nil (thenC_norm (WC.cond_false rfl (WC.skip (thenC_norm (WC.seq (WC.ops (WO.mv rfl (WO.nil (thenC_norm (WC.seq (WC.seq (WC.ops ?_))))))))))))
  refine WO.fadd rfl (WO.load rfl hr4 rfl rfl rfl (WO.len rfl (WO.mv rfl (WO.nil (thenC_norm (WC.block ?_))))))
  refine WC.loop (fun j e tbl nx => ∃ ys : List Nat, ys.length + j = 4 ∧ e 2 = some (.pointer (some ⟨h.next, 0, none⟩)) ∧ e 3 = some (.pointer (some ⟨h.next + 1, 0, none⟩)) ∧ e 24 = some (.int .i64 (Int.ofNat 4)) ∧ e 25 = some (.int .i64 (Int.ofNat ys.length)) ∧
    look h.next tbl = some (.cells [.slice (some ⟨W, 0, none⟩) 4 4]) ∧ look (h.next + 1) tbl = some (.cells [.pointer (some ⟨i, 0, none⟩), .int .i64 (Int.ofNat a), .int .i64 (Int.ofNat s)]) ∧ Keep h.tbl h.next tbl nx ∧ h.next + 1 < nx ∧
    (ys = [] ∧ e 8 = some (.slice none 0 0) ∨ ys ≠ [] ∧ ∃ G, h.next + 1 < G ∧ e 8 = some (.slice (some ⟨G, 0, none⟩) ys.length ys.length) ∧ look G tbl = some (.grown 1 42 (ys.map fun y => .int .u64 (Int.ofNat y)))))
    (k := 4) (by omega) ⟨[], rfl, rfl, rfl, rfl, rfl, hr4, hv4, kB, by omega, .inl ⟨rfl, rfl⟩⟩ ?_
  rintro j e tbl nx ⟨ys, hy, e2, e3, e24, e25, hr, hv, hk, hnx, hor⟩
  refine WC.seq (WC.ops (WO.lssS e25 e24 (fun hlt => ?_) (fun hlt => ?_)))
  · simp only [Int.ofNat_eq_natCast] at hlt
    have hq : ys.length < 4 := by omega
    refine WO.nil (thenC_norm (WC.seq (WC.cond_true rfl (WC.skip (thenC_norm (WC.seq (WC.block (WC.seq (WC.ops ?_)))))))))
    refine WO.mv e25 (WO.mv rfl (WO.nil (thenC_norm (WC.seq (WC.ops ?_)))))
    refine WO.load e2 hr rfl rfl rfl (WO.load e3 hv rfl rfl rfl (WO.mv rfl ?_))
    refine WO.fcall_ex rfl rfl (rget_run (n := n) (i := i) (W := W) (q := ys.length) (a := a) (s := s) (h := ⟨tbl, nx⟩) hn hk.fr ((hk.same i hil).trans hA) hrf ((hk.same W hWl).trans hW) ha hs h24 hc hq) ?_
    rintro v5 ⟨tb5, nx5⟩ ⟨⟨y, rfl⟩, k5⟩
    have k5 : Keep tbl nx tb5 nx5 := k5
    have hn5 := k5.le
    have kC := hk.trans k5
    refine WO.mv rfl (WO.pure rfl (WO.pure rfl (WO.mv rfl (WO.mv rfl (WO.nil (thenC_norm (WC.ops ?_)))))))
    have hr5 : look h.next tb5 = some (.cells [.slice (some ⟨W, 0, none⟩) 4 4]) := (k5.same h.next (by omega)).trans hr
    have hv5 : look (h.next + 1) tb5 = some (.cells [.pointer (some ⟨i, 0, none⟩), .int .i64 (Int.ofNat a), .int .i64 (Int.ofNat s)]) := (k5.same (h.next + 1) (by omega)).trans hv
    have k6 := Keep.new k5.fr (.cells [.int .u64 (Int.ofNat y)])
    have hsrc : source (⟨[], (nx5, .cells [.int .u64 (Int.ofNat y)]) :: tb5, nx5 + 1⟩ : Mem Ar) 1 (.slice (some ⟨nx5, 0, none⟩) 1 1) = some (1, [.int .u64 (Int.ofNat y)]) := by
      have := mem_loads (nx := nx5 + 1) (sp := none) (o := 0) (n := 1 * 1) (s := [Value.int .u64 (Int.ofNat y)]) (look_new (t := tb5) (n := nx5) (o := .cells [.int .u64 (Int.ofNat y)])) rfl rfl (by decide)
      simp only [source, this, Option.map]
    have hys1 : ys ++ [y] ≠ [] := by simp
    have hyl : (ys ++ [y]).length = ys.length + 1 := by simp
    rcases hor with ⟨rfl, e8⟩ | ⟨hne, G, hG, e8, hGc⟩
    · refine WO.mv e8 (WO.mv rfl (WO.step (v := .slice (some ⟨nx5, 0, none⟩) 1 1) (m' := ⟨[], (nx5, .cells [.int .u64 (Int.ofNat y)]) :: tb5, nx5 + 1⟩) rfl ?_))
      refine WO.append rfl rfl (appendM_new hsrc (by decide) (by decide)) (WO.mv rfl (WO.nil (blockC_norm (thenC_norm (WC.ops ?_)))))
      have k7 := Keep.new k6.fr (.grown 1 42 [.int .u64 (Int.ofNat y)])
      refine WO.add e25 rfl (by decide) (by decide) (WO.mv rfl (WO.nil ?_))
      exact ⟨j - 1, by omega, rfl, [y], by simp only [List.length_cons, List.length_nil] at hy ⊢; omega, e2, e3, e24, rfl, (look_old (n := nx5 + 1) (by omega)).trans ((look_old (n := nx5) (by omega)).trans hr5), (look_old (n := nx5 + 1) (by omega)).trans ((look_old (n := nx5) (by omega)).trans hv5), kC.trans (k6.trans k7), by show h.next + 1 < nx5 + 1 + 1; omega, .inr ⟨by simp, nx5 + 1, by omega, rfl, look_new⟩⟩
    · have hGl : G < nx := lt_of_look hk.fr hGc
      have hG5 : look G tb5 = some (.grown 1 42 (ys.map fun y => .int .u64 (Int.ofNat y))) := (k5.same G hGl).trans hGc
      have hG6 : look G ((nx5, .cells [.int .u64 (Int.ofNat y)]) :: tb5) = some (.grown 1 42 (ys.map fun y => .int .u64 (Int.ofNat y))) := (look_old (by omega)).trans hG5
      have hpos : 0 < ys.length := List.length_pos_iff.2 hne
      have hol : (ys.map fun y => Value.int .u64 (Int.ofNat y)).length = ys.length * 1 := by simp
      have hld : (⟨[], (nx5, .cells [.int .u64 (Int.ofNat y)]) :: tb5, nx5 + 1⟩ : Mem Ar).loads (some ⟨G, 0, none⟩) (ys.length * 1) = some (ys.map fun y => .int .u64 (Int.ofNat y)) := by
        refine mem_loads hG6 rfl ?_ (by omega)
        have : ((ys.map fun y => Value.int .u64 (Int.ofNat y)).drop 0).take (ys.length * 1) = ys.map fun y => Value.int .u64 (Int.ofNat y) := by
          rw [List.drop_zero, ← hol, List.take_length]
        simp only [takeN, this]
        rw [hol, Nat.beq_refl]; rfl
      refine WO.mv e8 (WO.mv rfl (WO.step (v := .slice (some ⟨nx5, 0, none⟩) 1 1) (m' := ⟨[], (nx5, .cells [.int .u64 (Int.ofNat y)]) :: tb5, nx5 + 1⟩) rfl ?_))
      refine WO.append rfl rfl (appendM_more hsrc rfl (by decide) hG6 hol hld (by omega)) (WO.mv rfl (WO.nil (blockC_norm (thenC_norm (WC.ops ?_)))))
      have k7 := (kC.trans k6).del (i := G) (by omega)
      have k8 := Keep.new k7.fr (.grown 1 42 ((ys.map fun y => .int .u64 (Int.ofNat y)) ++ [.int .u64 (Int.ofNat y)]))
      refine WO.add e25 rfl (by simp only [Int.ofNat_eq_natCast]; omega) (by simp only [Int.ofNat_eq_natCast]; omega) (WO.as (b := Int.ofNat (ys ++ [y]).length) (by rw [hyl]; simp only [Int.ofNat_eq_natCast]; omega) (WO.mv rfl (WO.nil ?_)))
      refine ⟨j - 1, by omega, rfl, ys ++ [y], by rw [hyl]; omega, e2, e3, e24, rfl, (look_old (n := nx5 + 1) (by omega)).trans ((look_del_ne (by omega)).trans ((look_old (n := nx5) (by omega)).trans hr5)), (look_old (n := nx5 + 1) (by omega)).trans ((look_del_ne (by omega)).trans ((look_old (n := nx5) (by omega)).trans hv5)), k7.trans k8, by show h.next + 1 < nx5 + 1 + 1; omega, .inr ⟨hys1, nx5 + 1, by omega, by rw [hyl]; rfl, ?_⟩⟩
      rw [List.map_append]; exact look_new
  · simp only [Int.ofNat_eq_natCast] at hlt
    have hq : ys.length = 4 := by omega
    refine WO.nil (thenC_norm (WC.seq (WC.cond_false rfl (WC.exit (thenC_exit (blockC_exit (thenC_norm (WC.seq (WC.ops ?_)))))))))
    rcases hor with ⟨rfl, _⟩ | ⟨hne, G, hG, e8, hGc⟩
    · cases hq
    · rw [hq] at e8
      refine WO.mv e8 (WO.mv rfl (WO.mv rfl (WO.nil (thenC_norm (WC.ret ?_)))))
      exact ⟨_, _, rfl, rfl, G, ys, rfl, hq, hGc, by omega, hk⟩
end Go.AI
/- What the functions above the arena do where an address is not known: a chunk's header that stands where none may. -/
namespace Go.AI
open Go.Proofs

set_option maxHeartbeats 1000000 in
theorem read_off {n i a : Nat} {x : Ar} {h : Hp Ar} (hn : 10 ≤ n) (hf : Fresh h.tbl h.next) (hA : look i h.tbl = some (.ext x)) (hrf : x.refuse < 9223372036854775808) (ha : a ≤ 4294967296) (hc : checkN x.pages a 32 = 0) (hoff : a % 4096 ≠ 0) :
    ∃ v h', R1 (n + 5) 157 [.pointer (some ⟨i, 0, none⟩), .int .i64 (Int.ofNat a)] h = some (v, h') ∧ (v = .tuple ⟨[ck0, errV 7]⟩ ∧ Keep h.tbl h.next h'.tbl h'.next) := by
  refine run_fn (hk1_none (by decide)) f157 (by simp [i157]) ?_
  dsimp only [i157, argsE]
  have hlt := lt_of_look hf hA
  have k1 := Keep.new hf (.cells [.int .i64 (.ofNat 0), .int .i64 (.ofNat 0), .int .u64 (.ofNat 0), .int .i64 (.ofNat 0)])
  have hA1 : look i ((h.next, .cells [.int .i64 (.ofNat 0), .int .i64 (.ofNat 0), .int .u64 (.ofNat 0), .int .i64 (.ofNat 0)]) :: h.tbl) = some (.ext x) := (look_old (by omega)).trans hA
  refine WC.seq (WC.ops (WO.new (WO.mv rfl (WO.nil (thenC_norm (WC.seq (WC.ops ?_)))))))
  refine WO.mv rfl (WO.mv rfl (WO.fcall_ex rfl rfl (of_yes (n := n + 2) (i := i) (a := a) (k := 32) (h := ⟨_, _⟩) k1.fr hA1 hrf hc) ?_))
  rintro v2 ⟨tb2, nx2⟩ ⟨rfl, k2⟩
  have hn2 : h.next + 1 ≤ nx2 := k2.le
  have kA := k1.trans k2
  have h4 : look h.next tb2 = some (.cells [.int .i64 (.ofNat 0), .int .i64 (.ofNat 0), .int .u64 (.ofNat 0), .int .i64 (.ofNat 0)]) := (k2.same h.next (by show h.next < h.next + 1; omega)).trans look_new
  have hA2 : look i tb2 = some (.ext x) := (kA.same i hlt).trans hA
  have k3 := Keep.new kA.fr (.cells [.pointer none, .int .i64 (.ofNat 0), .int .i64 (.ofNat 0)])
  refine WO.mv rfl (WO.pure rfl (WO.pure rfl (WO.new (WO.store (ob' := .cells [.pointer (some ⟨i, 0, none⟩), .int .i64 (Int.ofNat a), .int .i64 (Int.ofNat 32)]) rfl rfl rfl rfl look_new rfl (by show (3 : Nat) ≤ 3; exact Nat.le_refl _) rfl (WO.mv rfl (WO.nil (thenC_norm (WC.seq (WC.seq (WC.ops ?_))))))))))
  have k4 := (kA.trans k3).upd (i := nx2) (o := .cells [.pointer (some ⟨i, 0, none⟩), .int .i64 (Int.ofNat a), .int .i64 (Int.ofNat 32)]) (by omega)
  have h6 : look nx2 (upd nx2 (.cells [.pointer (some ⟨i, 0, none⟩), .int .i64 (Int.ofNat a), .int .i64 (Int.ofNat 32)]) ((nx2, .cells [.pointer none, .int .i64 (.ofNat 0), .int .i64 (.ofNat 0)]) :: tb2)) = some (.cells [.pointer (some ⟨i, 0, none⟩), .int .i64 (Int.ofNat a), .int .i64 (Int.ofNat 32)]) := look_upd_same look_new
  have h4' : look h.next (upd nx2 (.cells [.pointer (some ⟨i, 0, none⟩), .int .i64 (Int.ofNat a), .int .i64 (Int.ofNat 32)]) ((nx2, .cells [.pointer none, .int .i64 (.ofNat 0), .int .i64 (.ofNat 0)]) :: tb2)) = some (.cells [.int .i64 (.ofNat 0), .int .i64 (.ofNat 0), .int .u64 (.ofNat 0), .int .i64 (.ofNat 0)]) := (look_upd_ne (by omega)).trans ((look_old (by omega)).trans h4)
  refine WO.mv rfl (WO.neqS rfl rfl (fun hne => (hne rfl).elim) (fun _ => ?_))
  refine WO.nil (thenC_norm (WC.cond_false rfl (WC.skip (thenC_norm (WC.seq (WC.drawnW ?_))))))
  generalize upd nx2 (AObj.cells [Value.pointer (some ⟨i, 0, none⟩), .int .i64 (Int.ofNat a), .int .i64 (Int.ofNat 32)]) ((nx2, .cells [.pointer none, .int .i64 (.ofNat 0), .int .i64 (.ofNat 0)]) :: tb2) = tb3 at k4 h6 h4'
  have k4 : Keep h.tbl h.next tb3 (nx2 + 1) := k4
  -- the record and its fields
  obtain ⟨v5, ⟨tb5, nx5⟩, hc5, W, hW1, rfl, hW2, k5⟩ := rec_run (n := n + 1) (h := ⟨tb3, nx2 + 1 + 8⟩) (by omega) (fun k hk => k4.fr k (by have : nx2 + 1 + 8 ≤ k := hk; omega))
  have k5 : Keep tb3 (nx2 + 1 + 8) tb5 nx5 := k5
  have hn5 := k5.le
  have h65 : look nx2 tb5 = some (.cells [.pointer (some ⟨i, 0, none⟩), .int .i64 (Int.ofNat a), .int .i64 (Int.ofNat 32)]) := (k5.same nx2 (by omega)).trans h6
  have hA5 : look i tb5 = some (.ext x) := (k5.same i (by omega)).trans ((k4.same i hlt).trans hA)
  obtain ⟨v7, ⟨tb7, nx7⟩, hc7, G, ys, rfl, hyl, hG, hG1, k7⟩ := rall_run (n := n) (i := i) (W := W) (a := a) (s := 32) (h := ⟨tb5, nx5⟩) hn k5.fr hA5 hrf hW2 ha (by decide) (by decide) hc
  have hG : look G tb7 = some (.grown 1 42 (ys.map fun y => .int .u64 (Int.ofNat y))) := hG
  have hG1 : nx5 ≤ G := hG1
  have k7 : Keep tb5 nx5 tb7 nx7 := k7
  have hn7 := k7.le
  obtain ⟨y0, y1, y2, y3, rfl⟩ : ∃ y0 y1 y2 y3, ys = [y0, y1, y2, y3] := by
    match ys, hyl with
    | [y0, y1, y2, y3], _ => exact ⟨y0, y1, y2, y3, rfl⟩
  have l23 : ∀ nx, (⟨[], tb3, nx⟩ : Mem Ar).load ⟨nx2, 0, none⟩ 3 = some [.pointer (some ⟨i, 0, none⟩), .int .i64 (Int.ofNat a), .int .i64 (Int.ofNat 32)] := fun nx => mem_load h6 rfl rfl
  have m23 : ∀ nx, (⟨[], tb5, nx⟩ : Mem Ar).load ⟨nx2, 0, none⟩ 3 = some [.pointer (some ⟨i, 0, none⟩), .int .i64 (Int.ofNat a), .int .i64 (Int.ofNat 32)] := fun nx => mem_load h65 rfl rfl
  refine WD.chn (v := recV W) (m' := ⟨[], tb5, nx5⟩) rfl rfl rfl (Eq.trans (estep_call (vs := []) (kf := 236) (fst := #[]) (caps := #[]) (h := ⟨tb5, nx5⟩) rfl rfl hc5) rfl) ?_
  refine WD.load rfl (m23 _) rfl ?_
  refine WD.chn (v := .tuple ⟨[.slice (some ⟨G, 0, none⟩) 4 4, errV 0]⟩) (m' := ⟨[], tb7, nx7⟩) rfl rfl rfl (Eq.trans (estep_call (vs := [recV W, vwV i (Int.ofNat a) (Int.ofNat 32)]) (kf := 149) (fst := #[]) (caps := #[]) (h := ⟨tb7, nx7⟩) rfl rfl hc7) rfl) ?_
  refine WD.pure rfl (WD.pure rfl (WD.pure rfl (WD.pure rfl (WD.pure rfl (WD.nil ⟨?_, _, _, rfl, ?_⟩)))))
  · have c1 : ceqs [Value.pointer (some ⟨i, 0, none⟩), .int .i64 (Int.ofNat a), .int .i64 (Int.ofNat 32)] [Value.pointer (some ⟨i, 0, none⟩), .int .i64 (Int.ofNat a), .int .i64 (Int.ofNat 32)] = true := by simp [ceqs, ceq, ieqF_eq]
    simp only [heldAll, loadsIn, l23, m23, c1]
    rfl
  have kB : Keep h.tbl h.next tb7 nx7 := (k4.more (n'' := nx2 + 1 + 8) (by omega)).trans (k5.trans k7)
  have h47 : look h.next tb7 = some (.cells [.int .i64 (.ofNat 0), .int .i64 (.ofNat 0), .int .u64 (.ofNat 0), .int .i64 (.ofNat 0)]) := (k7.same h.next (by omega)).trans ((k5.same h.next (by omega)).trans h4')
  have hGl : G < nx7 := lt_of_look k7.fr hG
  -- what the header would say
  have g0 : ∀ nx, (⟨[], tb7, nx⟩ : Mem Ar).load ⟨G, 0 + 1 * 1, none⟩ 1 = some [.int .u64 (Int.ofNat y1)] := fun nx => mem_load hG rfl rfl
  have g1 : ∀ nx, (⟨[], tb7, nx⟩ : Mem Ar).load ⟨G, 0 + 2 * 1, none⟩ 1 = some [.int .u64 (Int.ofNat y2)] := fun nx => mem_load hG rfl rfl
  have g2 : ∀ nx, (⟨[], tb7, nx⟩ : Mem Ar).load ⟨G, 0 + 3 * 1, none⟩ 1 = some [.int .u64 (Int.ofNat y3)] := fun nx => mem_load hG rfl rfl
  change thenC _ _ _ _ Ex.norm _ (⟨[], tb7, nx7⟩ : Mem Ar)
  refine thenC_norm (WC.seq (WC.drawnW ?_))
  refine WD.pure rfl (WD.pure rfl (WD.pure rfl (WD.load rfl (g0 _) rfl (WD.pure (v := .int .i64 (wrapF .i64 (Int.ofNat y1))) rfl ?_))))
  refine WD.pure rfl (WD.pure rfl (WD.load rfl (g1 _) rfl (WD.pure rfl (WD.pure rfl (WD.load rfl (g2 _) rfl (WD.pure (v := .int .i64 (wrapF .i64 (Int.ofNat y3))) rfl ?_))))))
  refine WD.pure rfl (WD.alloc rfl rfl ?_)
  have hnew : look (nx7 + 13) ((nx7 + 13, AObj.cells [Value.int .i64 (.ofNat 0), .int .i64 (.ofNat 0), .int .u64 (.ofNat 0), .int .i64 (.ofNat 0)]) :: tb7) = some (.cells [.int .i64 (.ofNat 0), .int .i64 (.ofNat 0), .int .u64 (.ofNat 0), .int .i64 (.ofNat 0)]) := look_new
  refine WD.chn (v := undef) (m' := ⟨[], upd (nx7 + 13) (.cells [.int .i64 (Int.ofNat a), .int .i64 (wrapF .i64 (Int.ofNat y1)), .int .u64 (Int.ofNat y2), .int .i64 (wrapF .i64 (Int.ofNat y3))]) ((nx7 + 13, AObj.cells [Value.int .i64 (.ofNat 0), .int .i64 (.ofNat 0), .int .u64 (.ofNat 0), .int .i64 (.ofNat 0)]) :: tb7), nx7 + 15⟩) rfl rfl rfl ?_ (WD.nil ⟨?_, _, _, rfl, ?_⟩)
  · exact estep_store (ad := ⟨nx7 + 13, 0, none⟩) rfl rfl rfl rfl (mem_store hnew rfl (by show (4 : Nat) ≤ 4; exact Nat.le_refl _) rfl)
  · have c1 : ∀ y : Nat, ceqs [Value.int .u64 (Int.ofNat y)] [Value.int .u64 (Int.ofNat y)] = true := fun y => by simp [ceqs, ceq, ieqF_eq]
    simp only [heldAll, loadsIn, g0, g1, g2, c1]
    rfl
  have k8 := Keep.new kB.fr (.cells [.int .i64 (.ofNat 0), .int .i64 (.ofNat 0), .int .u64 (.ofNat 0), .int .i64 (.ofNat 0)])
  have kC : Keep h.tbl h.next (upd (nx7 + 13) (.cells [.int .i64 (Int.ofNat a), .int .i64 (wrapF .i64 (Int.ofNat y1)), .int .u64 (Int.ofNat y2), .int .i64 (wrapF .i64 (Int.ofNat y3))]) ((nx7 + 13, AObj.cells [Value.int .i64 (.ofNat 0), .int .i64 (.ofNat 0), .int .u64 (.ofNat 0), .int .i64 (.ofNat 0)]) :: tb7)) (nx7 + 15) := by
    refine ⟨?_, by have := kB.le; omega, fun k hk => ?_⟩
    · intro k hk
      refine (look_upd_ne (by omega)).trans ((look_old (by omega)).trans (kB.fr k (by omega)))
    · have := kB.le
      exact (look_upd_ne (by omega)).trans ((look_old (by omega)).trans (kB.same k hk))
  have h48 : look h.next (upd (nx7 + 13) (.cells [.int .i64 (Int.ofNat a), .int .i64 (wrapF .i64 (Int.ofNat y1)), .int .u64 (Int.ofNat y2), .int .i64 (wrapF .i64 (Int.ofNat y3))]) ((nx7 + 13, AObj.cells [Value.int .i64 (.ofNat 0), .int .i64 (.ofNat 0), .int .u64 (.ofNat 0), .int .i64 (.ofNat 0)]) :: tb7)) = some (.cells [.int .i64 (.ofNat 0), .int .i64 (.ofNat 0), .int .u64 (.ofNat 0), .int .i64 (.ofNat 0)]) := (look_upd_ne (by omega)).trans ((look_old (by omega)).trans h47)
  have hG8 : look G (upd (nx7 + 13) (.cells [.int .i64 (Int.ofNat a), .int .i64 (wrapF .i64 (Int.ofNat y1)), .int .u64 (Int.ofNat y2), .int .i64 (wrapF .i64 (Int.ofNat y3))]) ((nx7 + 13, AObj.cells [Value.int .i64 (.ofNat 0), .int .i64 (.ofNat 0), .int .u64 (.ofNat 0), .int .i64 (.ofNat 0)]) :: tb7)) = some (.grown 1 42 ([y0, y1, y2, y3].map fun y => .int .u64 (Int.ofNat y))) := (look_upd_ne (by omega)).trans ((look_old (by omega)).trans hG)
  refine thenC_norm (WC.seq (WC.seq (WC.ops ?_)))
  refine WO.mv rfl (WO.pure rfl (WO.load rfl hG8 rfl rfl rfl ?_))
  refine WO.neqS rfl rfl (fun _ => ?_) (fun _ => ?_)
  · refine WO.mv rfl (WO.skip rfl rfl (WO.skip rfl rfl (WO.skip rfl rfl (WO.pure rfl (WO.mv rfl ?_)))))
    refine WO.skip rfl rfl (WO.skip rfl rfl (WO.skip rfl rfl (WO.skip rfl rfl (WO.pure rfl (WO.mv rfl ?_)))))
    refine WO.skip rfl rfl (WO.skip rfl rfl (WO.skip rfl rfl (WO.pure rfl (WO.nil (thenC_norm (WC.cond_true rfl (WC.seq (WC.ops ?_))))))))
    refine WO.pure rfl (WO.store (ob' := .cells [.int .i64 (.ofNat 0), .int .i64 (.ofNat 0), .int .u64 (.ofNat 0), .int .i64 (.ofNat 0)]) rfl rfl rfl rfl h48 rfl (by show (4 : Nat) ≤ 4; exact Nat.le_refl _) rfl (WO.mv rfl (WO.nil (thenC_norm (WC.ret ?_)))))
    exact ⟨[ck0, errV 7], _, resV_cell rfl (mem_load (look_upd_same h48) rfl rfl) rfl (resV_tmp rfl rfl), rfl, rfl, kC.upd (Nat.le_refl _)⟩
  · refine WO.mv rfl (WO.take rfl rfl (WO.mv rfl (WO.take rfl rfl (WO.rem rfl rfl (WO.take rfl rfl (WO.neqS rfl rfl (fun _ => ?_) (fun he => ?_)))))))
    · refine WO.pure rfl (WO.mv rfl ?_)
      refine WO.skip rfl rfl (WO.skip rfl rfl (WO.skip rfl rfl (WO.skip rfl rfl (WO.pure rfl (WO.mv rfl ?_)))))
      refine WO.skip rfl rfl (WO.skip rfl rfl (WO.skip rfl rfl (WO.pure rfl (WO.nil (thenC_norm (WC.cond_true rfl (WC.seq (WC.ops ?_))))))))
      refine WO.pure rfl (WO.store (ob' := .cells [.int .i64 (.ofNat 0), .int .i64 (.ofNat 0), .int .u64 (.ofNat 0), .int .i64 (.ofNat 0)]) rfl rfl rfl rfl h48 rfl (by show (4 : Nat) ≤ 4; exact Nat.le_refl _) rfl (WO.mv rfl (WO.nil (thenC_norm (WC.ret ?_)))))
      exact ⟨[ck0, errV 7], _, resV_cell rfl (mem_load (look_upd_same h48) rfl rfl) rfl (resV_tmp rfl rfl), rfl, rfl, kC.upd (Nat.le_refl _)⟩
    · exact (hoff (Int.ofNat.inj he)).elim
end Go.AI
/- Addresses that are not known: chunk.Read, and whether a list has one. -/
namespace Go.AI
open Go.Proofs

/-- Which pages are committed. -/
def pat : List (Option Nat) → List Bool
  | [] => []
  | none :: r => false :: pat r
  | some _ :: r => true :: pat r
def beqs : List Bool → List Bool → Bool
  | [], [] => true
  | true :: a, true :: b => beqs a b
  | false :: a, false :: b => beqs a b
  | _, _ => false
theorem beqs_eq : ∀ {a b : List Bool}, beqs a b = true → a = b
  | [], [], _ => rfl
  | true :: a, true :: b, h => by rw [beqs_eq (a := a) (b := b) h]
  | false :: a, false :: b, h => by rw [beqs_eq (a := a) (b := b) h]
  | true :: _, false :: _, h => by cases h
  | false :: _, true :: _, h => by cases h
  | [], _ :: _, h => by cases h
  | true :: _, [], h => by cases h
  | false :: _, [], h => by cases h
theorem pat_len : ∀ l, (pat l).length = l.length
  | [] => rfl
  | none :: r => by simp only [pat, List.length_cons, pat_len r]
  | some _ :: r => by simp only [pat, List.length_cons, pat_len r]
theorem pat_at : ∀ (l m : List (Option Nat)), pat l = pat m → ∀ i, (pgAt l i).isSome = (pgAt m i).isSome
  | [], [], _, i => rfl
  | none :: r, none :: t, h, 0 => rfl
  | some _ :: r, some _ :: t, h, 0 => rfl
  | none :: r, none :: t, h, i + 1 => pat_at r t (by injection h) i
  | some _ :: r, some _ :: t, h, i + 1 => pat_at r t (by injection h) i
  | none :: _, some _ :: _, h, _ => by injection h with h; cases h
  | some _ :: _, none :: _, h, _ => by injection h with h; cases h
  | [], none :: _, h, _ => by cases h
  | [], some _ :: _, h, _ => by cases h
  | none :: _, [], h, _ => by cases h
  | some _ :: _, [], h, _ => by cases h
theorem allC_pat {l m : List (Option Nat)} (h : pat l = pat m) : ∀ (k p : Nat), allC l p k = allC m p k
  | 0, _ => rfl
  | k + 1, p => by
    have h1 := pat_at l m h p
    simp only [allC]
    cases h2 : pgAt l p with
    | none =>
      cases h3 : pgAt m p with
      | none => rfl
      | some Q => rw [h2, h3] at h1; cases h1
    | some P =>
      cases h3 : pgAt m p with
      | none => rw [h2, h3] at h1; cases h1
      | some Q => exact allC_pat h k (p + 1)
theorem checkN_pat {l m : List (Option Nat)} (h : pat l = pat m) (a k : Nat) : checkN l a k = checkN m a k := by
  have hl : l.length = m.length := by rw [← pat_len l, ← pat_len m, h]
  unfold checkN
  rw [hl, allC_pat h]
theorem checkA_pat {l m : List (Option Nat)} (h : pat l = pat m) (a k : Int) : checkA l a k = checkA m a k := by
  unfold checkA
  split
  · exact checkN_pat h _ _
  · rfl

/-- What is known of a number: 2^63: there are no 32 bytes; 2^63 + 1: there are, but no page begins there. (Of an arena with just these pages.) And it is none of some. -/
def ClsP (X : List (Option Nat)) (L : List Int) (c : Nat) (z : Int) : Prop :=
  c = 9223372036854775810 ∨ (∀ n ∈ L, z ≠ n) ∧ ((c = 9223372036854775808 ∧ checkA X z (Int.ofNat 32) ≠ 0) ∨ (c = 9223372036854775809 ∧ ∃ a : Nat, z = Int.ofNat a ∧ a ≤ 4294967296 ∧ checkN X a 32 = 0 ∧ a % 4096 ≠ 0))

/-- chunk.Read: of a number that is not known; of others it is walked. -/
noncomputable def readH (X : List (Option Nat)) (l : List (HookF Ar)) : List Value → Hp Ar → Option (Value × Hp Ar)
  | [.pointer (some ⟨i, 0, none⟩), .chan (some j)], h => match look i h.tbl, look j h.tbl with
    | some (.ext x), some (.ext y) => bif beqs (pat x.pages) (pat X) && Nat.blt x.refuse 9223372036854775808 then
        (bif Nat.beq y.refuse 9223372036854775808 then some (.tuple ⟨[ck0, errV 3]⟩, h) else bif Nat.beq y.refuse 9223372036854775809 then some (.tuple ⟨[ck0, errV 7]⟩, h) else none) else none
    | _, _ => none
  | vs, h => runK F1 cleanT (hookL l) 100 157 vs h fun v h => some (v, h)

theorem read_ok {W0 : World} {X : List (Option Nat)} {L : List Int} {l : List (HookF Ar)} (hl : ∀ x ∈ l, HookOk (Ext1 (ClsP X L)) PZ W0 x.1 x.2) : HookOk (Ext1 (ClsP X L)) PZ W0 157 (readH X l) := by
  intro vs hp v h2 hr ρ φ w hG vs' hvs
  unfold readH at hr
  split at hr
  · rename_i i j
    split at hr
    · rename_i x y hx hy
      cases hpb : (beqs (pat x.pages) (pat X) && Nat.blt x.refuse 9223372036854775808) with
      | false => rw [hpb] at hr; cases hr
      | true =>
        rw [hpb, cond_true] at hr
        rw [Bool.and_eq_true, blt_iff, decide_eq_true_eq] at hpb
        obtain ⟨hpat, hrf⟩ := hpb
        have hpat := beqs_eq hpat
        obtain ⟨p1, p2, rfl, hv1, hv2⟩ : ∃ p1 p2, vs' = [p1, p2] ∧ VR ρ (.pointer (some ⟨i, 0, none⟩)) p1 ∧ VR ρ (.chan (some j)) p2 := by
          cases hvs with
          | cons a t => cases t with
            | cons b t => cases t; exact ⟨_, _, rfl, a, b⟩
        obtain ⟨b, s, hρ, rfl⟩ : ∃ b s, ρ j = some (b, s) ∧ p2 = Value.int .i64 (decZ b) := by
          cases hv2 with
          | x hx1 => cases hx1 with
            | flat hf => cases hf with
              | tok he => exact ⟨_, _, he, rfl⟩
        obtain ⟨b', s', hρ', hrel⟩ := hG.rel j _ hy
        rw [hρ] at hρ'
        injection hρ' with hρ'; injection hρ' with e1 e2
        subst e1; subst e2
        have hfr : Fresh hp.tbl hp.next := fun q hq => by
          cases hq2 : look q hp.tbl with
          | none => rfl
          | some o => have := hG.lt hq2; omega
        have key : ∀ e : Nat, (∃ v' h', R1 20 157 [.pointer (some ⟨i, 0, none⟩), .int .i64 (decZ b)] hp = some (v', h') ∧ (v' = .tuple ⟨[ck0, errV e]⟩ ∧ Keep hp.tbl hp.next h'.tbl h'.next)) → some (Value.tuple ⟨[ck0, errV e]⟩, hp) = some (v, h2) → (((∃ fn c, PZ.funcs[157]? = some fn ∧ fn.body = some c ∧ (fn.name == "runtime.NumGoroutine") = false) ∧ Calls PZ 157 ⟨[p1, .int .i64 (decZ b)]⟩ w fun e w' => ∃ v' ρ' φ', e = .returned v' ∧ VR ρ' v v' ∧ Post (E := Ext1 (ClsP X L)) W0 ρ φ (fun i => look i hp.tbl) hp.next w ρ' φ' (fun i => look i h2.tbl) h2.next w') ∨
          ∃ v' w' ρ' φ', (callFunc 157 ⟨[p1, .int .i64 (decZ b)]⟩).run PZ w = .ok (.value v') w' ∧ VR ρ' v v' ∧ Post (E := Ext1 (ClsP X L)) W0 ρ φ (fun i => look i hp.tbl) hp.next w ρ' φ' (fun i => look i h2.tbl) h2.next w') := by
          rintro e ⟨v1, h1, hrun, rfl, hk⟩ hq
          simp only [Option.some.injEq, Prod.mk.injEq] at hq
          obtain ⟨rfl, rfl⟩ := hq
          have hvs2 : All2 (VR ρ) [.pointer (some ⟨i, 0, none⟩), .int .i64 (decZ b)] [p1, .int .i64 (decZ b)] := .cons hv1 (.cons (.of_flat (.int _ _)) .nil)
          have hsee : ∀ k o, look k hp.tbl = some o → look k h1.tbl = some o := fun k o hk' => (hk.same k (lt_of_look hfr hk')).trans hk'
          have hvv : ∀ {ρ1 : Ren} {u : Value}, VR ρ1 (.tuple ⟨[ck0, errV e]⟩) u → VR ρ (.tuple ⟨[ck0, errV e]⟩) u := by
            intro ρ1 u hu
            obtain ⟨ys, rfl, h2⟩ := hu.tup_inv
            cases h2 with
            | cons a t =>
              cases t with
              | cons b t =>
                cases t
                refine .tup (.cons ?_ (.cons ?_ .nil))
                · cases a with
                  | flat r => cases r
                  | agg r =>
                    refine .agg ?_
                    cases r with
                    | cons r1 r => cases r with
                      | cons r2 r => cases r with
                        | cons r3 r => cases r with
                          | cons r4 r =>
                            cases r; cases r1; cases r2; cases r3; cases r4
                            exact .cons (.int _ _) (.cons (.int _ _) (.cons (.int _ _) (.cons (.int _ _) .nil)))
                · cases b with
                  | flat r => cases r; exact .flat (.int _ _)
          exact (R1_ok (W0 := W0) (Cls := ClsP X L) 157 _ hp _ h1 hrun ρ φ w hG _ hvs2).imp
            (fun ⟨q1, q2⟩ => ⟨q1, calls_mono q2 fun e' w' ⟨v', ρ', φ', a1, a2, a3⟩ => ⟨v', ρ, φ', a1, hvv a2, a3.forget hG hsee⟩⟩)
            (fun ⟨v', w', ρ', φ', a1, a2, a3⟩ => ⟨v', w', ρ, φ', a1, hvv a2, a3.forget hG hsee⟩)
        cases hy1 : Nat.beq y.refuse 9223372036854775808 with
        | true =>
          rw [hy1, cond_true] at hr
          rw [Nat.beq_eq] at hy1
          have hcl : ClsP X L y.refuse (decZ b) := by
            rcases (hrel : ArRel y b (φ j).1 (φ j).2 w ∨ TkRel (ClsP X L) y b (φ j).1 (φ j).2) with h | h
            · obtain ⟨_, _, _, _, _, _, h1, _⟩ := h
              have := h1.ref; omega
            · exact h.2.2.2
          refine key 3 ?_ hr
          rcases hcl with h | ⟨_, h | h⟩
          · exact absurd h (by omega)
          · exact read_no (n := 17) hfr hx hrf (by rw [checkA_pat hpat]; exact h.2)
          · exact absurd h.1 (by omega)
        | false =>
          rw [hy1, cond_false] at hr
          cases hy2 : Nat.beq y.refuse 9223372036854775809 with
          | false => rw [hy2] at hr; cases hr
          | true =>
            rw [hy2, cond_true] at hr
            rw [Nat.beq_eq] at hy2
            have hcl : ClsP X L y.refuse (decZ b) := by
              rcases (hrel : ArRel y b (φ j).1 (φ j).2 w ∨ TkRel (ClsP X L) y b (φ j).1 (φ j).2) with h | h
              · obtain ⟨_, _, _, _, _, _, h1, _⟩ := h
                have := h1.ref; omega
              · exact h.2.2.2
            refine key 7 ?_ hr
            rcases hcl with h | ⟨_, h | h⟩
            · exact absurd h (by omega)
            · exact absurd h.1 (by omega)
            · obtain ⟨_, a, hz, ha, hc, ho⟩ := h
              rw [hz]
              exact read_off (n := 15) (by decide) hfr hx hrf ha (by rw [checkN_pat hpat]; exact hc) ho
    · cases hr
  · have hk := run_of_runK hr
    exact run_sound (esc := escT) mixedZ (hookL_ok hl) 100 157 _ hp _ h2 hk ρ φ w hG vs' hvs
end Go.AI
/- Addresses that are not known: whether a list has one. -/
namespace Go.AI
open Go.Proofs

theorem takeN_get {cs vs : List Value} {o n q : Nat} {v : Value} (h : takeN cs o n = some vs) (hv : vs[q]? = some v) : takeN cs (o + q) 1 = some [v] := by
  refine take_one ?_
  unfold takeN at h
  simp only at h
  cases hb : Nat.beq ((cs.drop o).take n).length n with
  | false => rw [hb] at h; cases h
  | true =>
    rw [hb, cond_true] at h
    injection h with h
    rw [← h, List.getElem?_take] at hv
    split at hv
    · rw [List.getElem?_drop] at hv; exact hv
    · cases hv
theorem takeN_len {cs vs : List Value} {o n : Nat} (h : takeN cs o n = some vs) : vs.length = n := by
  unfold takeN at h
  simp only at h
  cases hb : Nat.beq ((cs.drop o).take n).length n with
  | false => rw [hb] at h; cases h
  | true =>
    rw [hb, cond_true] at h
    injection h with h
    rw [Nat.beq_eq] at hb
    rw [← h]; exact hb

theorem index_run {n i o len c : Nat} {sp : Option Nat} {ob : AObj Ar} {cs vs : List Value} {z : Int} {h : Hp Ar} (hn : len < n) (hs : len < 4611686018427387904) (hi : look i h.tbl = some ob) (hc : cellsO ob = some cs) (ht : takeN cs o len = some vs) (hz : ∀ (q : Nat) (v : Value), vs[q]? = some v → ∃ m : Int, v = Value.int .i64 m ∧ z ≠ m) :
    ∃ v h', R1 (n + 1) 91 [.slice (some ⟨i, o, sp⟩) len c, .int .i64 z] h = some (v, h') ∧ (v = .int .i64 (.negSucc 0) ∧ h' = h) := by
  have hlen := takeN_len ht
  refine run_fn (hk1_none (by decide)) f91 (by simp [i91]) ?_
  dsimp only [i91, argsE]
  refine WC.seq (WC.ops (WO.mv rfl (WO.nil (thenC_norm (WC.seq (WC.seq (WC.ops ?_)))))))
  refine WO.mv rfl (WO.len rfl (WO.mv rfl (WO.nil (thenC_norm (WC.block ?_)))))
  refine WC.loop (fun j e tbl nx => ∃ q, q + j = len ∧ e 0 = some (.slice (some ⟨i, o, sp⟩) len c) ∧ e 1 = some (.int .i64 z) ∧ e 7 = some (.int .i64 (Int.ofNat len)) ∧ e 8 = some (.int .i64 (Int.ofNat q)) ∧ tbl = h.tbl ∧ nx = h.next) (k := len) hn ⟨0, by omega, rfl, rfl, rfl, rfl, rfl, rfl⟩ ?_
  rintro j e tbl nx ⟨q, hq, e0, e1, e7, e8, rfl, rfl⟩
  refine WC.seq (WC.ops (WO.lssS e8 e7 (fun hlt => ?_) (fun hlt => ?_)))
  · simp only [Int.ofNat_eq_natCast] at hlt
    have hql : q < len := by omega
    obtain ⟨v, hv⟩ : ∃ v, vs[q]? = some v := ⟨vs[q], List.getElem?_eq_getElem (by omega)⟩
    obtain ⟨m, rfl, hne⟩ := hz q v hv
    refine WO.nil (thenC_norm (WC.seq (WC.cond_true rfl (WC.skip (thenC_norm (WC.seq (WC.block (WC.seq (WC.ops ?_)))))))))
    refine WO.mv e8 (WO.mv rfl (WO.nil (thenC_norm (WC.seq (WC.ops ?_)))))
    refine WO.mv e1 (WO.mv e0 (WO.mv rfl (WO.idxL rfl rfl rfl hql (WO.load rfl hi hc (by rw [Nat.mul_one]; exact takeN_get ht hv) rfl (WO.eqlS rfl rfl (fun he => (hne he).elim) (fun _ => ?_))))))
    refine WO.nil (thenC_norm (WC.cond_false rfl (WC.skip (blockC_norm (thenC_norm (WC.ops ?_))))))
    refine WO.add e8 rfl (by simp only [Int.ofNat_eq_natCast]; omega) (by simp only [Int.ofNat_eq_natCast]; omega) (WO.as (b := Int.ofNat (q + 1)) (by simp only [Int.ofNat_eq_natCast]; omega) (WO.mv rfl (WO.nil ?_)))
    exact ⟨j - 1, by omega, rfl, q + 1, by omega, e0, e1, e7, rfl, rfl, rfl⟩
  · refine WO.nil (thenC_norm (WC.seq (WC.cond_false rfl (WC.exit (thenC_exit (blockC_exit (thenC_norm (WC.seq (WC.ops (WO.mv rfl (WO.nil (thenC_norm (WC.ret ?_)))))))))))))
    exact ⟨_, _, rfl, rfl, rfl, rfl⟩
theorem contains_run {n i o len c : Nat} {sp : Option Nat} {ob : AObj Ar} {cs vs : List Value} {z : Int} {h : Hp Ar} (hn : len < n) (hs : len < 4611686018427387904) (hi : look i h.tbl = some ob) (hc : cellsO ob = some cs) (ht : takeN cs o len = some vs) (hz : ∀ (q : Nat) (v : Value), vs[q]? = some v → ∃ m : Int, v = Value.int .i64 m ∧ z ≠ m) :
    ∃ v h', R1 (n + 2) 63 [.slice (some ⟨i, o, sp⟩) len c, .int .i64 z] h = some (v, h') ∧ (v = .bool false ∧ h' = h) := by
  refine run_fn (hk1_none (by decide)) f63 (by simp [i63]) ?_
  dsimp only [i63, argsE]
  refine WC.seq (WC.ops (WO.mv rfl (WO.nil (thenC_norm (WC.seq (WC.ops ?_))))))
  refine WO.mv rfl (WO.mv rfl (WO.fcall_ex rfl rfl (index_run (n := n) (sp := sp) (c := c) (h := h) hn hs hi hc ht hz) ?_))
  rintro v2 h2 ⟨rfl, rfl⟩
  refine WO.geqS rfl rfl (fun hh => absurd hh (by decide)) (fun _ => WO.mv rfl (WO.nil (thenC_norm (WC.ret ?_))))
  exact ⟨_, _, rfl, rfl, rfl, rfl⟩

def memZ (n : Int) : List Int → Bool
  | [] => false
  | m :: r => ieqF n m || memZ n r
theorem memZ_mem {n : Int} : ∀ {L : List Int}, memZ n L = true → n ∈ L
  | [], h => by cases h
  | m :: r, h => by
    simp only [memZ, Bool.or_eq_true] at h
    rcases h with h | h
    · rw [ieqF_eq, beq_iff_eq] at h; rw [h]; exact List.mem_cons_self ..
    · exact List.mem_cons_of_mem _ (memZ_mem h)
def allIn (L : List Int) : List Value → Bool
  | [] => true
  | .int .i64 n :: r => memZ n L && allIn L r
  | _ => false
theorem allIn_get {L : List Int} : ∀ {vs : List Value}, allIn L vs = true → ∀ (q : Nat) (v : Value), vs[q]? = some v → ∃ m ∈ L, v = Value.int .i64 m
  | [], _, q, v, h => by simp at h
  | a :: r, ha, q, v, h => by
    have key : ∃ n, a = .int .i64 n ∧ memZ n L = true ∧ allIn L r = true := by
      unfold allIn at ha
      split at ha
      · rename_i e; cases e
      · rename_i n r' e
        injection e with e1 e2; subst e1; subst e2
        rw [Bool.and_eq_true] at ha
        exact ⟨n, rfl, ha.1, ha.2⟩
      · cases ha
    obtain ⟨n, rfl, h1, h2⟩ := key
    cases q with
    | zero =>
      simp only [List.getElem?_cons_zero, Option.some.injEq] at h
      exact ⟨n, memZ_mem h1, h.symm⟩
    | succ q => exact allIn_get h2 q v (by simpa using h)

noncomputable def containsH (L : List Int) (l : List (HookF Ar)) : List Value → Hp Ar → Option (Value × Hp Ar)
  | [.slice (some ⟨i, o, _sp⟩) len _c, .chan (some j)], h => match look i h.tbl, look j h.tbl with
    | some ob, some (.ext y) => bif Nat.ble 9223372036854775808 y.refuse && (Nat.ble y.refuse 9223372036854775809 && Nat.blt len 1000) then (match cellsO ob with
      | some cs => match takeN cs o len with
        | some vs => bif allIn L vs then some (.bool false, h) else none
        | none => none
      | none => none) else none
    | _, _ => none
  | vs, h => runK F1 cleanT (hookL l) 100 63 vs h fun v h => some (v, h)
theorem contains_ok {W0 : World} {X : List (Option Nat)} {L : List Int} {l : List (HookF Ar)} (hl : ∀ x ∈ l, HookOk (Ext1 (ClsP X L)) PZ W0 x.1 x.2) : HookOk (Ext1 (ClsP X L)) PZ W0 63 (containsH L l) := by
  intro vs hp v h2 hr ρ φ w hG vs' hvs
  unfold containsH at hr
  split at hr
  · rename_i i o sp len c j
    split at hr
    · rename_i ob y hi hy
      cases hb : (Nat.ble 9223372036854775808 y.refuse && (Nat.ble y.refuse 9223372036854775809 && Nat.blt len 1000)) with
      | false => rw [hb] at hr; cases hr
      | true =>
        rw [hb, cond_true] at hr
        rw [Bool.and_eq_true, Bool.and_eq_true, Nat.ble_eq, Nat.ble_eq, blt_iff, decide_eq_true_eq] at hb
        obtain ⟨hyr, hyq, hlen⟩ := hb
        split at hr
        · rename_i cs hcs
          split at hr
          · rename_i us hus
            cases hal : allIn L us with
            | false => rw [hal] at hr; cases hr
            | true =>
              rw [hal, cond_true] at hr
              simp only [Option.some.injEq, Prod.mk.injEq] at hr
              obtain ⟨rfl, rfl⟩ := hr
              obtain ⟨p1, p2, rfl, hv1, hv2⟩ : ∃ p1 p2, vs' = [p1, p2] ∧ VR ρ (.slice (some ⟨i, o, sp⟩) len c) p1 ∧ VR ρ (.chan (some j)) p2 := by
                cases hvs with
                | cons a t => cases t with
                  | cons b t => cases t; exact ⟨_, _, rfl, a, b⟩
              obtain ⟨b, s, hρ, rfl⟩ : ∃ b s, ρ j = some (b, s) ∧ p2 = Value.int .i64 (decZ b) := by
                cases hv2 with
                | x hx1 => cases hx1 with
                  | flat hf => cases hf with
                    | tok he => exact ⟨_, _, he, rfl⟩
              obtain ⟨b', s', hρ', hrel⟩ := hG.rel j _ hy
              rw [hρ] at hρ'
              injection hρ' with hρ'; injection hρ' with e1 e2
              subst e1; subst e2
              have hcl : ClsP X L y.refuse (decZ b) := by
                rcases (hrel : ArRel y b (φ j).1 (φ j).2 w ∨ TkRel (ClsP X L) y b (φ j).1 (φ j).2) with h | h
                · obtain ⟨_, _, _, _, _, _, h1, _⟩ := h
                  have := h1.ref; omega
                · exact h.2.2.2
              obtain ⟨v1, h1, hrun, rfl, rfl⟩ := contains_run (n := 1000) (sp := sp) (c := c) (z := decZ b) (h := hp) hlen (by omega) hi hcs hus fun q u hu => by
                obtain ⟨m, hm, rfl⟩ := allIn_get hal q u hu
                rcases hcl with hc | hc
                · omega
                · exact ⟨m, rfl, hc.1 m hm⟩
              exact R1_ok (W0 := W0) (Cls := ClsP X L) 63 _ h1 _ h1 hrun ρ φ w hG _ (.cons hv1 (.cons (.of_flat (.int _ _)) .nil))
          · cases hr
        · cases hr
    · cases hr
  · have hk := run_of_runK hr
    exact run_sound (esc := escT) mixedZ (hookL_ok hl) 100 63 _ hp _ h2 hk ρ φ w hG vs' hvs
end Go.AI
/- Addresses that are not known: the first states. -/
namespace Go.AI
open Go.Proofs

def Ms.callA {X : Type} (lv f : Nat) (vs : List Value) (h : Hp X) : Ms X := ⟨lv, [.ops [(none, .call (some 0) (.c (.func (.func f) #[] #[])) (vs.map .c))]], .norm, [], ⟨[], h.tbl, h.next⟩⟩
theorem evs_consts {env : List (Nat × Value)} : ∀ vs : List Value, evs env (vs.map .c) = some vs
  | [] => rfl
  | v :: r => by simp only [List.map_cons, evs, evo, evs_consts r]
theorem Ms.callA_den {X : Type} {F : Nat → Option IFn} {clean : Nat → Bool} {hook : Hook X} (lv f : Nat) (vs : List Value) (h : Hp X) : (Ms.callA lv f vs h).den F clean hook = run F clean hook lv f vs h := by
  show ((runOps (run F clean hook lv) [(none, .call (some 0) (.c (.func (.func f) #[] #[])) (vs.map .c))] [] ⟨[], h.tbl, h.next⟩).bind fun q => (look 0 q.1).map fun v => (v, (⟨q.2.tbl, q.2.next⟩ : Hp X))) = _
  have he : (vs ++ (#[] : Array Value).toList) = vs := List.append_nil vs
  simp only [runOps, wanted, estep, evo, evs_consts, he]
  show (match (match run F clean hook lv f vs h with | some (v, h) => some (v, (⟨[], h.tbl, h.next⟩ : Mem X)) | none => none) with | some (v, m') => some (putEnv (some 0) v [], m') | none => none).bind _ = _
  cases run F clean hook lv f vs h <;> rfl

/-- A number of which something is known. -/
def tkO (c : Nat) : AObj Ar := .ext ⟨[], true, c⟩
abbrev kA : Nat := 9223372036854775808
abbrev kB : Nat := 9223372036854775809
abbrev kC : Nat := 9223372036854775810

def XT : List (Option Nat) := [some 0, some 0, some 0, some 0, some 0, none, none, none, none, none, none, none, none, none, none, none, none, none, none, none, none, none, none, none, none, none, none, none, none, none]
def LT : List Int := [.ofNat 8192, .ofNat 12288, .ofNat 16384]
noncomputable def hTW : List (HookF Ar) := (157, readH XT h19a) :: (63, containsH LT h19a) :: h19a
def XC : List (Option Nat) := [some 0, some 0, some 0, some 0, none, none, none, none, none, none, none, none, none, none, none, none, none, none, none, none, none, none, none, none, none, none, none, none, none, none]
def LC : List Int := [.ofNat 8192, .ofNat 12288]
noncomputable def hCW : List (HookF Ar) := (157, readH XC h20a) :: (63, containsH LC h20a) :: h20a
end Go.AI
/- Addresses that are not known: the cases. -/
namespace Go.AI
open Go.Proofs

/-- The evaluator's first state, where some numbers stand for ones that are not known. -/
theorem good_toks {Cls : Nat → Int → Prop} {V : View (Ext1 Cls)} {ρ : Ren} {n : Nat} {W : World} (hd : ∀ i, n ≤ i → ρ i = none)
    (hV : ∀ i o, V i = some o → ∃ (x : Ar) (z : Int), o = .ext x ∧ ρ i = some (encZ z, 0) ∧ 9223372036854775808 ≤ x.refuse ∧ Cls x.refuse z) :
    Good W ρ (fun _ => (fun _ => False, fun _ => False)) V n W := by
  refine ⟨hd, fun i o h => ?_, fun i j oi oj b _ _ _ h => h.elim, fun i o b _ h => h.elim, fun i o b _ h => h.elim, fun i o b _ h => h.elim, Nat.le_refl _, fun _ _ => rfl, rfl, rfl⟩
  obtain ⟨x, z, rfl, h1, h2, h3⟩ := hV i o h
  exact ⟨_, _, h1, .inr ⟨h2, fun _ h => h, fun _ h => h, by rw [decZ_encZ]; exact h3⟩⟩

def ren1 (z : Int) : Ren := fun i => if i = 0 then some (encZ z, 0) else none
def ren2 (z y : Int) : Ren := fun i => if i = 0 then some (encZ z, 0) else if i = 1 then some (encZ y, 0) else none
theorem good1 {Cls : Nat → Int → Prop} {z : Int} {c : Nat} (W : World) (hc : 9223372036854775808 ≤ c) (h : Cls c z) :
    Good (E := Ext1 Cls) W (ren1 z) (fun _ => (fun _ => False, fun _ => False)) (fun i => look i (⟨[(0, tkO c)], 1⟩ : Hp Ar).tbl) 1 W := by
  refine good_toks (fun i hi => by unfold ren1; rw [if_neg (by omega)]) fun i o ho => ?_
  rcases Nat.eq_zero_or_pos i with rfl | hp
  · have ho' : some (tkO c) = some o := ho
    injection ho' with ho'; subst ho'
    exact ⟨_, z, rfl, rfl, hc, h⟩
  · exfalso
    have hne : i ≠ 0 := by omega
    cases i with
    | zero => omega
    | succ i => exact nomatch (show none = some o from ho)
theorem good2 {Cls : Nat → Int → Prop} {z y : Int} {c d : Nat} (W : World) (hc : 9223372036854775808 ≤ c) (hd : 9223372036854775808 ≤ d) (h : Cls c z) (h' : Cls d y) :
    Good (E := Ext1 Cls) W (ren2 z y) (fun _ => (fun _ => False, fun _ => False)) (fun i => look i (⟨[(0, tkO c), (1, tkO d)], 2⟩ : Hp Ar).tbl) 2 W := by
  refine good_toks (fun i hi => by unfold ren2; rw [if_neg (by omega), if_neg (by omega)]) fun i o ho => ?_
  match i, ho with
  | 0, ho =>
    have ho' : some (tkO c) = some o := ho
    injection ho' with ho'; subst ho'
    exact ⟨_, z, rfl, rfl, hc, h⟩
  | 1, ho =>
    have ho' : some (tkO d) = some o := ho
    injection ho' with ho'; subst ho'
    exact ⟨_, y, rfl, rfl, hd, h'⟩
  | i + 2, ho => exact nomatch (show none = some o from ho)
theorem tokv {z : Int} {ρ : Ren} {i : Nat} (h : ρ i = some (encZ z, 0)) : VR ρ (.chan (some i)) (.int .i64 z) := by
  have h1 : FR ρ (.chan (some i)) (.int .i64 (decZ (encZ z))) := .tok h
  rw [decZ_encZ] at h1
  exact .of_flat h1

/-- Where a number may be, seen from an arena with just these pages. -/
theorem cls_or (X : List (Option Nat)) (P : Nat) (hX : X.length ≤ 64) (hP : ∀ q, q < 64 → checkN X (q * 4096) 32 = 0 → q < P) (z : Int) :
    (∃ q, q < P ∧ z = Int.ofNat (q * 4096)) ∨ checkA X z (Int.ofNat 32) ≠ 0 ∨ (∃ a : Nat, z = Int.ofNat a ∧ a ≤ 4294967296 ∧ checkN X a 32 = 0 ∧ a % 4096 ≠ 0) := by
  by_cases hc : checkA X z (Int.ofNat 32) = 0
  · cases z with
    | negSucc n => simp [checkA] at hc
    | ofNat a =>
      have hn : checkN X a 32 = 0 := hc
      have hle : a + 32 ≤ X.length * 4096 := by
        unfold checkN at hn
        cases hb : Nat.ble (Nat.add a 32) (Nat.mul X.length 4096) with
        | true => exact Nat.le_of_ble_eq_true hb
        | false => rw [hb] at hn; cases hn
      rcases Nat.eq_zero_or_pos (a % 4096) with h0 | h0
      · have ha : a / 4096 * 4096 = a := by omega
        exact .inl ⟨a / 4096, hP _ (by omega) (by rw [ha]; exact hn), by rw [ha]⟩
      · exact .inr (.inr ⟨a, rfl, by omega, hn, by omega⟩)
  · exact .inr (.inl hc)
theorem XT_or (z : Int) : (∃ q, q < 5 ∧ z = Int.ofNat (q * 4096)) ∨ checkA XT z (Int.ofNat 32) ≠ 0 ∨ (∃ a : Nat, z = Int.ofNat a ∧ a ≤ 4294967296 ∧ checkN XT a 32 = 0 ∧ a % 4096 ≠ 0) :=
  cls_or XT 5 (by decide) (by decide +kernel) z
theorem XC_or (z : Int) : (∃ q, q < 4 ∧ z = Int.ofNat (q * 4096)) ∨ checkA XC z (Int.ofNat 32) ≠ 0 ∨ (∃ a : Nat, z = Int.ofNat a ∧ a ≤ 4294967296 ∧ checkN XC a 32 = 0 ∧ a % 4096 ≠ 0) :=
  cls_or XC 4 (by decide) (by decide +kernel) z

end Go.AI
