/- Regions of the evaluator's in a round's frame of a range over a function, and behind one. No program is named here. -/
import Derived.Test.YtjhcoemfkejgdaaGreatDoorAiHook
import Derived.RangeFuncIn
import Derived.RangeFuncCalls
import Derived.RangeFuncLeaves
import Derived.RangeFuncRecord
namespace Go.AI
variable {P : Program}

/-- The ordinary way out alone. -/
def normK (K : Act → World → Prop) : Exit → Act → World → Prop
  | .normal, a, w => K a w
  | _, _, _ => False
theorem not_lets (K : Act → World → Prop) : ¬ LetsOut (normK K) := fun ⟨_, _, h⟩ => h

def fen : Option Nat → Fence
  | none => Fence.wide
  | some l => Fence.wide.inRound l
theorem fen_fn (ro : Option Nat) (f : FuncId) : (fen ro).fn f := by cases ro <;> trivial
theorem fen_round (ro : Option Nat) : (fen ro).round = ro := by cases ro <;> rfl
theorem fen_depth (ro : Option Nat) : (fen ro).depth = none := by cases ro <;> rfl
theorem fen_room (ro : Option Nat) (n : Nat) : (fen ro).room n := by
  cases ro
  · exact room_wide n
  · exact fun _ h => by simp [fen, Fence.inRound, Fence.wide] at h
theorem fen_calls {ro : Option Nat} {n : Nat} {f : FuncId} {args : Array Value} {w : World} {R : Ending → World → Prop} (h : Calls P f args w R) : CallsIn (fen ro) n P f args w R := by
  cases ro with
  | none => exact callsIn_wide.2 h
  | some l => exact CallsIn.inRound l (callsIn_wide.2 h)
theorem fen_rows {ro : Option Nat} {n : Nat} {row : String} {args : Array Value} {w : World} {R : Value → World → Prop} (h : Rows P row args w R) : RowsIn (fen ro) n P row args w R := by
  have h0 : RowsIn Fence.wide n P row args w R := fun c cs _ => let ⟨v, w', r, s⟩ := h c cs; ⟨v, w', r, stepsIn_wide.2 s⟩
  cases ro with
  | none => exact h0
  | some l => exact fun c cs hr => h0 c cs (room_wide _)

theorem put_more (t : Array Value) (d ds : List Deferred) (x : Option Nat) (v : Value) : (⟨t, d ++ ds⟩ : Act).put x v = ⟨((⟨t, d⟩ : Act).put x v).tmps, ((⟨t, d⟩ : Act).put x v).defers ++ ds⟩ := by
  cases x <;> rfl

theorem upon_fen {ro : Option Nat} {n : Nat} {o : Oper} {t : Array Value} {d ds : List Deferred} {next0 next : Act → World → Prop} {K : Act → World → Prop} {Q : Exit → Act → World → Prop} {r : Result Next}
    (hn : ∀ t d w, next0 ⟨t, d⟩ w → next ⟨t, d ++ ds⟩ w) (h : o.upon P ⟨t, d⟩ next0 (normK K) r) : o.uponIn (fen ro) n P ⟨t, d ++ ds⟩ next Q r := by
  have hd : (fen ro).depth.isSome = true → 1 ≤ n := by rw [fen_depth]; simp
  cases r with
  | ok x w =>
    cases x with
    | value v =>
      show next ((⟨t, d ++ ds⟩ : Act).put o.dst v) w
      rw [put_more]; exact hn _ _ _ h
    | skip =>
      show next ((⟨t, d ++ ds⟩ : Act).put o.dst undef) w
      rw [put_more]; exact hn _ _ _ h
    | defer c =>
      show next ((⟨t, (c :: d) ++ ds⟩ : Act).put o.dst undef) w
      rw [put_more]; exact hn _ _ _ h
    | enter f args =>
      refine ⟨hd, fen_calls (calls_mono' h fun e w' he => ?_)⟩
      cases e with
      | returned v =>
        show next ((⟨t, d ++ ds⟩ : Act).put o.dst v) w'
        rw [put_more]; exact hn _ _ _ he
      | panicked c => exact (he : False).elim
      | outgrown => exact (not_lets K he).elim
    | row row args =>
      refine ⟨hd, fen_rows (Rows.mono h fun v w' he => ?_)⟩
      rw [put_more]; exact hn _ _ _ he
    | _ => exact (h : False).elim
  | halt s w =>
    cases s <;> first | exact (h : False).elim | skip
where
  calls_mono' {f : FuncId} {args : Array Value} {w : World} {R R' : Ending → World → Prop} (h : Calls P f args w R) (hr : ∀ e w', R e w' → R' e w') : Calls P f args w R' :=
    fun cs => let ⟨e, w', fr, r, x⟩ := h cs; ⟨e, w', fr, hr _ _ r, x⟩

def noDefer (ops : Array Oper) : Prop := ∀ (i : Nat) (o : Oper), ops[i]? = some o → ∀ c, o.op ≠ .defer c

theorem ops_fen {ro : Option Nat} {n : Nat} {ops : Array Oper} (hnd : noDefer ops) {K : Act → World → Prop} {Q : Exit → Act → World → Prop} {ds : List Deferred} (hK : ∀ t d w, K ⟨t, d⟩ w → Q .normal ⟨t, d ++ ds⟩ w) :
    ∀ (is : List Nat) (t : Array Value) (d : List Deferred) (w : World), wpOps P ops (normK K) is ⟨t, d⟩ w → wpOpsIn (fen ro) n P ops Q is ⟨t, d ++ ds⟩ w
  | [], t, d, w, h => hK t d w h
  | i :: is, t, d, w, h => by
    simp only [wpOps] at h
    simp only [wpOpsIn]
    cases ho : ops[i]? with
    | none =>
      rw [ho] at h
      exact ops_fen hnd hK is t d w h
    | some o =>
      rw [ho] at h
      simp only at h ⊢
      by_cases hw : Region.wanted o (yielded ops t) = true
      · rw [if_pos hw] at h ⊢
        refine ⟨fun f _ => fen_fn ro f, ?_⟩
        rw [Oper.semAt_eq _ _ _ (hnd i o ho)]
        rcases h with h | ⟨_, h⟩
        · exact upon_fen (fun t d w h => ops_fen hnd hK is t d w h) h
        · exact (not_lets K h).elim
      · rw [if_neg hw] at h ⊢
        refine ⟨fun f _ => fen_fn ro f, ?_⟩
        rw [put_more]
        exact ops_fen hnd hK is _ _ w h

/-- What no operation of a region writes stays. -/
theorem ops_keep {ops : Array Oper} {Q : Exit → Act → World → Prop} {s : Nat} (hs : ∀ (i : Nat) (o : Oper), ops[i]? = some o → o.dst ≠ some s) :
    ∀ (is : List Nat) (a a0 : Act) (w : World), a.tmps.getD s undef = a0.tmps.getD s undef → wpOps P ops (normK fun a w => Q .normal a w) is a w → wpOps P ops (normK fun a w => Q .normal a w ∧ a.tmps.getD s undef = a0.tmps.getD s undef) is a w
  | [], a, a0, w, he, h => ⟨h, he⟩
  | i :: is, a, a0, w, he, h => by
    simp only [wpOps] at h ⊢
    cases ho : ops[i]? with
    | none =>
      rw [ho] at h
      exact ops_keep hs is a a0 w he h
    | some o =>
      rw [ho] at h
      simp only at h ⊢
      have hput : ∀ (a : Act) (v : Value), a.tmps.getD s undef = a0.tmps.getD s undef → (a.put o.dst v).tmps.getD s undef = a0.tmps.getD s undef := by
        intro a v h
        have hne := hs i o ho
        cases hd : o.dst with
        | none => exact h
        | some d =>
          rw [hd] at hne
          have hne' : d ≠ s := fun e => hne (by rw [e])
          simp only [Act.put]
          simp only [Array.getD_eq_getD_getElem?, Array.getElem?_setIfInBounds, hne', if_false] at h ⊢
          exact h
      by_cases hw : Region.wanted o (yielded ops a.tmps) = true
      · rw [if_pos hw] at h ⊢
        rcases h with h | ⟨_, h⟩
        · refine .inl ?_
          revert h
          unfold Oper.wp
          generalize (execOp a.eval o).run P w = r
          intro h
          cases r with
          | ok x w =>
            cases x with
            | value v => exact ops_keep hs is _ a0 w (hput _ _ he) h
            | skip => exact ops_keep hs is _ a0 w (hput _ _ he) h
            | defer c => exact ops_keep hs is _ a0 w (hput { a with defers := c :: a.defers } _ he) h
            | enter f args =>
              refine fun cs => let ⟨e, w', fr, r, x⟩ := h cs; ⟨e, w', fr, ?_, x⟩
              cases e with
              | returned v => exact ops_keep hs is _ a0 w' (hput _ _ he) r
              | panicked c => exact (r : False).elim
              | outgrown => exact (not_lets _ r).elim
            | row row args => exact Rows.mono h fun v w' he' => ops_keep hs is _ a0 w' (hput _ _ he) he'
            | _ => exact (h : False).elim
          | halt st w => cases st <;> first | exact (h : False).elim | skip
        · exact (not_lets _ h).elim
      · rw [if_neg hw] at h ⊢
        exact ops_keep hs is _ a0 w (hput _ _ he) h

section
variable {E : Ext} {W0 : World} {call : CallFn E.X} {N : Nat} {esc : Nat → Bool}

/-- A region in whatever frame: what the evaluator says of it. -/
theorem region_fen {ro : Option Nat} {n : Nat} {ops : Array Oper} {id : Nat} {il : List (Option (Nat × Bool) × IOp)} {Q : Exit → Act → World → Prop} {env env' : List (Nat × Value)} {m m' : Mem E.X} {ρ : Ren} {φ : Foot} {t : Array Value} {ds : List Deferred} {w : World}
    (hC : CallsOk E P W0 call) (hnd : noDefer ops) (hm : mkOps P esc N ops.toList ops.toList = some il) (hr : runOps call il env m = some (env', m')) (hs : St E W0 ρ φ env m N ⟨t, []⟩ w)
    (hQ : ∀ t' w' ρ' φ', To E W0 ρ φ m w ρ' φ' env' m' N ⟨t', []⟩ w' → Q .normal ⟨t', ds⟩ w') : (Code.region id ops false).wpIn (fen ro) n P Q ⟨t, ds⟩ w := by
  refine wpIn_region ?_
  have h := ops_sound (Q := normK fun a' w' => ∃ ρ' φ', To E W0 ρ φ m w ρ' φ' env' m' N a' w') hC ops.toList 0 il env env' m m' ⟨t, []⟩ w ρ φ rfl hm hr hs (fun a' w' ρ' φ' ht => ⟨ρ', φ', ht⟩)
  rw [List.range_eq_range']
  rw [Array.length_toList] at h
  have := ops_fen (ro := ro) (n := n) hnd (ds := ds) (Q := Q) (fun t' d' w' ⟨ρ', φ', ht⟩ => by
    have : d' = [] := ht.st.df
    subst this
    exact hQ t' w' ρ' φ' ht) _ t [] w h
  exact this
/-- The same, with what stays in a temporary that it doesn't write. -/
theorem region_keep {ro : Option Nat} {n : Nat} {ops : Array Oper} {id s : Nat} {il : List (Option (Nat × Bool) × IOp)} {Q : Exit → Act → World → Prop} {env env' : List (Nat × Value)} {m m' : Mem E.X} {ρ : Ren} {φ : Foot} {t : Array Value} {ds : List Deferred} {w : World}
    (hC : CallsOk E P W0 call) (hnd : noDefer ops) (hk : ∀ (i : Nat) (o : Oper), ops[i]? = some o → o.dst ≠ some s) (hm : mkOps P esc N ops.toList ops.toList = some il) (hr : runOps call il env m = some (env', m')) (hs : St E W0 ρ φ env m N ⟨t, []⟩ w)
    (hQ : ∀ t' w' ρ' φ', To E W0 ρ φ m w ρ' φ' env' m' N ⟨t', []⟩ w' → t'.getD s undef = t.getD s undef → Q .normal ⟨t', ds⟩ w') : (Code.region id ops false).wpIn (fen ro) n P Q ⟨t, ds⟩ w := by
  refine wpIn_region ?_
  have h := ops_sound (Q := normK fun a' w' => ∃ ρ' φ', To E W0 ρ φ m w ρ' φ' env' m' N a' w') hC ops.toList 0 il env env' m m' ⟨t, []⟩ w ρ φ rfl hm hr hs (fun a' w' ρ' φ' ht => ⟨ρ', φ', ht⟩)
  rw [Array.length_toList] at h
  have h := ops_keep (Q := fun e a' w' => ∃ ρ' φ', To E W0 ρ φ m w ρ' φ' env' m' N a' w') hk _ ⟨t, []⟩ ⟨t, []⟩ w rfl h
  rw [List.range_eq_range']
  have := ops_fen (ro := ro) (n := n) hnd (ds := ds) (Q := Q) (fun t' d' w' ⟨⟨ρ', φ', ht⟩, he⟩ => by
    have : d' = [] := ht.st.df
    subst this
    exact hQ t' w' ρ' φ' ht he) _ t [] w h
  exact this

/-- Blocks that no object of the evaluator's is, or reads. -/
theorem Good.beyond {ρ : Ren} {φ : Foot} {V : View E} {n : Nat} {w w' : World} (g : Good W0 ρ φ V n w) (hD : ∀ i o c, V i = some o → (φ i).2 c → w'.heap[c]? = w.heap[c]?) (hsz : w.heap.size ≤ w'.heap.size) (hb : ∀ b, b < W0.heap.size → w'.heap[b]? = w.heap[b]?)
    (ho : w'.os = w.os) (hp : w'.output = w.output) : Good W0 ρ φ V n w' where
  dom := g.dom
  rel := fun i o hi => let ⟨b, s, h1, h2⟩ := g.rel i o hi; ⟨b, s, h1, h2.frame (Ren.le_refl ρ) fun c hc => hD i o c hi hc⟩
  dis := g.dis
  sub := g.sub
  lts := fun i o b hi hb => Nat.lt_of_lt_of_le (g.lts i o b hi hb) hsz
  frs := g.frs
  size := Nat.le_trans g.size hsz
  base := fun b h => by rw [hb b h]; exact g.base b h
  os := by rw [ho]; exact g.os
  out := by rw [hp]; exact g.out
end
end Go.AI
