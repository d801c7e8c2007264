/- The abstract heap of the evaluator: how its values and objects stand for the model's memory; the laws by which a step keeps this. No program is named here. -/
import Derived.Orders
import Derived.Laws.Sem
namespace Go.AI

/-! ### Lists of pairs -/

def look {α : Type} (s : Nat) : List (Nat × α) → Option α
  | [] => none
  | x :: r => bif Nat.beq s x.1 then some x.2 else look s r

def upd {α : Type} (s : Nat) (y : α) : List (Nat × α) → List (Nat × α)
  | [] => []
  | x :: r => bif Nat.beq s x.1 then (x.1, y) :: r else x :: upd s y r

def del {α : Type} (s : Nat) : List (Nat × α) → List (Nat × α)
  | [] => []
  | x :: r => bif Nat.beq s x.1 then del s r else x :: del s r

theorem look_cons {α : Type} (s : Nat) (x : Nat × α) (r : List (Nat × α)) : look s (x :: r) = if s = x.1 then some x.2 else look s r := by
  show (bif Nat.beq s x.1 then some x.2 else look s r) = _
  by_cases h : s = x.1
  · subst h; simp
  · have : Nat.beq s x.1 = false := by rw [← Bool.not_eq_true, Nat.beq_eq]; exact h
    simp [this, h]

theorem look_upd {α : Type} (s t : Nat) (y : α) : ∀ (l : List (Nat × α)), look s (upd t y l) = if s = t then (look s l).map (fun _ => y) else look s l
  | [] => by simp [upd, look]
  | x :: r => by
    unfold upd
    by_cases h : t = x.1
    · subst h
      simp only [Nat.beq_refl, cond_true, look_cons]
      by_cases h2 : s = x.1 <;> simp [h2]
    · have : Nat.beq t x.1 = false := by rw [← Bool.not_eq_true, Nat.beq_eq]; exact h
      simp only [this, cond_false, look_cons, look_upd s t y r]
      by_cases h2 : s = x.1
      · subst h2
        have h3 : ¬ x.1 = t := fun e => h e.symm
        simp [h3]
      · simp [h2]

theorem look_del {α : Type} (s t : Nat) : ∀ (l : List (Nat × α)), look s (del t l) = if s = t then none else look s l
  | [] => by simp [del, look]
  | x :: r => by
    unfold del
    by_cases h : t = x.1
    · subst h
      simp only [Nat.beq_refl, cond_true, look_cons, look_del s x.1 r]
      by_cases h2 : s = x.1 <;> simp [h2]
    · have : Nat.beq t x.1 = false := by rw [← Bool.not_eq_true, Nat.beq_eq]; exact h
      simp only [this, cond_false, look_cons, look_del s t r]
      by_cases h2 : s = x.1
      · subst h2
        have h3 : ¬ x.1 = t := fun e => h e.symm
        simp [h3]
      · simp [h2]

/-! ### Values -/

/-- Where an object of the abstract heap lies: its block, and by how many elements its row is longer than is known. -/
abbrev Ren := Nat → Option (Nat × Nat)

def Ren.le (ρ ρ' : Ren) : Prop := ∀ i x, ρ i = some x → ρ' i = some x
theorem Ren.le_refl (ρ : Ren) : ρ.le ρ := fun _ _ h => h
theorem Ren.le_trans {a b c : Ren} (h : a.le b) (h' : b.le c) : a.le c := fun i x e => h' i x (h i x e)

inductive AR (ρ : Ren) : Addr → Addr → Prop
  | mk {i b s o : Nat} (h : ρ i = some (b, s)) : AR ρ ⟨i, o, none⟩ ⟨b, o, none⟩

/-- The pairs of lists whose members stand to each other, place by place. -/
inductive All2 {α β : Type} (R : α → β → Prop) : List α → List β → Prop
  | nil : All2 R [] []
  | cons {a b x y} (h : R a b) (t : All2 R x y) : All2 R (a :: x) (b :: y)

namespace All2
variable {α β : Type} {R R' : α → β → Prop}
theorem mono (h : ∀ a b, R a b → R' a b) : ∀ {x y}, All2 R x y → All2 R' x y
  | _, _, .nil => .nil
  | _, _, .cons a t => .cons (h _ _ a) (t.mono h)
theorem length : ∀ {x y}, All2 R x y → x.length = y.length
  | _, _, .nil => rfl
  | _, _, .cons _ t => by simp [t.length]
theorem append : ∀ {x y x' y'}, All2 R x y → All2 R x' y' → All2 R (x ++ x') (y ++ y')
  | _, _, _, _, .nil, h => h
  | _, _, _, _, .cons a t, h => .cons a (t.append h)
theorem take : ∀ {x y} (n : Nat), All2 R x y → All2 R (x.take n) (y.take n)
  | _, _, 0, _ => by simpa using .nil
  | _, _, _ + 1, .nil => by simpa using .nil
  | _, _, n + 1, .cons a t => by simpa using .cons a (t.take n)
theorem drop : ∀ {x y} (n : Nat), All2 R x y → All2 R (x.drop n) (y.drop n)
  | _, _, 0, h => by simpa using h
  | _, _, _ + 1, .nil => by simpa using .nil
  | _, _, n + 1, .cons _ t => by simpa using t.drop n
theorem get : ∀ {x y} (n : Nat) (a : α), All2 R x y → x[n]? = some a → ∃ b, y[n]? = some b ∧ R a b
  | _, _, _, _, .nil, h => by simp at h
  | _, _, 0, _, .cons (b := b) r _, h => ⟨b, by simp, by simpa using (by simpa using h) ▸ r⟩
  | _, _, n + 1, a, .cons _ t, h => by simpa using t.get n a (by simpa using h)
theorem replicate {a : α} {b : β} (h : R a b) : ∀ n, All2 R (List.replicate n a) (List.replicate n b)
  | 0 => .nil
  | n + 1 => by simpa [List.replicate_succ] using .cons h (replicate h n)
theorem flatten {x : List (List α)} {y : List (List β)} : All2 (All2 R) x y → All2 R x.flatten y.flatten
  | .nil => .nil
  | .cons a t => by simpa using a.append t.flatten
end All2

/-- Whole numbers told by numbers. -/
def decZ (b : Nat) : Int := if b % 2 = 0 then Int.ofNat (b / 2) else Int.negSucc (b / 2)
def encZ : Int → Nat
  | .ofNat n => 2 * n
  | .negSucc n => 2 * n + 1
theorem decZ_encZ (z : Int) : decZ (encZ z) = z := by
  unfold decZ
  cases z with
  | ofNat n =>
    show (if 2 * n % 2 = 0 then Int.ofNat (2 * n / 2) else Int.negSucc (2 * n / 2)) = _
    rw [if_pos (by omega), show 2 * n / 2 = n by omega]
  | negSucc n =>
    show (if (2 * n + 1) % 2 = 0 then Int.ofNat ((2 * n + 1) / 2) else Int.negSucc ((2 * n + 1) / 2)) = _
    rw [if_neg (by omega), show (2 * n + 1) / 2 = n by omega]

/-- One cell's value. A slice's place tells how its capacity is known: none: longer by its row's slack; some 1: just so; some 0: empty, at the end of its row. tok: a whole number that is not known: it is told by a number, as a block would be. -/
inductive FR (ρ : Ren) : Value → Value → Prop
  | bool (b : Bool) : FR ρ (.bool b) (.bool b)
  | int (k : IntKind) (n : Int) : FR ρ (.int k n) (.int k n)
  | str (s : ByteArray) : FR ρ (.string s) (.string s)
  | nilp : FR ρ (.pointer none) (.pointer none)
  | ptr {i b s o : Nat} (h : ρ i = some (b, s)) : FR ρ (.pointer (some ⟨i, o, none⟩)) (.pointer (some ⟨b, o, none⟩))
  | nils (l c : Nat) : FR ρ (.slice none l c) (.slice none l c)
  | slc {i b s o l c : Nat} (h : ρ i = some (b, s)) : FR ρ (.slice (some ⟨i, o, none⟩) l c) (.slice (some ⟨b, o, none⟩) l (c + s))
  | slx {i b s o l c : Nat} (h : ρ i = some (b, s)) : FR ρ (.slice (some ⟨i, o, some 1⟩) l c) (.slice (some ⟨b, o, none⟩) l c)
  | slz {i b s o o' c : Nat} (h : ρ i = some (b, s)) : FR ρ (.slice (some ⟨i, o, some 0⟩) 0 0) (.slice (some ⟨b, o', none⟩) 0 c)
  | nilm : FR ρ (.map none) (.map none)
  | mp {i b s : Nat} (h : ρ i = some (b, s)) : FR ρ (.map (some i)) (.map (some b))
  | nilf : FR ρ .nilFunc .nilFunc
  | nili : FR ρ .nilIface .nilIface
  | tok {i b s : Nat} (h : ρ i = some (b, s)) : FR ρ (.chan (some i)) (.int .i64 (decZ b))
  | fn (f : FuncId) {cs ds : List Addr} (h : All2 (AR ρ) cs ds) : FR ρ (.func (.func f) #[] ⟨cs.map fun a => .pointer (some a)⟩) (.func (.func f) #[] ⟨ds.map fun a => .pointer (some a)⟩)

inductive XR (ρ : Ren) : Value → Value → Prop
  | flat {a b : Value} (h : FR ρ a b) : XR ρ a b
  | agg {xs ys : List Value} (h : All2 (FR ρ) xs ys) : XR ρ (.agg ⟨xs⟩) (.agg ⟨ys⟩)

inductive VR (ρ : Ren) : Value → Value → Prop
  | x {a b : Value} (h : XR ρ a b) : VR ρ a b
  | tup {xs ys : List Value} (h : All2 (XR ρ) xs ys) : VR ρ (.tuple ⟨xs⟩) (.tuple ⟨ys⟩)

theorem AR.mono {ρ ρ' : Ren} (h : ρ.le ρ') {a b : Addr} : AR ρ a b → AR ρ' a b
  | .mk e => .mk (h _ _ e)
theorem FR.mono {ρ ρ' : Ren} (h : ρ.le ρ') {a b : Value} (r : FR ρ a b) : FR ρ' a b := by
  cases r with
  | bool b => exact .bool b
  | int k n => exact .int k n
  | str s => exact .str s
  | nilp => exact .nilp
  | ptr e => exact .ptr (h _ _ e)
  | nils l c => exact .nils l c
  | slc e => exact .slc (h _ _ e)
  | slx e => exact .slx (h _ _ e)
  | slz e => exact .slz (h _ _ e)
  | nilm => exact .nilm
  | mp e => exact .mp (h _ _ e)
  | nilf => exact .nilf
  | nili => exact .nili
  | tok e => exact .tok (h _ _ e)
  | fn f e => exact .fn f (e.mono fun _ _ => AR.mono h)
theorem XR.mono {ρ ρ' : Ren} (h : ρ.le ρ') {a b : Value} : XR ρ a b → XR ρ' a b
  | .flat r => .flat (r.mono h)
  | .agg r => .agg (r.mono fun _ _ => FR.mono h)
theorem VR.mono {ρ ρ' : Ren} (h : ρ.le ρ') {a b : Value} : VR ρ a b → VR ρ' a b
  | .x r => .x (r.mono h)
  | .tup r => .tup (r.mono fun _ _ => XR.mono h)

/-- A cell's value is one cell. -/
theorem FR.cells {ρ : Ren} {a b : Value} (r : FR ρ a b) : a.cells = #[a] ∧ b.cells = #[b] := by
  cases r <;> exact ⟨rfl, rfl⟩
theorem FR.one {ρ : Ren} {a b : Value} (r : FR ρ a b) : b.oneCell' = true := by
  cases r <;> rfl
theorem XR.cells {ρ : Ren} {a b : Value} : XR ρ a b → All2 (FR ρ) a.cells.toList b.cells.toList
  | .flat r => by rw [r.cells.1, r.cells.2]; exact .cons r .nil
  | .agg r => r

/-! ### Objects -/

/-- What stands for an object whose inside the evaluator does not see. -/
structure Ext where
  X : Type
  rel : X → Nat → (Nat → Prop) → (Nat → Prop) → World → Prop
  frame : ∀ {x b F D w w'}, rel x b F D w → (∀ c, D c → w'.heap[c]? = w.heap[c]?) → rel x b F D w'

inductive AObj (X : Type) where
  | cells (cs : List Value)
  | grown (e t : Nat) (cs : List Value)
  | typed (t : Nat) (cs : List Value)
  | ro (cs : List Value)
  | map (es : List (Value × Value × Nat)) (clock : Nat)
  | ext (x : X)

def free (f : Nat × Nat) (n : Nat) : Prop := ∀ o, o < n → ¬ (f.1 ≤ o ∧ o < f.2)

variable (E : Ext)

def ObjR (ρ : Ren) (o : AObj E.X) (b s : Nat) (F D : Nat → Prop) (w : World) : Prop :=
  match o with
  | .cells cs => s = 0 ∧ (∀ c, F c ↔ c = b) ∧ (∀ c, D c ↔ c = b) ∧ ∃ cs' e f, w.heap[b]? = some (.cells cs' e f) ∧ All2 (FR ρ) cs cs'.toList ∧ free f cs'.size
  | .grown ez t cs => (∀ c, F c ↔ c = b) ∧ (∀ c, D c ↔ c = b) ∧ ∃ cs' e f, w.heap[b]? = some (.cells cs' e f) ∧ cs'.size = cs.length + s * ez ∧ All2 (FR ρ) cs (cs'.toList.take cs.length) ∧ free f cs'.size ∧ e = t
  | .typed t cs => s = 0 ∧ (∀ c, F c ↔ c = b) ∧ (∀ c, D c ↔ c = b) ∧ ∃ cs' e f, w.heap[b]? = some (.cells cs' e f) ∧ All2 (FR ρ) cs cs'.toList ∧ free f cs'.size ∧ e = t
  | .ro cs => (∀ c, ¬ F c) ∧ (∀ c, D c ↔ c = b) ∧ ∃ cs' e f, w.heap[b]? = some (.cells cs' e f) ∧ All2 (FR ρ) cs (cs'.toList.take cs.length)
  | .map es clock => (∀ c, F c ↔ c = b) ∧ (∀ c, D c ↔ c = b) ∧ ∃ es' : Array MapEntry, w.heap[b]? = some (.map es' clock) ∧ All2 (fun x y => FR ρ x.1 y.key ∧ XR ρ x.2.1 y.val ∧ x.2.2 = y.born) es es'.toList
  | .ext x => E.rel x b F D w

abbrev Foot := Nat → (Nat → Prop) × (Nat → Prop)

variable {E}

theorem ObjR.frame {ρ ρ' : Ren} {o : AObj E.X} {b s : Nat} {F D : Nat → Prop} {w w' : World} (h : ObjR E ρ o b s F D w) (hρ : ρ.le ρ') (hD : ∀ c, D c → w'.heap[c]? = w.heap[c]?) : ObjR E ρ' o b s F D w' := by
  cases o with
  | cells cs =>
    obtain ⟨h1, h2, h3, cs', e, f, h4, h5, h6⟩ := h
    exact ⟨h1, h2, h3, cs', e, f, by rw [hD b ((h3 b).2 rfl)]; exact h4, h5.mono fun _ _ => FR.mono hρ, h6⟩
  | typed t cs =>
    obtain ⟨h1, h2, h3, cs', e, f, h4, h5, h6⟩ := h
    exact ⟨h1, h2, h3, cs', e, f, by rw [hD b ((h3 b).2 rfl)]; exact h4, h5.mono fun _ _ => FR.mono hρ, h6⟩
  | grown ez t cs =>
    obtain ⟨h2, h3, cs', e, f, h4, h5, h6, h7⟩ := h
    exact ⟨h2, h3, cs', e, f, by rw [hD b ((h3 b).2 rfl)]; exact h4, h5, h6.mono fun _ _ => FR.mono hρ, h7⟩
  | ro cs =>
    obtain ⟨h2, h3, cs', e, f, h4, h5⟩ := h
    exact ⟨h2, h3, cs', e, f, by rw [hD b ((h3 b).2 rfl)]; exact h4, h5.mono fun _ _ => FR.mono hρ⟩
  | map es clock =>
    obtain ⟨h2, h3, es', h4, h5⟩ := h
    exact ⟨h2, h3, es', by rw [hD b ((h3 b).2 rfl)]; exact h4, h5.mono fun _ _ ⟨x, y, z⟩ => ⟨x.mono hρ, y.mono hρ, z⟩⟩
  | ext x => exact E.frame h hD

/-- What is seen of the abstract heap. -/
abbrev View (E : Ext) := Nat → Option (AObj E.X)

/-- The abstract heap stands for the world. W0: the world at the start, whose blocks, outside world and output stay. -/
structure Good (W0 : World) (ρ : Ren) (φ : Foot) (V : View E) (n : Nat) (w : World) : Prop where
  dom : ∀ i, n ≤ i → ρ i = none
  rel : ∀ i o, V i = some o → ∃ b s, ρ i = some (b, s) ∧ ObjR E ρ o b s (φ i).1 (φ i).2 w
  dis : ∀ i j oi oj b, V i = some oi → V j = some oj → i ≠ j → (φ i).1 b → ¬ (φ j).2 b
  sub : ∀ i o b, V i = some o → (φ i).1 b → (φ i).2 b
  lts : ∀ i o b, V i = some o → (φ i).2 b → b < w.heap.size
  frs : ∀ i o b, V i = some o → (φ i).1 b → W0.heap.size ≤ b
  size : W0.heap.size ≤ w.heap.size
  base : ∀ b, b < W0.heap.size → w.heap[b]? = W0.heap[b]?
  os : w.os = W0.os
  out : w.output = W0.output

theorem Good.lt {W0 : World} {ρ : Ren} {φ : Foot} {V : View E} {n : Nat} {w : World} (g : Good W0 ρ φ V n w) {i : Nat} {o : AObj E.X} (h : V i = some o) : i < n := by
  obtain ⟨b, s, hb, _⟩ := g.rel i o h
  rcases Nat.lt_or_ge i n with h' | h'
  · exact h'
  · rw [g.dom i h'] at hb; cases hb

theorem Good.known {W0 : World} {ρ : Ren} {φ : Foot} {V : View E} {n : Nat} {w : World} (g : Good W0 ρ φ V n w) {i : Nat} {x : Nat × Nat} (h : ρ i = some x) : i < n := by
  rcases Nat.lt_or_ge i n with h' | h'
  · exact h'
  · rw [g.dom i h'] at h; cases h

/-- A part of what is seen. -/
theorem Good.part {W0 : World} {ρ : Ren} {φ : Foot} {V V' : View E} {n n' : Nat} {w : World} (g : Good W0 ρ φ V n w) (h : ∀ i o, V' i = some o → V i = some o) (hn : n ≤ n') : Good W0 ρ φ V' n' w where
  dom := fun i hi => g.dom i (by omega)
  rel := fun i o e => g.rel i o (h i o e)
  dis := fun i j oi oj b a c => g.dis i j oi oj b (h _ _ a) (h _ _ c)
  sub := fun i o b a => g.sub i o b (h _ _ a)
  lts := fun i o b a => g.lts i o b (h _ _ a)
  frs := fun i o b a => g.frs i o b (h _ _ a)
  size := g.size
  base := g.base
  os := g.os
  out := g.out

/-- From one state to a later one: what becomes of the memory. -/
structure Post (W0 : World) (ρ : Ren) (φ : Foot) (V : View E) (n : Nat) (w : World) (ρ' : Ren) (φ' : Foot) (V' : View E) (n' : Nat) (w' : World) : Prop where
  good : Good W0 ρ' φ' V' n' w'
  le : ρ.le ρ'
  nle : n ≤ n'
  sz : w.heap.size ≤ w'.heap.size
  keep : ∀ c, c < w.heap.size → (∀ i o, V i = some o → ¬ (φ i).1 c) → w'.heap[c]? = w.heap[c]?
  fF : ∀ i o c, V' i = some o → (φ' i).1 c → w.heap.size ≤ c ∨ ∃ j oj, V j = some oj ∧ (φ j).1 c
  fD : ∀ i o c, V' i = some o → (φ' i).2 c → w.heap.size ≤ c ∨ ∃ j oj, V j = some oj ∧ (φ j).2 c
  ids : ∀ i o, V' i = some o → n ≤ i ∨ ∃ oi, V i = some oi
  old : ∀ i, i < n → ρ' i = ρ i

theorem Post.refl {W0 : World} {ρ : Ren} {φ : Foot} {V : View E} {n : Nat} {w : World} (g : Good W0 ρ φ V n w) : Post W0 ρ φ V n w ρ φ V n w where
  good := g
  le := Ren.le_refl ρ
  nle := Nat.le_refl n
  sz := Nat.le_refl _
  keep := fun _ _ _ => rfl
  fF := fun i o _c h hc => .inr ⟨i, o, h, hc⟩
  fD := fun i o _c h hc => .inr ⟨i, o, h, hc⟩
  ids := fun _i o h => .inr ⟨o, h⟩
  old := fun _ _ => rfl

theorem Post.trans {W0 : World} {ρ ρ' ρ'' : Ren} {φ φ' φ'' : Foot} {V V' V'' : View E} {n n' n'' : Nat} {w w' w'' : World}
    (a : Post W0 ρ φ V n w ρ' φ' V' n' w') (b : Post W0 ρ' φ' V' n' w' ρ'' φ'' V'' n'' w'') : Post W0 ρ φ V n w ρ'' φ'' V'' n'' w'' where
  good := b.good
  le := Ren.le_trans a.le b.le
  nle := Nat.le_trans a.nle b.nle
  sz := Nat.le_trans a.sz b.sz
  keep := fun c hc hF => by
    rw [← a.keep c hc hF]
    refine b.keep c (Nat.lt_of_lt_of_le hc a.sz) fun i o hi hc' => ?_
    rcases a.fF i o c hi hc' with h | ⟨j, oj, hj, hF'⟩
    · omega
    · exact hF j oj hj hF'
  fF := fun i o c hi hc => by
    rcases b.fF i o c hi hc with h | ⟨j, oj, hj, hF'⟩
    · exact .inl (Nat.le_trans a.sz h)
    · exact a.fF j oj c hj hF'
  fD := fun i o c hi hc => by
    rcases b.fD i o c hi hc with h | ⟨j, oj, hj, hF'⟩
    · exact .inl (Nat.le_trans a.sz h)
    · exact a.fD j oj c hj hF'
  ids := fun i o hi => by
    rcases b.ids i o hi with h | ⟨oi, h⟩
    · exact .inl (Nat.le_trans a.nle h)
    · exact a.ids i oi h
  old := fun i hi => (b.old i (Nat.lt_of_lt_of_le hi a.nle)).trans (a.old i hi)

/-- Less is seen at the end. -/
theorem Post.part {W0 : World} {ρ ρ' : Ren} {φ φ' : Foot} {V V' V'' : View E} {n n' n'' : Nat} {w w' : World}
    (a : Post W0 ρ φ V n w ρ' φ' V' n' w') (h : ∀ i o, V'' i = some o → V' i = some o) (hn : n' ≤ n'') : Post W0 ρ φ V n w ρ' φ' V'' n'' w' where
  good := a.good.part h hn
  le := a.le
  nle := Nat.le_trans a.nle hn
  sz := a.sz
  keep := a.keep
  fF := fun i o c hi => a.fF i o c (h i o hi)
  fD := fun i o c hi => a.fD i o c (h i o hi)
  ids := fun i o hi => a.ids i o (h i o hi)
  old := a.old

/-- A draw changes nothing that is looked at. -/
theorem Good.world {W0 : World} {ρ : Ren} {φ : Foot} {V : View E} {n : Nat} {w w' : World} (g : Good W0 ρ φ V n w) (h : w'.heap = w.heap) (ho : w'.os = w.os) (hp : w'.output = w.output) : Good W0 ρ φ V n w' where
  dom := g.dom
  rel := fun i o e => let ⟨b, s, x, y⟩ := g.rel i o e; ⟨b, s, x, y.frame (Ren.le_refl ρ) fun c _ => by rw [h]⟩
  dis := g.dis
  sub := g.sub
  lts := fun i o b a c => by rw [h]; exact g.lts i o b a c
  frs := g.frs
  size := by rw [h]; exact g.size
  base := fun b hb => by rw [h]; exact g.base b hb
  os := by rw [ho]; exact g.os
  out := by rw [hp]; exact g.out

theorem Post.world {W0 : World} {ρ : Ren} {φ : Foot} {V : View E} {n : Nat} {w w' : World} (g : Good W0 ρ φ V n w) (h : w'.heap = w.heap) (ho : w'.os = w.os) (hp : w'.output = w.output) : Post W0 ρ φ V n w ρ φ V n w' where
  good := g.world h ho hp
  le := Ren.le_refl ρ
  nle := Nat.le_refl n
  sz := by rw [h]; exact Nat.le_refl _
  keep := fun _ _ _ => by rw [h]
  fF := fun i o c e hc => .inr ⟨i, o, e, hc⟩
  fD := fun i o c e hc => .inr ⟨i, o, e, hc⟩
  ids := fun i o e => .inr ⟨o, e⟩
  old := fun _ _ => rfl

def Ren.put (ρ : Ren) (i : Nat) (x : Nat × Nat) : Ren := fun j => if j = i then some x else ρ j
def View.put (V : View E) (i : Nat) (o : AObj E.X) : View E := fun j => if j = i then some o else V j

/-- A NEW OBJECT in a new block. -/
theorem Good.new {W0 : World} {ρ : Ren} {φ : Foot} {V : View E} {n : Nat} {w w' : World} (g : Good W0 ρ φ V n w) (o : AObj E.X) (s : Nat) (F D : Nat → Prop) (c : Obj)
    (hw : w'.heap = w.heap.push c) (ho : w'.os = w.os) (hp : w'.output = w.output)
    (hF : ∀ c, F c → c = w.heap.size) (hD : ∀ c, D c → c = w.heap.size) (hs : ∀ c, F c → D c)
    (hrel : ObjR E (ρ.put n (w.heap.size, s)) o w.heap.size s F D w') :
    Post W0 ρ φ V n w (ρ.put n (w.heap.size, s)) (fun j => if j = n then (F, D) else φ j) (V.put n o) (n + 1) w' := by
  have hle : ρ.le (ρ.put n (w.heap.size, s)) := fun i x hx => by
    have : i ≠ n := fun e => by rw [e, g.dom n (Nat.le_refl n)] at hx; cases hx
    simp [Ren.put, this, hx]
  have hold : ∀ b, b < w.heap.size → w'.heap[b]? = w.heap[b]? := fun b hb => by rw [hw, Array.getElem?_push_lt hb]; simp [hb]
  have hsz : w'.heap.size = w.heap.size + 1 := by rw [hw]; simp
  refine ⟨⟨?_, ?_, ?_, ?_, ?_, ?_, ?_, ?_, ?_, ?_⟩, hle, by omega, by omega, fun c hc _ => hold c hc, ?_, ?_, ?_, fun i hi => by simp [Ren.put, show i ≠ n by omega]⟩
  · intro i hi
    have : i ≠ n := by omega
    simp only [Ren.put, this, if_false]
    exact g.dom i (by omega)
  · intro i oi hi
    by_cases e : i = n
    · subst e
      simp only [View.put, if_true] at hi
      injection hi with hi
      subst hi
      exact ⟨w.heap.size, s, by simp [Ren.put], by simpa using hrel⟩
    · simp only [View.put, e, if_false] at hi
      obtain ⟨b, t, hb, hr⟩ := g.rel i oi hi
      refine ⟨b, t, hle _ _ hb, ?_⟩
      simp only [e, if_false]
      exact hr.frame hle fun c hc => hold c (g.lts i oi c hi hc)
  · intro i j oi oj b hi hj hne hFi hDj
    by_cases e : i = n
    · by_cases e' : j = n
      · exact hne (e.trans e'.symm)
      · simp only [View.put, e', if_false] at hj
        simp only [e, if_true] at hFi
        simp only [e', if_false] at hDj
        have := g.lts j oj b hj hDj
        have := hF b hFi
        omega
    · simp only [View.put, e, if_false] at hi
      simp only [e, if_false] at hFi
      by_cases e' : j = n
      · simp only [e', if_true] at hDj
        have := hD b hDj
        have := g.lts i oi b hi (g.sub i oi b hi hFi)
        omega
      · simp only [View.put, e', if_false] at hj
        simp only [e', if_false] at hDj
        exact g.dis i j oi oj b hi hj hne hFi hDj
  · intro i oi b hi hFi
    by_cases e : i = n
    · simp only [e, if_true] at hFi ⊢; exact hs b hFi
    · simp only [View.put, e, if_false] at hi hFi ⊢
      exact g.sub i oi b hi hFi
  · intro i oi b hi hDi
    by_cases e : i = n
    · simp only [e, if_true] at hDi; have := hD b hDi; omega
    · simp only [View.put, e, if_false] at hi hDi
      have := g.lts i oi b hi hDi; omega
  · intro i oi b hi hFi
    by_cases e : i = n
    · simp only [e, if_true] at hFi; have := hF b hFi; have := g.size; omega
    · simp only [View.put, e, if_false] at hi hFi
      exact g.frs i oi b hi hFi
  · have := g.size; omega
  · intro b hb; rw [hold b (by have := g.size; omega)]; exact g.base b hb
  · rw [ho]; exact g.os
  · rw [hp]; exact g.out
  · intro i oi c hi hFi
    by_cases e : i = n
    · simp only [e, if_true] at hFi; have := hF c hFi; left; omega
    · simp only [View.put, e, if_false] at hi hFi
      exact .inr ⟨i, oi, hi, hFi⟩
  · intro i oi c hi hFi
    by_cases e : i = n
    · simp only [e, if_true] at hFi; have := hD c hFi; left; omega
    · simp only [View.put, e, if_false] at hi hFi
      exact .inr ⟨i, oi, hi, hFi⟩
  · intro i oi hi
    by_cases e : i = n
    · left; omega
    · simp only [View.put, e, if_false] at hi; exact .inr ⟨oi, hi⟩

/-- AN OBJECT TURNED where it stands: only blocks that are its own have changed. -/
theorem Good.turn {W0 : World} {ρ : Ren} {φ : Foot} {V : View E} {n : Nat} {w w' : World} (g : Good W0 ρ φ V n w) {i : Nat} {o : AObj E.X} (hi : V i = some o) (o' : AObj E.X)
    (hsz : w'.heap.size = w.heap.size) (ho : w'.os = w.os) (hp : w'.output = w.output)
    (hold : ∀ c, ¬ (φ i).1 c → w'.heap[c]? = w.heap[c]?)
    (hrel : ∀ b s, ρ i = some (b, s) → ObjR E ρ o b s (φ i).1 (φ i).2 w → ObjR E ρ o' b s (φ i).1 (φ i).2 w') :
    Post W0 ρ φ V n w ρ φ (V.put i o') n w' := by
  have hV : ∀ j oj, V.put i o' j = some oj → ∃ ok, V j = some ok := fun j oj h => by
    by_cases e : j = i
    · exact ⟨o, e ▸ hi⟩
    · simp only [View.put, e, if_false] at h; exact ⟨oj, h⟩
  refine ⟨⟨g.dom, ?_, ?_, ?_, ?_, ?_, ?_, ?_, ?_, ?_⟩, Ren.le_refl ρ, Nat.le_refl n, by omega, fun c _ hF => hold c (hF i o hi), ?_, ?_, ?_, fun _ _ => rfl⟩
  · intro j oj hj
    by_cases e : j = i
    · subst e
      simp only [View.put, if_true] at hj
      injection hj with hj
      subst hj
      obtain ⟨b, s, hb, hr⟩ := g.rel j o hi
      exact ⟨b, s, hb, hrel b s hb hr⟩
    · simp only [View.put, e, if_false] at hj
      obtain ⟨b, s, hb, hr⟩ := g.rel j oj hj
      exact ⟨b, s, hb, hr.frame (Ren.le_refl ρ) fun c hc => hold c fun hF => g.dis i j o oj c hi hj (fun h => e h.symm) hF hc⟩
  · intro j k oj ok b hj hk
    obtain ⟨x, hx⟩ := hV j oj hj
    obtain ⟨y, hy⟩ := hV k ok hk
    exact g.dis j k x y b hx hy
  · intro j oj b hj; obtain ⟨x, hx⟩ := hV j oj hj; exact g.sub j x b hx
  · intro j oj b hj hD; obtain ⟨x, hx⟩ := hV j oj hj; rw [hsz]; exact g.lts j x b hx hD
  · intro j oj b hj; obtain ⟨x, hx⟩ := hV j oj hj; exact g.frs j x b hx
  · rw [hsz]; exact g.size
  · intro b hb
    rw [hold b fun hF => by have := g.frs i o b hi hF; omega]
    exact g.base b hb
  · rw [ho]; exact g.os
  · rw [hp]; exact g.out
  · intro j oj c hj hF; obtain ⟨x, hx⟩ := hV j oj hj; exact .inr ⟨j, x, hx, hF⟩
  · intro j oj c hj hF; obtain ⟨x, hx⟩ := hV j oj hj; exact .inr ⟨j, x, hx, hF⟩
  · intro j oj hj; exact .inr (hV j oj hj)

/-- WHAT A CALL LEAVES ALONE: it saw a part of the heap alone; the other part stays as it was. -/
theorem Post.beside {W0 : World} {ρ ρ' : Ren} {φ φ' : Foot} {V A B B' : View E} {n n' : Nat} {w w' : World}
    (g : Good W0 ρ φ V n w) (hA : ∀ i o, A i = some o → V i = some o) (hB : ∀ i o, B i = some o → V i = some o) (hAB : ∀ i a b, A i = some a → B i = some b → False)
    (p : Post W0 ρ φ B n w ρ' φ' B' n' w') :
    ∃ φ'', Post W0 ρ φ V n w ρ' φ'' (fun i => (A i).or (B' i)) n' w' := by
  classical
  refine ⟨fun i => if (A i).isSome then φ i else φ' i, ?_⟩
  have hA' : ∀ i o, (A i).or (B' i) = some o → (A i = some o) ∨ (A i = none ∧ B' i = some o) := fun i o h => by
    cases ha : A i with
    | none => rw [ha] at h; exact .inr ⟨rfl, by simpa using h⟩
    | some x => rw [ha] at h; simp at h; exact .inl (by rw [h])
  have hBlt : ∀ i o b, B' i = some o → (φ' i).2 b → b < w'.heap.size := p.good.lts
  -- a block of A's is none of B's
  have hkeepA : ∀ i a c, A i = some a → (φ i).2 c → w'.heap[c]? = w.heap[c]? := fun i a c ha hc =>
    p.keep c (g.lts i a c (hA i a ha) hc) fun j b hb hF => g.dis j i b a c (hB j b hb) (hA i a ha) (fun e => hAB i a b ha (e ▸ hb)) hF hc
  refine ⟨⟨p.good.dom, ?_, ?_, ?_, ?_, ?_, p.good.size, p.good.base, p.good.os, p.good.out⟩, p.le, p.nle, p.sz, ?_, ?_, ?_, ?_, p.old⟩
  · intro i o h
    rcases hA' i o h with ha | ⟨ha, hb⟩
    · obtain ⟨b, s, hb, hr⟩ := g.rel i o (hA i o ha)
      simp only [ha, Option.isSome_some, if_true]
      exact ⟨b, s, p.le _ _ hb, hr.frame p.le fun c hc => hkeepA i o c ha hc⟩
    · simp only [ha, Option.isSome_none, Bool.false_eq_true, if_false]
      exact p.good.rel i o hb
  · intro i j oi oj c hi hj hne hF hD
    rcases hA' i oi hi with ha | ⟨ha, hb⟩ <;> rcases hA' j oj hj with ha' | ⟨ha', hb'⟩
    · simp only [ha, ha', Option.isSome_some, if_true] at hF hD
      exact g.dis i j oi oj c (hA _ _ ha) (hA _ _ ha') hne hF hD
    · simp only [ha, ha', Option.isSome_some, Option.isSome_none, if_true, Bool.false_eq_true, if_false] at hF hD
      have hlt := g.lts i oi c (hA _ _ ha) (g.sub i oi c (hA _ _ ha) hF)
      rcases p.fD j oj c hb' hD with h | ⟨k, ok, hk, hD'⟩
      · omega
      · exact g.dis i k oi ok c (hA _ _ ha) (hB _ _ hk) (fun e => hAB i oi ok ha (e ▸ hk)) hF hD'
    · simp only [ha, ha', Option.isSome_some, Option.isSome_none, if_true, Bool.false_eq_true, if_false] at hF hD
      have hlt := g.lts j oj c (hA _ _ ha') hD
      rcases p.fF i oi c hb hF with h | ⟨k, ok, hk, hF'⟩
      · omega
      · exact g.dis k j ok oj c (hB _ _ hk) (hA _ _ ha') (fun e => hAB j oj ok ha' (e ▸ hk)) hF' hD
    · simp only [ha, ha', Option.isSome_none, Bool.false_eq_true, if_false] at hF hD
      exact p.good.dis i j oi oj c hb hb' hne hF hD
  · intro i o c h hF
    rcases hA' i o h with ha | ⟨ha, hb⟩
    · simp only [ha, Option.isSome_some, if_true] at hF ⊢; exact g.sub i o c (hA _ _ ha) hF
    · simp only [ha, Option.isSome_none, Bool.false_eq_true, if_false] at hF ⊢; exact p.good.sub i o c hb hF
  · intro i o c h hD
    rcases hA' i o h with ha | ⟨ha, hb⟩
    · simp only [ha, Option.isSome_some, if_true] at hD; exact Nat.lt_of_lt_of_le (g.lts i o c (hA _ _ ha) hD) p.sz
    · simp only [ha, Option.isSome_none, Bool.false_eq_true, if_false] at hD; exact p.good.lts i o c hb hD
  · intro i o c h hF
    rcases hA' i o h with ha | ⟨ha, hb⟩
    · simp only [ha, Option.isSome_some, if_true] at hF; exact g.frs i o c (hA _ _ ha) hF
    · simp only [ha, Option.isSome_none, Bool.false_eq_true, if_false] at hF; exact p.good.frs i o c hb hF
  · intro c hc hF
    exact p.keep c hc fun i o hi => hF i o (hB i o hi)
  · intro i o c h hF
    rcases hA' i o h with ha | ⟨ha, hb⟩
    · simp only [ha, Option.isSome_some, if_true] at hF; exact .inr ⟨i, o, hA _ _ ha, hF⟩
    · simp only [ha, Option.isSome_none, Bool.false_eq_true, if_false] at hF
      rcases p.fF i o c hb hF with h' | ⟨j, oj, hj, hF'⟩
      · exact .inl h'
      · exact .inr ⟨j, oj, hB _ _ hj, hF'⟩
  · intro i o c h hF
    rcases hA' i o h with ha | ⟨ha, hb⟩
    · simp only [ha, Option.isSome_some, if_true] at hF; exact .inr ⟨i, o, hA _ _ ha, hF⟩
    · simp only [ha, Option.isSome_none, Bool.false_eq_true, if_false] at hF
      rcases p.fD i o c hb hF with h' | ⟨j, oj, hj, hF'⟩
      · exact .inl h'
      · exact .inr ⟨j, oj, hB _ _ hj, hF'⟩
  · intro i o h
    rcases hA' i o h with ha | ⟨ha, hb⟩
    · exact .inr ⟨o, hA _ _ ha⟩
    · rcases p.ids i o hb with h' | ⟨x, hx⟩
      · exact .inl h'
      · exact .inr ⟨x, hB _ _ hx⟩

end Go.AI
