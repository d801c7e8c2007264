/- An object that consists of others, taken as one: what is shown of a function upon the parts holds of it upon the whole. Here: the arena's pages. No program is named here. -/
import Derived.Test.YtleknndhobpjcaaGreatDoorAiHook
namespace Go.AI

/-! ### The parts -/

/-- At the lower level there are no outside objects. -/
abbrev Ext0 : Ext := ⟨Empty, fun x => x.elim, fun {x} => x.elim⟩

/-- A page is a number: its bytes, the first one least. -/
structure Ar where
  pages : List (Option Nat)
  armed : Bool
  refuse : Nat

def byteN (P i : Nat) : Nat := Nat.land (Nat.shiftRight P (Nat.mul 8 i)) 255
def byteV (P i : Nat) : Value := .int .u8 (Int.ofNat (byteN P i))
def pageCells (P : Nat) : List Value := (List.range 4096).map (byteV P)
def rowCells (pid : Nat → Nat) : Nat → List (Option Nat) → List Value
  | _, [] => []
  | k, none :: r => .pointer none :: rowCells pid (k + 1) r
  | k, some _ :: r => .pointer (some ⟨pid k, 0, none⟩) :: rowCells pid (k + 1) r
/-- The committed pages as a number's bits. -/
def setN : List (Option Nat) → Nat
  | [] => 0
  | none :: r => Nat.mul 2 (setN r)
  | some _ :: r => Nat.succ (Nat.mul 2 (setN r))
def countN : List (Option Nat) → Nat
  | [] => 0
  | none :: r => countN r
  | some _ :: r => Nat.succ (countN r)
def wordV (s k : Nat) : Value := .int .u64 (Int.ofNat (Nat.mod (Nat.shiftRight s (Nat.mul 64 k)) 18446744073709551616))
def nWords (l : List (Option Nat)) : Nat := Nat.div (Nat.add l.length 63) 64
def wordCells (l : List (Option Nat)) : List Value := (List.range (nWords l)).map (wordV (setN l))

/-- Where an arena's parts lie. -/
structure ArIds where
  A : Nat
  Pg : Nat
  W : Nat
  sp : Option Nat
  cp : Nat
  pid : Nat → Nat

structure ArAt {X : Type} (V : Nat → Option (AObj X)) (x : Ar) (I : ArIds) : Prop where
  top : V I.A = some (.cells [.slice (some ⟨I.Pg, 0, none⟩) x.pages.length x.pages.length, .int .i64 (Int.ofNat x.pages.length), .slice (some ⟨I.W, 0, I.sp⟩) (nWords x.pages) I.cp, .int .i64 (Int.ofNat (countN x.pages)), .bool x.armed, .int .i64 (Int.ofNat x.refuse)])
  row : V I.Pg = some (.cells (rowCells I.pid 0 x.pages))
  wds : ∃ ob, V I.W = some ob ∧ cellsO ob = some (wordCells x.pages)
  page : ∀ i P, x.pages[i]? = some (some P) → V (I.pid i) = some (.cells (pageCells P))
  inj : ∀ i j P Q, x.pages[i]? = some (some P) → x.pages[j]? = some (some Q) → I.pid i = I.pid j → i = j
  dA : I.A ≠ I.Pg ∧ I.A ≠ I.W ∧ I.Pg ≠ I.W
  dP : ∀ i P, x.pages[i]? = some (some P) → I.pid i ≠ I.A ∧ I.pid i ≠ I.Pg ∧ I.pid i ≠ I.W
  cap : x.pages.length ≤ 1048576
  ref : x.refuse < 9223372036854775808

/-- What of 'Good' speaks of the objects alone. -/
structure Loc {E : Ext} (ρ : Ren) (φ : Foot) (V : View E) (n : Nat) (w : World) : Prop where
  dom : ∀ i, n ≤ i → ρ i = none
  rel : ∀ i o, V i = some o → ∃ b s, ρ i = some (b, s) ∧ ObjR E ρ o b s (φ i).1 (φ i).2 w
  dis : ∀ i j oi oj b, V i = some oi → V j = some oj → i ≠ j → (φ i).1 b → ¬ (φ j).2 b
  sub : ∀ i o b, V i = some o → (φ i).1 b → (φ i).2 b
  lts : ∀ i o b, V i = some o → (φ i).2 b → b < w.heap.size

theorem Good.loc {E : Ext} {W0 : World} {ρ : Ren} {φ : Foot} {V : View E} {n : Nat} {w : World} (g : Good W0 ρ φ V n w) : Loc ρ φ V n w := ⟨g.dom, g.rel, g.dis, g.sub, g.lts⟩

theorem Loc.frame {E : Ext} {ρ : Ren} {φ : Foot} {V : View E} {n : Nat} {w w' : World} (h : Loc ρ φ V n w) (hD : ∀ i o c, V i = some o → (φ i).2 c → w'.heap[c]? = w.heap[c]?) : Loc ρ φ V n w' where
  dom := h.dom
  rel := fun i o hi => by
    obtain ⟨b, s, h1, h2⟩ := h.rel i o hi
    exact ⟨b, s, h1, h2.frame (Ren.le_refl ρ) fun c hc => hD i o c hi hc⟩
  dis := h.dis
  sub := h.sub
  lts := fun i o b hi hb => by
    have h1 := h.lts i o b hi hb
    have h2 := hD i o b hi hb
    rw [Array.getElem?_eq_getElem h1] at h2
    exact (Array.getElem?_eq_some_iff.1 h2).1

/-- All blocks that are an arena's own, or that it reads. -/
def allF {E : Ext} (φ : Foot) (V : View E) (c : Nat) : Prop := ∃ i o, V i = some o ∧ (φ i).1 c
def allD {E : Ext} (φ : Foot) (V : View E) (c : Nat) : Prop := ∃ i o, V i = some o ∧ (φ i).2 c

def ArRel (x : Ar) (b : Nat) (F D : Nat → Prop) (w : World) : Prop :=
  ∃ (V : List (Nat × AObj Empty)) (n : Nat) (ρ : Ren) (φ : Foot) (I : ArIds) (s : Nat), ArAt (fun i => look i V) x I ∧ Loc (E := Ext0) ρ φ (fun i => look i V) n w ∧ ρ I.A = some (b, s) ∧
    (∀ c, F c ↔ allF (E := Ext0) φ (fun i => look i V) c) ∧ (∀ c, D c ↔ allD (E := Ext0) φ (fun i => look i V) c)

/-- A number that is not known, as an object that has no place: its refuse tells what is known of it. -/
def TkRel (Cls : Nat → Int → Prop) (x : Ar) (b : Nat) (F D : Nat → Prop) : Prop := 9223372036854775808 ≤ x.refuse ∧ (∀ c, ¬ F c) ∧ (∀ c, ¬ D c) ∧ Cls x.refuse (decZ b)
abbrev Ext1 (Cls : Nat → Int → Prop) : Ext := ⟨Ar, fun x b F D w => ArRel x b F D w ∨ TkRel Cls x b F D, fun {x b F D w w'} h hD => h.elim (fun h => by
  obtain ⟨V, n, ρ, φ, I, s, h1, h2, h3, h4, h5⟩ := h
  exact .inl ⟨V, n, ρ, φ, I, s, h1, h2.frame fun i o c hi hc => hD c ((h5 c).2 ⟨i, o, hi, hc⟩), h3, h4, h5⟩) .inr⟩

/-! ### Values without references -/
def plainF : Value → Bool
  | .bool _ | .int _ _ | .string _ => true
  | _ => false
def plainV : Value → Bool
  | .tuple vs => vs.toList.all plainF
  | v => plainF v

theorem plainF_vr {ρ : Ren} {v v' : Value} (h : plainF v = true) (r : VR ρ v v') : v' = v := by
  cases v <;> simp [plainF] at h
  · rw [r.bool_inv]
  · rw [r.int_inv]
  · rw [r.str_inv]
theorem plainF_same {ρ : Ren} {v : Value} (h : plainF v = true) : FR ρ v v := by
  cases v <;> simp [plainF] at h
  · exact .bool _
  · exact .int _ _
  · exact .str _
theorem plainF_xr {ρ : Ren} {v v' : Value} (h : plainF v = true) (r : XR ρ v v') : v' = v := plainF_vr h (.x r)
theorem plainV_vr {ρ : Ren} {v v' : Value} (h : plainV v = true) (r : VR ρ v v') : v' = v := by
  cases v <;> try exact plainF_vr h r
  rename_i xs
  obtain ⟨ys, rfl, h2⟩ := r.tup_inv
  simp only [plainV] at h
  obtain ⟨xs⟩ := xs
  congr 2
  clear r
  simp only at h h2
  induction h2 with
  | nil => rfl
  | cons a t ih =>
    simp only [List.all_cons, Bool.and_eq_true] at h
    rw [plainF_xr h.1 a, ih h.2]
theorem plainV_same {ρ : Ren} {v : Value} (h : plainV v = true) : VR ρ v v := by
  cases v <;> try exact .of_flat (plainF_same h)
  rename_i xs
  obtain ⟨xs⟩ := xs
  simp only [plainV] at h
  refine .tup ?_
  induction xs with
  | nil => exact .nil
  | cons a t ih =>
    simp only [List.all_cons, Bool.and_eq_true] at h
    exact .cons (.flat (plainF_same h.1)) (ih h.2)
theorem plains_vr {ρ : Ren} : ∀ {vs vs' : List Value}, vs.all plainV = true → All2 (VR ρ) vs vs' → vs' = vs
  | _, _, _, .nil => rfl
  | _, _, h, .cons a t => by
    simp only [List.all_cons, Bool.and_eq_true] at h
    rw [plainV_vr h.1 a, plains_vr h.2 t]
theorem plains_same {ρ : Ren} : ∀ {vs : List Value}, vs.all plainV = true → All2 (VR ρ) vs vs
  | [], _ => .nil
  | a :: t, h => by
    simp only [List.all_cons, Bool.and_eq_true] at h
    exact .cons (plainV_same h.1) (plains_same h.2)

/-! ### From the parts to the whole -/
section
variable {P : Program} {W0 : World} {Cls : Nat → Int → Prop}

/-- The parts' world out of the whole's. -/
theorem good_down {ρ : Ren} {φ : Foot} {V : View (Ext1 Cls)} {n : Nat} {w : World} (g : Good W0 ρ φ V n w) {i : Nat} {x : Ar} (hi : V i = some (.ext x)) (hlt : x.refuse < 9223372036854775808) :
    ∃ (T : List (Nat × AObj Empty)) (n0 : Nat) (ρ0 : Ren) (φ0 : Foot) (I : ArIds) (b s s' : Nat), ArAt (fun i => look i T) x I ∧ Good (E := Ext0) W0 ρ0 φ0 (fun i => look i T) n0 w ∧ ρ i = some (b, s) ∧ ρ0 I.A = some (b, s') ∧
      (∀ c, (φ i).1 c ↔ allF (E := Ext0) φ0 (fun i => look i T) c) ∧ (∀ c, (φ i).2 c ↔ allD (E := Ext0) φ0 (fun i => look i T) c) := by
  obtain ⟨b, s, hb, hr⟩ := g.rel i _ hi
  have hr' : ArRel x b (φ i).1 (φ i).2 w := by
    rcases (hr : ArRel x b (φ i).1 (φ i).2 w ∨ TkRel Cls x b (φ i).1 (φ i).2) with h | h
    · exact h
    · exact absurd h.1 (by omega)
  obtain ⟨T, n0, ρ0, φ0, I, s', h1, h2, h3, h4, h5⟩ := hr'
  exact ⟨T, n0, ρ0, φ0, I, b, s, s', h1, ⟨h2.dom, h2.rel, h2.dis, h2.sub, h2.lts, fun a o c ha hc => g.frs i _ c hi ((h4 c).2 ⟨a, o, ha, hc⟩), g.size, g.base, g.os, g.out⟩, hb, h3, h4, h5⟩

/-- A step of the parts is one of the whole. -/
theorem post_up {ρ : Ren} {φ : Foot} {V : View (Ext1 Cls)} {n : Nat} {w w' : World} (g : Good W0 ρ φ V n w) {i : Nat} {x x' : Ar} (hi : V i = some (.ext x)) {T T' : List (Nat × AObj Empty)} {n0 n0' : Nat} {ρ0 ρ0' : Ren} {φ0 φ0' : Foot} {I' : ArIds} {b s s' : Nat}
    (hb : ρ i = some (b, s)) (hF : ∀ c, (φ i).1 c ↔ allF (E := Ext0) φ0 (fun i => look i T) c) (hD : ∀ c, (φ i).2 c ↔ allD (E := Ext0) φ0 (fun i => look i T) c)
    (p : Post (E := Ext0) W0 ρ0 φ0 (fun i => look i T) n0 w ρ0' φ0' (fun i => look i T') n0' w') (hA : ArAt (fun i => look i T') x' I') (hb' : ρ0' I'.A = some (b, s')) :
    Post W0 ρ φ V n w ρ (fun j => if j = i then (allF (E := Ext0) φ0' (fun i => look i T'), allD (E := Ext0) φ0' (fun i => look i T')) else φ j) (View.put (E := (Ext1 Cls)) V i (.ext x')) n w' := by
  have hV : ∀ j oj, View.put (E := (Ext1 Cls)) V i (.ext x') j = some oj → j ≠ i → V j = some oj := fun j oj h e => by simpa [View.put, e] using h
  have hnF : ∀ c, allF (E := Ext0) φ0' (fun i => look i T') c → w.heap.size ≤ c ∨ (φ i).1 c := fun c ⟨a, o, ha, hc⟩ => by
    rcases p.fF a o c ha hc with h | ⟨a', o', h1, h2⟩
    · exact .inl h
    · exact .inr ((hF c).2 ⟨a', o', h1, h2⟩)
  have hnD : ∀ c, allD (E := Ext0) φ0' (fun i => look i T') c → w.heap.size ≤ c ∨ (φ i).2 c := fun c ⟨a, o, ha, hc⟩ => by
    rcases p.fD a o c ha hc with h | ⟨a', o', h1, h2⟩
    · exact .inl h
    · exact .inr ((hD c).2 ⟨a', o', h1, h2⟩)
  have hkeep : ∀ c, c < w.heap.size → ¬ (φ i).1 c → w'.heap[c]? = w.heap[c]? := fun c hc hn =>
    p.keep c hc fun a o ha hFa => hn ((hF c).2 ⟨a, o, ha, hFa⟩)
  refine ⟨⟨g.dom, ?_, ?_, ?_, ?_, ?_, p.good.size, p.good.base, p.good.os, p.good.out⟩, Ren.le_refl ρ, Nat.le_refl n, p.sz, fun c hc hF' => hkeep c hc (hF' i _ hi), ?_, ?_, ?_, fun _ _ => rfl⟩
  · intro j oj hj
    by_cases e : j = i
    · subst e
      simp only [View.put, if_true, Option.some.injEq] at hj
      subst hj
      refine ⟨b, s, hb, ?_⟩
      simp only [if_true]
      exact .inl ⟨T', n0', ρ0', φ0', I', s', hA, p.good.loc, hb', fun _ => Iff.rfl, fun _ => Iff.rfl⟩
    · have hj' := hV j oj hj e
      obtain ⟨bj, sj, h1, h2⟩ := g.rel j oj hj'
      refine ⟨bj, sj, h1, ?_⟩
      simp only [e, if_false]
      exact h2.frame (Ren.le_refl ρ) fun c hc => hkeep c (g.lts j oj c hj' hc) fun hFc => g.dis i j _ oj c hi hj' (fun h => e h.symm) hFc hc
  · intro j k oj ok c hj hk hne hFj hDk
    by_cases e : j = i
    · subst e
      have e' : k ≠ j := fun h => hne h.symm
      have hk' := hV k ok hk e'
      simp only [if_true] at hFj
      simp only [e', if_false] at hDk
      rcases hnF c hFj with h | h
      · have := g.lts k ok c hk' hDk; omega
      · exact g.dis j k _ ok c hi hk' hne h hDk
    · have hj' := hV j oj hj e
      simp only [e, if_false] at hFj
      by_cases e' : k = i
      · subst e'
        simp only [if_true] at hDk
        rcases hnD c hDk with h | h
        · have := g.lts j oj c hj' (g.sub j oj c hj' hFj); omega
        · exact g.dis j k oj _ c hj' hi hne hFj h
      · simp only [e', if_false] at hDk
        exact g.dis j k oj ok c hj' (hV k ok hk e') hne hFj hDk
  · intro j oj c hj hFj
    by_cases e : j = i
    · simp only [e, if_true] at hFj ⊢
      obtain ⟨a, o, ha, hc⟩ := hFj
      exact ⟨a, o, ha, p.good.sub a o c ha hc⟩
    · simp only [e, if_false] at hFj ⊢
      exact g.sub j oj c (hV j oj hj e) hFj
  · intro j oj c hj hDj
    by_cases e : j = i
    · simp only [e, if_true] at hDj
      obtain ⟨a, o, ha, hc⟩ := hDj
      exact p.good.lts a o c ha hc
    · simp only [e, if_false] at hDj
      have := g.lts j oj c (hV j oj hj e) hDj
      have := p.sz
      omega
  · intro j oj c hj hFj
    by_cases e : j = i
    · simp only [e, if_true] at hFj
      obtain ⟨a, o, ha, hc⟩ := hFj
      exact p.good.frs a o c ha hc
    · simp only [e, if_false] at hFj
      exact g.frs j oj c (hV j oj hj e) hFj
  · intro j oj c hj hFj
    by_cases e : j = i
    · simp only [e, if_true] at hFj
      rcases hnF c hFj with h | h
      · exact .inl h
      · exact .inr ⟨i, _, hi, h⟩
    · simp only [e, if_false] at hFj
      exact .inr ⟨j, oj, hV j oj hj e, hFj⟩
  · intro j oj c hj hDj
    by_cases e : j = i
    · simp only [e, if_true] at hDj
      rcases hnD c hDj with h | h
      · exact .inl h
      · exact .inr ⟨i, _, hi, h⟩
    · simp only [e, if_false] at hDj
      exact .inr ⟨j, oj, hV j oj hj e, hDj⟩
  · intro j oj hj
    by_cases e : j = i
    · exact .inr ⟨_, e ▸ hi⟩
    · exact .inr ⟨oj, hV j oj hj e⟩

/-- A new whole. -/
theorem post_made {ρ : Ren} {φ : Foot} {V : View (Ext1 Cls)} {n : Nat} {w w' : World} (g : Good W0 ρ φ V n w) {x' : Ar} {T' : List (Nat × AObj Empty)} {n0 n0' : Nat} {ρ0 ρ0' : Ren} {φ0 φ0' : Foot} {I' : ArIds} {b s' : Nat} {V0 : View Ext0}
    (hV0 : ∀ i, V0 i = none)
    (p : Post (E := Ext0) W0 ρ0 φ0 V0 n0 w ρ0' φ0' (fun i => look i T') n0' w') (hA : ArAt (fun i => look i T') x' I') (hb' : ρ0' I'.A = some (b, s')) :
    Post W0 ρ φ V n w (ρ.put n (b, 0)) (fun j => if j = n then (allF (E := Ext0) φ0' (fun i => look i T'), allD (E := Ext0) φ0' (fun i => look i T')) else φ j) (View.put (E := (Ext1 Cls)) V n (.ext x')) (n + 1) w' := by
  have hV : ∀ j oj, View.put (E := (Ext1 Cls)) V n (.ext x') j = some oj → j ≠ n → V j = some oj := fun j oj h e => by simpa [View.put, e] using h
  have hnF : ∀ c, allF (E := Ext0) φ0' (fun i => look i T') c → w.heap.size ≤ c := fun c ⟨a, o, ha, hc⟩ => by
    rcases p.fF a o c ha hc with h | ⟨a', o', h1, h2⟩
    · exact h
    · rw [hV0] at h1; cases h1
  have hnD : ∀ c, allD (E := Ext0) φ0' (fun i => look i T') c → w.heap.size ≤ c := fun c ⟨a, o, ha, hc⟩ => by
    rcases p.fD a o c ha hc with h | ⟨a', o', h1, h2⟩
    · exact h
    · rw [hV0] at h1; cases h1
  have hkeep : ∀ c, c < w.heap.size → w'.heap[c]? = w.heap[c]? := fun c hc => p.keep c hc fun a o ha _ => by rw [hV0] at ha; cases ha
  have hle : ρ.le (ρ.put n (b, 0)) := le_put (g.dom n (Nat.le_refl _))
  refine ⟨⟨?_, ?_, ?_, ?_, ?_, ?_, p.good.size, p.good.base, p.good.os, p.good.out⟩, hle, by omega, p.sz, fun c hc _ => hkeep c hc, ?_, ?_, ?_, fun i hi => by simp [Ren.put, show i ≠ n by omega]⟩
  · intro i hi
    simp only [Ren.put, show i ≠ n by omega, if_false]
    exact g.dom i (by omega)
  · intro j oj hj
    by_cases e : j = n
    · subst e
      simp only [View.put, if_true, Option.some.injEq] at hj
      subst hj
      refine ⟨b, 0, by simp [Ren.put], ?_⟩
      simp only [if_true]
      exact .inl ⟨T', n0', ρ0', φ0', I', s', hA, p.good.loc, hb', fun _ => Iff.rfl, fun _ => Iff.rfl⟩
    · have hj' := hV j oj hj e
      obtain ⟨bj, sj, h1, h2⟩ := g.rel j oj hj'
      refine ⟨bj, sj, hle _ _ h1, ?_⟩
      simp only [e, if_false]
      exact h2.frame hle fun c hc => hkeep c (g.lts j oj c hj' hc)
  · intro j k oj ok c hj hk hne hFj hDk
    by_cases e : j = n
    · have e' : k ≠ n := fun h => hne (e.trans h.symm)
      have hk' := hV k ok hk e'
      simp only [e, if_true] at hFj
      simp only [e', if_false] at hDk
      have := hnF c hFj
      have := g.lts k ok c hk' hDk; omega
    · have hj' := hV j oj hj e
      simp only [e, if_false] at hFj
      by_cases e' : k = n
      · simp only [e', if_true] at hDk
        have := hnD c hDk
        have := g.lts j oj c hj' (g.sub j oj c hj' hFj); omega
      · simp only [e', if_false] at hDk
        exact g.dis j k oj ok c hj' (hV k ok hk e') hne hFj hDk
  · intro j oj c hj hFj
    by_cases e : j = n
    · simp only [e, if_true] at hFj ⊢
      obtain ⟨a, o, ha, hc⟩ := hFj
      exact ⟨a, o, ha, p.good.sub a o c ha hc⟩
    · simp only [e, if_false] at hFj ⊢
      exact g.sub j oj c (hV j oj hj e) hFj
  · intro j oj c hj hDj
    by_cases e : j = n
    · simp only [e, if_true] at hDj
      obtain ⟨a, o, ha, hc⟩ := hDj
      exact p.good.lts a o c ha hc
    · simp only [e, if_false] at hDj
      have := g.lts j oj c (hV j oj hj e) hDj
      have := p.sz
      omega
  · intro j oj c hj hFj
    by_cases e : j = n
    · simp only [e, if_true] at hFj
      obtain ⟨a, o, ha, hc⟩ := hFj
      exact p.good.frs a o c ha hc
    · simp only [e, if_false] at hFj
      exact g.frs j oj c (hV j oj hj e) hFj
  · intro j oj c hj hFj
    by_cases e : j = n
    · simp only [e, if_true] at hFj; exact .inl (hnF c hFj)
    · simp only [e, if_false] at hFj
      exact .inr ⟨j, oj, hV j oj hj e, hFj⟩
  · intro j oj c hj hDj
    by_cases e : j = n
    · simp only [e, if_true] at hDj; exact .inl (hnD c hDj)
    · simp only [e, if_false] at hDj
      exact .inr ⟨j, oj, hV j oj hj e, hDj⟩
  · intro j oj hj
    by_cases e : j = n
    · exact .inl (by omega)
    · exact .inr ⟨oj, hV j oj hj e⟩
end
end Go.AI
