/- The evaluator's steps upon memory, but for calls and maps: each is the model's. No program is named here. -/
import Derived.Test.YtleknndhobpjcaaGreatDoorAiMem
namespace Go.AI

section
variable {X : Type}

def byteCells (s : List UInt8) : List Value := s.map fun b => .int .u8 (Int.ofNat b.toNat)
def cellBytes : List Value → Option (List UInt8)
  | [] => some []
  | .int .u8 (.ofNat n) :: r => (cellBytes r).map (UInt8.ofNat n :: ·)
  | _ => none

def cellBytesX : List Value → Option (List UInt8)
  | [] => some []
  | .int .u8 (.ofNat n) :: r => bif Nat.blt n 256 then (cellBytesX r).map (UInt8.ofNat n :: ·) else none
  | _ => none

/-- The cells of so many elements from a place on; none at all are everywhere. -/
def Mem.loads (m : Mem X) (a : Option Addr) (n : Nat) : Option (List Value) :=
  bif Nat.beq n 0 then some [] else match a with
    | some ⟨i, o, _⟩ => m.load ⟨i, o, none⟩ n
    | none => none

def rows (n : Nat) (z : List Value) : List Value := (List.replicate n z).flatten

def roomy (need b : Nat) : Bool := Nat.ble ((need + 1000) * b) 70368744177664

def source (m : Mem X) (e : Nat) : Value → Option (Nat × List Value)
  | .string s => some (s.data.toList.length, byteCells s.data.toList)
  | .slice a n _ => (m.loads a (n * e)).map fun cs => (n, cs)
  | _ => none

/-- Is a slice's capacity known just so? -/
def exactB : Option Nat → AObj X → Bool
  | some 1, .cells _ => true
  | some 1, .grown _ _ _ => true
  | some 1, .ro _ => true
  | none, .cells _ => true
  | _, _ => false
/-- Is a slice all that is known of its row? -/
def mineB (e t o cp l n : Nat) (src : List Value) : Option Nat → AObj X → Bool
  | none, .grown e' t' cs => Nat.beq t' t && Nat.beq e' e && Nat.beq o 0 && Nat.beq cs.length (cp * e) && Nat.beq src.length (n * e) && Nat.ble l cp
  | _, _ => false

def appendM (m : Mem X) (e b t : Nat) (x y : Value) : Option (Value × Mem X) :=
  match x, source m e y with
  | .slice none l cp, some (n, src) =>
    bif Nat.ble (l + n) cp then some (.slice none (l + n) cp, m)
    else bif Nat.beq l 0 && roomy (l + n) b then some (.slice (some ⟨m.next, 0, none⟩) (l + n) (l + n), m.new true (.grown e t src)) else none
  | .slice (some ⟨i, o, sp⟩) l cp, some (n, src) =>
    match m.get i with
    | some ob =>
      let exact := exactB sp ob
      let mine := mineB e t o cp l n src sp ob
      bif exact || mine then
        bif Nat.ble (l + n) cp then (bif Nat.beq n 0 then some (.slice (some ⟨i, o, sp⟩) (l + n) cp, m) else (m.store ⟨i, o + l * e, none⟩ src).map fun m' => (.slice (some ⟨i, o, sp⟩) (l + n) cp, m'))
        else bif roomy (l + n) b then (match m.loads (some ⟨i, o, none⟩) (l * e) with
          | some old => bif exact then some (.slice (some ⟨m.next, 0, none⟩) (l + n) (l + n), m.new true (.grown e t (old ++ src)))
            else some (.slice (some ⟨m.next, 0, none⟩) (l + n) (l + n), (m.kill i).new true (.grown e t (old ++ src)))
          | none => none) else none
      else none
    | none => none
  | _, _ => none

/-- What a new object holds at first: is it the heap's, its cells, and how many elements if it is a slice's. -/
def allocI (env : List (Nat × Value)) : IOp → Option (Bool × List Value × Option Nat)
  | .new _ hp cs => some (hp, cs, none)
  | .box _ hp x => match evo env x with
    | some v => (cellsV v).map fun vs => (hp, vs, none)
    | none => none
  | .bslice _ n e z ps => (fillp env (rows n z) (ps.map fun p => (p.1 * e, e, p.2))).map fun cs => (true, cs, some n)
  | _ => none
def refTo (i : Nat) : Option Nat → Value
  | none => .pointer (some ⟨i, 0, none⟩)
  | some n => .slice (some ⟨i, 0, none⟩) n n

def mstep (env : List (Nat × Value)) (m : Mem X) : IOp → Option (Value × Mem X)
  | .load _ n g a => match evo env a with
    | some (.pointer (some ad)) => match m.load ad n with
      | some r => (oneOf g r).map fun v => (v, m)
      | none => none
    | _ => none
  | .store n a x => match evo env a, evo env x with
    | some (.pointer (some ad)), some v => match cellsV v with
      | some vs => bif Nat.beq vs.length n then (m.store ad vs).map fun m' => (undef, m') else none
      | none => none
    | _, _ => none
  | .new d hp cs => (allocI env (.new d hp cs)).map fun r => (refTo m.next r.2.2, m.new r.1 (.cells r.2.1))
  | .box d hp x => (allocI env (.box d hp x)).map fun r => (refTo m.next r.2.2, m.new r.1 (.cells r.2.1))
  | .bslice d n e z ps => (allocI env (.bslice d n e z ps)).map fun r => (refTo m.next r.2.2, m.new r.1 (.cells r.2.1))
  | .mslice _ _ b z l c => match evo env l, evo env c with
    | some lv, some cv => match natOf lv, natOf cv with
      | some l, some c => bif Nat.ble l c && Nat.ble (c * b) 281474976710656 && Nat.ble c 281474976710656 then some (.slice (some ⟨m.next, 0, none⟩) l c, m.new true (.cells (rows c z))) else none
      | _, _ => none
    | _, _ => none
  | .s2b _ t x => match evo env x with
    | some (.string s) => some (.slice (some ⟨m.next, 0, none⟩) s.data.toList.length s.data.toList.length, m.new true (.grown 1 t (byteCells s.data.toList)))
    | _ => none
  | .b2s _ x => match evo env x with
    | some (.slice none _ _) => some (.string ⟨⟨[]⟩⟩, m)
    | some (.slice (some a) n _) => match m.loads (some a) n with
      | some cs => (cellBytes cs).map fun l => (.string ⟨⟨l⟩⟩, m)
      | none => none
    | _ => none
  | .append _ e b t x y => match evo env x, evo env y with
    | some u, some v => appendM m e b t u v
    | _, _ => none
  | .copy _ e x y => match evo env x, evo env y with
    | some (.slice a dl _), some v => match v with
      | .string s => let src := byteCells (s.data.toList.take dl)
        bif Nat.beq src.length 0 then some (.int .i64 0, m) else match a with
          | some ⟨i, o, _⟩ => (m.store ⟨i, o, none⟩ src).map fun m' => (.int .i64 (Int.ofNat (Nat.min s.data.toList.length dl)), m')
          | none => none
      | .slice b sl _ => let k := bif Nat.ble sl dl then sl else dl
        bif Nat.beq k 0 then some (.int .i64 0, m) else match a, m.loads b (k * e) with
          | some ⟨i, o, _⟩, some src => (m.store ⟨i, o, none⟩ src).map fun m' => (.int .i64 (Int.ofNat k), m')
          | _, _ => none
      | _ => none
    | _, _ => none
  | .clear _ _ z x => match evo env x with
    | some (.slice a n _) => bif Nat.beq n 0 then some (.tuple ⟨[]⟩, m) else match a with
      | some ⟨i, o, _⟩ => (m.store ⟨i, o, none⟩ (rows n z)).map fun m' => (.tuple ⟨[]⟩, m')
      | none => none
    | _ => none
  | .newt _ hp t cs => some (.pointer (some ⟨m.next, 0, none⟩), m.new hp (.typed t cs))
  | .tou _ t x => match evo env x with
    | some (.pointer (some ⟨i, 0, none⟩)) => match m.get i with
      | some (.typed t' (_ :: _)) => bif Nat.beq t' t then some (.pointer (some ⟨i, 0, none⟩), m) else none
      | _ => none
    | _ => none
  | .fromu _ t n x => match evo env x with
    | some (.pointer (some ⟨i, 0, none⟩)) => match m.get i with
      | some (.typed t' cs) => bif Nat.beq t' t && Nat.beq cs.length n then some (.pointer (some ⟨i, 0, none⟩), m) else none
      | _ => none
    | _ => none
  | .usd _ x => match evo env x with
    | some (.slice none _ _) => some (.pointer none, m)
    | some (.slice (some ⟨i, o, none⟩) _ c) => bif Nat.beq c 0 then none else some (.pointer (some ⟨i, o, none⟩), m)
    | _ => none
  | .ustr _ t x n => match evo env x, evo env n with
    | some (.pointer p), some (.int .i64 (.ofNat n)) => bif Nat.beq n 0 then some (.string ⟨⟨[]⟩⟩, m) else match p with
      | some ⟨i, 0, none⟩ => match m.get i with
        | some (.grown _ t' cs) => bif Nat.beq t' t && Nat.ble n 9223372036854775807 then (match cellBytesX (cs.take n) with
          | some l => bif Nat.beq l.length n then some (.string ⟨⟨l⟩⟩, m.kill i) else none
          | none => none) else none
        | _ => none
      | _ => none
    | _, _ => none
  | _ => none
end

section
variable {E : Ext} {P : Program} {W0 : World} {ρ : Ren} {φ : Foot} {m m' : Mem E.X} {w : World} {env : List (Nat × Value)} {a : Act}

/-- What an operation leaves for the frame. -/
def Res (ρ : Ren) (v : Value) : Next → Prop
  | .value v' => VR ρ v v'
  | .skip => v = undef
  | _ => False

/-- What is to be shown of one operation upon memory. -/
def StepOk (E : Ext) (P : Program) (env : List (Nat × Value)) (a : Act) (op : Op) (i : IOp) : Prop :=
  ∀ (W0 : World) (ρ : Ren) (φ : Foot) (m m' : Mem E.X) (v : Value) (w : World), mstep env m i = some (v, m') → ER ρ env a → Good (E := E) W0 ρ φ m.get m.next w → m.Sep →
    ∀ (dst : Option Tmp) (ty : TypeId) (pos : String) (af : Array Edge) (gd : Option (Nat × Bool)), ∃ r w' ρ' φ', (execOp a.eval ⟨dst, op, ty, pos, af, gd⟩).run P w = .ok r w' ∧ Res ρ' v r ∧ (r = .skip → dst = none ∨ True) ∧ Post W0 ρ φ m.get m.next w ρ' φ' m'.get m'.next w' ∧ m'.Sep

theorem post_new {o : AObj E.X} {s : Nat} {heap : Bool} {c : Obj} {w' : World} (g : Good (E := E) W0 ρ φ m.get m.next w) (hs : m.Sep)
    (hw : w'.heap = w.heap.push c) (ho : w'.os = w.os) (hp : w'.output = w.output)
    (hrel : ObjR E (ρ.put m.next (w.heap.size, s)) o w.heap.size s (· = w.heap.size) (· = w.heap.size) w') :
    Post W0 ρ φ m.get m.next w (ρ.put m.next (w.heap.size, s)) (fun j => if j = m.next then ((· = w.heap.size), (· = w.heap.size)) else φ j) (m.new heap o).get (m.new heap o).next w' ∧ (m.new heap o).Sep := by
  obtain ⟨h1, h2⟩ := Mem.none_next g
  rw [Mem.get_new h1, Mem.next_new]
  exact ⟨g.new o s _ _ c hw ho hp (fun _ h => h) (fun _ h => h) (fun _ h => h) hrel, Mem.sep_new hs h1 h2⟩

theorem le_put {n : Nat} {x : Nat × Nat} (h : ρ n = none) : ρ.le (ρ.put n x) := fun i y hi => by
  have : i ≠ n := fun e => by rw [e, h] at hi; cases hi
  simp [Ren.put, this, hi]

theorem free_zero (n : Nat) : free (0, 0) n := fun o _ h => by omega

/-- A new row of cells. -/
theorem new_cells {cs cs' : List Value} {heap : Bool} (g : Good (E := E) W0 ρ φ m.get m.next w) (hs : m.Sep) (e : TypeId) (hc : All2 (FR ρ) cs cs') :
    ∃ ρ' φ', ρ' m.next = some (w.heap.size, 0) ∧ Post W0 ρ φ m.get m.next w ρ' φ' (m.new heap (.cells cs)).get (m.new heap (.cells cs)).next { w with heap := w.heap.push (.cells ⟨cs'⟩ e) } ∧ (m.new heap (.cells cs)).Sep := by
  have hle := le_put (ρ := ρ) (x := (w.heap.size, 0)) (g.dom m.next (Nat.le_refl _))
  obtain ⟨k1, k2⟩ := post_new (o := .cells cs) (s := 0) (heap := heap) (c := .cells ⟨cs'⟩ e) (w' := { w with heap := w.heap.push (.cells ⟨cs'⟩ e) }) g hs rfl rfl rfl
    ⟨rfl, fun _ => Iff.rfl, fun _ => Iff.rfl, ⟨cs'⟩, e, (0, 0), by simp, hc.mono fun _ _ => FR.mono hle, free_zero _⟩
  exact ⟨_, _, by simp [Ren.put], k1, k2⟩

theorem run_newRow (e : TypeId) (c : Array Value) : (newRow e c).run P w = .ok ⟨w.heap.size, 0, none⟩ { w with heap := w.heap.push (.cells c e) } := by
  simp [newRow]

theorem step_load (t : TypeId) (x : Operand) {d n : Nat} {g : Bool} {y : Opd} (hg : aggT P t = some g) (hn : ∃ k, sizeT P t = some k ∧ n = bif g then k else 1) (hn0 : n ≠ 0) (hx : mkOpd x = some y) : StepOk E P env a (.load t x) (.load d n g y) := by
  intro W0 ρ φ m m' v w hm hE hG hs dst ty pos af gd
  simp only [mstep] at hm
  split at hm
  · rename_i ad had
    split at hm
    · rename_i r hr
      simp only [Option.map_eq_some_iff, Prod.mk.injEq] at hm
      obtain ⟨v', hv, rfl, rfl⟩ := hm
      have hp := opd_sound hx had hE
      obtain ⟨k, hk, rfl⟩ := hn
      cases hq : a.eval x <;> rw [hq] at hp <;> have hf := hp.flat_ptr <;> cases hf
      rename_i i b s o hrb
      obtain ⟨r', l1, l2, l3⟩ := load_sound (P := P) hr hG hn0 (.ptr hrb)
      unfold oneOf at hv
      cases g with
      | true =>
        simp only [cond_true, Option.some.injEq] at hv l1; subst hv
        refine ⟨.value (.agg ⟨r'⟩), w, ρ, φ, ?_, .x (.agg l2), fun h => .inr trivial, Post.refl hG, hs⟩
        simp only [execOp, hq, Instr.loadAt, Instr.sureAddr, loadVar, Sem.run_bind, Sem.run_pure, Result.andThen_ok, run_agg hg, if_true, run_size hk, l1]
      | false =>
        simp only [cond_false] at hv
        split at hv
        · rename_i c
          injection hv with hv; subst hv
          obtain ⟨yv, l4, l5⟩ := l3 c rfl rfl
          refine ⟨.value yv, w, ρ, φ, ?_, .of_flat l5, fun h => .inr trivial, Post.refl hG, hs⟩
          simp only [execOp, hq, Instr.loadAt, Instr.sureAddr, loadVar, Sem.run_bind, Sem.run_pure, Result.andThen_ok, run_agg hg, Bool.false_eq_true, if_false, l4]
        · cases hv
    · cases hm
  · cases hm

theorem step_store (t : TypeId) (x y : Operand) {n : Nat} {x' y' : Opd} (hn : sizeT P t = some n) (hx : mkOpd x = some x') (hy : mkOpd y = some y') : StepOk E P env a (.store t x y) (.store n x' y') := by
  intro W0 ρ φ m m' v w hm hE hG hs dst ty pos af gd
  simp only [mstep] at hm
  split at hm
  · rename_i ad val had hval
    split at hm
    · rename_i vs hvs
      cases hl : Nat.beq vs.length n with
      | false => rw [hl] at hm; cases hm
      | true =>
        rw [hl, cond_true] at hm
        rw [Nat.beq_eq] at hl
        simp only [Option.map_eq_some_iff, Prod.mk.injEq] at hm
        obtain ⟨m1, h1, rfl, rfl⟩ := hm
        have hp := opd_sound hx had hE
        have hc := cellsV_sound hvs (opd_sound hy hval hE)
        cases hq : a.eval x <;> rw [hq] at hp <;> have hf := hp.flat_ptr <;> cases hf
        rename_i i b s o hrb
        obtain ⟨w', l1, l2, l3⟩ := store_sound (P := P) h1 hG hs (.ptr hrb) hc
        refine ⟨.skip, w', ρ, φ, ?_, rfl, fun h => .inr trivial, l2, l3⟩
        have hsz : ¬ ((a.eval y).cells.size ≠ n) := by
          have : vs.length = (a.eval y).cells.size := by simpa using hc.length
          omega
        simp only [execOp, hq, Instr.storeAt, Instr.sureAddr, storeVar, Sem.run_bind, Sem.run_pure, Result.andThen_ok, run_size hn, hsz, if_false, l1]
    · cases hm
  · cases hm

/-- What is to be shown of an operation that makes an object. -/
def AllocOk (P : Program) (env : List (Nat × Value)) (a : Act) (op : Op) (i : IOp) : Prop :=
  ∀ (ρ : Ren) (r : Bool × List Value × Option Nat) (w : World), allocI env i = some r → ER ρ env a →
    ∀ (dst : Option Tmp) (ty : TypeId) (pos : String) (af : Array Edge) (gd : Option (Nat × Bool)), ∃ cs' e, (execOp a.eval ⟨dst, op, ty, pos, af, gd⟩).run P w = .ok (.value (refTo w.heap.size r.2.2)) { w with heap := w.heap.push (.cells ⟨cs'⟩ e) } ∧ All2 (FR ρ) r.2.1 cs'

theorem ref_sound {i b : Nat} {k : Option Nat} (h : ρ i = some (b, 0)) : VR ρ (refTo i k) (refTo b k) := by
  cases k with
  | none => exact .of_flat (.ptr h)
  | some n => exact .of_flat (.slc (c := n) h)

theorem step_of_alloc {op : Op} {i : IOp} (h : AllocOk P env a op i) (hm : ∀ m : Mem E.X, mstep env m i = (allocI env i).map fun r => (refTo m.next r.2.2, m.new r.1 (.cells r.2.1))) : StepOk E P env a op i := by
  intro W0 ρ φ m m' v w hs hE hG hsp dst ty pos af gd
  rw [hm] at hs
  simp only [Option.map_eq_some_iff, Prod.mk.injEq] at hs
  obtain ⟨r, hr, rfl, rfl⟩ := hs
  obtain ⟨cs', e, k1, k2⟩ := h ρ r w hr hE dst ty pos af gd
  obtain ⟨ρ', φ', h1, h2, h3⟩ := new_cells (heap := r.1) hG hsp e k2
  exact ⟨_, _, ρ', φ', k1, ref_sound h1, fun h => .inr trivial, h2, h3⟩

theorem alloc_new (t : TypeId) {d : Nat} {hp : Bool} {z : List Value} (hz : zeroOf P t = some z) : AllocOk P env a (.alloc t) (.new d hp z) := by
  intro ρ r w hm hE dst ty pos af gd
  simp only [allocI, Option.some.injEq] at hm
  subst hm
  obtain ⟨zv, z1, z2, z3, z4⟩ := run_zero (ρ := ρ) (w := w) hz
  refine ⟨z, t, ?_, z3⟩
  have hz' : zv.cells = ⟨z⟩ := Array.ext' z2
  simp only [execOp, Instr.alloc, newVar, Sem.run_bind, z1, Result.andThen_ok, Sem.run_pure, hz', run_newRow]
  rfl

theorem alloc_box (t : TypeId) (x : Operand) {d : Nat} {hp : Bool} {y : Opd} (hx : mkOpd x = some y) : AllocOk P env a (.box t x) (.box d hp y) := by
  intro ρ r w hm hE dst ty pos af gd
  simp only [allocI] at hm
  split at hm
  · rename_i val hval
    simp only [Option.map_eq_some_iff] at hm
    obtain ⟨vs, hvs, rfl⟩ := hm
    refine ⟨(a.eval x).cells.toList, t, ?_, cellsV_sound hvs (opd_sound hx hval hE)⟩
    simp only [execOp, Instr.box, newVar, Sem.run_bind, Result.andThen_ok, Sem.run_pure, run_newRow]
    rfl
  · cases hm

theorem rows_length (n : Nat) (z : List Value) : (rows n z).length = n * z.length := by
  unfold rows; simp
theorem rows_all2 {n : Nat} {z z' : List Value} (h : All2 (FR ρ) z z') : All2 (FR ρ) (rows n z) (rows n z') := (All2.replicate h n).flatten

/-- The model's row of zero values. -/
theorem rows_model (n : Nat) (z : Array Value) (hz : z.size ≠ 0 ∨ n = 0) : (Array.range (n * z.size)).map (fun i => z[i % z.size]!) = ⟨rows n z.toList⟩ := by
  apply Array.ext'
  rw [Array.toList_map, Array.toList_range]
  induction n with
  | zero => simp [rows]
  | succ n ih =>
    have hz : z.size ≠ 0 := by rcases hz with h | h; exact h; omega
    have ih := ih (.inl hz)
    rw [Nat.succ_mul, List.range_add, List.map_append, ih]
    have : rows (n + 1) z.toList = rows n z.toList ++ z.toList := by
      unfold rows
      rw [List.replicate_succ']
      simp
    rw [this]
    congr 1
    rw [List.map_map]
    apply List.ext_getElem
    · simp
    · intro i h1 h2
      simp only [List.getElem_map, List.getElem_range, Function.comp]
      have hi : i < z.size := by simpa using h1
      have : (n * z.size + i) % z.size = i := by rw [Nat.mul_add_mod_self_right]; exact Nat.mod_eq_of_lt hi
      rw [this]
      simp [hi]


theorem mkRow_parts (e : Nat) : ∀ {ps : List (Nat × Operand)} {qs : List (Nat × Opd)}, mkRow ps = some qs → mkParts (fun i => some (i * e, e)) ps = some (qs.map fun p => (p.1 * e, e, p.2))
  | [], qs, h => by simp only [mkRow, Option.some.injEq] at h; subst h; rfl
  | (i, x) :: ps, qs, h => by
    simp only [mkRow] at h
    split at h
    · rename_i y s h1 h2
      injection h with h; subst h
      simp only [mkParts, h1, mkRow_parts e h2, List.map_cons]
    · cases h

theorem alloc_bslice (t : TypeId) (n : Nat) (ps : Array (Nat × Operand)) {e : TypeId} {d k : Nat} {z : List Value} {qs : List (Nat × Opd)} (hu : P.underlying t = some (.slice e)) (hz : zeroOf P e = some z) (hk : sizeT P e = some k) (hq : mkRow ps.toList = some qs) (hle : n * k ≤ 16777216) :
    AllocOk P env a (.buildSlice t n ps) (.bslice d n k z qs) := by
  intro ρ r w hm hE dst ty pos af gd
  simp only [allocI, Option.map_eq_some_iff] at hm
  obtain ⟨cs, hcs, rfl⟩ := hm
  obtain ⟨zv, z1, z2, z3, z4⟩ := run_zero (ρ := ρ) (w := w) hz
  rw [hk] at z4; injection z4 with z4
  have hz' : zv.cells = ⟨z⟩ := Array.ext' z2
  obtain ⟨r', f1, f2⟩ := fill_sound (cs' := rows n z) (mkRow_parts k hq) hcs hE (rows_all2 z3)
  refine ⟨r', e, ?_, f2⟩
  have hmap : (ps.map fun (i, x) => (i, a.eval x)).toList = ps.toList.map fun p => (p.1, a.eval p.2) := by rw [Array.toList_map]
  have hgt : ¬ (n * k > 2 ^ 24) := by omega
  simp only [execOp, Instr.buildSlice, Sem.run_bind, run_under hu, Result.andThen_ok, run_size hk, hgt, if_false, Sem.run_pure]
  by_cases h0 : n * k = 0
  · simp only [h0, if_true, Sem.run_bind, Sem.run_pure, Result.andThen_ok, hmap]
    have hrow : rows n z = [] := List.eq_nil_of_length_eq_zero (by rw [rows_length, ← z4]; exact h0)
    rw [hrow] at f1
    have e0 : (Array.range 0).map (fun x => (#[] : Array Value)[x % (#[] : Array Value).size]!) = ⟨[]⟩ := by simp
    rw [e0, f1]
    simp only [Sem.run_bind, run_newRow, Result.andThen_ok, Sem.run_pure]
    rfl
  · simp only [h0, if_false, Sem.run_bind, z1, Sem.run_pure, Result.andThen_ok, hmap, hz']
    have hzs : (⟨z⟩ : Array Value).size = k := by show z.length = k; omega
    have e1 := rows_model n (⟨z⟩ : Array Value) (.inl (by rw [hzs]; intro e; rw [e] at h0; simp at h0))
    rw [hzs] at e1
    rw [hzs, e1, f1]
    simp only [Sem.run_bind, run_newRow, Result.andThen_ok, Sem.run_pure]
    rfl

theorem step_mslice (t : TypeId) (l c : Operand) {e : TypeId} {i : TypeInfo} {d : Nat} {z : List Value} {l' c' : Opd} (hu : P.underlying t = some (.slice e)) (hi : P.info? e = some i) (hz : zeroOf P e = some z) (hl : mkOpd l = some l') (hc : mkOpd c = some c') :
    StepOk E P env a (.makeSlice t l c) (.mslice d i.size i.bytes z l' c') := by
  intro W0 ρ φ m m' v w hm hE hG hs dst ty pos af gd
  simp only [mstep] at hm
  split at hm
  · rename_i lv cv hlv hcv
    split at hm
    · rename_i ln cn hln hcn
      cases hb : (Nat.ble ln cn && Nat.ble (cn * i.bytes) 281474976710656 && Nat.ble cn 281474976710656) with
      | false => rw [hb] at hm; cases hm
      | true =>
        rw [hb, cond_true] at hm
        simp only [Bool.and_eq_true, Nat.ble_eq] at hb
        obtain ⟨⟨b1, b2⟩, b3⟩ := hb
        simp only [Option.some.injEq, Prod.mk.injEq] at hm
        obtain ⟨rfl, rfl⟩ := hm
        obtain ⟨kl, rfl⟩ := natOf_inv hln
        obtain ⟨kc, rfl⟩ := natOf_inv hcn
        obtain ⟨zv, z1, z2, z3, z4⟩ := run_zero (ρ := ρ) (w := w) hz
        have hz' : zv.cells = ⟨z⟩ := Array.ext' z2
        have hsz : sizeT P e = some i.size := by simp [sizeT, hi]
        rw [hsz] at z4; injection z4 with z4
        obtain ⟨ρ', φ', h1, h2, h3⟩ := new_cells (heap := true) hG hs e (rows_all2 (n := cn) z3)
        refine ⟨.value (.slice (some ⟨w.heap.size, 0, none⟩) ln cn), _, ρ', φ', ?_, .of_flat (.slc (c := cn) h1), fun h => .inr trivial, h2, h3⟩
        have el : IntKind.i64.wrap (Int.ofNat ln) = ln := wrapF_nat .i64 ln (by simp only [half]; omega)
        have ec : IntKind.i64.wrap (Int.ofNat cn) = cn := wrapF_nat .i64 cn (by simp only [half]; omega)
        simp only [execOp, (opd_sound hl hlv hE).int_inv, (opd_sound hc hcv hE).int_inv, Instr.makeSlice, Sem.run_bind, run_under hu, Result.andThen_ok, asInt, asIntOf, Sem.run_pure, run_info hi, el, ec]
        have t1 : (decide ((cn : Int) < 0) || decide ((i.bytes : Int) * (cn : Int) > 2 ^ 48)) = false := by
          simp only [Bool.or_eq_false_iff, decide_eq_false_iff_not]
          have : (i.bytes : Int) * cn = ((cn * i.bytes : Nat) : Int) := by rw [Int.natCast_mul, Int.mul_comm]
          rw [this]
          constructor <;> omega
        have t2 : (decide ((ln : Int) < 0)) = false := by simp
        have t3 : (decide ((ln : Int) > (cn : Int))) = false := by simp; omega
        simp only [t1, t2, t3, Bool.or_self, Bool.false_eq_true, if_false, Sem.run_bind, Go.run_askRoom, Result.andThen_ok, Int.toNat_natCast, run_size hsz]
        by_cases h0 : cn * i.size = 0
        · have hrow : rows cn z = [] := List.eq_nil_of_length_eq_zero (by rw [rows_length, ← z4]; exact h0)
          simp only [h0, if_true, Sem.run_pure, Sem.run_bind, Result.andThen_ok, hrow]
          have e0 : (Array.range 0).map (fun x => (#[] : Array Value)[x % (#[] : Array Value).size]!) = ⟨[]⟩ := by simp
          rw [e0]
          simp only [Sem.run_bind, run_newRow, Result.andThen_ok, Sem.run_pure]
        · have hzs : (⟨z⟩ : Array Value).size = i.size := by show z.length = i.size; omega
          have e1 := rows_model cn (⟨z⟩ : Array Value) (.inl (by rw [hzs]; intro e; rw [e] at h0; simp at h0))
          rw [hzs] at e1
          simp only [h0, if_false, Sem.run_pure, Sem.run_bind, Result.andThen_ok, z1, hz', hzs, e1, run_newRow]
    · cases hm
  · cases hm


theorem byte_cells (l : List UInt8) : All2 (FR ρ) (byteCells l) (byteCells l) := by
  induction l with
  | nil => exact .nil
  | cons b l ih => exact .cons (.int _ _) ih

/-- A new row whose length is not known to the end. -/
theorem new_grown {cs cs' rest : List Value} {s ez : Nat} {heap : Bool} {w' : World} (g : Good (E := E) W0 ρ φ m.get m.next w) (hs : m.Sep) (e : TypeId) (hc : All2 (FR ρ) cs cs') (hr : rest.length = s * ez)
    (f : Nat × Nat) (hf : free f (cs' ++ rest).length) (hw : w'.heap = w.heap.push (.cells ⟨cs' ++ rest⟩ e f)) (ho : w'.os = w.os) (hp : w'.output = w.output) :
    ∃ ρ' φ', ρ' m.next = some (w.heap.size, s) ∧ Post W0 ρ φ m.get m.next w ρ' φ' (m.new heap (.grown ez e cs)).get (m.new heap (.grown ez e cs)).next w' ∧ (m.new heap (.grown ez e cs)).Sep := by
  have hle := le_put (ρ := ρ) (x := (w.heap.size, s)) (g.dom m.next (Nat.le_refl _))
  have hl := hc.length
  obtain ⟨k1, k2⟩ := post_new (o := .grown ez e cs) (s := s) (heap := heap) (c := .cells ⟨cs' ++ rest⟩ e f) (w' := w') g hs hw ho hp
    ⟨fun _ => Iff.rfl, fun _ => Iff.rfl, ⟨cs' ++ rest⟩, e, f, by rw [hw]; simp, by show (cs' ++ rest).length = _; simp; omega, by
      show All2 _ cs ((cs' ++ rest).take cs.length)
      rw [hl, List.take_left']
      · exact hc.mono fun _ _ => FR.mono hle
      · rfl, hf, rfl⟩
  exact ⟨_, _, by simp [Ren.put], k1, k2⟩

theorem step_s2b (s t : TypeId) (x : Operand) {e : TypeId} {d : Nat} {y : Opd} (hs1 : P.underlying s = some .string) (ht : P.underlying t = some (.slice e)) (he : P.underlying e = some (.int .u8)) (hx : mkOpd x = some y) :
    StepOk E P env a (.convert s t x) (.s2b d e y) := by
  intro W0 ρ φ m m' v w hm hE hG hs dst ty pos af gd
  simp only [mstep] at hm
  split at hm
  · rename_i q hq
    simp only [Option.some.injEq, Prod.mk.injEq] at hm
    obtain ⟨rfl, rfl⟩ := hm
    have hcut : ∀ k, ¬ (Question.appendCap q.size 0 e).forced = true ∧ q.size ≤ (Question.appendCap q.size 0 e).cut k := by
      intro k; refine ⟨by simp [Question.forced], by simp [Question.cut]⟩
    obtain ⟨hnf, hcap⟩ := hcut (w.tape w.drawn (Question.appendCap q.size 0 e))
    generalize hC : (Question.appendCap q.size 0 e).cut (w.tape w.drawn (Question.appendCap q.size 0 e)) = C at hcap
    have hqs : q.data.toList.length = q.size := by simp
    have hrow : (q.data.map fun b => (Value.int .u8 b.toNat)) ++ Array.replicate (C - q.size) (Value.int .u8 0) = ⟨byteCells q.data.toList ++ List.replicate (C - q.size) (.int .u8 0)⟩ := by
      apply Array.ext'
      simp [byteCells]
    have hlen : (byteCells q.data.toList ++ List.replicate (C - q.size) (Value.int .u8 0)).length = C := by
      simp only [byteCells, List.length_append, List.length_map, List.length_replicate, hqs]; omega
    obtain ⟨ρ', φ', h1, h2, h3⟩ := new_grown (heap := true) (ez := 1) (s := C - q.size) (w' := { w with drawn := w.drawn + 1, heap := w.heap.push (.cells ⟨byteCells q.data.toList ++ List.replicate (C - q.size) (.int .u8 0)⟩ e (C, C + 1)) }) hG hs e (byte_cells q.data.toList) (by simp) (C, C + 1) (by rw [hlen]; intro o ho; omega) rfl rfl rfl
    refine ⟨.value (.slice (some ⟨w.heap.size, 0, none⟩) q.size (q.size + (C - q.size))), _, ρ', φ', ?_, ?_, fun h => .inr trivial, h2, h3⟩
    · simp only [execOp, (opd_sound hx hq hE).str_inv, convert, Sem.run_bind, run_under hs1, run_under ht, run_under he, Result.andThen_ok, Conv.stringToBytes, run_choose, hnf, hC, Bool.false_eq_true, if_false, hrow, run_newRow, markStringish, run_shape, Sem.run_pure]
      have hsh : ({ w with drawn := w.drawn + 1, heap := w.heap.push (.cells ⟨byteCells q.data.toList ++ List.replicate (C - q.size) (.int .u8 0)⟩ e) } : World).shape? w.heap.size = some (e, C) := by
        simp only [World.shape?, Array.getElem?_push_size, Option.some.injEq, Prod.mk.injEq, true_and]
        exact hlen
      simp only [hsh]
      simp only [run_freeze, Result.andThen_ok, Sem.run_pure]
      rw [show q.size + (C - q.size) = C by omega]
      congr 1
      unfold World.freeze
      simp only [Nat.add_one_ne_zero, if_false]
      congr 1
      apply Array.ext_getElem?
      intro j
      rw [Array.getElem?_modify]
      by_cases hj : j = w.heap.size
      · subst hj; simp
      · simp only [Ne.symm hj, if_false]
        rcases Nat.lt_or_ge j w.heap.size with h' | h'
        · rw [Array.getElem?_push_lt h', Array.getElem?_push_lt h']
        · have hne : w.heap.size < j := by omega
          rw [Array.getElem?_eq_none (by simp; omega), Array.getElem?_eq_none (by simp; omega)]
    · rw [hqs]; exact .of_flat (.slc h1)
  · cases hm

theorem loads_sound {x x' : Option Addr} {n l c l' c' : Nat} {r : List Value} (h : m.loads x n = some r) (g : Good (E := E) W0 ρ φ m.get m.next w) (hx : FR ρ (.slice x l c) (.slice x' l' c')) (hl : x = none → n = 0) (hz : n ≠ 0 → l ≠ 0) :
    ∃ r', (match x' with | some b => (loadCells b n).run P w | none => Result.ok #[] w) = .ok ⟨r'⟩ w ∧ All2 (FR ρ) r r' := by
  unfold Mem.loads at h
  by_cases hn : n = 0
  · subst hn
    simp only [Nat.beq_refl, cond_true, Option.some.injEq] at h; subst h
    refine ⟨[], ?_, .nil⟩
    cases x' <;> rfl
  · have hb : Nat.beq n 0 = false := by rw [← Bool.not_eq_true, Nat.beq_eq]; exact hn
    rw [hb, cond_false] at h
    cases hx with
    | nils => exact (hn (hl rfl)).elim
    | slc hr => obtain ⟨r', k1, k2, _⟩ := load_sound (P := P) h g hn (.ptr hr); exact ⟨r', k1, k2⟩
    | slx hr => obtain ⟨r', k1, k2, _⟩ := load_sound (P := P) h g hn (.ptr hr); exact ⟨r', k1, k2⟩
    | slz hr => exact (hz hn rfl).elim

end
end Go.AI
