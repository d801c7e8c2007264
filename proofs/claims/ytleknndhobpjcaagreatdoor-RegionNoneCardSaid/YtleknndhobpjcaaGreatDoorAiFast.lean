/- The evaluator once more, so written that the kernel reckons quickly; it answers as the other one. No program is named here. -/
import Derived.Test.YtleknndhobpjcaaGreatDoorAiMain
namespace Go.AI

section
variable {α β : Type}

theorem bind_some' (v : α) (k : α → Option β) : (some v).bind k = k v := rfl
theorem bind_none' (k : α → Option β) : (none : Option α).bind k = none := rfl

noncomputable def ob (o : Option α) (k : α → Option β) : Option β := Option.rec none k o
@[simp] theorem ob_eq (o : Option α) (k : α → Option β) : ob o k = o.bind k := by cases o <;> rfl

noncomputable def ite' (b : Bool) (x y : β) : β := Bool.rec y x b
@[simp] theorem ite'_eq (b : Bool) (x y : β) : ite' b x y = bif b then x else y := by cases b <;> rfl

noncomputable def fN (n : Nat) (k : Nat → β) : β := Nat.rec (k 0) (fun m _ => k (Nat.succ m)) n
@[simp] theorem fN_eq (n : Nat) (k : Nat → β) : fN n k = k n := by cases n <;> rfl
noncomputable def fI (n : Int) (k : Int → β) : β := Int.rec (fun m => fN m fun m => k (.ofNat m)) (fun m => fN m fun m => k (.negSucc m)) n
@[simp] theorem fI_eq (n : Int) (k : Int → β) : fI n k = k n := by cases n <;> simp [fI]

/-! ### Values -/
noncomputable def vInt (d : β) (f : IntKind → Int → β) (v : Value) : β :=
  @Value.rec (fun _ => β) (fun _ => PUnit) (fun _ => PUnit) (fun _ => d) f (fun _ _ => d) (fun _ _ _ => d) (fun _ => d) (fun _ => d) (fun _ _ _ => d) (fun _ => d) (fun _ => d) (fun _ _ _ _ _ => d) d (fun _ _ _ => d) d (fun _ _ => d) (fun _ _ => d) (fun _ _ => ⟨⟩) ⟨⟩ (fun _ _ _ _ => ⟨⟩) v
noncomputable def vBool (d : β) (f : Bool → β) (v : Value) : β :=
  @Value.rec (fun _ => β) (fun _ => PUnit) (fun _ => PUnit) f (fun _ _ => d) (fun _ _ => d) (fun _ _ _ => d) (fun _ => d) (fun _ => d) (fun _ _ _ => d) (fun _ => d) (fun _ => d) (fun _ _ _ _ _ => d) d (fun _ _ _ => d) d (fun _ _ => d) (fun _ _ => d) (fun _ _ => ⟨⟩) ⟨⟩ (fun _ _ _ _ => ⟨⟩) v
noncomputable def vPtr (d : β) (f : Option Addr → β) (v : Value) : β :=
  @Value.rec (fun _ => β) (fun _ => PUnit) (fun _ => PUnit) (fun _ => d) (fun _ _ => d) (fun _ _ => d) (fun _ _ _ => d) (fun _ => d) f (fun _ _ _ => d) (fun _ => d) (fun _ => d) (fun _ _ _ _ _ => d) d (fun _ _ _ => d) d (fun _ _ => d) (fun _ _ => d) (fun _ _ => ⟨⟩) ⟨⟩ (fun _ _ _ _ => ⟨⟩) v
noncomputable def vSlc (d : β) (f : Option Addr → Nat → Nat → β) (v : Value) : β :=
  @Value.rec (fun _ => β) (fun _ => PUnit) (fun _ => PUnit) (fun _ => d) (fun _ _ => d) (fun _ _ => d) (fun _ _ _ => d) (fun _ => d) (fun _ => d) f (fun _ => d) (fun _ => d) (fun _ _ _ _ _ => d) d (fun _ _ _ => d) d (fun _ _ => d) (fun _ _ => d) (fun _ _ => ⟨⟩) ⟨⟩ (fun _ _ _ _ => ⟨⟩) v
noncomputable def vFun (d : β) (f : Fn → Array Value → β) (v : Value) : β :=
  @Value.rec (fun _ => β) (fun _ => PUnit) (fun _ => PUnit) (fun _ => d) (fun _ _ => d) (fun _ _ => d) (fun _ _ _ => d) (fun _ => d) (fun _ => d) (fun _ _ _ => d) (fun _ => d) (fun _ => d) (fun g _ c _ _ => f g c) d (fun _ _ _ => d) d (fun _ _ => d) (fun _ _ => d) (fun _ _ => ⟨⟩) ⟨⟩ (fun _ _ _ _ => ⟨⟩) v
noncomputable def vAgg (d : β) (f : Array Value → β) (v : Value) : β :=
  @Value.rec (fun _ => β) (fun _ => PUnit) (fun _ => PUnit) (fun _ => d) (fun _ _ => d) (fun _ _ => d) (fun _ _ _ => d) (fun _ => d) (fun _ => d) (fun _ _ _ => d) (fun _ => d) (fun _ => d) (fun _ _ _ _ _ => d) d (fun _ _ _ => d) d (fun c _ => f c) (fun _ _ => d) (fun _ _ => ⟨⟩) ⟨⟩ (fun _ _ _ _ => ⟨⟩) v
noncomputable def vTup (d : β) (f : Array Value → β) (v : Value) : β :=
  @Value.rec (fun _ => β) (fun _ => PUnit) (fun _ => PUnit) (fun _ => d) (fun _ _ => d) (fun _ _ => d) (fun _ _ _ => d) (fun _ => d) (fun _ => d) (fun _ _ _ => d) (fun _ => d) (fun _ => d) (fun _ _ _ _ _ => d) d (fun _ _ _ => d) d (fun _ _ => d) (fun c _ => f c) (fun _ _ => ⟨⟩) ⟨⟩ (fun _ _ _ _ => ⟨⟩) v
/-- A row of cells, or a tuple, or another value. -/
noncomputable def vCells (d : β) (ag : List Value → β) (f : Value → β) (v : Value) : β :=
  @Value.rec (fun _ => β) (fun _ => PUnit) (fun _ => PUnit) (fun _ => f v) (fun _ _ => f v) (fun _ _ => f v) (fun _ _ _ => f v) (fun _ => f v) (fun _ => f v) (fun _ _ _ => f v) (fun _ => f v) (fun _ => f v) (fun _ _ _ _ _ => f v) (f v) (fun _ _ _ => f v) (f v) (fun c _ => Array.rec ag c) (fun _ _ => d) (fun _ _ => ⟨⟩) ⟨⟩ (fun _ _ _ _ => ⟨⟩) v
noncomputable def fV (v : Value) (k : Value → β) : β := vInt (k v) (fun d n => fI n fun n => k (.int d n)) v
@[simp] theorem fV_eq (v : Value) (k : Value → β) : fV v k = k v := by cases v <;> simp [fV, vInt]

/-! ### Temporaries -/
noncomputable def lookK (n : Nat) (l : List (Nat × α)) (d : β) (k : α → β) : β :=
  List.rec d (fun x _ ih => Prod.rec (fun s v => Bool.rec ih (k v) (Nat.beq n s)) x) l
theorem lookK_eq (n : Nat) (d : β) (k : α → β) : ∀ l, lookK n l d k = match look n l with | some v => k v | none => d
  | [] => rfl
  | (s, v) :: r => by
    have ih := lookK_eq n d k r
    show (Bool.rec (lookK n r d k) (k v) (Nat.beq n s) : β) = match (bif Nat.beq n s then some v else look n r) with | some v => k v | none => d
    cases Nat.beq n s with
    | true => rfl
    | false => exact ih
noncomputable def evK (env : List (Nat × Value)) (o : Opd) (k : Value → Option β) : Option β := Opd.rec (fun n => lookK n env none k) k o
@[simp] theorem evK_eq (env : List (Nat × Value)) (o : Opd) (k : Value → Option β) : evK env o k = (evo env o).bind k := by
  cases o with
  | t n => show lookK n env none k = (look n env).bind k; rw [lookK_eq]; cases look n env <;> rfl
  | c v => rfl
noncomputable def evsK (env : List (Nat × Value)) (l : List Opd) : (List Value → Option β) → Option β :=
  List.rec (fun k => k []) (fun x _ ih k => evK env x fun v => ih fun s => k (v :: s)) l
@[simp] theorem evsK_eq (env : List (Nat × Value)) : ∀ (l : List Opd) (k : List Value → Option β), evsK env l k = (evs env l).bind k
  | [], k => rfl
  | x :: r, k => by
    show evK env x (fun v => evsK env r fun s => k (v :: s)) = _
    rw [evK_eq]
    unfold evs
    cases evo env x with
    | none => rfl
    | some v =>
      show evsK env r _ = _
      rw [evsK_eq env r]
      cases evs env r <;> rfl

/-! ### Whole numbers -/
noncomputable def kIx (k : IntKind) : Nat := IntKind.rec 0 1 2 3 4 5 6 7 k
noncomputable def kEq (j k : IntKind) : Bool := Nat.beq (kIx j) (kIx k)
theorem kEq_iff (j k : IntKind) : kEq j k = decide (j = k) := by cases j <;> cases k <;> rfl
noncomputable def halfF (k : IntKind) : Nat := IntKind.rec 128 32768 2147483648 9223372036854775808 128 32768 2147483648 9223372036854775808 k
theorem halfF_eq (k : IntKind) : halfF k = half k := by cases k <;> rfl

/-- A whole number of a kind, wrapped, goes on. -/
noncomputable def wrapNK (kd : IntKind) (m : Nat) (k : Value → Option β) : Option β :=
  Bool.rec (fI (wrapF kd (.ofNat m)) fun n => k (.int kd n)) (fN m fun m => k (.int kd (.ofNat m))) (Nat.ble (Nat.succ m) (halfF kd))
theorem wrapNK_eq (kd : IntKind) (m : Nat) (k : Value → Option β) : wrapNK kd m k = k (.int kd (wrapF kd (.ofNat m))) := by
  unfold wrapNK
  rw [halfF_eq]
  cases h : Nat.ble (Nat.succ m) (half kd) with
  | true =>
    have : Nat.blt m (half kd) = true := h
    simp [wrapF, this]
  | false => simp
noncomputable def slowK (v : Option Value) (k : Value → Option β) : Option β := Option.rec none (fun v => fV v k) v
@[simp] theorem slowK_eq (v : Option Value) (k : Value → Option β) : slowK v k = v.bind k := by cases v <;> simp [slowK]
noncomputable def nn (x y : Int) (d : β) (f : Nat → Nat → β) : β := Int.rec (fun a => Int.rec (fun b => f a b) (fun _ => d) y) (fun _ => d) x

noncomputable def kAdd (ka : IntKind) (x : Int) (kb : IntKind) (y : Int) (k : Value → Option β) : Option β :=
  Bool.rec none (nn x y (slowK (intBin .add ka x kb y) k) fun a b => wrapNK ka (Nat.add a b) k) (kEq ka kb)
noncomputable def kSub (ka : IntKind) (x : Int) (kb : IntKind) (y : Int) (k : Value → Option β) : Option β :=
  Bool.rec none (nn x y (slowK (intBin .sub ka x kb y) k) fun a b => Bool.rec (slowK (intBin .sub ka x kb y) k) (wrapNK ka (Nat.sub a b) k) (Nat.ble b a)) (kEq ka kb)
noncomputable def kMul (ka : IntKind) (x : Int) (kb : IntKind) (y : Int) (k : Value → Option β) : Option β :=
  Bool.rec none (nn x y (slowK (intBin .mul ka x kb y) k) fun a b => wrapNK ka (Nat.mul a b) k) (kEq ka kb)
noncomputable def bK (b : Bool) (k : Value → Option β) : Option β := Bool.rec (k (.bool false)) (k (.bool true)) b
noncomputable def kLss (ka : IntKind) (x : Int) (kb : IntKind) (y : Int) (k : Value → Option β) : Option β :=
  Bool.rec none (nn x y (bK (iltF x y) k) fun a b => bK (Nat.ble (Nat.succ a) b) k) (kEq ka kb)
noncomputable def kGtr (ka : IntKind) (x : Int) (kb : IntKind) (y : Int) (k : Value → Option β) : Option β :=
  Bool.rec none (nn x y (bK (iltF y x) k) fun a b => bK (Nat.ble (Nat.succ b) a) k) (kEq ka kb)
noncomputable def kLeq (ka : IntKind) (x : Int) (kb : IntKind) (y : Int) (k : Value → Option β) : Option β :=
  Bool.rec none (nn x y (bK (!iltF y x) k) fun a b => bK (Nat.ble a b) k) (kEq ka kb)
noncomputable def kGeq (ka : IntKind) (x : Int) (kb : IntKind) (y : Int) (k : Value → Option β) : Option β :=
  Bool.rec none (nn x y (bK (!iltF x y) k) fun a b => bK (Nat.ble b a) k) (kEq ka kb)
noncomputable def kEql (ka : IntKind) (x : Int) (kb : IntKind) (y : Int) (k : Value → Option β) : Option β :=
  Bool.rec none (nn x y (bK (ieqF x y) k) fun a b => bK (Nat.beq a b) k) (kEq ka kb)
noncomputable def kNeq (ka : IntKind) (x : Int) (kb : IntKind) (y : Int) (k : Value → Option β) : Option β :=
  Bool.rec none (nn x y (bK (!ieqF x y) k) fun a b => Bool.rec (k (.bool true)) (k (.bool false)) (Nat.beq a b)) (kEq ka kb)
noncomputable def kSlow (op : BinOp) (ka : IntKind) (x : Int) (kb : IntKind) (y : Int) (k : Value → Option β) : Option β := slowK (intBin op ka x kb y) k
noncomputable def intK (op : BinOp) : IntKind → Int → IntKind → Int → (Value → Option β) → Option β :=
  BinOp.rec kAdd kSub kMul (kSlow .quo) (kSlow .rem) (kSlow .and) (kSlow .or) (kSlow .xor) (kSlow .shl) (kSlow .shr) (kSlow .andNot) kEql kNeq kLss kLeq kGtr kGeq op

@[simp] theorem bK_eq (b : Bool) (k : Value → Option β) : bK b k = k (.bool b) := by cases b <;> rfl
theorem nn_eq {x y : Int} {d : β} {f : Nat → Nat → β} {r : β} (hd : d = r) (hf : ∀ a b, x = .ofNat a → y = .ofNat b → f a b = r) : nn x y d f = r := by
  cases x with
  | ofNat a => cases y with
    | ofNat b => exact hf a b rfl rfl
    | negSucc b => exact hd
  | negSucc a => exact hd
theorem keq_split {ka kb : IntKind} {x y r : β} (h : ka = kb → x = r) (h' : ka ≠ kb → y = r) : (Bool.rec y x (kEq ka kb) : β) = r := by
  rw [kEq_iff]
  by_cases e : ka = kb
  · simp only [e, decide_true]; exact h e
  · simp only [e, decide_false]; exact h' e
theorem blt_le (a b : Nat) : (!Nat.blt b a) = Nat.ble a b := by
  show (!Nat.ble (Nat.succ b) a) = Nat.ble a b
  cases h : Nat.ble a b with
  | true => rw [Nat.ble_eq] at h; simp only [Bool.not_eq_true']; rw [← Bool.not_eq_true, Nat.ble_eq]; omega
  | false => rw [← Bool.not_eq_true, Nat.ble_eq] at h; simp only [Bool.not_eq_false']; rw [Nat.ble_eq]; omega
theorem intK_eq (op : BinOp) (ka : IntKind) (x : Int) (kb : IntKind) (y : Int) (k : Value → Option β) : intK op ka x kb y k = (intBin op ka x kb y).bind k := by
  have cm : ∀ {p : Prop} [Decidable p] {v : Value}, ¬ p → (if p then some v else none).bind k = none := by intro p _ v h; rw [if_neg h]; rfl
  have cp : ∀ {p : Prop} [Decidable p] {v : Value}, p → (if p then some v else none).bind k = k v := by intro p _ v h; rw [if_pos h]; rfl
  cases op with
  | quo => exact slowK_eq _ _
  | rem => exact slowK_eq _ _
  | and => exact slowK_eq _ _
  | or => exact slowK_eq _ _
  | xor => exact slowK_eq _ _
  | shl => exact slowK_eq _ _
  | shr => exact slowK_eq _ _
  | andNot => exact slowK_eq _ _
  | add =>
    refine keq_split (fun e => nn_eq (slowK_eq _ _) fun a b hx hy => ?_) fun e => (cm e).symm
    subst hx hy; rw [wrapNK_eq]; exact (cp e).symm
  | sub =>
    refine keq_split (fun e => nn_eq (slowK_eq _ _) fun a b hx hy => ?_) fun e => (cm e).symm
    subst hx hy
    cases h : Nat.ble b a with
    | false => exact slowK_eq _ _
    | true =>
      rw [Nat.ble_eq] at h
      refine (wrapNK_eq _ _ _).trans ?_
      refine Eq.trans ?_ (cp e).symm
      rw [show (Int.ofNat (Nat.sub a b)) = (Int.ofNat a - Int.ofNat b) from Int.ofNat_sub h]
  | mul =>
    refine keq_split (fun e => nn_eq (slowK_eq _ _) fun a b hx hy => ?_) fun e => (cm e).symm
    subst hx hy; rw [wrapNK_eq]; exact (cp e).symm
  | eql =>
    refine keq_split (fun e => nn_eq ((bK_eq _ _).trans (cp e).symm) fun a b hx hy => ?_) fun e => (cm e).symm
    subst hx hy; rw [bK_eq]; exact (cp e).symm
  | neq =>
    refine keq_split (fun e => nn_eq ((bK_eq _ _).trans (cp e).symm) fun a b hx hy => ?_) fun e => (cm e).symm
    subst hx hy; refine Eq.trans ?_ (cp e).symm
    show _ = k (.bool (!Nat.beq a b))
    cases Nat.beq a b <;> rfl
  | lss =>
    refine keq_split (fun e => nn_eq ((bK_eq _ _).trans (cp e).symm) fun a b hx hy => ?_) fun e => (cm e).symm
    subst hx hy; rw [bK_eq]; exact (cp e).symm
  | gtr =>
    refine keq_split (fun e => nn_eq ((bK_eq _ _).trans (cp e).symm) fun a b hx hy => ?_) fun e => (cm e).symm
    subst hx hy; rw [bK_eq]; exact (cp e).symm
  | leq =>
    refine keq_split (fun e => nn_eq ((bK_eq _ _).trans (cp e).symm) fun a b hx hy => ?_) fun e => (cm e).symm
    subst hx hy; rw [bK_eq, ← blt_le]; exact (cp e).symm
  | geq =>
    refine keq_split (fun e => nn_eq ((bK_eq _ _).trans (cp e).symm) fun a b hx hy => ?_) fun e => (cm e).symm
    subst hx hy; rw [bK_eq, ← blt_le]; exact (cp e).symm

noncomputable def binK (op : BinOp) (e : EqK) (a b : Value) (k : Value → Option β) : Option β :=
  vInt (slowK (binVal op e a b) k) (fun ka x => vInt (slowK (binVal op e a b) k) (fun kb y => intK op ka x kb y k) b) a
theorem binK_eq (op : BinOp) (e : EqK) (a b : Value) (k : Value → Option β) : binK op e a b k = (binVal op e a b).bind k := by
  cases a <;> first | exact slowK_eq _ _ | skip
  cases b <;> first | exact slowK_eq _ _ | skip
  exact intK_eq ..
end
end Go.AI
