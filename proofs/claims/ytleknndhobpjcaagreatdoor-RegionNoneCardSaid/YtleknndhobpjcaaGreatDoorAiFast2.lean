/- The quick evaluator: pure operations and memory. No program is named here. -/
import Derived.Test.YtleknndhobpjcaaGreatDoorAiFast
namespace Go.AI

section
variable {β : Type}

theorem vInt_eq (d : β) (f : IntKind → Int → β) (v : Value) : vInt d f v = match v with | .int k n => f k n | _ => d := by cases v <;> rfl
theorem vBool_eq (d : β) (f : Bool → β) (v : Value) : vBool d f v = match v with | .bool b => f b | _ => d := by cases v <;> rfl
theorem vPtr_eq (d : β) (f : Option Addr → β) (v : Value) : vPtr d f v = match v with | .pointer b => f b | _ => d := by cases v <;> rfl
theorem vSlc_eq (d : β) (f : Option Addr → Nat → Nat → β) (v : Value) : vSlc d f v = match v with | .slice a n c => f a n c | _ => d := by cases v <;> rfl
theorem vAgg_eq (d : β) (f : Array Value → β) (v : Value) : vAgg d f v = match v with | .agg a => f a | _ => d := by cases v <;> rfl
theorem vTup_eq (d : β) (f : Array Value → β) (v : Value) : vTup d f v = match v with | .tuple a => f a | _ => d := by cases v <;> rfl
theorem vFun_eq (d : β) (f : Fn → Array Value → β) (v : Value) : vFun d f v = match v with | .func g _ c => f g c | _ => d := by cases v <;> rfl
theorem vCells_eq {γ : Type} (v : Value) (k : List Value → Option γ) : vCells none k (fun v => k [v]) v = (cellsV v).bind k := by
  cases v <;> try rfl

/-! ### Rows of cells -/
noncomputable def dropK (cs : List Value) : Nat → List Value :=
  List.rec (fun _ => []) (fun x r ih n => Bool.rec (ih (Nat.sub n 1)) (x :: r) (Nat.beq n 0)) cs
theorem dropK_eq : ∀ (cs : List Value) (n : Nat), dropK cs n = cs.drop n
  | [], n => by simp [dropK]
  | x :: r, 0 => rfl
  | x :: r, n + 1 => dropK_eq r n
noncomputable def takeK (cs : List Value) : Nat → (List Value → Option β) → Option β :=
  List.rec (fun n k => Bool.rec none (k []) (Nat.beq n 0)) (fun x _ ih n k => Bool.rec (ih (Nat.sub n 1) fun s => k (x :: s)) (k []) (Nat.beq n 0)) cs
theorem takeK_eq : ∀ (cs : List Value) (n : Nat) (k : List Value → Option β), takeK cs n k = bif Nat.beq (cs.take n).length n then k (cs.take n) else none
  | [], 0, k => rfl
  | [], n + 1, k => by
    show none = bif Nat.beq 0 (n + 1) then _ else _
    rfl
  | x :: r, 0, k => rfl
  | x :: r, n + 1, k => by
    show takeK r n (fun s => k (x :: s)) = bif Nat.beq ((r.take n).length + 1) (n + 1) then _ else _
    rw [takeK_eq r n]
    rfl
noncomputable def nthK (cs : List Value) : Nat → (Value → Option β) → Option β :=
  List.rec (fun _ _ => none) (fun x _ ih n k => Bool.rec (ih (Nat.sub n 1) k) (k x) (Nat.beq n 0)) cs
theorem nthK_eq : ∀ (cs : List Value) (n : Nat) (k : Value → Option β), nthK cs n k = (cs[n]?).bind k
  | [], n, k => by simp [nthK]
  | x :: r, 0, k => rfl
  | x :: r, n + 1, k => by
    show nthK r n k = _
    rw [nthK_eq r n k]; simp
noncomputable def overK (vs : List Value) : List Value → (List Value → Option β) → Option β :=
  List.rec (fun cs k => k cs) (fun v _ ih cs k => List.rec none (fun _ cs' _ => ih cs' fun s => k (v :: s)) cs) vs
theorem overK_eq : ∀ (vs cs : List Value) (k : List Value → Option β), overK vs cs k = bif Nat.ble vs.length cs.length then k (over cs vs) else none
  | [], cs, k => by
    have : Nat.ble ([] : List Value).length cs.length = true := by rw [Nat.ble_eq]; exact Nat.zero_le _
    rw [this]; cases cs <;> rfl
  | v :: vs, [], k => by
    have : Nat.ble (v :: vs).length ([] : List Value).length = false := by rw [← Bool.not_eq_true, Nat.ble_eq]; simp
    rw [this]; rfl
  | v :: vs, c :: cs, k => by
    show overK vs cs (fun s => k (v :: s)) = _
    rw [overK_eq vs cs]
    rfl
noncomputable def spliceK (cs : List Value) : Nat → List Value → (List Value → Option β) → Option β :=
  List.rec (fun n vs k => Bool.rec none (overK vs [] k) (Nat.beq n 0)) (fun c cs' ih n vs k => Bool.rec (ih (Nat.sub n 1) vs fun s => k (c :: s)) (overK vs (c :: cs') k) (Nat.beq n 0)) cs
theorem spliceK_eq : ∀ (cs : List Value) (n : Nat) (vs : List Value) (k : List Value → Option β), spliceK cs n vs k = bif Nat.ble (n + vs.length) cs.length then k (splice cs n vs) else none
  | [], 0, vs, k => by
    show overK vs [] k = _
    rw [overK_eq, Nat.zero_add]; rfl
  | [], n + 1, vs, k => by
    have : Nat.ble (n + 1 + vs.length) ([] : List Value).length = false := by rw [← Bool.not_eq_true, Nat.ble_eq]; simp
    rw [this]; rfl
  | c :: cs, 0, vs, k => by
    show overK vs (c :: cs) k = _
    rw [overK_eq, Nat.zero_add]; rfl
  | c :: cs, n + 1, vs, k => by
    show spliceK cs n vs (fun s => k (c :: s)) = _
    rw [spliceK_eq cs n vs]
    have : Nat.ble (n + 1 + vs.length) (c :: cs).length = Nat.ble (n + vs.length) cs.length := by
      rw [show n + 1 + vs.length = (n + vs.length) + 1 by omega]; rfl
    rw [this]; rfl

noncomputable def oneK (g : Bool) (cs : List Value) (off n : Nat) (k : Value → Option β) : Option β :=
  Bool.rec (Bool.rec (ob (takeN cs off n) fun r => ob (oneOf g r) k) (nthK cs off k) (Nat.beq n 1)) (takeK (dropK cs off) n fun r => k (.agg ⟨r⟩)) g
theorem oneK_eq (g : Bool) (cs : List Value) (off n : Nat) (k : Value → Option β) : oneK g cs off n k = (takeN cs off n).bind fun r => (oneOf g r).bind k := by
  cases g with
  | true =>
    show takeK (dropK cs off) n _ = _
    rw [takeK_eq, dropK_eq]
    simp only [takeN]
    cases Nat.beq ((cs.drop off).take n).length n <;> rfl
  | false =>
    show (Bool.rec (ob (takeN cs off n) fun r => ob (oneOf false r) k) (nthK cs off k) (Nat.beq n 1) : Option β) = _
    cases h : Nat.beq n 1 with
    | false => show ob _ _ = _; simp
    | true =>
      rw [Nat.beq_eq] at h; subst h
      show nthK cs off k = _
      rw [nthK_eq]
      unfold takeN
      rcases Nat.lt_or_ge off cs.length with hl | hl
      · rw [List.getElem?_eq_getElem hl, List.drop_eq_getElem_cons hl]
        rfl
      · rw [List.getElem?_eq_none hl, List.drop_eq_nil_of_le hl]
        rfl

noncomputable def fillK (env : List (Nat × Value)) (ps : List (Nat × Nat × Opd)) : List Value → (List Value → Option β) → Option β :=
  List.rec (fun cs k => k cs) (fun p _ ih cs k => Prod.rec (fun off nx => Prod.rec (fun n x => evK env x fun v => vCells none (fun vs => Bool.rec none (spliceK cs off vs fun cs' => ih cs' k) (Nat.beq vs.length n)) (fun v => Bool.rec none (spliceK cs off [v] fun cs' => ih cs' k) (Nat.beq 1 n)) v) nx) p) ps
theorem fillK_eq (env : List (Nat × Value)) : ∀ (ps : List (Nat × Nat × Opd)) (cs : List Value) (k : List Value → Option β), fillK env ps cs k = (fillp env cs ps).bind k
  | [], cs, k => by cases cs <;> rfl
  | (off, n, x) :: r, cs, k => by
    show evK env x (fun v => vCells none (fun vs => Bool.rec none (spliceK cs off vs fun cs' => fillK env r cs' k) (Nat.beq vs.length n)) (fun v => Bool.rec none (spliceK cs off [v] fun cs' => fillK env r cs' k) (Nat.beq 1 n)) v) = _
    rw [evK_eq]
    have hb : fillp env cs ((off, n, x) :: r) = match evo env x with
      | some v => match cellsV v with
        | some vs => bif Nat.beq vs.length n && Nat.ble (off + n) cs.length then fillp env (splice cs off vs) r else none
        | none => none
      | none => none := by cases cs <;> rfl
    rw [hb]
    cases evo env x with
    | none => rfl
    | some v =>
      show vCells none (fun vs => Bool.rec none (spliceK cs off vs fun cs' => fillK env r cs' k) (Nat.beq vs.length n)) (fun v => Bool.rec none (spliceK cs off [v] fun cs' => fillK env r cs' k) (Nat.beq 1 n)) v = _
      have := vCells_eq v (fun vs => (Bool.rec none (spliceK cs off vs fun cs' => fillK env r cs' k) (Nat.beq vs.length n) : Option β))
      refine Eq.trans this ?_
      simp only
      cases cellsV v with
      | none => rfl
      | some vs =>
        show (Bool.rec none (spliceK cs off vs fun cs' => fillK env r cs' k) (Nat.beq vs.length n) : Option β) = (bif Nat.beq vs.length n && Nat.ble (off + n) cs.length then fillp env (splice cs off vs) r else none).bind k
        cases h : Nat.beq vs.length n with
        | false => rfl
        | true =>
          rw [Nat.beq_eq] at h
          show spliceK cs off vs (fun cs' => fillK env r cs' k) = _
          rw [spliceK_eq, h]
          cases Nat.ble (off + n) cs.length with
          | false => rfl
          | true => exact fillK_eq env r _ k

noncomputable def sel (g : Bool) (n : Nat) : Nat := Bool.rec 1 n g
theorem sel_eq (g : Bool) (n : Nat) : sel g n = bif g then n else 1 := by cases g <;> rfl

/-! ### Pure operations -/
abbrev PK (β : Type) := List (Nat × Value) → (Value → Option β) → Option β
noncomputable def cold (p : PureOp) : PK β := fun env k => slowK (peval env p) k
noncomputable def pMv (x : Opd) : PK β := fun env k => evK env x k
noncomputable def pPick (c a b : Opd) : PK β := fun env k => evK env c (vBool none (Bool.rec (evK env b k) (evK env a k)))
noncomputable def pBin (op : BinOp) (e : EqK) (x y : Opd) : PK β := fun env k => evK env x fun a => evK env y fun b => binK op e a b k
noncomputable def pNot (x : Opd) : PK β := fun env k => evK env x (vBool none (Bool.rec (k (.bool true)) (k (.bool false))))
noncomputable def pConv (kd : IntKind) (x : Opd) : PK β := fun env k => evK env x (vInt none fun _ n => Int.rec (fun m => wrapNK kd m k) (fun m => slowK (some (.int kd (wrapF kd (.negSucc m)))) k) n)
noncomputable def pNil (x : Opd) : PK β := fun env k => evK env x fun v => vPtr none (Option.rec none fun _ => k v) v
noncomputable def adN (d : β) (f : Nat → Nat → β) (a : Option Addr) : β := Option.rec d (fun a => Addr.rec (fun b o s => Option.rec (f b o) (fun _ => d) s) a) a
noncomputable def pFadd (off : Nat) (x : Opd) : PK β := fun env k => evK env x (vPtr none (adN none fun b o => fN (Nat.add o off) fun o => k (.pointer (some ⟨b, o, none⟩))))
noncomputable def inN (n : Nat) (f : Nat → Option β) (v : Value) : Option β := vInt none (fun _ i => Int.rec (fun m => Bool.rec none (f m) (Nat.ble (Nat.succ m) n)) (fun _ => none) i) v
noncomputable def pIdxL (e : Nat) (x i : Opd) : PK β := fun env k => evK env x (vSlc none fun a len _ => Option.rec none (fun a => Addr.rec (fun b o _ => evK env i (inN len fun m => fN (Nat.add o (Nat.mul m e)) fun o => k (.pointer (some ⟨b, o, none⟩)))) a) a)
noncomputable def pIdxA (n e : Nat) (x i : Opd) : PK β := fun env k => evK env x (vPtr none (adN none fun b o => evK env i (inN n fun m => fN (Nat.add o (Nat.mul m e)) fun o => k (.pointer (some ⟨b, o, none⟩)))))
noncomputable def pIdxG (n e : Nat) (g : Bool) (x i : Opd) : PK β := fun env k => evK env x (vAgg none (Array.rec fun cs => evK env i (inN n fun m => oneK g cs (Nat.mul m e) (sel g e) k)))
noncomputable def pFld (off n : Nat) (g : Bool) (x : Opd) : PK β := fun env k => evK env x (vAgg none (Array.rec fun cs => oneK g cs off (sel g n) k))
noncomputable def pExt (i : Nat) (x : Opd) : PK β := fun env k => evK env x (vTup none (Array.rec fun cs => nthK cs i k))
noncomputable def pBuild (z : List Value) (ps : List (Nat × Nat × Opd)) : PK β := fun env k => fillK env ps z fun cs => k (.agg ⟨cs⟩)
noncomputable def pLen (x : Opd) : PK β := fun env k => evK env x (vSlc none fun _ n _ => fN n fun n => k (.int .i64 (.ofNat n)))

noncomputable def pK (p : PureOp) : PK β :=
  PureOp.rec pMv pPick pBin pNot (fun x => cold (.neg x)) (fun x => cold (.com x)) pConv (fun x => cold (.same x)) (fun x a b => cold (.slS x a b)) (fun e x a b c => cold (.slL e x a b c)) (fun n e x a b c => cold (.slA n e x a b c))
    pNil pFadd pIdxL pIdxA (fun x i => cold (.idxS x i)) pIdxG pFld pExt (fun f cs => cold (.mkfn f cs)) pBuild pLen (fun x => cold (.lens x)) (fun n => cold (.alen n)) (fun x => cold (.cap x)) (fun xs => cold (.max xs)) (fun xs => cold (.min xs)) p

theorem cold_eq (p : PureOp) (env : List (Nat × Value)) (k : Value → Option β) : cold p env k = (peval env p).bind k := slowK_eq _ _
theorem adN_eq (f : Nat → Nat → Option β) (a : Option Addr) : adN none f a = match a with | some ⟨b, o, none⟩ => f b o | _ => none := by
  cases a with
  | none => rfl
  | some a => obtain ⟨b, o, s⟩ := a; cases s <;> rfl
theorem inN_eq (n : Nat) (f : Nat → Option β) (v : Value) : inN n f v = (natOf v).bind fun m => bif Nat.blt m n then f m else none := by
  cases v <;> try rfl
  rename_i i
  cases i with
  | negSucc m => rfl
  | ofNat m =>
    show Bool.rec none (f m) (Nat.ble (Nat.succ m) n) = bif Nat.ble (Nat.succ m) n then f m else none
    cases Nat.ble (Nat.succ m) n <;> rfl

theorem pK_eq (p : PureOp) (env : List (Nat × Value)) (k : Value → Option β) : pK p env k = (peval env p).bind k := by
  cases p with
  | mv x => exact evK_eq ..
  | pick c a b =>
    refine (evK_eq ..).trans ?_
    simp only [peval]
    cases evo env c with
    | none => rfl
    | some v =>
      cases v <;> try rfl
      rename_i b'
      cases b' <;> exact evK_eq ..
  | bin op e x y =>
    refine (evK_eq ..).trans ?_
    simp only [peval]
    cases evo env x with
    | none => rfl
    | some v =>
      refine (evK_eq ..).trans ?_
      cases evo env y with
      | none => rfl
      | some u => exact binK_eq ..
  | not x =>
    refine (evK_eq ..).trans ?_
    simp only [peval]
    cases evo env x with
    | none => rfl
    | some v => cases v <;> try rfl
                rename_i b; cases b <;> rfl
  | neg x => exact cold_eq _ _ _
  | com x => exact cold_eq _ _ _
  | conv kd x =>
    refine (evK_eq ..).trans ?_
    simp only [peval]
    cases evo env x with
    | none => rfl
    | some v => cases v <;> try rfl
                rename_i n; cases n with
                | ofNat m => exact wrapNK_eq ..
                | negSucc m => exact slowK_eq (some (.int kd (wrapF kd (.negSucc m)))) k
  | same x => exact cold_eq _ _ _
  | slS x a b => exact cold_eq _ _ _
  | slL e x a b c => exact cold_eq _ _ _
  | slA n e x a b c => exact cold_eq _ _ _
  | nilck x =>
    refine (evK_eq ..).trans ?_
    simp only [peval]
    cases evo env x with
    | none => rfl
    | some v => cases v <;> try rfl
                rename_i a; cases a <;> rfl
  | fadd off x =>
    refine (evK_eq ..).trans ?_
    simp only [peval]
    cases evo env x with
    | none => rfl
    | some v => cases v <;> try rfl
                rename_i a
                rcases a with _ | ⟨b, o, _ | s⟩ <;> try rfl
                exact fN_eq (Nat.add o off) fun o => k (.pointer (some ⟨b, o, none⟩))
  | idxL e x i =>
    refine (evK_eq ..).trans ?_
    simp only [peval]
    cases evo env x with
    | none => rfl
    | some v => cases v <;> try rfl
                rename_i a len cap
                rcases a with _ | ⟨b, o, s⟩
                · rfl
                · refine Eq.trans (evK_eq env i (inN len fun m => fN (Nat.add o (Nat.mul m e)) fun o => k (.pointer (some ⟨b, o, none⟩)))) ?_
                  cases evo env i with
                  | none => rfl
                  | some u =>
                    refine Eq.trans (inN_eq len (fun m => fN (Nat.add o (Nat.mul m e)) fun o => k (.pointer (some ⟨b, o, none⟩))) u) ?_
                    show ((natOf u).bind fun m => bif Nat.blt m len then fN (Nat.add o (Nat.mul m e)) (fun o => k (.pointer (some ⟨b, o, none⟩))) else none) = (match natOf u with | some n => bif Nat.blt n len then some (Value.pointer (some ⟨b, o + n * e, none⟩)) else none | none => none).bind k
                    cases natOf u with
                    | none => rfl
                    | some m =>
                      show (bif Nat.blt m len then fN _ _ else none) = _
                      simp only
                      cases Nat.blt m len with
                      | false => rfl
                      | true => exact fN_eq (Nat.add o (Nat.mul m e)) fun o => k (.pointer (some ⟨b, o, none⟩))
  | idxA n e x i =>
    refine (evK_eq ..).trans ?_
    simp only [peval]
    cases evo env x with
    | none => rfl
    | some v => cases v <;> try rfl
                rename_i a
                rcases a with _ | ⟨b, o, _ | s⟩ <;> try rfl
                refine Eq.trans (evK_eq env i (inN n fun m => fN (Nat.add o (Nat.mul m e)) fun o => k (.pointer (some ⟨b, o, none⟩)))) ?_
                cases evo env i with
                | none => rfl
                | some u =>
                  refine Eq.trans (inN_eq n (fun m => fN (Nat.add o (Nat.mul m e)) fun o => k (.pointer (some ⟨b, o, none⟩))) u) ?_
                  show ((natOf u).bind fun m => bif Nat.blt m n then fN (Nat.add o (Nat.mul m e)) (fun o => k (.pointer (some ⟨b, o, none⟩))) else none) = (match natOf u with | some m => bif Nat.blt m n then some (Value.pointer (some ⟨b, o + m * e, none⟩)) else none | none => none).bind k
                  cases natOf u with
                  | none => rfl
                  | some m =>
                    show (bif Nat.blt m n then fN _ _ else none) = _
                    simp only
                    cases Nat.blt m n with
                    | false => rfl
                    | true => exact fN_eq (Nat.add o (Nat.mul m e)) fun o => k (.pointer (some ⟨b, o, none⟩))
  | idxS x i => exact cold_eq _ _ _
  | idxG n e g x i =>
    refine (evK_eq ..).trans ?_
    simp only [peval]
    cases evo env x with
    | none => rfl
    | some v => cases v <;> try rfl
                rename_i a
                obtain ⟨cs⟩ := a
                refine Eq.trans (evK_eq env i (inN n fun m => oneK g cs (Nat.mul m e) (sel g e) k)) ?_
                cases evo env i with
                | none => rfl
                | some u =>
                  refine Eq.trans (inN_eq n (fun m => oneK g cs (Nat.mul m e) (sel g e) k) u) ?_
                  show ((natOf u).bind fun m => bif Nat.blt m n then oneK g cs (Nat.mul m e) (sel g e) k else none) = (match natOf u with | some m => bif Nat.blt m n then (match takeN cs (m * e) (bif g then e else 1) with | some r => oneOf g r | none => none) else none | none => none).bind k
                  cases natOf u with
                  | none => rfl
                  | some m =>
                    show (bif Nat.blt m n then _ else none) = _
                    simp only
                    cases Nat.blt m n with
                    | false => rfl
                    | true =>
                      refine Eq.trans (oneK_eq g cs (Nat.mul m e) (sel g e) k) ?_
                      show _ = (match takeN cs (m * e) (bif g then e else 1) with | some r => oneOf g r | none => none).bind k
                      have := sel_eq g e
                      rw [this]
                      show (takeN cs (m * e) (bif g then e else 1)).bind _ = _
                      cases takeN cs (m * e) (bif g then e else 1) <;> rfl
  | fld off n g x =>
    refine (evK_eq ..).trans ?_
    simp only [peval]
    cases evo env x with
    | none => rfl
    | some v => cases v <;> try rfl
                rename_i a
                obtain ⟨cs⟩ := a
                refine Eq.trans (oneK_eq g cs off (sel g n) k) ?_
                show _ = (match takeN cs off (bif g then n else 1) with | some r => oneOf g r | none => none).bind k
                have := sel_eq g n
                rw [this]
                cases takeN cs off (bif g then n else 1) <;> rfl
  | ext i x =>
    refine (evK_eq ..).trans ?_
    simp only [peval]
    cases evo env x with
    | none => rfl
    | some v => cases v <;> try rfl
                rename_i a
                obtain ⟨cs⟩ := a
                refine (nthK_eq cs i k).trans ?_
                rfl
  | mkfn f cs => exact cold_eq _ _ _
  | build z ps =>
    refine (fillK_eq ..).trans ?_
    simp only [peval]
    cases fillp env z ps <;> rfl
  | len x =>
    refine (evK_eq ..).trans ?_
    simp only [peval]
    cases evo env x with
    | none => rfl
    | some v => cases v <;> try rfl
                rename_i n c
                exact fN_eq n fun n => k (.int .i64 (.ofNat n))
  | lens x => exact cold_eq _ _ _
  | alen n => exact cold_eq _ _ _
  | cap x => exact cold_eq _ _ _
  | max xs => exact cold_eq _ _ _
  | min xs => exact cold_eq _ _ _
end
end Go.AI
