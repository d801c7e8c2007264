/- What the arena's functions do upon its parts: Fill, whole. -/
import Derived.Test.YtleknndhobpjcaaGreatDoorKArA
import Derived.Test.YtleknndhobpjcaaGreatDoorKWp
namespace Go.AI
open Go.Proofs
variable {hk : Hook Empty}

theorem pgAt_set {l : List (Option Nat)} {q i Q P P' : Nat} (hq : pgAt l q = some P) (h : pgAt (setPg l q (some P')) i = some Q) : ∃ P, pgAt l i = some P := by
  have h1 := (pgAt_get _ _ _).1 h
  rw [setPg_get] at h1
  by_cases hc : i = q ∧ i < l.length
  · exact ⟨P, hc.1 ▸ hq⟩
  · rw [if_neg hc] at h1
    exact ⟨Q, (pgAt_get _ _ _).2 h1⟩
theorem fillA_zero (b : Nat) : ∀ (f : Nat) (l : List (Option Nat)) (a : Nat), fillA b f l a 0 = l
  | 0, _, _ => rfl
  | _ + 1, _, _ => rfl
theorem fillA_step {b f a k P : Nat} {l : List (Option Nat)} (hk : 0 < k) (hP : pgAt l (a / 4096) = some P) :
    fillA b (f + 1) l a k = fillA b f (setPg l (a / 4096) (some (setBytes P (a % 4096) (min k (4096 - a % 4096)) (fillV b (min k (4096 - a % 4096)))))) (a + min k (4096 - a % 4096)) (k - min k (4096 - a % 4096)) := by
  have h0 : Nat.beq k 0 = false := by rw [← Bool.not_eq_true, Nat.beq_eq]; omega
  show (bif Nat.beq k 0 then l else match pgAt l (a / 4096) with
    | some P => fillA b f (setPg l (a / 4096) (some (setBytes P (a % 4096) (min k (4096 - a % 4096)) (fillV b (min k (4096 - a % 4096)))))) (a + min k (4096 - a % 4096)) (k - min k (4096 - a % 4096))
    | none => l) = _
  rw [h0, hP]; rfl

def FillInv (I : ArIds) (arm : Bool) (ref b B : Nat) (L : List (Option Nat)) (a k : Nat) (l : List (Option Nat)) (tbl : List (Nat × AObj Empty)) (nx : Nat) : Prop :=
  ArH ⟨tbl, nx⟩ ⟨l, arm, ref⟩ I ∧ look B tbl = some (.cells [.int .u8 (Int.ofNat b)]) ∧ (∀ i P, pgAt l i = some P → I.pid i ≠ B) ∧ There l a k ∧ ∃ f, segs a k ≤ f ∧ fillA b f l a k = L

theorem fill_call {n : Nat} {I : ArIds} {arm : Bool} {ref b B : Nat} {L : List (Option Nat)} (H : HkA hk) (hn : 4096 ≤ n) (hb : b < 256) (a k : Nat) (l : List (Option Nat)) (tbl : List (Nat × AObj Empty)) (nx P : Nat) (hI : FillInv I arm ref b B L a k l tbl nx) (hk0 : 0 < k) (hP : pgAt l (a / 4096) = some P) :
    ∃ v h', RA (hk := hk) (n + 2) 206 ([.slice (some ⟨I.pid (a / 4096), a % 4096, some 1⟩) (min k (4096 - a % 4096)) (4096 - a % 4096)] ++ [.pointer (some ⟨B, 0, none⟩)]) ⟨tbl, nx⟩ = some (v, h') ∧ ∃ l', FillInv I arm ref b B L (a + min k (4096 - a % 4096)) (k - min k (4096 - a % 4096)) l' h'.tbl h'.next := by
  obtain ⟨hAr, hB, hne, hth, f, hf, hfa⟩ := hI
  have hseg := segs_step (a := a) hk0
  obtain ⟨f', rfl⟩ : ∃ f', f = f' + 1 := ⟨f - 1, by omega⟩
  have hm : min k (4096 - a % 4096) ≤ k := Nat.min_le_left _ _
  have hm2 : min k (4096 - a % 4096) ≤ 4096 - a % 4096 := Nat.min_le_right _ _
  have hmod : a % 4096 < 4096 := Nat.mod_lt _ (by decide)
  have hpc : look (I.pid (a / 4096)) tbl = some (.cells (pageCells P)) := hAr.at_.page _ _ ((pgAt_get _ _ _).1 hP)
  obtain ⟨v, h', h1, _, h2, h3⟩ := fill1_run (n := n) (p := I.pid (a / 4096)) (off := a % 4096) (len := min k (4096 - a % 4096)) (cp := 4096 - a % 4096) (B := B) (b := b) (P := P) (h := ⟨tbl, nx⟩) H hn (hne _ _ hP) hb (by omega) hpc hB
  refine ⟨v, h', h1, setPg l (a / 4096) (some (setBytes P (a % 4096) (min k (4096 - a % 4096)) (fillV b (min k (4096 - a % 4096))))), ?_⟩
  have hS := hAr.setPage (P' := setBytes P (a % 4096) (min k (4096 - a % 4096)) (fillV b (min k (4096 - a % 4096)))) hP
  refine ⟨hS.congr (h' := h') h3 (by rw [h2]; exact Nat.le_refl _), ?_, ?_, hth.set.step hm, f', by omega, ?_⟩
  · rw [h3, look_upd_ne (Ne.symm (hne _ _ hP))]; exact hB
  · intro i Q hi
    obtain ⟨P2, hP2⟩ := pgAt_set hP hi
    exact hne _ _ hP2
  · rw [← fillA_step hk0 hP]; exact hfa

theorem fill_run {n : Nat} {x : Ar} {I : ArIds} {a k b : Nat} {h : Hp Empty} (H : HkA hk) (hn : 4294967297 ≤ n) (hb : b < 256) (hA : ArH h x I) (hc : checkN x.pages a k = 0) :
    ∃ v h', RA (hk := hk) (n + 4) 117 [.pointer (some ⟨I.A, 0, none⟩), .int .i64 (Int.ofNat a), .int .i64 (Int.ofNat k), .int .u8 (Int.ofNat b)] h = some (v, h') ∧ (v = errV 0 ∧ ArH h' ⟨fillA b (fuelA k) x.pages a k, x.armed, x.refuse⟩ I) := by
  have hth := check_there hc
  have hcap := hA.at_.cap
  refine run_fn (H.none 117 (by decide)) f117 (by simp [i117]) ?_
  dsimp only [i117, argsE]
  refine WC.seq (WC.ops (WO.box rfl rfl (WO.mv rfl (WO.nil (thenC_norm (WC.seq (WC.seq (WC.ops ?_))))))))
  have k1 := Keep.new hA.fresh (.cells [.int .u8 (Int.ofNat b)])
  have hA1 : ArH ⟨(h.next, .cells [.int .u8 (Int.ofNat b)]) :: h.tbl, h.next + 1⟩ x I := hA.keep k1
  refine WO.mv rfl (WO.mv rfl (WO.mv rfl (WO.fcall_ex rfl rfl (check_run (n := n) (a := Int.ofNat a) (k := Int.ofNat k) H (by omega) hA1) ?_)))
  rintro v2 ⟨tb2, nx2⟩ ⟨rfl, k2⟩
  have hA2 : ArH ⟨tb2, nx2⟩ x I := hA1.keep k2
  have hB2 : look h.next tb2 = some (.cells [.int .u8 (Int.ofNat b)]) := (k2.same h.next (by show h.next < h.next + 1; omega)).trans look_new
  refine WO.mv rfl (WO.nil (thenC_norm (WC.seq (WC.ops (WO.mv rfl (WO.neqS rfl rfl (fun hne => ?_) (fun _ => ?_)))))))
  · exact absurd (by show Int.ofNat (checkN x.pages a k) = Int.ofNat 0; rw [hc]) hne
  · refine WO.nil (WC.cond_false rfl (WC.skip (thenC_norm (WC.seq (WC.ops ?_)))))
    have hea := each_run (n := n + 1) (f := 206) (I := I) (arm := x.armed) (ref := x.refuse) (caps := [.pointer (some ⟨h.next, 0, none⟩)]) (a := a) (k := k) (l := x.pages) (h := ⟨tb2, nx2⟩) H (by omega)
      (FillInv I x.armed x.refuse b h.next (fillA b (fuelA k) x.pages a k)) (fun a k l tbl nx hI => hI.1) (fun a k l tbl nx hI hk => hI.2.2.2.1.2 hk _ (Nat.le_refl _) (Nat.div_le_div_right (by omega)))
      (fun a k l tbl nx P hI hk hP => fill_call H (by omega) hb a k l tbl nx P hI hk hP)
      ⟨hA2, hB2, fun i P hi => Nat.ne_of_lt (hA.ltP ((pgAt_get _ _ _).1 hi)), hth, fuelA k, segs_le a k, rfl⟩ (by have := hth.1; omega) (by have := hth.1; omega)
    refine WO.mv rfl (WO.mv rfl (WO.mv rfl (WO.pure rfl (WO.fcall_ex rfl rfl hea ?_))))
    rintro v3 ⟨tb3, nx3⟩ ⟨rfl, a', l', hA3, _, _, _, f, _, hL⟩
    rw [fillA_zero] at hL
    subst hL
    refine WO.nil (thenC_norm (WC.seq (WC.ops (WO.mv rfl (WO.nil (thenC_norm (WC.ret ?_)))))))
    exact ⟨_, _, rfl, rfl, rfl, hA3⟩
theorem fill_no {n : Nat} {x : Ar} {I : ArIds} {a k : Int} {b : Value} {bs : List Value} {h : Hp Empty} (H : HkA hk) (hn : 1048576 ≤ n) (hA : ArH h x I) (hbs : cellsV b = some bs) (hc : checkA x.pages a k ≠ 0) :
    ∃ v h', RA (hk := hk) (n + 4) 117 [.pointer (some ⟨I.A, 0, none⟩), .int .i64 a, .int .i64 k, b] h = some (v, h') ∧ (v = errV (checkA x.pages a k) ∧ ArH h' x I) := by
  refine run_fn (H.none 117 (by decide)) f117 (by simp [i117]) ?_
  dsimp only [i117, argsE]
  refine WC.seq (WC.ops (WO.box rfl hbs (WO.mv rfl (WO.nil (thenC_norm (WC.seq (WC.seq (WC.ops ?_))))))))
  have k1 := Keep.new hA.fresh (.cells bs)
  have hA1 : ArH ⟨(h.next, .cells bs) :: h.tbl, h.next + 1⟩ x I := hA.keep k1
  refine WO.mv rfl (WO.mv rfl (WO.mv rfl (WO.fcall_ex rfl rfl (check_run (n := n) (a := a) (k := k) H hn hA1) ?_)))
  rintro v2 ⟨tb2, nx2⟩ ⟨rfl, k2⟩
  refine WO.mv rfl (WO.nil (thenC_norm (WC.seq (WC.ops (WO.mv rfl (WO.neqS rfl rfl (fun _ => ?_) (fun he => ?_)))))))
  · refine WO.nil (WC.cond_true rfl (WC.seq (WC.ops (WO.mv rfl (WO.mv rfl (WO.nil (thenC_norm (WC.ret ?_))))))))
    exact ⟨_, _, rfl, rfl, rfl, hA1.keep k2⟩
  · exact absurd (Int.ofNat.inj he) hc
end Go.AI
/- What the arena's functions do upon its parts: a Builder; Bytes. -/
namespace Go.AI
open Go.Proofs
variable {hk : Hook Empty}

structure HkB (hk : Hook Empty) : Prop extends HkA hk where
  noesc : hk 320 = some noEscapeH

/-- A Builder that holds s; what is older than it stays. -/
structure Bst (t0 : List (Nat × AObj Empty)) (B : Nat) (s : List UInt8) (tbl : List (Nat × AObj Empty)) (nx : Nat) : Prop where
  keep : Keep t0 B tbl nx
  st : (s = [] ∧ look B tbl = some (.typed 271 [.pointer none, .slice none 0 0])) ∨
    (s ≠ [] ∧ ∃ G, B < G ∧ look B tbl = some (.typed 271 [.pointer (some ⟨B, 0, none⟩), .slice (some ⟨G, 0, none⟩) s.length s.length]) ∧ look G tbl = some (.grown 1 5 (byteCells s)))

theorem WO.eqlp {X : Type} {call : CallFn X} {env : List (Nat × Value)} {m : Mem X} {K : List (Nat × Value) → Mem X → Prop} {l : List (Option (Nat × Bool) × IOp)} {d : Nat} {x y : Opd} {b o : Nat} (hx : evo env x = some (.pointer (some ⟨b, o, none⟩))) (hy : evo env y = some (.pointer (some ⟨b, o, none⟩)))
    (k : WO call l ((d, .bool false) :: env) m K) : WO call ((none, .pure d (.bin .neq .ptr x y)) :: l) env m K := by
  refine .pure ?_ k
  have h1 : Nat.beq b b = true := Nat.beq_refl b
  have h2 : Nat.beq o o = true := Nat.beq_refl o
  simp only [peval, hx, hy, binVal, eqVal, h1, h2, cond_true, Option.map, Bool.not_true]

theorem cc_first {n B : Nat} {buf : Value} {h : Hp Empty} (H : HkB hk) (hB : look B h.tbl = some (.typed 271 [.pointer none, buf])) :
    ∃ v h', RA (hk := hk) (n + 2) 265 [.pointer (some ⟨B, 0, none⟩)] h = some (v, h') ∧ (h' = ⟨upd B (.typed 271 [.pointer (some ⟨B, 0, none⟩), buf]) h.tbl, h.next⟩) := by
  refine run_fn (H.none 265 (by decide)) f265 (by simp [i265]) ?_
  dsimp only [i265, argsE]
  refine WC.seq (WC.ops (WO.mv rfl (WO.nilck rfl (WO.fadd rfl (WO.load rfl hB rfl rfl rfl (WO.pure rfl (WO.nil (thenC_norm (WC.cond_true rfl (WC.ops ?_))))))))))
  refine WO.mv rfl (WO.mv rfl ?_)
  refine WO.step (i := .tou 9 271 (.t 8)) (v := .pointer (some ⟨B, 0, none⟩)) (m' := ⟨[], h.tbl, h.next⟩) ?_ ?_
  · have h1 : (⟨[], h.tbl, h.next⟩ : Mem Empty).get B = some (.typed 271 [.pointer none, buf]) := hB
    have he : evo ((8, Value.pointer (some ⟨B, 0, none⟩)) :: (7, Value.pointer (some ⟨B, 0, none⟩)) :: (6, Value.bool true) :: (5, Value.pointer none) :: (4, Value.pointer (some ⟨B, 0 + 0, none⟩)) :: (3, Value.pointer (some ⟨B, 0, none⟩)) :: (2, Value.pointer (some ⟨B, 0, none⟩)) :: [(0, Value.pointer (some ⟨B, 0, none⟩))]) (.t 8) = some (.pointer (some ⟨B, 0, none⟩)) := rfl
    simp only [estep, mstep]
    first
      | (rw [he]; simp only [h1, Nat.beq_refl, cond_true]; done)
      | (simp [evo, look, h1])
  refine WO.fcall (kf := 320) rfl rfl (v := .pointer (some ⟨B, 0, none⟩)) (h := ⟨h.tbl, h.next⟩) ?_ ?_
  · show run FA (fun _ => false) hk (n + 1) 320 _ _ = _
    rw [run_hook H.noesc]; rfl
  refine WO.step (i := .fromu 11 271 2 (.t 10)) (v := .pointer (some ⟨B, 0, none⟩)) (m' := ⟨[], h.tbl, h.next⟩) ?_ ?_
  · have h1 : (⟨[], h.tbl, h.next⟩ : Mem Empty).get B = some (.typed 271 [.pointer none, buf]) := hB
    simp [estep, mstep, evo, look, putEnv, h1]
  refine WO.nilck rfl (WO.fadd rfl (WO.store (ob' := .typed 271 [.pointer (some ⟨B, 0, none⟩), buf]) rfl rfl rfl rfl hB rfl (by simp) rfl (WO.nil ?_)))
  exact ⟨_, _, rfl, rfl, rfl⟩
theorem cc_later {n B : Nat} {buf : Value} {h : Hp Empty} (H : HkB hk) (hB : look B h.tbl = some (.typed 271 [.pointer (some ⟨B, 0, none⟩), buf])) :
    ∃ v h', RA (hk := hk) (n + 2) 265 [.pointer (some ⟨B, 0, none⟩)] h = some (v, h') ∧ h' = h := by
  refine run_fn (H.none 265 (by decide)) f265 (by simp [i265]) ?_
  dsimp only [i265, argsE]
  refine WC.seq (WC.ops (WO.mv rfl (WO.nilck rfl (WO.fadd rfl (WO.load rfl hB rfl rfl rfl (WO.pure rfl (WO.nil (thenC_norm (WC.cond_false rfl (WC.seq (WC.ops ?_)))))))))))
  refine WO.mv rfl (WO.nilck rfl (WO.fadd rfl (WO.load rfl hB rfl rfl rfl (WO.mv rfl (WO.eqlp rfl rfl (WO.nil (thenC_norm (WC.cond_false rfl (WC.skip ?_)))))))))
  exact ⟨_, _, rfl, rfl, rfl⟩

theorem seg_len (P : Nat) : ∀ (k off : Nat), (segBytes P off k).length = k
  | 0, _ => rfl
  | k + 1, off => by simp only [segBytes, List.length_cons, seg_len P k]
theorem seg_ne {P k off : Nat} (h : 0 < k) : segBytes P off k ≠ [] := fun e => by
  have := seg_len P k off
  rw [e] at this; simp at this; omega

/-- strings.Builder's Write of a page's bytes. -/
theorem write_run {n B p off len cp P : Nat} {s : List UInt8} {t0 : List (Nat × AObj Empty)} {h : Hp Empty} (H : HkB hk) (hb : Bst t0 B s h.tbl h.next) (hp : look p h.tbl = some (.cells (pageCells P))) (hpB : p < B) (hl0 : 0 < len) (hlen : off + len ≤ 4096) (hs : s.length ≤ 4294967296) :
    ∃ v h', RA (hk := hk) (n + 3) 197 [.pointer (some ⟨B, 0, none⟩), .slice (some ⟨p, off, some 1⟩) len cp] h = some (v, h') ∧ Bst t0 B (s ++ segBytes P off len) h'.tbl h'.next := by
  obtain ⟨hkp, hst⟩ := hb
  have hlm : len * 1 ≠ 0 := by omega
  refine run_fn (H.none 197 (by decide)) f197 (by simp [i197]) ?_
  dsimp only [i197, argsE]
  refine WC.seq (WC.ops (WO.mv rfl (WO.mv rfl (WO.nil (thenC_norm (WC.seq (WC.ops (WO.mv rfl ?_))))))))
  have hsl := byteCells_len (segBytes P off len)
  rw [seg_len] at hsl
  rcases hst with ⟨rfl, hB⟩ | ⟨hne, G, hG, hB, hGc⟩
  · refine WO.fcall_ex rfl rfl (cc_first (n := n) (h := h) H hB) ?_
    rintro v2 h2 rfl
    have hB2 : look B (upd B (.typed 271 [.pointer (some ⟨B, 0, none⟩), .slice none 0 0]) h.tbl) = some (.typed 271 [.pointer (some ⟨B, 0, none⟩), .slice none 0 0]) := look_upd_same hB
    have hp2 : look p (upd B (.typed 271 [.pointer (some ⟨B, 0, none⟩), .slice none 0 0]) h.tbl) = some (.cells (pageCells P)) := (look_upd_ne (by omega)).trans hp
    have k2 := hkp.upd (i := B) (o := .typed 271 [.pointer (some ⟨B, 0, none⟩), .slice none 0 0]) (Nat.le_refl _)
    generalize upd B (.typed 271 [.pointer (some ⟨B, 0, none⟩), .slice none 0 0]) h.tbl = tb at hB2 hp2 k2
    refine WO.nil (thenC_norm (WC.seq (WC.ops ?_)))
    refine WO.mv rfl (WO.mv rfl (WO.nilck rfl (WO.fadd rfl (WO.load rfl hB2 rfl rfl rfl (WO.mv rfl ?_)))))
    have hsrc : source (⟨[], tb, h.next⟩ : Mem Empty) 1 (.slice (some ⟨p, off, some 1⟩) len cp) = some (len, byteCells (segBytes P off len)) := by
      have := mem_loads (nx := h.next) (sp := some 1) (n := len * 1) hp2 rfl (by rw [Nat.mul_one]; exact page_bytes P len off hlen) hlm
      simp only [source, this, Option.map]
    refine WO.append rfl rfl (appendM_new hsrc hl0 (by omega)) ?_
    have hBh : B < h.next := by
      rcases Nat.lt_or_ge B h.next with q | q
      · exact q
      · have := k2.fr B q; rw [hB2] at this; cases this
    have k3 := k2.trans (Keep.new k2.fr (.grown 1 5 (byteCells (segBytes P off len))))
    have hB3 : look B ((h.next, .grown 1 5 (byteCells (segBytes P off len))) :: tb) = some (.typed 271 [.pointer (some ⟨B, 0, none⟩), .slice none 0 0]) := (look_old (by omega)).trans hB2
    refine WO.nilck rfl (WO.fadd rfl (WO.store (ob' := .typed 271 [.pointer (some ⟨B, 0, none⟩), .slice (some ⟨h.next, 0, none⟩) len len]) rfl rfl rfl rfl hB3 rfl (by simp) rfl (WO.nil (thenC_norm (WC.seq (WC.ops ?_))))))
    refine WO.mv rfl (WO.len rfl (WO.mv rfl (WO.mv rfl (WO.nil (thenC_norm (WC.ret ?_))))))
    refine ⟨_, _, rfl, rfl, k3.upd (Nat.le_refl _), .inr ⟨seg_ne hl0, h.next, hBh, ?_, ?_⟩⟩
    · rw [List.nil_append, seg_len]; exact look_upd_same hB3
    · rw [List.nil_append]; exact (look_upd_ne (by omega)).trans look_new
  · refine WO.fcall_ex rfl rfl (cc_later (n := n) (h := h) H hB) ?_
    rintro v2 h2 rfl
    refine WO.nil (thenC_norm (WC.seq (WC.ops ?_)))
    refine WO.mv rfl (WO.mv rfl (WO.nilck rfl (WO.fadd rfl (WO.load rfl hB rfl rfl rfl (WO.mv rfl ?_)))))
    have hsrc : source (⟨[], h2.tbl, h2.next⟩ : Mem Empty) 1 (.slice (some ⟨p, off, some 1⟩) len cp) = some (len, byteCells (segBytes P off len)) := by
      have := mem_loads (nx := h2.next) (sp := some 1) (n := len * 1) hp rfl (by rw [Nat.mul_one]; exact page_bytes P len off hlen) hlm
      simp only [source, this, Option.map]
    have hs0 : 0 < s.length := List.length_pos_iff.2 hne
    have hsl2 := byteCells_len s
    have hld : (⟨[], h2.tbl, h2.next⟩ : Mem Empty).loads (some ⟨G, 0, none⟩) (s.length * 1) = some (byteCells s) := by
      rw [Nat.mul_one]
      refine mem_loads hGc rfl ?_ (by omega)
      have : ((byteCells s).drop 0).take s.length = byteCells s := by rw [List.drop_zero, ← hsl2, List.take_length]
      simp only [takeN, this, hsl2, Nat.beq_refl, cond_true]
    refine WO.append rfl rfl (appendM_more hsrc (by omega) hl0 hGc (by omega) hld (by omega)) ?_
    have hGh : G < h2.next := by
      rcases Nat.lt_or_ge G h2.next with q | q
      · exact q
      · have := hkp.fr G q; rw [hGc] at this; cases this
    have k2 := hkp.del (i := G) (by omega)
    have k3 := k2.trans (Keep.new k2.fr (.grown 1 5 (byteCells s ++ byteCells (segBytes P off len))))
    have hB3 : look B ((h2.next, .grown 1 5 (byteCells s ++ byteCells (segBytes P off len))) :: del G h2.tbl) = some (.typed 271 [.pointer (some ⟨B, 0, none⟩), .slice (some ⟨G, 0, none⟩) s.length s.length]) := (look_old (by omega)).trans ((look_del_ne (by omega)).trans hB)
    refine WO.nilck rfl (WO.fadd rfl (WO.store (ob' := .typed 271 [.pointer (some ⟨B, 0, none⟩), .slice (some ⟨h2.next, 0, none⟩) (s.length + len) (s.length + len)]) rfl rfl rfl rfl hB3 rfl (by simp) rfl (WO.nil (thenC_norm (WC.seq (WC.ops ?_))))))
    refine WO.mv rfl (WO.len rfl (WO.mv rfl (WO.mv rfl (WO.nil (thenC_norm (WC.ret ?_))))))
    refine ⟨_, _, rfl, rfl, k3.upd (Nat.le_refl _), .inr ⟨fun e => hne (List.append_eq_nil_iff.1 e).1, h2.next, by omega, ?_, ?_⟩⟩
    · rw [List.length_append, seg_len]; exact look_upd_same hB3
    · rw [byteCells_app]; exact (look_upd_ne (by omega)).trans look_new
/-- The closure that writes. -/
theorem wr_run {n B p off len cp P : Nat} {s : List UInt8} {t0 : List (Nat × AObj Empty)} {h : Hp Empty} (H : HkB hk) (hb : Bst t0 B s h.tbl h.next) (hp : look p h.tbl = some (.cells (pageCells P))) (hpB : p < B) (hl0 : 0 < len) (hlen : off + len ≤ 4096) (hs : s.length ≤ 4294967296) :
    ∃ v h', RA (hk := hk) (n + 4) 196 [.slice (some ⟨p, off, some 1⟩) len cp, .pointer (some ⟨B, 0, none⟩)] h = some (v, h') ∧ Bst t0 B (s ++ segBytes P off len) h'.tbl h'.next := by
  refine run_fn (H.none 196 (by decide)) f196 (by simp [i196]) ?_
  dsimp only [i196, argsE]
  refine WC.ops (WO.mv rfl (WO.fcall_ex rfl rfl (write_run (n := n) (h := h) H hb hp hpB hl0 hlen hs) ?_))
  rintro v2 h2 hb2
  exact WO.nil ⟨_, _, rfl, rfl, hb2⟩
/-- String, of one that holds something. -/
theorem string_some {n B G : Nat} {ad : Value} {s : List UInt8} {h : Hp Empty} (H : HkB hk) (hB : look B h.tbl = some (.typed 271 [ad, .slice (some ⟨G, 0, none⟩) s.length s.length])) (hG : look G h.tbl = some (.grown 1 5 (byteCells s))) (h0 : s ≠ []) (hs : s.length ≤ 4294967296) :
    ∃ v h', RA (hk := hk) (n + 1) 198 [.pointer (some ⟨B, 0, none⟩)] h = some (v, h') ∧ (v = .string ⟨⟨s⟩⟩ ∧ h'.tbl = del G h.tbl ∧ h.next ≤ h'.next) := by
  have hs0 : 0 < s.length := List.length_pos_iff.2 h0
  have hld : ∀ nx, (⟨[], h.tbl, nx⟩ : Mem Empty).load ⟨B, 0 + 1, none⟩ 1 = some [.slice (some ⟨G, 0, none⟩) s.length s.length] := fun nx => mem_load hB rfl rfl
  refine run_fn (H.none 198 (by decide)) f198 (by simp [i198]) ?_
  dsimp only [i198, argsE]
  refine WC.seq (WC.ops (WO.mv rfl (WO.nil (thenC_norm (WC.seq (WC.drawnW ?_))))))
  refine WD.pure rfl (WD.pure rfl (WD.pure rfl (WD.load rfl (hld _) rfl ?_)))
  refine WD.chn (v := .pointer (some ⟨G, 0, none⟩)) (m' := ⟨[], h.tbl, h.next + 12⟩) rfl rfl rfl ?_ ?_
  · have h1 : Nat.beq s.length 0 = false := by rw [← Bool.not_eq_true, Nat.beq_eq]; omega
    show (bif Nat.beq s.length 0 then none else some (Value.pointer (some ⟨G, 0, none⟩), (⟨[], h.tbl, h.next + 12⟩ : Mem Empty))) = _
    rw [h1]; rfl
  refine WD.pure rfl (WD.pure rfl (WD.pure rfl (WD.load rfl (hld _) rfl (WD.pure rfl ?_))))
  refine WD.chn (v := .string ⟨⟨s⟩⟩) (m' := ⟨[], del G h.tbl, h.next + 12⟩) rfl rfl rfl ?_ ?_
  · have h2 : (⟨[], h.tbl, h.next + 12⟩ : Mem Empty).get G = some (.grown 1 5 (byteCells s)) := hG
    have h4 : (byteCells s).take s.length = byteCells s := by
      have := List.take_length (l := byteCells s)
      rwa [byteCells_len] at this
    exact estep_ustr (i := G) (n := s.length) rfl rfl (by omega) h2 (by omega) (by rw [h4]; exact cellBytesX_of s) rfl
  refine WD.pure rfl (WD.nil ⟨?_, _, _, rfl, ?_⟩)
  · have h1 : ceqs [Value.slice (some ⟨G, 0, none⟩) s.length s.length] [Value.slice (some ⟨G, 0, none⟩) s.length s.length] = true := by
      simp [ceqs, ceq]
    simp only [heldAll, loadsIn, hld, h1]
    rfl
  refine thenC_norm (WC.ret ⟨_, _, rfl, rfl, rfl, rfl, ?_⟩)
  show h.next ≤ h.next + 12
  omega
theorem string_none {n B : Nat} {ad : Value} {h : Hp Empty} (H : HkB hk) (hB : look B h.tbl = some (.typed 271 [ad, .slice none 0 0])) :
    ∃ v h', RA (hk := hk) (n + 1) 198 [.pointer (some ⟨B, 0, none⟩)] h = some (v, h') ∧ (v = .string ⟨⟨[]⟩⟩ ∧ h'.tbl = h.tbl ∧ h.next ≤ h'.next) := by
  have hld : ∀ nx, (⟨[], h.tbl, nx⟩ : Mem Empty).load ⟨B, 0 + 1, none⟩ 1 = some [.slice none 0 0] := fun nx => mem_load hB rfl rfl
  refine run_fn (H.none 198 (by decide)) f198 (by simp [i198]) ?_
  dsimp only [i198, argsE]
  refine WC.seq (WC.ops (WO.mv rfl (WO.nil (thenC_norm (WC.seq (WC.drawnW ?_))))))
  refine WD.pure rfl (WD.pure rfl (WD.pure rfl (WD.load rfl (hld _) rfl ?_)))
  refine WD.chn (v := .pointer none) (m' := ⟨[], h.tbl, h.next + 12⟩) rfl rfl rfl rfl ?_
  refine WD.pure rfl (WD.pure rfl (WD.pure rfl (WD.load rfl (hld _) rfl (WD.pure rfl ?_))))
  refine WD.chn (v := .string ⟨⟨[]⟩⟩) (m' := ⟨[], h.tbl, h.next + 12⟩) rfl rfl rfl rfl ?_
  refine WD.pure rfl (WD.nil ⟨?_, _, _, rfl, ?_⟩)
  · have h1 : ceqs [Value.slice none 0 0] [Value.slice none 0 0] = true := rfl
    simp only [heldAll, loadsIn, hld, h1]
    rfl
  refine thenC_norm (WC.ret ⟨_, _, rfl, rfl, rfl, rfl, ?_⟩)
  show h.next ≤ h.next + 12
  omega

theorem bytesA_zero : ∀ (f : Nat) (l : List (Option Nat)) (a : Nat), bytesA l f a 0 = []
  | 0, _, _ => rfl
  | _ + 1, _, _ => rfl
theorem bytesA_step {f a k P : Nat} {l : List (Option Nat)} (hk : 0 < k) (hP : pgAt l (a / 4096) = some P) :
    bytesA l (f + 1) a k = segBytes P (a % 4096) (min k (4096 - a % 4096)) ++ bytesA l f (a + min k (4096 - a % 4096)) (k - min k (4096 - a % 4096)) := by
  have h0 : Nat.beq k 0 = false := by rw [← Bool.not_eq_true, Nat.beq_eq]; omega
  show (bif Nat.beq k 0 then [] else match pgAt l (a / 4096) with
    | some P => segBytes P (a % 4096) (min k (4096 - a % 4096)) ++ bytesA l f (a + min k (4096 - a % 4096)) (k - min k (4096 - a % 4096))
    | none => []) = _
  rw [h0, hP]; rfl
def BytesInv (t0 : List (Nat × AObj Empty)) (B : Nat) (x : Ar) (_a0 : Nat) (S : List UInt8) (a k : Nat) (l : List (Option Nat)) (tbl : List (Nat × AObj Empty)) (nx : Nat) : Prop :=
  l = x.pages ∧ There l a k ∧ ∃ s, Bst t0 B s tbl nx ∧ s.length + k ≤ 4294967296 ∧ ∃ f, segs a k ≤ f ∧ s ++ bytesA l f a k = S

theorem bytes_run {n : Nat} {x : Ar} {I : ArIds} {a k : Nat} {h : Hp Empty} (H : HkB hk) (hn : 4294967297 ≤ n) (hA : ArH h x I) (hc : checkN x.pages a k = 0) :
    ∃ v h', RA (hk := hk) (n + 6) 109 [.pointer (some ⟨I.A, 0, none⟩), .int .i64 (Int.ofNat a), .int .i64 (Int.ofNat k)] h = some (v, h') ∧ (v = .tuple ⟨[.string ⟨⟨bytesA x.pages (fuelA k) a k⟩⟩, errV 0]⟩ ∧ Keep h.tbl h.next h'.tbl h'.next) := by
  have hth := check_there hc
  have hcap := hA.at_.cap
  refine run_fn (H.none 109 (by decide)) f109 (by simp [i109]) ?_
  dsimp only [i109, argsE]
  refine WC.seq (WC.ops (WO.mv rfl (WO.mv rfl (WO.nil (thenC_norm (WC.seq (WC.seq (WC.ops ?_))))))))
  refine WO.mv rfl (WO.mv rfl (WO.mv rfl (WO.fcall_ex rfl rfl (check_run (n := n + 2) (a := Int.ofNat a) (k := Int.ofNat k) (h := h) H.toHkA (by omega) hA) ?_)))
  rintro v2 h2 ⟨rfl, k2⟩
  have hA2 : ArH h2 x I := hA.keep k2
  refine WO.mv rfl (WO.nil (thenC_norm (WC.seq (WC.ops (WO.mv rfl (WO.neqS rfl rfl (fun hne => ?_) (fun _ => ?_)))))))
  · exact absurd (by show Int.ofNat (checkN x.pages a k) = Int.ofNat 0; rw [hc]) hne
  · refine WO.nil (WC.cond_false rfl (WC.skip (thenC_norm (WC.seq (WC.ops (WO.newt (WO.nil (thenC_norm (WC.seq (WC.ops ?_))))))))))
    have k3 := Keep.new k2.fr (.typed 271 [.pointer none, .slice none 0 0])
    have hA3 : ∀ tbl nx, Keep h2.tbl h2.next tbl nx → ArH ⟨tbl, nx⟩ x I := fun tbl nx hk => hA2.keep (h' := ⟨tbl, nx⟩) hk
    have q1 : ∀ a1 k1 l tbl nx, BytesInv h2.tbl h2.next x a (bytesA x.pages (fuelA k) a k) a1 k1 l tbl nx → ArH ⟨tbl, nx⟩ ⟨l, x.armed, x.refuse⟩ I := by
      rintro a1 k1 l tbl nx ⟨rfl, _, s, hb, _⟩
      exact hA3 tbl nx hb.keep
    have q2 : ∀ a1 k1 l tbl nx, BytesInv h2.tbl h2.next x a (bytesA x.pages (fuelA k) a k) a1 k1 l tbl nx → 0 < k1 → ∃ P, pgAt l (a1 / 4096) = some P := by
      rintro a1 k1 l tbl nx ⟨rfl, hth, _⟩ hk
      exact hth.2 hk _ (Nat.le_refl _) (Nat.div_le_div_right (by omega))
    have q3 : ∀ a1 k1 l tbl nx P, BytesInv h2.tbl h2.next x a (bytesA x.pages (fuelA k) a k) a1 k1 l tbl nx → 0 < k1 → pgAt l (a1 / 4096) = some P → ∃ v h', RA (hk := hk) (n + 4) 196 ([.slice (some ⟨I.pid (a1 / 4096), a1 % 4096, some 1⟩) (min k1 (4096 - a1 % 4096)) (4096 - a1 % 4096)] ++ [.pointer (some ⟨h2.next, 0, none⟩)]) ⟨tbl, nx⟩ = some (v, h') ∧ ∃ l', BytesInv h2.tbl h2.next x a (bytesA x.pages (fuelA k) a k) (a1 + min k1 (4096 - a1 % 4096)) (k1 - min k1 (4096 - a1 % 4096)) l' h'.tbl h'.next := by
      rintro a1 k1 l tbl nx P ⟨rfl, hth, s, hb, hsl, f, hf, hfa⟩ hk hP
      have hseg := segs_step (a := a1) hk
      obtain ⟨f', rfl⟩ : ∃ f', f = f' + 1 := ⟨f - 1, by omega⟩
      have hm : min k1 (4096 - a1 % 4096) ≤ k1 := Nat.min_le_left _ _
      have hm2 : min k1 (4096 - a1 % 4096) ≤ 4096 - a1 % 4096 := Nat.min_le_right _ _
      have hmod : a1 % 4096 < 4096 := Nat.mod_lt _ (by decide)
      have hm3 : 0 < min k1 (4096 - a1 % 4096) := by omega
      have hPg := (pgAt_get _ _ _).1 hP
      have hpc : look (I.pid (a1 / 4096)) tbl = some (.cells (pageCells P)) := (hA3 tbl nx hb.keep).at_.page _ _ hPg
      have hplt : I.pid (a1 / 4096) < h2.next := hA2.ltP hPg
      obtain ⟨v, h', h1, hb'⟩ := wr_run (n := n) (cp := 4096 - a1 % 4096) (off := a1 % 4096) (len := min k1 (4096 - a1 % 4096)) (h := ⟨tbl, nx⟩) H hb hpc hplt hm3 (by omega) (by omega)
      refine ⟨v, h', h1, x.pages, rfl, hth.step hm, _, hb', ?_, f', by omega, ?_⟩
      · rw [List.length_append, seg_len]; omega
      · rw [List.append_assoc, ← bytesA_step hk hP]; exact hfa
    have hea := each_run (n := n + 3) (f := 196) (I := I) (arm := x.armed) (ref := x.refuse) (caps := [.pointer (some ⟨h2.next, 0, none⟩)]) (a := a) (k := k) (l := x.pages) (h := ⟨(h2.next, .typed 271 [.pointer none, .slice none 0 0]) :: h2.tbl, h2.next + 1⟩) H.toHkA (by omega)
      (BytesInv h2.tbl h2.next x a (bytesA x.pages (fuelA k) a k)) q1 q2 q3 ⟨rfl, hth, [], ⟨k3, .inl ⟨rfl, look_new⟩⟩, by have := hth.1; simp only [List.length_nil]; omega, fuelA k, segs_le a k, rfl⟩ (by have := hth.1; omega) (by have := hth.1; omega)
    refine WO.mv rfl (WO.mv rfl (WO.mv rfl (WO.pure rfl (WO.fcall_ex rfl rfl hea ?_))))
    rintro v3 h3 ⟨rfl, a', l', rfl, _, s, hb, hsl, f, _, hS⟩
    rw [bytesA_zero, List.append_nil] at hS
    subst hS
    refine WO.nil (thenC_norm (WC.seq (WC.ops ?_)))
    rcases hb.st with ⟨hs0, hB⟩ | ⟨hs0, G, hG, hB, hGc⟩
    · refine WO.fcall_ex rfl rfl (string_none (n := n + 4) (h := h3) H hB) ?_
      rintro v4 h4 ⟨rfl, ht4, hn4⟩
      refine WO.mv rfl (WO.mv rfl (WO.nil (thenC_norm (WC.ret ⟨_, _, rfl, rfl, ?_, ?_⟩))))
      · rw [hs0]; rfl
      · have : Keep h2.tbl h2.next h4.tbl h4.next := by
          rw [ht4]; exact ⟨fun k hk => hb.keep.fr k (by omega), by have := hb.keep.le; omega, hb.keep.same⟩
        exact k2.trans this
    · refine WO.fcall_ex rfl rfl (string_some (n := n + 4) (h := h3) H hB hGc hs0 (by omega)) ?_
      rintro v4 h4 ⟨rfl, ht4, hn4⟩
      refine WO.mv rfl (WO.mv rfl (WO.nil (thenC_norm (WC.ret ⟨_, _, rfl, rfl, rfl, ?_⟩))))
      have hk4 := hb.keep.del (i := G) (by omega)
      have : Keep h2.tbl h2.next h4.tbl h4.next := by
        rw [ht4]; exact ⟨fun k hk => hk4.fr k (by omega), by have := hk4.le; omega, hk4.same⟩
      exact k2.trans this
theorem bytes_no {n : Nat} {x : Ar} {I : ArIds} {a k : Int} {h : Hp Empty} (H : HkB hk) (hn : 1048576 ≤ n) (hA : ArH h x I) (hc : checkA x.pages a k ≠ 0) :
    ∃ v h', RA (hk := hk) (n + 4) 109 [.pointer (some ⟨I.A, 0, none⟩), .int .i64 a, .int .i64 k] h = some (v, h') ∧ (v = .tuple ⟨[.string ⟨⟨[]⟩⟩, errV (checkA x.pages a k)]⟩ ∧ Keep h.tbl h.next h'.tbl h'.next) := by
  refine run_fn (H.none 109 (by decide)) f109 (by simp [i109]) ?_
  dsimp only [i109, argsE]
  refine WC.seq (WC.ops (WO.mv rfl (WO.mv rfl (WO.nil (thenC_norm (WC.seq (WC.seq (WC.ops ?_))))))))
  refine WO.mv rfl (WO.mv rfl (WO.mv rfl (WO.fcall_ex rfl rfl (check_run (n := n) (a := a) (k := k) (h := h) H.toHkA hn hA) ?_)))
  rintro v2 h2 ⟨rfl, k2⟩
  refine WO.mv rfl (WO.nil (thenC_norm (WC.seq (WC.ops (WO.mv rfl (WO.neqS rfl rfl (fun _ => ?_) (fun he => ?_)))))))
  · refine WO.nil (WC.cond_true rfl (WC.seq (WC.ops (WO.mv rfl (WO.mv rfl (WO.mv rfl (WO.nil (thenC_norm (WC.ret ?_)))))))))
    exact ⟨_, _, rfl, rfl, rfl, k2⟩
  · exact absurd (Int.ofNat.inj he) hc
end Go.AI
/- What the arena's functions do upon its parts: Put; Copy. -/
namespace Go.AI
open Go.Proofs
variable {hk : Hook Empty}

theorem ArH.upd {h : Hp Empty} {x : Ar} {I : ArIds} {B : Nat} {o : AObj Empty} (H : ArH h x I) (h1 : I.A < B) (h2 : I.Pg < B) (h3 : I.W < B) (h4 : ∀ i P, x.pages[i]? = some (some P) → I.pid i < B) : ArH ⟨AI.upd B o h.tbl, h.next⟩ x I where
  fresh := H.fresh.upd
  at_ := by
    have hold : ∀ j, j < B → look j (AI.upd B o h.tbl) = look j h.tbl := fun j hj => look_upd_ne (by omega)
    exact ⟨(hold _ h1).trans H.at_.top, (hold _ h2).trans H.at_.row, by
      obtain ⟨ob, q1, q2⟩ := H.at_.wds
      exact ⟨ob, (hold _ h3).trans q1, q2⟩, fun i P hp => (hold _ (h4 i P hp)).trans (H.at_.page i P hp), H.at_.inj, H.at_.dA, H.at_.dP, H.at_.cap, H.at_.ref⟩

theorem putA_nil : ∀ (f : Nat) (l : List (Option Nat)) (a : Nat), putA f l a [] = l
  | 0, _, _ => rfl
  | _ + 1, _, _ => rfl
theorem putA_step {f a P : Nat} {l : List (Option Nat)} {s : List UInt8} (hk : 0 < s.length) (hP : pgAt l (a / 4096) = some P) :
    putA (f + 1) l a s = putA f (setPg l (a / 4096) (some (setBytes P (a % 4096) (min s.length (4096 - a % 4096)) (numOf (s.take (min s.length (4096 - a % 4096))))))) (a + min s.length (4096 - a % 4096)) (s.drop (min s.length (4096 - a % 4096))) := by
  have h0 : Nat.beq s.length 0 = false := by rw [← Bool.not_eq_true, Nat.beq_eq]; omega
  show (bif Nat.beq s.length 0 then l else match pgAt l (a / 4096) with
    | some P => putA f (setPg l (a / 4096) (some (setBytes P (a % 4096) (min s.length (4096 - a % 4096)) (numOf (s.take (min s.length (4096 - a % 4096))))))) (a + min s.length (4096 - a % 4096)) (s.drop (min s.length (4096 - a % 4096)))
    | none => l) = _
  rw [h0, hP]; rfl

/-- The closure of Put: some bytes of what is left are laid. -/
theorem put1_run {n B p off len cp P : Nat} {s : List UInt8} {h : Hp Empty} (H : HkA hk) (hp : look p h.tbl = some (.cells (pageCells P))) (hB : look B h.tbl = some (.cells [.string ⟨⟨s⟩⟩])) (hpB : p ≠ B) (hl0 : 0 < len) (hls : len ≤ s.length) (hlen : off + len ≤ 4096) :
    ∃ v h', RA (hk := hk) (n + 1) 215 [.slice (some ⟨p, off, some 1⟩) len cp, .pointer (some ⟨B, 0, none⟩)] h = some (v, h') ∧
      (h'.tbl = upd B (.cells [.string ⟨⟨s.drop len⟩⟩]) (upd p (.cells (pageCells (setBytes P off len (numOf (s.take len))))) h.tbl) ∧ h.next ≤ h'.next) := by
  have htl : (s.take len).length = len := by rw [List.length_take]; omega
  refine run_fn (H.none 215 (by decide)) f215 (by simp [i215]) ?_
  dsimp only [i215, argsE]
  refine WC.drawnW ?_
  have hld0 : ∀ nx, (⟨[], h.tbl, nx⟩ : Mem Empty).load ⟨B, 0, none⟩ 1 = some [.string ⟨⟨s⟩⟩] := fun nx => mem_load hB rfl rfl
  have hB1 : look B (upd p (.cells (pageCells (setBytes P off len (numOf (s.take len))))) h.tbl) = some (.cells [.string ⟨⟨s⟩⟩]) := (look_upd_ne (Ne.symm hpB)).trans hB
  have hld1 : ∀ nx, (⟨[], upd p (.cells (pageCells (setBytes P off len (numOf (s.take len))))) h.tbl, nx⟩ : Mem Empty).load ⟨B, 0, none⟩ 1 = some [.string ⟨⟨s⟩⟩] := fun nx => mem_load hB1 rfl rfl
  refine WD.load rfl (hld0 _) rfl (WD.pure rfl (WD.load rfl (hld0 _) rfl ?_))
  refine WD.chn (v := .int .i64 (Int.ofNat len)) (m' := ⟨[], upd p (.cells (pageCells (setBytes P off len (numOf (s.take len))))) h.tbl, h.next + 6⟩) rfl rfl rfl ?_ ?_
  · have h1 : (byteCells (s.take len)).length = len := by rw [byteCells_len, htl]
    have h2 : Nat.beq len 0 = false := by rw [← Bool.not_eq_true, Nat.beq_eq]; omega
    have h3 : (⟨[], h.tbl, h.next + 6⟩ : Mem Empty).store ⟨p, off, none⟩ (byteCells (s.take len)) = some ⟨[], upd p (.cells (pageCells (setBytes P off len (numOf (s.take len))))) h.tbl, h.next + 6⟩ := by
      refine mem_store hp rfl (by rw [h1, page_len]; exact hlen) ?_
      show some (AObj.cells (splice (pageCells P) off (byteCells (s.take len)))) = _
      have := page_put (P := P) (off := off) (s := s.take len) (by rw [htl]; exact hlen)
      rw [htl] at this
      rw [this]
    have h4 : Nat.min s.length len = len := Nat.min_eq_right hls
    refine Eq.trans (estep_copys (dl := len) (s := s) rfl rfl (by rw [h1]; omega) h3) ?_
    rw [h4]
  refine WD.pure (v := .string ⟨⟨s.drop len⟩⟩) ?_ ?_
  · have h1 : Nat.ble s.length s.length = true := by rw [Nat.ble_eq]; exact Nat.le_refl _
    have h2 : Nat.ble len s.length = true := by rw [Nat.ble_eq]; exact hls
    have h3 : (s.drop len).take (s.length - len) = s.drop len := by
      rw [← List.length_drop, List.take_length]
    show (match bounds s.length s.length (some (.int .i64 (Int.ofNat len))) none none with
      | some (l, h, _) => some (Value.string ⟨⟨(s.drop l).take (h - l)⟩⟩)
      | none => none) = _
    simp only [bounds, natOpt, natOf, h1, h2, Bool.and_self, Option.isNone, Option.isSome, Bool.or_true, cond_true, h3]
  refine WD.chn (v := undef) (m' := ⟨[], upd B (.cells [.string ⟨⟨s.drop len⟩⟩]) (upd p (.cells (pageCells (setBytes P off len (numOf (s.take len))))) h.tbl), h.next + 6⟩) rfl rfl rfl ?_ (WD.nil ⟨?_, _, _, rfl, ?_⟩)
  · have h3 : (⟨[], upd p (.cells (pageCells (setBytes P off len (numOf (s.take len))))) h.tbl, h.next + 6⟩ : Mem Empty).store ⟨B, 0, none⟩ [.string ⟨⟨s.drop len⟩⟩] = some ⟨[], upd B (.cells [.string ⟨⟨s.drop len⟩⟩]) (upd p (.cells (pageCells (setBytes P off len (numOf (s.take len))))) h.tbl), h.next + 6⟩ :=
      mem_store hB1 rfl (by simp) rfl
    exact estep_store rfl rfl rfl rfl h3
  · have h1 : ceqs [Value.string ⟨⟨s⟩⟩] [Value.string ⟨⟨s⟩⟩] = true := by
      show (bytesEq s s && true) = true
      rw [bytesEq_refl]; rfl
    simp only [heldAll, loadsIn, hld0, hld1, h1]
    rfl
  refine ⟨_, _, rfl, rfl, rfl, ?_⟩
  show h.next ≤ h.next + 6
  omega

structure PutInv (I : ArIds) (arm : Bool) (ref B : Nat) (L : List (Option Nat)) (a k : Nat) (l : List (Option Nat)) (tbl : List (Nat × AObj Empty)) (nx : Nat) : Prop where
  ar : ArH ⟨tbl, nx⟩ ⟨l, arm, ref⟩ I
  lt : I.A < B ∧ I.Pg < B ∧ I.W < B
  ne : ∀ i P, pgAt l i = some P → I.pid i < B
  th : There l a k
  st : ∃ s f, look B tbl = some (.cells [.string ⟨⟨s⟩⟩]) ∧ s.length = k ∧ segs a k ≤ f ∧ putA f l a s = L

theorem put_call {n : Nat} {I : ArIds} {arm : Bool} {ref B : Nat} {L : List (Option Nat)} (H : HkA hk) (a k : Nat) (l : List (Option Nat)) (tbl : List (Nat × AObj Empty)) (nx P : Nat) (hI : PutInv I arm ref B L a k l tbl nx) (hk0 : 0 < k) (hP : pgAt l (a / 4096) = some P) :
    ∃ v h', RA (hk := hk) (n + 1) 215 ([.slice (some ⟨I.pid (a / 4096), a % 4096, some 1⟩) (min k (4096 - a % 4096)) (4096 - a % 4096)] ++ [.pointer (some ⟨B, 0, none⟩)]) ⟨tbl, nx⟩ = some (v, h') ∧ ∃ l', PutInv I arm ref B L (a + min k (4096 - a % 4096)) (k - min k (4096 - a % 4096)) l' h'.tbl h'.next := by
  obtain ⟨hAr, ⟨l1, l2, l3⟩, hne, hth, s, f, hB, rfl, hf, hfa⟩ := hI
  have hseg := segs_step (a := a) hk0
  obtain ⟨f', rfl⟩ : ∃ f', f = f' + 1 := ⟨f - 1, by omega⟩
  have hm : min s.length (4096 - a % 4096) ≤ s.length := Nat.min_le_left _ _
  have hm2 : min s.length (4096 - a % 4096) ≤ 4096 - a % 4096 := Nat.min_le_right _ _
  have hmod : a % 4096 < 4096 := Nat.mod_lt _ (by decide)
  have hPg := (pgAt_get _ _ _).1 hP
  have hpc : look (I.pid (a / 4096)) tbl = some (.cells (pageCells P)) := hAr.at_.page _ _ hPg
  obtain ⟨v, h', h1, h2, h3⟩ := put1_run (n := n) (cp := 4096 - a % 4096) (off := a % 4096) (len := min s.length (4096 - a % 4096)) (h := ⟨tbl, nx⟩) H hpc hB (Nat.ne_of_lt (hne _ _ hP)) (by omega) hm (by omega)
  refine ⟨v, h', h1, setPg l (a / 4096) (some (setBytes P (a % 4096) (min s.length (4096 - a % 4096)) (numOf (s.take (min s.length (4096 - a % 4096)))))), ?_⟩
  have hS := hAr.setPage (P' := setBytes P (a % 4096) (min s.length (4096 - a % 4096)) (numOf (s.take (min s.length (4096 - a % 4096))))) hP
  have hne' : ∀ i Q, pgAt (setPg l (a / 4096) (some (setBytes P (a % 4096) (min s.length (4096 - a % 4096)) (numOf (s.take (min s.length (4096 - a % 4096))))))) i = some Q → I.pid i < B := fun i Q hi => by
    obtain ⟨P2, hP2⟩ := pgAt_set hP hi
    exact hne _ _ hP2
  have hU := hS.upd (o := .cells [.string ⟨⟨s.drop (min s.length (4096 - a % 4096))⟩⟩]) l1 l2 l3 fun i Q hi => hne' i Q ((pgAt_get _ _ _).2 hi)
  refine ⟨hU.congr (h' := h') (fun k => by rw [h2]) h3, ⟨l1, l2, l3⟩, hne', hth.set.step hm, s.drop (min s.length (4096 - a % 4096)), f', ?_, List.length_drop, by omega, ?_⟩
  · rw [h2]
    exact look_upd_same ((look_upd_ne (Ne.symm (Nat.ne_of_lt (hne _ _ hP)))).trans hB)
  · rw [← putA_step hk0 hP]; exact hfa

theorem put_run {n : Nat} {x : Ar} {I : ArIds} {a : Nat} {s : List UInt8} {h : Hp Empty} (H : HkA hk) (hn : 4294967297 ≤ n) (hA : ArH h x I) (hc : checkN x.pages a s.length = 0) :
    ∃ v h', RA (hk := hk) (n + 4) 129 [.pointer (some ⟨I.A, 0, none⟩), .int .i64 (Int.ofNat a), .string ⟨⟨s⟩⟩] h = some (v, h') ∧ (v = errV 0 ∧ ArH h' ⟨putA (fuelA s.length) x.pages a s, x.armed, x.refuse⟩ I) := by
  have hth := check_there hc
  have hcap := hA.at_.cap
  refine run_fn (H.none 129 (by decide)) f129 (by simp [i129]) ?_
  dsimp only [i129, argsE]
  refine WC.seq (WC.ops (WO.box rfl rfl (WO.mv rfl (WO.nil (thenC_norm (WC.seq (WC.seq (WC.ops ?_))))))))
  have k1 := Keep.new hA.fresh (.cells [.string ⟨⟨s⟩⟩])
  have hA1 : ArH ⟨(h.next, .cells [.string ⟨⟨s⟩⟩]) :: h.tbl, h.next + 1⟩ x I := hA.keep k1
  refine WO.mv rfl (WO.mv rfl (WO.load rfl look_new rfl rfl rfl (WO.lens rfl (WO.fcall_ex rfl rfl (check_run (n := n) (a := Int.ofNat a) (k := Int.ofNat s.length) H (by omega) hA1) ?_))))
  rintro v2 ⟨tb2, nx2⟩ ⟨rfl, k2⟩
  have hA2 : ArH ⟨tb2, nx2⟩ x I := hA1.keep k2
  have hB2 : look h.next tb2 = some (.cells [.string ⟨⟨s⟩⟩]) := (k2.same h.next (by show h.next < h.next + 1; omega)).trans look_new
  refine WO.mv rfl (WO.nil (thenC_norm (WC.seq (WC.ops (WO.mv rfl (WO.neqS rfl rfl (fun hne => ?_) (fun _ => ?_)))))))
  · exact absurd (by show Int.ofNat (checkN x.pages a s.length) = Int.ofNat 0; rw [hc]) hne
  · refine WO.nil (WC.cond_false rfl (WC.skip (thenC_norm (WC.seq (WC.ops ?_)))))
    have hea := each_run (n := n + 1) (f := 215) (I := I) (arm := x.armed) (ref := x.refuse) (caps := [.pointer (some ⟨h.next, 0, none⟩)]) (a := a) (k := s.length) (l := x.pages) (h := ⟨tb2, nx2⟩) H (by omega)
      (PutInv I x.armed x.refuse h.next (putA (fuelA s.length) x.pages a s)) (fun a k l tbl nx hI => hI.ar) (fun a k l tbl nx hI hk => hI.th.2 hk _ (Nat.le_refl _) (Nat.div_le_div_right (by omega)))
      (fun a k l tbl nx P hI hk hP => put_call H a k l tbl nx P hI hk hP)
      ⟨hA2, ⟨hA.ltA, hA.ltPg, hA.ltW⟩, fun i P hi => hA.ltP ((pgAt_get _ _ _).1 hi), hth, s, fuelA s.length, hB2, rfl, segs_le a s.length, rfl⟩ (by have := hth.1; omega) (by have := hth.1; omega)
    refine WO.mv rfl (WO.mv rfl (WO.load rfl hB2 rfl rfl rfl (WO.lens rfl (WO.pure rfl (WO.fcall_ex rfl rfl hea ?_)))))
    rintro v3 ⟨tb3, nx3⟩ ⟨rfl, a', l', hA3, _, _, _, s', f, _, hs', _, hL⟩
    rw [List.eq_nil_of_length_eq_zero hs', putA_nil] at hL
    subst hL
    refine WO.nil (thenC_norm (WC.seq (WC.ops (WO.mv rfl (WO.nil (thenC_norm (WC.ret ?_)))))))
    exact ⟨_, _, rfl, rfl, rfl, hA3⟩
theorem put_no {n : Nat} {x : Ar} {I : ArIds} {a : Int} {s : List UInt8} {h : Hp Empty} (H : HkA hk) (hn : 1048576 ≤ n) (hA : ArH h x I) (hc : checkA x.pages a (Int.ofNat s.length) ≠ 0) :
    ∃ v h', RA (hk := hk) (n + 4) 129 [.pointer (some ⟨I.A, 0, none⟩), .int .i64 a, .string ⟨⟨s⟩⟩] h = some (v, h') ∧ (v = errV (checkA x.pages a (Int.ofNat s.length)) ∧ ArH h' x I) := by
  refine run_fn (H.none 129 (by decide)) f129 (by simp [i129]) ?_
  dsimp only [i129, argsE]
  refine WC.seq (WC.ops (WO.box rfl rfl (WO.mv rfl (WO.nil (thenC_norm (WC.seq (WC.seq (WC.ops ?_))))))))
  have k1 := Keep.new hA.fresh (.cells [.string ⟨⟨s⟩⟩])
  have hA1 : ArH ⟨(h.next, .cells [.string ⟨⟨s⟩⟩]) :: h.tbl, h.next + 1⟩ x I := hA.keep k1
  refine WO.mv rfl (WO.mv rfl (WO.load rfl look_new rfl rfl rfl (WO.lens rfl (WO.fcall_ex rfl rfl (check_run (n := n) (a := a) (k := Int.ofNat s.length) H hn hA1) ?_))))
  rintro v2 ⟨tb2, nx2⟩ ⟨rfl, k2⟩
  refine WO.mv rfl (WO.nil (thenC_norm (WC.seq (WC.ops (WO.mv rfl (WO.neqS rfl rfl (fun _ => ?_) (fun he => ?_)))))))
  · refine WO.nil (WC.cond_true rfl (WC.seq (WC.ops (WO.mv rfl (WO.mv rfl (WO.nil (thenC_norm (WC.ret ?_))))))))
    exact ⟨_, _, rfl, rfl, rfl, hA1.keep k2⟩
  · exact absurd (Int.ofNat.inj he) hc

theorem bytesA_len {l : List (Option Nat)} : ∀ (f a k : Nat), There l a k → segs a k ≤ f → (bytesA l f a k).length = k
  | 0, a, k, _, h => by
    have : k = 0 := by
      rcases Nat.eq_zero_or_pos k with h0 | h0
      · exact h0
      · have := segs_step (a := a) h0; omega
    subst this; rfl
  | f + 1, a, k, hth, h => by
    rcases Nat.eq_zero_or_pos k with h0 | h0
    · subst h0; rfl
    · obtain ⟨P, hP⟩ := hth.2 h0 _ (Nat.le_refl _) (Nat.div_le_div_right (by omega))
      have hm : min k (4096 - a % 4096) ≤ k := Nat.min_le_left _ _
      have hseg := segs_step (a := a) h0
      rw [bytesA_step h0 hP, List.length_append, seg_len, bytesA_len f _ _ (hth.step hm) (by omega)]
      omega
end Go.AI
/- What the arena's functions do upon its parts: each method as its function says; Load, Store, Copy, Cap. -/
namespace Go.AI
open Go.Proofs
variable {hk : Hook Empty}

theorem checkA_vals (l : List (Option Nat)) (a k : Int) : checkA l a k = 0 ∨ checkA l a k = 3 := by
  unfold checkA
  split
  · exact check_vals _ _ _
  · exact .inr rfl

/-! ### As their functions say -/
theorem bytes_m {n : Nat} {x x' : Ar} {I : ArIds} {args : List Value} {v : Value} {h : Hp Empty} (H : HkB hk) (hn : 4294967297 ≤ n) (hA : ArH h x I) (hs : bytesS x args = some (v, x')) :
    ∃ h', RA (hk := hk) (n + 6) 109 (.pointer (some ⟨I.A, 0, none⟩) :: args) h = some (v, h') ∧ x' = x ∧ Keep h.tbl h.next h'.tbl h'.next := by
  unfold bytesS at hs
  split at hs
  · rename_i a k
    have hno : ∀ a k : Int, checkA x.pages a k ≠ 0 → ∃ h', RA (hk := hk) (n + 6) 109 [.pointer (some ⟨I.A, 0, none⟩), .int .i64 a, .int .i64 k] h = some (.tuple ⟨[.string ⟨⟨[]⟩⟩, errV 3]⟩, h') ∧ Keep h.tbl h.next h'.tbl h'.next := by
      intro a k hc
      obtain ⟨v, h', h1, rfl, h3⟩ := bytes_no (n := n + 2) H (by omega) hA hc
      have : checkA x.pages a k = 3 := (checkA_vals _ _ _).resolve_left hc
      rw [this] at h1
      exact ⟨h', h1, h3⟩
    split at hs
    · rename_i a' k'
      split at hs
      · rename_i hc
        simp only [Option.some.injEq, Prod.mk.injEq] at hs
        obtain ⟨rfl, rfl⟩ := hs
        obtain ⟨v, h', h1, rfl, h3⟩ := bytes_run H hn hA hc
        exact ⟨h', h1, rfl, h3⟩
      · rename_i m hc
        simp only [Option.some.injEq, Prod.mk.injEq] at hs
        obtain ⟨rfl, rfl⟩ := hs
        obtain ⟨h', h1, h3⟩ := hno (.ofNat a') (.ofNat k') (by show checkN x.pages a' k' ≠ 0; rw [hc]; exact Nat.succ_ne_zero _)
        exact ⟨h', h1, rfl, h3⟩
    · rename_i hne
      simp only [Option.some.injEq, Prod.mk.injEq] at hs
      obtain ⟨rfl, rfl⟩ := hs
      obtain ⟨h', h1, h3⟩ := hno a k (by
        cases a with
        | negSucc a => exact fun h => by cases h
        | ofNat a => cases k with
          | negSucc k => exact fun h => by cases h
          | ofNat k => exact (hne _ _ rfl rfl).elim)
      exact ⟨h', h1, rfl, h3⟩
  · cases hs

theorem put_m {n : Nat} {x x' : Ar} {I : ArIds} {args : List Value} {v : Value} {h : Hp Empty} (H : HkA hk) (hn : 4294967297 ≤ n) (hA : ArH h x I) (hs : putS x args = some (v, x')) :
    ∃ h', RA (hk := hk) (n + 4) 129 (.pointer (some ⟨I.A, 0, none⟩) :: args) h = some (v, h') ∧ ArH h' x' I := by
  unfold putS at hs
  split at hs
  · rename_i a s
    obtain ⟨⟨s⟩⟩ := s
    have hno : ∀ a : Int, checkA x.pages a (Int.ofNat s.length) ≠ 0 → ∃ h', RA (hk := hk) (n + 4) 129 [.pointer (some ⟨I.A, 0, none⟩), .int .i64 a, .string ⟨⟨s⟩⟩] h = some (errV 3, h') ∧ ArH h' x I := by
      intro a hc
      obtain ⟨v, h', h1, rfl, h3⟩ := put_no (n := n) H (by omega) hA hc
      have : checkA x.pages a (Int.ofNat s.length) = 3 := (checkA_vals _ _ _).resolve_left hc
      rw [this] at h1
      exact ⟨h', h1, h3⟩
    split at hs
    · rename_i a'
      split at hs
      · rename_i hc
        simp only [Option.some.injEq, Prod.mk.injEq] at hs
        obtain ⟨rfl, rfl⟩ := hs
        obtain ⟨v, h', h1, rfl, h3⟩ := put_run H hn hA hc
        exact ⟨h', h1, h3⟩
      · rename_i m hc
        simp only [Option.some.injEq, Prod.mk.injEq] at hs
        obtain ⟨rfl, rfl⟩ := hs
        exact hno (.ofNat a') (by
          show checkN x.pages a' s.length ≠ 0
          have hc' : checkN x.pages a' s.length = m.succ := hc
          rw [hc']; exact Nat.succ_ne_zero _)
    · rename_i hne
      simp only [Option.some.injEq, Prod.mk.injEq] at hs
      obtain ⟨rfl, rfl⟩ := hs
      exact hno a (by
        cases a with
        | negSucc a => exact fun h => by cases h
        | ofNat a => exact (hne _ rfl).elim)
  · cases hs

theorem fill_m {n : Nat} {x x' : Ar} {I : ArIds} {args : List Value} {v : Value} {h : Hp Empty} (H : HkA hk) (hn : 4294967297 ≤ n) (hA : ArH h x I) (hs : fillS x args = some (v, x')) :
    ∃ h', RA (hk := hk) (n + 4) 117 (.pointer (some ⟨I.A, 0, none⟩) :: args) h = some (v, h') ∧ ArH h' x' I := by
  unfold fillS at hs
  split at hs
  · rename_i a k b
    cases hb : Nat.blt b 256 with
    | false => rw [hb] at hs; cases hs
    | true =>
      rw [hb, cond_true] at hs
      have hb' : b < 256 := by rw [blt_iff] at hb; exact of_decide_eq_true hb
      have hno : ∀ a k : Int, checkA x.pages a k ≠ 0 → ∃ h', RA (hk := hk) (n + 4) 117 [.pointer (some ⟨I.A, 0, none⟩), .int .i64 a, .int .i64 k, .int .u8 (Int.ofNat b)] h = some (errV 3, h') ∧ ArH h' x I := by
        intro a k hc
        obtain ⟨v, h', h1, rfl, h3⟩ := fill_no (n := n) (b := .int .u8 (Int.ofNat b)) H (by omega) hA rfl hc
        have : checkA x.pages a k = 3 := (checkA_vals _ _ _).resolve_left hc
        rw [this] at h1
        exact ⟨h', h1, h3⟩
      split at hs
      · rename_i a' k'
        split at hs
        · rename_i hc
          simp only [Option.some.injEq, Prod.mk.injEq] at hs
          obtain ⟨rfl, rfl⟩ := hs
          obtain ⟨v, h', h1, rfl, h3⟩ := fill_run H hn hb' hA hc
          exact ⟨h', h1, h3⟩
        · rename_i m hc
          simp only [Option.some.injEq, Prod.mk.injEq] at hs
          obtain ⟨rfl, rfl⟩ := hs
          exact hno (.ofNat a') (.ofNat k') (by show checkN x.pages a' k' ≠ 0; rw [hc]; exact Nat.succ_ne_zero _)
      · rename_i hne
        simp only [Option.some.injEq, Prod.mk.injEq] at hs
        obtain ⟨rfl, rfl⟩ := hs
        exact hno a k (by
          cases a with
          | negSucc a => exact fun h => by cases h
          | ofNat a => cases k with
            | negSucc k => exact fun h => by cases h
            | ofNat k => exact (hne _ _ rfl rfl).elim)
  · cases hs

/-! ### Copy -/
theorem copy_m {n : Nat} {x x' : Ar} {I : ArIds} {args : List Value} {v : Value} {h : Hp Empty} (H : HkB hk) (hn : 4294967297 ≤ n) (hA : ArH h x I) (hs : copyS x args = some (v, x')) :
    ∃ h', RA (hk := hk) (n + 7) 211 (.pointer (some ⟨I.A, 0, none⟩) :: args) h = some (v, h') ∧ ArH h' x' I := by
  unfold copyS at hs
  split at hs
  · rename_i to fr k
    split at hs
    · rename_i s e x2 hb
      have hx2 : ∃ h2, RA (hk := hk) (n + 6) 109 [.pointer (some ⟨I.A, 0, none⟩), .int .i64 fr, .int .i64 k] h = some (.tuple ⟨[.string s, .int .i64 (.ofNat e)]⟩, h2) ∧ x2 = x ∧ Keep h.tbl h.next h2.tbl h2.next := bytes_m H hn hA hb
      obtain ⟨h2, h1, rfl, k2⟩ := hx2
      have hA2 := hA.keep k2
      suffices hsuf : ∃ w h', RA (hk := hk) (n + 7) 211 [.pointer (some ⟨I.A, 0, none⟩), .int .i64 to, .int .i64 fr, .int .i64 k] h = some (w, h') ∧ (w = v ∧ ArH h' x' I) by
        obtain ⟨w, h', q1, rfl, q2⟩ := hsuf
        exact ⟨h', q1, q2⟩
      refine run_fn (H.none 211 (by decide)) f211 (by simp [i211]) ?_
      dsimp only [i211, argsE]
      refine WC.seq (WC.ops (WO.mv rfl (WO.nil (thenC_norm (WC.seq (WC.ops ?_))))))
      refine WO.mv rfl (WO.mv rfl (WO.mv rfl (WO.fcall rfl rfl h1 ?_)))
      refine WO.mv rfl (WO.pure rfl (WO.pure rfl (WO.mv rfl (WO.mv rfl (WO.nil (thenC_norm (WC.seq (WC.seq (WC.ops ?_)))))))))
      refine WO.mv rfl (WO.neqS rfl rfl (fun hne => ?_) (fun he => ?_))
      · have he0 : Nat.beq e 0 = false := by
          rw [← Bool.not_eq_true, Nat.beq_eq]
          intro h; subst h; exact hne rfl
        rw [he0, cond_false] at hs
        simp only [Option.some.injEq, Prod.mk.injEq] at hs
        obtain ⟨rfl, rfl⟩ := hs
        refine WO.nil (thenC_norm (WC.cond_true rfl (WC.seq (WC.ops (WO.mv rfl (WO.mv rfl (WO.nil (thenC_norm (WC.ret ?_)))))))))
        exact ⟨_, _, rfl, rfl, rfl, hA2⟩
      · have he0 : e = 0 := Int.ofNat.inj he
        subst he0
        have hs' : putS x2 [.int .i64 to, .string s] = some (v, x') := hs
        obtain ⟨h3, h4, h5⟩ := put_m (n := n + 2) H.toHkA (by omega) hA2 hs'
        refine WO.nil (thenC_norm (WC.cond_false rfl (WC.skip (thenC_norm (WC.seq (WC.ops ?_))))))
        refine WO.mv rfl (WO.mv rfl (WO.mv rfl (WO.fcall rfl rfl h4 (WO.mv rfl (WO.nil (thenC_norm (WC.ret ?_)))))))
        exact ⟨_, _, rfl, rfl, rfl, h5⟩
    · cases hs
  · cases hs
theorem cap_m {n : Nat} {x x' : Ar} {I : ArIds} {args : List Value} {v : Value} {h : Hp Empty} (H : HkA hk) (hA : ArH h x I) (hs : capS x args = some (v, x')) :
    ∃ h', RA (hk := hk) (n + 1) 249 (.pointer (some ⟨I.A, 0, none⟩) :: args) h = some (v, h') ∧ ArH h' x' I := by
  unfold capS at hs
  split at hs
  · simp only [Option.some.injEq, Prod.mk.injEq] at hs
    obtain ⟨rfl, rfl⟩ := hs
    have htop : look I.A h.tbl = some (.cells (topCells x I)) := hA.at_.top
    suffices hsuf : ∃ w h', RA (hk := hk) (n + 1) 249 [.pointer (some ⟨I.A, 0, none⟩)] h = some (w, h') ∧ (w = .int .i64 (Int.ofNat x.pages.length) ∧ ArH h' x I) by
      obtain ⟨w, h', q1, rfl, q2⟩ := hsuf
      exact ⟨h', q1, q2⟩
    refine run_fn (H.none 249 (by decide)) f249 (by simp [i249]) ?_
    dsimp only [i249, argsE]
    refine WC.seq (WC.ops (WO.mv rfl (WO.nil (thenC_norm (WC.seq (WC.seq (WC.ops (WO.mv rfl (WO.pure rfl (WO.nil (thenC_norm (WC.cond_false rfl (WC.skip (thenC_norm (WC.seq (WC.ops ?_))))))))))))))))
    refine WO.mv rfl (WO.nilck rfl (WO.fadd rfl (WO.load rfl htop rfl rfl rfl (WO.len rfl (WO.mv rfl (WO.nil (thenC_norm (WC.ret ?_))))))))
    exact ⟨_, _, rfl, rfl, rfl, hA⟩
  · cases hs
end Go.AI
/- What the arena's functions do upon its parts: Load, Store. -/
namespace Go.AI
open Go.Proofs
variable {hk : Hook Empty}

/-! ### Numbers and their bytes -/
theorem numOf_snoc : ∀ (s : List UInt8) (b : UInt8), numOf (s ++ [b]) = numOf s + b.toNat * 2 ^ (8 * s.length)
  | [], b => by
    show b.toNat + 256 * 0 = 0 + b.toNat * 2 ^ (8 * 0)
    omega
  | a :: r, b => by
    have ih := numOf_snoc r b
    show a.toNat + 256 * numOf (r ++ [b]) = a.toNat + 256 * numOf r + b.toNat * 2 ^ (8 * (r.length + 1))
    rw [ih, show 8 * (r.length + 1) = 8 * r.length + 8 by omega, Nat.pow_add]
    rw [Nat.mul_add, show b.toNat * (2 ^ (8 * r.length) * 2 ^ 8) = 256 * (b.toNat * 2 ^ (8 * r.length)) by rw [show (2 : Nat) ^ 8 = 256 from rfl, ← Nat.mul_assoc, Nat.mul_comm]]
    omega
theorem num_or {s : List UInt8} {i : Nat} {b : UInt8} (hi : s[i]? = some b) (h8 : i < 8) : (numOf (s.take i) ||| b.toNat * 2 ^ (8 * i) % 18446744073709551616) = numOf (s.take (i + 1)) := by
  have hl : i < s.length := by
    rcases Nat.lt_or_ge i s.length with h | h
    · exact h
    · rw [List.getElem?_eq_none h] at hi; cases hi
  have hlt : (s.take i).length = i := by rw [List.length_take]; omega
  have ht : s.take (i + 1) = s.take i ++ [b] := by
    rw [List.take_add_one, hi]; rfl
  rw [ht, numOf_snoc, hlt]
  have hn := numOf_lt (s.take i)
  rw [hlt] at hn
  have hb := b.toNat_lt
  have hp : (2 : Nat) ^ (8 * i) * 256 ≤ 18446744073709551616 := by
    have : (2 : Nat) ^ (8 * i) * 256 = 2 ^ (8 * i + 8) := by rw [Nat.pow_add]
    rw [this]
    exact Nat.pow_le_pow_right (by decide) (show 8 * i + 8 ≤ 64 by omega)
  have hm : b.toNat * 2 ^ (8 * i) % 18446744073709551616 = b.toNat * 2 ^ (8 * i) := by
    refine Nat.mod_eq_of_lt (Nat.lt_of_lt_of_le ?_ hp)
    rw [Nat.mul_comm]
    exact Nat.mul_lt_mul_of_pos_left hb (Nat.two_pow_pos _)
  rw [hm, Nat.or_comm, Nat.mul_comm b.toNat, ← Nat.two_pow_add_eq_or_of_lt hn]
  omega
theorem num_seg (P : Nat) : ∀ (k off : Nat), numOf (segBytes P off k) = P / 2 ^ (8 * off) % 256 ^ k
  | 0, off => by show 0 = _; rw [Nat.pow_zero, Nat.mod_one]
  | k + 1, off => by
    have hv : (UInt8.ofNat (byteN P off)).toNat = byteN P off := by
      rw [UInt8.toNat_ofNat']
      exact Nat.mod_eq_of_lt (byteN_lt P off)
    have hb : byteN P off = P / 2 ^ (8 * off) % 256 := by
      show (P >>> (8 * off)) &&& 255 = _
      rw [Nat.shiftRight_eq_div_pow, show (255 : Nat) = 2 ^ 8 - 1 from rfl, Nat.and_two_pow_sub_one_eq_mod]
    show (UInt8.ofNat (byteN P off)).toNat + 256 * numOf (segBytes P (off + 1) k) = _
    rw [hv, hb, num_seg P k (off + 1), Nat.pow_succ, Nat.mul_comm (256 ^ k) 256, Nat.mod_mul, show 8 * (off + 1) = 8 * off + 8 by omega, Nat.pow_add, ← Nat.div_div_eq_div_mul]
theorem num_bytes : ∀ (k x : Nat), numOf (numBytes x k) = x % 256 ^ k
  | 0, x => by show 0 = _; rw [Nat.pow_zero, Nat.mod_one]
  | k + 1, x => by
    have hv : (UInt8.ofNat (x % 256)).toNat = x % 256 := by
      rw [UInt8.toNat_ofNat']
      exact Nat.mod_eq_of_lt (Nat.mod_lt _ (by decide))
    show (UInt8.ofNat (x % 256)).toNat + 256 * numOf (numBytes (x / 256) k) = _
    rw [hv, num_bytes k (x / 256), Nat.pow_succ, Nat.mul_comm (256 ^ k) 256, Nat.mod_mul]
theorem numBytes_len : ∀ (k x : Nat), (numBytes x k).length = k
  | 0, _ => rfl
  | k + 1, x => by simp only [numBytes, List.length_cons, numBytes_len k]
theorem numBytes_cells : ∀ (k x : Nat), byteCells (numBytes x k) = (List.range k).map fun j => Value.int .u8 (Int.ofNat (x / 2 ^ (8 * j) % 256))
  | 0, _ => rfl
  | k + 1, x => by
    have hv : (UInt8.ofNat (x % 256)).toNat = x % 256 := by
      rw [UInt8.toNat_ofNat']
      exact Nat.mod_eq_of_lt (Nat.mod_lt _ (by decide))
    show Value.int .u8 (Int.ofNat (UInt8.ofNat (x % 256)).toNat) :: byteCells (numBytes (x / 256) k) = _
    rw [hv, numBytes_cells k (x / 256), List.range_succ_eq_map, List.map_cons, List.map_map]
    congr 1
    · rw [Nat.mul_zero, Nat.pow_zero, Nat.div_one]
    · apply List.map_congr_left
      intro j _
      show Value.int .u8 (Int.ofNat (x / 256 / 2 ^ (8 * j) % 256)) = Value.int .u8 (Int.ofNat (x / 2 ^ (8 * (j + 1)) % 256))
      rw [Nat.div_div_eq_div_mul, show 8 * (j + 1) = 8 + 8 * j by omega, Nat.pow_add]

theorem loadA_eq {l : List (Option Nat)} {a k : Nat} (hth : There l a k) (hk : 0 < k) : loadA l a k = numOf (bytesA l (fuelA k) a k) := by
  unfold loadA
  cases hb : Nat.ble (Nat.add (Nat.mod a 4096) k) 4096 with
  | false => rfl
  | true =>
    rw [Nat.ble_eq] at hb
    have hb' : a % 4096 + k ≤ 4096 := hb
    obtain ⟨P, hP⟩ := hth.2 hk _ (Nat.le_refl _) (Nat.div_le_div_right (by omega))
    have h1 : fuelA k = k / 4096 + 1 + 1 := rfl
    rw [h1, bytesA_step hk hP, Nat.min_eq_left (by omega), Nat.sub_self, bytesA_zero, List.append_nil, num_seg]
    show (match pgAt l (a / 4096) with | some P => (P >>> (8 * (a % 4096))) % 256 ^ k | none => 0) = _
    rw [hP, ← Nat.shiftRight_eq_div_pow]
theorem storeA_eq {l : List (Option Nat)} {a k x : Nat} (hth : There l a k) (hk : 0 < k) : storeA l a k x = putA (fuelA k) l a (numBytes x k) := by
  unfold storeA
  cases hb : Nat.ble (Nat.add (Nat.mod a 4096) k) 4096 with
  | false => rfl
  | true =>
    rw [Nat.ble_eq] at hb
    have hb' : a % 4096 + k ≤ 4096 := hb
    obtain ⟨P, hP⟩ := hth.2 hk _ (Nat.le_refl _) (Nat.div_le_div_right (by omega))
    have h1 : fuelA k = k / 4096 + 1 + 1 := rfl
    have hl := numBytes_len k x
    have ht : (numBytes x k).take k = numBytes x k := by rw [← hl, hl, List.take_of_length_le (by omega)]
    have hd : (numBytes x k).drop k = [] := List.drop_eq_nil_of_le (by omega)
    rw [h1, putA_step (by omega) hP, hl, Nat.min_eq_left (by omega), ht, hd, putA_nil, num_bytes]
    show (match pgAt l (a / 4096) with | some P => setPg l (a / 4096) (some (setBytes P (a % 4096) k (x % 256 ^ k))) | none => l) = _
    rw [hP]

/-! ### Load -/
theorem WO.idxS {X : Type} {call : CallFn X} {env : List (Nat × Value)} {m : Mem X} {K : List (Nat × Value) → Mem X → Prop} {l : List (Option (Nat × Bool) × IOp)} {d : Nat} {x i : Opd} {s : List UInt8} {j : IntKind} {n : Nat} {b : UInt8} (hx : evo env x = some (.string ⟨⟨s⟩⟩)) (hi : evo env i = some (.int j (Int.ofNat n))) (hb : s[n]? = some b)
    (k : WO call l ((d, .int .u8 (Int.ofNat b.toNat)) :: env) m K) : WO call ((none, .pure d (.idxS x i)) :: l) env m K := by
  refine .pure ?_ k
  have key : ∀ (s : List UInt8) (n : Nat), bytesAt s n = s[n]? := by
    intro s
    induction s with
    | nil => intro n; simp [bytesAt]
    | cons a r ih => intro n; cases n with
      | zero => rfl
      | succ n => rw [List.getElem?_cons_succ]; exact ih n
  have h1 : bytesAt s n = some b := by rw [key]; exact hb
  simp only [peval, hx, hi, natOf, h1]
  rfl
theorem WO.convU {X : Type} {call : CallFn X} {env : List (Nat × Value)} {m : Mem X} {K : List (Nat × Value) → Mem X → Prop} {l : List (Option (Nat × Bool) × IOp)} {d : Nat} {x : Opd} {j : IntKind} {n : Nat} (hx : evo env x = some (.int j (Int.ofNat n))) (hn : n < 18446744073709551616)
    (k : WO call l ((d, .int .u64 (Int.ofNat n)) :: env) m K) : WO call ((none, .pure d (.conv .u64 x)) :: l) env m K := by
  refine .pure ?_ k
  simp only [peval, hx, wrapU_lt hn]
theorem WO.convB {X : Type} {call : CallFn X} {env : List (Nat × Value)} {m : Mem X} {K : List (Nat × Value) → Mem X → Prop} {l : List (Option (Nat × Bool) × IOp)} {d : Nat} {x : Opd} {j : IntKind} {n : Nat} (hx : evo env x = some (.int j (Int.ofNat n)))
    (k : WO call l ((d, .int .u8 (Int.ofNat (n % 256))) :: env) m K) : WO call ((none, .pure d (.conv .u8 x)) :: l) env m K := by
  refine .pure ?_ k
  have h : wrapF .u8 (Int.ofNat n) = Int.ofNat (n % 256) := by
    show (bif Nat.blt n 128 then Int.ofNat n else Int.ofNat (n % 256)) = _
    cases hb : Nat.blt n 128 with
    | true =>
      rw [blt_iff] at hb
      have := of_decide_eq_true hb
      rw [Nat.mod_eq_of_lt (by omega)]; rfl
    | false => rfl
  simp only [peval, hx, h]

def loadP (x : Ar) (a k : Int) : Nat × Nat := match k with
  | .negSucc _ => (0, 2)
  | .ofNat n => bif wholeN n then (match a with
    | .ofNat a => (match checkN x.pages a n with | 0 => (loadA x.pages a n, 0) | Nat.succ _ => (0, 3))
    | .negSucc _ => (0, 3)) else (0, 2)
theorem wholeN_iff (n : Nat) : wholeN n = true ↔ (n = 1 ∨ n = 2 ∨ n = 4 ∨ n = 8) := by
  unfold wholeN
  simp only [Bool.or_eq_true, Nat.beq_eq]
  omega

set_option maxHeartbeats 1000000 in
theorem load_run {n : Nat} {x : Ar} {I : ArIds} {a k : Int} {h : Hp Empty} (H : HkB hk) (hn : 4294967297 ≤ n) (hA : ArH h x I) :
    ∃ v h', RA (hk := hk) (n + 7) 238 [.pointer (some ⟨I.A, 0, none⟩), .int .i64 a, .int .i64 k] h = some (v, h') ∧ (v = .tuple ⟨[.int .u64 (Int.ofNat (loadP x a k).1), errV (loadP x a k).2]⟩ ∧ Keep h.tbl h.next h'.tbl h'.next) := by
  have k0 := Keep.refl hA.fresh
  refine run_fn (H.none 238 (by decide)) f238 (by simp [i238]) ?_
  dsimp only [i238, argsE]
  refine WC.seq (WC.ops (WO.mv rfl (WO.mv rfl (WO.nil (thenC_norm (WC.seq (WC.block (WC.seq (WC.ops ?_)))))))))
  refine WO.mv rfl (WO.pure rfl (WO.mv rfl (WO.nil (thenC_norm (WC.cond_false rfl (WC.seq (WC.ops ?_)))))))
  refine WO.mv rfl (WO.fcall_ex rfl rfl (whole_run (n := n + 5) (x := k) (h := h) (H.none 296 (by decide))) ?_)
  rintro v2 h2 ⟨rfl, rfl⟩
  refine WO.not rfl ?_
  refine WO.split (fun hw => ?_) (fun hw => ?_)
  · -- no whole number
    have hp : loadP x a k = (0, 2) := by
      unfold loadP
      cases k with
      | negSucc k => rfl
      | ofNat k =>
        have : wholeN k = false := by
          rw [← Bool.not_eq_true, wholeN_iff]
          intro h; apply hw
          simp only [Int.ofNat_eq_natCast]; omega
        simp only [this, cond_false]
    rw [hp]
    refine WO.mv rfl (WO.nil (thenC_norm (WC.cond_true rfl (WC.seq (WC.ops (WO.mv rfl (WO.mv rfl (WO.nil (thenC_norm (WC.ret ?_))))))))))
    exact ⟨_, _, rfl, rfl, rfl, k0⟩
  · have hw := Decidable.byContradiction hw
    obtain ⟨k', rfl⟩ : ∃ k' : Nat, k = Int.ofNat k' := ⟨k.toNat, by simp only [Int.ofNat_eq_natCast]; omega⟩
    have hw' : k' = 1 ∨ k' = 2 ∨ k' = 4 ∨ k' = 8 := by simp only [Int.ofNat_eq_natCast] at hw; omega
    have hwN : wholeN k' = true := (wholeN_iff _).2 hw'
    refine WO.mv rfl (WO.nil (thenC_norm (WC.cond_false rfl (WC.skip (blockC_norm (thenC_norm (WC.seq (WC.ops ?_))))))))
    obtain ⟨w, x', hbs⟩ : ∃ w x', bytesS x [.int .i64 a, .int .i64 (Int.ofNat k')] = some (w, x') := by
      unfold bytesS
      dsimp only
      split
      · split <;> exact ⟨_, _, rfl⟩
      · exact ⟨_, _, rfl⟩
    obtain ⟨h3, hb3, rfl, k3⟩ := bytes_m (n := n) H hn hA hbs
    -- what the bytes are
    have hw3 : (∃ a' : Nat, a = Int.ofNat a' ∧ checkN x'.pages a' k' = 0 ∧ w = .tuple ⟨[.string ⟨⟨bytesA x'.pages (fuelA k') a' k'⟩⟩, errV 0]⟩) ∨ (w = .tuple ⟨[.string ⟨⟨[]⟩⟩, errV 3]⟩ ∧ loadP x' a (Int.ofNat k') = (0, 3)) := by
      unfold bytesS at hbs
      dsimp only at hbs
      split at hbs
      · rename_i a' k2 e2
        injection e2 with e2
        subst e2
        split at hbs
        · rename_i hc
          simp only [Option.some.injEq, Prod.mk.injEq] at hbs
          exact .inl ⟨a', rfl, hc, hbs.1.symm⟩
        · rename_i m hc
          simp only [Option.some.injEq, Prod.mk.injEq] at hbs
          refine .inr ⟨hbs.1.symm, ?_⟩
          simp only [loadP, hwN, cond_true, hc]
      · rename_i y1 y2 y3 hne
        simp only [Option.some.injEq, Prod.mk.injEq] at hbs
        refine .inr ⟨hbs.1.symm, ?_⟩
        cases y1 with
        | negSucc a => simp only [loadP, hwN, cond_true]
        | ofNat a => exact (hne _ _ rfl rfl).elim
    refine WO.mv rfl (WO.mv rfl (WO.mv rfl (WO.fcall rfl rfl hb3 ?_)))
    rcases hw3 with ⟨a', rfl, hc, rfl⟩ | ⟨rfl, hlp⟩
    · have hth := check_there hc
      have hk0 : 0 < k' := by omega
      have hlp : loadP x' (Int.ofNat a') (Int.ofNat k') = (numOf (bytesA x'.pages (fuelA k') a' k'), 0) := by
        simp only [loadP, hwN, cond_true, hc, loadA_eq hth hk0]
      have hlen := bytesA_len (fuelA k') a' k' hth (segs_le _ _)
      rw [hlp]
      generalize bytesA x'.pages (fuelA k') a' k' = s at hlen
      refine WO.mv rfl (WO.pure rfl (WO.pure rfl (WO.mv rfl (WO.mv rfl (WO.nil (thenC_norm (WC.seq (WC.seq (WC.ops ?_)))))))))
      refine WO.mv rfl (WO.neqS rfl rfl (fun hne => (hne rfl).elim) (fun _ => ?_))
      refine WO.nil (thenC_norm (WC.cond_false rfl (WC.skip (thenC_norm (WC.seq (WC.ops (WO.mv rfl (WO.nil (thenC_norm (WC.seq (WC.seq (WC.ops ?_))))))))))))
      refine WO.mv rfl (WO.mv rfl (WO.nil (thenC_norm (WC.block ?_))))
      refine WC.loop (fun j e tbl nx => ∃ i, i + j = k' ∧ e 8 = some (.string ⟨⟨s⟩⟩) ∧ e 29 = some (.int .i64 (Int.ofNat k')) ∧ e 30 = some (.int .i64 (Int.ofNat i)) ∧ e 10 = some (.int .u64 (Int.ofNat (numOf (s.take i)))) ∧ tbl = h3.tbl ∧ nx = h3.next) (k := k') (by omega) ⟨0, by omega, rfl, rfl, rfl, rfl, rfl, rfl⟩ ?_
      rintro j e tbl nx ⟨i, hij, e8, e29, e30, e10, rfl, rfl⟩
      refine WC.seq (WC.ops (WO.lssS e30 e29 (fun hlt => ?_) (fun hlt => ?_)))
      · simp only [Int.ofNat_eq_natCast] at hlt
        have hi : i < s.length := by omega
        have hb8 := (s[i]).toNat_lt
        have hnt := numOf_lt (s.take i)
        have hnt2 : numOf (s.take i) < 18446744073709551616 := by
          refine Nat.lt_of_lt_of_le hnt ?_
          rw [List.length_take, Nat.min_eq_left (by omega)]
          exact Nat.pow_le_pow_right (by decide) (show 8 * i ≤ 64 by omega)
        refine WO.nil (thenC_norm (WC.seq (WC.cond_true rfl (WC.skip (thenC_norm (WC.seq (WC.block (WC.seq (WC.ops ?_)))))))))
        refine WO.mv e30 (WO.mv rfl (WO.nil (thenC_norm (WC.ops ?_))))
        refine WO.mv e10 (WO.mv e8 (WO.mv rfl (WO.idxS rfl rfl (List.getElem?_eq_getElem hi) (WO.convU rfl (by omega) (WO.mv rfl (WO.mulI rfl rfl (by omega) ?_))))))
        refine WO.shlU rfl rfl (by omega) (WO.orU rfl rfl hnt2 (Nat.mod_lt _ (by decide)) ?_)
        rw [num_or (List.getElem?_eq_getElem hi) (by omega)]
        refine WO.mv rfl (WO.nil (blockC_norm (thenC_norm (WC.ops ?_))))
        refine WO.add e30 rfl (by simp only [Int.ofNat_eq_natCast]; omega) (by simp only [Int.ofNat_eq_natCast]; omega) (WO.as (b := Int.ofNat (i + 1)) (by simp only [Int.ofNat_eq_natCast]; omega) (WO.mv rfl (WO.nil ?_)))
        exact ⟨j - 1, by omega, rfl, i + 1, by omega, e8, e29, rfl, rfl, rfl, rfl⟩
      · simp only [Int.ofNat_eq_natCast] at hlt
        have hi : i = k' := by omega
        subst hi
        have hts : s.take i = s := by rw [← hlen, List.take_length]
        rw [hts] at e10
        refine WO.nil (thenC_norm (WC.seq (WC.cond_false rfl (WC.exit (thenC_exit (blockC_exit (thenC_norm (WC.seq (WC.ops ?_)))))))))
        refine WO.mv e10 (WO.mv rfl (WO.mv rfl (WO.nil (thenC_norm (WC.ret ?_)))))
        exact ⟨_, _, rfl, rfl, rfl, k3⟩
    · rw [hlp]
      refine WO.mv rfl (WO.pure rfl (WO.pure rfl (WO.mv rfl (WO.mv rfl (WO.nil (thenC_norm (WC.seq (WC.seq (WC.ops ?_)))))))))
      refine WO.mv rfl (WO.neqS rfl rfl (fun _ => ?_) (fun he => by cases he))
      refine WO.nil (thenC_norm (WC.cond_true rfl (WC.seq (WC.ops (WO.mv rfl (WO.mv rfl (WO.mv rfl (WO.nil (thenC_norm (WC.ret ?_))))))))))
      exact ⟨_, _, rfl, rfl, rfl, k3⟩
theorem load_m {n : Nat} {x x' : Ar} {I : ArIds} {args : List Value} {v : Value} {h : Hp Empty} (H : HkB hk) (hn : 4294967297 ≤ n) (hA : ArH h x I) (hs : loadS x args = some (v, x')) :
    ∃ h', RA (hk := hk) (n + 7) 238 (.pointer (some ⟨I.A, 0, none⟩) :: args) h = some (v, h') ∧ ArH h' x' I := by
  unfold loadS at hs
  split at hs
  · rename_i a k
    obtain ⟨w, h', h1, rfl, h3⟩ := load_run (n := n) (a := a) (k := k) H hn hA
    have hq : some (Value.tuple ⟨[.int .u64 (Int.ofNat (loadP x a k).1), errV (loadP x a k).2]⟩, x) = some (v, x') := by
      rw [← hs]
      unfold loadP
      cases k with
      | negSucc k => rfl
      | ofNat k =>
        dsimp only
        cases wholeN k with
        | false => rfl
        | true =>
          cases a with
          | negSucc a => rfl
          | ofNat a =>
            dsimp only [cond_true]
            cases checkN x.pages a k <;> rfl
    simp only [Option.some.injEq, Prod.mk.injEq] at hq
    obtain ⟨rfl, rfl⟩ := hq
    exact ⟨h', h1, hA.keep h3⟩
  · cases hs

/-! ### Store -/
def arr8 (x i : Nat) : List Value := (List.range 8).map fun j => if j < i then Value.int .u8 (Int.ofNat (x / 2 ^ (8 * j) % 256)) else .int .u8 (Int.ofNat 0)
theorem arr8_step (x : Nat) {i : Nat} (h : i < 8) : splice (arr8 x i) i [.int .u8 (Int.ofNat (x / 2 ^ (8 * i) % 256))] = arr8 x (i + 1) := by
  match i, h with
  | 0, _ => rfl
  | 1, _ => rfl
  | 2, _ => rfl
  | 3, _ => rfl
  | 4, _ => rfl
  | 5, _ => rfl
  | 6, _ => rfl
  | 7, _ => rfl
theorem arr8_take (x : Nat) {k : Nat} (h : k = 1 ∨ k = 2 ∨ k = 4 ∨ k = 8) : takeN (arr8 x 8) 0 k = some (byteCells (numBytes x k)) := by
  rw [numBytes_cells]
  rcases h with rfl | rfl | rfl | rfl <;> rfl

set_option maxHeartbeats 1000000 in
theorem store_m {n : Nat} {x x' : Ar} {I : ArIds} {args : List Value} {v : Value} {h : Hp Empty} (H : HkB hk) (hn : 4294967297 ≤ n) (hA : ArH h x I) (hs : storeS x args = some (v, x')) :
    ∃ h', RA (hk := hk) (n + 7) 269 (.pointer (some ⟨I.A, 0, none⟩) :: args) h = some (v, h') ∧ ArH h' x' I := by
  unfold storeS at hs
  split at hs
  · rename_i a k y
    cases hy : Nat.blt y 18446744073709551616 with
    | false => rw [hy] at hs; cases hs
    | true =>
      rw [hy, cond_true] at hs
      have hy' : y < 18446744073709551616 := by rw [blt_iff] at hy; exact of_decide_eq_true hy
      suffices hsuf : ∃ w h', RA (hk := hk) (n + 7) 269 [.pointer (some ⟨I.A, 0, none⟩), .int .i64 a, .int .i64 k, .int .u64 (.ofNat y)] h = some (w, h') ∧ (w = v ∧ ArH h' x' I) by
        obtain ⟨w, h', q1, rfl, q2⟩ := hsuf
        exact ⟨h', q1, q2⟩
      refine run_fn (H.none 269 (by decide)) f269 (by simp [i269]) ?_
      dsimp only [i269, argsE]
      refine WC.seq (WC.ops (WO.mv rfl (WO.nil (thenC_norm (WC.seq (WC.block (WC.seq (WC.ops ?_))))))))
      refine WO.mv rfl (WO.pure rfl (WO.mv rfl (WO.nil (thenC_norm (WC.cond_false rfl (WC.seq (WC.ops ?_)))))))
      refine WO.mv rfl (WO.fcall_ex rfl rfl (whole_run (n := n + 5) (x := k) (h := h) (H.none 296 (by decide))) ?_)
      rintro v2 h2 ⟨rfl, rfl⟩
      refine WO.not rfl ?_
      refine WO.split (fun hw => ?_) (fun hw => ?_)
      · have hq : some (errV 2, x) = some (v, x') := by
          rw [← hs]
          cases k with
          | negSucc k => rfl
          | ofNat k =>
            have : wholeN k = false := by
              rw [← Bool.not_eq_true, wholeN_iff]
              intro h; apply hw
              simp only [Int.ofNat_eq_natCast]; omega
            simp only [this, cond_false]
        simp only [Option.some.injEq, Prod.mk.injEq] at hq
        obtain ⟨rfl, rfl⟩ := hq
        refine WO.mv rfl (WO.nil (thenC_norm (WC.cond_true rfl (WC.seq (WC.ops (WO.mv rfl (WO.nil (thenC_norm (WC.ret ?_)))))))))
        exact ⟨_, _, rfl, rfl, rfl, hA⟩
      · have hw := Decidable.byContradiction hw
        obtain ⟨k', rfl⟩ : ∃ k' : Nat, k = Int.ofNat k' := ⟨k.toNat, by simp only [Int.ofNat_eq_natCast]; omega⟩
        have hw' : k' = 1 ∨ k' = 2 ∨ k' = 4 ∨ k' = 8 := by simp only [Int.ofNat_eq_natCast] at hw; omega
        have hwN : wholeN k' = true := (wholeN_iff _).2 hw'
        have hk0 : 0 < k' := by omega
        refine WO.mv rfl (WO.nil (thenC_norm (WC.cond_false rfl (WC.skip (blockC_norm (thenC_norm (WC.seq (WC.ops (WO.new (WO.nil (thenC_norm (WC.seq (WC.seq (WC.ops ?_))))))))))))))
        have k1 := Keep.new hA.fresh (.cells (arr8 y 0))
        have hpS : putS x [.int .i64 a, .string ⟨⟨numBytes y k'⟩⟩] = some (v, x') := by
          rw [← hs]
          unfold putS
          dsimp only
          rw [hwN, cond_true]
          have hl : (numBytes y k').length = k' := numBytes_len _ _
          cases a with
          | negSucc a => rfl
          | ofNat a =>
            dsimp only
            rw [hl]
            cases hc : checkN x.pages a k' with
            | zero => dsimp only; rw [storeA_eq (check_there hc) hk0]
            | succ m => rfl
        refine WO.mv rfl (WO.nil (thenC_norm (WC.block ?_)))
        refine WC.loop (fun j e tbl nx => ∃ i, i + j = 8 ∧ e 0 = some (.pointer (some ⟨I.A, 0, none⟩)) ∧ e 1 = some (.int .i64 a) ∧ e 2 = some (.int .i64 (Int.ofNat k')) ∧ e 3 = some (.int .u64 (Int.ofNat y)) ∧ e 9 = some (.pointer (some ⟨h2.next, 0, none⟩)) ∧ e 18 = some (.int .i64 (Int.ofNat i)) ∧
          look h2.next tbl = some (.cells (arr8 y i)) ∧ Keep h2.tbl h2.next tbl nx) (k := 8) (by omega) ⟨0, by omega, rfl, rfl, rfl, rfl, rfl, rfl, look_new, k1⟩ ?_
        rintro j e tbl nx ⟨i, hij, e0, e1, e2, e3, e9, e18, hcs, hkp⟩
        refine WC.seq (WC.ops (WO.lssS e18 rfl (fun hlt => ?_) (fun hlt => ?_)))
        · simp only [Int.ofNat_eq_natCast] at hlt
          have hi : i < 8 := by omega
          refine WO.nil (thenC_norm (WC.seq (WC.cond_true rfl (WC.skip (thenC_norm (WC.seq (WC.block (WC.seq (WC.ops ?_)))))))))
          refine WO.mv e18 (WO.mv rfl (WO.nil (thenC_norm (WC.ops ?_))))
          refine WO.mv rfl (WO.mv e3 (WO.mv rfl (WO.mulI rfl rfl (by omega) (WO.shrU rfl rfl (by omega) (WO.convB rfl (WO.idxA e9 rfl rfl hi ?_))))))
          refine WO.store (ob' := .cells (arr8 y (i + 1))) rfl rfl rfl rfl hcs rfl (by show 0 + i * 1 + 1 ≤ (arr8 y i).length; unfold arr8; simp; omega) (by
            show some (AObj.cells (splice (arr8 y i) (0 + i * 1) [.int .u8 (Int.ofNat (y / 2 ^ (8 * i) % 256))])) = _
            rw [Nat.mul_one, Nat.zero_add, arr8_step y hi]) ?_
          refine WO.nil (blockC_norm (thenC_norm (WC.ops ?_)))
          refine WO.add e18 rfl (by simp only [Int.ofNat_eq_natCast]; omega) (by simp only [Int.ofNat_eq_natCast]; omega) (WO.as (b := Int.ofNat (i + 1)) (by simp only [Int.ofNat_eq_natCast]; omega) (WO.mv rfl (WO.nil ?_)))
          exact ⟨j - 1, by omega, rfl, i + 1, by omega, e0, e1, e2, e3, e9, rfl, look_upd_same hcs, hkp.upd (Nat.le_refl _)⟩
        · simp only [Int.ofNat_eq_natCast] at hlt
          have hi : i = 8 := by omega
          subst hi
          have hA3 : ArH ⟨tbl, nx⟩ x I := hA.keep (h' := ⟨tbl, nx⟩) hkp
          obtain ⟨h5, q1, q2⟩ := put_m (n := n + 2) H.toHkA (by omega) hA3 hpS
          refine WO.nil (thenC_norm (WC.seq (WC.cond_false rfl (WC.exit (thenC_exit (blockC_exit (thenC_norm (WC.seq (WC.ops ?_)))))))))
          refine WO.mv e0 (WO.mv e1 (WO.mv e2 (WO.slAHi e9 rfl rfl (by omega) (by decide) ?_)))
          refine WO.step (i := .b2s 33 (.t 32)) (v := .string ⟨⟨numBytes y k'⟩⟩) (m' := ⟨[], tbl, nx⟩) ?_ ?_
          · have h6 : (⟨[], tbl, nx⟩ : Mem Empty).loads (some ⟨h2.next, 0 + 0 * 1, some 1⟩) (k' - 0) = some (byteCells (numBytes y k')) := mem_loads hcs rfl (arr8_take y hw') (by omega)
            exact estep_b2s rfl h6 (cellBytes_of _)
          refine WO.fcall rfl rfl q1 (WO.mv rfl (WO.nil (thenC_norm (WC.ret ?_))))
          exact ⟨_, _, rfl, rfl, rfl, q2⟩
  · cases hs
end Go.AI
