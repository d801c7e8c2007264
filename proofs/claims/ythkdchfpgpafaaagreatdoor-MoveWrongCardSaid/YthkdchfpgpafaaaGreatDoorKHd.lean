/- Functions in the evaluator's form: printed by a program, held against the program by the kernel. -/
import Derived.Test.YthkdchfpgpafaaaGreatDoorIfn
import Derived.Test.YthkdchfpgpafaaaGreatDoorKV
namespace Go.AI
def iHGet:IFn:=(.mk (.seq (.ops [(none,(.box 2 true (.t 0))),(none,(.pure 4 (.mv (.c (.int .i64 (.ofNat 0)))))),(none,(.pure 5 (.mv (.c (.int .i64 (.ofNat 0))))))]) (.seq (.ops [(none,(.load 10 3 true (.t 2))),(none,(.pure 11 (.mv (.t 1)))),(none,(.call (some 12) (.c (.func (.func 141) (.mk []) (.mk []))) [(.t 10),(.t 11)])),(none,(.pure 9 (.mv (.t 12)))),(none,(.pure 13 (.ext 0 (.t 9)))),(none,(.pure 14 (.ext 1 (.t 9)))),(none,(.pure 15 (.ext 2 (.t 9)))),(none,(.pure 6 (.mv (.t 13)))),(none,(.pure 7 (.mv (.t 14)))),(none,(.pure 8 (.mv (.t 15))))]) (.seq (.ops [(none,(.pure 16 (.mv (.t 7)))),(none,(.pure 17 (.mv (.t 8)))),(none,(.pure 4 (.mv (.t 16)))),(none,(.pure 5 (.mv (.t 17))))]) .ret))) 18 [(.tmp 4),(.tmp 5)])
theorem fHGet:FA 79=some iHGet:=by kernel_rfl
def iHFind:IFn:=(.mk (.seq (.ops [(none,(.box 2 true (.t 0))),(none,(.pure 4 (.mv (.c (.int .i64 (.ofNat 0)))))),(none,(.pure 5 (.mv (.c (.int .i64 (.ofNat 0)))))),(none,(.pure 6 (.mv (.c (.int .i64 (.ofNat 0))))))]) (.seq (.seq (.ops [(none,(.pure 10 (.fadd 0 (.t 2)))),(none,(.pure 11 (.fadd 0 (.t 10)))),(none,(.load 12 1 false (.t 11))),(none,(.pure 13 (.bin .eql .ptr (.t 12) (.c (.pointer none)))))]) (.cond (.t 13) (.seq (.ops [(none,(.pure 4 (.mv (.c (.int .i64 (.ofNat 0)))))),(none,(.pure 5 (.mv (.c (.int .i64 (.ofNat 0)))))),(none,(.pure 6 (.mv (.c (.int .i64 (.ofNat 1))))))]) .ret) .skip)) (.seq (.ops [(none,(.pure 14 (.mv (.t 1)))),(none,(.pure 15 (.bin .rem .no (.t 14) (.c (.int .u64 (.ofNat 256)))))),(none,(.pure 16 (.conv .i64 (.t 15)))),(none,(.pure 7 (.mv (.t 16))))]) (.seq (.seq (.ops [(none,(.pure 17 (.mv (.t 7)))),(none,(.load 18 3 true (.t 2))),(none,(.call (some 19) (.c (.func (.func 127) (.mk []) (.mk []))) [(.t 18)])),(none,(.pure 20 (.bin .geq .no (.t 17) (.t 19))))]) (.cond (.t 20) (.seq (.ops [(none,(.pure 4 (.mv (.c (.int .i64 (.ofNat 0)))))),(none,(.pure 5 (.mv (.c (.int .i64 (.ofNat 0)))))),(none,(.pure 6 (.mv (.c (.int .i64 (.ofNat 6))))))]) .ret) .skip)) (.seq (.ops [(none,(.load 22 3 true (.t 2))),(none,(.pure 23 (.mv (.t 7)))),(none,(.call (some 24) (.c (.func (.func 128) (.mk []) (.mk []))) [(.t 22),(.t 23)])),(none,(.pure 21 (.mv (.t 24)))),(none,(.pure 25 (.ext 0 (.t 21)))),(none,(.pure 26 (.ext 1 (.t 21)))),(none,(.pure 8 (.mv (.t 25)))),(none,(.pure 9 (.mv (.t 26))))]) (.seq (.seq (.ops [(none,(.pure 27 (.mv (.t 8)))),(none,(.pure 28 (.bin .eql .no (.t 27) (.c (.int .i64 (.ofNat 0)))))),(none,(.pure 29 (.mv (.t 28)))),((some (29,false)),(.pure 30 (.mv (.t 1)))),((some (29,false)),(.pure 31 (.bin .quo .no (.t 30) (.c (.int .u64 (.ofNat 256)))))),((some (29,false)),(.pure 32 (.mv (.t 9)))),((some (29,false)),(.pure 33 (.bin .neq .no (.t 31) (.t 32)))),(none,(.pure 34 (.pick (.t 29) (.c (.bool true)) (.t 33))))]) (.cond (.t 34) (.seq (.ops [(none,(.pure 4 (.mv (.c (.int .i64 (.ofNat 0)))))),(none,(.pure 5 (.mv (.c (.int .i64 (.ofNat 0)))))),(none,(.pure 6 (.mv (.c (.int .i64 (.ofNat 6))))))]) .ret) .skip)) (.seq (.ops [(none,(.pure 35 (.mv (.t 7)))),(none,(.pure 36 (.mv (.t 8)))),(none,(.pure 4 (.mv (.t 35)))),(none,(.pure 5 (.mv (.t 36)))),(none,(.pure 6 (.mv (.c (.int .i64 (.ofNat 0))))))]) .ret))))))) 37 [(.tmp 4),(.tmp 5),(.tmp 6)])
theorem fHFind:FA 141=some iHFind:=by kernel_rfl
def iHLen:IFn:=(.mk (.seq (.ops [(none,(.box 1 true (.t 0))),(none,(.pure 2 (.mv (.c (.int .i64 (.ofNat 0))))))]) (.seq (.ops [(none,(.pure 3 (.fadd 0 (.t 1)))),(none,(.load 4 3 true (.t 3))),(none,(.call (some 5) (.c (.func (.func 123) (.mk []) (.mk []))) [(.t 4)])),(none,(.pure 6 (.bin .quo .no (.t 5) (.c (.int .i64 (.ofNat 16)))))),(none,(.pure 7 (.min [(.t 6),(.c (.int .i64 (.ofNat 256)))]))),(none,(.pure 2 (.mv (.t 7))))]) .ret)) 8 [(.tmp 2)])
theorem fHLen:FA 127=some iHLen:=by kernel_rfl
def iHget:IFn:=(.mk (.seq (.ops [(none,(.box 2 true (.t 0))),(none,(.pure 4 (.mv (.c (.int .i64 (.ofNat 0)))))),(none,(.pure 5 (.mv (.c (.int .u64 (.ofNat 0))))))]) (.seq (.ops [(none,(.pure 11 (.fadd 0 (.t 2)))),(none,(.load 12 3 true (.t 11))),(none,(.pure 13 (.mv (.t 1)))),(none,(.pure 14 (.bin .mul .no (.t 13) (.c (.int .i64 (.ofNat 16)))))),(none,(.call (some 15) (.c (.func (.func 27) (.mk []) (.mk []))) [(.t 12),(.t 14),(.c (.int .i64 (.ofNat 8)))])),(none,(.pure 10 (.mv (.t 15)))),(none,(.pure 16 (.ext 0 (.t 10)))),(none,(.pure 17 (.ext 1 (.t 10)))),(none,(.pure 6 (.mv (.t 16)))),(none,(.pure 7 (.mv (.t 17))))]) (.seq (.ops [(none,(.pure 19 (.fadd 0 (.t 2)))),(none,(.load 20 3 true (.t 19))),(none,(.pure 21 (.mv (.t 1)))),(none,(.pure 22 (.bin .mul .no (.t 21) (.c (.int .i64 (.ofNat 16)))))),(none,(.pure 23 (.bin .add .no (.t 22) (.c (.int .i64 (.ofNat 8)))))),(none,(.call (some 24) (.c (.func (.func 27) (.mk []) (.mk []))) [(.t 20),(.t 23),(.c (.int .i64 (.ofNat 8)))])),(none,(.pure 18 (.mv (.t 24)))),(none,(.pure 25 (.ext 0 (.t 18)))),(none,(.pure 26 (.ext 1 (.t 18)))),(none,(.pure 8 (.mv (.t 25)))),(none,(.pure 9 (.mv (.t 26))))]) (.seq (.ops [(none,(.pure 27 (.mv (.t 6)))),(none,(.pure 28 (.conv .i64 (.t 27)))),(none,(.pure 29 (.mv (.t 8)))),(none,(.pure 4 (.mv (.t 28)))),(none,(.pure 5 (.mv (.t 29))))]) .ret)))) 30 [(.tmp 4),(.tmp 5)])
theorem fHget:FA 128=some iHget:=by kernel_rfl
def iVSize:IFn:=(.mk (.seq (.ops [(none,(.box 1 true (.t 0))),(none,(.pure 2 (.mv (.c (.int .i64 (.ofNat 0))))))]) (.seq (.ops [(none,(.pure 3 (.fadd 2 (.t 1)))),(none,(.load 4 1 false (.t 3))),(none,(.pure 2 (.mv (.t 4))))]) .ret)) 5 [(.tmp 2)])
theorem fVSize:FA 123=some iVSize:=by kernel_rfl
end Go.AI
/- A handle's slot found: the walk, and the hook. -/
namespace Go.AI
open Go.Proofs
variable {W0:World} {Cls:Nat → Int → Prop} {x:Ar} {tbl t' t'':List (Nat × AObj Ar)} {nx n' n'':Nat}
noncomputable abbrev RFh (n:Nat):CallFn Ar:=run FA cleanT (hookL hV4) n
theorem RFh_ok (n:Nat):CallsOk (Ext1 Cls) PZ W0 (RFh n):=run_sound (esc:=escA) mixedZ (hookL_ok hV4_ok) n
theorem upd_same0 {α:Type} {s:Nat} {y:α}:∀ {l:List (Nat × α)},look s l=some y → upd s y l=l
 | [],h=>by cases h
 | x :: r,h=>by
  rw [look_cons] at h
  unfold upd
  by_cases e:s=x.1
  ·rw [if_pos e] at h
   injection h with h
   subst h
   have e':Nat.beq s x.1=true:=by rw [Nat.beq_eq]; exact e
   simp only [e',cond_true]
  ·rw [if_neg e] at h
   have e':Nat.beq s x.1=false:=by rw [← Bool.not_eq_true,Nat.beq_eq]; exact e
   simp only [e',cond_false,upd_same0 h]
def Kp (t:List (Nat × AObj Ar)) (n:Nat) (t':List (Nat × AObj Ar)) (n':Nat):Prop:=n ≤ n' ∧ ∀ j,j < n → look j t'=look j t
theorem Kp.refl:Kp tbl nx tbl nx:=⟨Nat.le_refl _,fun _ _=>rfl⟩
theorem Kp.trans (a:Kp tbl nx t' n') (b:Kp t' n' t'' n''):Kp tbl nx t'' n'':=⟨Nat.le_trans a.1 b.1,fun j hj=>(b.2 j (Nat.lt_of_lt_of_le hj a.1)).trans (a.2 j hj)⟩
theorem Kp.cons (a:Kp tbl nx t' n') {k m:Nat} {o:AObj Ar} (hk:nx ≤ k) (hm:n' ≤ m):Kp tbl nx ((k,o) :: t') m:=⟨Nat.le_trans a.1 hm,fun j hj=>by rw [look_cons,if_neg (by show ¬ j=k; omega)]; exact a.2 j hj⟩
theorem look_drop {n j:Nat} (hj:j < n):∀ {l:List (Nat × AObj Ar)},look j (dropNew n l)=look j l
 | []=>rfl
 | y :: r=>by
  unfold dropNew
  rw [List.filter_cons]
  by_cases e:Nat.blt y.1 n=true
  ·rw [if_pos e,look_cons,look_cons]
   have ih:=look_drop hj (l:=r)
   unfold dropNew at ih
   rw [ih]
  ·have e2:¬ y.1 < n:=fun h=>e (by rw [blt_iff]; exact decide_eq_true h)
   rw [if_neg e,look_cons,if_neg (by omega)]
   exact look_drop hj (l:=r)
theorem look_cl {n j:Nat} {b:Bool} {l:List (Nat × AObj Ar)} (hj:j < n):look j (bif b then dropNew n l else l)=look j l:=by
 cases b
 ·rfl
 ·exact look_drop hj
theorem Kp.cl (a:Kp tbl nx t' n') {b:Bool}:Kp tbl nx (bif b then dropNew nx t' else t') n':=⟨a.1,fun j hj=>(look_cl hj).trans (a.2 j hj)⟩
theorem liftH_rd {spec:Spec} {spec0:List Value → Option Value} {vs vs0:List Value} {v0 v:Value} {i:Nat} (h1:firstV vs=some i) (hl:look i tbl=some (.ext x)) (hx:x.refuse < 9223372036854775808) (h2:canL i vs=some vs0) (hs:spec x vs0=some (v0,x)) (hb:backV i v0=some v) :
  liftH spec spec0 vs ⟨tbl,nx⟩=some (v,⟨tbl,nx⟩):=by
 have e:Nat.blt x.refuse 9223372036854775808=true:=by rw [blt_iff]; exact decide_eq_true hx
 have hu:upd i (AObj.ext x) tbl=tbl:=upd_same0 hl
 simp only [liftH,h1,hl,e,cond_true,h2,hs,hb,hu]
theorem wrapU_of {n:Nat} (h:n < 18446744073709551616):wrapF .u64 (.ofNat n) = .ofNat n:=by
 exact wrapU_lt h
theorem pv_remU {env:List (Nat × Value)} {e:EqK} {x y:Opd} {a b:Nat} (hx:evo env x=some (.int .u64 (.ofNat a))) (hy:evo env y=some (.int .u64 (.ofNat (b + 1)))):peval env (.bin .rem e x y)=some (.int .u64 (.ofNat (a % (b + 1)))):=by
 have h3:Nat.mod a (b + 1)=a % (b + 1):=rfl
 simp only [peval,hx,hy,binVal,intBin,divF,if_true,h3,Option.map]
theorem pv_convU {env:List (Nat × Value)} {x:Opd} {n:Nat} (hx:evo env x=some (.int .u64 (.ofNat n))) (hn:n < 9223372036854775808):peval env (.conv .i64 x)=some (.int .i64 (.ofNat n)):=by
 have h:wrapF .i64 (.ofNat n) = .ofNat n:=wrap64 (by simp only [Int.ofNat_eq_natCast]; omega) (by simp only [Int.ofNat_eq_natCast]; omega)
 simp only [peval,hx,h]
theorem pv_mulN {env:List (Nat × Value)} {e:EqK} {x y:Opd} {a b:Nat} (hx:evo env x=some (.int .i64 (.ofNat a))) (hy:evo env y=some (.int .i64 (.ofNat b))) (h:a * b < 9223372036854775808):peval env (.bin .mul e x y)=some (.int .i64 (.ofNat (a * b))):=by
 have h1:(Int.ofNat a) * (Int.ofNat b)=Int.ofNat (a * b):=rfl
 have h2:wrapF .i64 (.ofNat (a * b)) = .ofNat (a * b):=wrap64 (by simp only [Int.ofNat_eq_natCast]; omega) (by simp only [Int.ofNat_eq_natCast]; omega)
 simp only [peval,hx,hy,binVal,intBin,if_true,h1,h2]
theorem pv_addN {env:List (Nat × Value)} {e:EqK} {x y:Opd} {a b:Nat} (hx:evo env x=some (.int .i64 (.ofNat a))) (hy:evo env y=some (.int .i64 (.ofNat b))) (h:a + b < 9223372036854775808):peval env (.bin .add e x y)=some (.int .i64 (.ofNat (a + b))):=by
 have h1:(Int.ofNat a) + (Int.ofNat b)=Int.ofNat (a + b):=rfl
 have h2:wrapF .i64 (.ofNat (a + b)) = .ofNat (a + b):=wrap64 (by simp only [Int.ofNat_eq_natCast]; omega) (by simp only [Int.ofNat_eq_natCast]; omega)
 simp only [peval,hx,hy,binVal,intBin,if_true,h1,h2]
theorem pv_quoU {env:List (Nat × Value)} {e:EqK} {x y:Opd} {a b:Nat} (hx:evo env x=some (.int .u64 (.ofNat a))) (hy:evo env y=some (.int .u64 (.ofNat (b + 1)))) (ha:a < 18446744073709551616):peval env (.bin .quo e x y)=some (.int .u64 (.ofNat (a / (b + 1)))):=by
 have h2:wrapF .u64 (.ofNat (a / (b + 1))) = .ofNat (a / (b + 1)):=wrapU_of (Nat.lt_of_le_of_lt (Nat.div_le_self _ _) ha)
 have h3:Nat.div a (b + 1)=a / (b + 1):=rfl
 simp only [peval,hx,hy,binVal,intBin,divF,if_true,h3,h2,Option.map]
abbrev vw4 (a:Nat):Value:=vwC (.ofNat a) (.ofNat 4096)
abbrev vl4 (a:Nat):List Value:=[pA,.int .i64 (.ofNat a),.int .i64 (.ofNat 4096)]
theorem vl_look {a:Nat}:look nx ((nx,AObj.cells (vl4 a)) :: tbl)=some (.cells (vl4 a)):=by rw [look_cons,if_pos rfl]
theorem vl_kp {a:Nat}:Kp tbl nx ((nx,AObj.cells (vl4 a)) :: tbl) (nx + 1):=Kp.refl.cons (Nat.le_refl _) (Nat.le_succ _)
theorem hsize_run {n a:Nat}:∃ u h',RFh (n + 1) 123 [vw4 a] ⟨tbl,nx⟩=some (u,h') ∧ (u=vI 4096 ∧ Kp tbl nx h'.tbl h'.next):=by
 refine run_fn rfl fVSize (Nat.le_of_ble_eq_true rfl) ?_
 dsimp only [iVSize,argsE]
 refine WC.seq (WC.ops (WO.box (v:=vw4 a) rfl rfl (WO.mv rfl (WO.nil (thenC_norm (WC.seq (WC.ops (WO.fadd rfl (WO.load (v:=vI 4096) rfl vl_look rfl rfl rfl (WO.mv rfl (WO.nil (thenC_norm (WC.ret ?_)))))))))))))
 exact ⟨_,_,rfl,rfl,rfl,vl_kp.cl (b:=cleanT 123)⟩
theorem hlen_run {n a:Nat}:∃ u h',RFh (n + 2) 127 [vw4 a] ⟨tbl,nx⟩=some (u,h') ∧ (u=vI 256 ∧ Kp tbl nx h'.tbl h'.next):=by
 refine run_fn rfl fHLen (Nat.le_of_ble_eq_true rfl) ?_
 dsimp only [iHLen,argsE]
 refine WC.seq (WC.ops (WO.box (v:=vw4 a) rfl rfl (WO.mv rfl (WO.nil (thenC_norm (WC.seq (WC.ops (WO.fadd rfl (WO.load (v:=vw4 a) rfl vl_look rfl rfl rfl ?_)))))))))
 refine WO.fcall_ex (vs:=[vw4 a]) rfl rfl (hsize_run (n:=n)) ?_
 rintro u ⟨t1,n1⟩ ⟨rfl,k1⟩
 refine WO.pure (v:=vI 256) rfl (WO.pure (v:=vI 256) rfl (WO.mv rfl (WO.nil (thenC_norm (WC.ret ?_)))))
 exact ⟨_,_,rfl,rfl,rfl,(vl_kp.trans k1).cl (b:=cleanT 127)⟩
theorem canW0 {a b:Nat}:canL 0 [vw4 a,vI b,vI 8]=some [vw4 a,vI b,vI 8]:=rfl
theorem hget_run (hl:look 0 tbl=some (.ext x)) (h0:0 < nx) (hx:x.refuse < 9223372036854775808) {n a i:Nat} (hi:i < 256) (hb:bytesE x (.ofNat a) (.ofNat 4096)=0) (ha:a < 4611686018427387904) (hv:loadV x (.ofNat (a + i * 16)) (.ofNat 8) < 9223372036854775808) :
  ∃ u h',RFh (n + 2) 128 [vw4 a,vI i] ⟨tbl,nx⟩=some (u,h') ∧ (u = .tuple ⟨[vI (loadV x (.ofNat (a + i * 16)) (.ofNat 8)),numV (loadV x (.ofNat (a + (i * 16 + 8))) (.ofNat 8))]⟩ ∧ Kp tbl nx h'.tbl h'.next):=by
 have vck:∀ b:Nat,b + 8 ≤ 4096 → vckN (.ofNat 4096) (.ofNat b) (.ofNat 8)=0:=fun b h=>by
  have e1:iltF (.ofNat b) (.ofNat 0)=false:=by rw [iltF_eq]; exact decide_eq_false (by simp only [Int.ofNat_eq_natCast]; omega)
  have e4:iltF (.ofNat 4088) (.ofNat b)=false:=by rw [iltF_eq]; exact decide_eq_false (by simp only [Int.ofNat_eq_natCast]; omega)
  have e2:wrapF .i64 ((Int.ofNat 4096) - (Int.ofNat 8)) = .ofNat 4088:=by decide
  have e3:iltF (Int.ofNat 8) (.ofNat 0)=false:=rfl
  have e5:iltF (Int.ofNat 4096) (.ofNat 8)=false:=rfl
  simp only [vckN,e1,e2,e3,e4,e5,Bool.or_self,cond_false]
 refine run_fn rfl fHget (Nat.le_of_ble_eq_true rfl) ?_
 dsimp only [iHget,argsE]
 have hl1:look 0 ((nx,AObj.cells (vl4 a)) :: tbl)=some (.ext x):=by rw [look_cons,if_neg (by show ¬ 0=nx; omega)]; exact hl
 have c1:RFh (n + 1) 27 [vw4 a,vI (i * 16),vI 8] ⟨(nx,AObj.cells (vl4 a)) :: tbl,nx + 1⟩=some (.tuple ⟨[numV (loadV x (.ofNat (a + i * 16)) (.ofNat 8)),errV 0]⟩,⟨(nx,AObj.cells (vl4 a)) :: tbl,nx + 1⟩) :=
  (run_hook (n:=n) (g:=liftH spVLoad _) rfl).trans (liftH_rd rfl hl1 hx canW0 (vload_in hb ha (by omega) (by omega) rfl (vck _ (by omega))) rfl)
 have c2:RFh (n + 1) 27 [vw4 a,vI (i * 16 + 8),vI 8] ⟨(nx,AObj.cells (vl4 a)) :: tbl,nx + 1⟩=some (.tuple ⟨[numV (loadV x (.ofNat (a + (i * 16 + 8))) (.ofNat 8)),errV 0]⟩,⟨(nx,AObj.cells (vl4 a)) :: tbl,nx + 1⟩) :=
  (run_hook (n:=n) (g:=liftH spVLoad _) rfl).trans (liftH_rd rfl hl1 hx canW0 (vload_in hb ha (by omega) (by omega) rfl (vck _ (by omega))) rfl)
 refine WC.seq (WC.ops (WO.box (v:=vw4 a) rfl rfl (WO.mv rfl (WO.mv rfl (WO.nil (thenC_norm (WC.seq (WC.ops (WO.fadd rfl (WO.load (v:=vw4 a) rfl vl_look rfl rfl rfl (WO.mv rfl (WO.pure (pv_mulN rfl rfl (by omega)) ?_))))))))))))
 refine WO.fcall (vs:=[vw4 a,vI (i * 16),vI 8]) rfl rfl c1 ?_
 refine WO.mv rfl (WO.pure rfl (WO.pure rfl (WO.mv rfl (WO.mv rfl (WO.nil (thenC_norm (WC.seq (WC.ops (WO.fadd rfl (WO.load (v:=vw4 a) rfl vl_look rfl rfl rfl (WO.mv rfl (WO.pure (pv_mulN rfl rfl (by omega)) (WO.pure (pv_addN rfl rfl (by omega)) ?_)))))))))))))
 refine WO.fcall (vs:=[vw4 a,vI (i * 16 + 8),vI 8]) rfl rfl c2 ?_
 refine WO.mv rfl (WO.pure rfl (WO.pure rfl (WO.mv rfl (WO.mv rfl (WO.nil (thenC_norm (WC.seq (WC.ops (WO.mv rfl (WO.pure (pv_convU rfl hv) (WO.mv rfl (WO.mv rfl (WO.mv rfl (WO.nil (thenC_norm (WC.ret ?_))))))))))))))))
 exact ⟨_,_,rfl,rfl,rfl,vl_kp.cl (b:=cleanT 128)⟩
def spHF:Spec
 | x,[.agg ⟨[.pointer (some ⟨0,0,none⟩),.int .i64 (.ofNat a),.int .i64 (.ofNat s)]⟩,.int .u64 (.ofNat h)] =>
  bif Nat.beq s 4096 && (Nat.blt a 4611686018427387904 && (Nat.blt h 18446744073709551616 && (Nat.beq (bytesE x (.ofNat a) (.ofNat 4096)) 0 && Nat.blt (loadV x (.ofNat (a + h % 256 * 16)) (.ofNat 8)) 9223372036854775808))) then
   (bif Nat.beq (loadV x (.ofNat (a + h % 256 * 16)) (.ofNat 8)) 0 || !Nat.beq (h / 256) (loadV x (.ofNat (a + (h % 256 * 16 + 8))) (.ofNat 8)) then some (.tuple ⟨[vI 0,vI 0,errV 6]⟩,x)
   else some (.tuple ⟨[vI (h % 256),vI (loadV x (.ofNat (a + h % 256 * 16)) (.ofNat 8)),errV 0]⟩,x)) else none
 | _,_=>none
theorem find_run (hx:x.refuse < 9223372036854775808) {n a h:Nat} (hh:h < 18446744073709551616) (hb:bytesE x (.ofNat a) (.ofNat 4096)=0) (ha:a < 4611686018427387904) (hv:loadV x (.ofNat (a + h % 256 * 16)) (.ofNat 8) < 9223372036854775808) :
  ∃ u h',RFh (n + 3) 141 [vw4 a,vU h] ⟨[(0,.ext x)],1⟩=some (u,h') ∧ (u=(bif Nat.beq (loadV x (.ofNat (a + h % 256 * 16)) (.ofNat 8)) 0 || !Nat.beq (h / 256) (loadV x (.ofNat (a + (h % 256 * 16 + 8))) (.ofNat 8)) then .tuple ⟨[vI 0,vI 0,errV 6]⟩ else .tuple ⟨[vI (h % 256),vI (loadV x (.ofNat (a + h % 256 * 16)) (.ofNat 8)),errV 0]⟩) ∧ look 0 h'.tbl=some (.ext x)):=by
 have hi:h % 256 < 256:=Nat.mod_lt _ (by decide)
 have hl:look 0 ([(0,AObj.ext x)]:List (Nat × AObj Ar))=some (.ext x):=rfl
 generalize ht:([(0,AObj.ext x)]:List (Nat × AObj Ar))=t0 at hl ⊢
 refine run_fn rfl fHFind (Nat.le_of_ble_eq_true rfl) ?_
 dsimp only [iHFind,argsE]
 refine WC.seq (WC.ops (WO.box (v:=vw4 a) rfl rfl (WO.mv rfl (WO.mv rfl (WO.mv rfl (WO.nil (thenC_norm (WC.seq (WC.seq (WC.ops ?_))))))))))
 refine WO.fadd rfl (WO.fadd rfl (WO.load (v:=pA) rfl vl_look rfl rfl rfl (WO.pure (v:=.bool false) rfl (WO.nil (thenC_norm (WC.cond_false rfl (WC.skip (thenC_norm (WC.seq (WC.ops ?_))))))))))
 refine WO.mv rfl (WO.pure (pv_remU (b:=255) rfl rfl) (WO.pure (pv_convU rfl (by omega)) (WO.mv rfl (WO.nil (thenC_norm (WC.seq (WC.seq (WC.ops ?_))))))))
 refine WO.mv rfl (WO.load (v:=vw4 a) rfl vl_look rfl rfl rfl ?_)
 refine WO.fcall_ex (vs:=[vw4 a]) rfl rfl (hlen_run (n:=n)) ?_
 rintro u ⟨t1,n1⟩ ⟨rfl,k1⟩
 dsimp only at k1
 have g1:=k1.1
 have hk:Kp t0 1 t1 n1:=vl_kp.trans k1
 have lv1:look 1 t1=some (.cells (vl4 a)):=(k1.2 1 (by omega)).trans vl_look
 have hl1:look 0 t1=some (.ext x):=(hk.2 0 (by omega)).trans hl
 refine WO.geqS rfl rfl (fun hz=>?_) (fun _=>?_)
 ·exfalso; simp only [Int.ofNat_eq_natCast] at hz; omega
 refine WO.nil (thenC_norm (WC.cond_false rfl (WC.skip (thenC_norm (WC.seq (WC.ops ?_))))))
 refine WO.load (v:=vw4 a) rfl lv1 rfl rfl rfl (WO.mv rfl ?_)
 refine WO.fcall_ex (vs:=[vw4 a,vI (h % 256)]) rfl rfl (hget_run hl1 (by show 0 < n1; omega) hx (n:=n) hi hb ha hv) ?_
 rintro u ⟨t2,n2⟩ ⟨rfl,k2⟩
 dsimp only at k2
 have hl2:look 0 t2=some (.ext x):=(k2.2 0 (by omega)).trans hl1
 refine WO.mv rfl (WO.pure rfl (WO.pure rfl (WO.mv rfl (WO.mv rfl (WO.nil (thenC_norm (WC.seq (WC.seq (WC.ops (WO.mv rfl ?_))))))))))
 refine WO.eqlS rfl rfl (fun hz=>?_) (fun hz=>?_)
 ·have hz:loadV x (.ofNat (a + h % 256 * 16)) (.ofNat 8)=0:=Int.ofNat.inj hz
  refine WO.mv rfl (WO.skip rfl rfl (WO.skip rfl rfl (WO.skip rfl rfl (WO.skip rfl rfl (WO.pure (v:=.bool true) rfl (WO.nil (thenC_norm (WC.cond_true rfl (WC.seq (WC.ops ?_))))))))))
  refine WO.mv rfl (WO.mv rfl (WO.mv rfl (WO.nil (thenC_norm (WC.ret (thenC_ret ⟨_,_,rfl,rfl,?_,(look_cl (n:=1) (b:=cleanT 141) (by decide)).trans hl2⟩))))))
  rw [hz]; rfl
 ·have hz:Nat.beq (loadV x (.ofNat (a + h % 256 * 16)) (.ofNat 8)) 0=false:=by rw [← Bool.not_eq_true,Nat.beq_eq]; intro e; exact hz (by rw [e])
  refine WO.mv rfl (WO.take rfl rfl (WO.mv rfl (WO.take rfl rfl (WO.pure (pv_quoU (b:=255) rfl rfl hh) (WO.take rfl rfl (WO.mv rfl (WO.take rfl rfl ?_)))))))
  refine WO.neqS rfl rfl (fun hq=>?_) (fun hq=>?_)
  ·have hq:Nat.beq (h / 256) (loadV x (.ofNat (a + (h % 256 * 16 + 8))) (.ofNat 8))=false:=by rw [← Bool.not_eq_true,Nat.beq_eq]; intro e; exact hq (by show Int.ofNat (h / 256)=_; rw [e])
   refine WO.pure (v:=.bool true) rfl (WO.nil (thenC_norm (WC.cond_true rfl (WC.seq (WC.ops (WO.mv rfl (WO.mv rfl (WO.mv rfl (WO.nil (thenC_norm (WC.ret (thenC_ret ⟨_,_,rfl,rfl,?_,(look_cl (n:=1) (b:=cleanT 141) (by decide)).trans hl2⟩))))))))))))
   rw [hz,hq]; rfl
  ·have hq:Nat.beq (h / 256) (loadV x (.ofNat (a + (h % 256 * 16 + 8))) (.ofNat 8))=true:=by rw [Nat.beq_eq]; exact Int.ofNat.inj hq
   refine WO.pure (v:=.bool false) rfl (WO.nil (thenC_norm (WC.cond_false rfl (WC.skip (thenC_norm (WC.seq (WC.ops ?_)))))))
   refine WO.mv rfl (WO.mv rfl (WO.mv rfl (WO.mv rfl (WO.mv rfl (WO.nil (thenC_norm (WC.ret ⟨_,_,rfl,rfl,?_,(look_cl (n:=1) (b:=cleanT 141) (by decide)).trans hl2⟩)))))))
   rw [hz,hq]; rfl
theorem find_ok:HookOk (Ext1 Cls) PZ W0 141 (liftH spHF (fun _=>none)):=by
 refine lift_ok (RFh_ok 1000) (fun x vs v x' hx hs=>?_) (fun _ _ _ hs=>by cases hs)
 unfold spHF at hs
 split at hs
 ·rename_i a s h
  cases hc:(Nat.beq s 4096 && (Nat.blt a 4611686018427387904 && (Nat.blt h 18446744073709551616 && (Nat.beq (bytesE x (.ofNat a) (.ofNat 4096)) 0 && Nat.blt (loadV x (.ofNat (a + h % 256 * 16)) (.ofNat 8)) 9223372036854775808)))) with
  | false=>rw [hc] at hs; cases hs
  | true =>
   rw [hc,cond_true] at hs
   simp only [Bool.and_eq_true,Nat.beq_eq,blt_iff,decide_eq_true_eq] at hc
   obtain ⟨rfl,c1,c2,c3,c4⟩:=hc
   obtain ⟨u,⟨t,n⟩,hr,hu,hl⟩:=find_run hx (n:=997) c2 c3 c1 c4
   rw [hu] at hr
   cases hb:(Nat.beq (loadV x (.ofNat (a + h % 256 * 16)) (.ofNat 8)) 0 || !Nat.beq (h / 256) (loadV x (.ofNat (a + (h % 256 * 16 + 8))) (.ofNat 8))) with
   | true =>
    rw [hb,cond_true] at hs hr
    have e:=Option.some.inj hs
    rw [← (Prod.mk.inj e).1,← (Prod.mk.inj e).2]
    exact ⟨t,n,hr,hl⟩
   | false =>
    rw [hb,cond_false] at hs hr
    have e:=Option.some.inj hs
    rw [← (Prod.mk.inj e).1,← (Prod.mk.inj e).2]
    exact ⟨t,n,hr,hl⟩
 ·cases hs
def chkH (x:Ar) (a g:Nat):Bool :=
 Nat.blt x.refuse 9223372036854775808 && (Nat.blt a 4611686018427387904 && (Nat.beq (bytesE x (.ofNat a) (.ofNat 4096)) 0 && (List.range 256).all fun i=>Nat.beq (loadV x (.ofNat (a + i * 16)) (.ofNat 8)) 0 || (Nat.blt (loadV x (.ofNat (a + i * 16)) (.ofNat 8)) 9223372036854775808 && Nat.beq (Nat.add (Nat.mul (loadV x (.ofNat (a + (i * 16 + 8))) (.ofNat 8)) 256) i) g)))
theorem chk_find {a g h:Nat} (hc:chkH x a g=true) (hh:h < 18446744073709551616) (hg:h ≠ g):x.refuse < 9223372036854775808 ∧ spHF x [vw4 a,vU h]=some (.tuple ⟨[vI 0,vI 0,errV 6]⟩,x):=by
 unfold chkH at hc
 simp only [Bool.and_eq_true,blt_iff,decide_eq_true_eq] at hc
 obtain ⟨c1,c2,c3,c4⟩:=hc
 have c5:=List.all_eq_true.1 c4 (h % 256) (List.mem_range.2 (Nat.mod_lt _ (by decide)))
 have e1:Nat.blt a 4611686018427387904=true:=by rw [blt_iff]; exact decide_eq_true c2
 have e2:Nat.blt h 18446744073709551616=true:=by rw [blt_iff]; exact decide_eq_true hh
 refine ⟨c1,?_⟩
 cases hz:Nat.beq (loadV x (.ofNat (a + h % 256 * 16)) (.ofNat 8)) 0 with
 | true =>
  have hz':loadV x (.ofNat (a + h % 256 * 16)) (.ofNat 8)=0:=by rwa [Nat.beq_eq] at hz
  have e3:Nat.blt (loadV x (.ofNat (a + h % 256 * 16)) (.ofNat 8)) 9223372036854775808=true:=by rw [hz']; rfl
  simp only [spHF,Nat.beq_refl,e1,e2,e3,c3,hz,Bool.and_self,Bool.true_or,cond_true]
 | false =>
  rw [hz,Bool.false_or,Bool.and_eq_true] at c5
  obtain ⟨c6,c7⟩:=c5
  rw [Nat.beq_eq] at c7
  rw [← blt_iff] at c6
  have hq:Nat.beq (h / 256) (loadV x (.ofNat (a + (h % 256 * 16 + 8))) (.ofNat 8))=false:=by
   rw [← Bool.not_eq_true,Nat.beq_eq]
   intro e
   rw [← e] at c7
   have:Nat.add (Nat.mul (h / 256) 256) (h % 256)=h:=Nat.div_add_mod' h 256
   exact hg (this.symm.trans c7)
  simp only [spHF,Nat.beq_refl,e1,e2,c6,c3,hz,hq,Bool.and_self,Bool.not_false,Bool.or_true,cond_true]
end Go.AI
