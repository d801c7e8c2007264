/- The law's frame; its acts. -/
import Derived.Test.YtodcomgkpifpfaaGreatDoorKTr
import Derived.Test.YtodcomgkpifpfaaGreatDoorKIf
import Derived.Test.YtodcomgkpifpfaaGreatDoorKOp
import Derived.Test.YtodcomgkpifpfaaGreatDoorKFo
namespace Go.AI
open Go.Proofs
open Go.Fo (Wd Un Pre)
variable {W0:World} {Cls:Nat → Int → Prop} {x:Ar} {S:List Nat} {off ka tb:Nat} {acts:List Value} {tbl:List (Nat × AObj Ar)} {nx:Nat}
abbrev qO:B3:=⟨2,3,241⟩
abbrev pO:Value:=.pointer (some ⟨241,0,none⟩)
abbrev trO:Value:=.agg ⟨[pO]⟩
structure Lw (S:List Nat) (off:Nat) (acts:List Value) (ka tb:Nat) (tbl:List (Nat × AObj Ar)) (nx:Nat) (x:Ar):Prop where
 l0:look 0 tbl=some (.ro off acts)
 li:look 2 tbl=some (.ext x)
 lb:look 3 tbl=some (.cells (.pointer (some ⟨2,0,none⟩) :: rbO))
 lr:look 241 tbl=some (.cells (.pointer (some ⟨3,0,none⟩) :: rrO))
 la:look ka tbl=some (.grown 1 3 (S.map nI))
 lt:look tb tbl=some (.cells [pO])
 h1:249 < ka
 h2:ka < tb
 h3:tb < nx
theorem Lw.cons (F:Lw S off acts ka tb tbl nx x) {k nx':Nat} {o:AObj Ar} (h:tb < k) (h':tb < nx'):Lw S off acts ka tb ((k,o) :: tbl) nx' x:=by
 have hk:∀ j,j ≤ tb → look j ((k,o) :: tbl)=look j tbl:=fun j hj=>by rw [look_cons,if_neg (by show ¬ j=k; omega)]
 have a:=F.h1
 have b:=F.h2
 exact ⟨(hk _ (by omega)).trans F.l0,(hk _ (by omega)).trans F.li,(hk _ (by omega)).trans F.lb,(hk _ (by omega)).trans F.lr,(hk _ (by omega)).trans F.la,(hk _ (by omega)).trans F.lt,a,b,h'⟩
theorem Lw.set (F:Lw S off acts ka tb tbl nx x) {x':Ar} {nx':Nat} (h':tb < nx'):Lw S off acts ka tb (upd 2 (.ext x') tbl) nx' x':=by
 have a:=F.h1
 have b:=F.h2
 have hk:∀ j,j ≠ 2 → look j (upd 2 (AObj.ext x') tbl)=look j tbl:=fun j hj=>look_upd_ne hj
 exact ⟨(hk _ (by omega)).trans F.l0,look_upd_same F.li,(hk _ (by omega)).trans F.lb,(hk _ (by omega)).trans F.lr,(hk _ (by omega)).trans F.la,(hk _ (by omega)).trans F.lt,a,b,h'⟩
theorem Lw.up (F:Lw S off acts ka tb tbl nx x) {nx':Nat} (h':nx ≤ nx'):Lw S off acts ka tb tbl nx' x:=⟨F.l0,F.li,F.lb,F.lr,F.la,F.lt,F.h1,F.h2,Nat.lt_of_lt_of_le F.h3 h'⟩
theorem lift_O {spec:Spec} {spec0:List Value → Option Value} {vs vs0:List Value} {v v0:Value} {x':Ar} (F:Lw S off acts ka tb tbl nx x) (hx:x.refuse < 9223372036854775808) (h1:firstV vs=some 241) (h2:can3L qO vs=some vs0) (hs:spec x vs0=some (v0,x')) (hb:back3V qO v0=some v):liftR spec spec0 vs ⟨tbl,nx⟩=some (v,⟨upd 2 (.ext x') tbl,nx⟩) :=
 liftR_at (q:=qO) (rr:=rrO) (rb:=rbO) h1 (find3_at h1 F.lr F.lb F.li (by decide)) hx h2 rfl rfl hs hb
theorem lift_ORow {T:Nat} {spec:SpecL} {vs vs0:List Value} {l:List Nat} (F:Lw S off acts ka tb tbl nx x) (hx:x.refuse < 9223372036854775808) (h1:firstV vs=some 241) (h2:can3L qO vs=some vs0) (hs:spec x vs0=some l):liftL T spec vs ⟨tbl,nx⟩=some (rowOut T ⟨tbl,nx⟩ l) :=
 liftL_at (q:=qO) (rr:=rrO) (rb:=rbO) (find3_at h1 F.lr F.lb F.li (by decide)) hx h2 rfl rfl hs
section
variable {F:Nat → Option IFn} {cl:Nat → Bool} {hk:Hook Ar} {n:Nat} {K:List (Nat × Value) → Mem Ar → Prop} {env:List (Nat × Value)} {l:List (Option (Nat × Bool) × IOp)}
theorem call_O {kf:Nat} {vs vs0:List Value} {v v0:Value} {x':Ar} {spec:Spec} {spec0:List Value → Option Value} (H:Lw S off acts ka tb tbl nx x) (hx:x.refuse < 9223372036854775808) (hs:spec x vs0=some (v0,x')) (hh:hk kf=some (liftR spec spec0)) (h1:firstV vs=some 241) (h2:can3L qO vs=some vs0) (hb:back3V qO v0=some v) :
  run F cl hk (n + 1) kf (vs ++ (#[]:Array Value).toList) ⟨tbl,nx⟩=some (v,⟨upd 2 (.ext x') tbl,nx⟩):=by
 have he:vs ++ (#[]:Array Value).toList=vs:=List.append_nil vs
 rw [he,run_hook hh,lift_O H hx h1 h2 hs hb]
theorem row_O {kf T:Nat} {vs vs0:List Value} {spec:SpecL} {y:Nat} {ys:List Nat} (H:Lw S off acts ka tb tbl nx x) (hx:x.refuse < 9223372036854775808) (hs:spec x vs0=some (y :: ys)) (hh:hk kf=some (liftL T spec)) (h1:firstV vs=some 241) (h2:can3L qO vs=some vs0) :
  run F cl hk (n + 1) kf (vs ++ (#[]:Array Value).toList) ⟨tbl,nx⟩=some (.slice (some ⟨nx,0,none⟩) (y :: ys).length (y :: ys).length,⟨(nx,.grown 1 T ((y :: ys).map nI)) :: tbl,nx + 1⟩):=by
 have he:vs ++ (#[]:Array Value).toList=vs:=List.append_nil vs
 rw [he,run_hook hh,lift_ORow H hx h1 h2 hs]
 rfl
theorem WO.rdO {d:Option Nat} {f:Opd} {xs:List Opd} {kf:Nat} {vs vs0:List Value} {v v0:Value} {spec:Spec} {spec0:List Value → Option Value} (H:Lw S off acts ka tb tbl nx x) (hx:x.refuse < 9223372036854775808)
  (hs:spec x vs0=some (v0,x)) (hf:evo env f=some (.func (.func kf) #[] #[])) (hxs:evs env xs=some vs) (hh:hk kf=some (liftR spec spec0)) (h1:firstV vs=some 241) (h2:can3L qO vs=some vs0)
  (hb:back3V qO v0=some v) (k:WO (run F cl hk (n + 1)) l (putEnv d v env) ⟨[],tbl,nx⟩ K):WO (run F cl hk (n + 1)) ((none,.call d f xs) :: l) env ⟨[],tbl,nx⟩ K:=by
 refine .fcall (v:=v) (h:=⟨tbl,nx⟩) hf hxs ?_ k
 have h:=call_O (F:=F) (cl:=cl) (hk:=hk) (n:=n) H hx hs hh h1 h2 hb
 rw [upd_self H.li] at h
 exact h
theorem WO.rowO {d:Option Nat} {f:Opd} {xs:List Opd} {kf T:Nat} {vs vs0:List Value} {spec:SpecL} {y:Nat} {ys:List Nat} (H:Lw S off acts ka tb tbl nx x) (hx:x.refuse < 9223372036854775808)
  (hs:spec x vs0=some (y :: ys)) (hf:evo env f=some (.func (.func kf) #[] #[])) (hxs:evs env xs=some vs) (hh:hk kf=some (liftL T spec)) (h1:firstV vs=some 241) (h2:can3L qO vs=some vs0)
  (k:WO (run F cl hk (n + 1)) l (putEnv d (.slice (some ⟨nx,0,none⟩) (y :: ys).length (y :: ys).length) env) ⟨[],(nx,.grown 1 T ((y :: ys).map nI)) :: tbl,nx + 1⟩ K):WO (run F cl hk (n + 1)) ((none,.call d f xs) :: l) env ⟨[],tbl,nx⟩ K :=
 .fcall (v:=.slice (some ⟨nx,0,none⟩) (y :: ys).length (y :: ys).length) (h:=⟨(nx,.grown 1 T ((y :: ys).map nI)) :: tbl,nx + 1⟩) hf hxs (row_O H hx hs hh h1 h2) k
end
theorem look_ne {α:Type} {t k:Nat} {v:α} {e:List (Nat × α)} (h:t ≠ k):look t ((k,v) :: e)=look t e:=by rw [look_cons,if_neg h]
theorem pv_conv {env:List (Nat × Value)} {x:Opd} {n:Nat} (hx:evo env x=some (.int .u8 (.ofNat n))) (hn:n < 256):peval env (.conv .i64 x)=some (.int .i64 (.ofNat n)):=by
 have h:wrapF .i64 (.ofNat n) = .ofNat n:=wrap64 (by simp only [Int.ofNat_eq_natCast]; omega) (by simp only [Int.ofNat_eq_natCast]; omega)
 simp only [peval,hx,h]
theorem pv_rem {env:List (Nat × Value)} {e:EqK} {x y:Opd} {a b:Nat} (hx:evo env x=some (.int .i64 (.ofNat a))) (hy:evo env y=some (.int .i64 (.ofNat b))) (hb:0 < b):peval env (.bin .rem e x y)=some (.int .i64 (.ofNat (a % b))):=by
 obtain ⟨c,rfl⟩:∃ c,b=c + 1:=⟨b - 1,by omega⟩
 have h3:Nat.mod a (c + 1)=a % (c + 1):=rfl
 simp only [peval,hx,hy,binVal,intBin,divF,if_true,h3,Option.map]
theorem pv_len {env:List (Nat × Value)} {x:Opd} {a:Option Addr} {n c:Nat} (hx:evo env x=some (.slice a n c)):peval env (.len x)=some (.int .i64 (.ofNat n)):=by
 simp only [peval,hx]
 rfl
theorem pv_faddZ {env:List (Nat × Value)} {o:Nat} {x:Opd} {i j:Nat} (hx:evo env x=some (.pointer (some ⟨i,j,none⟩))):peval env (.fadd o x)=some (.pointer (some ⟨i,j + o,none⟩)):=by
 simp only [peval,hx]
abbrev ActT:=Bool × Nat × Nat
def actC (a:ActT):List Value:=[.bool a.1,.int .u8 (.ofNat a.2.1),.int .u8 (.ofNat a.2.2)]
def actsC (l:List ActT):List Value:=l.flatMap actC
theorem acts_get:∀ {l:List ActT} {i:Nat} {a:ActT},l[i]? = some a → takeN (actsC l) (i * 3) 3=some (actC a)
 | [],i,a,h=>by simp at h
 | b :: r,0,a,h=>by
  simp only [List.getElem?_cons_zero,Option.some.injEq] at h; subst h
  rfl
 | b :: r,i + 1,a,h=>by
  have ih:=acts_get (l:=r) (i:=i) (a:=a) (by simpa using h)
  have e:(actsC (b :: r)).drop ((i + 1) * 3)=(actsC r).drop (i * 3):=by
   have h1:actsC (b :: r)=actC b ++ actsC r:=rfl
   rw [h1,List.drop_append]
   have h2:(actC b).length=3:=rfl
   rw [h2,List.drop_eq_nil_of_le (by rw [h2]; omega),List.nil_append]
   congr 1; omega
  unfold takeN at ih ⊢
  rw [e]; exact ih
theorem win_load {l:List ActT} {i:Nat} {a:ActT} (h0:look 0 tbl=some (.ro off (actsC l))) (h:l[i]? = some a):(⟨[],tbl,nx⟩:Mem Ar).load ⟨0,off + i * 3,none⟩ 3=some (actC a):=by
 have hg:(⟨[],tbl,nx⟩:Mem Ar).get 0=some (.ro off (actsC l)):=h0
 have hb:Nat.ble off (off + i * 3)=true:=by rw [Nat.ble_eq]; omega
 have hs:Nat.sub (off + i * 3) off=i * 3:=by show off + i * 3 - off=i * 3; omega
 simp only [Mem.load,hg,cellsO,winO,hb,cond_true,hs,acts_get h]
noncomputable def runOpen:List Value → Hp Ar → Option (Value × Hp Ar):=fun vs h=>run F1 cleanT (hookL h19a) 1000 6 vs h
noncomputable def hL (S:List Nat):List (HookF Ar):=(6,runOpen) :: (5,constH (.bool true)) :: hT6 S
theorem TW.cutS (h:TW x S) {c:Nat} (hc:c ∈ S):∃ e x',spTCut S x [trC,vI c]=some (errV e,x') ∧ TW x' S:=by
 have hcc:TW x S ∧ c ∈ S:=⟨h,hc⟩
 by_cases h0:wd x (c + 40)=0
 ·exact ⟨8,x,by simp only [spTCut,if_pos hcc,if_pos h0],h⟩
 ·exact ⟨0,cutX x c,by simp only [spTCut,if_pos hcc,if_neg h0],(h.cut hc h0).2⟩
theorem TW.addS (h:TW x S) {p c:Nat} (hp:p ∈ S) (hc:c ∈ S):∃ e x',spTAdd S x [trC,vI p,vI c]=some (errV e,x') ∧ TW x' S:=by
 have hcc:TW x S ∧ p ∈ S ∧ c ∈ S:=⟨h,hp,hc⟩
 by_cases h0:wd x (c + 40)=0
 ·by_cases hu:Un (wds x S) c p
  ·exact ⟨12,x,by simp only [spTAdd,if_pos hcc,h0,ne_eq,not_true_eq_false,if_false,if_pos hu],h⟩
  ·exact ⟨0,addX x p c,by simp only [spTAdd,if_pos hcc,h0,ne_eq,not_true_eq_false,if_false,if_neg hu],(h.add hp hc h0 hu).2⟩
 ·exact ⟨9,x,by simp only [spTAdd,if_pos hcc,ne_eq,h0,not_false_eq_true,if_true],h⟩
theorem loop0 {n:Nat} (hn:1001 ≤ n) {l:List ActT} (hl:l.length ≤ 60) (hu:∀ a,a ∈ l → a.2.1 < 256 ∧ a.2.2 < 256) (hSl:0 < S.length) (h:TW x S) (F:Lw S off (actsC l) ka tb tbl nx x) {e:List (Nat × Value)} {Q:Ex → List (Nat × Value) → Mem Ar → Prop} {cp:Nat} {ad:Option Addr} (had:l.length ≠ 0 → ad=some ⟨0,off,some 1⟩)
  (e6:look 6 e=some (.slice (some ⟨ka,0,none⟩) S.length S.length)) (e7:look 7 e=some (.bool true)) (e8:look 8 e=some (.pointer (some ⟨tb,0,none⟩))) (e42:look 42 e=some (.slice ad l.length cp)) (e43:look 43 e=some (vI l.length)) (e44:look 44 e=some (vI 0))
  (hQ:∀ e' tbl' nx' x',look 6 e'=some (.slice (some ⟨ka,0,none⟩) S.length S.length) → look 7 e'=some (.bool true) → look 8 e'=some (.pointer (some ⟨tb,0,none⟩)) → TW x' S → Lw S off (actsC l) ka tb tbl' nx' x' → Q .norm e' ⟨[],tbl',nx'⟩) :
  WC (RF1 (hL S) (n + 1)) (n + 1) cTreeOnce0 e ⟨[],tbl,nx⟩ Q:=by
 unfold cTreeOnce0
 refine WC.block ?_
 refine WC.loop (fun j e tbl nx=>∃ i x,i + j=l.length ∧ e 6=some (.slice (some ⟨ka,0,none⟩) S.length S.length) ∧ e 7=some (.bool true) ∧ e 8=some (.pointer (some ⟨tb,0,none⟩)) ∧ e 42=some (.slice ad l.length cp) ∧ e 43=some (vI l.length) ∧ e 44=some (vI i) ∧ TW x S ∧ Lw S off (actsC l) ka tb tbl nx x) (k:=l.length) (by omega)
  ⟨0,x,by omega,e6,e7,e8,e42,e43,e44,h,F⟩ ?_
 clear e6 e7 e8 e42 e43 e44 h F
 rintro j e tbl nx ⟨i,x,hj,e6,e7,e8,e42,e43,e44,h,F⟩
 dsimp only at e6 e7 e8 e42 e43 e44
 refine WC.seq (WC.ops (WO.lssS e44 e43 (fun hz=>?_) (fun hz=>?_)))
 ·have hi:i < l.length:=by simp only [Int.ofNat_eq_natCast] at hz; omega
  obtain ⟨a,ha⟩:∃ a,l[i]? = some a:=⟨l[i],List.getElem?_eq_getElem hi⟩
  obtain ⟨u1,u2⟩:=hu a (List.mem_of_getElem? ha)
  obtain ⟨ob,p1,p2⟩:=a
  refine WO.nil (thenC_norm (WC.seq (WC.cond_true rfl (WC.skip (thenC_norm (WC.seq (WC.block (WC.seq (WC.ops ?_)))))))))
  have e42':=e42
  rw [had (by omega)] at e42'
  refine WO.idxL e42' e44 rfl hi ?_
  refine WO.step (i:=.load 47 3 true (.t 46)) (v:=.agg ⟨actC (ob,p1,p2)⟩) (m':=⟨[],tbl,nx⟩) (by simp only [estep,mstep,evo,look_cons,if_true,win_load F.l0 ha]; rfl) ?_
  refine WO.new (WO.step (i:=.store 3 (.t 10) (.t 47)) (v:=undef) (m':=⟨[],(nx,.cells (actC (ob,p1,p2))) :: tbl,nx + 1⟩) ?_ ?_)
  ·have hm:=mem_store (nx:=nx + 1) (vs:=actC (ob,p1,p2)) (o:=0) (ob':=.cells (splice [.bool false,.int .u8 (.ofNat 0),.int .u8 (.ofNat 0)] 0 (actC (ob,p1,p2)))) (tbl:=(nx,.cells [.bool false,.int .u8 (.ofNat 0),.int .u8 (.ofNat 0)]) :: tbl) (i:=nx) (by rw [look_cons,if_pos rfl]) rfl (Nat.le_of_ble_eq_true rfl) rfl
   rw [upd_head] at hm
   exact estep_store rfl rfl rfl rfl hm
  have F1':Lw S off (actsC l) ka tb ((nx,.cells (actC (ob,p1,p2))) :: tbl) (nx + 1) x:=F.cons F.h3 (Nat.lt_succ_of_lt F.h3)
  have hlk:look nx ((nx,AObj.cells (actC (ob,p1,p2))) :: tbl)=some (.cells (actC (ob,p1,p2))):=by rw [look_cons,if_pos rfl]
  have ld:∀ (m k:Nat) (v:Value),takeN (actC (ob,p1,p2)) k 1=some [v] → (⟨[],(nx,AObj.cells (actC (ob,p1,p2))) :: tbl,m⟩:Mem Ar).load ⟨nx,k,none⟩ 1=some [v]:=fun m k v hv=>mem_load hlk rfl hv
  have lt:∀ m,(⟨[],(nx,AObj.cells (actC (ob,p1,p2))) :: tbl,m⟩:Mem Ar).load ⟨tb,0,none⟩ 1=some [pO]:=fun m=>mem_load F1'.lt rfl rfl
  have la:∀ (m q y:Nat),S[q]? = some y → (⟨[],(nx,AObj.cells (actC (ob,p1,p2))) :: tbl,m⟩:Mem Ar).load ⟨ka,0 + q * 1,none⟩ 1=some [nI y]:=fun m q y hq=>mem_load F1'.la rfl (row_get hq)
  have ixl:∀ p,p % S.length < S.length:=fun p=>Nat.mod_lt _ hSl
  have ix:∀ p,∃ y,S[p % S.length]? = some y:=fun p=>⟨S[p % S.length]'(ixl p),List.getElem?_eq_getElem _⟩
  obtain ⟨y1,hy1⟩:=ix p1
  obtain ⟨y2,hy2⟩:=ix p2
  have m1:y1 ∈ S:=List.mem_of_getElem? hy1
  have m2:y2 ∈ S:=List.mem_of_getElem? hy2
  have ld1:=fun m=>ld m (0 + 1) (.int .u8 (.ofNat p1)) rfl
  have ld2:=fun m=>ld m (0 + 2) (.int .u8 (.ofNat p2)) rfl
  have la1:=fun m=>la m _ _ hy1
  have la2:=fun m=>la m _ _ hy2
  have cq:ceqs [pO] [pO]=true:=rfl
  have ci:∀ y,ceqs [nI y] [nI y]=true:=fun y=>ceqs_int _ _
  have cu:∀ p,ceqs [Value.int .u8 (.ofNat p)] [Value.int .u8 (.ofNat p)]=true:=fun y=>ceqs_int _ _
  have step:∀ (e':List (Nat × Value)) (tbl':List (Nat × AObj Ar)) (nx':Nat) (x':Ar),look 6 e'=look 6 e → look 7 e'=look 7 e → look 8 e'=look 8 e → look 42 e'=look 42 e → look 43 e'=look 43 e → look 44 e'=look 44 e → TW x' S → Lw S off (actsC l) ka tb tbl' nx' x' →
    blockC 1 (thenC (RF1 (hL S) (n + 1)) (n + 1) (.ops [(none,(.pure 81 (.bin .add .no (.t 44) (.c (.int .i64 (.ofNat 1)))))),(none,(.pure 44 (.mv (.t 81))))]) fun xx e' m'=>match xx with
     | .norm=>∃ j',j' < j ∧ m'.loc=[] ∧ (∃ i x,i + j'=l.length ∧ look 6 e'=some (.slice (some ⟨ka,0,none⟩) S.length S.length) ∧ look 7 e'=some (.bool true) ∧ look 8 e'=some (.pointer (some ⟨tb,0,none⟩)) ∧ look 42 e'=some (.slice ad l.length cp) ∧ look 43 e'=some (vI l.length) ∧ look 44 e'=some (vI i) ∧ TW x S ∧ Lw S off (actsC l) ka tb m'.tbl m'.next x)
     | .exit i=>blockC 0 Q (.exit i) e' m'
     | .ret=>blockC 0 Q .ret e' m') .norm e' ⟨[],tbl',nx'⟩:=by
   intro e' tbl' nx' x' g6 g7 g8 g42 g43 g44 hT hF
   refine blockC_norm (thenC_norm (WC.ops ?_))
   refine WO.add (g44.trans e44) rfl (by simp only [Int.ofNat_eq_natCast]; omega) (by simp only [Int.ofNat_eq_natCast]; omega) (WO.mv rfl (WO.nil ?_))
   exact ⟨j - 1,by omega,rfl,i + 1,x',by omega,g6.trans e6,g7.trans e7,g8.trans e8,g42.trans e42,g43.trans e43,rfl,hT,hF⟩
  refine WO.nil (thenC_norm (WC.seq (WC.ops ?_)))
  refine WO.fadd rfl (WO.load rfl hlk rfl rfl rfl ?_)
  cases ob with
  | true =>
   refine WO.nil (thenC_norm (WC.cond_true rfl (WC.drawnW ?_)))
   obtain ⟨er,x',hs,hT'⟩:=h.cutS m1
   refine WD.load (ev_out e8 rfl rfl) (lt _) rfl (WD.pure (ev_out e6 rfl rfl) ?_)
   refine WD.pure (pv_faddZ (ev_out (v:=.pointer (some ⟨nx,0,none⟩)) rfl rfl rfl)) (WD.load rfl (ld _ _ (.int .u8 (.ofNat p1)) rfl) rfl (WD.pure (pv_conv rfl u1) ?_))
   refine WD.pure (ev_out e6 rfl rfl) (WD.pure (pv_len rfl) (WD.pure (pv_rem rfl rfl hSl) (WD.pure (pv_idxZ rfl rfl rfl (ixl p1)) (WD.load rfl (la _ _ _ hy1) rfl ?_))))
   refine WD.chn rfl rfl rfl (estep_call (vs:=[trO,vI y1]) rfl rfl (call_O (hk:=hookL (hL S)) (F1'.up (Nat.le_add_right _ _)) h.ref hs rfl rfl rfl rfl)) (WD.nil ⟨?_,_,_,rfl,?_⟩)
   ·simp only [heldAll,loadsIn,lt,ld1,la1,cq,ci,cu]
    rfl
   ·exact step _ _ _ x' rfl rfl rfl rfl rfl rfl hT' (F1'.set (Nat.lt_of_lt_of_le F1'.h3 (Nat.le_add_right _ _)))
  | false =>
   refine WO.nil (thenC_norm (WC.cond_false rfl (WC.drawnW ?_)))
   obtain ⟨er,x',hs,hT'⟩:=h.addS m2 m1
   refine WD.load (ev_out e8 rfl rfl) (lt _) rfl (WD.pure (ev_out e6 rfl rfl) ?_)
   refine WD.pure (pv_faddZ (ev_out (v:=.pointer (some ⟨nx,0,none⟩)) rfl rfl rfl)) (WD.load rfl (ld _ _ (.int .u8 (.ofNat p2)) rfl) rfl (WD.pure (pv_conv rfl u2) ?_))
   refine WD.pure (ev_out e6 rfl rfl) (WD.pure (pv_len rfl) (WD.pure (pv_rem rfl rfl hSl) (WD.pure (pv_idxZ rfl rfl rfl (ixl p2)) (WD.load rfl (la _ _ _ hy2) rfl ?_))))
   refine WD.pure (ev_out e6 rfl rfl) ?_
   refine WD.pure (pv_faddZ (ev_out (v:=.pointer (some ⟨nx,0,none⟩)) rfl rfl rfl)) (WD.load rfl (ld _ _ (.int .u8 (.ofNat p1)) rfl) rfl (WD.pure (pv_conv rfl u1) ?_))
   refine WD.pure (ev_out e6 rfl rfl) (WD.pure (pv_len rfl) (WD.pure (pv_rem rfl rfl hSl) (WD.pure (pv_idxZ rfl rfl rfl (ixl p1)) (WD.load rfl (la _ _ _ hy1) rfl ?_))))
   refine WD.chn rfl rfl rfl (estep_call (vs:=[trO,vI y2,vI y1]) rfl rfl (call_O (hk:=hookL (hL S)) (F1'.up (Nat.le_add_right _ _)) h.ref hs rfl rfl rfl rfl)) (WD.nil ⟨?_,_,_,rfl,?_⟩)
   ·simp only [heldAll,loadsIn,lt,ld1,ld2,la1,la2,cq,ci,cu]
    rfl
   ·exact step _ _ _ x' rfl rfl rfl rfl rfl rfl hT' (F1'.set (Nat.lt_of_lt_of_le F1'.h3 (Nat.le_add_right _ _)))
 ·refine WO.nil (thenC_norm (WC.seq (WC.cond_false rfl (WC.exit (thenC_exit (blockC_exit ?_))))))
  exact hQ _ _ _ x e6 e7 e8 h F
end Go.AI
/- The law's map; its subtrees. -/
namespace Go.AI
open Go.Proofs
open Go.Fo (Wd Un Pre Qof)
variable {W0:World} {Cls:Nat → Int → Prop} {x:Ar} {S:List Nat} {off ka tb mb:Nat} {acts:List Value} {tbl:List (Nat × AObj Ar)} {nx:Nat}
def ents:Nat → List Nat → List (Value × Value × Nat)
 | _,[]=>[]
 | n,x :: r=>(nI x,nI 1,n) :: ents (n + 1) r
theorem ents_snoc:∀ (n:Nat) (Q:List Nat) (x:Nat),ents n (Q ++ [x])=ents n Q ++ [(nI x,nI 1,n + Q.length)]
 | n,[],x=>rfl
 | n,a :: r,x=>by
  show (nI a,nI 1,n) :: ents (n + 1) (r ++ [x])=(nI a,nI 1,n) :: (ents (n + 1) r ++ _)
  rw [ents_snoc (n + 1) r x]
  have:n + 1 + r.length=n + (a :: r).length:=by simp only [List.length_cons]; omega
  rw [this]
theorem ents_len:∀ (n:Nat) (Q:List Nat),(ents n Q).length=Q.length
 | _,[]=>rfl
 | n,a :: r=>by show (ents (n + 1) r).length + 1=r.length + 1; rw [ents_len]
theorem ieq_ne {a b:Nat} (h:a ≠ b):ieqF (.ofNat a) (.ofNat b)=false:=by
 rw [ieqF_eq]
 simp only [beq_eq_false_iff_ne,ne_eq]
 exact fun e=>h (Int.ofNat.inj e)
theorem key_not {x:Nat}:∀ (Q:List Nat) (n i:Nat),¬ x ∈ Q → keyAt .i64 (.ofNat x) (ents n Q) i=some none
 | [],_,_,_=>rfl
 | a :: r,n,i,h=>by
  have hne:x ≠ a:=fun e=>h (by simp [e])
  show (if IntKind.i64=IntKind.i64 then (bif ieqF (.ofNat x) (.ofNat a) then some (some (i,nI 1,n)) else keyAt .i64 (.ofNat x) (ents (n + 1) r) (i + 1)) else none)=some none
  rw [if_pos rfl,ieq_ne hne,cond_false]
  exact key_not r (n + 1) (i + 1) fun hm=>h (by simp [hm])
theorem key_is {x:Nat}:∀ (Q:List Nat) (n i:Nat),x ∈ Q → ∃ j b,keyAt .i64 (.ofNat x) (ents n Q) i=some (some (j,nI 1,b))
 | [],_,_,h=>by cases h
 | a :: r,n,i,h=>by
  show ∃ j b,(if IntKind.i64=IntKind.i64 then (bif ieqF (.ofNat x) (.ofNat a) then some (some (i,nI 1,n)) else keyAt .i64 (.ofNat x) (ents (n + 1) r) (i + 1)) else none)=some (some (j,nI 1,b))
  rw [if_pos rfl]
  by_cases e:x=a
  ·subst e
   exact ⟨i,n,by rw [ieqF_refl]; rfl⟩
  ·rw [ieq_ne e,cond_false]
   exact key_is r (n + 1) (i + 1) ((List.mem_cons.1 h).resolve_left e)
section
variable {call:CallFn Ar} {env:List (Nat × Value)} {m:Mem Ar}
theorem estep_mget_no {d i c:Nat} {x y:Opd} {k:IntKind} {n:Int} {es:List (Value × Value × Nat)} {z:Value} (hx:evo env x=some (.map (some i))) (hy:evo env y=some (.int k n)) (hi:m.get i=some (.map es c)) (hn:keyAt k n es 0=some none):estep call env m (.mget d [z] false false x y)=some (z,m):=by
 simp only [estep,mstep,hx,hy,hi,hn,cond_false]
theorem estep_mget_is {d i c j b:Nat} {x y:Opd} {k:IntKind} {n:Int} {es:List (Value × Value × Nat)} {z v:Value} (hx:evo env x=some (.map (some i))) (hy:evo env y=some (.int k n)) (hi:m.get i=some (.map es c)) (hn:keyAt k n es 0=some (some (j,v,b))):estep call env m (.mget d [z] false false x y)=some (v,m):=by
 simp only [estep,mstep,hx,hy,hi,hn,cond_false]
theorem estep_mset {i c:Nat} {x y u:Opd} {k vk:IntKind} {n vn:Int} {es:List (Value × Value × Nat)} (hx:evo env x=some (.map (some i))) (hy:evo env y=some (.int k n)) (hu:evo env u=some (.int vk vn)) (hi:m.get i=some (.map es c)) (hn:keyAt k n es 0=some none):estep call env m (.mset x y u)=some (undef,m.put i (.map (es ++ [(.int k n,.int vk vn,c)]) (c + 1))):=by
 simp only [estep,mstep,hx,hy,hu,hi,hn]
theorem estep_mlen {d i c:Nat} {x:Opd} {es:List (Value × Value × Nat)} (hx:evo env x=some (.map (some i))) (hi:m.get i=some (.map es c)):estep call env m (.mlen d x)=some (.int .i64 (.ofNat es.length),m):=by
 simp only [estep,mstep,hx,hi]
end
theorem loop4 {n:Nat} {D Q:List Nat} {kd:Nat} (hn:1001 ≤ n) (hD:D.length < 1000) (hnd:(Q ++ D).Nodup) (hkm:kd ≠ mb) (hkd:look kd tbl=some (.grown 1 3 (D.map nI))) (hmb:look mb tbl=some (.map (ents 0 Q) Q.length)) {e:List (Nat × Value)} {P:Ex → List (Nat × Value) → Mem Ar → Prop}
  (e11:look 11 e=some (.map (some mb))) (e95:look 95 e=some (.slice (some ⟨kd,0,none⟩) D.length D.length)) (e96:look 96 e=some (vI D.length)) (e97:look 97 e=some (vI 0))
  (hQ:∀ e',(∀ t,t ≠ 15 → t < 97 → look t e'=look t e) → P .norm e' ⟨[],upd mb (.map (ents 0 (Q ++ D)) (Q ++ D).length) tbl,nx⟩) :
  WC (RF1 (hL S) (n + 1)) (n + 1) cTreeOnce4 e ⟨[],tbl,nx⟩ P:=by
 unfold cTreeOnce4
 refine WC.block ?_
 refine WC.loop (fun j e' tbl' nx'=>∃ i,i + j=D.length ∧ (∀ t,t ≠ 15 → t < 97 → e' t=look t e) ∧ e' 97=some (vI i) ∧ tbl'=upd mb (.map (ents 0 (Q ++ D.take i)) (Q ++ D.take i).length) tbl ∧ nx'=nx) (k:=D.length) (by omega)
  ⟨0,by omega,fun t _ _=>rfl,e97,by rw [List.take_zero,List.append_nil,upd_self hmb],rfl⟩ ?_
 rintro j e' tbl' nx' ⟨i,hj,he,f97,rfl,rfl⟩
 have f11:=(he 11 (by decide) (by decide)).trans e11
 have f95:=(he 95 (by decide) (by decide)).trans e95
 have f96:=(he 96 (by decide) (by decide)).trans e96
 dsimp only at f11 f95 f96 f97
 refine WC.seq (WC.ops (WO.lssS f97 f96 (fun hz=>?_) (fun hz=>?_)))
 ·have hi:i < D.length:=by simp only [Int.ofNat_eq_natCast] at hz; omega
  obtain ⟨a,ha⟩:∃ a,D[i]? = some a:=⟨D[i],List.getElem?_eq_getElem hi⟩
  have htk:D.take (i + 1)=D.take i ++ [a]:=by
   rw [List.take_add_one,ha]; rfl
  have hfr:¬ a ∈ Q ++ D.take i:=by
   intro hm
   have h1:D=D.take i ++ a :: D.drop (i + 1):=by
    have h2:=List.take_append_drop (i + 1) D
    rw [htk] at h2
    rw [List.append_assoc] at h2
    exact h2.symm
   rw [h1,← List.append_assoc,List.nodup_append] at hnd
   exact hnd.2.2 a hm a (by simp) rfl
  generalize hQ':Q ++ D.take i=R at hfr
  have hm1:look mb (upd mb (AObj.map (ents 0 R) R.length) tbl)=some (.map (ents 0 R) R.length):=look_upd_same hmb
  have hk1:look kd (upd mb (AObj.map (ents 0 R) R.length) tbl)=some (.grown 1 3 (D.map nI)):=(look_upd_ne hkm).trans hkd
  refine WO.nil (thenC_norm (WC.seq (WC.cond_true rfl (WC.skip (thenC_norm (WC.seq (WC.block (WC.seq (WC.ops ?_)))))))))
  refine WO.idxL f95 f97 rfl hi (WO.load rfl hk1 rfl (row_get ha) rfl (WO.mv rfl (WO.nil (thenC_norm (WC.ops ?_)))))
  refine WO.mv f11 (WO.mv rfl (WO.step (i:=.mget 103 [.int .i64 (.ofNat 0)] false false (.t 101) (.t 102)) (estep_mget_no (z:=.int .i64 (.ofNat 0)) rfl rfl hm1 (key_not R 0 0 hfr)) ?_))
  refine WO.add rfl rfl (by decide) (by decide) (WO.step (i:=.mset (.t 101) (.t 102) (.t 104)) (estep_mset (vn:=.ofNat 0 + .ofNat 1) rfl rfl rfl hm1 (key_not R 0 0 hfr)) ?_)
  refine WO.nil (blockC_norm (thenC_norm (WC.ops (WO.add f97 rfl (by simp only [Int.ofNat_eq_natCast]; omega) (by simp only [Int.ofNat_eq_natCast]; omega) (WO.mv rfl (WO.nil ?_))))))
  refine ⟨j - 1,by omega,rfl,i + 1,by omega,fun t h1 h2=>?_,rfl,?_,rfl⟩
  ·repeat first | exact he t h1 h2 | refine (look_ne (by omega)).trans ?_
  ·show upd mb (AObj.map (ents 0 R ++ [(nI a,Value.int .i64 (.ofNat 0 + .ofNat 1),R.length)]) (R.length + 1)) (upd mb (AObj.map (ents 0 R) R.length) tbl)=_
   rw [upd_upd,htk,← List.append_assoc,hQ',ents_snoc,Nat.zero_add,List.length_append]
   rfl
 ·have hi:i=D.length:=by simp only [Int.ofNat_eq_natCast] at hz; omega
  refine WO.nil (thenC_norm (WC.seq (WC.cond_false rfl (WC.exit (thenC_exit (blockC_exit ?_))))))
  rw [hi,List.take_length]
  refine hQ _ fun t h1 h2=>?_
  exact (look_ne (by omega)).trans (he t h1 h2)
end Go.AI
/- The law's subtree, child by child; its nodes, one by one. -/
namespace Go.AI
open Go.Proofs
open Go.Fo (Wd Un Pre Qof)
variable {W0:World} {Cls:Nat → Int → Prop} {x:Ar} {S:List Nat} {off ka tb mb:Nat} {acts:List Value} {tbl:List (Nat × AObj Ar)} {nx:Nat}
theorem idxI_in {L:List Nat} {v:Nat} (h:v ∈ L):idxI L v = .ofNat (L.idxOf v):=if_pos h
theorem TW.under (h:TW x S) {a top:Nat} (ha:a ∈ S) (ht:top ∈ S) {b:Bool} (hb:b=true ↔ Un (wds x S) top a):spTUnder S x [trC,vI a,vI top]=some (.bool b,x):=by
 classical
 have hc:TW x S ∧ a ∈ S ∧ top ∈ S:=⟨h,ha,ht⟩
 simp only [spTUnder,if_pos hc]
 congr 3
 cases b with
 | true=>exact decide_eq_true (hb.1 rfl)
 | false=>exact decide_eq_false fun hu=>by have:=hb.2 hu; cases this
theorem loop6 {n:Nat} (hn:1003 ≤ n) (hS:S.length < 900) (h:TW x S) {at_:Nat} {T:List Nat} (hat:at_ ∈ S) (hD:Pre S (kidsX x S) at_=at_ :: T) {kd ku c:Nat} {ad:Option Addr} (hT:T ≠ [] → ad=some ⟨kd,0 + 1 * 1,none⟩)
  (F:Lw S off acts ka tb tbl nx x) (d1:tb < kd) (d2:kd < nx) (u1:tb < ku) (u2:ku < nx) (hkd:look kd tbl=some (.grown 1 3 ((at_ :: T).map nI))) (hku:look ku tbl=some (.grown 1 3 ((at_ :: T).reverse.map nI)))
  {e:List (Nat × Value)} {P:Ex → List (Nat × Value) → Mem Ar → Prop}
  (e8:look 8 e=some (.pointer (some ⟨tb,0,none⟩))) (e13:look 13 e=some (vI at_)) (e16:look 16 e=some (.slice (some ⟨kd,0,none⟩) (at_ :: T).length (at_ :: T).length)) (e17:look 17 e=some (.slice (some ⟨ku,0,none⟩) (at_ :: T).reverse.length (at_ :: T).reverse.length))
  (e140:look 140 e=some (.slice ad T.length c)) (e141:look 141 e=some (vI T.length)) (e142:look 142 e=some (vI 0))
  (hQ:∀ e' tbl' nx',(∀ t,t < 19 → look t e'=look t e) → (∀ t,82 < t → t < 87 → look t e'=look t e) → (∀ j,j < nx → look j tbl'=look j tbl) → nx ≤ nx' → P .norm e' ⟨[],tbl',nx'⟩) :
  WC (RF1 (hL S) (n + 1)) (n + 1) cTreeOnce6 e ⟨[],tbl,nx⟩ P:=by
 have I:=depX_inv h
 have hnd:(at_ :: T).Nodup:=hD ▸ I.nodup_pre at_ hat
 have hDS:(at_ :: T).length ≤ S.length:=hD ▸ h.pre_len hat
 have hDl:(at_ :: T).length < 1000:=by omega
 have hUl:(at_ :: T).reverse.length < 1000:=by rw [List.length_reverse]; omega
 unfold cTreeOnce6
 refine WC.block ?_
 refine WC.loop (fun j e' tbl' nx'=>∃ i,i + j=T.length ∧ (∀ t,t < 19 → e' t=look t e) ∧ (∀ t,82 < t → t < 87 → e' t=look t e) ∧ e' 140=look 140 e ∧ e' 141=look 141 e ∧ e' 142=some (vI i) ∧ (∀ j,j < nx → look j tbl'=look j tbl) ∧ nx ≤ nx') (k:=T.length) (by simp only [List.length_cons] at hDl; omega)
  ⟨0,by omega,fun t _=>rfl,fun t _ _=>rfl,rfl,rfl,e142,fun j _=>rfl,Nat.le_refl _⟩ ?_
 rintro j e' tbl' nx' ⟨i,hj,he,he2,g140,g141,f142,htl,hnx⟩
 have f8:=(he 8 (by decide)).trans e8
 have f13:=(he 13 (by decide)).trans e13
 have f16:=(he 16 (by decide)).trans e16
 have f17:=(he 17 (by decide)).trans e17
 have f140:=g140.trans e140
 have f141:=g141.trans e141
 have F':Lw S off acts ka tb tbl' nx' x:=by
  have a:=F.h1
  have b:=F.h2
  have cc:=F.h3
  exact ⟨(htl _ (by omega)).trans F.l0,(htl _ (by omega)).trans F.li,(htl _ (by omega)).trans F.lb,(htl _ (by omega)).trans F.lr,(htl _ (by omega)).trans F.la,(htl _ (by omega)).trans F.lt,a,b,by omega⟩
 have hkd':=(htl kd d2).trans hkd
 have hku':=(htl ku u2).trans hku
 dsimp only at f8 f13 f16 f17 f140 f141 f142
 refine WC.seq (WC.ops (WO.lssS f142 f141 (fun hz=>?_) (fun hz=>?_)))
 ·have hi:i < T.length:=by simp only [Int.ofNat_eq_natCast] at hz; omega
  have hTne:T ≠ []:=fun e=>by rw [e] at hi; simp at hi
  obtain ⟨y,hy⟩:∃ y,T[i]? = some y:=⟨T[i],List.getElem?_eq_getElem hi⟩
  have hyT:y ∈ T:=List.mem_of_getElem? hy
  have hyD:y ∈ at_ :: T:=by simp [hyT]
  have hya:y ≠ at_:=fun e=>(List.nodup_cons.1 hnd).1 (e ▸ hyT)
  have hyP:y ∈ Pre S (kidsX x S) at_:=hD ▸ hyD
  obtain ⟨hyS,hyu⟩:=(I.mem_pre at_ hat y).1 hyP
  obtain ⟨hp0,hsub⟩:=I.ahead at_ hat y hyP hya
  rw [hD] at hsub
  obtain ⟨hpS,hyk⟩:=I.par y hyS hp0
  have hpD:(wds x S).par y ∈ at_ :: T:=hsub.subset (by simp)
  have hix:=Go.Fo.idx_lt hnd hsub
  have hiu:=Go.Fo.idx_rev hnd hsub
  have hpU:(wds x S).par y ∈ (at_ :: T).reverse:=List.mem_reverse.2 hpD
  have hyU:y ∈ (at_ :: T).reverse:=List.mem_reverse.2 hyD
  have hnu:¬ Un (wds x S) y at_:=fun hu=>by
   have h1:=hu.dep I hat
   have h2:=hyu.dep I hyS
   exact hya (h1.2 (by omega))
  obtain ⟨z,zs,hkz⟩:∃ z zs,kidsX x S ((wds x S).par y)=z :: zs:=by
   cases hk:kidsX x S ((wds x S).par y) with
   | nil=>rw [hk] at hyk; cases hyk
   | cons z zs=>exact ⟨z,zs,rfl⟩
  have hkids:=h.kids hpS
  rw [hkz] at hkids hyk
  have hkl:(z :: zs).length < 1000:=by
   have:=Go.Fo.nodup_len _ _ (I.nd _ hpS) fun b hb=>(I.kid hpS hb).1
   rw [hkz] at this; omega
  have had:=hT hTne
  rw [had] at f140
  have hld:takeN ((at_ :: T).map nI) (0 + 1 * 1 + i * 1) 1=some [nI y]:=by
   have h1:(at_ :: T)[1 + i]? = some y:=by rw [Nat.add_comm]; simpa using hy
   have h2:=row_get h1
   rw [show 0 + 1 * 1 + i * 1=0 + (1 + i) * 1 by omega]
   exact h2
  obtain ⟨m,rfl⟩:∃ m,n=m + 3:=⟨n - 3,by omega⟩
  refine WO.nil (thenC_norm (WC.seq (WC.cond_true rfl (WC.skip (thenC_norm (WC.seq (WC.block (WC.seq (WC.ops ?_)))))))))
  refine WO.idxL f140 f142 rfl hi (WO.load rfl hkd' rfl hld rfl (WO.mv rfl (WO.nil (thenC_norm (WC.seq (WC.ops ?_))))))
  refine WO.load f8 F'.lt rfl rfl rfl (WO.mv rfl (WO.rdO F' h.ref (h.par hyS) rfl rfl rfl rfl rfl rfl (WO.mv rfl (WO.nil (thenC_norm (WC.seq (WC.ops ?_)))))))
  refine WO.mv f16 (WO.mv rfl ?_)
  refine WO.fcall_ex (vs:=[.slice (some ⟨kd,0,none⟩) (at_ :: T).length (at_ :: T).length,vI ((wds x S).par y)]) rfl rfl (index_run (hk:=hL S) rfl (nx:=nx') (n:=m + 3) hDl (by omega) hkd') ?_
  rintro v1 g1 ⟨rfl,rfl⟩
  refine WO.mv f16 (WO.mv rfl ?_)
  refine WO.fcall_ex (vs:=[.slice (some ⟨kd,0,none⟩) (at_ :: T).length (at_ :: T).length,vI y]) rfl rfl (index_run (hk:=hL S) rfl (nx:=nx') (n:=m + 3) hDl (by omega) hkd') ?_
  rintro v2 g2 ⟨rfl,rfl⟩
  rw [idxI_in hpD,idxI_in hyD]
  refine WO.gtrS rfl rfl (fun hg=>?_) (fun _=>?_)
  ·exfalso; simp only [Int.ofNat_eq_natCast] at hg; omega
  refine WO.mv rfl (WO.take rfl rfl (WO.mv f17 (WO.take rfl rfl (WO.mv rfl (WO.take rfl rfl ?_)))))
  refine WO.fcall_ex (vs:=[.slice (some ⟨ku,0,none⟩) (at_ :: T).reverse.length (at_ :: T).reverse.length,vI ((wds x S).par y)]) rfl rfl (index_run (hk:=hL S) rfl (nx:=nx') (n:=m + 3) hUl (by omega) hku') ?_
  rintro v3 g3 ⟨rfl,rfl⟩
  refine WO.take rfl rfl (WO.mv f17 (WO.take rfl rfl (WO.mv rfl (WO.take rfl rfl ?_))))
  refine WO.fcall_ex (vs:=[.slice (some ⟨ku,0,none⟩) (at_ :: T).reverse.length (at_ :: T).reverse.length,vI y]) rfl rfl (index_run (hk:=hL S) rfl (nx:=nx') (n:=m + 3) hUl (by omega) hku') ?_
  rintro v4 g4 ⟨rfl,rfl⟩
  rw [idxI_in hpU,idxI_in hyU]
  refine WO.take rfl rfl (WO.lssS rfl rfl (fun hg=>?_) (fun _=>?_))
  ·exfalso; simp only [Int.ofNat_eq_natCast] at hg; omega
  refine WO.pure rfl (WO.mv rfl (WO.take rfl rfl (WO.load f8 F'.lt rfl rfl rfl (WO.take rfl rfl (WO.mv rfl (WO.take rfl rfl ?_))))))
  refine WO.rowO F' h.ref hkids rfl rfl rfl rfl rfl (WO.take rfl rfl (WO.mv rfl (WO.take rfl rfl ?_)))
  refine WO.fcall_ex (vs:=[.slice (some ⟨nx',0,none⟩) (z :: zs).length (z :: zs).length,vI y]) rfl rfl (contains_run (hk:=hL S) rfl rfl (tbl:=(nx',.grown 1 3 ((z :: zs).map nI)) :: tbl') (k:=nx') (nx:=nx' + 1) (T:=3) (n:=m + 2) hkl (by omega) (by rw [look_cons,if_pos rfl])) ?_
  rintro v5 g5 ⟨rfl,rfl⟩
  have F'':Lw S off acts ka tb ((nx',.grown 1 3 ((z :: zs).map nI)) :: tbl') (nx' + 1) x:=F'.cons F'.h3 (Nat.lt_succ_of_lt F'.h3)
  rw [decide_eq_true hyk]
  refine WO.take rfl rfl (WO.pure rfl (WO.pure rfl (WO.mv rfl (WO.take rfl rfl (WO.load f8 F''.lt rfl rfl rfl (WO.take rfl rfl (WO.mv f13 (WO.take rfl rfl (WO.mv rfl (WO.take rfl rfl ?_))))))))))
  refine WO.rdO F'' h.ref (h.under hat hyS (b:=false) ⟨fun e=>(by cases e),fun hu=>absurd hu hnu⟩) rfl rfl rfl rfl rfl rfl ?_
  refine WO.pure rfl (WO.mv rfl (WO.take rfl rfl (WO.load f8 F''.lt rfl rfl rfl (WO.take rfl rfl (WO.mv rfl (WO.take rfl rfl (WO.mv f13 (WO.take rfl rfl ?_))))))))
  refine WO.rdO F'' h.ref (h.under hyS hat (b:=true) ⟨fun _=>hyu,fun _=>rfl⟩) rfl rfl rfl rfl rfl rfl ?_
  refine WO.take rfl rfl (WO.pure rfl (WO.pure rfl (WO.nil (thenC_norm (WC.cond_false rfl (WC.skip (blockC_norm (thenC_norm (WC.ops ?_)))))))))
  refine WO.add f142 rfl (by simp only [Int.ofNat_eq_natCast,List.length_cons] at *; omega) (by simp only [Int.ofNat_eq_natCast,List.length_cons] at *; omega) (WO.mv rfl (WO.nil ?_))
  refine ⟨j - 1,by omega,rfl,i + 1,by omega,fun t ht=>?_,fun t h1 h2=>?_,g140,g141,rfl,fun q hq=>?_,Nat.le_trans hnx (Nat.le_succ _)⟩
  ·repeat first | exact he t ht | refine (look_ne (by omega)).trans ?_
  ·repeat first | exact he2 t h1 h2 | refine (look_ne (by omega)).trans ?_
  ·exact (look_ne (by omega)).trans (htl q hq)
 ·have hi:i=T.length:=by simp only [Int.ofNat_eq_natCast] at hz; omega
  refine WO.nil (thenC_norm (WC.seq (WC.cond_false rfl (WC.exit (thenC_exit (blockC_exit ?_))))))
  refine hQ _ _ _ (fun t ht=>?_) (fun t h1 h2=>?_) htl hnx
  ·exact (look_ne (by omega)).trans (he t ht)
  ·exact (look_ne (by omega)).trans (he2 t h1 h2)
end Go.AI
/- The law's nodes, one by one; its last count. -/
namespace Go.AI
open Go.Proofs
open Go.Fo (Wd Un Pre Qof)
variable {W0:World} {Cls:Nat → Int → Prop} {x:Ar} {S:List Nat} {off ka tb mb:Nat} {acts:List Value} {tbl:List (Nat × AObj Ar)} {nx:Nat}
theorem pv_slL1 {env:List (Nat × Value)} {x:Opd} {k t:Nat} (hx:evo env x=some (.slice (some ⟨k,0,none⟩) (t + 1) (t + 1))):∃ ad c,peval env (.slL 1 x (some (.c (.int .i64 (.ofNat 1)))) none none)=some (.slice ad t c) ∧ (t ≠ 0 → ad=some ⟨k,0 + 1 * 1,none⟩):=by
 have h1:Nat.ble (t + 1) (t + 1)=true:=by rw [Nat.ble_eq]; exact Nat.le_refl _
 have h2:Nat.ble 1 (t + 1)=true:=by rw [Nat.ble_eq]; omega
 have hb:bounds (t + 1) (t + 1) (some (.int .i64 (.ofNat 1))) none none=some (1,t + 1,t + 1):=by
  simp only [bounds,natOpt,natOf,h1,h2,Option.isSome,Option.isNone,Bool.and_self,Bool.or_true,cond_true]
 have hp:peval env (.slL 1 x (some (.c (.int .i64 (.ofNat 1)))) none none)=sliceL 1 (some ⟨k,0,none⟩) (t + 1) (t + 1) (some (.int .i64 (.ofNat 1))) none none:=by
  have he:evo env (.c (.int .i64 (.ofNat 1)))=some (.int .i64 (.ofNat 1)):=rfl
  simp only [peval,hx,evopt,he,Option.map]
 rw [hp]
 unfold sliceL
 rw [hb]
 cases t with
 | zero=>exact ⟨_,_,rfl,fun h=>absurd rfl h⟩
 | succ t =>
  have h3:Nat.blt 1 (t + 1 + 1)=true:=by rw [blt_iff]; exact decide_eq_true (by omega)
  refine ⟨some ⟨k,0 + 1 * 1,none⟩,t + 1,?_,fun _=>rfl⟩
  simp only [h3,Bool.true_or,cond_true]
  rfl
theorem loads_all {ad:Addr} {n lo hi:Nat} {r:List Value} (hc:ceqs r r=true):∀ {ms:List (Mem Ar)},(∀ m,m ∈ ms → m.load ad n=some r) → loadsIn ad n r lo hi ms=true
 | [],_=>rfl
 | m :: ms,h=>by
  unfold loadsIn
  rw [h m (by simp),loads_all hc fun m' hm=>h m' (by simp [hm])]
  simp only [hc]
  cases (Nat.ble lo ms.length && Nat.ble ms.length hi) <;> rfl
theorem held_cons {bf:List (List Nat)} {Z:DS Ar} {k n:Nat} {ad:Addr} {r:List Value} {l:List (Nat × Addr × Nat × List Value)} (hc:ceqs r r=true) (h:∀ m,m ∈ Z.snaps → m.load ad n=some r) (hl:heldAll bf Z l=true):heldAll bf Z ((k,ad,n,r) :: l)=true:=by
 unfold heldAll
 rw [loads_all hc h,hl]; rfl
theorem Lw.map (F:Lw S off acts ka tb tbl nx x) {o:AObj Ar} (h:tb < mb):Lw S off acts ka tb (upd mb o tbl) nx x:=by
 have a:=F.h1
 have b:=F.h2
 have hk:∀ j,j ≤ tb → look j (upd mb o tbl)=look j tbl:=fun j hj=>look_upd_ne (by omega)
 exact ⟨(hk _ (by omega)).trans F.l0,(hk _ (by omega)).trans F.li,(hk _ (by omega)).trans F.lb,(hk _ (by omega)).trans F.lr,(hk _ (by omega)).trans F.la,(hk _ (by omega)).trans F.lt,a,b,F.h3⟩
structure Ev (S:List Nat) (ka tb mb i:Nat) (e:Nat → Option Value):Prop where
 e6:e 6=some (.slice (some ⟨ka,0,none⟩) S.length S.length)
 e7:e 7=some (.bool true)
 e8:e 8=some (.pointer (some ⟨tb,0,none⟩))
 e11:e 11=some (.map (some mb))
 e83:e 83=some (.slice (some ⟨ka,0,none⟩) S.length S.length)
 e84:e 84=some (vI S.length)
 e85:e 85=some (vI i)
theorem Ev.of {i:Nat} {e e':Nat → Option Value} (h:Ev S ka tb mb i e) (h1:∀ t,t < 12 → e' t=e t) (h2:∀ t,82 < t → t < 86 → e' t=e t):Ev S ka tb mb i e' :=
 ⟨(h1 _ (by decide)).trans h.e6,(h1 _ (by decide)).trans h.e7,(h1 _ (by decide)).trans h.e8,(h1 _ (by decide)).trans h.e11,(h2 _ (by decide) (by decide)).trans h.e83,(h2 _ (by decide) (by decide)).trans h.e84,(h2 _ (by decide) (by decide)).trans h.e85⟩
abbrev QX (x:Ar) (S l:List Nat):List Nat:=Qof (wds x S) S (kidsX x S) l
theorem loop2 {n:Nat} (hn:1003 ≤ n) (hS:S.length < 900) (hnd:S.Nodup) (h:TW x S) (F:Lw S off acts ka tb tbl nx x) (m1:tb < mb) (m2:mb < nx) (hmb:look mb tbl=some (.map [] 0))
  {e:List (Nat × Value)} {P:Ex → List (Nat × Value) → Mem Ar → Prop} (hE:Ev S ka tb mb 0 fun t=>look t e)
  (hQ:∀ e' tbl' nx',Ev S ka tb mb S.length (fun t=>look t e') → Lw S off acts ka tb tbl' nx' x → look mb tbl'=some (.map (ents 0 (QX x S S)) (QX x S S).length) → P .norm e' ⟨[],tbl',nx'⟩) :
  WC (RF1 (hL S) (n + 1)) (n + 1) cTreeOnce2 e ⟨[],tbl,nx⟩ P:=by
 have I:=depX_inv h
 unfold cTreeOnce2
 refine WC.block ?_
 refine WC.loop (fun j e tbl nx=>∃ i,i + j=S.length ∧ Ev S ka tb mb i e ∧ Lw S off acts ka tb tbl nx x ∧ look mb tbl=some (.map (ents 0 (QX x S (S.take i))) (QX x S (S.take i)).length) ∧ mb < nx) (k:=S.length) (by omega)
  ⟨0,by omega,hE,F,hmb,m2⟩ ?_
 clear hE F hmb m2
 rintro j e tbl nx ⟨i,hj,hE,F,hmb,m2⟩
 refine WC.seq (WC.ops (WO.lssS hE.e85 hE.e84 (fun hz=>?_) (fun hz=>?_)))
 ·have hi:i < S.length:=by simp only [Int.ofNat_eq_natCast] at hz; omega
  obtain ⟨a,ha⟩:∃ a,S[i]? = some a:=⟨S[i],List.getElem?_eq_getElem hi⟩
  have haS:a ∈ S:=List.mem_of_getElem? ha
  have htk:S.take (i + 1)=S.take i ++ [a]:=by rw [List.take_add_one,ha]; rfl
  have hsp:S=S.take i ++ a :: S.drop (i + 1):=by
   have h2:=List.take_append_drop (i + 1) S
   rw [htk,List.append_assoc] at h2
   exact h2.symm
  have hqs:QX x S (S.take (i + 1))=QX x S (S.take i) ++ if (wds x S).par a=0 then Pre S (kidsX x S) a else []:=by
   rw [htk]; exact Go.Fo.qof_snoc
  have hqn:(QX x S (S.take (i + 1))).Nodup:=by rw [htk]; exact I.qof_part hnd hsp
  obtain ⟨T,hD⟩:∃ T,Pre S (kidsX x S) a=a :: T:=⟨_,I.pre_eq haS⟩
  have hdown:=h.down haS
  have hup:=h.up haS
  have hDS:(a :: T).length ≤ S.length:=hD ▸ h.pre_len haS
  obtain ⟨z,zs,hr⟩:∃ z zs,(a :: T).reverse=z :: zs:=by
   cases hr:(a :: T).reverse with
   | nil=>simp at hr
   | cons z zs=>exact ⟨z,zs,rfl⟩
  have hrl:(z :: zs).length=(a :: T).length:=by rw [← hr,List.length_reverse]
  refine WO.nil (thenC_norm (WC.seq (WC.cond_true rfl (WC.skip (thenC_norm (WC.seq (WC.block (WC.seq (WC.ops ?_)))))))))
  refine WO.idxL hE.e83 hE.e85 rfl hi (WO.load rfl F.la rfl (row_get ha) rfl (WO.mv rfl (WO.nil (thenC_norm (WC.seq ?_)))))
  refine WC.mono (Q:=fun xx e' m'=>xx = .norm ∧ ∃ tbl' nx',m'=⟨[],tbl',nx'⟩ ∧ Ev S ka tb mb i (fun t=>look t e') ∧ look 13 e'=some (vI a) ∧ Lw S off acts ka tb tbl' nx' x ∧ look mb tbl'=some (.map (ents 0 (QX x S (S.take (i + 1)))) (QX x S (S.take (i + 1))).length) ∧ mb < nx') ?_ ?_
  ·refine WC.seq (WC.ops (WO.load hE.e8 F.lt rfl rfl rfl (WO.mv rfl (WO.rdO F h.ref (h.par haS) rfl rfl rfl rfl rfl rfl (WO.eqlS rfl rfl (fun hp=>?_) (fun hp=>?_))))))
   ·have hp0:(wds x S).par a=0:=Int.ofNat.inj hp
    rw [if_pos hp0,hD] at hqs
    rw [hqs] at hqn ⊢
    refine WO.nil (thenC_norm (WC.cond_true rfl (WC.seq (WC.ops (WO.load hE.e8 F.lt rfl rfl rfl (WO.mv rfl ?_))))))
    refine WO.rowO F h.ref (hD ▸ hdown) rfl rfl rfl rfl rfl (WO.len rfl (WO.mv rfl (WO.nil (thenC_norm ?_))))
    have hkm:nx ≠ mb:=by omega
    have hmb':look mb ((nx,AObj.grown 1 3 ((a :: T).map nI)) :: tbl)=some (.map (ents 0 (QX x S (S.take i))) (QX x S (S.take i)).length):=(look_ne (by omega)).trans hmb
    refine loop4 (by omega) (by omega) hqn hkm (by rw [look_cons,if_pos rfl]) hmb' hE.e11 rfl rfl rfl fun e' he'=>?_
    refine ⟨rfl,_,_,rfl,hE.of (fun t ht=>?_) (fun t t1 t2=>?_),(he' 13 (by decide) (by decide)).trans rfl,(F.cons F.h3 (Nat.lt_succ_of_lt F.h3)).map m1,look_upd_same hmb',by omega⟩
    ·refine (he' t (by omega) (by omega)).trans ?_
     repeat first | rfl | refine (look_ne (by omega)).trans ?_
    ·refine (he' t (by omega) (by omega)).trans ?_
     repeat first | rfl | refine (look_ne (by omega)).trans ?_
   ·have hp0:(wds x S).par a ≠ 0:=fun e=>hp (by rw [e])
    rw [if_neg hp0,List.append_nil] at hqs
    rw [hqs]
    refine WO.nil (thenC_norm (WC.cond_false rfl (WC.skip ?_)))
    refine ⟨rfl,_,_,rfl,hE.of (fun t ht=>?_) (fun t t1 t2=>?_),rfl,F,hmb,m2⟩
    ·repeat first | rfl | refine (look_ne (by omega)).trans ?_
    ·repeat first | rfl | refine (look_ne (by omega)).trans ?_
  ·rintro xx e1 m1' ⟨rfl,tbl1,nx1,rfl,hE1,f13,F1',hmb1,m21⟩
   have hb13:=f13
   have e8:look 8 e1=some (.pointer (some ⟨tb,0,none⟩)):=hE1.e8
   have F2:Lw S off acts ka tb tbl1 (nx1 + 8) x:=F1'.up (Nat.le_add_right _ _)
   have F3:Lw S off acts ka tb ((nx1 + 8,.grown 1 3 ((a :: T).map nI)) :: tbl1) (nx1 + 8 + 1) x:=F2.cons (by have:=F1'.h3; omega) (by have:=F1'.h3; omega)
   have F4:Lw S off acts ka tb ((nx1 + 8 + 1,.grown 1 3 ((z :: zs).map nI)) :: (nx1 + 8,.grown 1 3 ((a :: T).map nI)) :: tbl1) (nx1 + 8 + 1 + 1) x:=F3.cons (by have:=F1'.h3; omega) (by have:=F1'.h3; omega)
   have lt2:∀ m,(⟨[],tbl1,m⟩:Mem Ar).load ⟨tb,0,none⟩ 1=some [pO]:=fun m=>mem_load F2.lt rfl rfl
   have lt3:∀ m,(⟨[],(nx1 + 8,AObj.grown 1 3 ((a :: T).map nI)) :: tbl1,m⟩:Mem Ar).load ⟨tb,0,none⟩ 1=some [pO]:=fun m=>mem_load F3.lt rfl rfl
   have lt4:∀ m,(⟨[],(nx1 + 8 + 1,AObj.grown 1 3 ((z :: zs).map nI)) :: (nx1 + 8,AObj.grown 1 3 ((a :: T).map nI)) :: tbl1,m⟩:Mem Ar).load ⟨tb,0,none⟩ 1=some [pO]:=fun m=>mem_load F4.lt rfl rfl
   have cq:ceqs [pO] [pO]=true:=rfl
   have hdn':spTDown S x [trC,vI a]=some (a :: T):=hD ▸ hdown
   have hup':spTUp S x [trC,vI a]=some (z :: zs):=by rw [hup,hD,hr]
   refine thenC_norm (WC.seq (WC.drawnW ?_))
   refine WD.load (ev_out e8 rfl rfl) (lt2 _) rfl (WD.pure (ev_out hb13 rfl rfl) ?_)
   refine WD.chn rfl rfl rfl (estep_call (vs:=[trO,vI a]) rfl rfl (row_O (hk:=hookL (hL S)) (T:=3) F2 h.ref hdn' rfl rfl rfl)) ?_
   refine WD.load (ev_out e8 rfl rfl) (lt3 _) rfl (WD.pure (ev_out hb13 rfl rfl) ?_)
   refine WD.chn rfl rfl rfl (estep_call (vs:=[trO,vI a]) rfl rfl (row_O (hk:=hookL (hL S)) (T:=3) F3 h.ref hup' rfl rfl rfl)) ?_
   refine WD.pure rfl (WD.pure rfl (WD.nil ⟨?_,_,_,rfl,?_⟩))
   ·have hall:∀ m,m ∈ [(⟨[],(nx1 + 8 + 1,AObj.grown 1 3 ((z :: zs).map nI)) :: (nx1 + 8,AObj.grown 1 3 ((a :: T).map nI)) :: tbl1,nx1 + 8 + 1 + 1⟩:Mem Ar),⟨[],(nx1 + 8,AObj.grown 1 3 ((a :: T).map nI)) :: tbl1,nx1 + 8 + 1⟩,⟨[],tbl1,nx1 + 8⟩] → m.load ⟨tb,0,none⟩ 1=some [pO]:=by
     intro m hm
     rcases List.mem_cons.1 hm with rfl | hm
     ·exact lt4 _
     ·rcases List.mem_cons.1 hm with rfl | hm
      ·exact lt3 _
      ·rw [List.mem_singleton.1 hm]; exact lt2 _
    exact held_cons cq hall (held_cons cq hall rfl)
   have hkd4:look (nx1 + 8) ((nx1 + 8 + 1,AObj.grown 1 3 ((z :: zs).map nI)) :: (nx1 + 8,AObj.grown 1 3 ((a :: T).map nI)) :: tbl1)=some (.grown 1 3 ((a :: T).map nI)):=by
    rw [look_ne (by omega),look_cons,if_pos rfl]
   have hku4:look (nx1 + 8 + 1) ((nx1 + 8 + 1,AObj.grown 1 3 ((z :: zs).map nI)) :: (nx1 + 8,AObj.grown 1 3 ((a :: T).map nI)) :: tbl1)=some (.grown 1 3 ((z :: zs).map nI)):=by rw [look_cons,if_pos rfl]
   have hlast:(z :: zs)[(z :: zs).length - 1]? = some a:=by
    rw [← hr,List.length_reverse,List.getElem?_reverse (by simp)]
    simp
   refine thenC_norm (WC.seq (WC.seq (WC.ops ?_)))
   refine WO.mv rfl (WO.len rfl (WO.mv rfl (WO.len rfl (WO.neqS rfl rfl (fun hg=>absurd (by rw [hrl]) hg) (fun _=>?_)))))
   refine WO.mv rfl (WO.take rfl rfl (WO.mv rfl (WO.take rfl rfl (WO.len rfl (WO.take rfl rfl (WO.lssS rfl rfl (fun hg=>?_) (fun _=>?_)))))))
   ·exfalso; simp only [Int.ofNat_eq_natCast,List.length_cons] at hg; omega
   refine WO.pure rfl (WO.mv rfl (WO.take rfl rfl (WO.mv rfl (WO.take rfl rfl (WO.idxL (n:=0) rfl rfl rfl (by simp) (WO.take rfl rfl (WO.load rfl hkd4 rfl (row_get (A:=a :: T) (q:=0) rfl) rfl ?_)))))))
   refine WO.take rfl rfl (WO.mv f13 (WO.take rfl rfl (WO.neqS rfl rfl (fun hg=>absurd rfl hg) (fun _=>?_))))
   refine WO.pure rfl (WO.mv rfl (WO.take rfl rfl (WO.mv rfl (WO.take rfl rfl (WO.mv rfl (WO.take rfl rfl (WO.len rfl (WO.take rfl rfl ?_))))))))
   refine WO.sub rfl rfl (by simp only [Int.ofNat_eq_natCast,List.length_cons]; omega) (by simp only [Int.ofNat_eq_natCast,List.length_cons] at *; omega) ?_
   refine WO.take rfl rfl (WO.idxL (n:=(z :: zs).length - 1) rfl rfl (by simp only [Int.ofNat_eq_natCast,List.length_cons]; omega) (by simp) (WO.take rfl rfl (WO.load rfl hku4 rfl (row_get hlast) rfl ?_)))
   refine WO.take rfl rfl (WO.mv f13 (WO.take rfl rfl (WO.neqS rfl rfl (fun hg=>absurd rfl hg) (fun _=>?_))))
   refine WO.pure rfl (WO.nil (thenC_norm (WC.cond_false rfl (WC.skip (thenC_norm (WC.seq (WC.ops (WO.mv rfl ?_))))))))
   obtain ⟨ad,c,hsl,had⟩:=pv_slL1 (x:=.t 139) (k:=nx1 + 8) (t:=T.length) (env:=(139,.slice (some ⟨nx1 + 8,0,none⟩) (a :: T).length (a :: T).length) :: _) rfl
   refine WO.pure hsl (WO.len rfl (WO.mv rfl (WO.nil (thenC_norm ?_))))
   refine loop6 (kd:=nx1 + 8) (ku:=nx1 + 8 + 1) hn hS h haS hD (fun hT=>had fun hl=>hT (List.length_eq_zero_iff.1 hl)) F4 (by have:=F1'.h3; omega) (by omega) (by have:=F1'.h3; omega) (by omega) hkd4 (by rw [hr]; exact hku4) e8 f13 rfl (by rw [hr]; rfl) rfl rfl rfl fun e2 tbl2 nx2 g1 g2 g3 g4=>?_
   have hE2:Ev S ka tb mb i (fun t=>look t e2):=hE1.of (fun t ht=>?_) (fun t t1 t2=>?_)
   ·refine blockC_norm (thenC_norm (WC.ops (WO.add hE2.e85 rfl (by simp only [Int.ofNat_eq_natCast]; omega) (by simp only [Int.ofNat_eq_natCast]; omega) (WO.mv rfl (WO.nil ?_)))))
    have hold:∀ q,q < nx1 → look q tbl2=look q tbl1:=fun q hq=>(g3 q (by omega)).trans ((look_ne (by omega)).trans (look_ne (by omega)))
    have a1:=F1'.h1
    have a2:=F1'.h2
    have a3:=F1'.h3
    refine ⟨j - 1,by omega,rfl,i + 1,by omega,⟨hE2.e6,hE2.e7,hE2.e8,hE2.e11,hE2.e83,hE2.e84,rfl⟩,⟨(hold _ (by omega)).trans F1'.l0,(hold _ (by omega)).trans F1'.li,(hold _ (by omega)).trans F1'.lb,(hold _ (by omega)).trans F1'.lr,(hold _ (by omega)).trans F1'.la,(hold _ (by omega)).trans F1'.lt,a1,a2,by show tb < nx2; omega⟩,(hold _ m21).trans hmb1,by show mb < nx2; omega⟩
   ·refine (g1 t (by omega)).trans ?_
    repeat first | rfl | refine (look_ne (by omega)).trans ?_
   ·refine (g2 t (by omega) (by omega)).trans ?_
    repeat first | rfl | refine (look_ne (by omega)).trans ?_
 ·have hi:i=S.length:=by simp only [Int.ofNat_eq_natCast] at hz; omega
  subst hi
  rw [List.take_length] at hmb
  refine WO.nil (thenC_norm (WC.seq (WC.cond_false rfl (WC.exit (thenC_exit (blockC_exit ?_))))))
  refine hQ _ _ _ (hE.of (fun t ht=>?_) (fun t t1 t2=>?_)) F hmb
  ·exact look_ne (by omega)
  ·exact look_ne (by omega)
theorem loop8 {n:Nat} {Q:List Nat} (hn:1001 ≤ n) (hS:S.length < 900) (hm:∀ a,a ∈ S → a ∈ Q) (F:Lw S off acts ka tb tbl nx x) (hmb:look mb tbl=some (.map (ents 0 Q) Q.length))
  {e:List (Nat × Value)} {P:Ex → List (Nat × Value) → Mem Ar → Prop} (e11:look 11 e=some (.map (some mb))) (e188:look 188 e=some (.slice (some ⟨ka,0,none⟩) S.length S.length)) (e189:look 189 e=some (vI S.length)) (e190:look 190 e=some (vI 0))
  (hQ:∀ e',(∀ t,t < 12 → look t e'=look t e) → P .norm e' ⟨[],tbl,nx⟩) :
  WC (RF1 (hL S) (n + 1)) (n + 1) cTreeOnce8 e ⟨[],tbl,nx⟩ P:=by
 unfold cTreeOnce8
 refine WC.block ?_
 refine WC.loop (fun j e' tbl' nx'=>∃ i,i + j=S.length ∧ (∀ t,t < 12 → e' t=look t e) ∧ e' 188=look 188 e ∧ e' 189=look 189 e ∧ e' 190=some (vI i) ∧ tbl'=tbl ∧ nx'=nx) (k:=S.length) (by omega)
  ⟨0,by omega,fun t _=>rfl,rfl,rfl,e190,rfl,rfl⟩ ?_
 rintro j e' tbl' nx' ⟨i,hj,he,g188,g189,f190,rfl,rfl⟩
 have f11:=(he 11 (by decide)).trans e11
 have f188:=g188.trans e188
 have f189:=g189.trans e189
 dsimp only at f11 f188 f189 f190
 refine WC.seq (WC.ops (WO.lssS f190 f189 (fun hz=>?_) (fun hz=>?_)))
 ·have hi:i < S.length:=by simp only [Int.ofNat_eq_natCast] at hz; omega
  obtain ⟨a,ha⟩:∃ a,S[i]? = some a:=⟨S[i],List.getElem?_eq_getElem hi⟩
  obtain ⟨q,b,hk⟩:=key_is Q 0 0 (hm a (List.mem_of_getElem? ha))
  refine WO.nil (thenC_norm (WC.seq (WC.cond_true rfl (WC.skip (thenC_norm (WC.seq (WC.block (WC.seq (WC.ops ?_)))))))))
  refine WO.idxL f188 f190 rfl hi (WO.load rfl F.la rfl (row_get ha) rfl (WO.mv rfl (WO.nil (thenC_norm (WC.seq (WC.ops ?_))))))
  refine WO.mv f11 (WO.mv rfl (WO.step (i:=.mget 196 [.int .i64 (.ofNat 0)] false false (.t 194) (.t 195)) (estep_mget_is rfl rfl hmb hk) ?_))
  refine WO.neqS rfl rfl (fun hg=>absurd rfl hg) (fun _=>?_)
  refine WO.nil (thenC_norm (WC.cond_false rfl (WC.skip (blockC_norm (thenC_norm (WC.ops ?_))))))
  refine WO.add f190 rfl (by simp only [Int.ofNat_eq_natCast]; omega) (by simp only [Int.ofNat_eq_natCast]; omega) (WO.mv rfl (WO.nil ?_))
  refine ⟨j - 1,by omega,rfl,i + 1,by omega,fun t ht=>?_,g188,g189,rfl,rfl,rfl⟩
  repeat first | exact he t ht | refine (look_ne (by omega)).trans ?_
 ·refine WO.nil (thenC_norm (WC.seq (WC.cond_false rfl (WC.exit (thenC_exit (blockC_exit ?_))))))
  exact hQ _ fun t ht=>(look_ne (by omega)).trans (he t ht)
end Go.AI
/- The law as a whole. -/
namespace Go.AI
open Go.Proofs
open Go.Fo (Wd Un Pre Qof)
variable {W0:World} {Cls:Nat → Int → Prop} {x:Ar} {S:List Nat} {off ka tb mb:Nat} {acts:List Value} {tbl:List (Nat × AObj Ar)} {nx:Nat}
theorem of_run {hk:List (HookF Ar)} (hh:hookL hk 7=none) {n r:Nat} :
  ∃ u h',RF1 hk (n + 1) 7 [.pointer (some ⟨r,0,none⟩)] ⟨tbl,nx⟩=some (u,h') ∧ (u = .agg ⟨[.pointer (some ⟨r,0,none⟩)]⟩ ∧ h'=⟨(nx,.cells [.pointer (some ⟨r,0,none⟩)]) :: tbl,nx + 1⟩):=by
 refine run_fn hh fOf (Nat.le_of_ble_eq_true rfl) ?_
 dsimp only [iOf,argsE]
 refine WC.seq (WC.ops (WO.new (WO.nil (thenC_norm (WC.seq (WC.ops (WO.mv rfl (WO.pure rfl ?_))))))))
 refine WO.step (i:=.store 1 (.t 2) (.t 4)) (v:=undef) (m':=⟨[],(nx,.cells [.pointer (some ⟨r,0,none⟩)]) :: tbl,nx + 1⟩) ?_ (WO.nil (thenC_norm (WC.ret ?_)))
 ·have hm:=mem_store (nx:=nx + 1) (vs:=[.pointer (some ⟨r,0,none⟩)]) (o:=0) (ob':=.cells (splice [.pointer none] 0 [.pointer (some ⟨r,0,none⟩)])) (tbl:=(nx,.cells [.pointer none]) :: tbl) (i:=nx) (by rw [look_cons,if_pos rfl]) rfl (Nat.le_of_ble_eq_true rfl) rfl
  rw [upd_head] at hm
  exact estep_store rfl rfl rfl rfl hm
 ·have hl:(⟨[],(nx,AObj.cells [.pointer (some ⟨r,0,none⟩)]) :: tbl,nx + 1⟩:Mem Ar).load ⟨nx,0,none⟩ 1=some [.pointer (some ⟨r,0,none⟩)]:=mem_load (by rw [look_cons,if_pos rfl]) rfl rfl
  exact ⟨_,_,resV_cell rfl hl rfl rfl,rfl,rfl,rfl⟩
theorem once_run {n:Nat} (hn8:n < 256) {l:List ActT} (hu:∀ a,a ∈ l → a.2.1 < 256 ∧ a.2.2 < 256) (hll:l.length ≤ 9223372036854775807) {cp:Nat} {ad:Option Addr} (had:l.length ≠ 0 → ad=some ⟨0,off,some 1⟩) (hO:OpenOk (1 + n % 12) off (actsC l)) :
  ∃ S:List Nat,S.length < 900 ∧ ∃ v h',RF1 (hL S) 1010 3 [.int .u8 (.ofNat n),.slice ad l.length cp] ⟨[(0,.ro off (actsC l))],1⟩=some (v,h') ∧ v = .bool true:=by
 obtain ⟨x,S,ka,rw0,tbl0,nx0,hrun,l0,l2,l3,l241,l249,lka,k1,k2,hT,hSk,hnd⟩:=hO
 refine ⟨S,by omega,?_⟩
 have hSl:0 < S.length:=by omega
 have I:=depX_inv hT
 refine run_fn rfl fTreeOnce (Nat.le_of_ble_eq_true rfl) ?_
 dsimp only [iTreeOnce,argsE]
 refine WC.seq (WC.ops (WO.mv rfl (WO.nil (thenC_norm (WC.seq (WC.seq (WC.ops ?_)))))))
 refine WO.fcall (vs:=[]) (v:=.bool true) (h:=⟨[(0,.ro off (actsC l))],1⟩) rfl rfl ((run_hook (n:=1008) (g:=constH (.bool true)) rfl).trans rfl) ?_
 refine WO.pure rfl (WO.nil (thenC_norm (WC.cond_false rfl (WC.skip (thenC_norm (WC.seq (WC.seq (WC.ops (WO.mv rfl (WO.len rfl ?_))))))))))
 refine WO.gtrS rfl rfl (fun _=>?_) (fun hle=>?_)
 ·refine WO.nil (thenC_norm (WC.cond_true rfl (WC.seq (WC.ops (WO.mv rfl (WO.nil (thenC_norm (WC.ret (thenC_ret ⟨_,_,rfl,rfl,rfl⟩)))))))))
 have hl60:l.length ≤ 60:=by simp only [Int.ofNat_eq_natCast] at hle; omega
 refine WO.nil (thenC_norm (WC.cond_false rfl (WC.skip (thenC_norm (WC.seq (WC.ops ?_))))))
 have hrem:∀ env:List (Nat × Value),look 29 env=some (.int .u8 (.ofNat n)) → peval env (.bin .rem .no (.t 29) (.c (.int .u8 (.ofNat 12))))=some (.int .u8 (.ofNat (n % 12))):=fun env he=>by
  have h3:Nat.mod n 12=n % 12:=rfl
  have e1:evo env (.t 29)=some (.int .u8 (.ofNat n)):=he
  have e2:evo env (.c (.int .u8 (.ofNat 12)))=some (.int .u8 (.ofNat 12)):=rfl
  simp only [peval,e1,e2,binVal,intBin,divF,if_true,h3,Option.map]
 refine WO.mv rfl (WO.pure (hrem _ rfl) (WO.pure (pv_conv rfl (by omega)) (WO.add rfl rfl (by simp only [Int.ofNat_eq_natCast]; omega) (by simp only [Int.ofNat_eq_natCast]; omega) ?_)))
 refine WO.fcall (vs:=[vI (1 + n % 12)]) rfl rfl ((run_hook (n:=1008) (g:=runOpen) rfl).trans hrun) ?_
 refine WO.mv rfl (WO.pure rfl (WO.pure rfl (WO.pure rfl (WO.mv rfl (WO.mv rfl (WO.mv rfl (WO.nil (thenC_norm (WC.seq (WC.ops ?_))))))))))
 refine WO.mv rfl (WO.pure rfl (WO.pure rfl (WO.load rfl l249 rfl rfl rfl ?_)))
 refine WO.fcall_ex (vs:=[pO]) rfl rfl (of_run (hk:=hL S) (tbl:=tbl0) (nx:=nx0) (n:=1008) (r:=241) rfl) ?_
 rintro u h' ⟨rfl,rfl⟩
 refine WO.new (WO.step (i:=.store 1 (.t 8) (.t 41)) (v:=undef) (m':=⟨[],(nx0 + 1,.cells [pO]) :: (nx0,.cells [pO]) :: tbl0,nx0 + 1 + 1⟩) ?_ ?_)
 ·have hm:=mem_store (nx:=nx0 + 1 + 1) (vs:=[pO]) (o:=0) (ob':=.cells (splice [.pointer none] 0 [pO])) (tbl:=(nx0 + 1,.cells [.pointer none]) :: (nx0,.cells [pO]) :: tbl0) (i:=nx0 + 1) (by rw [look_cons,if_pos rfl]) rfl (Nat.le_of_ble_eq_true rfl) rfl
  rw [upd_head] at hm
  exact estep_store rfl rfl rfl rfl hm
 have F:Lw S off (actsC l) ka (nx0 + 1) ((nx0 + 1,.cells [pO]) :: (nx0,.cells [pO]) :: tbl0) (nx0 + 1 + 1) x:=by
  have hk:∀ j,j < nx0 → look j ((nx0 + 1,AObj.cells [pO]) :: (nx0,.cells [pO]) :: tbl0)=look j tbl0:=fun j hj=>(look_ne (by omega)).trans (look_ne (by omega))
  exact ⟨(hk _ (by omega)).trans l0,(hk _ (by omega)).trans l2,(hk _ (by omega)).trans l3,(hk _ (by omega)).trans l241,(hk _ (by omega)).trans lka,by rw [look_cons,if_pos rfl],k1,by omega,by omega⟩
 refine WO.nil (thenC_norm (WC.seq (WC.seq (WC.ops (WO.mv rfl (WO.len rfl (WO.mv rfl (WO.nil (thenC_norm ?_)))))))))
 refine loop0 (n:=1008) (cp:=cp) (ad:=ad) (by decide) hl60 hu hSl hT F had rfl rfl rfl rfl rfl rfl fun e1 tbl1 nx1 x1 g6 g7 g8 hT1 F1'=>?_
 have I1:=depX_inv hT1
 have h3:=F1'.h3
 refine thenC_norm (WC.seq (WC.ops ?_))
 refine WO.step (i:=.mmap 82) (v:=.map (some nx1)) (m':=⟨[],(nx1,.map [] 0) :: tbl1,nx1 + 1⟩) rfl ?_
 refine WO.mv rfl (WO.nil (thenC_norm (WC.seq (WC.seq (WC.ops (WO.mv g6 (WO.len rfl (WO.mv rfl (WO.nil (thenC_norm ?_))))))))))
 refine loop2 (n:=1008) (mb:=nx1) (by decide) (by omega) hnd hT1 (F1'.cons (o:=.map [] 0) h3 (Nat.lt_succ_of_lt h3)) h3 (Nat.lt_succ_self _) (by rw [look_cons,if_pos rfl]) ⟨g6,g7,g8,rfl,rfl,rfl,rfl⟩ fun e2 tbl2 nx2 hE F2 hmb=>?_
 have f6:look 6 e2=some (.slice (some ⟨ka,0,none⟩) S.length S.length):=hE.e6
 have f7:look 7 e2=some (.bool true):=hE.e7
 have f11:look 11 e2=some (.map (some nx1)):=hE.e11
 refine thenC_norm (WC.seq (WC.seq (WC.ops (WO.mv f6 (WO.len rfl (WO.mv rfl (WO.nil (thenC_norm ?_))))))))
 refine loop8 (n:=1008) (Q:=QX x1 S S) (mb:=nx1) (by decide) (by omega) (fun a ha=>I1.qof_mem.2 ha) F2 hmb f11 rfl rfl rfl fun e3 g=>?_
 refine thenC_norm (WC.seq (WC.ops ?_))
 refine WO.mv ((g 7 (by decide)).trans f7) (WO.mv rfl (WO.take rfl rfl (WO.mv ((g 11 (by decide)).trans f11) (WO.take rfl rfl ?_))))
 refine WO.step (i:=.mlen 202 (.t 201)) (estep_mlen rfl hmb) ?_
 refine WO.take rfl rfl (WO.mv ((g 6 (by decide)).trans f6) (WO.take rfl rfl (WO.len rfl (WO.take rfl rfl (WO.eqlS rfl rfl (fun _=>?_) (fun hne=>?_))))))
 ·exact WO.pure rfl (WO.mv rfl (WO.nil (thenC_norm (WC.ret ⟨_,_,rfl,rfl,rfl⟩))))
 ·exfalso
  apply hne
  rw [ents_len,I1.qof_len hnd]
end Go.AI
