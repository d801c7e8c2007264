/- millpondlaw02.rows at the chapter's example: the iterator, the loop, the contract. -/
import Derived.Test.YtodcomgkpifpfaaGreatDoorRows02
import Derived.LoopN
import Derived.Tactics
namespace Go.AI
open Go.Proofs
section
variable {E:Ext} {W0:World} {wi:World} {ρi ρO:Ren} {φi:Foot} {Vi:View E} {ni l D:Nat} {r:Loop}
theorem _root_.Go.AI.Ren.le.trans' {a b c:Ren} (h:a.le b) (h':b.le c):a.le c:=Ren.le_trans h h'
theorem sep_nil {X:Type} (t:List (Nat × AObj X)) (n:Nat):(⟨[],t,n⟩:Mem X).Sep:=fun i x y h=>by simp [look] at h
theorem st_of {ρ:Ren} {φ:Foot} {m m':Mem E.X} {w w':World} {N:Nat} {env:List (Nat × Value)} {t:Array Value} {ρ':Ren} {φ':Foot} (h:St E W0 ρ φ env m N ⟨t,[]⟩ w) (hk:keysB env=true) {t':Array Value} (hl:ρ.le ρ') (hsz:t'.size=N)
  (ht:∀ s,s < 14 ∨ 20 < s → t'.getD s undef=t.getD s undef) (hs:m'.Sep) (hg:Good (E:=E) W0 ρ' φ' m'.get m'.next w'):St E W0 ρ' φ' env m' N ⟨t',[]⟩ w' :=
 ⟨er_same (h.er.mono hl) fun s v e=>ht s (keys_of hk s v e),hsz,rfl,hs,hg⟩
set_option maxHeartbeats 2000000 in
theorem calls_rows1 (hT:Tabs W0) (hwi:W0.heap.size ≤ wi.heap.size) {fn:FuncId} {assign body:Code} {tO:Array Value} {ρ:Ren} {φ:Foot} {w:World}
  (hr:r = { state:=.ready,pending:=none,fn:=fn,tmps:=tO,params:=#[8,9],assign:=assign,body:=body,defers:=D })
  (hO:ER ρO e_o2 ⟨tO,[]⟩) (hsz:tO.size=16)
  {o3 o4 o5:Array Oper} (ha:assign=(Code.region 3 o3 false).seq (Code.region 4 o4 false)) (hb:body=Code.block 1 (Code.region 5 o5 false))
  (n3:noDeferB o3.toList=true) (n4:noDeferB o4.toList=true) (n5:noDeferB o5.toList=true) (k3:dstB 0 o3.toList=true) (k4:dstB 0 o4.toList=true) (k5:dstB 0 o5.toList=true)
  (g3:((mkOps PZ (fun _=>true) 16 o3.toList o3.toList).bind fun il=>runOps call0 il ((9,.int .i64 (.ofNat 1)) :: (8,.int .i64 (.ofNat 2)) :: e_o2) (m_c1 (X:=E.X)))=some (e_y1a,m_y1a))
  (g4:((mkOps PZ (fun _=>true) 16 o4.toList o4.toList).bind fun il=>runOps call0 il e_y1a (m_y1a (X:=E.X)))=some (e_y1b,m_y1b))
  (g5:((mkOps PZ (fun _=>true) 16 o5.toList o5.toList).bind fun il=>runOps call0 il e_y1b (m_y1b (X:=E.X)))=some (e_y1,m_y1))
  (j3:((mkOps PZ (fun _=>true) 16 o3.toList o3.toList).bind fun il=>runOps call0 il ((9,.int .i64 (.ofNat 1)) :: (8,.int .i64 (.ofNat 4)) :: e_o2) (m_c2 (X:=E.X)))=some (e_y2a,m_y2a))
  (j4:((mkOps PZ (fun _=>true) 16 o4.toList o4.toList).bind fun il=>runOps call0 il e_y2a (m_y2a (X:=E.X)))=some (e_y2b,m_y2b))
  (j5:((mkOps PZ (fun _=>true) 16 o5.toList o5.toList).bind fun il=>runOps call0 il e_y2b (m_y2b (X:=E.X)))=some (e_y2,m_y2))
  (h:RInv E W0 wi ρi φi Vi ni ρO l D r ρ φ m_o2 w) {pb:Value} (hp:VR ρ (.pointer (some ⟨50,0,none⟩)) pb) :
  Calls PZ 286 #[.func (.yield l) #[] #[],pb] w fun e w'=>(∃ v,e = .returned v) ∧ ∃ ρ' φ',RInv E W0 wi ρi φi Vi ni ρO l D r ρ' φ' m_b3 w' ∧ ρ.le ρ':=by
 have hC:=call0_ok (E:=E) hT
 have hrp:r.params = #[8,9]:=by rw [hr]
 have hrf:r.fn=fn:=by rw [hr]
 have hrt:r.tmps=tO:=by rw [hr]
 have hra:r.assign=assign:=by rw [hr]
 have hrb:r.body=body:=by rw [hr]
 refine calls_of_wp Tryz.func286 rfl ?_
 rw [Tryz.ntmps286]
 have hst:St E W0 ρ φ [(1,.pointer (some ⟨50,0,none⟩))] m_o2 24 ⟨#[.func (.yield l) #[] #[],pb] ++ Array.replicate (24 - (#[.func (.yield l) #[] #[],pb]:Array Value).size) undef,[]⟩ w:=by
  refine ⟨?_,by simp,rfl,sep_nil _ _,h.post.good⟩
  intro s v hs
  rw [look_cons] at hs
  split at hs
  ·rename_i e
   simp only at e; subst e
   injection hs with hs; subst hs
   have h1:(#[.func (.yield l) #[] #[],pb] ++ Array.replicate (24 - (#[.func (.yield l) #[] #[],pb]:Array Value).size) undef:Array Value).getD 1 undef=pb:=by simp
   rw [h1]
   exact hp
  ·simp [look] at hs
 have hy:(#[.func (.yield l) #[] #[],pb] ++ Array.replicate (24 - (#[.func (.yield l) #[] #[],pb]:Array Value).size) undef:Array Value).getD 0 undef = .func (.yield l) #[] #[]:=by simp
 generalize (#[.func (.yield l) #[] #[],pb] ++ Array.replicate (24 - (#[.func (.yield l) #[] #[],pb]:Array Value).size) undef:Array Value)=t0 at hst hy
 refine wp_seq (wpIn_wide.1 (region_at (ro:=none) (n:=1) (N:=24) (s:=0) (env':=e_a0) (m':=m_a0) hC (by kernel_rfl) (by kernel_rfl) (by kernel_rfl) hst ?_))
 intro t1 w1 ρ1 φ1 ht1 k1
 have hy1:=k1.trans hy
 have i1:=h.step ht1.post
 refine wp_block (wp_loop_rounds 3 ?_)
 rw [rounds_succ]
 -- the first round
 refine wp_seq (wp_seq (wpIn_wide.1 (region_at (ro:=none) (n:=1) (N:=24) (s:=0) (env':=e_b1) (m':=m_b1) hC (by kernel_rfl) (by kernel_rfl) (by kernel_rfl) ht1.st ?_)))
 intro t2 w2 ρ2 φ2 ht2 k2
 have hy2:=k2.trans hy1
 have i2:=i1.step ht2.post
 refine wp_cond_true (a:=⟨t2,[]⟩) (c:=.tmp 10) ((ht2.st.er 10 (.bool true) (by kernel_rfl)).bool_inv) (wp_skip ?_)
 refine wp_block (wp_seq (wpIn_wide.1 (region_at (ro:=none) (n:=1) (N:=24) (s:=0) (env':=e_c1) (m':=m_c1) hC (by kernel_rfl) (by kernel_rfl) (by kernel_rfl) ht2.st ?_)))
 intro t3 w3 ρ3 φ3 ht3 k3'
 have hy3:=k3'.trans hy2
 have i3:=i2.step ht3.post
 refine wp_seq (wp_seq (wpIn_wide.1 (wpIn_region (F:=Fence.wide) (n:=1) ?_)))
 refine yield_ops (r:=r) (l:=l) (a:=2) (b:=3) (c:=1) ht3.st.sz hy3 ((ht3.st.er 3 (.int .i64 (.ofNat 2)) (by kernel_rfl)).int_inv) ((ht3.st.er 4 (.int .i64 (.ofNat 3)) (by kernel_rfl)).int_inv) rfl (by decide) rfl rfl rfl rfl rfl rfl rfl rfl i3.L hrp ?_
 rw [hrf,hrt,hra,hrb]
 refine (round_ok (m':=m_y1) hT hwi hr hO hsz ha hb n3 n4 n5 k3 k4 k5 g3 g4 g5 i3 (sep_nil _ _)).mono ?_
 rintro e w4 ⟨rfl,ρ4,φ4,i4,l4,s4⟩
 refine ⟨rfl,fun t4 hz4 hk4 hb4=>?_⟩
 have hst4:=st_of ht3.st (by kernel_rfl) l4 hz4 hk4 s4 i4.post.good
 have hy4:t4.getD 0 undef = .func (.yield l) #[] #[]:=(hk4 0 (by omega)).trans hy3
 refine wp_cond_false (a:=⟨t4,[]⟩) (c:=.tmp 20) hb4 (wp_skip ?_)
 refine wpIn_wide.1 (region_at (ro:=none) (n:=1) (N:=24) (s:=0) (env':=e_d1) (m':=m_d1) hC (by kernel_rfl) (by kernel_rfl) (by kernel_rfl) hst4 ?_)
 intro t5 w5 ρ5 φ5 ht5 k5'
 have hy5:=k5'.trans hy4
 have i5:=i4.step ht5.post
 show Code.rounds PZ _ _ 2 ⟨t5,[]⟩ w5
 rw [rounds_succ]
 -- the second round
 refine wp_seq (wp_seq (wpIn_wide.1 (region_at (ro:=none) (n:=1) (N:=24) (s:=0) (env':=e_b2) (m':=m_b2) hC (by kernel_rfl) (by kernel_rfl) (by kernel_rfl) ht5.st ?_)))
 intro t6 w6 ρ6 φ6 ht6 k6
 have hy6:=k6.trans hy5
 have i6:=i5.step ht6.post
 refine wp_cond_true (a:=⟨t6,[]⟩) (c:=.tmp 10) ((ht6.st.er 10 (.bool true) (by kernel_rfl)).bool_inv) (wp_skip ?_)
 refine wp_block (wp_seq (wpIn_wide.1 (region_at (ro:=none) (n:=1) (N:=24) (s:=0) (env':=e_c2) (m':=m_c2) hC (by kernel_rfl) (by kernel_rfl) (by kernel_rfl) ht6.st ?_)))
 intro t7 w7 ρ7 φ7 ht7 k7
 have hy7:=k7.trans hy6
 have i7:=i6.step ht7.post
 refine wp_seq (wp_seq (wpIn_wide.1 (wpIn_region (F:=Fence.wide) (n:=1) ?_)))
 refine yield_ops (r:=r) (l:=l) (a:=4) (b:=5) (c:=1) ht7.st.sz hy7 ((ht7.st.er 3 (.int .i64 (.ofNat 4)) (by kernel_rfl)).int_inv) ((ht7.st.er 4 (.int .i64 (.ofNat 5)) (by kernel_rfl)).int_inv) rfl (by decide) rfl rfl rfl rfl rfl rfl rfl rfl i7.L hrp ?_
 rw [hrf,hrt,hra,hrb]
 refine (round_ok (m':=m_y2) hT hwi hr hO hsz ha hb n3 n4 n5 k3 k4 k5 j3 j4 j5 i7 (sep_nil _ _)).mono ?_
 rintro e w8 ⟨rfl,ρ8,φ8,i8,l8,s8⟩
 refine ⟨rfl,fun t8 hz8 hk8 hb8=>?_⟩
 have hst8:=st_of ht7.st (by kernel_rfl) l8 hz8 hk8 s8 i8.post.good
 refine wp_cond_false (a:=⟨t8,[]⟩) (c:=.tmp 20) hb8 (wp_skip ?_)
 refine wpIn_wide.1 (region_at (ro:=none) (n:=1) (N:=24) (s:=0) (env':=e_d2) (m':=m_d2) hC (by kernel_rfl) (by kernel_rfl) (by kernel_rfl) hst8 ?_)
 intro t9 w9 ρ9 φ9 ht9 _
 have i9:=i8.step ht9.post
 show Code.rounds PZ _ _ 1 ⟨t9,[]⟩ w9
 rw [rounds_succ]
 -- the end
 refine wp_seq (wp_seq (wpIn_wide.1 (region_at (ro:=none) (n:=1) (N:=24) (s:=0) (env':=e_b3) (m':=m_b3) hC (by kernel_rfl) (by kernel_rfl) (by kernel_rfl) ht9.st ?_)))
 intro ta wa ρa φa hta _
 have ia:=i9.step hta.post
 refine wp_cond_false (a:=⟨ta,[]⟩) (c:=.tmp 10) ((hta.st.er 10 (.bool false) (by kernel_rfl)).bool_inv) (wp_exit ?_)
 refine ⟨rfl,_,results_none Tryz.results286 _ _ _,⟨_,rfl⟩,ρa,φa,ia,?_⟩
 exact ht1.post.le.trans' (ht2.post.le.trans' (ht3.post.le.trans' (l4.trans' (ht5.post.le.trans' (ht6.post.le.trans' (ht7.post.le.trans' (l8.trans' (ht9.post.le.trans' hta.post.le))))))))
theorem heap_alloc' {w:World} (o:Obj) {c:Nat} (hc:c < w.heap.size):(w.alloc o).heap[c]? = w.heap[c]? := by
 show (w.heap.push o)[c]? = _
 rw [Array.getElem?_push_lt hc,Array.getElem?_eq_getElem hc]
theorem Post.beyond {ρ ρ':Ren} {φ φ':Foot} {V V':View E} {n n':Nat} {w w1 w2:World} (p:Post W0 ρ φ V n w ρ' φ' V' n' w1) (hD:∀ i o c,V' i=some o → (φ' i).2 c → w2.heap[c]? = w1.heap[c]?) (hsz:w1.heap.size ≤ w2.heap.size) (hb:∀ b,b < w.heap.size → w2.heap[b]? = w1.heap[b]?)
  (hw:W0.heap.size ≤ w.heap.size) (ho:w2.os=w1.os) (hp:w2.output=w1.output):Post W0 ρ φ V n w ρ' φ' V' n' w2 :=
 ⟨p.good.beyond hD hsz (fun b h=>hb b (by omega)) ho hp,p.le,p.nle,Nat.le_trans p.sz hsz,fun c hc hF=>(hb c hc).trans (p.keep c hc hF),p.fF,p.fD,p.ids,p.old⟩
def setV:Value:=.agg ⟨[.int .i64 (.ofNat 10),.slice (some ⟨31,0,none⟩) 1 1]⟩
def T0 {X:Type}:List (Nat × AObj X):=[(31,.grown 1 67 [.int .u64 (.ofNat 20)])]
theorem fun_inv {ρ:Ren} {f i o:Nat} {v:Value} (h:VR ρ (.func (.func f) #[] ⟨[.pointer (some ⟨i,o,none⟩)]⟩) v):∃ b,v = .func (.func f) #[] #[.pointer (some ⟨b,o,none⟩)] ∧ VR ρ (.pointer (some ⟨i,o,none⟩)) (.pointer (some ⟨b,o,none⟩)):=by
 cases h with | x h=>cases h with | flat h =>
  generalize hc:(⟨[.pointer (some ⟨i,o,none⟩)]⟩:Array Value)=cs at h
  cases h with
  | fn k h =>
   rename_i xs ys
   cases h with
   | nil=>simp at hc
   | cons h1 h2 =>
    cases h2 with
    | cons _ _=>simp at hc
    | nil =>
     cases h1 with
     | mk hr =>
      simp only [List.map_cons,List.map_nil,Array.mk.injEq,List.cons.injEq,Value.pointer.injEq,Option.some.injEq,Addr.mk.injEq,and_true] at hc
      obtain ⟨rfl,rfl⟩:=hc
      exact ⟨_,rfl,.of_flat (.ptr hr)⟩
set_option maxHeartbeats 2000000 in
theorem rows_range (hT:Tabs W0) {ρ:Ren} {φ:Foot} {w w3:World} (g:Good (E:=E) W0 ρ φ Vi ni w) {t3:Array Value} {ρ3:Ren} {φ3:Foot} (hp3:Post (E:=E) W0 ρ φ Vi ni w ρ3 φ3 (m_o2 (X:=E.X)).get (m_o2 (X:=E.X)).next w3) (hE:ER ρ3 e_o2 ⟨t3,[]⟩) (hsz:t3.size=16)
  {assign body:Code} {Q:Exit → Act → World → Prop}
  {o3 o4 o5:Array Oper} (ha:assign=(Code.region 3 o3 false).seq (Code.region 4 o4 false)) (hb:body=Code.block 1 (Code.region 5 o5 false))
  (n3:noDeferB o3.toList=true) (n4:noDeferB o4.toList=true) (n5:noDeferB o5.toList=true) (k3:dstB 0 o3.toList=true) (k4:dstB 0 o4.toList=true) (k5:dstB 0 o5.toList=true)
  (g3:((mkOps PZ (fun _=>true) 16 o3.toList o3.toList).bind fun il=>runOps call0 il ((9,.int .i64 (.ofNat 1)) :: (8,.int .i64 (.ofNat 2)) :: e_o2) (m_c1 (X:=E.X)))=some (e_y1a,m_y1a))
  (g4:((mkOps PZ (fun _=>true) 16 o4.toList o4.toList).bind fun il=>runOps call0 il e_y1a (m_y1a (X:=E.X)))=some (e_y1b,m_y1b))
  (g5:((mkOps PZ (fun _=>true) 16 o5.toList o5.toList).bind fun il=>runOps call0 il e_y1b (m_y1b (X:=E.X)))=some (e_y1,m_y1))
  (j3:((mkOps PZ (fun _=>true) 16 o3.toList o3.toList).bind fun il=>runOps call0 il ((9,.int .i64 (.ofNat 1)) :: (8,.int .i64 (.ofNat 4)) :: e_o2) (m_c2 (X:=E.X)))=some (e_y2a,m_y2a))
  (j4:((mkOps PZ (fun _=>true) 16 o4.toList o4.toList).bind fun il=>runOps call0 il e_y2a (m_y2a (X:=E.X)))=some (e_y2b,m_y2b))
  (j5:((mkOps PZ (fun _=>true) 16 o5.toList o5.toList).bind fun il=>runOps call0 il e_y2b (m_y2b (X:=E.X)))=some (e_y2,m_y2))
  (hQ:∀ r w4 ρ4 φ4,RInv E W0 w ρ φ Vi ni ρ3 (w3.heap.size + 1) w3.heap.size r ρ4 φ4 m_b3 w4 → ρ3.le ρ4 → Q .normal ⟨t3,[{ target:=.collected w3.heap.size,args:=#[] }]⟩ w4) :
  (Code.rangeFunc (.tmp 7) #[8,9] assign body).wpIn Fence.wide 2 PZ Q ⟨t3,[]⟩ w3:=by
 refine wpIn_rangeFunc ?_
 intro fn _
 obtain ⟨b,hfv,hpb⟩:=fun_inv (hE 7 _ (by kernel_rfl))
 obtain ⟨rec,hrec⟩:∃ rec:Loop,rec = { state:=.ready,pending:=none,fn:=fn,tmps:=t3,params:=#[8,9],assign:=assign,body:=body,defers:=w3.heap.size }:=⟨_,rfl⟩
 obtain ⟨W1,hW1⟩:∃ W1,W1=(w3.alloc (.deferred (some []))).alloc (.loop rec):=⟨_,rfl⟩
 have hs1:W1.heap.size=w3.heap.size + 2:=by rw [hW1]; simp
 have hold:∀ c,c < w3.heap.size → W1.heap[c]? = w3.heap[c]? := fun c hc=>by
  rw [hW1]; exact (heap_alloc' _ (by simp; omega)).trans (heap_alloc' _ hc)
 have hw0:=g.size
 have hsz3:=hp3.sz
 have hp4:=Post.beyond (w2:=W1) hp3 (fun i o c hi hc=>hold c (hp3.good.lts i o c hi hc)) (by omega) (fun c hc=>hold c (by omega)) hw0 (by rw [hW1]; rfl) (by rw [hW1]; rfl)
 have hL1:W1.heap[w3.heap.size + 1]? = some (.loop rec):=by
  rw [hW1]; have:=World.alloc_heap_new (w3.alloc (.deferred (some []))) (.loop rec); rwa [World.size_alloc] at this
 have hK1:W1.heap[w3.heap.size]? = some (.deferred (some [])):=by
  rw [hW1]; exact (heap_alloc' _ (by simp)).trans (World.alloc_heap_new w3 _)
 have inv:RInv E W0 w ρ φ Vi ni ρ3 (w3.heap.size + 1) w3.heap.size rec ρ3 φ3 m_o2 W1:=by
  refine ⟨hp4,Ren.le_refl _,⟨by omega,by omega,fun i o hi hc=>?_⟩,⟨by omega,by omega,fun i o hi hc=>?_⟩,by omega,hL1,hK1⟩
  ·have:=hp3.good.lts i o _ hi hc; omega
  ·have:=hp3.good.lts i o _ hi hc; omega
 refine ⟨w3.heap.size + 1,[{ target:=.collected w3.heap.size,args:=#[] }],W1,{ target:=.fn (.func 286) #[.pointer (some ⟨b,0,none⟩)],args:=#[.func (.yield (w3.heap.size + 1)) #[] #[]] },W1,286,
  #[.func (.yield (w3.heap.size + 1)) #[] #[]] ++ #[.pointer (some ⟨b,0,none⟩)],W1,?_,?_,?_,?_,fun h=>by simp [Fence.wide] at h,?_⟩
 ·rw [hW1,hrec]; exact run_enterLoop_outer _ _ _ _ _
 ·have h7:(⟨t3,[]⟩:Act).eval (.tmp 7) = .func (.func 286) #[] #[.pointer (some ⟨b,0,none⟩)]:=hfv
  simp only [resolve,h7,Deferred.ofValue,Sem.run_bind,Sem.run_pure,Result.andThen_ok]
  simp [Act.eval]
 ·intro f' _; trivial
 ·have hn:(Tryz.f286.name == "runtime.NumGoroutine")=false:=by kernel_rfl
  simp only [invoke,callFunc,Sem.run_bind,run_program,Result.andThen_ok,Tryz.func286,hn,Bool.false_eq_true,if_false]
  rfl
 ·refine callsIn_wide.2 (calls_mono (calls_rows1 hT hw0 hrec hE hsz ha hb n3 n4 n5 k3 k4 k5 g3 g4 g5 j3 j4 j5 inv hpb) ?_)
  rintro e w4 ⟨⟨v,rfl⟩,ρ4,φ4,i4,l4⟩
  have hnb:rec.state ≠ .busy:=by rw [hrec]; simp
  have hpn:rec.pending=none:=by rw [hrec]
  refine ⟨none,_,by rw [← hpn]; exact run_endLoop i4.L hnb,?_⟩
  exact hQ _ _ ρ4 φ4 (i4.putL _ hw0) l4
set_option maxHeartbeats 2000000 in
theorem calls_rows (hT:Tabs W0) {ρ:Ren} {φ:Foot} {w:World} (g:Good (E:=E) W0 ρ φ (fun i=>look i T0) 48 w) {v':Value} (hv:VR ρ setV v') :
  Calls PZ 283 #[v'] w fun e w'=>∃ v1 ρ' φ',e = .returned v1 ∧ VR ρ' (.slice (some ⟨62,0,none⟩) 4 4) v1 ∧ Post (E:=E) W0 ρ φ (fun i=>look i T0) 48 w ρ' φ' (fun i=>look i (m_z (X:=E.X)).tbl) 65 w':=by
 have hC:=call0_ok (E:=E) hT
 refine callsIn_wide.1 (callsIn_of_wp_marks (F:=Fence.wide) (n:=2) Tryz.func283 rfl trivial ?_)
 rw [Tryz.ntmps283]
 have hst:St E W0 ρ φ [(0,setV)] ⟨[],T0,48⟩ 16 ⟨#[v'] ++ Array.replicate (16 - (#[v']:Array Value).size) undef,[]⟩ w:=by
  refine ⟨?_,by simp,rfl,sep_nil _ _,g⟩
  intro s v hs
  rw [look_cons] at hs
  split at hs
  ·rename_i e
   simp only at e; subst e
   injection hs with hs; subst hs
   have h1:(#[v'] ++ Array.replicate (16 - (#[v']:Array Value).size) undef:Array Value).getD 0 undef=v':=by simp
   rw [h1]
   exact hv
  ·simp [look] at hs
 generalize (#[v'] ++ Array.replicate (16 - (#[v']:Array Value).size) undef:Array Value)=t0 at hst
 refine wpIn_seq (region_at (ro:=none) (N:=16) (s:=3) (env':=e_o0) (m':=m_o0) hC (by kernel_rfl) (by kernel_rfl) (by kernel_rfl) hst ?_)
 intro t1 w1 ρ1 φ1 ht1 _
 refine wpIn_seq (region_at (ro:=none) (N:=16) (s:=0) (env':=e_o1) (m':=m_o1) hC (by kernel_rfl) (by kernel_rfl) (by kernel_rfl) ht1.st ?_)
 intro t2 w2 ρ2 φ2 ht2 _
 refine wpIn_seq (wpIn_seq (region_at (ro:=none) (N:=16) (s:=0) (env':=e_o2) (m':=m_o2) hC (by kernel_rfl) (by kernel_rfl) (by kernel_rfl) ht2.st ?_))
 intro t3 w3 ρ3 φ3 ht3 _
 have hw0:=g.size
 refine wpIn_block (rows_range hT g ((ht1.post.trans ht2.post).trans ht3.post) ht3.st.er ht3.st.sz rfl rfl (by kernel_rfl) (by kernel_rfl) (by kernel_rfl) (by kernel_rfl) (by kernel_rfl) (by kernel_rfl) (by kernel_rfl) (by kernel_rfl) (by kernel_rfl) (by kernel_rfl) (by kernel_rfl) (by kernel_rfl) ?_)
 intro r w5 ρ4 φ4 i5 l4
 have hst5:St E W0 ρ4 φ4 e_o2 m_b3 16 ⟨t3,[]⟩ w5:=⟨ht3.st.er.mono l4,ht3.st.sz,rfl,sep_nil _ _,i5.post.good⟩
 refine wpIn_seq (region_at (ro:=none) (N:=16) (s:=0) (ds:=[{ target:=.collected w3.heap.size,args:=#[] }]) (env':=e_z) (m':=m_z) hC (by kernel_rfl) (by kernel_rfl) (by kernel_rfl) hst5 ?_)
 intro t6 w6 ρ6 φ6 ht6 _
 have i6:=i5.step ht6.post
 refine wpIn_ret ?_
 refine ⟨by simp,.inl ⟨_,_,rfl,run_takeDeferred i6.K,?_⟩⟩
 refine ⟨_,results_tmp Tryz.results283 _ _ _,_,ρ6,φ6,rfl,ht6.st.er 2 _ (by kernel_rfl),?_⟩
 exact Post.beyond i6.post (fun i o c hi hc=>World.putObj_heap_other fun e=>i6.oD.2.2 i o hi (e ▸ hc)) (by simp) (fun c hc=>World.putObj_heap_other (by have:=i6.oD.1; omega)) hw0 rfl rfl
def rowsH {X:Type} (vs:List Value) (h:Hp X):Option (Value × Hp X) :=
 match vs with
 | [.agg ⟨[.int .i64 (.ofNat 10),.slice (some ⟨31,0,none⟩) 1 1]⟩]=>match look 31 h.tbl with
  | some (.grown 1 67 [.int .u64 (.ofNat 20)])=>bif Nat.beq h.next 48 then some (.slice (some ⟨62,0,none⟩) 4 4,⟨(62,.grown 1 3 [.int .i64 (.ofNat 2),.int .i64 (.ofNat 1),.int .i64 (.ofNat 4),.int .i64 (.ofNat 1)]) :: h.tbl,65⟩) else none
  | _=>none
 | _=>none
theorem rows_ok (hT:Tabs W0):HookOk E PZ W0 283 rowsH:=by
 intro vs hp v h' hr ρ φ w hG vs' hvs
 unfold rowsH at hr
 split at hr
 ·split at hr
  ·rename_i h31
   cases hn:Nat.beq hp.next 48 with
   | false=>rw [hn] at hr; cases hr
   | true =>
    rw [hn,cond_true] at hr
    rw [Nat.beq_eq] at hn
    simp only [Option.some.injEq,Prod.mk.injEq] at hr
    obtain ⟨rfl,rfl⟩:=hr
    cases hvs with
    | cons h1 h2 =>
     cases h2
     have hsub:∀ i o,look i (T0 (X:=E.X))=some o → look i hp.tbl=some o:=by
      intro i o h
      simp only [T0,look_cons] at h
      split at h
      ·rename_i e; subst e; injection h with h; subst h; exact h31
      ·simp [look] at h
     have hG':Good (E:=E) W0 ρ φ (fun i=>look i T0) 48 w:=hG.part hsub (by omega)
     refine .inl ⟨⟨_,_,Tryz.func283,rfl,by kernel_rfl⟩,calls_mono (calls_rows hT hG' h1) ?_⟩
     rintro e w' ⟨v1,ρ',φ',rfl,hv1,hp1⟩
     rw [← hn] at hp1
     obtain ⟨φ'',hb⟩:=Post.beside hG (A:=fun i=>if i=31 then none else look i hp.tbl) (B:=fun i=>look i T0) (fun i o h=>by split at h; cases h; exact h) hsub (fun i a b h h'=>by
      simp only [T0,look_cons] at h'
      split at h'
      ·rename_i e; rw [if_pos e] at h; cases h
      ·simp [look] at h') hp1
     refine ⟨v1,ρ',φ'',rfl,hv1,?_⟩
     refine hb.part (fun i o h=>?_) (Nat.le_refl _)
     rw [look_cons] at h
     split at h
     ·rename_i e
      subst e
      have h62:look 62 hp.tbl=none:=by
       cases hq:look 62 hp.tbl with
       | none=>rfl
       | some o=>have:=hG.lt hq; omega
      show ((if 62=31 then none else look 62 hp.tbl).or (look 62 (m_z (X:=E.X)).tbl))=some o
      rw [if_neg (by decide),h62]
      exact h
     ·by_cases e:i=31
      ·subst e
       rw [h31] at h
       injection h with h; subst h
       rfl
      ·show ((if i=31 then none else look i hp.tbl).or (look i (m_z (X:=E.X)).tbl))=some o
       rw [if_neg e,h]
       rfl
  ·cases hr
 ·cases hr
end
end Go.AI
