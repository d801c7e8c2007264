/- Functions of the library that the evaluator is told of: what is taken of each is shown here. No program is named here. -/
import Derived.Test.YthoiknijhfnadaaGreatDoorKFast
import Derived.Shelf.Spec.TrailingZeros
import Derived.RangeFuncIn
import Derived.RangeFuncCalls
import Derived.RangeFuncLeaves
import Derived.RangeFuncRecord
namespace Go.AI
variable {E:Ext}{P:Program}{W0:World}
def HookOk(E:Ext)(P:Program)(W0:World)(k:Nat)(g:List Value→Hp E.X→Option (Value×Hp E.X)):Prop :=
 ∀vs h v h',g vs h=some (v,h')→∀ρ φ w,Good (E:=E) W0 ρ φ (fun i=>look i h.tbl) h.next w→∀vs',All2 (VR ρ) vs vs' →
  ((∃fn c,P.funcs[k]? = some fn∧fn.body=some c∧(fn.name == "runtime.NumGoroutine")=false) ∧
  Calls P k ⟨vs'⟩ w fun e w'=>∃v' ρ' φ',e = .returned v'∧VR ρ' v v'∧Post (E:=E) W0 ρ φ (fun i=>look i h.tbl) h.next w ρ' φ' (fun i=>look i h'.tbl) h'.next w') ∨
  ∃v' w' ρ' φ',(callFunc k ⟨vs'⟩).run P w = .ok (.value v') w'∧VR ρ' v v'∧Post (E:=E) W0 ρ φ (fun i=>look i h.tbl) h.next w ρ' φ' (fun i=>look i h'.tbl) h'.next w'
theorem hooks_ok{hook:Hook E.X}(h:∀k g,hook k=some g→HookOk E P W0 k g):CallsOk E P W0 fun f vs h=>match hook f with|some g=>g vs h|none=>none:=by
 intro k vs hp v h' hr ρ φ w hG vs' hvs
 simp only at hr
 cases hk:hook k with
 |none=>rw[hk] at hr;cases hr
 |some g=>rw[hk] at hr;exact h k g hk vs hp v h' hr ρ φ w hG vs' hvs
structure Entry(P:Program)(k:Nat)(e:Array Value→Sem Value):Prop where
 ex:∃fn,P.funcs[k]? = some fn∧fn.body=none∧(fn.name == "runtime.NumGoroutine")=false∧(Extern.findNext fn).isNone=true∧∃e',Extern.find fn=some e'∧∀args,e' args=e args
theorem entry_run{k:Nat}{e:Array Value→Sem Value}(h:Entry P k e)(args:Array Value)(w:World){v:Value}{w':World}(hr:(e args).run P w = .ok v w'):(callFunc k args).run P w = .ok (.value v) w':=by
 obtain⟨fn,h1,h2,h3,h4,e',h5,h6⟩:=h.ex
 have h7:Extern.findNext fn=none:=by
  cases hq:Extern.findNext fn with
  |none=>rfl
  |some x=>rw[hq] at h4;cases h4
 rw[← h6] at hr
 simp only[callFunc,Sem.run_bind,run_program,Result.andThen_ok,h1,h3,Bool.false_eq_true,if_false,h2,Option.isNone_none,if_true,run_mark,h7,h5,hr,Sem.run_pure]
def noEscapeH{X:Type}:List Value→Hp X→Option (Value×Hp X)
 |[v],h=>some (v,h)
 |_,_=>none
theorem noEscape_ok{k:Nat}(h:Entry P k Extern.AbiNoEscape.same):HookOk E P W0 k noEscapeH:=by
 intro vs hp v h' hr ρ φ w hG vs' hvs
 unfold noEscapeH at hr
 split at hr
 ·simp only[zI,Prod.mk.injEq] at hr
  obtain⟨rfl,rfl⟩:=hr
  cases hvs with
  |cons h1 h2 =>
   cases h2
   exact .inr ⟨_,w,ρ,φ,entry_run h _ w (Lib.run_noEscape (P:=P) w _),h1,Post.refl hG⟩
 ·cases hr
def makeNoZeroH{X:Type}(t:Nat):List Value→Hp X→Option (Value×Hp X)
 |[.int .i64 (.ofNat n)],h=>bif Nat.ble n 281474976710656 then some (.slice (some ⟨h.next,0,none⟩) n 0,⟨(h.next,.grown 1 t [])::h.tbl,Nat.succ h.next⟩) else none
 |_,_=>none
theorem digits_size:∀(n t:Nat) (acc:Array Value),(Extern.BytealgMakeNoZero.digits n t acc).size=acc.size+n
 |0,t,acc=>rfl
 |n+1,t,acc=>by
  unfold Extern.BytealgMakeNoZero.digits
  rw[digits_size n]
  simp;omega
theorem digits_row{ρ:Ren}:∀(n t:Nat) (acc:Array Value),All2 (FR ρ) acc.toList acc.toList→All2 (FR ρ) (Extern.BytealgMakeNoZero.digits n t acc).toList (Extern.BytealgMakeNoZero.digits n t acc).toList
 |0,_,_,h=>h
 |n+1,t,acc,h=>by
  unfold Extern.BytealgMakeNoZero.digits
  refine digits_row n _ _ ?_
  rw[Array.toList_push]
  exact h.append (.cons (.int _ _) .nil)
theorem run_askRoom(n:Nat)(w:World):(askRoom n).run P w = .ok () w:=by
 unfold askRoom
 split<;>rfl
theorem makeNoZero_ok{k:Nat}{ps rs:Array TypeId}{t s:TypeId}(h:Entry P k (Extern.BytealgMakeNoZero.makeNoZero ps rs))(hrs:rs[0]? = some s)(hs:P.underlying s=some (.slice t)):HookOk E P W0 k (makeNoZeroH t):=by
 intro vs hp v h' hr ρ φ w hG vs' hvs
 unfold makeNoZeroH at hr
 split at hr
 ·rename_i n
  cases hn:Nat.ble n 281474976710656 with
  |false=>rw[hn] at hr;cases hr
  |true =>
   rw[hn,cond_true] at hr
   rw[Nat.ble_eq] at hn
   simp only[zI,Prod.mk.injEq] at hr
   obtain⟨rfl,rfl⟩:=hr
   cases hvs with
   |cons h1 h2 =>
    cases h2
    rw[h1.int_inv]
    have hG':Good (E:=E) W0 ρ φ (⟨[],hp.tbl,hp.next⟩:Mem E.X).get (⟨[],hp.tbl,hp.next⟩:Mem E.X).next w:=hG
    have hcut:∀k,¬(Question.appendCap n 0 t).forced=true∧n≤(Question.appendCap n 0 t).cut k:=by
     intro k;refine⟨by simp[Question.forced],by simp[Question.cut]⟩
    obtain⟨hnf,hcap⟩:=hcut (w.tape w.drawn (Question.appendCap n 0 t))
    generalize hC:(Question.appendCap n 0 t).cut (w.tape w.drawn (Question.appendCap n 0 t))=C at hcap
    generalize hB:(Question.extern "internal/bytealg.MakeNoZero.bytes" 0).cut (w.tape (w.drawn+1) (Question.extern "internal/bytealg.MakeNoZero.bytes" 0))=B
    have hsz:=digits_size C B #[]
    have hn1:¬((n:Int)<0):=by omega
    have hn2:¬((n:Int)>2 ^ 48):=by omega
    have hrun:(Extern.BytealgMakeNoZero.makeNoZero ps rs #[.int .i64 (.ofNat n)]).run P w = .ok (.slice (some ⟨w.heap.size,0,none⟩) n C) { w with drawn:=w.drawn+1+1,heap:=w.heap.push (.cells (Extern.BytealgMakeNoZero.digits C B #[]) t) }:=by
     have hf2:(Question.extern "internal/bytealg.MakeNoZero.bytes" 0).forced=false:=by simp[Question.forced]
     have hor:(decide ((Int.ofNat n)<0)||decide ((Int.ofNat n)>2 ^ 48))=false:=by
      simp only[Bool.or_eq_false_iff,decide_eq_false_iff_not]
      exact⟨hn1,hn2⟩
     have hdef:Extern.BytealgMakeNoZero.makeNoZero ps rs #[.int .i64 (.ofNat n)]=(do
       let some t:=rs[0]? | stuck "bytealg.MakeNoZero: no result type"
       let .slice elem ← underlying t|stuck "bytealg.MakeNoZero: slice type expected"
       if(Int.ofNat n)<0||(Int.ofNat n)>2 ^ 48 then runtimePanic (.error "makeslice: len out of range")
       let cap ← choose (.appendCap (Int.ofNat n).toNat 0 elem)
       askRoom cap
       let bytes ← choose (.extern "internal/bytealg.MakeNoZero.bytes" 0)
       let a ← newRow elem (Extern.BytealgMakeNoZero.digits cap bytes #[])
       pure (.slice (some a) (Int.ofNat n).toNat cap)):=rfl
     rw[hdef]
     have hC':(Int.ofNat n).toNat=n:=rfl
     simp only[hrs,hC',hor,Bool.false_eq_true,if_false]
     simp only[Sem.run_bind,run_under hs,Result.andThen_ok,Sem.run_pure,run_choose,hnf,hC,run_askRoom,hf2,hB,run_newRow,Bool.false_eq_true,if_false]
    have hd:(Extern.BytealgMakeNoZero.digits C B #[])=⟨[]++(Extern.BytealgMakeNoZero.digits C B #[]).toList⟩:=by simp
    obtain⟨ρ',φ',q1,q2,q3⟩:=new_grown (cs:=[]) (cs':=[]) (rest:=(Extern.BytealgMakeNoZero.digits C B #[]).toList) (s:=C) (ez:=1) (heap:=true) (w':={ w with drawn:=w.drawn+1+1,heap:=w.heap.push (.cells (Extern.BytealgMakeNoZero.digits C B #[]) t) }) hG' (fun i x y hx=>by simp[look] at hx) t .nil (by simp[hsz]) ⟨_,digits_row _ _ _ .nil⟩ (0,0) (free_zero _) (by rw[← hd]) rfl rfl
    refine .inr ⟨_,_,ρ',φ',entry_run h _ w hrun,.of_flat ?_,q2⟩
    have:=FR.slc (ρ:=ρ') (i:=hp.next) (b:=w.heap.size) (s:=C) (o:=0) (l:=n) (c:=0) q1
    rw[Nat.zero_add] at this
    exact this
 ·cases hr
end Go.AI
/- math/bits.TrailingZeros64 and TrailingZeros32, of which the evaluator is told;what the shelf shows of them serves. No program is named here. -/
namespace Go.AI
open Go.Proofs
variable {E:Ext}{P:Program}{W0:World}
def tzF:Nat→Nat→Nat
 |0,_=>0
 |f+1,x=>bif Nat.beq (Nat.mod x 2) 1 then 0 else Nat.succ (tzF f (Nat.div x 2))
theorem tzF_eq:∀(f x:Nat),tzF f x=Lib.ctzFrom f x
 |0,_=>rfl
 |f+1,x=>by
  simp only[tzF,Lib.ctzFrom]
  have h:Nat.beq (Nat.mod x 2) 1=decide (x % 2=1):=by
   have:Nat.mod x 2=x % 2:=rfl
   rw[this]
   by_cases h:x % 2=1
   ·rw[h];rfl
   ·rw[decide_eq_false h,← Bool.not_eq_true,Nat.beq_eq];exact h
  rw[h]
  by_cases h2:x % 2=1
  ·simp[h2]
  ·have h3:Nat.div x 2=x / 2:=rfl
   rw[h3,tzF_eq f]
   simp only[h2,decide_false,cond_false,if_false];omega
def ctzF(n x:Nat):Nat:=bif Nat.beq x 0 then n else tzF n x
theorem ctzF_eq(n x:Nat):ctzF n x=Lib.ctz n x:=by
 unfold ctzF Lib.ctz
 by_cases h:x=0
 ·subst h;rfl
 ·have:Nat.beq x 0=false:=by rw[← Bool.not_eq_true,Nat.beq_eq];exact h
  rw[this,cond_false,if_neg h,tzF_eq]
def tz64H{X:Type}:List Value→Hp X→Option (Value×Hp X)
 |[.int .u64 (.ofNat x)],h=>bif Nat.blt x 18446744073709551616 then some (.int .i64 (.ofNat (ctzF 64 x)),h) else none
 |_,_=>none
def tz32H{X:Type}:List Value→Hp X→Option (Value×Hp X)
 |[.int .u32 (.ofNat x)],h=>bif Nat.blt x 4294967296 then some (.int .i64 (.ofNat (ctzF 32 x)),h) else none
 |_,_=>none
theorem tab_base{g:Nat}{tab:List Nat}{w:World}(hT:TabAt g tab W0)(h:w.heap[g]? = W0.heap[g]?):TabAt g tab w:=by
 intro j hj
 rw[← hT j hj]
 simp only[World.cell?,h]
theorem calls_mono{f:FuncId}{args:Array Value}{w:World}{R R':Ending→World→Prop}(h:Calls P f args w R)(hr:∀e w',R e w'→R' e w'):Calls P f args w R' :=
 fun cs=>let⟨e,w',fr,r,x⟩:=h cs;⟨e,w',fr,hr _ _ r,x⟩
structure Bodied(P:Program)(k:Nat):Prop where
 ex:∃fn c,P.funcs[k]? = some fn∧fn.body=some c∧(fn.name == "runtime.NumGoroutine")=false
theorem tz64_ok{k:Nat}{ρ':Go.Shelf.Ren}(L:Lays7.n29 P ρ')(hk:ρ'.f 29=k)(hb:Bodied P k)(hT:TabAt (ρ'.g 1) Lib.deBruijn64tab W0)(hlt:ρ'.g 1<W0.heap.size):HookOk E P W0 k tz64H:=by
 intro vs hp v h' hr ρ φ w hG vs' hvs
 unfold tz64H at hr
 split at hr
 ·rename_i x
  cases hn:Nat.blt x 18446744073709551616 with
  |false=>rw[hn] at hr;cases hr
  |true =>
   rw[hn,cond_true] at hr
   rw[blt_iff,decide_eq_true_eq] at hn
   simp only[zI,Prod.mk.injEq] at hr
   obtain⟨rfl,rfl⟩:=hr
   cases hvs with
   |cons h1 h2 =>
    cases h2
    rw[h1.int_inv]
    subst hk
    refine .inl ⟨hb.ex,calls_mono (Any7.bits_TrailingZeros64 L x hn w fun _=>tab_base hT (hG.base _ hlt)) ?_⟩
    rintro e w' ⟨rfl,rfl⟩
    refine⟨_,ρ,φ,rfl,?_,Post.refl hG⟩
    rw[ctzF_eq]
    exact .of_flat (.int _ _)
 ·cases hr
theorem tz32_ok{k:Nat}{ρ':Go.Shelf.Ren}(L:Lays7.n28 P ρ')(hk:ρ'.f 28=k)(hb:Bodied P k)(hT:TabAt (ρ'.g 0) Lib.deBruijn32tab W0)(hlt:ρ'.g 0<W0.heap.size):HookOk E P W0 k tz32H:=by
 intro vs hp v h' hr ρ φ w hG vs' hvs
 unfold tz32H at hr
 split at hr
 ·rename_i x
  cases hn:Nat.blt x 4294967296 with
  |false=>rw[hn] at hr;cases hr
  |true =>
   rw[hn,cond_true] at hr
   rw[blt_iff,decide_eq_true_eq] at hn
   simp only[zI,Prod.mk.injEq] at hr
   obtain⟨rfl,rfl⟩:=hr
   cases hvs with
   |cons h1 h2 =>
    cases h2
    rw[h1.int_inv]
    subst hk
    refine .inl ⟨hb.ex,calls_mono (Any7.bits_TrailingZeros32 L x hn w fun _=>tab_base hT (hG.base _ hlt)) ?_⟩
    rintro e w' ⟨rfl,rfl⟩
    refine⟨_,ρ,φ,rfl,?_,Post.refl hG⟩
    rw[ctzF_eq]
    exact .of_flat (.int _ _)
 ·cases hr
end Go.AI
/- Closed calls: what is reckoned once, on an empty heap, holds everywhere. No program is named here. -/
namespace Go.AI
variable {E:Ext}{P:Program}{W0:World}
def constH{X:Type}(r:Value):List Value→Hp X→Option (Value×Hp X)
 |[],h=>some (r,h)
 |_,_=>none
theorem const_ok{k:Nat}{r:Value}{call:CallFn E.X}(hC:CallsOk E P W0 call)(hv:∃h',call k [] ⟨[],0⟩=some (r,h'))(hp:∀ρ v,VR ρ r v→v=r)(hs:∀ρ,VR ρ r r):HookOk E P W0 k (constH r):=by
 intro vs h v h2 hr ρ φ w hG vs' hvs
 unfold constH at hr
 split at hr
 ·simp only[zI,Prod.mk.injEq] at hr
  obtain⟨rfl,rfl⟩:=hr
  cases hvs
  obtain⟨h',hv⟩:=hv
  have hG0:Good (E:=E) W0 (fun _=>none) φ (fun i=>look i (⟨[],0⟩:Hp E.X).tbl) 0 w :=
   ⟨fun _ _=>rfl,fun i o h=>by simp[look] at h,fun i j oi oj b h=>by simp[look] at h,fun i o b h=>by simp[look] at h,fun i o b h=>by simp[look] at h,fun i o b h=>by simp[look] at h,hG.size,hG.base,hG.os,hG.out⟩
  have key:∀{v' w' ρ' φ'},VR ρ' r v'→Post (E:=E) W0 (fun _=>none) φ (fun i=>look i (⟨[],0⟩:Hp E.X).tbl) 0 w ρ' φ' (fun i=>look i h'.tbl) h'.next w'→VR ρ r v'∧Post (E:=E) W0 ρ φ (fun i=>look i h.tbl) h.next w ρ φ (fun i=>look i h.tbl) h.next w':=by
   intro v' w' ρ' φ' h1 h2
   rw[hp _ _ h1]
   have hk:∀c,c<w.heap.size→w'.heap[c]? = w.heap[c]? := fun c hc=>h2.keep c hc fun i o h=>by simp[look] at h
   refine⟨hs _,⟨?_,Ren.le_refl _,Nat.le_refl _,h2.sz,fun c hc _=>hk c hc,fun i o c hi hc=>.inr ⟨i,o,hi,hc⟩,fun i o c hi hc=>.inr ⟨i,o,hi,hc⟩,fun i o hi=>.inr ⟨o,hi⟩,fun _ _=>rfl⟩⟩
   exact⟨hG.dom,fun i o hi=>let⟨b,s,a,c⟩:=hG.rel i o hi;⟨b,s,a,c.frame (Ren.le_refl _) fun c hc=>hk c (hG.lts i o c hi hc)⟩,hG.dis,hG.sub,fun i o b hi hb=>Nat.lt_of_lt_of_le (hG.lts i o b hi hb) h2.sz,hG.frs,h2.good.size,h2.good.base,h2.good.os,h2.good.out⟩
  rcases hC k [] ⟨[],0⟩ r h' hv _ φ w hG0 [] .nil with⟨hb,hc⟩|⟨v',w',ρ',φ',hx,h1,h2⟩
  ·refine .inl ⟨hb,calls_mono hc ?_⟩
   rintro e w' ⟨v',ρ',φ',rfl,h1,h2⟩
   obtain⟨q1,q2⟩:=key h1 h2
   exact⟨v',ρ,φ,rfl,q1,q2⟩
  ·obtain⟨q1,q2⟩:=key h1 h2
   exact .inr ⟨v',w',ρ,φ,hx,q1,q2⟩
 ·cases hr
theorem true_ok{k:Nat}{call:CallFn E.X}(hC:CallsOk E P W0 call)(hv:∃h',call k [] ⟨[],0⟩=some (.bool true,h')):HookOk E P W0 k (constH (.bool true)) :=
 const_ok hC hv (fun _ _ h=>h.bool_inv) (fun _=>.of_flat (.bool _))
def hookL{X:Type}:List (Nat×(List Value→Hp X→Option (Value×Hp X)))→Hook X
 |[],_=>none
 |(k,g)::r,f=>bif Nat.beq f k then some g else hookL r f
theorem hookL_ok:∀{l:List (Nat×(List Value→Hp E.X→Option (Value×Hp E.X)))},(∀x∈l,HookOk E P W0 x.1 x.2)→CallsOk E P W0 fun f vs h=>match hookL l f with|some g=>g vs h|none=>none:=by
 intro l hl
 refine hooks_ok fun k g h=>?_
 induction l with
 |nil=>simp[hookL] at h
 |cons x r ih =>
  obtain⟨a,b⟩:=x
  simp only[hookL] at h
  cases hq:Nat.beq k a with
  |true =>
   rw[hq,cond_true] at h
   rw[Nat.beq_eq] at hq
   injection h with h;subst h;subst hq
   exact hl _ (List.mem_cons_self ..)
  |false =>
   rw[hq,cond_false] at h
   exact ih (fun x hx=>hl x (List.mem_cons_of_mem _ hx)) h
theorem run_of_value{X:Type}{F:Nat→Option IFn}{clean:Nat→Bool}{hook:Hook X}{n f:Nat}{vs:List Value}{h:Hp X}{v:Value}
  (hk:runK F clean hook n f vs h (fun v _=>some (v,(⟨[],0⟩:Hp X)))=some (v,(⟨[],0⟩:Hp X))):∃h',run F clean hook n f vs h=some (v,h'):=by
 rw[runK_eq] at hk
 cases hr:run F clean hook n f vs h with
 |none=>rw[hr] at hk;cases hk
 |some r =>
  rw[hr] at hk
  simp only[Option.bind_some,zI,Prod.mk.injEq,and_true] at hk
  exact⟨r.2,by rw[← hk]⟩
end Go.AI
/- Regions of the evaluator's in a round's frame of a range over a function, and behind one. No program is named here. -/
namespace Go.AI
variable {P:Program}
def normK(K:Act→World→Prop):Exit→Act→World→Prop
 | .normal,a,w=>K a w
 |_,_,_=>False
theorem not_lets(K:Act→World→Prop):¬LetsOut (normK K):=fun⟨_,_,h⟩=>h
def fen:Option Nat→Fence
 |none=>Fence.wide
 |some l=>Fence.wide.inRound l
theorem fen_fn(ro:Option Nat)(f:FuncId):(fen ro).fn f:=by cases ro<;>trivial
theorem fen_depth(ro:Option Nat):(fen ro).depth=none:=by cases ro<;>rfl
theorem fen_calls{ro:Option Nat}{n:Nat}{f:FuncId}{args:Array Value}{w:World}{R:Ending→World→Prop}(h:Calls P f args w R):CallsIn (fen ro) n P f args w R:=by
 cases ro with
 |none=>exact callsIn_wide.2 h
 |some l=>exact CallsIn.inRound l (callsIn_wide.2 h)
theorem fen_rows{ro:Option Nat}{n:Nat}{row:String}{args:Array Value}{w:World}{R:Value→World→Prop}(h:Rows P row args w R):RowsIn (fen ro) n P row args w R:=by
 have h0:RowsIn Fence.wide n P row args w R:=fun c cs _=>let⟨v,w',r,s⟩:=h c cs;⟨v,w',r,stepsIn_wide.2 s⟩
 cases ro with
 |none=>exact h0
 |some l=>exact fun c cs hr=>h0 c cs (room_wide _)
theorem put_more(t:Array Value)(d ds:List Deferred)(x:Option Nat)(v:Value):(⟨t,d++ds⟩:Act).put x v=⟨((⟨t,d⟩:Act).put x v).tmps,((⟨t,d⟩:Act).put x v).defers++ds⟩:=by
 cases x<;>rfl
theorem upon_fen{ro:Option Nat}{n:Nat}{o:Oper}{t:Array Value}{d ds:List Deferred}{next0 next:Act→World→Prop}{K:Act→World→Prop}{Q:Exit→Act→World→Prop}{r:Result Next}
  (hn:∀t d w,next0 ⟨t,d⟩ w→next ⟨t,d++ds⟩ w) (h:o.upon P ⟨t,d⟩ next0 (normK K) r):o.uponIn (fen ro) n P ⟨t,d++ds⟩ next Q r:=by
 have hd:(fen ro).depth.isSome=true→1≤n:=by rw[fen_depth];simp
 cases r with
 |ok x w =>
  cases x with
  |value v =>
   show next ((⟨t,d++ds⟩:Act).put o.dst v) w
   rw[put_more];exact hn _ _ _ h
  |skip =>
   show next ((⟨t,d++ds⟩:Act).put o.dst undef) w
   rw[put_more];exact hn _ _ _ h
  |defer c =>
   show next ((⟨t,(c::d)++ds⟩:Act).put o.dst undef) w
   rw[put_more];exact hn _ _ _ h
  |enter f args =>
   refine⟨hd,fen_calls (calls_mono' h fun e w' he=>?_)⟩
   cases e with
   |returned v =>
    show next ((⟨t,d++ds⟩:Act).put o.dst v) w'
    rw[put_more];exact hn _ _ _ he
   |panicked c=>exact(he:False).elim
   |outgrown=>exact(not_lets K he).elim
  |row row args =>
   refine⟨hd,fen_rows (Rows.mono h fun v w' he=>?_)⟩
   rw[put_more];exact hn _ _ _ he
  |_=>exact(h:False).elim
 |halt s w =>
  cases s<;>first|exact(h:False).elim|skip
where
 calls_mono' {f:FuncId} {args:Array Value} {w:World} {R R':Ending→World→Prop} (h:Calls P f args w R) (hr:∀e w',R e w'→R' e w'):Calls P f args w R' :=
  fun cs=>let⟨e,w',fr,r,x⟩:=h cs;⟨e,w',fr,hr _ _ r,x⟩
def noDefer(ops:Array Oper):Prop:=∀(i:Nat) (o:Oper),ops[i]? = some o→∀c,o.op≠.defer c
theorem ops_fen{ro:Option Nat}{n:Nat}{ops:Array Oper}(hnd:noDefer ops){K:Act→World→Prop}{Q:Exit→Act→World→Prop}{ds:List Deferred}(hK:∀t d w,K ⟨t,d⟩ w→Q .normal ⟨t,d++ds⟩ w) :
  ∀(is:List Nat) (t:Array Value) (d:List Deferred) (w:World),wpOps P ops (normK K) is ⟨t,d⟩ w→wpOpsIn (fen ro) n P ops Q is ⟨t,d++ds⟩ w
 |[],t,d,w,h=>hK t d w h
 |i::is,t,d,w,h=>by
  simp only[wpOps] at h
  simp only[wpOpsIn]
  cases ho:ops[i]? with
  |none =>
   rw[ho] at h
   exact ops_fen hnd hK is t d w h
  |some o =>
   rw[ho] at h
   simp only at h ⊢
   by_cases hw:Region.wanted o (yielded ops t)=true
   ·rw[if_pos hw] at h ⊢
    refine⟨fun f _=>fen_fn ro f,?_⟩
    rw[Oper.semAt_eq _ _ _ (hnd i o ho)]
    rcases h with h|⟨_,h⟩
    ·exact upon_fen (fun t d w h=>ops_fen hnd hK is t d w h) h
    ·exact(not_lets K h).elim
   ·rw[if_neg hw] at h ⊢
    refine⟨fun f _=>fen_fn ro f,?_⟩
    rw[put_more]
    exact ops_fen hnd hK is _ _ w h
theorem ops_keep{ops:Array Oper}{Q:Exit→Act→World→Prop}{s:Nat}(hs:∀(i:Nat) (o:Oper),ops[i]? = some o→o.dst≠some s) :
  ∀(is:List Nat) (a a0:Act) (w:World),a.tmps.getD s undef=a0.tmps.getD s undef→wpOps P ops (normK fun a w=>Q .normal a w) is a w→wpOps P ops (normK fun a w=>Q .normal a w∧a.tmps.getD s undef=a0.tmps.getD s undef) is a w
 |[],a,a0,w,he,h=>⟨h,he⟩
 |i::is,a,a0,w,he,h=>by
  simp only[wpOps] at h ⊢
  cases ho:ops[i]? with
  |none =>
   rw[ho] at h
   exact ops_keep hs is a a0 w he h
  |some o =>
   rw[ho] at h
   simp only at h ⊢
   have hput:∀(a:Act) (v:Value),a.tmps.getD s undef=a0.tmps.getD s undef→(a.put o.dst v).tmps.getD s undef=a0.tmps.getD s undef:=by
    intro a v h
    have hne:=hs i o ho
    cases hd:o.dst with
    |none=>exact h
    |some d =>
     rw[hd] at hne
     have hne':d≠s:=fun e=>hne (by rw[e])
     simp only[Act.put]
     simp only[Array.getD_eq_getD_getElem?,Array.getElem?_setIfInBounds,hne',if_false] at h ⊢
     exact h
   by_cases hw:Region.wanted o (yielded ops a.tmps)=true
   ·rw[if_pos hw] at h ⊢
    rcases h with h|⟨_,h⟩
    ·refine .inl ?_
     revert h
     unfold Oper.wp
     generalize(execOp a.eval o).run P w=r
     intro h
     cases r with
     |ok x w =>
      cases x with
      |value v=>exact ops_keep hs is _ a0 w (hput _ _ he) h
      |skip=>exact ops_keep hs is _ a0 w (hput _ _ he) h
      |defer c=>exact ops_keep hs is _ a0 w (hput { a with defers:=c::a.defers } _ he) h
      |enter f args =>
       refine fun cs=>let⟨e,w',fr,r,x⟩:=h cs;⟨e,w',fr,?_,x⟩
       cases e with
       |returned v=>exact ops_keep hs is _ a0 w' (hput _ _ he) r
       |panicked c=>exact(r:False).elim
       |outgrown=>exact(not_lets _ r).elim
      |row row args=>exact Rows.mono h fun v w' he'=>ops_keep hs is _ a0 w' (hput _ _ he) he'
      |_=>exact(h:False).elim
     |halt st w=>cases st<;>first|exact(h:False).elim|skip
    ·exact(not_lets _ h).elim
   ·rw[if_neg hw] at h ⊢
    exact ops_keep hs is _ a0 w (hput _ _ he) h
section
variable {E:Ext}{W0:World}{call:CallFn E.X}{N:Nat}{esc:Nat→Bool}
theorem region_keep{ro:Option Nat}{n:Nat}{ops:Array Oper}{id s:Nat}{il:List (Option (Nat×Bool)×IOp)}{Q:Exit→Act→World→Prop}{env env':List (Nat×Value)}{m m':Mem E.X}{ρ:Ren}{φ:Foot}{t:Array Value}{ds:List Deferred}{w:World}
  (hC:CallsOk E P W0 call) (hnd:noDefer ops) (hk:∀(i:Nat) (o:Oper),ops[i]? = some o→o.dst≠some s) (hm:mkOps P esc N ops.toList ops.toList=some il) (hr:runOps call il env m=some (env',m')) (hs:St E W0 ρ φ env m N ⟨t,[]⟩ w)
  (hQ:∀t' w' ρ' φ',To E W0 ρ φ m w ρ' φ' env' m' N ⟨t',[]⟩ w'→t'.getD s undef=t.getD s undef→Q .normal ⟨t',ds⟩ w'):(Code.region id ops false).wpIn (fen ro) n P Q ⟨t,ds⟩ w:=by
 refine wpIn_region ?_
 have h:=ops_sound (Q:=normK fun a' w'=>∃ρ' φ',To E W0 ρ φ m w ρ' φ' env' m' N a' w') hC ops.toList 0 il env env' m m' ⟨t,[]⟩ w ρ φ rfl hm hr hs (fun a' w' ρ' φ' ht=>⟨ρ',φ',ht⟩)
 rw[Array.length_toList] at h
 have h:=ops_keep (Q:=fun e a' w'=>∃ρ' φ',To E W0 ρ φ m w ρ' φ' env' m' N a' w') hk _ ⟨t,[]⟩ ⟨t,[]⟩ w rfl h
 rw[List.range_eq_range']
 have:=ops_fen (ro:=ro) (n:=n) hnd (ds:=ds) (Q:=Q) (fun t' d' w' ⟨⟨ρ',φ',ht⟩,he⟩=>by
  have:d'=[]:=ht.st.df
  subst this
  exact hQ t' w' ρ' φ' ht he) _ t [] w h
 exact this
theorem Good.beyond{ρ:Ren}{φ:Foot}{V:View E}{n:Nat}{w w':World}(g:Good W0 ρ φ V n w)(hD:∀i o c,V i=some o→(φ i).2 c→w'.heap[c]? = w.heap[c]?)(hsz:w.heap.size≤w'.heap.size)(hb:∀b,b<W0.heap.size→w'.heap[b]? = w.heap[b]?)
  (ho:w'.os=w.os) (hp:w'.output=w.output):Good W0 ρ φ V n w' where
 dom:=g.dom
 rel:=fun i o hi=>let⟨b,s,h1,h2⟩:=g.rel i o hi;⟨b,s,h1,h2.frame (Ren.le_refl ρ) fun c hc=>hD i o c hi hc⟩
 dis:=g.dis
 sub:=g.sub
 lts:=fun i o b hi hb=>Nat.lt_of_lt_of_le (g.lts i o b hi hb) hsz
 frs:=g.frs
 size:=Nat.le_trans g.size hsz
 base:=fun b h=>by rw[hb b h];exact g.base b h
 os:=by rw[ho];exact g.os
 out:=by rw[hp];exact g.out
end
end Go.AI
