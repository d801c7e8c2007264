/- The evaluator's memory: what its loads, stores and new objects do, and that the model's do the same. No program is named here. -/
import Derived.Test.YthoiknijhfnadaaGreatDoorKPure
namespace Go.AI
structure Mem(X:Type) where
 loc:List (Nat×AObj X)
 tbl:List (Nat×AObj X)
 next:Nat
section
variable {X:Type}
def Mem.get(m:Mem X)(i:Nat):Option (AObj X) :=
 match look i m.loc with
 |some o=>some o
 |none=>look i m.tbl
def Mem.put(m:Mem X)(i:Nat)(o:AObj X):Mem X :=
 match look i m.loc with
 |some _=>⟨upd i o m.loc,m.tbl,m.next⟩
 |none=>⟨m.loc,upd i o m.tbl,m.next⟩
def Mem.new(m:Mem X)(heap:Bool)(o:AObj X):Mem X :=
 bif heap then⟨m.loc,(m.next,o)::m.tbl,Nat.succ m.next⟩ else⟨(m.next,o)::m.loc,m.tbl,Nat.succ m.next⟩
def Mem.kill(m:Mem X)(i:Nat):Mem X:=⟨del i m.loc,del i m.tbl,m.next⟩
def Mem.Sep(m:Mem X):Prop:=∀i x y,look i m.loc=some x→look i m.tbl=some y→False
def cellsO:AObj X→Option (List Value)
 | .cells cs | .grown _ _ cs | .typed _ cs=>some cs
 |_=>none
def putO(cs:List Value):AObj X→Option (AObj X)
 | .cells _=>some (.cells cs)
 | .grown e t _=>some (.grown e t cs)
 | .typed t _=>some (.typed t cs)
 |_=>none
def winO:AObj X→Nat→Nat→Option (List Value)
 | .ro k cs,off,n=>bif Nat.ble k off then takeN cs (Nat.sub off k) n else none
 |_,_,_=>none
def Mem.load(m:Mem X)(a:Addr)(n:Nat):Option (List Value) :=
 match a.spot with
 |some _=>none
 |none=>match m.get a.block with
  |some o=>match cellsO o with
   |some cs=>takeN cs a.off n
   |none=>winO o a.off n
  |none=>none
def Mem.store(m:Mem X)(a:Addr)(vs:List Value):Option (Mem X) :=
 match a.spot with
 |some _=>none
 |none=>match m.get a.block with
  |some o=>match cellsO o with
   |some cs=>bif Nat.ble (a.off+vs.length) cs.length then(putO (splice cs a.off vs) o).map (m.put a.block) else none
   |none=>none
  |none=>none
end
section
variable {E:Ext}{m:Mem E.X}{i:Nat}{o:AObj E.X}
theorem Mem.get_eq(m:Mem E.X)(i:Nat):m.get i=(look i m.loc).or (look i m.tbl):=by
 unfold Mem.get;cases look i m.loc<;>rfl
theorem Mem.get_put{o':AObj E.X}(h:m.get i=some o):(m.put i o').get=View.put (E:=E) m.get i o':=by
 funext j
 unfold Mem.put View.put
 by_cases hj:j=i
 ·subst hj
  cases hl:look j m.loc with
  |some x=>simp[Mem.get,look_upd,hl]
  |none =>
   have:look j m.tbl=some o:=by simpa[Mem.get,hl] using h
   simp[Mem.get,look_upd,hl,this]
 ·cases hl:look i m.loc with
  |some x=>simp[Mem.get,look_upd,hj]
  |none=>simp[Mem.get,look_upd,hj]
theorem Mem.sep_put{o':AObj E.X}(hs:m.Sep):(m.put i o').Sep:=by
 intro j x y
 unfold Mem.put
 cases hl:look i m.loc with
 |some x0 =>
  simp only[look_upd]
  intro h1 h2
  split at h1
  ·simp only[Option.map_eq_some_iff] at h1;obtain⟨z,hz,_⟩:=h1;exact hs j z y hz h2
  ·exact hs j x y h1 h2
 |none =>
  simp only[look_upd]
  intro h1 h2
  split at h2
  ·simp only[Option.map_eq_some_iff] at h2;obtain⟨z,hz,_⟩:=h2;exact hs j x z h1 hz
  ·exact hs j x y h1 h2
theorem Mem.none_next{W0:World}{ρ:Ren}{φ:Foot}{w:World}(g:Good (E:=E) W0 ρ φ m.get m.next w):look m.next m.loc=none∧look m.next m.tbl=none:=by
 constructor
 ·cases h:look m.next m.loc with
  |none=>rfl
  |some x=>have:=g.lt (i:=m.next) (o:=x) (by simp[Mem.get,h]);omega
 ·cases hl:look m.next m.loc with
  |some x=>have:=g.lt (i:=m.next) (o:=x) (by simp[Mem.get,hl]);omega
  |none =>
   cases h:look m.next m.tbl with
   |none=>rfl
   |some x=>have:=g.lt (i:=m.next) (o:=x) (by simp[Mem.get,h,hl]);omega
theorem Mem.get_new{heap:Bool}(hl:look m.next m.loc=none):(m.new heap o).get=View.put (E:=E) m.get m.next o:=by
 funext j
 unfold Mem.new View.put
 by_cases hj:j=m.next
 ·subst hj
  cases heap<;>simp[Mem.get,zC,hl]
 ·cases heap<;>simp[Mem.get,zC,hj]
theorem Mem.next_new{heap:Bool}:(m.new heap o).next=m.next+1:=by
 cases heap<;>rfl
theorem Mem.sep_new{heap:Bool}(hs:m.Sep)(h1:look m.next m.loc=none)(h2:look m.next m.tbl=none):(m.new heap o).Sep:=by
 intro j x y
 cases heap
 ·simp only[Mem.new,cond_false,zC]
  intro ha hb
  split at ha
  ·rename_i e;rw[e,h2] at hb;cases hb
  ·exact hs j x y ha hb
 ·simp only[Mem.new,cond_true,zC]
  intro ha hb
  split at hb
  ·rename_i e;rw[e,h1] at ha;cases ha
  ·exact hs j x y ha hb
theorem Mem.kill_sub(m:Mem E.X)(k:Nat):∀i o,(m.kill k).get i=some o→m.get i=some o∧i≠k:=by
 intro i o h
 simp only[Mem.kill,Mem.get,look_del] at h
 by_cases hk:i=k
 ·simp[hk] at h
 ·simp only[hk,if_false] at h
  exact⟨h,hk⟩
theorem Mem.sep_kill(k:Nat)(hs:m.Sep):(m.kill k).Sep:=by
 intro i x y
 simp only[Mem.kill,look_del]
 intro h1 h2
 split at h1
 ·cases h1
 ·rename_i hk
  simp only[hk,if_false] at h2
  exact hs i x y h1 h2
end
section
variable {P:Program}{w:World}
theorem cell_of{b:Nat}{cs:Array Value}{e:TypeId}{f:Nat×Nat}(h:w.heap[b]? = some (.cells cs e f))(o:Nat):w.cell? ⟨b,o,none⟩=cs[o]? := by
 simp[World.cell?,h]
theorem frozen_of{b:Nat}{cs:Array Value}{e:TypeId}{f:Nat×Nat}(h:w.heap[b]? = some (.cells cs e f))(o:Nat):w.frozen? ⟨b,o,none⟩=(decide (f.1≤o)&&decide (o<f.2)):=by
 simp[World.frozen?,h]
theorem loadFrom{b off:Nat}{cs:Array Value}{e:TypeId}{f:Nat×Nat}(h:w.heap[b]? = some (.cells cs e f)):∀(n k:Nat) (acc:Array Value),off+k+n≤cs.size →
  (loadCellsFrom ⟨b,off,none⟩ k n acc).run P w = .ok ⟨acc.toList++((cs.toList.drop (off+k)).take n)⟩ w
 |0,k,acc,_=>by
  simp only[loadCellsFrom,Sem.run_pure,List.take_zero,List.append_nil]
 |n+1,k,acc,hle=>by
  have hlt:off+k<cs.size:=by omega
  have hc:w.cell? ⟨b,off+k,none⟩=some cs[off+k]:=by rw[cell_of h];simp[hlt]
  simp only[loadCellsFrom,add_addr,Sem.run_bind,run_load,hc,Result.andThen_ok]
  rw[loadFrom h n (k+1) _ (by omega)]
  congr 2
  rw[Array.toList_push,List.append_assoc]
  congr 1
  rw[show off+(k+1)=off+k+1 by omega]
  have hd:cs.toList.drop (off+k)=cs[off+k]::cs.toList.drop (off+k+1):=List.drop_eq_getElem_cons (by simpa using hlt)
  rw[hd,List.take_succ_cons]
  rfl
theorem run_loadCells{b off n:Nat}{cs:Array Value}{e:TypeId}{f:Nat×Nat}(h:w.heap[b]? = some (.cells cs e f))(hle:off+n≤cs.size) :
  (loadCells ⟨b,off,none⟩ n).run P w = .ok ⟨(cs.toList.drop off).take n⟩ w:=by
 unfold loadCells
 rw[loadFrom h n 0 _ (by omega)]
 simp
def setRow(w:World)(b:Nat)(o:Obj):World:={ w with heap:=w.heap.setIfInBounds b o }
theorem storeFrom{b off:Nat}{e:TypeId}{f:Nat×Nat}:∀(vs:List Value) (k:Nat) (cs:Array Value) (w:World),w.heap[b]? = some (.cells cs e f)→free f cs.size→(∀v∈vs,v.oneCell'=true)→off+k+vs.length≤cs.size →
  (storeCells ⟨b,off,none⟩ vs k).run P w = .ok () (setRow w b (.cells ⟨splice cs.toList (off+k) vs⟩ e f))
 |[],k,cs,w,h,hf,h1,hle=>by
  simp only[storeCells,Sem.run_pure]
  congr 1
  rw[splice_eq _ _ _ (by simpa using hle)]
  simp only[List.append_nil,List.length_nil,Nat.add_zero,List.take_append_drop]
  unfold setRow
  have hb:b<w.heap.size:=by rcases Nat.lt_or_ge b w.heap.size with h'|h';exact h';simp[Array.getElem?_eq_none h'] at h
  have he:w.heap.setIfInBounds b (.cells ⟨cs.toList⟩ e f)=w.heap:=by
   apply Array.ext_getElem?
   intro i
   rw[Array.getElem?_setIfInBounds]
   split
   ·rename_i e;subst e;first|(rw[h];done)|(rw[h];simp)
   ·rfl
  rw[he]
 |v::vs,k,cs,w,h,hf,h1,hle=>by
  simp only[List.length_cons] at hle
  have hlt:off+k<cs.size:=by omega
  have hb:b<w.heap.size:=by rcases Nat.lt_or_ge b w.heap.size with h'|h';exact h';simp[Array.getElem?_eq_none h'] at h
  have hc:w.cell? ⟨b,off+k,none⟩=some cs[off+k]:=by rw[cell_of h];simp[hlt]
  have hz:w.frozen? ⟨b,off+k,none⟩=false:=by
   rw[frozen_of h]
   have:=hf (off+k) hlt
   simp only[Bool.and_eq_false_iff,decide_eq_false_iff_not]
   omega
  have hw:w.setCell ⟨b,off+k,none⟩ v=setRow w b (.cells (cs.setIfInBounds (off+k) v) e f):=by
   unfold World.setCell setRow
   congr 1
   apply Array.ext_getElem?
   intro i
   rw[Array.getElem?_modify,Array.getElem?_setIfInBounds]
   split
   ·rename_i e;subst e;first|(rw[h];done)|(rw[h];simp)
   ·rfl
  simp only[storeCells,add_addr,Sem.run_bind]
  rw[run_store P w _ v .plain (h1 v (List.mem_cons_self ..)),hc,hz]
  simp only[Bool.false_eq_true,if_false,Result.andThen_ok,hw]
  have hget:(setRow w b (.cells (cs.setIfInBounds (off+k) v) e f)).heap[b]? = some (.cells (cs.setIfInBounds (off+k) v) e f):=by
   unfold setRow;simp[hb]
  rw[storeFrom vs (k+1) _ _ hget (by simpa using hf) (fun u hu=>h1 u (List.mem_cons_of_mem _ hu)) (by simp;omega)]
  congr 1
  unfold setRow
  simp only[Array.setIfInBounds_setIfInBounds]
  congr 2
  congr 1
  congr 1
  rw[splice_eq _ _ _ (by simp;omega),splice_eq _ _ _ (by simp;omega)]
  simp only[Array.toList_setIfInBounds,List.length_cons]
  have hlt':off+k<cs.toList.length:=by simpa using hlt
  rw[show off+(k+1)=(off+k)+1 by omega,List.take_succ_eq_append_getElem (by simpa using hlt'),List.getElem_set_self,List.take_set_of_le (Nat.le_refl _)]
  rw[List.drop_set_of_lt (by omega)]
  simp only[List.append_assoc,List.cons_append,List.nil_append]
  rw[show off+k+1+vs.length=off+k+(vs.length+1) by omega]
theorem run_storeCells{b off:Nat}{vs:List Value}{cs:Array Value}{e:TypeId}{f:Nat×Nat}(h:w.heap[b]? = some (.cells cs e f))(hf:free f cs.size)(h1:∀v∈vs,v.oneCell'=true)(hle:off+vs.length≤cs.size) :
  (storeCells ⟨b,off,none⟩ vs).run P w = .ok () (setRow w b (.cells ⟨splice cs.toList off vs⟩ e f)) :=
 storeFrom vs 0 cs w h hf h1 (by omega)
end
section
variable {E:Ext}{P:Program}{W0:World}{ρ:Ren}{φ:Foot}{m m':Mem E.X}{w:World}
theorem takeN_le{cs r:List Value}{off n:Nat}(h:takeN cs off n=some r):off+n≤cs.length∨n=0:=by
 unfold takeN at h
 simp only at h
 cases hb:Nat.beq ((cs.drop off).take n).length n with
 |false=>rw[hb] at h;cases h
 |true =>
  rw[Nat.beq_eq] at hb
  simp only[List.length_take,List.length_drop] at hb
  omega
theorem cells_of{o:AObj E.X}{cs:List Value}{b s:Nat}{F D:Nat→Prop}(ho:cellsO o=some cs)(h:ObjR E ρ o b s F D w) :
  ∃cs' e f,w.heap[b]? = some (.cells cs' e f)∧cs.length≤cs'.size∧All2 (FR ρ) cs (cs'.toList.take cs.length):=by
 cases o with
 |cells c =>
  simp only[cellsO,zI] at ho;subst ho
  obtain⟨_,_,_,cs',e,f,h4,h5,_⟩:=h
  have:=h5.length
  refine⟨cs',e,f,h4,by simpa using Nat.le_of_eq this,?_⟩
  rw[this,List.take_length];exact h5
 |typed t c =>
  simp only[cellsO,zI] at ho;subst ho
  obtain⟨_,_,_,cs',e,f,h4,h5,_⟩:=h
  have:=h5.length
  refine⟨cs',e,f,h4,by simpa using Nat.le_of_eq this,?_⟩
  rw[this,List.take_length];exact h5
 |grown ez t c =>
  simp only[cellsO,zI] at ho;subst ho
  obtain⟨_,_,cs',e,f,h4,h5,h6,_⟩:=h
  exact⟨cs',e,f,h4,by omega,h6⟩
 |ro k c=>simp[cellsO] at ho
 |map es c=>simp[cellsO] at ho
 |ext x=>simp[cellsO] at ho
theorem load_sound{a a':Addr}{n:Nat}{r:List Value}(h:m.load a n=some r)(g:Good (E:=E) W0 ρ φ m.get m.next w)(hn:n≠0)(ha:FR ρ (.pointer (some a)) (.pointer (some a'))) :
  ∃r',(loadCells a' n).run P w = .ok ⟨r'⟩ w∧All2 (FR ρ) r r'∧(∀x,n=1→r=[x]→∃y,(load a').run P w = .ok y w∧FR ρ x y):=by
 cases ha with
 |ptr hr =>
  rename_i i b s off
  unfold Mem.load at h
  simp only at h
  split at h
  ·rename_i o ho
   split at h
   ·rename_i cs hcs
    obtain⟨b',s',hb,hobj⟩:=g.rel i o ho
    rw[hr] at hb;injection hb with hb;injection hb with e1 e2;subst e1;subst e2
    obtain⟨cs',e,f,h1,h2,h3⟩:=cells_of hcs hobj
    have hle:=takeN_le h
    obtain⟨h4,h5⟩:=takeN_sound h h3
    have hdt:(List.take n (List.drop off (List.take cs.length cs'.toList)))=(cs'.toList.drop off).take n:=by
     rw[List.drop_take,List.take_take];congr 1;omega
    rw[hdt] at h4
    refine⟨_,run_loadCells h1 (by omega),h4,?_⟩
    intro x hn1 hx
    subst hn1;subst hx
    cases hd:(cs'.toList.drop off).take 1 with
    |nil=>rw[hd] at h4;cases h4
    |cons y l =>
     rw[hd] at h4
     cases h4 with
     |cons hf ht =>
      refine⟨y,?_,hf⟩
      have hy:cs'[off]? = some y:=by
       rw[← Array.getElem?_toList,← List.head?_drop]
       cases hdd:cs'.toList.drop off with
       |nil=>rw[hdd] at hd;simp at hd
       |cons z l'=>rw[hdd] at hd;simp at hd;simp[hd.1]
      rw[run_load,cell_of h1,hy]
   ·cases o with
    |ro k cs =>
     obtain⟨b',s',hb,hobj⟩:=g.rel i _ ho
     rw[hr] at hb;injection hb with hb;injection hb with e1 e2;subst e1;subst e2
     obtain⟨_,_,cs',e,f,h1,h2,h3⟩:=hobj
     simp only[winO] at h
     cases hk:Nat.ble k off with
     |false=>rw[hk] at h;cases h
     |true =>
      rw[hk,cond_true] at h
      rw[Nat.ble_eq] at hk
      have hle:=takeN_le h
      change off-k+n≤cs.length∨n=0 at hle
      obtain⟨h4,h5⟩:=takeN_sound h h3
      have hdt:(List.take n (List.drop (off-k) (List.take cs.length (cs'.toList.drop k))))=(cs'.toList.drop off).take n:=by
       rw[List.drop_take,List.take_take,List.drop_drop]
       rw[show k+(off-k)=off by omega]
       congr 1;omega
      change All2 (FR ρ) r (List.take n (List.drop (off-k) (List.take cs.length (cs'.toList.drop k)))) at h4
      rw[hdt] at h4
      refine⟨_,run_loadCells h1 (by omega),h4,?_⟩
      intro x hn1 hx
      subst hn1;subst hx
      cases hd:(cs'.toList.drop off).take 1 with
      |nil=>rw[hd] at h4;cases h4
      |cons y l =>
       rw[hd] at h4
       cases h4 with
       |cons hf ht =>
        refine⟨y,?_,hf⟩
        have hy:cs'[off]? = some y:=by
         rw[← Array.getElem?_toList,← List.head?_drop]
         cases hdd:cs'.toList.drop off with
         |nil=>rw[hdd] at hd;simp at hd
         |cons z l'=>rw[hdd] at hd;simp at hd;simp[hd.1]
        rw[run_load,cell_of h1,hy]
    |_=>cases h
  ·cases h
theorem setRow_other(b c:Nat)(o:Obj)(h:c≠b):(setRow w b o).heap[c]? = w.heap[c]? := by
 unfold setRow
 rw[Array.getElem?_setIfInBounds]
 simp[Ne.symm h]
theorem setRow_same{b:Nat}(o:Obj){x:Obj}(h:w.heap[b]? = some x):(setRow w b o).heap[b]? = some o:=by
 unfold setRow
 have hb:b<w.heap.size:=by rcases Nat.lt_or_ge b w.heap.size with h'|h';exact h';simp[Array.getElem?_eq_none h'] at h
 simp[hb]
theorem store_sound{a a':Addr}{vs vs':List Value}(h:m.store a vs=some m')(g:Good (E:=E) W0 ρ φ m.get m.next w)(hs:m.Sep)(ha:FR ρ (.pointer (some a)) (.pointer (some a')))(hv:All2 (FR ρ) vs vs') :
  ∃w',(storeCells a' vs').run P w = .ok () w'∧Post W0 ρ φ m.get m.next w ρ φ m'.get m'.next w'∧m'.Sep:=by
 cases ha with
 |ptr hr =>
  rename_i i b s off
  unfold Mem.store at h
  simp only at h
  split at h
  ·rename_i o ho
   split at h
   ·rename_i cs hcs
    cases hle:Nat.ble (off+vs.length) cs.length with
    |false=>rw[hle] at h;cases h
    |true =>
     rw[hle,cond_true] at h
     rw[Nat.ble_eq] at hle
     simp only[Option.map_eq_some_iff] at h
     obtain⟨o',ho',rfl⟩:=h
     obtain⟨b',s',hb,hobj⟩:=g.rel i o ho
     rw[hr] at hb;injection hb with hb;injection hb with e1 e2;subst e1;subst e2
     have hvl:=hv.length
     have h1:∀v∈vs',v.oneCell'=true:=by
      clear hvl hle ho'
      induction hv with
      |nil=>intro v hv;cases hv
      |cons hf _ ih=>intro v hv;rcases List.mem_cons.1 hv with rfl|hv;exact hf.one;exact ih v hv
     obtain⟨cs',e,f,hc1,hfree,hlen,hF⟩:∃cs' e f,w.heap[b]? = some (.cells cs' e f)∧free f cs'.size∧cs.length≤cs'.size∧(φ i).1 b:=by
      cases o with
      |cells c =>
       simp only[cellsO,zI] at hcs;subst hcs
       obtain⟨_,hF,_,cs',e,f,h4,h5,h6⟩:=hobj
       exact⟨cs',e,f,h4,fun o ho=>h6 o (by omega),by have:=h5.length;simp at this;omega,(hF b).2 rfl⟩
      |typed t c =>
       simp only[cellsO,zI] at hcs;subst hcs
       obtain⟨_,hF,_,cs',e,f,h4,h5,h6,_⟩:=hobj
       exact⟨cs',e,f,h4,h6,by have:=h5.length;simp at this;omega,(hF b).2 rfl⟩
      |grown ez t c =>
       simp only[cellsO,zI] at hcs;subst hcs
       obtain⟨hF,_,cs',e,f,h4,h5,h6,h7,_⟩:=hobj
       exact⟨cs',e,f,h4,h7,by omega,(hF b).2 rfl⟩
      |ro k c=>simp[cellsO] at hcs
      |map es c=>simp[putO] at ho'
      |ext x=>simp[putO] at ho'
     refine⟨_,run_storeCells hc1 hfree h1 (by omega),?_,Mem.sep_put hs⟩
     rw[Mem.get_put ho]
     have hnx:(m.put i o').next=m.next:=by unfold Mem.put;split<;>rfl
     rw[hnx]
     have hsz:(⟨splice cs'.toList off vs'⟩:Array Value).size=cs'.size:=by
      show(splice cs'.toList off vs').length=_
      rw[splice_length (by simp;omega)];simp
     refine g.turn ho o' (by unfold setRow;simp) rfl rfl ?_ ?_
     ·intro c hc
      exact setRow_other b c _ fun e=>hc (e▸hF)
     ·intro b2 s2 hb2 hobj2
      rw[hr] at hb2;injection hb2 with hb2;injection hb2 with e1 e2;subst e1;subst e2
      cases o with
      |cells c =>
       simp only[cellsO,zI] at hcs;subst hcs
       simp only[putO,zI] at ho';subst ho'
       obtain⟨k1,k2,k3,cs2,e2,f2,k4,k5,k6⟩:=hobj2
       rw[hc1] at k4;injection k4 with k4;injection k4 with q1 q2 q3;subst q1;subst q2;subst q3
       exact⟨k1,k2,k3,_,_,_,setRow_same _ hc1,splice_all2 hle k5 hv,by rw[hsz];exact k6⟩
      |typed t c =>
       simp only[cellsO,zI] at hcs;subst hcs
       simp only[putO,zI] at ho';subst ho'
       obtain⟨k1,k2,k3,cs2,e2,f2,k4,k5,k6,k7⟩:=hobj2
       rw[hc1] at k4;injection k4 with k4;injection k4 with q1 q2 q3;subst q1;subst q2;subst q3
       exact⟨k1,k2,k3,_,_,_,setRow_same _ hc1,splice_all2 hle k5 hv,by rw[hsz];exact hfree,k7⟩
      |grown ez t c =>
       simp only[cellsO,zI] at hcs;subst hcs
       simp only[putO,zI] at ho';subst ho'
       obtain⟨k2,k3,cs2,e2,f2,k4,k4',k5,k6,k7,ra,k8⟩:=hobj2
       rw[hc1] at k4;injection k4 with k4;injection k4 with q1 q2 q3;subst q1;subst q2;subst q3
       have hl:(splice c off vs).length=c.length:=splice_length hle
       refine⟨k2,k3,_,_,_,setRow_same _ hc1,by rw[hsz,hl];exact k4',?_,by rw[hsz];exact hfree,k7,ra,?_⟩
       rotate_left
       ·have h8:(splice cs'.toList off vs').drop c.length=cs'.toList.drop c.length:=by
         rw[splice_eq _ _ _ (by simp;omega),List.drop_append,List.drop_eq_nil_of_le (by simp;omega),List.nil_append,List.drop_drop]
         congr 1
         simp only[List.length_append,List.length_take,Array.length_toList]
         omega
        rw[hl]
        show All2 _ ra ((splice cs'.toList off vs').drop c.length)
        rw[h8];exact k8
       have hsp:=splice_all2 (n:=off) hle k5 hv
       rw[hl]
       have:(List.take c.length (splice cs'.toList off vs'))=splice (List.take c.length cs'.toList) off vs':=by
        rw[splice_eq _ _ _ (by simp;omega),splice_eq _ _ _ (by simp;omega)]
        rw[List.take_append,List.take_append]
        simp only[List.length_append,List.length_take,Array.length_toList]
        rw[List.take_take,List.take_take,List.drop_take]
        congr 1
        ·congr 1
         ·congr 1;omega
         ·rw[List.take_of_length_le (by omega)]
        ·congr 1;omega
       rw[this];exact hsp
      |ro k c=>simp[cellsO] at hcs
      |map es c=>simp[putO] at ho'
      |ext x=>simp[putO] at ho'
   ·cases h
  ·cases h
end
end Go.AI
