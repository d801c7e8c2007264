/- The evaluator's steps upon memory, but for calls and maps: each is the model's. No program is named here. -/
import Derived.Test.YthoiknijhfnadaaGreatDoorAiMem
import Derived.Lib.AppendZerosOnto
import Derived.Lib.UnsafeStr
import Derived.Lib.Builder
import Derived.MapKept
namespace Go.AI
section
variable {X:Type}
def byteCells(s:List UInt8):List Value:=s.map fun b=>.int .u8 (Int.ofNat b.toNat)
def cellBytes:List Value→Option (List UInt8)
 |[]=>some []
 | .int .u8 (.ofNat n)::r=>(cellBytes r).map (UInt8.ofNat n::·)
 |_=>none
def cellBytesX:List Value→Option (List UInt8)
 |[]=>some []
 | .int .u8 (.ofNat n)::r=>bif Nat.blt n 256 then(cellBytesX r).map (UInt8.ofNat n::·) else none
 |_=>none
def Mem.loads(m:Mem X)(a:Option Addr)(n:Nat):Option (List Value) :=
 bif Nat.beq n 0 then some [] else match a with
  |some ⟨i,o,_⟩=>m.load ⟨i,o,none⟩ n
  |none=>none
def rows(n:Nat)(z:List Value):List Value:=(List.replicate n z).flatten
def roomy(need b:Nat):Bool:=Nat.ble ((need+1000)*b) 70368744177664
def source(m:Mem X)(e:Nat):Value→Option (Nat×List Value)
 | .string s=>some (s.data.toList.length,byteCells s.data.toList)
 | .slice a n _=>(m.loads a (n*e)).map fun cs=>(n,cs)
 |_=>none
def exactB:Option Nat→AObj X→Bool
 |some 1,.cells _=>true
 |some 1,.grown _ _ _=>true
 |some 1,.ro _ _=>true
 |none,.cells _=>true
 |_,_=>false
def mineB(e t o cp l n:Nat)(src:List Value):Option Nat→AObj X→Bool
 |none,.grown e' t' cs=>Nat.beq t' t&&Nat.beq e' e&&Nat.beq o 0&&Nat.beq cs.length (cp*e)&&Nat.beq src.length (n*e)&&Nat.ble l cp
 |_,_=>false
def appendM(m:Mem X)(e b t:Nat)(x y:Value):Option (Value×Mem X) :=
 match x,source m e y with
 | .slice none l cp,some (n,src) =>
  bif Nat.ble (l+n) cp then some (.slice none (l+n) cp,m)
  else bif Nat.beq l 0&&roomy (l+n) b then some (.slice (some ⟨m.next,0,none⟩) (l+n) (l+n),m.new true (.grown e t src)) else none
 | .slice (some ⟨i,o,sp⟩) l cp,some (n,src) =>
  match m.get i with
  |some ob =>
   let exact:=exactB sp ob
   let mine:=mineB e t o cp l n src sp ob
   bif exact||mine then
    bif Nat.ble (l+n) cp then(bif Nat.beq n 0 then some (.slice (some ⟨i,o,sp⟩) (l+n) cp,m) else(m.store ⟨i,o+l*e,none⟩ src).map fun m'=>(.slice (some ⟨i,o,sp⟩) (l+n) cp,m'))
    else bif roomy (l+n) b then(match m.loads (some ⟨i,o,none⟩) (l*e) with
     |some old=>bif exact then some (.slice (some ⟨m.next,0,none⟩) (l+n) (l+n),m.new true (.grown e t (old++src)))
      else some (.slice (some ⟨m.next,0,none⟩) (l+n) (l+n),(m.kill i).new true (.grown e t (old++src)))
     |none=>none) else none
   else none
  |none=>none
 |_,_=>none
def allocI(env:List (Nat×Value)):IOp→Option (Bool×List Value×Option Nat)
 | .new _ hp cs=>some (hp,cs,none)
 | .box _ hp x=>match evo env x with
  |some v=>(cellsV v).map fun vs=>(hp,vs,none)
  |none=>none
 | .bslice _ n e z ps=>(fillp env (rows n z) (ps.map fun p=>(p.1*e,e,p.2))).map fun cs=>(true,cs,some n)
 |_=>none
def refTo(i:Nat):Option Nat→Value
 |none=>.pointer (some ⟨i,0,none⟩)
 |some n=>.slice (some ⟨i,0,none⟩) n n
def keyAt(k:IntKind)(n:Int):List (Value×Value×Nat)→Nat→Option (Option (Nat×Value×Nat))
 |[],_=>some none
 |(.int j a,v,b)::r,i=>if k=j then(bif ieqF n a then some (some (i,v,b)) else keyAt k n r (i+1)) else none
 |_,_=>none
def setBorn(s:Nat)(v:Value):List (Value×Value×Nat)→Option (List (Value×Value×Nat))
 |[]=>none
 |(k,u,b)::r=>bif Nat.beq b s then some ((k,v,b)::r) else(setBorn s v r).map ((k,u,b)::·)
def mstep(env:List (Nat×Value))(m:Mem X):IOp→Option (Value×Mem X)
 | .load _ n g a=>match evo env a with
  |some (.pointer (some ad))=>match m.load ad n with
   |some r=>(oneOf g r).map fun v=>(v,m)
   |none=>none
  |_=>none
 | .store n a x=>match evo env a,evo env x with
  |some (.pointer (some ad)),some v=>match cellsV v with
   |some vs=>bif Nat.beq vs.length n then(m.store ad vs).map fun m'=>(undef,m') else none
   |none=>none
  |_,_=>none
 | .new d hp cs=>(allocI env (.new d hp cs)).map fun r=>(refTo m.next r.2.2,m.new r.1 (.cells r.2.1))
 | .box d hp x=>(allocI env (.box d hp x)).map fun r=>(refTo m.next r.2.2,m.new r.1 (.cells r.2.1))
 | .bslice d n e z ps=>(allocI env (.bslice d n e z ps)).map fun r=>(refTo m.next r.2.2,m.new r.1 (.cells r.2.1))
 | .mslice _ _ b z l c=>match evo env l,evo env c with
  |some lv,some cv=>match natOf lv,natOf cv with
   |some l,some c=>bif Nat.ble l c&&Nat.ble (c*b) 281474976710656&&Nat.ble c 281474976710656 then some (.slice (some ⟨m.next,0,none⟩) l c,m.new true (.cells (rows c z))) else none
   |_,_=>none
  |_,_=>none
 | .s2b _ t x=>match evo env x with
  |some (.string s)=>some (.slice (some ⟨m.next,0,none⟩) s.data.toList.length s.data.toList.length,m.new true (.grown 1 t (byteCells s.data.toList)))
  |_=>none
 | .b2s _ x=>match evo env x with
  |some (.slice none _ _)=>some (.string ⟨⟨[]⟩⟩,m)
  |some (.slice (some a) n _)=>match m.loads (some a) n with
   |some cs=>(cellBytes cs).map fun l=>(.string ⟨⟨l⟩⟩,m)
   |none=>none
  |_=>none
 | .append _ e b t x y=>match evo env x,evo env y with
  |some u,some v=>appendM m e b t u v
  |_,_=>none
 | .appz _ e b t z x n=>match evo env x,evo env n with
  |some (.slice (some ⟨i,o,some 1⟩) l cp),some (.int .i64 (.ofNat k))=>match m.get i with
   |some ob=>bif exactB (some 1) ob&&(Nat.blt 0 k&&(Nat.blt cp (l+k)&&roomy (l+k) b)) then(match m.loads (some ⟨i,o,none⟩) (l*e) with
     |some old=>some (.slice (some ⟨m.next,0,none⟩) (l+k) (l+k),m.new true (.grown e t (old++rows k z)))
     |none=>none) else none
   |none=>none
  |_,_=>none
 | .copy _ e x y=>match evo env x,evo env y with
  |some (.slice a dl _),some v=>match v with
   | .string s=>let src:=byteCells (s.data.toList.take dl)
    bif Nat.beq src.length 0 then some (.int .i64 0,m) else match a with
     |some ⟨i,o,_⟩=>(m.store ⟨i,o,none⟩ src).map fun m'=>(.int .i64 (Int.ofNat (Nat.min s.data.toList.length dl)),m')
     |none=>none
   | .slice b sl _=>let k:=bif Nat.ble sl dl then sl else dl
    bif Nat.beq k 0 then some (.int .i64 0,m) else match a,m.loads b (k*e) with
     |some ⟨i,o,_⟩,some src=>(m.store ⟨i,o,none⟩ src).map fun m'=>(.int .i64 (Int.ofNat k),m')
     |_,_=>none
   |_=>none
  |_,_=>none
 | .clear _ _ z x=>match evo env x with
  |some (.slice a n _)=>bif Nat.beq n 0 then some (.tuple ⟨[]⟩,m) else match a with
   |some ⟨i,o,_⟩=>(m.store ⟨i,o,none⟩ (rows n z)).map fun m'=>(.tuple ⟨[]⟩,m')
   |none=>none
  |_=>none
 | .newt _ hp t cs=>some (.pointer (some ⟨m.next,0,none⟩),m.new hp (.typed t cs))
 | .tou _ t x=>match evo env x with
  |some (.pointer (some ⟨i,0,none⟩))=>match m.get i with
   |some (.typed t' (_::_))=>bif Nat.beq t' t then some (.pointer (some ⟨i,0,none⟩),m) else none
   |_=>none
  |_=>none
 | .fromu _ t n x=>match evo env x with
  |some (.pointer (some ⟨i,0,none⟩))=>match m.get i with
   |some (.typed t' cs)=>bif Nat.beq t' t&&Nat.beq cs.length n then some (.pointer (some ⟨i,0,none⟩),m) else none
   |_=>none
  |_=>none
 | .usd _ x=>match evo env x with
  |some (.slice none _ _)=>some (.pointer none,m)
  |some (.slice (some ⟨i,o,none⟩) _ c)=>bif Nat.beq c 0 then none else some (.pointer (some ⟨i,o,none⟩),m)
  |_=>none
 | .ustr _ t x n=>match evo env x,evo env n with
  |some (.pointer p),some (.int .i64 (.ofNat n))=>bif Nat.beq n 0 then some (.string ⟨⟨[]⟩⟩,m) else match p with
   |some ⟨i,0,none⟩=>match m.get i with
    |some (.grown _ t' cs)=>bif Nat.beq t' t&&Nat.ble n 9223372036854775807 then(match cellBytesX (cs.take n) with
     |some l=>bif Nat.beq l.length n then some (.string ⟨⟨l⟩⟩,m.kill i) else none
     |none=>none) else none
    |_=>none
   |_=>none
  |_,_=>none
 | .mmap _=>some (.map (some m.next),m.new true (.map [] 0))
 | .mget _ z agg ok mm kk=>match evo env mm,evo env kk with
  |some (.map (some i)),some (.int k n)=>match m.get i with
   |some (.map es _)=>match keyAt k n es 0 with
    |some (some (_,v,_))=>some (bif ok then .tuple ⟨[v,.bool true]⟩ else v,m)
    |some none=>bif agg then none else(match z with
     |[zv]=>some (bif ok then .tuple ⟨[zv,.bool false]⟩ else zv,m)
     |_=>none)
    |none=>none
   |_=>none
  |_,_=>none
 | .ment _ z agg mm kk=>match evo env mm,evo env kk with
  |some (.map (some i)),some (.int k n)=>match m.get i with
   |some (.map es c)=>match keyAt k n es 0 with
    |some (some (_,v,b))=>some (.tuple ⟨[v,.int .i64 (Int.ofNat b)]⟩,m.put i (.map es c))
    |some none=>bif agg then none else(match z with
     |[zv]=>some (.tuple ⟨[zv,.int .i64 (Int.ofNat c)]⟩,m.put i (.map (es++[(.int k n,zv,c)]) (c+1)))
     |_=>none)
    |none=>none
   |_=>none
  |_,_=>none
 | .ests mm ss xx=>match evo env mm,evo env ss,evo env xx with
  |some (.map (some i)),some (.int .i64 (.ofNat s)),some (.int k n)=>match m.get i with
   |some (.map es c)=>(setBorn s (.int k n) es).map fun es'=>(undef,m.put i (.map es' c))
   |_=>none
  |_,_,_=>none
 | .mset mm kk xx=>match evo env mm,evo env kk,evo env xx with
  |some (.map (some i)),some (.int k n),some (.int vk vn)=>match m.get i with
   |some (.map es c)=>match keyAt k n es 0 with
    |some none=>some (undef,m.put i (.map (es++[(.int k n,.int vk vn,c)]) (c+1)))
    |_=>none
   |_=>none
  |_,_,_=>none
 | .mlen _ mm=>match evo env mm with
  |some (.map (some i))=>match m.get i with
   |some (.map es _)=>some (.int .i64 (Int.ofNat es.length),m)
   |_=>none
  |_=>none
 |_=>none
end
section
variable {E:Ext}{P:Program}{W0:World}{ρ:Ren}{φ:Foot}{m m':Mem E.X}{w:World}{env:List (Nat×Value)}{a:Act}
def Res(ρ:Ren)(v:Value):Next→Prop
 | .value v'=>VR ρ v v'
 | .skip=>v=undef
 |_=>False
def StepOk(E:Ext)(P:Program)(env:List (Nat×Value))(a:Act)(op:Op)(i:IOp):Prop :=
 ∀(W0:World) (ρ:Ren) (φ:Foot) (m m':Mem E.X) (v:Value) (w:World),mstep env m i=some (v,m')→ER ρ env a→Good (E:=E) W0 ρ φ m.get m.next w→m.Sep →
  ∀(dst:Option Tmp) (ty:TypeId) (pos:String) (af:Array Edge) (gd:Option (Nat×Bool)),∃r w' ρ' φ',(execOp a.eval ⟨dst,op,ty,pos,af,gd⟩).run P w = .ok r w'∧Res ρ' v r∧(r = .skip→dst=none∨True)∧Post W0 ρ φ m.get m.next w ρ' φ' m'.get m'.next w'∧m'.Sep
theorem post_new{o:AObj E.X}{s:Nat}{heap:Bool}{c:Obj}{w':World}(g:Good (E:=E) W0 ρ φ m.get m.next w)(hs:m.Sep)
  (hw:w'.heap=w.heap.push c) (ho:w'.os=w.os) (hp:w'.output=w.output)
  (hrel:ObjR E (ρ.put m.next (w.heap.size,s)) o w.heap.size s (· = w.heap.size) (· = w.heap.size) w') :
  Post W0 ρ φ m.get m.next w (ρ.put m.next (w.heap.size,s)) (fun j=>if j=m.next then((· = w.heap.size),(· = w.heap.size)) else φ j) (m.new heap o).get (m.new heap o).next w'∧(m.new heap o).Sep:=by
 obtain⟨h1,h2⟩:=Mem.none_next g
 rw[Mem.get_new h1,Mem.next_new]
 exact⟨g.new o s _ _ c hw ho hp (fun _ h=>h) (fun _ h=>h) (fun _ h=>h) hrel,Mem.sep_new hs h1 h2⟩
theorem le_put{n:Nat}{x:Nat×Nat}(h:ρ n=none):ρ.le (ρ.put n x):=fun i y hi=>by
 have:i≠n:=fun e=>by rw[e,h] at hi;cases hi
 simp[Ren.put,this,hi]
theorem free_zero(n:Nat):free (0,0) n:=fun o _ h=>by omega
theorem new_cells{cs cs':List Value}{heap:Bool}(g:Good (E:=E) W0 ρ φ m.get m.next w)(hs:m.Sep)(e:TypeId)(hc:All2 (FR ρ) cs cs') :
  ∃ρ' φ',ρ' m.next=some (w.heap.size,0)∧Post W0 ρ φ m.get m.next w ρ' φ' (m.new heap (.cells cs)).get (m.new heap (.cells cs)).next { w with heap:=w.heap.push (.cells ⟨cs'⟩ e) }∧(m.new heap (.cells cs)).Sep:=by
 have hle:=le_put (ρ:=ρ) (x:=(w.heap.size,0)) (g.dom m.next (Nat.le_refl _))
 obtain⟨k1,k2⟩:=post_new (o:=.cells cs) (s:=0) (heap:=heap) (c:=.cells ⟨cs'⟩ e) (w':={ w with heap:=w.heap.push (.cells ⟨cs'⟩ e) }) g hs rfl rfl rfl
  ⟨rfl,fun _=>Iff.rfl,fun _=>Iff.rfl,⟨cs'⟩,e,(0,0),by simp,hc.mono fun _ _=>FR.mono hle,free_zero _⟩
 exact⟨_,_,by simp[Ren.put],k1,k2⟩
theorem run_newRow(e:TypeId)(c:Array Value):(newRow e c).run P w = .ok ⟨w.heap.size,0,none⟩ { w with heap:=w.heap.push (.cells c e) }:=by
 simp[newRow]
theorem step_load(t:TypeId)(x:Operand){d n:Nat}{g:Bool}{y:Opd}(hg:aggT P t=some g)(hn:∃k,sizeT P t=some k∧n=bif g then k else 1)(hn0:n≠0)(hx:mkOpd x=some y):StepOk E P env a (.load t x) (.load d n g y):=by
 intro W0 ρ φ m m' v w hm hE hG hs dst ty pos af gd
 simp only[mstep] at hm
 split at hm
 ·rename_i ad had
  split at hm
  ·rename_i r hr
   simp only[Option.map_eq_some_iff,Prod.mk.injEq] at hm
   obtain⟨v',hv,rfl,rfl⟩:=hm
   have hp:=opd_sound hx had hE
   obtain⟨k,hk,rfl⟩:=hn
   cases hq:a.eval x<;>rw[hq] at hp<;>have hf:=hp.flat_ptr<;>cases hf
   rename_i i b s o hrb
   obtain⟨r',l1,l2,l3⟩:=load_sound (P:=P) hr hG hn0 (.ptr hrb)
   unfold oneOf at hv
   cases g with
   |true =>
    simp only[cond_true,zI] at hv l1;subst hv
    refine⟨.value (.agg ⟨r'⟩),w,ρ,φ,?_,.x (.agg l2),fun h=>.inr trivial,Post.refl hG,hs⟩
    simp only[execOp,hq,Instr.loadAt,Instr.sureAddr,loadVar,Sem.run_bind,Sem.run_pure,Result.andThen_ok,run_agg hg,if_true,run_size hk,l1]
   |false =>
    simp only[cond_false] at hv
    split at hv
    ·rename_i c
     injection hv with hv;subst hv
     obtain⟨yv,l4,l5⟩:=l3 c rfl rfl
     refine⟨.value yv,w,ρ,φ,?_,.of_flat l5,fun h=>.inr trivial,Post.refl hG,hs⟩
     simp only[execOp,hq,Instr.loadAt,Instr.sureAddr,loadVar,Sem.run_bind,Sem.run_pure,Result.andThen_ok,run_agg hg,Bool.false_eq_true,if_false,l4]
    ·cases hv
  ·cases hm
 ·cases hm
theorem step_store(t:TypeId)(x y:Operand){n:Nat}{x' y':Opd}(hn:sizeT P t=some n)(hx:mkOpd x=some x')(hy:mkOpd y=some y'):StepOk E P env a (.store t x y) (.store n x' y'):=by
 intro W0 ρ φ m m' v w hm hE hG hs dst ty pos af gd
 simp only[mstep] at hm
 split at hm
 ·rename_i ad val had hval
  split at hm
  ·rename_i vs hvs
   cases hl:Nat.beq vs.length n with
   |false=>rw[hl] at hm;cases hm
   |true =>
    rw[hl,cond_true] at hm
    rw[Nat.beq_eq] at hl
    simp only[Option.map_eq_some_iff,Prod.mk.injEq] at hm
    obtain⟨m1,h1,rfl,rfl⟩:=hm
    have hp:=opd_sound hx had hE
    have hc:=cellsV_sound hvs (opd_sound hy hval hE)
    cases hq:a.eval x<;>rw[hq] at hp<;>have hf:=hp.flat_ptr<;>cases hf
    rename_i i b s o hrb
    obtain⟨w',l1,l2,l3⟩:=store_sound (P:=P) h1 hG hs (.ptr hrb) hc
    refine⟨.skip,w',ρ,φ,?_,rfl,fun h=>.inr trivial,l2,l3⟩
    have hsz:¬((a.eval y).cells.size≠n):=by
     have:vs.length=(a.eval y).cells.size:=by simpa using hc.length
     omega
    simp only[execOp,hq,Instr.storeAt,Instr.sureAddr,storeVar,Sem.run_bind,Sem.run_pure,Result.andThen_ok,run_size hn,hsz,if_false,l1]
  ·cases hm
 ·cases hm
def AllocOk(P:Program)(env:List (Nat×Value))(a:Act)(op:Op)(i:IOp):Prop :=
 ∀(ρ:Ren) (r:Bool×List Value×Option Nat) (w:World),allocI env i=some r→ER ρ env a →
  ∀(dst:Option Tmp) (ty:TypeId) (pos:String) (af:Array Edge) (gd:Option (Nat×Bool)),∃cs' e,(execOp a.eval ⟨dst,op,ty,pos,af,gd⟩).run P w = .ok (.value (refTo w.heap.size r.2.2)) { w with heap:=w.heap.push (.cells ⟨cs'⟩ e) }∧All2 (FR ρ) r.2.1 cs'
theorem ref_sound{i b:Nat}{k:Option Nat}(h:ρ i=some (b,0)):VR ρ (refTo i k) (refTo b k):=by
 cases k with
 |none=>exact .of_flat (.ptr h)
 |some n=>exact .of_flat (.slc (c:=n) h)
theorem step_of_alloc{op:Op}{i:IOp}(h:AllocOk P env a op i)(hm:∀m:Mem E.X,mstep env m i=(allocI env i).map fun r=>(refTo m.next r.2.2,m.new r.1 (.cells r.2.1))):StepOk E P env a op i:=by
 intro W0 ρ φ m m' v w hs hE hG hsp dst ty pos af gd
 rw[hm] at hs
 simp only[Option.map_eq_some_iff,Prod.mk.injEq] at hs
 obtain⟨r,hr,rfl,rfl⟩:=hs
 obtain⟨cs',e,k1,k2⟩:=h ρ r w hr hE dst ty pos af gd
 obtain⟨ρ',φ',h1,h2,h3⟩:=new_cells (heap:=r.1) hG hsp e k2
 exact⟨_,_,ρ',φ',k1,ref_sound h1,fun h=>.inr trivial,h2,h3⟩
theorem alloc_new(t:TypeId){d:Nat}{hp:Bool}{z:List Value}(hz:zeroOf P t=some z):AllocOk P env a (.alloc t) (.new d hp z):=by
 intro ρ r w hm hE dst ty pos af gd
 simp only[allocI,zI] at hm
 subst hm
 obtain⟨zv,z1,z2,z3,z4⟩:=run_zero (ρ:=ρ) (w:=w) hz
 refine⟨z,t,?_,z3⟩
 have hz':zv.cells=⟨z⟩:=Array.ext' z2
 simp only[execOp,Instr.alloc,newVar,Sem.run_bind,z1,Result.andThen_ok,Sem.run_pure,hz',run_newRow]
 rfl
theorem alloc_box(t:TypeId)(x:Operand){d:Nat}{hp:Bool}{y:Opd}(hx:mkOpd x=some y):AllocOk P env a (.box t x) (.box d hp y):=by
 intro ρ r w hm hE dst ty pos af gd
 simp only[allocI] at hm
 split at hm
 ·rename_i val hval
  simp only[Option.map_eq_some_iff] at hm
  obtain⟨vs,hvs,rfl⟩:=hm
  refine⟨(a.eval x).cells.toList,t,?_,cellsV_sound hvs (opd_sound hx hval hE)⟩
  simp only[execOp,Instr.box,newVar,Sem.run_bind,Result.andThen_ok,Sem.run_pure,run_newRow]
  rfl
 ·cases hm
theorem rows_length(n:Nat)(z:List Value):(rows n z).length=n*z.length:=by
 unfold rows;simp
theorem rows_all2{n:Nat}{z z':List Value}(h:All2 (FR ρ) z z'):All2 (FR ρ) (rows n z) (rows n z'):=(All2.replicate h n).flatten
theorem rows_model(n:Nat)(z:Array Value)(hz:z.size≠0∨n=0):(Array.range (n*z.size)).map (fun i=>z[i % z.size]!)=⟨rows n z.toList⟩:=by
 apply Array.ext'
 rw[Array.toList_map,Array.toList_range]
 induction n with
 |zero=>simp[rows]
 |succ n ih =>
  have hz:z.size≠0:=by rcases hz with h|h;exact h;omega
  have ih:=ih (.inl hz)
  rw[Nat.succ_mul,List.range_add,List.map_append,ih]
  have:rows (n+1) z.toList=rows n z.toList++z.toList:=by
   unfold rows
   rw[List.replicate_succ']
   simp
  rw[this]
  congr 1
  rw[List.map_map]
  apply List.ext_getElem
  ·simp
  ·intro i h1 h2
   simp only[List.getElem_map,List.getElem_range,Function.comp]
   have hi:i<z.size:=by simpa using h1
   have:(n*z.size+i) % z.size=i:=by rw[Nat.mul_add_mod_self_right];exact Nat.mod_eq_of_lt hi
   rw[this]
   simp[hi]
theorem mkRow_parts(e:Nat):∀{ps:List (Nat×Operand)} {qs:List (Nat×Opd)},mkRow ps=some qs→mkParts (fun i=>some (i*e,e)) ps=some (qs.map fun p=>(p.1*e,e,p.2))
 |[],qs,h=>by simp only[mkRow,zI] at h;subst h;rfl
 |(i,x)::ps,qs,h=>by
  simp only[mkRow] at h
  split at h
  ·rename_i y s h1 h2
   injection h with h;subst h
   simp only[mkParts,h1,mkRow_parts e h2,List.map_cons]
  ·cases h
theorem alloc_bslice(t:TypeId)(n:Nat)(ps:Array (Nat×Operand)){e:TypeId}{d k:Nat}{z:List Value}{qs:List (Nat×Opd)}(hu:P.underlying t=some (.slice e))(hz:zeroOf P e=some z)(hk:sizeT P e=some k)(hq:mkRow ps.toList=some qs)(hle:n*k≤16777216) :
  AllocOk P env a (.buildSlice t n ps) (.bslice d n k z qs):=by
 intro ρ r w hm hE dst ty pos af gd
 simp only[allocI,Option.map_eq_some_iff] at hm
 obtain⟨cs,hcs,rfl⟩:=hm
 obtain⟨zv,z1,z2,z3,z4⟩:=run_zero (ρ:=ρ) (w:=w) hz
 rw[hk] at z4;injection z4 with z4
 have hz':zv.cells=⟨z⟩:=Array.ext' z2
 obtain⟨r',f1,f2⟩:=fill_sound (cs':=rows n z) (mkRow_parts k hq) hcs hE (rows_all2 z3)
 refine⟨r',e,?_,f2⟩
 have hmap:(ps.map fun(i,x)=>(i,a.eval x)).toList=ps.toList.map fun p=>(p.1,a.eval p.2):=by rw[Array.toList_map]
 have hgt:¬(n*k>2 ^ 24):=by omega
 simp only[execOp,Instr.buildSlice,Sem.run_bind,run_under hu,Result.andThen_ok,run_size hk,hgt,if_false,Sem.run_pure]
 by_cases h0:n*k=0
 ·simp only[h0,if_true,Sem.run_bind,Sem.run_pure,Result.andThen_ok,hmap]
  have hrow:rows n z=[]:=List.eq_nil_of_length_eq_zero (by rw[rows_length,← z4];exact h0)
  rw[hrow] at f1
  have e0:(Array.range 0).map (fun x=>(#[]:Array Value)[x % (#[]:Array Value).size]!)=⟨[]⟩:=by simp
  rw[e0,f1]
  simp only[Sem.run_bind,run_newRow,Result.andThen_ok,Sem.run_pure]
  rfl
 ·simp only[h0,if_false,Sem.run_bind,z1,Sem.run_pure,Result.andThen_ok,hmap,hz']
  have hzs:(⟨z⟩:Array Value).size=k:=by show z.length=k;omega
  have e1:=rows_model n (⟨z⟩:Array Value) (.inl (by rw[hzs];intro e;rw[e] at h0;simp at h0))
  rw[hzs] at e1
  rw[hzs,e1,f1]
  simp only[Sem.run_bind,run_newRow,Result.andThen_ok,Sem.run_pure]
  rfl
theorem step_mslice(t:TypeId)(l c:Operand){e:TypeId}{i:TypeInfo}{d:Nat}{z:List Value}{l' c':Opd}(hu:P.underlying t=some (.slice e))(hi:P.info? e=some i)(hz:zeroOf P e=some z)(hl:mkOpd l=some l')(hc:mkOpd c=some c') :
  StepOk E P env a (.makeSlice t l c) (.mslice d i.size i.bytes z l' c'):=by
 intro W0 ρ φ m m' v w hm hE hG hs dst ty pos af gd
 simp only[mstep] at hm
 split at hm
 ·rename_i lv cv hlv hcv
  split at hm
  ·rename_i ln cn hln hcn
   cases hb:(Nat.ble ln cn&&Nat.ble (cn*i.bytes) 281474976710656&&Nat.ble cn 281474976710656) with
   |false=>rw[hb] at hm;cases hm
   |true =>
    rw[hb,cond_true] at hm
    simp only[Bool.and_eq_true,Nat.ble_eq] at hb
    obtain⟨⟨b1,b2⟩,b3⟩:=hb
    simp only[zI,Prod.mk.injEq] at hm
    obtain⟨rfl,rfl⟩:=hm
    obtain⟨kl,rfl⟩:=natOf_inv hln
    obtain⟨kc,rfl⟩:=natOf_inv hcn
    obtain⟨zv,z1,z2,z3,z4⟩:=run_zero (ρ:=ρ) (w:=w) hz
    have hz':zv.cells=⟨z⟩:=Array.ext' z2
    have hsz:sizeT P e=some i.size:=by simp[sizeT,hi]
    rw[hsz] at z4;injection z4 with z4
    obtain⟨ρ',φ',h1,h2,h3⟩:=new_cells (heap:=true) hG hs e (rows_all2 (n:=cn) z3)
    refine⟨.value (.slice (some ⟨w.heap.size,0,none⟩) ln cn),_,ρ',φ',?_,.of_flat (.slc (c:=cn) h1),fun h=>.inr trivial,h2,h3⟩
    have el:IntKind.i64.wrap (Int.ofNat ln)=ln:=wrapF_nat .i64 ln (by simp only[half];omega)
    have ec:IntKind.i64.wrap (Int.ofNat cn)=cn:=wrapF_nat .i64 cn (by simp only[half];omega)
    simp only[execOp,(opd_sound hl hlv hE).int_inv,(opd_sound hc hcv hE).int_inv,Instr.makeSlice,Sem.run_bind,run_under hu,Result.andThen_ok,asInt,asIntOf,Sem.run_pure,run_info hi,el,ec]
    have t1:(decide ((cn:Int)<0)||decide ((i.bytes:Int)*(cn:Int)>2 ^ 48))=false:=by
     simp only[Bool.or_eq_false_iff,decide_eq_false_iff_not]
     have:(i.bytes:Int)*cn=((cn*i.bytes:Nat):Int):=by rw[Int.natCast_mul,Int.mul_comm]
     rw[this]
     constructor<;>omega
    have t2:(decide ((ln:Int)<0))=false:=by simp
    have t3:(decide ((ln:Int)>(cn:Int)))=false:=by simp;omega
    simp only[t1,t2,t3,Bool.or_self,Bool.false_eq_true,if_false,Sem.run_bind,Go.run_askRoom,Result.andThen_ok,Int.toNat_natCast,run_size hsz]
    by_cases h0:cn*i.size=0
    ·have hrow:rows cn z=[]:=List.eq_nil_of_length_eq_zero (by rw[rows_length,← z4];exact h0)
     simp only[h0,if_true,Sem.run_pure,Sem.run_bind,Result.andThen_ok,hrow]
     have e0:(Array.range 0).map (fun x=>(#[]:Array Value)[x % (#[]:Array Value).size]!)=⟨[]⟩:=by simp
     rw[e0]
     simp only[run_newRow,Result.andThen_ok]
    ·have hzs:(⟨z⟩:Array Value).size=i.size:=by show z.length=i.size;omega
     have e1:=rows_model cn (⟨z⟩:Array Value) (.inl (by rw[hzs];intro e;rw[e] at h0;simp at h0))
     rw[hzs] at e1
     simp only[h0,if_false,Sem.run_pure,Sem.run_bind,Result.andThen_ok,z1,hz',hzs,e1,run_newRow]
  ·cases hm
 ·cases hm
theorem byte_cells(l:List UInt8):All2 (FR ρ) (byteCells l) (byteCells l):=by
 induction l with
 |nil=>exact .nil
 |cons b l ih=>exact .cons (.int _ _) ih
theorem int_row{ρ:Ren}{k:IntKind}(n:Nat)(x:Int):All2 (FR ρ) (List.replicate n (.int k x)) (List.replicate n (.int k x)):=by
 induction n with
 |zero=>exact .nil
 |succ n ih=>exact .cons (.int _ _) ih
theorem new_grown{cs cs' rest:List Value}{s ez:Nat}{heap:Bool}{w':World}(g:Good (E:=E) W0 ρ φ m.get m.next w)(hs:m.Sep)(e:TypeId)(hc:All2 (FR ρ) cs cs')(hr:rest.length=s*ez)(hr2:∃ra,All2 (FR fun _=>none) ra rest)
  (f:Nat×Nat) (hf:free f (cs'++rest).length) (hw:w'.heap=w.heap.push (.cells ⟨cs'++rest⟩ e f)) (ho:w'.os=w.os) (hp:w'.output=w.output) :
  ∃ρ' φ',ρ' m.next=some (w.heap.size,s)∧Post W0 ρ φ m.get m.next w ρ' φ' (m.new heap (.grown ez e cs)).get (m.new heap (.grown ez e cs)).next w'∧(m.new heap (.grown ez e cs)).Sep:=by
 have hle:=le_put (ρ:=ρ) (x:=(w.heap.size,s)) (g.dom m.next (Nat.le_refl _))
 have hl:=hc.length
 obtain⟨k1,k2⟩:=post_new (o:=.grown ez e cs) (s:=s) (heap:=heap) (c:=.cells ⟨cs'++rest⟩ e f) (w':=w') g hs hw ho hp
  ⟨fun _=>Iff.rfl,fun _=>Iff.rfl,⟨cs'++rest⟩,e,f,by rw[hw];simp,by show(cs'++rest).length=_;simp;omega,by
   show All2 _ cs ((cs'++rest).take cs.length)
   rw[hl,List.take_left']
   ·exact hc.mono fun _ _=>FR.mono hle
   ·rfl,hf,rfl,by
   obtain⟨ra,h⟩:=hr2
   refine⟨ra,?_⟩
   show All2 _ ra ((cs'++rest).drop cs.length)
   rw[hl,List.drop_left']
   ·exact h
   ·rfl⟩
 exact⟨_,_,by simp[Ren.put],k1,k2⟩
theorem step_s2b(s t:TypeId)(x:Operand){e:TypeId}{d:Nat}{y:Opd}(hs1:P.underlying s=some .string)(ht:P.underlying t=some (.slice e))(he:P.underlying e=some (.int .u8))(hx:mkOpd x=some y) :
  StepOk E P env a (.convert s t x) (.s2b d e y):=by
 intro W0 ρ φ m m' v w hm hE hG hs dst ty pos af gd
 simp only[mstep] at hm
 split at hm
 ·rename_i q hq
  simp only[zI,Prod.mk.injEq] at hm
  obtain⟨rfl,rfl⟩:=hm
  have hcut:∀k,¬(Question.appendCap q.size 0 e).forced=true∧q.size≤(Question.appendCap q.size 0 e).cut k:=by
   intro k;refine⟨by simp[Question.forced],by simp[Question.cut]⟩
  obtain⟨hnf,hcap⟩:=hcut (w.tape w.drawn (Question.appendCap q.size 0 e))
  generalize hC:(Question.appendCap q.size 0 e).cut (w.tape w.drawn (Question.appendCap q.size 0 e))=C at hcap
  have hqs:q.data.toList.length=q.size:=by simp
  have hrow:(q.data.map fun b=>(Value.int .u8 b.toNat))++Array.replicate (C-q.size) (Value.int .u8 0)=⟨byteCells q.data.toList++List.replicate (C-q.size) (.int .u8 0)⟩:=by
   apply Array.ext'
   simp[byteCells]
  have hlen:(byteCells q.data.toList++List.replicate (C-q.size) (Value.int .u8 0)).length=C:=by
   simp only[byteCells,List.length_append,List.length_map,List.length_replicate,hqs];omega
  obtain⟨ρ',φ',h1,h2,h3⟩:=new_grown (heap:=true) (ez:=1) (s:=C-q.size) (w':={ w with drawn:=w.drawn+1,heap:=w.heap.push (.cells ⟨byteCells q.data.toList++List.replicate (C-q.size) (.int .u8 0)⟩ e (C,C+1)) }) hG hs e (byte_cells q.data.toList) (by simp) ⟨_,int_row _ _⟩ (C,C+1) (by rw[hlen];intro o ho;omega) rfl rfl rfl
  refine⟨.value (.slice (some ⟨w.heap.size,0,none⟩) q.size (q.size+(C-q.size))),_,ρ',φ',?_,?_,fun h=>.inr trivial,h2,h3⟩
  ·simp only[execOp,(opd_sound hx hq hE).str_inv,convert,Sem.run_bind,run_under hs1,run_under ht,run_under he,Result.andThen_ok,Conv.stringToBytes,run_choose,hnf,hC,Bool.false_eq_true,if_false,hrow,run_newRow,markStringish,run_shape,Sem.run_pure]
   have hsh:({ w with drawn:=w.drawn+1,heap:=w.heap.push (.cells ⟨byteCells q.data.toList++List.replicate (C-q.size) (.int .u8 0)⟩ e) }:World).shape? w.heap.size=some (e,C):=by
    simp only[World.shape?,Array.getElem?_push_size,zI,Prod.mk.injEq,true_and]
    exact hlen
   simp only[hsh]
   simp only[run_freeze,Result.andThen_ok]
   rw[show q.size+(C-q.size)=C by omega]
   congr 1
   unfold World.freeze
   simp only[Nat.add_one_ne_zero,if_false]
   congr 1
   apply Array.ext_getElem?
   intro j
   rw[Array.getElem?_modify]
   by_cases hj:j=w.heap.size
   ·subst hj;simp
   ·simp only[Ne.symm hj,if_false]
    rcases Nat.lt_or_ge j w.heap.size with h'|h'
    ·rw[Array.getElem?_push_lt h',Array.getElem?_push_lt h']
    ·have hne:w.heap.size<j:=by omega
     rw[Array.getElem?_eq_none (by simp;omega),Array.getElem?_eq_none (by simp;omega)]
  ·rw[hqs];exact .of_flat (.slc h1)
 ·cases hm
theorem loads_sound{x x':Option Addr}{n l c l' c':Nat}{r:List Value}(h:m.loads x n=some r)(g:Good (E:=E) W0 ρ φ m.get m.next w)(hx:FR ρ (.slice x l c) (.slice x' l' c'))(hl:x=none→n=0)(hz:n≠0→l≠0) :
  ∃r',(match x' with|some b=>(loadCells b n).run P w|none=>Result.ok #[] w) = .ok ⟨r'⟩ w∧All2 (FR ρ) r r':=by
 unfold Mem.loads at h
 by_cases hn:n=0
 ·subst hn
  simp only[Nat.beq_refl,cond_true,zI] at h;subst h
  refine⟨[],?_,.nil⟩
  cases x'<;>rfl
 ·have hb:Nat.beq n 0=false:=by rw[← Bool.not_eq_true,Nat.beq_eq];exact hn
  rw[hb,cond_false] at h
  cases hx with
  |nils=>exact(hn (hl rfl)).elim
  |slc hr=>obtain⟨r',k1,k2,_⟩:=load_sound (P:=P) h g hn (.ptr hr);exact⟨r',k1,k2⟩
  |slx hr=>obtain⟨r',k1,k2,_⟩:=load_sound (P:=P) h g hn (.ptr hr);exact⟨r',k1,k2⟩
  |slz hr=>exact(hz hn rfl).elim
end
end Go.AI
/- The evaluator's steps upon bytes, copies and appends are the model's. No program is named here. -/
namespace Go.AI
variable {E:Ext}{P:Program}{W0:World}{ρ:Ren}{φ:Foot}{m m':Mem E.X}{w:World}{env:List (Nat×Value)}{a:Act}
theorem cellBytes_inv:∀{cs:List Value} {l:List UInt8},cellBytes cs=some l→∃ns:List Nat,cs=ns.map (fun(n:Nat)=>Value.int .u8 n)∧l=ns.map UInt8.ofNat
 |[],l,h=>by simp only[cellBytes,zI] at h;subst h;exact⟨[],rfl,rfl⟩
 |c::cs,l,h=>by
  unfold cellBytes at h
  split at h
  ·rename_i heq;cases heq
  ·rename_i n r heq
   injection heq with e1 e2;subst e1;subst e2
   simp only[Option.map_eq_some_iff] at h
   obtain⟨l',h',rfl⟩:=h
   obtain⟨ns,rfl,rfl⟩:=cellBytes_inv h'
   exact⟨n::ns,rfl,rfl⟩
  ·cases h
theorem ints_same{ns:List Nat}{ys:List Value}(h:All2 (FR ρ) (ns.map (fun(n:Nat)=>Value.int .u8 n)) ys):ys=ns.map (fun(n:Nat)=>Value.int .u8 n):=by
 induction ns generalizing ys with
 |nil=>cases h;rfl
 |cons n ns ih =>
  cases h with
  |cons hf ht=>cases hf;rw[ih ht];rfl
theorem push_loop{f:Value→ByteArray→Sem (ForInStep ByteArray)}(hf:∀(n:Int) (s:ByteArray),f (.int .u8 n) s=pure (ForInStep.yield (s.push (UInt8.ofNat n.toNat))))(ns:List Nat) :
  ∀(s:ByteArray),(forIn (m:=Sem) (ns.map (fun(n:Nat)=>Value.int .u8 n)) s f).run P w = .ok ⟨⟨s.data.toList++ns.map UInt8.ofNat⟩⟩ w:=by
 induction ns with
 |nil=>intro s;simp
 |cons n ns ih =>
  intro s
  simp only[List.map_cons,List.forIn_cons,Sem.run_bind,hf,Sem.run_pure,Result.andThen_ok]
  rw[ih]
  simp
theorem step_b2s(s t:TypeId)(x:Operand){e:TypeId}{d:Nat}{y:Opd}(hs1:P.underlying s=some (.slice e))(ht:P.underlying t=some .string)(he:P.underlying e=some (.int .u8))(hx:mkOpd x=some y) :
  StepOk E P env a (.convert s t x) (.b2s d y):=by
 intro W0 ρ φ m m' v w hm hE hG hs dst ty pos af gd
 simp only[mstep] at hm
 split at hm
 ·rename_i l c hq
  simp only[zI,Prod.mk.injEq] at hm
  obtain⟨rfl,rfl⟩:=hm
  have hf:=(opd_sound hx hq hE).flat_slice
  refine⟨.value (.string ⟨⟨[]⟩⟩),w,ρ,φ,?_,.of_flat (.str _),fun h=>.inr trivial,Post.refl hG,hs⟩
  generalize hz:a.eval x=z at hf
  cases hf
  simp only[execOp,hz,convert,Sem.run_bind,run_under hs1,run_under ht,run_under he,Result.andThen_ok,Conv.bytesToString,Sem.run_pure]
  rfl
 ·rename_i ad n c hq
  split at hm
  ·rename_i cs hcs
   simp only[Option.map_eq_some_iff,Prod.mk.injEq] at hm
   obtain⟨l,hl,rfl,rfl⟩:=hm
   have hf:=(opd_sound hx hq hE).flat_slice
   obtain⟨z,c',hz⟩:=hf.slice_shape
   rw[hz] at hf
   obtain⟨r',l1,l2⟩:=loads_sound (P:=P) hcs hG hf (by simp) (fun h=>h)
   obtain⟨ns,rfl,rfl⟩:=cellBytes_inv hl
   have:=ints_same l2
   subst this
   refine⟨.value (.string ⟨⟨ns.map UInt8.ofNat⟩⟩),w,ρ,φ,?_,.of_flat (.str _),fun h=>.inr trivial,Post.refl hG,hs⟩
   obtain⟨zz,rfl⟩:∃zz,z=some zz:=by cases hf<;>exact⟨_,rfl⟩
   simp only[execOp,hz,convert,Sem.run_bind,run_under hs1,run_under ht,run_under he,Result.andThen_ok,Conv.bytesToString,Sem.run_pure]
   simp only at l1
   rw[l1]
   simp only[Result.andThen_ok]
   rw[← Array.forIn_toList]
   rw[push_loop (fun n s=>rfl) ns ByteArray.empty]
   simp
  ·cases hm
 ·cases hm
theorem bytes_cells_map(s:ByteArray)(n:Nat):((s.extract 0 n).data.map fun b=>(Value.int .u8 b.toNat))=⟨byteCells (s.data.toList.take n)⟩:=by
 apply Array.ext'
 simp[byteCells,Array.toList_extract,List.map_take]
theorem store_slice{x x':Option Addr}{i o l c l' c':Nat}{sp:Option Nat}{vs vs':List Value}(hx:x=some ⟨i,o,sp⟩)(hl:l≠0)(hf:FR ρ (.slice x l c) (.slice x' l' c'))(h:m.store ⟨i,o,none⟩ vs=some m')(g:Good (E:=E) W0 ρ φ m.get m.next w)(hs:m.Sep)(hv:All2 (FR ρ) vs vs') :
  ∃b w',x'=some b∧(storeCells b vs').run P w = .ok () w'∧Post W0 ρ φ m.get m.next w ρ φ m'.get m'.next w'∧m'.Sep:=by
 subst hx
 cases hf with
 |slc hr=>obtain⟨w',k1,k2,k3⟩:=store_sound (P:=P) h g hs (.ptr hr) hv;exact⟨_,w',rfl,k1,k2,k3⟩
 |slx hr=>obtain⟨w',k1,k2,k3⟩:=store_sound (P:=P) h g hs (.ptr hr) hv;exact⟨_,w',rfl,k1,k2,k3⟩
 |slz hr=>exact(hl rfl).elim
theorem loads_none{n:Nat}{r:List Value}(h:m.loads none n=some r):n=0:=by
 unfold Mem.loads at h
 cases hb:Nat.beq n 0 with
 |true=>rw[Nat.beq_eq] at hb;exact hb
 |false=>rw[hb] at h;cases h
theorem step_copy(ts:Array TypeId)(as:Array Operand){t e:TypeId}{d k:Nat}{x y:Opd}(ht:ts[0]? = some t)(hu:P.underlying t=some (.slice e))(hk:sizeT P e=some k)(hk0:k≠0)(hxs:mkOpds as.toList=some [x,y]) :
  StepOk E P env a (.call ⟨.builtin .copy,as,ts⟩) (.copy d k x y):=by
 intro W0 ρ φ m m' v w hm hE hG hs dst ty pos af gd
 simp only[mstep] at hm
 split at hm
 ·rename_i ad dl dc val hx hy
  have hall:=opds_sound (a:=a) hxs (show evs env [x,y]=some [.slice ad dl dc,val] by simp[evs,hx,hy]) hE
  have hm0:=map_toList (a:=a) (as:=as) rfl
  generalize as.toList.map a.eval=ws at hall hm0
  cases hall with
  |cons r1 rest =>
   cases rest with
   |cons r2 rest2 =>
    cases rest2
    rename_i xv yv
    have hf:=r1.flat_slice
    obtain⟨b,dc',rfl⟩:=hf.slice_shape
    have hexec:∀{q:Value} {w':World},(Builtin.copy_ ts ty ⟨[.slice b dl dc',yv]⟩).run P w = .ok q w'→(execOp a.eval ⟨dst,.call ⟨.builtin .copy,as,ts⟩,ty,pos,af,gd⟩).run P w = .ok (.value q) w':=by
     intro q w' h
     simp only[execOp,resolve,Sem.run_bind,Sem.run_pure,Result.andThen_ok,invoke,Go.builtin,hm0,h]
    split at hm
    ·rename_i s
     cases r2.str_inv
     have hcopy:∀{w':World} ,(match b with|some b=>(storeCells b (byteCells (s.data.toList.take dl))).run P w|none=>Result.ok () w) = .ok () w' →
       (Builtin.copy_ ts ty ⟨[.slice b dl dc',.string s]⟩).run P w = .ok (.int .i64 (Int.ofNat (Nat.min s.data.toList.length dl))) w':=by
      intro w' h
      have hmin:Nat.min s.size dl=Nat.min s.data.toList.length dl:=by simp
      have hcells:((s.extract 0 (Nat.min s.data.toList.length dl)).data.map fun b=>(Value.int .u8 b.toNat))=⟨byteCells (s.data.toList.take dl)⟩:=by
       rw[bytes_cells_map]
       congr 2
       rw[List.take_eq_take_iff]
       show min (min _ dl) _=_
       omega
      have g0:(⟨[Value.slice b dl dc',Value.string s]⟩:Array Value)[0]? = some (.slice b dl dc'):=by rw[arr_get];rfl
      have g1:(⟨[Value.slice b dl dc',Value.string s]⟩:Array Value)[1]? = some (.string s):=by rw[arr_get];rfl
      simp only[Builtin.copy_,ht,g0,g1,Sem.run_bind,run_under hu,Result.andThen_ok,Builtin.lenOf,Sem.run_pure,run_size hk,hmin,Builtin.firstCells,hcells]
      cases b with
      |none=>simp only at h;injection h with _ h;subst h;rfl
      |some b=>simp only at h;simp only[Sem.run_bind,h,Result.andThen_ok,Sem.run_pure];rfl
     cases hb:Nat.beq (byteCells (s.data.toList.take dl)).length 0 with
     |true =>
      rw[hb,cond_true] at hm
      rw[Nat.beq_eq] at hb
      simp only[zI,Prod.mk.injEq] at hm
      obtain⟨rfl,rfl⟩:=hm
      have h0:byteCells (s.data.toList.take dl)=[]:=List.eq_nil_of_length_eq_zero hb
      have h0':Nat.min s.data.toList.length dl=0:=by
       simp only[byteCells,List.length_map,List.length_take] at hb
       show min _ _=0
       omega
      refine⟨.value (.int .i64 (Int.ofNat (Nat.min s.data.toList.length dl))),w,ρ,φ,hexec (hcopy ?_),by rw[h0'];exact .of_flat (.int _ _),fun h=>.inr trivial,Post.refl hG,hs⟩
      rw[h0]
      cases b<;>rfl
     |false =>
      rw[hb,cond_false] at hm
      have hdl:dl≠0:=by
       intro e;subst e;simp[byteCells] at hb
      split at hm
      ·rename_i i o sp
       simp only[Option.map_eq_some_iff,Prod.mk.injEq] at hm
       obtain⟨m1,h1,rfl,rfl⟩:=hm
       obtain⟨b',w',rfl,k1,k2,k3⟩:=store_slice (P:=P) rfl hdl hf h1 hG hs (byte_cells _)
       exact⟨.value (.int .i64 (Int.ofNat (Nat.min s.data.toList.length dl))),w',ρ,φ,hexec (hcopy k1),.of_flat (.int _ _),fun h=>.inr trivial,k2,k3⟩
      ·cases hm
    ·rename_i sb sl sc
     have hf2:=r2.flat_slice
     obtain⟨b2,sc',rfl⟩:=hf2.slice_shape
     have ek:(bif Nat.ble sl dl then sl else dl)=Nat.min sl dl:=by
      cases hb:Nat.ble sl dl with
      |true=>rw[Nat.ble_eq] at hb;show sl=min sl dl;omega
      |false =>
           have:¬sl≤dl:=fun h=>by rw[← Nat.ble_eq] at h;rw[h] at hb;cases hb
           show dl=min sl dl;omega
     simp only[ek] at hm
     have hcopy:∀{cs:List Value} {w':World},(match b2 with|some b=>(loadCells b (Nat.min sl dl*k)).run P w|none=>Result.ok #[] w) = .ok ⟨cs⟩ w→(match b with|some b=>(storeCells b cs).run P w|none=>Result.ok () w) = .ok () w' →
       (Builtin.copy_ ts ty ⟨[.slice b dl dc',.slice b2 sl sc']⟩).run P w = .ok (.int .i64 (Int.ofNat (Nat.min sl dl))) w':=by
      intro cs w' h1 h2
      have g0:(⟨[Value.slice b dl dc',Value.slice b2 sl sc']⟩:Array Value)[0]? = some (.slice b dl dc'):=by rw[arr_get];rfl
      have g1:(⟨[Value.slice b dl dc',Value.slice b2 sl sc']⟩:Array Value)[1]? = some (.slice b2 sl sc'):=by rw[arr_get];rfl
      have hfc:(Builtin.firstCells k (Nat.min sl dl) (.slice b2 sl sc')).run P w = .ok ⟨cs⟩ w:=by
       cases b2 with
       |none=>exact h1
       |some b2=>exact h1
      simp only[Builtin.copy_,ht,g0,g1,Sem.run_bind,run_under hu,Result.andThen_ok,Builtin.lenOf,Sem.run_pure,run_size hk,hfc]
      cases b with
      |none=>simp only at h2;injection h2 with _ h2;subst h2;rfl
      |some b=>simp only at h2;simp only[Sem.run_bind,h2,Result.andThen_ok,Sem.run_pure];rfl
     cases hb:Nat.beq (Nat.min sl dl) 0 with
     |true =>
      rw[hb,cond_true] at hm
      rw[Nat.beq_eq] at hb
      simp only[zI,Prod.mk.injEq] at hm
      obtain⟨rfl,rfl⟩:=hm
      refine⟨.value (.int .i64 (Int.ofNat (Nat.min sl dl))),w,ρ,φ,hexec (hcopy (cs:=[]) ?_ ?_),by rw[hb];exact .of_flat (.int _ _),fun h=>.inr trivial,Post.refl hG,hs⟩
      ·rw[hb,Nat.zero_mul];cases b2<;>rfl
      ·cases b<;>rfl
     |false =>
      rw[hb,cond_false] at hm
      have hne:Nat.min sl dl≠0:=fun e=>by rw[e] at hb;simp at hb
      have hmin:min sl dl=Nat.min sl dl:=rfl
      split at hm
      ·rename_i i o sp src hsrc
       simp only[Option.map_eq_some_iff,Prod.mk.injEq] at hm
       obtain⟨m1,h1,rfl,rfl⟩:=hm
       have hnk:Nat.min sl dl*k≠0:=Nat.mul_ne_zero hne hk0
       obtain⟨r',l1,l2⟩:=loads_sound (P:=P) hsrc hG hf2 (fun e=>loads_none (e▸hsrc)) (fun _ h=>hne (by show min sl dl=0;omega))
       obtain⟨b',w',rfl,k1,k2,k3⟩:=store_slice (P:=P) rfl (fun h=>hne (by show min sl dl=0;omega)) hf h1 hG hs l2
       exact⟨.value (.int .i64 (Int.ofNat (Nat.min sl dl))),w',ρ,φ,hexec (hcopy l1 k1),.of_flat (.int _ _),fun h=>.inr trivial,k2,k3⟩
      ·cases hm
    ·cases hm
 ·cases hm
theorem zeroCells_rows(z:List Value)(n:Nat):(Builtin.zeroCells ⟨z⟩ n).toList=rows n z:=by
 by_cases h:z.length=0
 ·have hz:z=[]:=List.eq_nil_of_length_eq_zero h
  subst hz
  simp[Builtin.zeroCells,rows]
 ·have:=rows_model n (⟨z⟩:Array Value) (.inl h)
  unfold Builtin.zeroCells
  rw[this]
theorem step_clear(ts:Array TypeId)(as:Array Operand){t e:TypeId}{d:Option Nat}{k:Nat}{z:List Value}{x:Opd}(ht:ts[0]? = some t)(hu:P.underlying t=some (.slice e))(hz:zeroOf P e=some z)(hxs:mkOpds as.toList=some [x]) :
  StepOk E P env a (.call ⟨.builtin .clear,as,ts⟩) (.clear d k z x):=by
 intro W0 ρ φ m m' v w hm hE hG hs dst ty pos af gd
 obtain⟨yo,hyo,hx⟩:=mkOpds_one hxs
 have hm0:as.map a.eval=⟨[a.eval yo]⟩:=map_toList (by rw[hyo];rfl)
 simp only[mstep] at hm
 split at hm
 ·rename_i ad n c hq
  have hf:=(opd_sound hx hq hE).flat_slice
  obtain⟨b,c',hb⟩:=hf.slice_shape
  rw[hb] at hf hm0
  have hexec:∀{q:Value} {w':World},(Builtin.clear_ ts ty ⟨[.slice b n c']⟩).run P w = .ok q w'→(execOp a.eval ⟨dst,.call ⟨.builtin .clear,as,ts⟩,ty,pos,af,gd⟩).run P w = .ok (.value q) w':=by
   intro q w' h
   simp only[execOp,resolve,Sem.run_bind,Sem.run_pure,Result.andThen_ok,invoke,Go.builtin,hm0,h]
  have g0:(⟨[Value.slice b n c']⟩:Array Value)[0]? = some (.slice b n c'):=by rw[arr_get];rfl
  cases hn:Nat.beq n 0 with
  |true =>
   rw[hn,cond_true] at hm
   rw[Nat.beq_eq] at hn;subst hn
   simp only[zI,Prod.mk.injEq] at hm
   obtain⟨rfl,rfl⟩:=hm
   refine⟨.value (.tuple ⟨[]⟩),w,ρ,φ,hexec ?_,.tup .nil,fun h=>.inr trivial,Post.refl hG,hs⟩
   simp only[Builtin.clear_,ht,g0,Sem.run_bind,run_under hu,Result.andThen_ok]
   cases b<;>rfl
  |false =>
   rw[hn,cond_false] at hm
   have hn0:n≠0:=fun e=>by rw[e] at hn;simp at hn
   split at hm
   ·rename_i i o sp
    simp only[Option.map_eq_some_iff,Prod.mk.injEq] at hm
    obtain⟨m1,h1,rfl,rfl⟩:=hm
    obtain⟨zv,z1,z2,z3,z4⟩:=run_zero (ρ:=ρ) (w:=w) hz
    have hz':zv.cells=⟨z⟩:=Array.ext' z2
    obtain⟨b',w',rfl,k1,k2,k3⟩:=store_slice (P:=P) rfl hn0 hf h1 hG hs (rows_all2 (n:=n) z3)
    refine⟨.value (.tuple ⟨[]⟩),w',ρ,φ,hexec ?_,.tup .nil,fun h=>.inr trivial,k2,k3⟩
    obtain⟨n',rfl⟩:∃n',n=n'+1:=⟨n-1,by omega⟩
    simp only[Builtin.clear_,ht,g0,Sem.run_bind,run_under hu,Result.andThen_ok,z1,hz',zeroCells_rows,k1,Sem.run_pure]
   ·cases hm
 ·cases hm
end Go.AI
/- The evaluator's append is the model's, whether the model finds room or makes a new row. No program is named here. -/
namespace Go.AI
variable {E:Ext}{P:Program}{W0:World}{ρ:Ren}{φ:Foot}{m m':Mem E.X}{w:World}{env:List (Nat×Value)}{a:Act}
theorem growBy_le(n:Nat):∀(r c:Nat),c≤2*n+768→Builtin.growBy n r c≤2*n+768
 |0,c,h=>h
 |r+1,c,h=>by
  unfold Builtin.growBy
  split
  ·exact h
  ·exact growBy_le n r _ (by omega)
theorem next_le{n c:Nat}(h:c<n):Builtin.nextslicecap n c≤2*n+768:=by
 unfold Builtin.nextslicecap
 split
 ·omega
 ·split
  ·omega
  ·exact growBy_le n 4 c (by omega)
section
variable {ts:Array TypeId}{ty t u e:TypeId}{i:TypeInfo}{z:List Value}{base:Option Addr}{l c n:Nat}{y:Value}
theorem append_room(ht:ts[0]? = some t)(hu:P.underlying t=some (.slice e))(hi:P.info? e=some i)(ht1:ts[1]? = some u)(hsrc:(∃q,P.underlying u=some (.slice q))∨P.underlying u=some .string)
  (hl:(Builtin.lenOf y).run P w = .ok n w) {src:List Value} {w':World} (hn:l+n≤c) (hf:(Builtin.firstCells i.size n y).run P w = .ok ⟨src⟩ w)
  (hst:(match base with|some b=>(storeCells (b.add (l*i.size)) src).run P w|none=>Result.ok () w) = .ok () w') :
  (Builtin.append_ ts ty ⟨[.slice base l c,y]⟩).run P w = .ok (.slice base (l+n) c) w':=by
 have g0:(⟨[Value.slice base l c,y]⟩:Array Value)[0]? = some (.slice base l c):=by rw[arr_get];rfl
 have g1:(⟨[Value.slice base l c,y]⟩:Array Value)[1]? = some y:=by rw[arr_get];rfl
 have hsz:sizeT P e=some i.size:=by simp[sizeT,hi]
 rcases hsrc with⟨q,hq⟩|hq
 all_goals
  simp only[Builtin.append_,ht,ht1,g0,g1,Sem.run_bind,run_under hu,run_under hq,Result.andThen_ok,run_size hsz,Sem.run_pure,Bool.false_eq_true,if_false,hl,hn,if_true,Bool.not_false,hf]
  cases base with
  |none=>simp only at hst;injection hst with _ h;subst h;rfl
  |some b=>simp only at hst;simp only[Sem.run_bind,hst,Result.andThen_ok,Sem.run_pure]
theorem append_new(ht:ts[0]? = some t)(hu:P.underlying t=some (.slice e))(hi:P.info? e=some i)(ht1:ts[1]? = some u)(hsrc:(∃q,P.underlying u=some (.slice q))∨P.underlying u=some .string)
  (hz:zeroOf P e=some z) (hl:(Builtin.lenOf y).run P w = .ok n w) (hn:¬l+n≤c) (hr:roomy (l+n) i.bytes=true) (hb:i.bytes≠0) {src old:List Value}
  (hf:(Builtin.firstCells i.size n y).run P { w with drawn:=w.drawn+1 } = .ok ⟨src⟩ { w with drawn:=w.drawn+1 })
  (ho:(Builtin.firstCells i.size l (.slice base l c)).run P { w with drawn:=w.drawn+1 } = .ok ⟨old⟩ { w with drawn:=w.drawn+1 }) :
  ∃s rest,(rest.length=s*i.size∧∃ra,All2 (FR fun _=>none) ra rest)∧(Builtin.append_ ts ty ⟨[.slice base l c,y]⟩).run P w = .ok (.slice (some ⟨w.heap.size,0,none⟩) (l+n) (l+n+s)) { w with drawn:=w.drawn+1,heap:=w.heap.push (.cells ⟨(old++src)++rest⟩ e) }:=by
 have g0:(⟨[Value.slice base l c,y]⟩:Array Value)[0]? = some (.slice base l c):=by rw[arr_get];rfl
 have g1:(⟨[Value.slice base l c,y]⟩:Array Value)[1]? = some y:=by rw[arr_get];rfl
 have hsz:sizeT P e=some i.size:=by simp[sizeT,hi]
 have hnf:¬(Question.appendCap (l+n) c e).forced=true:=by simp[Question.forced]
 have hcap:l+n≤(Question.appendCap (l+n) c e).cut (w.tape w.drawn (Question.appendCap (l+n) c e)):=by simp[Question.cut]
 generalize hC:(Question.appendCap (l+n) c e).cut (w.tape w.drawn (Question.appendCap (l+n) c e))=C at hcap
 unfold roomy at hr
 rw[Nat.ble_eq] at hr
 have c2:¬(Builtin.nextslicecap (l+n) c*i.bytes>2 ^ 48):=by
  have h1:=next_le (n:=l+n) (c:=c) (by omega)
  generalize Builtin.nextslicecap (l+n) c=N at h1 ⊢
  have h0:N≤2*(l+n+1000):=(fun(a b c d:Nat) (h:a≤2*(b+c)+d) (e:d≤2000)=>by omega:∀a b c d:Nat,a≤2*(b+c)+d→d≤2000→a≤2*(b+c+1000)) N l n 768 h1 (by decide)
  have h2:N*i.bytes≤(2*(l+n+1000))*i.bytes:=Nat.mul_le_mul_right i.bytes h0
  have h3:(2*(l+n+1000))*i.bytes=2*((l+n+1000)*i.bytes):=Nat.mul_assoc _ _ _
  omega
 obtain⟨zv,z1,z2,z3,z4⟩:=run_zero (ρ:=fun _=>none) (w:={ w with drawn:=w.drawn+1 }) hz
 have hz':zv.cells=⟨z⟩:=Array.ext' z2
 refine⟨C-(l+n),rows (C-(l+n)) z,⟨?_,_,rows_all2 z3⟩,?_⟩
 ·rw[rows_length];rw[hsz] at z4;injection z4 with z4;rw[z4]
 ·have c1':¬(((l+n:Nat):Int)>IntKind.i64.max∧(False∨i.bytes=0)):=by
   rintro⟨_,h|h⟩
   ·exact h
   ·exact hb h
  have e1:(⟨old⟩:Array Value)++⟨src⟩++Builtin.zeroCells ⟨z⟩ (C-(l+n))=⟨(old++src)++rows (C-(l+n)) z⟩:=by
   apply Array.ext'
   rw[Array.toList_append,Array.toList_append,zeroCells_rows]
  rcases hsrc with⟨q,hq⟩|hq
  all_goals
   simp only[Builtin.append_,ht,ht1,g0,g1,Sem.run_bind,run_under hu,run_under hq,Result.andThen_ok,run_size hsz,Sem.run_pure,Bool.false_eq_true,if_false,hl,hn,run_info hi,c1',c2,run_choose,hnf,hC,Go.run_askRoom,Bool.not_false,if_true,ho,hf,z1,hz',run_newRow,e1]
   rw[show l+n+(C-(l+n))=C by omega]
end
theorem Good.swap{V V':View E}{n:Nat}{w':World}(g:Good (E:=E) W0 ρ φ V n w){i b s':Nat}{o o':AObj E.X}(hi:V i=some o)
  (hsz:w'.heap.size=w.heap.size) (ho:w'.os=w.os) (hp:w'.output=w.output) (hold:∀c,¬(φ i).1 c→w'.heap[c]? = w.heap[c]?)
  (hrel:ObjR E (ρ.put n (b,s')) o' b s' (φ i).1 (φ i).2 w')
  (hV:∀j oj,V' j=some oj→(j=n∧oj=o')∨(j≠n∧j≠i∧V j=some oj)) :
  Post W0 ρ φ V n w (ρ.put n (b,s')) (fun j=>if j=n then φ i else φ j) V' (n+1) w':=by
 have hle:=le_put (ρ:=ρ) (x:=(b,s')) (g.dom n (Nat.le_refl _))
 have hV':∀j oj,V' j=some oj→∃k ok,V k=some ok∧(if j=n then φ i else φ j)=φ k∧(j=n→k=i)∧(j≠n→k=j):=by
  intro j oj hj
  rcases hV j oj hj with⟨rfl,rfl⟩|⟨h1,h2,h3⟩
  ·exact⟨i,o,hi,by simp,fun _=>rfl,fun h=>absurd rfl h⟩
  ·exact⟨j,oj,h3,by simp[h1],fun h=>absurd h h1,fun _=>rfl⟩
 refine⟨⟨?_,?_,?_,?_,?_,?_,by rw[hsz];exact g.size,?_,by rw[ho];exact g.os,by rw[hp];exact g.out⟩,hle,by omega,by omega,fun c _ hF=>hold c (hF i o hi),?_,?_,?_,fun j hj=>by simp[Ren.put,show j≠n by omega]⟩
 ·intro j hj
  have:j≠n:=by omega
  simp only[Ren.put,this,if_false]
  exact g.dom j (by omega)
 ·intro j oj hj
  rcases hV j oj hj with⟨rfl,rfl⟩|⟨h1,h2,h3⟩
  ·exact⟨b,s',by simp[Ren.put],by simpa using hrel⟩
  ·obtain⟨b2,s2,hb,hr⟩:=g.rel j oj h3
   refine⟨b2,s2,hle _ _ hb,?_⟩
   simp only[h1,if_false]
   exact hr.frame hle fun c hc=>hold c fun hF=>g.dis i j o oj c hi h3 (fun e=>h2 e.symm) hF hc
 ·intro j k oj ok c hj hk hne hF hD
  obtain⟨j',oj',h1,h2,h3,h4⟩:=hV' j oj hj
  obtain⟨k',ok',h5,h6,h7,h8⟩:=hV' k ok hk
  simp only[h2] at hF
  simp only[h6] at hD
  refine g.dis j' k' oj' ok' c h1 h5 ?_ hF hD
  intro e
  by_cases ej:j=n
  ·by_cases ek:k=n
   ·exact hne (ej.trans ek.symm)
   ·rcases hV k ok hk with⟨h,_⟩|⟨_,h,_⟩
    ·exact ek h
    ·exact h (by rw[← h8 ek,← e,h3 ej])
  ·by_cases ek:k=n
   ·rcases hV j oj hj with⟨h,_⟩|⟨_,h,_⟩
    ·exact ej h
    ·exact h (by rw[← h4 ej,e,h7 ek])
   ·exact hne (by rw[← h4 ej,e,h8 ek])
 ·intro j oj c hj hF
  obtain⟨j',oj',h1,h2,_,_⟩:=hV' j oj hj
  simp only[h2] at hF ⊢
  exact g.sub j' oj' c h1 hF
 ·intro j oj c hj hD
  obtain⟨j',oj',h1,h2,_,_⟩:=hV' j oj hj
  simp only[h2] at hD
  rw[hsz];exact g.lts j' oj' c h1 hD
 ·intro j oj c hj hF
  obtain⟨j',oj',h1,h2,_,_⟩:=hV' j oj hj
  simp only[h2] at hF
  exact g.frs j' oj' c h1 hF
 ·intro c hc
  rw[hold c fun hF=>by have:=g.frs i o c hi hF;omega]
  exact g.base c hc
 ·intro j oj c hj hF
  obtain⟨j',oj',h1,h2,_,_⟩:=hV' j oj hj
  simp only[h2] at hF
  exact .inr ⟨j',oj',h1,hF⟩
 ·intro j oj c hj hD
  obtain⟨j',oj',h1,h2,_,_⟩:=hV' j oj hj
  simp only[h2] at hD
  exact .inr ⟨j',oj',h1,hD⟩
 ·intro j oj hj
  rcases hV j oj hj with⟨h,_⟩|⟨_,_,h⟩
  ·left;omega
  ·exact .inr ⟨oj,h⟩
theorem source_sound{e n:Nat}{y y':Value}{src:List Value}(h:source m e y=some (n,src))(hy:VR ρ y y') :
  (∀w:World,(Builtin.lenOf y').run P w = .ok n w)∧(n=0→src=[])∧∀(w:World),Good (E:=E) W0 ρ φ m.get m.next w→∃src',(Builtin.firstCells e n y').run P w = .ok ⟨src'⟩ w∧All2 (FR ρ) src src':=by
 unfold source at h
 split at h
 ·rename_i s
  simp only[zI,Prod.mk.injEq] at h
  obtain⟨rfl,rfl⟩:=h
  cases hy.str_inv
  refine⟨fun w=>by simp[Builtin.lenOf],fun h=>?_,fun w _=>⟨byteCells s.data.toList,?_,byte_cells _⟩⟩
  ·have:s.data.toList=[]:=List.eq_nil_of_length_eq_zero h
   rw[this];rfl
  ·simp only[Builtin.firstCells,Sem.run_pure]
   rw[bytes_cells_map,List.take_length]
 ·rename_i ad k c
  simp only[Option.map_eq_some_iff,Prod.mk.injEq] at h
  obtain⟨cs,hcs,rfl,rfl⟩:=h
  have hf:=hy.flat_slice
  obtain⟨b,c',rfl⟩:=hf.slice_shape
  refine⟨fun w=>rfl,fun h=>?_,fun w g=>?_⟩
  ·subst h
   simp only[Mem.loads,Nat.zero_mul,Nat.beq_refl,cond_true,zI] at hcs
   exact hcs.symm
  ·obtain⟨r',l1,l2⟩:=loads_sound (P:=P) hcs g hf (fun e=>loads_none (e▸hcs)) (fun h e=>h (by rw[e,Nat.zero_mul]))
   refine⟨r',?_,l2⟩
   cases b with
   |none=>exact l1
   |some b=>exact l1
 ·cases h
theorem good_drawn{V:View E}{n:Nat}(g:Good (E:=E) W0 ρ φ V n w):Good (E:=E) W0 ρ φ V n { w with drawn:=w.drawn+1 }:=g.world rfl rfl rfl
theorem append_grown{cs cs' rest:List Value}{s ez:Nat}(g:Good (E:=E) W0 ρ φ m.get m.next w)(hs:m.Sep)(e:TypeId)(hc:All2 (FR ρ) cs cs')(hr:rest.length=s*ez∧∃ra,All2 (FR fun _=>none) ra rest) :
  ∃ρ' φ',ρ' m.next=some (w.heap.size,s)∧Post W0 ρ φ m.get m.next w ρ' φ' (m.new true (.grown ez e cs)).get (m.new true (.grown ez e cs)).next { w with drawn:=w.drawn+1,heap:=w.heap.push (.cells ⟨cs'++rest⟩ e) }∧(m.new true (.grown ez e cs)).Sep :=
 new_grown (heap:=true) g hs e hc hr.1 hr.2 (0,0) (free_zero _) rfl rfl rfl
theorem first_slice{k l c:Nat}{b:Option Addr}{w:World}:(Builtin.firstCells k l (.slice b l c)).run P w=(match b with|some b=>(loadCells b (l*k)).run P w|none=>Result.ok #[] w):=by
 cases b<;>rfl
theorem step_append(ts:Array TypeId)(as:Array Operand){t u e:TypeId}{i:TypeInfo}{d:Nat}{z:List Value}{x y:Opd}(ht:ts[0]? = some t)(ht1:ts[1]? = some u)(hu:P.underlying t=some (.slice e))(hsrc:(∃q,P.underlying u=some (.slice q))∨P.underlying u=some .string)(hi:P.info? e=some i)(hz:zeroOf P e=some z)
  (hb0:i.bytes≠0) (_hs0:i.size≠0) (hxs:mkOpds as.toList=some [x,y]) :
  StepOk E P env a (.call ⟨.builtin .append,as,ts⟩) (.append d i.size i.bytes e x y):=by
 intro W0 ρ φ m m' v w hm hE hG hs dst ty pos af gd
 simp only[mstep] at hm
 split at hm
 ·rename_i xv yv hx hy
  have hall:=opds_sound (a:=a) hxs (show evs env [x,y]=some [xv,yv] by simp[evs,hx,hy]) hE
  have hm0:=map_toList (a:=a) (as:=as) rfl
  generalize as.toList.map a.eval=ws at hall hm0
  cases hall with
  |cons r1 rest =>
   cases rest with
   |cons r2 rest2 =>
    cases rest2
    rename_i xc yc
    have hexec:∀{q:Value} {w':World},(Builtin.append_ ts ty ⟨[xc,yc]⟩).run P w = .ok q w'→(execOp a.eval ⟨dst,.call ⟨.builtin .append,as,ts⟩,ty,pos,af,gd⟩).run P w = .ok (.value q) w':=by
     intro q w' h
     simp only[execOp,resolve,Sem.run_bind,Sem.run_pure,Result.andThen_ok,invoke,Go.builtin,hm0,h]
    unfold appendM at hm
    split at hm
    ·-- a nil slice
     rename_i l cp n src hsr
     obtain⟨s1,s2,s3⟩:=source_sound (P:=P) (ρ:=ρ) (W0:=W0) (φ:=φ) hsr r2
     have hf:=r1.flat_slice
     cases hf
     cases hb:Nat.ble (l+n) cp with
     |true =>
      rw[hb,cond_true] at hm
      rw[Nat.ble_eq] at hb
      simp only[zI,Prod.mk.injEq] at hm
      obtain⟨rfl,rfl⟩:=hm
      obtain⟨src',k1,k2⟩:=s3 w hG
      exact⟨.value (.slice none (l+n) cp),w,ρ,φ,hexec (append_room ht hu hi ht1 hsrc (s1 w) hb k1 rfl),.of_flat (.nils _ _),fun h=>.inr trivial,Post.refl hG,hs⟩
     |false =>
      rw[hb,cond_false] at hm
      have hnb:¬l+n≤cp:=fun h=>by rw[← Nat.ble_eq] at h;rw[h] at hb;cases hb
      cases hcnd:(Nat.beq l 0&&roomy (l+n) i.bytes) with
      |false=>rw[hcnd] at hm;cases hm
      |true =>
       rw[hcnd,cond_true] at hm
       simp only[Bool.and_eq_true,Nat.beq_eq] at hcnd
       obtain⟨rfl,hro⟩:=hcnd
       simp only[zI,Prod.mk.injEq] at hm
       obtain⟨rfl,rfl⟩:=hm
       obtain⟨src',k1,k2⟩:=s3 _ (good_drawn hG)
       obtain⟨s,rest,q1,q2⟩:=append_new (ty:=ty) (base:=none) ht hu hi ht1 hsrc hz (s1 w) hnb hro hb0 k1 (old:=[]) rfl
       obtain⟨ρ',φ',p1,p2,p3⟩:=append_grown (rest:=rest) hG hs e k2 q1
       refine⟨_,_,ρ',φ',hexec q2,.of_flat (.slc p1),fun h=>.inr trivial,?_,p3⟩
       simpa using p2
    ·rename_i ii o sp l cp n src hsr
     obtain⟨s1,s2,s3⟩:=source_sound (P:=P) (ρ:=ρ) (W0:=W0) (φ:=φ) hsr r2
     split at hm
     ·rename_i ob hob
      -- the place of the slice
      have hf:=r1.flat_slice
      obtain⟨b,s,hbs,hobj⟩:=hG.rel ii ob hob
      simp only at hm
      generalize hex:exactB sp ob=exact at hm
      generalize hmi:mineB i.size e o cp l n src sp ob=mine at hm
      cases hcnd:(exact||mine) with
      |false=>rw[hcnd] at hm;cases hm
      |true =>
       rw[hcnd,cond_true] at hm
       -- what stands for the slice
       obtain⟨cp',hxc,hcp,hex'⟩:∃cp',xc = .slice (some ⟨b,o,none⟩) l cp'∧cp≤cp'∧(exact=true→cp'=cp)∧(exact=false→sp=none∧cp'=cp+s):=by
        cases hf with
        |slc hr =>
         rw[hbs] at hr;injection hr with hr;injection hr with e1 e2;subst e1;subst e2
         refine⟨_,rfl,by omega,fun he=>?_,fun _=>⟨rfl,rfl⟩⟩
         cases ob with
         |cells c=>obtain⟨h0,_⟩:=hobj;omega
         |_=>rw[he] at hex;simp[exactB] at hex
        |slx hr =>
         rw[hbs] at hr;injection hr with hr;injection hr with e1 e2;subst e1;subst e2
         refine⟨_,rfl,Nat.le_refl _,fun _=>rfl,fun he=>?_⟩
         subst he
         simp only[Bool.false_or] at hcnd
         subst hcnd
         simp[mineB] at hmi
        |slz hr =>
         exfalso
         simp only[Bool.or_eq_true] at hcnd
         rcases hcnd with h|h
         ·rw[h] at hex;simp[exactB] at hex
         ·rw[h] at hmi;simp[mineB] at hmi
       subst hxc
       have hvr:∀k,(cp'=cp∨sp=none∧cp'=cp+s)→FR ρ (.slice (some ⟨ii,o,sp⟩) k cp) (.slice (some ⟨b,o,none⟩) k cp'):=by
        intro k hk
        cases hf with
        |slc hr=>exact .slc hr
        |slx hr=>exact .slx hr
        |slz hr =>
         simp only[Bool.or_eq_true] at hcnd
         rcases hcnd with h|h
         ·rw[h] at hex;simp[exactB] at hex
         ·rw[h] at hmi;simp[mineB] at hmi
       have hcase:cp'=cp∨sp=none∧cp'=cp+s:=by
        cases exact with
        |true=>exact .inl (hex'.1 rfl)
        |false=>exact .inr (hex'.2 rfl)
       cases hb:Nat.ble (l+n) cp with
       |true =>
        rw[hb,cond_true] at hm
        rw[Nat.ble_eq] at hb
        obtain⟨src',k1,k2⟩:=s3 w hG
        cases hn:Nat.beq n 0 with
        |true =>
         rw[hn,cond_true] at hm
         rw[Nat.beq_eq] at hn
         simp only[zI,Prod.mk.injEq] at hm
         obtain⟨rfl,rfl⟩:=hm
         have:=s2 hn
         subst this
         cases k2
         exact⟨.value (.slice (some ⟨b,o,none⟩) (l+n) cp'),w,ρ,φ,hexec (append_room ht hu hi ht1 hsrc (s1 w) (by omega) k1 rfl),.of_flat (hvr _ hcase),fun h=>.inr trivial,Post.refl hG,hs⟩
        |false =>
         rw[hn,cond_false] at hm
         simp only[Option.map_eq_some_iff,Prod.mk.injEq] at hm
         obtain⟨m1,h1,rfl,rfl⟩:=hm
         obtain⟨w',q1,q2,q3⟩:=store_sound (P:=P) h1 hG hs (.ptr hbs) k2
         refine⟨.value (.slice (some ⟨b,o,none⟩) (l+n) cp'),w',ρ,φ,hexec (append_room ht hu hi ht1 hsrc (s1 w) (by omega) k1 ?_),.of_flat (hvr _ hcase),fun h=>.inr trivial,q2,q3⟩
         simp only[add_addr]
         exact q1
       |false =>
        rw[hb,cond_false] at hm
        have hnb:¬l+n≤cp:=fun h=>by rw[← Nat.ble_eq] at h;rw[h] at hb;cases hb
        cases hro:roomy (l+n) i.bytes with
        |false=>rw[hro] at hm;cases hm
        |true =>
         rw[hro,cond_true] at hm
         split at hm
         ·rename_i old hold
          have hfold:∀w:World,Good (E:=E) W0 ρ φ m.get m.next w→∃old',(Builtin.firstCells i.size l (.slice (some ⟨b,o,none⟩) l cp')).run P w = .ok ⟨old'⟩ w∧All2 (FR ρ) old old':=by
           intro w g
           obtain⟨r',l1,l2⟩:=loads_sound (P:=P) (l:=l) (c:=cp) (x':=some ⟨b,o,none⟩) (l':=l) (c':=cp+s) hold g (.slc hbs) (by simp) (fun h e=>h (by rw[e,Nat.zero_mul]))
           exact⟨r',by rw[first_slice];exact l1,l2⟩
          cases exact with
          |true =>
           have:=hex'.1 rfl
           subst this
           simp only[cond_true,zI,Prod.mk.injEq] at hm
           obtain⟨rfl,rfl⟩:=hm
           obtain⟨src',k1,k2⟩:=s3 _ (good_drawn hG)
           obtain⟨old',o1,o2⟩:=hfold _ (good_drawn hG)
           obtain⟨s',rest,q1,q2⟩:=append_new (ty:=ty) ht hu hi ht1 hsrc hz (s1 w) hnb hro hb0 k1 o1
           obtain⟨ρ',φ',p1,p2,p3⟩:=append_grown (rest:=rest) hG hs e (o2.append k2) q1
           exact⟨_,_,ρ',φ',hexec q2,.of_flat (.slc p1),fun h=>.inr trivial,p2,p3⟩
          |false =>
           obtain⟨hsp,hcp'⟩:=hex'.2 rfl
           subst hsp;subst hcp'
           simp only[Bool.false_or] at hcnd
           subst hcnd
           simp only[cond_false,zI,Prod.mk.injEq] at hm
           obtain⟨rfl,rfl⟩:=hm
           cases ob with
           |typed t cs=>simp[mineB] at hmi
           |grown e' t' cs =>
            simp only[mineB,Bool.and_eq_true,Nat.beq_eq,Nat.ble_eq] at hmi
            obtain⟨⟨⟨⟨⟨m0,m1⟩,m2⟩,m3⟩,m4⟩,m5⟩:=hmi
            subst m0
            subst m1;subst m2
            have hks:(m.kill ii).Sep:=Mem.sep_kill ii hs
            have hksub:=Mem.kill_sub m ii
            by_cases hroom:l+n≤cp+s
            ·-- the model finds room
             obtain⟨src',k1,k2⟩:=s3 w hG
             obtain⟨hF,hD,cs',e2,f2,c1,c2,c3,c4,c5,c6⟩:=hobj
             have hsl:=k2.length
             have hle:l*i.size+src'.length≤cs'.size:=by
              rw[c2,m3,← hsl,m4,← Nat.add_mul,← Nat.add_mul]
              exact Nat.mul_le_mul_right _ hroom
             have h1:∀v∈src',v.oneCell'=true:=by
              clear hle hsl k1 m4 s3 hsr s2 s1 hnb hroom hro hb
              induction k2 with
              |nil=>intro v hv;cases hv
              |cons hf _ ih=>intro v hv;rcases List.mem_cons.1 hv with rfl|hv;exact hf.one;exact ih v hv
             have hst:=run_storeCells (P:=P) (off:=l*i.size) c1 c4 h1 hle
             have hgood:=hG.part (V':=(m.kill ii).get) (n':=m.next) (fun j oj h=>(hksub j oj h).1) (Nat.le_refl _)
             have hnn:=Mem.none_next (m:=m.kill ii) hgood
             have hold2:old=cs.take (l*i.size):=by
              unfold Mem.loads at hold
              cases hz0:Nat.beq (l*i.size) 0 with
              |true =>
               rw[hz0,cond_true,zI] at hold
               rw[Nat.beq_eq] at hz0
               rw[← hold,hz0];rfl
              |false =>
               rw[hz0,cond_false] at hold
               simp only[Mem.load,hob,cellsO,takeN,List.drop_zero] at hold
               cases hq:Nat.beq (cs.take (l*i.size)).length (l*i.size) with
               |false=>rw[hq] at hold;cases hold
               |true=>rw[hq,cond_true,zI] at hold;exact hold.symm
             have hlcs:l*i.size≤cs.length:=by rw[m3];exact Nat.mul_le_mul_right _ m5
             have hlold:old.length=l*i.size:=by rw[hold2,List.length_take];omega
             refine⟨.value (.slice (some ⟨b,0,none⟩) (l+n) (cp+s)),setRow w b (.cells ⟨splice cs'.toList (l*i.size) src'⟩ e2 f2),ρ.put m.next (b,cp+s-(l+n)),(fun j=>if j=m.next then φ ii else φ j),hexec (append_room ht hu hi ht1 hsrc (s1 w) hroom k1 (by have:=hst;simp only[add_addr,Nat.zero_add];exact this)),?_,fun h=>.inr trivial,?_,?_⟩
             ·have:=FR.slc (ρ:=ρ.put m.next (b,cp+s-(l+n))) (i:=m.next) (b:=b) (s:=cp+s-(l+n)) (o:=0) (l:=l+n) (c:=l+n) (by simp[Ren.put])
              rw[show l+n+(cp+s-(l+n))=cp+s by omega] at this
              exact .of_flat this
             ·rw[Mem.next_new]
              show Post W0 ρ φ m.get m.next w _ _ _ (m.next+1) _
              refine hG.swap (o':=.grown i.size t' (old++src)) hob (by unfold setRow;simp) rfl rfl (fun c hc=>setRow_other b c _ fun e=>hc (e▸(hF b).2 rfl)) ?_ ?_
              ·have hsz2:(⟨splice cs'.toList (l*i.size) src'⟩:Array Value).size=cs'.size:=by
                show(splice cs'.toList (l*i.size) src').length=_
                rw[splice_length (by simpa using hle)];simp
               refine⟨hF,hD,_,_,_,setRow_same _ c1,?_,?_,by rw[hsz2];exact c4,c5,?_⟩
               rotate_left 2
               ·obtain⟨ra,h6⟩:=c6
                refine⟨ra.drop (l*i.size+src.length-cs.length),?_⟩
                have h8:(splice cs'.toList (l*i.size) src').drop (old++src).length=(cs'.toList.drop cs.length).drop (l*i.size+src.length-cs.length):=by
                 have h9:cs.length≤l*i.size+src.length:=by
                  rw[m3,m4,← Nat.add_mul]
                  exact Nat.mul_le_mul_right _ (Nat.le_of_lt (by omega))
                 rw[splice_eq _ _ _ (by simpa using hle),List.drop_append,List.drop_eq_nil_of_le (by simp[hlold];omega),List.nil_append,List.drop_drop,List.drop_drop]
                 congr 1
                 simp only[List.length_append,List.length_take,Array.length_toList,hlold]
                 omega
                show All2 _ _ ((splice cs'.toList (l*i.size) src').drop (old++src).length)
                rw[h8]
                exact h6.drop _
               ·rw[hsz2,c2,List.length_append,hlold,m3,m4,← Nat.add_mul,← Nat.add_mul,← Nat.add_mul]
                congr 1;omega
               ·have hle2:=le_put (ρ:=ρ) (x:=(b,cp+s-(l+n))) (hG.dom m.next (Nat.le_refl _))
                have e3:List.take (old++src).length (splice cs'.toList (l*i.size) src')=cs'.toList.take (l*i.size)++src':=by
                 rw[splice_eq _ _ _ (by simpa using hle)]
                 rw[List.take_left']
                 rw[List.length_append,List.length_append,hlold,hsl,List.length_take,Array.length_toList]
                 omega
                show All2 _ (old++src) (List.take (old++src).length (splice cs'.toList (l*i.size) src'))
                rw[e3]
                have e4:All2 (FR ρ) old (cs'.toList.take (l*i.size)):=by
                 have:=c3.take (l*i.size)
                 rw[List.take_take,Nat.min_eq_left hlcs] at this
                 rw[hold2];exact this
                exact(e4.append k2).mono fun _ _=>FR.mono hle2
              ·intro j oj hj
               rw[Mem.get_new hnn.1] at hj
               simp only[View.put] at hj
               split at hj
               ·rename_i he
                injection hj with hj
                exact .inl ⟨he,hj.symm⟩
               ·rename_i he
                exact .inr ⟨he,(hksub j oj hj).2,(hksub j oj hj).1⟩
             ·exact Mem.sep_new hks hnn.1 hnn.2
            ·-- the model makes a new row
             obtain⟨src',k1,k2⟩:=s3 _ (good_drawn hG)
             obtain⟨old',o1,o2⟩:=hfold _ (good_drawn hG)
             obtain⟨s',rest,q1,q2⟩:=append_new (ty:=ty) ht hu hi ht1 hsrc hz (s1 w) hroom hro hb0 k1 o1
             have hgood:=hG.part (V':=(m.kill ii).get) (n':=m.next) (fun j oj h=>(hksub j oj h).1) (Nat.le_refl _)
             obtain⟨ρ',φ',p1,p2,p3⟩:=append_grown (m:=m.kill ii) (rest:=rest) hgood hks _ (o2.append k2) q1
             refine⟨_,_,ρ',φ',hexec q2,.of_flat (.slc p1),fun h=>.inr trivial,?_,p3⟩
             exact(Post.part (Post.refl hG) (fun j oj h=>(hksub j oj h).1) (Nat.le_refl _)).trans p2
           |cells c=>simp[exactB] at hex
           |ro k c=>simp[mineB] at hmi
           |map es c=>simp[mineB] at hmi
           |ext x=>simp[mineB] at hmi
         ·cases hm
     ·cases hm
    ·cases hm
 ·cases hm
theorem step_appz(ts:Array TypeId)(as:Array Operand){t u e:TypeId}{kn:IntKind}{i:TypeInfo}{d:Nat}{z:List Value}{x y:Opd}(ht:ts[0]? = some t)(ht1:ts[1]? = some u)(hu:P.underlying t=some (.slice e))(hq:P.underlying u=some (.int kn))(hi:P.info? e=some i)(hz:zeroOf P e=some z)
  (hb0:i.bytes≠0) (hs0:i.size≠0) (hxs:mkOpds as.toList=some [x,y]) (hts:ts.size=2) :
  StepOk E P env a (.call ⟨.builtin .append,as,ts⟩) (.appz d i.size i.bytes e z x y):=by
 intro W0 ρ φ m m' v w hm hE hG hs dst ty pos af gd
 simp only[mstep] at hm
 split at hm
 ·rename_i ii o l cp k hx hy
  have hall:=opds_sound (a:=a) hxs (show evs env [x,y]=some [.slice (some ⟨ii,o,some 1⟩) l cp,.int .i64 (.ofNat k)] by simp only[evs,hx,hy]) hE
  have hm0:=map_toList (a:=a) (as:=as) rfl
  generalize as.toList.map a.eval=ws at hall hm0
  cases hall with
  |cons r1 rest =>
   cases rest with
   |cons r2 rest2 =>
    cases rest2
    rename_i xc yc
    have hexec:∀{q:Value} {w':World},(Builtin.append_ ts ty ⟨[xc,yc]⟩).run P w = .ok q w'→(execOp a.eval ⟨dst,.call ⟨.builtin .append,as,ts⟩,ty,pos,af,gd⟩).run P w = .ok (.value q) w':=by
     intro q w' h
     simp only[execOp,resolve,Sem.run_bind,Sem.run_pure,Result.andThen_ok,invoke,Go.builtin,hm0,h]
    split at hm
    ·rename_i ob hob
     cases hcnd:(exactB (some 1) ob&&(Nat.blt 0 k&&(Nat.blt cp (l+k)&&roomy (l+k) i.bytes))) with
     |false=>rw[hcnd] at hm;cases hm
     |true =>
      rw[hcnd,cond_true] at hm
      simp only[Bool.and_eq_true,Nat.blt_eq] at hcnd
      obtain⟨_,hk0,hcp,hro⟩:=hcnd
      split at hm
      ·rename_i old hold
       simp only[zI,Prod.mk.injEq] at hm
       obtain⟨rfl,rfl⟩:=hm
       have hf:=r1.flat_slice
       cases hf with
       |slx hr =>
        rename_i b s
        rw[r2.int_inv] at hexec
        obtain⟨old',o1,o2⟩:∃old',(Builtin.firstCells i.size l (.slice (some ⟨b,o,none⟩) l cp)).run P w.drew = .ok ⟨old'⟩ w.drew∧All2 (FR ρ) old old':=by
         obtain⟨r',l1,l2⟩:=loads_sound (P:=P) (l:=l) (c:=cp) (x':=some ⟨b,o,none⟩) (l':=l) (c':=cp+s) hold (good_drawn hG) (.slc hr) (by simp) (fun h e=>h (by rw[e,Nat.zero_mul]))
         exact⟨r',by rw[first_slice];exact l1,l2⟩
        unfold roomy at hro
        rw[Nat.ble_eq] at hro
        have c2:Builtin.nextslicecap (l+k) cp*i.bytes≤281474976710656:=by
         have h1:=next_le (n:=l+k) (c:=cp) (by omega)
         generalize Builtin.nextslicecap (l+k) cp=N at h1 ⊢
         have h0:N≤2*(l+k+1000):=(fun(a b c d:Nat) (h:a≤2*(b+c)+d) (e:d≤2000)=>by omega:∀a b c d:Nat,a≤2*(b+c)+d→d≤2000→a≤2*(b+c+1000)) N l k 768 h1 (by decide)
         have h2:N*i.bytes≤(2*(l+k+1000))*i.bytes:=Nat.mul_le_mul_right i.bytes h0
         have h3:(2*(l+k+1000))*i.bytes=2*((l+k+1000)*i.bytes):=Nat.mul_assoc _ _ _
         omega
        have c3:l+k+1000≤(l+k+1000)*i.bytes:=Nat.le_mul_of_pos_right _ (Nat.pos_of_ne_zero hb0)
        have c4:k*i.bytes≤(l+k+1000)*i.bytes:=Nat.mul_le_mul_right _ (by omega)
        obtain⟨zv,z1,z2,z3,z4⟩:=run_zero (ρ:=fun _=>none) (w:=w.drew) hz
        obtain⟨zz,hzz,hzc⟩:∃zz,i.zero=some zz∧zz.cells.toList=z:=by
         unfold zeroOf at hz
         rw[hi] at hz
         simp only at hz
         split at hz
         ·rename_i q hq2
          split at hz
          ·injection hz with hz;exact⟨q,hq2,hz⟩
          ·cases hz
         ·cases hz
        obtain⟨tl⟩:=ts
        obtain⟨q0,q1,rfl⟩:∃q0 q1,tl=[q0,q1]:=by
         match tl,hts with
         |[q0,q1],_=>exact⟨q0,q1,rfl⟩
        have ht':q0=t:=by simpa using ht
        have ht1':q1=u:=by simpa using ht1
        subst ht';subst ht1'
        have hrun:=Lib.run_append_grow_zeros (P:=P) w q0 q1 ty e i zz .i64 kn hu hq hi hzz (some ⟨b,o,none⟩) l cp old' o1 k hk0 (Nat.pos_of_ne_zero hs0) hcp (by omega) (by omega) c2
        have hge:=grownCap_ge w (l+k) cp e
        generalize hC:grownCap w (l+k) cp e=C at hrun hge
        have hzl:zz.cells=⟨z⟩:=Array.ext' hzc
        have hsz:sizeT P e=some i.size:=by simp[sizeT,hi]
        have hzs:i.size=z.length:=by rw[hsz] at z4;injection z4
        have hrow:old'.toArray++Builtin.zeroCells zz.cells k++Builtin.zeroCells zz.cells (C-(l+k))=⟨(old'++rows k z)++rows (C-(l+k)) z⟩:=by
         apply Array.ext'
         rw[Array.toList_append,Array.toList_append,hzl,zeroCells_rows,zeroCells_rows]
        rw[hrow] at hrun
        obtain⟨ρ',φ',p1,p2,p3⟩:=append_grown (s:=C-(l+k)) (ez:=i.size) (rest:=rows (C-(l+k)) z) hG hs e (o2.append (rows_all2 (n:=k) (run_zero (P:=P) (ρ:=ρ) (w:=w) hz).choose_spec.2.2.1)) ⟨by rw[rows_length,hzs],_,rows_all2 z3⟩
        refine⟨_,_,ρ',φ',hexec hrun,.of_flat ?_,fun h=>.inr trivial,p2,p3⟩
        have h9:=FR.slc (ρ:=ρ') (i:=m.next) (b:=w.heap.size) (s:=C-(l+k)) (o:=0) (l:=l+k) (c:=l+k) p1
        rw[show l+k+(C-(l+k))=C by omega] at h9
        exact h9
      ·cases hm
    ·cases hm
 ·cases hm
end Go.AI
/- The evaluator's steps upon a library's own struct that holds itself: its making, its pointer through unsafe.Pointer, a row of bytes seen as a string. Each is the model's. No program is named here. -/
namespace Go.AI
section
variable {E:Ext}{P:Program}{W0:World}{ρ:Ren}{φ:Foot}{m m':Mem E.X}{w:World}{env:List (Nat×Value)}{a:Act}
theorem new_typed{t:TypeId}{cs cs':List Value}{heap:Bool}(g:Good (E:=E) W0 ρ φ m.get m.next w)(hs:m.Sep)(hc:All2 (FR ρ) cs cs') :
  ∃ρ' φ',ρ' m.next=some (w.heap.size,0)∧Post W0 ρ φ m.get m.next w ρ' φ' (m.new heap (.typed t cs)).get (m.new heap (.typed t cs)).next { w with heap:=w.heap.push (.cells ⟨cs'⟩ t) }∧(m.new heap (.typed t cs)).Sep:=by
 have hle:=le_put (ρ:=ρ) (x:=(w.heap.size,0)) (g.dom m.next (Nat.le_refl _))
 obtain⟨k1,k2⟩:=post_new (o:=.typed t cs) (s:=0) (heap:=heap) (c:=.cells ⟨cs'⟩ t) (w':={ w with heap:=w.heap.push (.cells ⟨cs'⟩ t) }) g hs rfl rfl rfl
  ⟨rfl,fun _=>Iff.rfl,fun _=>Iff.rfl,⟨cs'⟩,t,(0,0),by simp,hc.mono fun _ _=>FR.mono hle,free_zero _,rfl⟩
 exact⟨_,_,by simp[Ren.put],k1,k2⟩
theorem step_newt(t:TypeId){d:Nat}{hp:Bool}{z:List Value}(hz:zeroOf P t=some z):StepOk E P env a (.alloc t) (.newt d hp t z):=by
 intro W0 ρ φ m m' v w hm hE hG hs dst ty pos af gd
 simp only[mstep,zI,Prod.mk.injEq] at hm
 obtain⟨rfl,rfl⟩:=hm
 obtain⟨zv,z1,z2,z3,z4⟩:=run_zero (ρ:=ρ) (w:=w) hz
 have hz':zv.cells=⟨z⟩:=Array.ext' z2
 obtain⟨ρ',φ',h1,h2,h3⟩:=new_typed (heap:=hp) (t:=t) hG hs z3
 refine⟨.value (.pointer (some ⟨w.heap.size,0,none⟩)),{ w with heap:=w.heap.push (.cells ⟨z⟩ t) },ρ',φ',?_,.of_flat (.ptr h1),fun h=>.inr trivial,h2,h3⟩
 simp only[execOp,Instr.alloc,newVar,Sem.run_bind,z1,Result.andThen_ok,Sem.run_pure,hz',run_newRow]
theorem shape_of{b:Nat}{cs:Array Value}{e:TypeId}{f:Nat×Nat}(h:w.heap[b]? = some (.cells cs e f)):w.shape? b=some (e,cs.size):=by
 simp[World.shape?,h]
theorem step_tou(s t u:TypeId)(x:Operand){j:TypeInfo}{d:Nat}{y:Opd}(hs:P.underlying s=some (.pointer u))(ht:P.underlying t=some .unsafePointer)(hu:P.info? u=some j)(hj:j.size≠0)(hx:mkOpd x=some y) :
  StepOk E P env a (.convert s t x) (.tou d u y):=by
 intro W0 ρ φ m m' v w hm hE hG hsp dst ty pos af gd
 simp only[mstep] at hm
 split at hm
 ·rename_i i hv
  split at hm
  ·rename_i t' c cs hob
   cases hb:Nat.beq t' u with
   |false=>rw[hb] at hm;cases hm
   |true =>
    rw[hb,cond_true] at hm
    rw[Nat.beq_eq] at hb
    subst hb
    simp only[zI,Prod.mk.injEq] at hm
    obtain⟨rfl,rfl⟩:=hm
    have hp:=opd_sound hx hv hE
    obtain⟨b,s',hbs,hobj⟩:=hG.rel i _ hob
    obtain⟨h0,_,_,cs',e,f,h4,h5,h6,h7⟩:=hobj
    subst h0;subst h7
    refine⟨.value (a.eval x),w,ρ,φ,?_,hp,fun h=>.inr trivial,Post.refl hG,hsp⟩
    generalize hq:a.eval x=q at hp
    cases hp.flat_ptr with
    |ptr hr =>
     rw[hbs] at hr;injection hr with hr;injection hr with e1 e2;subst e1
     have hl:=h5.length
     have hsz:0<cs'.size:=by simp at hl;omega
     have:=Lib.run_to_unsafe (P:=P) w (src:=s) (dst:=t) (t:=e) ⟨b,0,none⟩ hs ht hu hj (shape_of h4) hsz
     simp only[execOp,Sem.run_bind,hq,this,Result.andThen_ok,Sem.run_pure]
  ·cases hm
 ·cases hm
theorem step_fromu(s t u:TypeId)(x:Operand){j:TypeInfo}{d:Nat}{y:Opd}(hs:P.underlying s=some .unsafePointer)(ht:P.underlying t=some (.pointer u))(hu:P.info? u=some j)
  (hlies:liesAt P P.depth u (j.size / P.cellsOf u) 0 u 1=true) (hx:mkOpd x=some y) :
  StepOk E P env a (.convert s t x) (.fromu d u j.size y):=by
 intro W0 ρ φ m m' v w hm hE hG hsp dst ty pos af gd
 simp only[mstep] at hm
 split at hm
 ·rename_i i hv
  split at hm
  ·rename_i t' cs hob
   cases hb:(Nat.beq t' u&&Nat.beq cs.length j.size) with
   |false=>rw[hb] at hm;cases hm
   |true =>
    rw[hb,cond_true] at hm
    simp only[Bool.and_eq_true,Nat.beq_eq] at hb
    obtain⟨hb,hn⟩:=hb
    subst hb
    simp only[zI,Prod.mk.injEq] at hm
    obtain⟨rfl,rfl⟩:=hm
    have hp:=opd_sound hx hv hE
    obtain⟨b,s',hbs,hobj⟩:=hG.rel i _ hob
    obtain⟨h0,_,_,cs',e,f,h4,h5,h6,h7⟩:=hobj
    subst h0;subst h7
    refine⟨.value (a.eval x),w,ρ,φ,?_,hp,fun h=>.inr trivial,Post.refl hG,hsp⟩
    generalize hq:a.eval x=q at hp
    cases hp.flat_ptr with
    |ptr hr =>
     rw[hbs] at hr;injection hr with hr;injection hr with e1 e2;subst e1
     have hl:=h5.length
     have hsz:cs'.size=j.size:=by simp at hl;omega
     have:=Lib.run_from_unsafe (P:=P) w (src:=s) (dst:=t) (u:=e) ⟨b,0,none⟩ hs ht hu (shape_of h4) (by rw[hsz];exact hlies)
     simp only[execOp,Sem.run_bind,hq,this,Result.andThen_ok,Sem.run_pure]
  ·cases hm
 ·cases hm
theorem step_usd(ts:Array TypeId)(as:Array Operand){d:Nat}{x:Opd}(hxs:mkOpds as.toList=some [x]) :
  StepOk E P env a (.call ⟨.builtin .unsafeSliceData,as,ts⟩) (.usd d x):=by
 intro W0 ρ φ m m' v w hm hE hG hsp dst ty pos af gd
 simp only[mstep] at hm
 have key:∀xv,evo env x=some xv→∃xc,VR ρ xv xc∧∀(q:Value),(Builtin.unsafeSliceData_ ts ty #[xc]).run P w = .ok q w→(execOp a.eval ⟨dst,.call ⟨.builtin .unsafeSliceData,as,ts⟩,ty,pos,af,gd⟩).run P w = .ok (.value q) w:=by
  intro xv hx
  have hall:=opds_sound (a:=a) hxs (show evs env [x]=some [xv] by simp[evs,hx]) hE
  have hm0:=map_toList (a:=a) (as:=as) rfl
  generalize as.toList.map a.eval=ws at hall hm0
  cases hall with
  |cons r1 rest =>
   cases rest
   rename_i xc
   refine⟨xc,r1,fun q h=>?_⟩
   simp only[execOp,resolve,Sem.run_bind,Sem.run_pure,Result.andThen_ok,invoke,Go.builtin,hm0,h]
 split at hm
 ·rename_i l c hx
  simp only[zI,Prod.mk.injEq] at hm
  obtain⟨rfl,rfl⟩:=hm
  obtain⟨xc,h1,h2⟩:=key _ hx
  cases h1.flat_slice
  exact⟨_,w,ρ,φ,h2 (.pointer none) rfl,.of_flat .nilp,fun h=>.inr trivial,Post.refl hG,hsp⟩
 ·rename_i i o l c hx
  cases hc:Nat.beq c 0 with
  |true=>rw[hc] at hm;cases hm
  |false =>
   rw[hc,cond_false] at hm
   simp only[zI,Prod.mk.injEq] at hm
   obtain⟨rfl,rfl⟩:=hm
   rw[← Bool.not_eq_true,Nat.beq_eq] at hc
   obtain⟨xc,h1,h2⟩:=key _ hx
   cases h1.flat_slice with
   |slc hr =>
    refine⟨_,w,ρ,φ,h2 (.pointer (some ⟨_,o,none⟩)) ?_,.of_flat (.ptr hr),fun h=>.inr trivial,Post.refl hG,hsp⟩
    rename_i b s
    exact Lib.run_unsafeSliceData_row w ts ty _ _ _ (by omega)
 ·cases hm
theorem Good.lose{V V':View E}{n i:Nat}{o:AObj E.X}{w':World}(g:Good W0 ρ φ V n w)(hi:V i=some o)(hV:∀j oj,V' j=some oj→V j=some oj∧j≠i)
  (hsz:w'.heap.size=w.heap.size) (ho:w'.os=w.os) (hp:w'.output=w.output) (hold:∀c,¬(φ i).1 c→w'.heap[c]? = w.heap[c]?):Post W0 ρ φ V n w ρ φ V' n w' where
 good:=by
  refine⟨g.dom,?_,fun i j oi oj b a c=>g.dis i j oi oj b (hV _ _ a).1 (hV _ _ c).1,fun i o b a=>g.sub i o b (hV _ _ a).1,fun i o b a c=>by rw[hsz];exact g.lts i o b (hV _ _ a).1 c,fun i o b a=>g.frs i o b (hV _ _ a).1,by rw[hsz];exact g.size,?_,ho.trans g.os,hp.trans g.out⟩
  ·intro j oj hj
   obtain⟨h1,h2⟩:=hV j oj hj
   obtain⟨b,s,h3,h4⟩:=g.rel j oj h1
   exact⟨b,s,h3,h4.frame (Ren.le_refl ρ) fun c hc=>hold c fun hF=>g.dis i j o oj c hi h1 (fun e=>h2 e.symm) hF hc⟩
  ·intro b hb
   rw[← g.base b hb]
   refine hold b fun hF=>?_
   have:=g.frs i o b hi hF
   omega
 le:=Ren.le_refl ρ
 nle:=Nat.le_refl n
 sz:=by rw[hsz];exact Nat.le_refl _
 keep:=fun c _ hF=>hold c (hF i o hi)
 fF:=fun j oj c hj hc=>.inr ⟨j,oj,(hV j oj hj).1,hc⟩
 fD:=fun j oj c hj hc=>.inr ⟨j,oj,(hV j oj hj).1,hc⟩
 ids:=fun j oj hj=>.inr ⟨oj,(hV j oj hj).1⟩
 old:=fun _ _=>rfl
theorem all2_get{R:Value→Value→Prop}:∀{l l':List Value},All2 R l l'→∀{j:Nat} {x:Value},l[j]? = some x→∃y,l'[j]? = some y∧R x y
 |_,_,.nil,j,x,h=>by simp at h
 |_,_,.cons (b:=b) h1 h2,0,x,h=>by
  simp only[List.getElem?_cons_zero,zI] at h;subst h
  exact⟨b,rfl,h1⟩
 |_,_,.cons h1 h2,j+1,x,h=>by
  simp only[List.getElem?_cons_succ] at h ⊢
  exact all2_get h2 h
theorem bytesX_inv:∀{cs:List Value} {l:List UInt8},cellBytesX cs=some l→cs=l.map fun b=>.int .u8 b.toNat
 |[],l,h=>by simp only[cellBytesX,zI] at h;subst h;rfl
 |c::cs,l,h=>by
  unfold cellBytesX at h
  split at h
  ·rename_i h';cases h'
  ·rename_i n r hcs
   injection hcs with e1 e2;subst e1;subst e2
   cases hn:Nat.blt n 256 with
   |false=>rw[hn] at h;cases h
   |true =>
    rw[hn,cond_true] at h
    rw[blt_iff,decide_eq_true_eq] at hn
    simp only[Option.map_eq_some_iff] at h
    obtain⟨l',h3,rfl⟩:=h
    rw[bytesX_inv h3]
    simp only[List.map_cons,List.cons.injEq,and_true]
    have:(UInt8.ofNat n).toNat=n:=by simp;omega
    rw[this];rfl
  ·cases h
theorem run_ustr_congr(ts:Array TypeId)(pt ty:TypeId)(p:Option Addr)(v:Value)(h:ts[0]? = some pt):Builtin.unsafeString_ ts ty #[.pointer p,v]=Builtin.unsafeString_ #[pt,pt] ty #[.pointer p,v]:=by
 obtain⟨l⟩:=ts
 cases l with
 |nil=>simp at h
 |cons x r =>
  have:x=pt:=by simpa using h
  subst this
  rfl
theorem step_ustr(ts:Array TypeId)(as:Array Operand){pt t:TypeId}{d:Nat}{x n:Opd}(ht:ts[0]? = some pt)(hpt:P.underlying pt=some (.pointer t))(hc:P.cellsOf t=1)(hxs:mkOpds as.toList=some [x,n]) :
  StepOk E P env a (.call ⟨.builtin .unsafeString,as,ts⟩) (.ustr d t x n):=by
 intro W0 ρ φ m m' v w hm hE hG hsp dst ty pos af gd
 simp only[mstep] at hm
 split at hm
 ·rename_i p n hx hn
  have hall:=opds_sound (a:=a) hxs (vs:=[.pointer p,.int .i64 (.ofNat n)]) (by simp only[evs,hx,hn]) hE
  have hm0:=map_toList (a:=a) (as:=as) rfl
  generalize as.toList.map a.eval=ws at hall hm0
  cases hall with
  |cons r1 rest =>
   cases rest with
   |cons r2 rest =>
    cases rest
    rename_i xc nc
    obtain⟨pc,hpc⟩:∃pc,xc = .pointer pc:=by cases r1.flat_ptr<;>exact⟨_,rfl⟩
    subst hpc
    have hexec:∀{q:Value} {w':World},(Builtin.unsafeString_ #[pt,pt] ty #[.pointer pc,nc]).run P w = .ok q w'→(execOp a.eval ⟨dst,.call ⟨.builtin .unsafeString,as,ts⟩,ty,pos,af,gd⟩).run P w = .ok (.value q) w':=by
     intro q w' h
     rw[← run_ustr_congr ts pt ty _ _ ht] at h
     simp only[execOp,resolve,Sem.run_bind,Sem.run_pure,Result.andThen_ok,invoke,Go.builtin,hm0,h]
    have hnc:=r2.int_inv
    subst hnc
    have hpv:=r1.flat_ptr
    cases h0:Nat.beq n 0 with
    |true =>
     rw[h0,cond_true] at hm
     rw[Nat.beq_eq] at h0
     subst h0
     simp only[zI,Prod.mk.injEq] at hm
     obtain⟨rfl,rfl⟩:=hm
     refine⟨_,w,ρ,φ,hexec ?_,.of_flat (.str ⟨⟨[]⟩⟩),fun h=>.inr trivial,Post.refl hG,hsp⟩
     cases hpv with
     |nilp=>exact Lib.run_unsafeString_none w pt pt ty none
     |ptr hr=>exact Lib.run_unsafeString_none w pt pt ty _
    |false =>
     rw[h0,cond_false] at hm
     rw[← Bool.not_eq_true,Nat.beq_eq] at h0
     split at hm
     ·rename_i i
      split at hm
      ·rename_i ez t' cs hob
       cases hb:(Nat.beq t' t&&Nat.ble n 9223372036854775807) with
       |false=>rw[hb] at hm;cases hm
       |true =>
        rw[hb,cond_true] at hm
        simp only[Bool.and_eq_true,Nat.beq_eq,Nat.ble_eq] at hb
        obtain⟨hb,h63⟩:=hb
        subst hb
        split at hm
        ·rename_i l hl
         cases hln:Nat.beq l.length n with
         |false=>rw[hln] at hm;cases hm
         |true =>
          rw[hln,cond_true] at hm
          rw[Nat.beq_eq] at hln
          simp only[zI,Prod.mk.injEq] at hm
          obtain⟨rfl,rfl⟩:=hm
          obtain⟨b,s',hbs,hobj⟩:=hG.rel i _ hob
          obtain⟨hF,hD,cs',e,f,c1,c2,c3,c4,c5,_⟩:=hobj
          subst c5
          cases hpv with
          |ptr hr =>
           rw[hbs] at hr;injection hr with hr;injection hr with e1 e2;subst e1
           have hcs:=bytesX_inv hl
           have hlc:n≤cs.length:=by
            have:=congrArg List.length hcs
            simp only[List.length_take,List.length_map,hln] at this
            omega
           have hget:∀(j:Nat) (x:UInt8),l[j]? = some x→cs'[j]? = some (.int .u8 x.toNat):=by
            intro j x hj
            have hjl:j<n:=by
             rcases Nat.lt_or_ge j n with h|h
             ·exact h
             ·rw[List.getElem?_eq_none (by omega)] at hj;cases hj
            have h1:(cs.take n)[j]? = some (.int .u8 x.toNat):=by rw[hcs,List.getElem?_map,hj];rfl
            rw[List.getElem?_take_of_lt hjl] at h1
            obtain⟨y,h3,h4⟩:=all2_get c3 h1
            rw[List.getElem?_take_of_lt (by omega)] at h3
            cases h4
            rw[← Array.getElem?_toList];exact h3
           have hrun:=Lib.run_unsafeString_row (P:=P) w pt pt ty e hpt hc b cs'.size (shape_of c1) l (by intro h;rw[h] at hln;exact h0 hln.symm) (by rw[hln,c2];omega) (by omega)
            (fun j x hj=>by rw[add_addr,Nat.zero_add,cell_of c1];exact hget j x hj)
           refine⟨.value (.string ⟨⟨l⟩⟩),w.freeze ⟨b,0,none⟩ l.length,ρ,φ,hexec ?_,.of_flat (.str _),fun h=>.inr trivial,?_,Mem.sep_kill i hsp⟩
           ·rw[← hln];exact hrun
           ·refine hG.lose (i:=i) hob (Mem.kill_sub m i) ?_ ?_ ?_ ?_
            ·unfold World.freeze;split<;>simp
            ·unfold World.freeze;split<;>rfl
            ·unfold World.freeze;split<;>rfl
            ·intro c hc'
             unfold World.freeze
             split
             ·rfl
             ·rw[Array.getElem?_modify,if_neg]
              exact fun e=>hc' ((hF c).2 e.symm)
        ·cases hm
      ·cases hm
     ·cases hm
 ·cases hm
end
end Go.AI
/- The evaluator's steps upon a map whose keys are whole numbers: each is the model's. No program is named here. -/
namespace Go.AI
variable {E:Ext}{P:Program}{W0:World}{ρ:Ren}{φ:Foot}{m m':Mem E.X}{w:World}{env:List (Nat×Value)}{a:Act}
abbrev MR(ρ:Ren):(Value×Value×Nat)→MapEntry→Prop:=fun x y=>FR ρ x.1 y.key∧XR ρ x.2.1 y.val∧x.2.2=y.born
theorem VR.map_inv{i:Nat}{v:Value}(h:VR ρ (.map (some i)) v):∃b s,v = .map (some b)∧ρ i=some (b,s):=by
 cases h with
 |x h=>cases h with
  |flat h=>cases h with|mp e=>exact⟨_,_,rfl,e⟩
theorem key_sound{k:IntKind}{n:Int}{D:TypeDesc}(hD:∃kk,D = .int kk):∀{es:List (Value×Value×Nat)} {es':List MapEntry} {i:Nat} {r:Option (Nat×Value×Nat)},All2 (MR ρ) es es'→keyAt k n es i=some r →
  match r with
  |none=>Instr.findNow D (.int k n) es' i=some none
  |some (j,v,b)=>∃v' c,Instr.findNow D (.int k n) es' i=some (some (j,v'))∧XR ρ v v'∧j=i+c∧es'[c]? = some ⟨.int k n,v',b⟩∧es[c]? = some (.int k n,v,b)
 |[],_,i,r,.nil,h=>by
  simp only[keyAt,zI] at h
  subst h;rfl
 |(k0,v0,b0)::es,e'::es',i,r,.cons h0 t,h=>by
  obtain⟨kk,rfl⟩:=hD
  obtain⟨key,val,born⟩:=e'
  obtain⟨h1,h2,h3⟩:=h0
  simp only at h1 h2 h3
  cases k0 with
  |int j a =>
   cases h1
   simp only[keyAt] at h
   split at h
   ·rename_i hj
    subst hj
    cases hn:ieqF n a with
    |true =>
     rw[hn,cond_true] at h
     injection h with h;subst h
     rw[ieqF_eq,beq_iff_eq] at hn
     subst hn
     refine⟨val,0,?_,h2,rfl,?_,?_⟩
     ·simp[Instr.findNow,Instr.sameNow]
     ·simp[h3]
     ·simp
    |false =>
     rw[hn,cond_false] at h
     have hne:(n == a)=false:=by rw[← ieqF_eq];exact hn
     have ih:=key_sound ⟨kk,rfl⟩ t h
     have hf:Instr.findNow (.int kk) (.int k n) (⟨.int k a,val,born⟩::es') i=Instr.findNow (.int kk) (.int k n) es' (i+1):=by
      simp[Instr.findNow,Instr.sameNow,hne]
     cases r with
     |none=>exact hf.trans ih
     |some r =>
      obtain⟨jj,vv,bb⟩:=r
      obtain⟨v',c,q1,q2,q3,q4,q5⟩:=ih
      exact⟨v',c+1,hf.trans q1,q2,by omega,by simpa using q4,by simpa using q5⟩
   ·cases h
  |_=>simp[keyAt] at h
theorem map_at{i b s:Nat}{es:List (Value×Value×Nat)}{c:Nat}(g:Good (E:=E) W0 ρ φ m.get m.next w)(hm:m.get i=some (.map es c))(hr:ρ i=some (b,s)) :
  ∃es':Array MapEntry,w.heap[b]? = some (.map es' c)∧All2 (MR ρ) es es'.toList∧(φ i).1 b:=by
 obtain⟨b',s',h1,h2⟩:=g.rel i _ hm
 rw[hr] at h1;injection h1 with h1;injection h1 with e1 e2;subst e1;subst e2
 obtain⟨q1,q2,es',q3,q4⟩:=h2
 exact⟨es',q3,q4,(q1 b).2 rfl⟩
theorem map_turn{i b s:Nat}{es es2:List (Value×Value×Nat)}{c c2:Nat}{es':Array MapEntry}(g:Good (E:=E) W0 ρ φ m.get m.next w)(hs:m.Sep)(hm:m.get i=some (.map es c))(hr:ρ i=some (b,s))(hb:w.heap[b]? = some (.map es' c))(hF:(φ i).1 b)
  {es2':Array MapEntry} (hn:All2 (MR ρ) es2 es2'.toList) :
  Post W0 ρ φ m.get m.next w ρ φ (m.put i (.map es2 c2)).get (m.put i (.map es2 c2)).next { w with heap:=w.heap.setIfInBounds b (.map es2' c2) }∧(m.put i (.map es2 c2)).Sep:=by
 refine⟨?_,Mem.sep_put hs⟩
 rw[Mem.get_put hm]
 have hnx:(m.put i (.map es2 c2)).next=m.next:=by unfold Mem.put;split<;>rfl
 rw[hnx]
 have hw:setRow w b (.map es2' c2)={ w with heap:=w.heap.setIfInBounds b (.map es2' c2) }:=rfl
 rw[← hw]
 refine g.turn hm _ (by unfold setRow;simp) rfl rfl ?_ ?_
 ·intro c' hc
  exact setRow_other b c' _ fun e=>hc (e▸hF)
 ·intro b2 s2 hb2 hobj
  rw[hr] at hb2;injection hb2 with hb2;injection hb2 with e1 e2;subst e1;subst e2
  obtain⟨q1,q2,_⟩:=hobj
  exact⟨q1,q2,es2',setRow_same _ hb,hn⟩
theorem all2_set{es':List MapEntry}{c:Nat}{y:MapEntry}(hy:es'[c]? = some y):es'.modify c (fun e=>{ e with key:=y.key })=es':=by
 apply List.ext_getElem?
 intro j
 rw[List.getElem?_modify]
 by_cases e:c=j
 ·subst e
  rw[hy]
  cases y
  simp
 ·simp[e]
theorem zInt_run{t:TypeId}{k:IntKind}{n:Int}(h:zInt P t=some (.int k n)):(zeroValue t).run P w = .ok (.int k n) w:=by
 unfold zInt at h
 split at h
 ·rename_i i hi
  split at h
  ·rename_i k' n' hz
   injection h with h
   injection h with e1 e2
   subst e1;subst e2
   simp[zeroValue,run_info hi,hz]
  ·cases h
 ·cases h
theorem zInt_int{t:TypeId}{z:Value}(h:zInt P t=some z):∃k n,z = .int k n:=by
 unfold zInt at h
 split at h
 ·split at h
  ·injection h with h;exact⟨_,_,h.symm⟩
  ·cases h
 ·cases h
theorem check_int{kt:TypeId}{kk k:IntKind}{n:Int}(h:P.underlying kt=some (.int kk))(e:Bool):(Instr.checkKey e 10000 kt (.int k n)).run P w = .ok () w:=by
 rw[show(10000:Nat)=9999+1 from rfl]
 unfold Instr.checkKey
 simp only[Sem.run_bind,run_under h,Result.andThen_ok,Sem.run_pure]
theorem find_int{kt:TypeId}{kk k:IntKind}{n:Int}{l:List MapEntry}{r:Option (Nat×Value)}(h:P.underlying kt=some (.int kk))(hf:Instr.findNow (.int kk) (.int k n) l 0=some r):(Instr.findKey kt (.int k n) l).run P w = .ok r w :=
 MapKept.run_findKey h hf
theorem stays_int{k:IntKind}{n:Int}:(Instr.keyThatStays (.int k n) (.int k n)).run P w = .ok (.int k n) w:=by
 simp[Instr.keyThatStays,Instr.sameBits]
theorem step_mmap(t:TypeId){d:Nat}:StepOk E P env a (.makeMap t none) (.mmap d):=by
 intro W0 ρ φ m m' v w hm hE hG hs dst ty pos af gd
 simp only[mstep,zI,Prod.mk.injEq] at hm
 obtain⟨rfl,rfl⟩:=hm
 have hrel:ObjR E (ρ.put m.next (w.heap.size,0)) (.map [] 0) w.heap.size 0 (· = w.heap.size) (· = w.heap.size) { w with heap:=w.heap.push (.map #[] 0) } :=
  ⟨fun _=>Iff.rfl,fun _=>Iff.rfl,#[],by simp,.nil⟩
 obtain⟨k1,k2⟩:=post_new (o:=.map [] 0) (s:=0) (heap:=true) (c:=.map #[] 0) (w':={ w with heap:=w.heap.push (.map #[] 0) }) hG hs rfl rfl rfl hrel
 refine⟨.value (.map (some w.heap.size)),_,_,_,?_,.of_flat (.mp (s:=0) ?_),fun h=>.inr trivial,k1,k2⟩
 ·simp only[execOp,Instr.makeMap,Sem.run_bind,Sem.run_pure,Result.andThen_ok,Option.map_none]
  rfl
 ·simp[Ren.put]
theorem step_mlen(ts:Array TypeId)(as:Array Operand){t:TypeId}{d:Nat}{x:Opd}(ht:ts[0]? = some t)(hu:∃k e,P.underlying t=some (.map k e))(hxs:mkOpds as.toList=some [x]):StepOk E P env a (.call ⟨.builtin .len,as,ts⟩) (.mlen d x):=by
 intro W0 ρ φ m m' v w hm hE hG hs dst ty pos af gd
 obtain⟨k,e,hu⟩:=hu
 obtain⟨yo,hyo,hx⟩:=mkOpds_one hxs
 have hm0:as.map a.eval=⟨[a.eval yo]⟩:=map_toList (by rw[hyo];rfl)
 simp only[mstep] at hm
 split at hm
 ·rename_i i hi
  obtain⟨b,s,hb,hr⟩:=(opd_sound hx hi hE).map_inv
  split at hm
  ·rename_i es c he
   simp only[zI,Prod.mk.injEq] at hm
   obtain⟨rfl,rfl⟩:=hm
   obtain⟨es',h1,h2,h3⟩:=map_at hG he hr
   have hl:es'.size=es.length:=by rw[h2.length];simp
   rw[hb] at hm0
   have g0:(⟨[Value.map (some b)]⟩:Array Value)[0]? = some (.map (some b)):=by rw[arr_get];rfl
   have hlen:(Builtin.len_ ts ty ⟨[.map (some b)]⟩).run P w = .ok (.int .i64 (Int.ofNat es.length)) w:=by
    simp only[Builtin.len_,ht,g0,Sem.run_bind,run_under hu,Result.andThen_ok,MapKept.run_getObj_map h1,Sem.run_pure,goInt,hl]
    rfl
   refine⟨.value (.int .i64 (Int.ofNat es.length)),w,ρ,φ,?_,.of_flat (.int _ _),fun h=>.inr trivial,Post.refl hG,hs⟩
   simp only[execOp,resolve,Sem.run_bind,Sem.run_pure,Result.andThen_ok,invoke,Go.builtin,hm0,hlen]
  ·cases hm
 ·cases hm
theorem step_mget(t:TypeId)(mm kk:Operand)(ok:Bool){kt e:TypeId}{ik:IntKind}{z:Value}{d:Nat}{x y:Opd}(hu:P.underlying t=some (.map kt e))(hk:P.underlying kt=some (.int ik))(hz:zInt P e=some z)(hx:mkOpd mm=some x)(hy:mkOpd kk=some y) :
  StepOk E P env a (.lookup t mm kk ok) (.mget d [z] false ok x y):=by
 intro W0 ρ φ m m' v w hm hE hG hs dst ty pos af gd
 obtain⟨zk,zn,rfl⟩:=zInt_int hz
 simp only[mstep] at hm
 split at hm
 ·rename_i i k n hi hn
  obtain⟨b,s,hb,hr⟩:=(opd_sound hx hi hE).map_inv
  have hq:=(opd_sound hy hn hE).int_inv
  split at hm
  ·rename_i es c he
   obtain⟨es',h1,h2,h3⟩:=map_at hG he hr
   split at hm
   ·rename_i j u bo hf
    injection hm with hm
    injection hm with e1 e2
    subst e1;subst e2
    obtain⟨v',c',q1,q2,_⟩:=key_sound (D:=.int ik) ⟨_,rfl⟩ h2 hf
    refine⟨.value (if ok then .tuple #[v',.bool true] else v'),w,ρ,φ,?_,?_,fun h=>.inr trivial,Post.refl hG,hs⟩
    ·simp only[execOp,hb,hq,Instr.lookup,Sem.run_bind,run_under hu,Result.andThen_ok,MapKept.run_getObj_map h1,Sem.run_pure,check_int hk,find_int hk q1]
    ·cases ok with
     |true=>exact .tup (.cons q2 (.cons (.flat (.bool _)) .nil))
     |false=>exact .x q2
   ·rename_i hf
    simp only[cond_false] at hm
    injection hm with hm
    injection hm with e1 e2
    subst e1;subst e2
    have q1:=key_sound (D:=.int ik) ⟨_,rfl⟩ h2 hf
    refine⟨.value (if ok then .tuple #[.int zk zn,.bool false] else .int zk zn),w,ρ,φ,?_,?_,fun h=>.inr trivial,Post.refl hG,hs⟩
    ·simp only[execOp,hb,hq,Instr.lookup,Sem.run_bind,run_under hu,Result.andThen_ok,MapKept.run_getObj_map h1,Sem.run_pure,check_int hk,find_int hk q1,zInt_run hz]
    ·cases ok with
     |true=>exact .tup (.cons (.flat (.int _ _)) (.cons (.flat (.bool _)) .nil))
     |false=>exact .of_flat (.int _ _)
   ·cases hm
  ·cases hm
 ·cases hm
theorem step_ment(t:TypeId)(mm kk:Operand){kt e:TypeId}{ik:IntKind}{z:Value}{d:Nat}{x y:Opd}(hu:P.underlying t=some (.map kt e))(hk:P.underlying kt=some (.int ik))(hz:zInt P e=some z)(hx:mkOpd mm=some x)(hy:mkOpd kk=some y) :
  StepOk E P env a (.mapEntry t mm kk) (.ment d [z] false x y):=by
 intro W0 ρ φ m m' v w hm hE hG hs dst ty pos af gd
 obtain⟨zk,zn,rfl⟩:=zInt_int hz
 simp only[mstep] at hm
 split at hm
 ·rename_i i k n hi hn
  obtain⟨b,s,hb,hr⟩:=(opd_sound hx hi hE).map_inv
  have hq:=(opd_sound hy hn hE).int_inv
  split at hm
  ·rename_i es c he
   obtain⟨es',h1,h2,h3⟩:=map_at hG he hr
   split at hm
   ·rename_i j u bo hf
    injection hm with hm
    injection hm with e1 e2
    subst e1;subst e2
    obtain⟨v',c',q1,q2,q3,q4,q5⟩:=key_sound (D:=.int ik) ⟨_,rfl⟩ h2 hf
    rw[Nat.zero_add] at q3
    subst q3
    have q4':es'[j]? = some ⟨.int k n,v',bo⟩:=by rw[← Array.getElem?_toList];exact q4
    have hsame:es'.modify j (fun e=>{ e with key:=.int k n })=es':=by
     apply Array.toList_inj.1
     rw[Array.toList_modify]
     exact all2_set q4
    obtain⟨k1,k2⟩:=map_turn (es2:=es) (c2:=c) (es2':=es') hG hs he hr h1 h3 h2
    refine⟨.value (.tuple #[v',.int .i64 (Int.ofNat bo)]),_,ρ,φ,?_,?_,fun h=>.inr trivial,k1,k2⟩
    ·simp[execOp,hb,hq,Instr.mapEntry,Sem.run_bind,run_under hu,MapKept.run_getObj_map h1,check_int hk,find_int hk q1,q4',stays_int,hsame,MapKept.run_setObj_map _ h1,goInt]
    ·exact .tup (.cons q2 (.cons (.flat (.int _ _)) .nil))
   ·rename_i hf
    simp only[cond_false] at hm
    injection hm with hm
    injection hm with e1 e2
    subst e1;subst e2
    have q1:=key_sound (D:=.int ik) ⟨_,rfl⟩ h2 hf
    have hn2:All2 (MR ρ) (es++[(.int k n,.int zk zn,c)]) (es'.push ⟨.int k n,.int zk zn,c⟩).toList:=by
     rw[Array.toList_push]
     exact h2.append (.cons ⟨.int _ _,.flat (.int _ _),rfl⟩ .nil)
    obtain⟨k1,k2⟩:=map_turn (c2:=c+1) hG hs he hr h1 h3 hn2
    refine⟨.value (.tuple #[.int zk zn,.int .i64 (Int.ofNat c)]),_,ρ,φ,?_,?_,fun h=>.inr trivial,k1,k2⟩
    ·simp[execOp,hb,hq,Instr.mapEntry,Sem.run_bind,run_under hu,MapKept.run_getObj_map h1,check_int hk,find_int hk q1,zInt_run hz,MapKept.run_setObj_map _ h1,goInt]
    ·exact .tup (.cons (.flat (.int _ _)) (.cons (.flat (.int _ _)) .nil))
   ·cases hm
  ·cases hm
 ·cases hm
theorem step_mset(t:TypeId)(mm kk vv:Operand){kt e:TypeId}{ik:IntKind}{x y u:Opd}(hu:P.underlying t=some (.map kt e))(hk:P.underlying kt=some (.int ik))(hx:mkOpd mm=some x)(hy:mkOpd kk=some y)(hv:mkOpd vv=some u) :
  StepOk E P env a (.mapUpdate t mm kk vv) (.mset x y u):=by
 intro W0 ρ φ m m' v w hm hE hG hs dst ty pos af gd
 simp only[mstep] at hm
 split at hm
 ·rename_i i k n vk vn hi hn hvn
  obtain⟨b,s,hb,hr⟩:=(opd_sound hx hi hE).map_inv
  have hq:=(opd_sound hy hn hE).int_inv
  have hw:=(opd_sound hv hvn hE).int_inv
  split at hm
  ·rename_i es c he
   obtain⟨es',h1,h2,h3⟩:=map_at hG he hr
   split at hm
   ·rename_i hf
    injection hm with hm
    injection hm with e1 e2
    subst e1;subst e2
    have q1:=key_sound (D:=.int ik) ⟨_,rfl⟩ h2 hf
    have hn2:All2 (MR ρ) (es++[(.int k n,.int vk vn,c)]) (es'.push ⟨.int k n,.int vk vn,c⟩).toList:=by
     rw[Array.toList_push]
     exact h2.append (.cons ⟨.int _ _,.flat (.int _ _),rfl⟩ .nil)
    obtain⟨k1,k2⟩:=map_turn (c2:=c+1) hG hs he hr h1 h3 hn2
    refine⟨.skip,_,ρ,φ,?_,rfl,fun h=>.inr trivial,k1,k2⟩
    simp[execOp,hb,hq,hw,Instr.mapUpdate,Sem.run_bind,run_under hu,MapKept.run_getObj_map h1,check_int hk,find_int hk q1,MapKept.run_setObj_map _ h1]
   ·cases hm
  ·cases hm
 ·cases hm
theorem born_sound{s:Nat}{v v':Value}(hv:XR ρ v v'):∀{es es2:List (Value×Value×Nat)} {es':List MapEntry},All2 (MR ρ) es es'→setBorn s v es=some es2→∃i,es'.findIdx? (fun e=>(e.born:Int) == (s:Int))=some i∧All2 (MR ρ) es2 (es'.modify i fun e=>{ e with val:=v' })
 |[],_,_,.nil,h=>by cases h
 |(k0,v0,b0)::es,es2,e'::es',.cons h0 t,h=>by
  obtain⟨h1,h2,h3⟩:=h0
  simp only at h1 h2 h3
  unfold setBorn at h
  cases hb:Nat.beq b0 s with
  |true =>
   rw[hb,cond_true] at h
   injection h with h;subst h
   rw[Nat.beq_eq] at hb
   refine⟨0,?_,?_⟩
   ·rw[List.findIdx?_cons]
    have:((e'.born:Int) == (s:Int))=true:=by rw[← h3,hb];simp
    rw[this];rfl
   ·exact .cons ⟨h1,hv,h3⟩ t
  |false =>
   rw[hb,cond_false] at h
   simp only[Option.map_eq_some_iff] at h
   obtain⟨es3,h4,rfl⟩:=h
   obtain⟨i,q1,q2⟩:=born_sound hv t h4
   refine⟨i+1,?_,?_⟩
   ·rw[List.findIdx?_cons]
    have hne:¬b0=s:=fun e=>by rw[e,Nat.beq_refl] at hb;cases hb
    have:((e'.born:Int) == (s:Int))=false:=by
     rw[← h3]
     simp only[beq_eq_false_iff_ne,ne_eq]
     omega
    rw[this,q1];rfl
   ·exact .cons ⟨h1,h2,h3⟩ q2
theorem step_ests(t:TypeId)(mm ss vv:Operand){x y u:Opd}(hx:mkOpd mm=some x)(hy:mkOpd ss=some y)(hv:mkOpd vv=some u):StepOk E P env a (.entryStore t mm ss vv) (.ests x y u):=by
 intro W0 ρ φ m m' v w hm hE hG hs dst ty pos af gd
 simp only[mstep] at hm
 split at hm
 ·rename_i i s k n hi hn hu
  obtain⟨b,q,hb,hr⟩:=(opd_sound hx hi hE).map_inv
  have hq:=(opd_sound hy hn hE).int_inv
  have hw:=(opd_sound hv hu hE).int_inv
  split at hm
  ·rename_i es c he
   simp only[Option.map_eq_some_iff,Prod.mk.injEq] at hm
   obtain⟨es2,h0,rfl,rfl⟩:=hm
   obtain⟨es',h1,h2,h3⟩:=map_at hG he hr
   obtain⟨j,q1,q2⟩:=born_sound (v':=.int k n) (.flat (.int k n)) h2 h0
   have q1':es'.findIdx? (fun e=>(e.born:Int) == (s:Int))=some j:=by rw[← Array.toArray_toList (xs:=es'),List.findIdx?_toArray];exact q1
   rw[← Array.toList_modify] at q2
   obtain⟨k1,k2⟩:=map_turn (c2:=c) hG hs he hr h1 h3 q2
   refine⟨.skip,_,ρ,φ,?_,rfl,fun h=>.inr trivial,k1,k2⟩
   simp[execOp,hb,hq,hw,Instr.entryStore,Sem.run_bind,MapKept.run_getObj_map h1,asInt,asIntOf,q1',MapKept.run_setObj_map _ h1]
  ·cases hm
 ·cases hm
end Go.AI
