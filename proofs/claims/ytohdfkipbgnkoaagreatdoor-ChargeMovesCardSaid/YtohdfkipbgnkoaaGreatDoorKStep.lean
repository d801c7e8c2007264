/- The evaluator's steps upon memory, but for calls and maps: each is the model's. No program is named here. -/
import Derived.Test.YtohdfkipbgnkoaaGreatDoorAiMem
import Derived.Lib.UnsafeStr
import Derived.Lib.Builder
import Derived.MapKept
namespace Go.AI
section
variable {X:Type}
def aq(s:List UInt8):List Value:=s.map fun b=>.int .u8 (Int.ofNat b.toNat)
def dp:List Value→Option (List UInt8)
 |[]=>some []
 | .int .u8 (.ofNat n)::r=>(dp r).map (UInt8.ofNat n::·)
 |_=>none
def eg:List Value→Option (List UInt8)
 |[]=>some []
 | .int .u8 (.ofNat n)::r=>bif Nat.blt n 256 then(eg r).map (UInt8.ofNat n::·) else none
 |_=>none
def Mem.loads(m:Mem X)(a:Option Addr)(n:Nat):Option (List Value) :=
 bif Nat.beq n 0 then some [] else match a with
  |some ⟨i,o,_⟩=>m.load ⟨i,o,none⟩ n
  |none=>none
def rows(n:Nat)(z:List Value):List Value:=(List.replicate n z).flatten
def mN(need b:Nat):Bool:=Nat.ble ((need+1000)*b) 70368744177664
def source(m:Mem X)(e:Nat):Value→Option (Nat×List Value)
 | .string s=>some (s.data.toList.length,aq s.data.toList)
 | .slice a n _=>(m.loads a (n*e)).map fun cs=>(n,cs)
 |_=>none
def mg:Option Nat→AObj X→Bool
 |some 1,.cells _=>true
 |some 1,.grown _ _ _=>true
 |some 1,.ro _ _=>true
 |none,.cells _=>true
 |_,_=>false
def jC(e t o cp l n:Nat)(src:List Value):Option Nat→AObj X→Bool
 |none,.grown e' t' cs=>Nat.beq t' t&&Nat.beq e' e&&Nat.beq o 0&&Nat.beq cs.length (cp*e)&&Nat.beq src.length (n*e)&&Nat.ble l cp
 |_,_=>false
def dJ(m:Mem X)(e b t:Nat)(x y:Value):Option (Value×Mem X) :=
 match x,source m e y with
 | .slice none l cp,some (n,src) =>
  bif Nat.ble (l+n) cp then some (.slice none (l+n) cp,m)
  else bif Nat.beq l 0&&mN (l+n) b then some (.slice (some ⟨m.next,0,none⟩) (l+n) (l+n),m.new true (.grown e t src)) else none
 | .slice (some ⟨i,o,sp⟩) l cp,some (n,src) =>
  match m.get i with
  |some ob =>
   let exact:=mg sp ob
   let mine:=jC e t o cp l n src sp ob
   bif exact||mine then
    bif Nat.ble (l+n) cp then(bif Nat.beq n 0 then some (.slice (some ⟨i,o,sp⟩) (l+n) cp,m) else(m.store ⟨i,o+l*e,none⟩ src).map fun m'=>(.slice (some ⟨i,o,sp⟩) (l+n) cp,m'))
    else bif mN (l+n) b then(match m.loads (some ⟨i,o,none⟩) (l*e) with
     |some old=>bif exact then some (.slice (some ⟨m.next,0,none⟩) (l+n) (l+n),m.new true (.grown e t (old++src)))
      else some (.slice (some ⟨m.next,0,none⟩) (l+n) (l+n),(m.kill i).new true (.grown e t (old++src)))
     |none=>none) else none
   else none
  |none=>none
 |_,_=>none
def fE(env:LV):IOp→Option (Bool×List Value×Option Nat)
 | .new _ hp cs=>some (hp,cs,none)
 | .box _ hp x=>match evo env x with
  |some v=>(cR v).map fun vs=>(hp,vs,none)
  |none=>none
 | .bslice _ n e z ps=>(jS env (rows n z) (ps.map fun p=>(p.1*e,e,p.2))).map fun cs=>(true,cs,some n)
 |_=>none
def iQ(i:Nat):Option Nat→Value
 |none=>.pointer (some ⟨i,0,none⟩)
 |some n=>.slice (some ⟨i,0,none⟩) n n
def ij(k:IntKind)(n:Int):List (Value×Value×Nat)→Nat→Option (Option (Nat×Value×Nat))
 |[],_=>some none
 |(.int j a,v,b)::r,i=>if k=j then(bif bz n a then some (some (i,v,b)) else ij k n r (i+1)) else none
 |_,_=>none
def pF(s:Nat)(v:Value):List (Value×Value×Nat)→Option (List (Value×Value×Nat))
 |[]=>none
 |(k,u,b)::r=>bif Nat.beq b s then some ((k,v,b)::r) else(pF s v r).map ((k,u,b)::·)
def bM(env:LV)(m:Mem X):IOp→Option (Value×Mem X)
 | .load _ n g a=>match evo env a with
  |some (.pointer (some ad))=>match m.load ad n with
   |some r=>(dy g r).map fun v=>(v,m)
   |none=>none
  |_=>none
 | .store n a x=>match evo env a,evo env x with
  |some (.pointer (some ad)),some v=>match cR v with
   |some vs=>bif Nat.beq vs.length n then(m.store ad vs).map fun m'=>(undef,m') else none
   |none=>none
  |_,_=>none
 | .new d hp cs=>(fE env (.new d hp cs)).map fun r=>(iQ m.next r.2.2,m.new r.1 (.cells r.2.1))
 | .box d hp x=>(fE env (.box d hp x)).map fun r=>(iQ m.next r.2.2,m.new r.1 (.cells r.2.1))
 | .bslice d n e z ps=>(fE env (.bslice d n e z ps)).map fun r=>(iQ m.next r.2.2,m.new r.1 (.cells r.2.1))
 | .mslice _ _ b z l c=>match evo env l,evo env c with
  |some lv,some cv=>match cQ lv,cQ cv with
   |some l,some c=>bif Nat.ble l c&&Nat.ble (c*b) 281474976710656&&Nat.ble c 281474976710656 then some (.slice (some ⟨m.next,0,none⟩) l c,m.new true (.cells (rows c z))) else none
   |_,_=>none
  |_,_=>none
 | .s2b _ t x=>match evo env x with
  |some (.string s)=>some (.slice (some ⟨m.next,0,none⟩) s.data.toList.length s.data.toList.length,m.new true (.grown 1 t (aq s.data.toList)))
  |_=>none
 | .b2s _ x=>match evo env x with
  |some (.slice none _ _)=>some (.string ⟨⟨[]⟩⟩,m)
  |some (.slice (some a) n _)=>match m.loads (some a) n with
   |some cs=>(dp cs).map fun l=>(.string ⟨⟨l⟩⟩,m)
   |none=>none
  |_=>none
 | .append _ e b t x y=>match evo env x,evo env y with
  |some u,some v=>dJ m e b t u v
  |_,_=>none
 | .copy _ e x y=>match evo env x,evo env y with
  |some (.slice a dl _),some v=>match v with
   | .string s=>let src:=aq (s.data.toList.take dl)
    bif Nat.beq src.length 0 then some (.int .i64 0,m) else match a with
     |some ⟨i,o,_⟩=>(m.store ⟨i,o,none⟩ src).map fun m'=>(.int .i64 (Int.ofNat (Nat.min s.data.toList.length dl)),m')
     |none=>none
   | .slice b sl _=>let k:=bif Nat.ble sl dl then sl else dl
    bif Nat.beq k 0 then some (.int .i64 0,m) else match a,m.loads b (k*e) with
     |some ⟨i,o,_⟩,some src=>(m.store ⟨i,o,none⟩ src).map fun m'=>(.int .i64 (Int.ofNat k),m')
     |_,_=>none
   |_=>none
  |_,_=>none
 | .clear _ _ z x=>match evo env x with
  |some (.slice a n _)=>bif Nat.beq n 0 then some (.tuple ⟨[]⟩,m) else match a with
   |some ⟨i,o,_⟩=>(m.store ⟨i,o,none⟩ (rows n z)).map fun m'=>(.tuple ⟨[]⟩,m')
   |none=>none
  |_=>none
 | .newt _ hp t cs=>some (.pointer (some ⟨m.next,0,none⟩),m.new hp (.typed t cs))
 | .tou _ t x=>match evo env x with
  |some (.pointer (some ⟨i,0,none⟩))=>match m.get i with
   |some (.typed t' (_::_))=>bif Nat.beq t' t then some (.pointer (some ⟨i,0,none⟩),m) else none
   |_=>none
  |_=>none
 | .fromu _ t n x=>match evo env x with
  |some (.pointer (some ⟨i,0,none⟩))=>match m.get i with
   |some (.typed t' cs)=>bif Nat.beq t' t&&Nat.beq cs.length n then some (.pointer (some ⟨i,0,none⟩),m) else none
   |_=>none
  |_=>none
 | .usd _ x=>match evo env x with
  |some (.slice none _ _)=>some (.pointer none,m)
  |some (.slice (some ⟨i,o,none⟩) _ c)=>bif Nat.beq c 0 then none else some (.pointer (some ⟨i,o,none⟩),m)
  |_=>none
 | .ustr _ t x n=>match evo env x,evo env n with
  |some (.pointer p),some (.int .i64 (.ofNat n))=>bif Nat.beq n 0 then some (.string ⟨⟨[]⟩⟩,m) else match p with
   |some ⟨i,0,none⟩=>match m.get i with
    |some (.grown _ t' cs)=>bif Nat.beq t' t&&Nat.ble n 9223372036854775807 then(match eg (cs.take n) with
     |some l=>bif Nat.beq l.length n then some (.string ⟨⟨l⟩⟩,m.kill i) else none
     |none=>none) else none
    |_=>none
   |_=>none
  |_,_=>none
 | .mmap _=>some (.map (some m.next),m.new true (.map [] 0))
 | .mget _ z agg ok mm kk=>match evo env mm,evo env kk with
  |some (.map (some i)),some (.int k n)=>match m.get i with
   |some (.map es _)=>match ij k n es 0 with
    |some (some (_,v,_))=>some (bif ok then .tuple ⟨[v,.bool true]⟩ else v,m)
    |some none=>bif agg then none else(match z with
     |[zv]=>some (bif ok then .tuple ⟨[zv,.bool false]⟩ else zv,m)
     |_=>none)
    |none=>none
   |_=>none
  |_,_=>none
 | .ment _ z agg mm kk=>match evo env mm,evo env kk with
  |some (.map (some i)),some (.int k n)=>match m.get i with
   |some (.map es c)=>match ij k n es 0 with
    |some (some (_,v,b))=>some (.tuple ⟨[v,.int .i64 (Int.ofNat b)]⟩,m.put i (.map es c))
    |some none=>bif agg then none else(match z with
     |[zv]=>some (.tuple ⟨[zv,.int .i64 (Int.ofNat c)]⟩,m.put i (.map (es++[(.int k n,zv,c)]) (c+1)))
     |_=>none)
    |none=>none
   |_=>none
  |_,_=>none
 | .ests mm ss xx=>match evo env mm,evo env ss,evo env xx with
  |some (.map (some i)),some (.int .i64 (.ofNat s)),some (.int k n)=>match m.get i with
   |some (.map es c)=>(pF s (.int k n) es).map fun es'=>(undef,m.put i (.map es' c))
   |_=>none
  |_,_,_=>none
 | .mset mm kk xx=>match evo env mm,evo env kk,evo env xx with
  |some (.map (some i)),some (.int k n),some (.int vk vn)=>match m.get i with
   |some (.map es c)=>match ij k n es 0 with
    |some none=>some (undef,m.put i (.map (es++[(.int k n,.int vk vn,c)]) (c+1)))
    |_=>none
   |_=>none
  |_,_,_=>none
 | .mlen _ mm=>match evo env mm with
  |some (.map (some i))=>match m.get i with
   |some (.map es _)=>some (.int .i64 (Int.ofNat es.length),m)
   |_=>none
  |_=>none
 |_=>none
end
section
variable {E:Ext}{P:Program}{W0:World}{ρ:Ren}{φ:br}{m m':Mem E.X}{w:World}{env:LV}{a:Act}
def Res(ρ:Ren)(v:Value):Next→Prop
 | .value v'=>VR ρ v v'
 | .skip=>v=undef
 |_=>False
def cX(E:Ext)(P:Program)(env:LV)(a:Act)(op:Op)(i:IOp):Prop :=
 ∀(W0:World) (ρ:Ren) (φ:br) (m m':Mem E.X) (v:Value) (w:World),bM env m i=some (v,m')→ER ρ env a→Good (E:=E) W0 ρ φ m.get m.next w→m.Sep →
  ∀(dst:Option Tmp) (ty:TypeId) (pos:String) (af:Array Edge) (gd:Option (Nat×Bool)),∃r w' ρ' φ',(execOp a.eval ⟨dst,op,ty,pos,af,gd⟩).run P w = .ok r w'∧Res ρ' v r∧(r = .skip→dst=none∨True)∧Post W0 ρ φ m.get m.next w ρ' φ' m'.get m'.next w'∧m'.Sep
theorem mw{o:AObj E.X}{s:Nat}{heap:Bool}{c:Obj}{w':World}(g:Good (E:=E) W0 ρ φ m.get m.next w)(hs:m.Sep)
  (hw:w'.heap=w.heap.push c) (ho:w'.os=w.os) (hp:w'.output=w.output)
  (hrel:ObjR E (ρ.put m.next (w.heap.size,s)) o w.heap.size s (· = w.heap.size) (· = w.heap.size) w') :
  Post W0 ρ φ m.get m.next w (ρ.put m.next (w.heap.size,s)) (fun j=>if j=m.next then((· = w.heap.size),(· = w.heap.size)) else φ j) (m.new heap o).get (m.new heap o).next w'∧(m.new heap o).Sep:=by
 obtain⟨h1,h2⟩:=Mem.j g;rw[Mem.k h1,Mem.p];exact⟨g.new o s _ _ c hw ho hp (fun _ h=>h) (fun _ h=>h) (fun _ h=>h) hrel,Mem.q hs h1 h2⟩
theorem jU{n:Nat}{x:Nat×Nat}(h:ρ n=none):ρ.le (ρ.put n x):=fun i y hi=>by
 have:i≠n:=fun e=>by rw[e,h] at hi;cases hi
 simp[Ren.put,this,hi]
theorem iW(n:Nat):xy (0,0) n:=fun o _ h=>by omega
theorem r8{cs cs':List Value}{heap:Bool}(g:Good (E:=E) W0 ρ φ m.get m.next w)(hs:m.Sep)(e:TypeId)(hc:All2 (FR ρ) cs cs') :
  ∃ρ' φ',ρ' m.next=some (w.heap.size,0)∧Post W0 ρ φ m.get m.next w ρ' φ' (m.new heap (.cells cs)).get (m.new heap (.cells cs)).next { w with heap:=w.heap.push (.cells ⟨cs'⟩ e) }∧(m.new heap (.cells cs)).Sep:=by
 have hle:=jU (ρ:=ρ) (x:=(w.heap.size,0)) (g.dom m.next (Ze _));obtain⟨k1,k2⟩:=mw (o:=.cells cs) (s:=0) (heap:=heap) (c:=.cells ⟨cs'⟩ e) (w':={ w with heap:=w.heap.push (.cells ⟨cs'⟩ e) }) g hs rfl rfl rfl
  ⟨rfl,fun _=>Iff.rfl,fun _=>Iff.rfl,⟨cs'⟩,e,(0,0),by simp,hc.mono fun _ _=>FR.mono hle,iW _⟩
 exact⟨_,_,by simp[Ren.put],k1,k2⟩
theorem c9(e:TypeId)(c:Array Value):(newRow e c).run P w = .ok ⟨w.heap.size,0,none⟩ { w with heap:=w.heap.push (.cells c e) }:=by
 simp[newRow]
theorem Du(t:TypeId)(x:Operand){d n:Nat}{g:Bool}{y:Opd}(hg:nX P t=some g)(hn:∃k,cd P t=some k∧n=bif g then k else 1)(hn0:n≠0)(hx:aS x=some y):cX E P env a (.load t x) (.load d n g y):=by
 intro W0 ρ φ m m' v w hm hE hG hs dst ty pos af gd;simp only[bM] at hm;split at hm
 ·rename_i ad had;split at hm
  ·rename_i r hr;simp only[Zb,Zf] at hm;obtain⟨v',hv,rfl,rfl⟩:=hm;have hp:=al hx had hE;obtain⟨k,hk,rfl⟩:=hn;cases hq:a.eval x<;>rw[hq] at hp<;>have hf:=hp.By<;>cases hf
   rename_i i b s o hrb;obtain⟨r',l1,l2,l3⟩:=gI (P:=P) hr hG hn0 (.ptr hrb);unfold dy at hv;cases g with
   |true =>
    simp only[cond_true,zI] at hv l1;subst hv;refine⟨.value (.agg ⟨r'⟩),w,ρ,φ,?_,.x (.agg l2),fun h=>.inr trivial,Post.refl hG,hs⟩;simp only[execOp,hq,Instr.loadAt,Instr.sureAddr,loadVar,Zc,Zd,Za,fO hg,if_true,bW hk,l1]
   |false =>
    simp only[cond_false] at hv;split at hv
    ·rename_i c;injection hv with hv;subst hv;obtain⟨yv,l4,l5⟩:=l3 c rfl rfl;refine⟨.value yv,w,ρ,φ,?_,.of_flat l5,fun h=>.inr trivial,Post.refl hG,hs⟩;simp only[execOp,hq,Instr.loadAt,Instr.sureAddr,loadVar,Zc,Zd,Za,fO hg,Zq,if_false,l4]
    ·cases hv
  ·cases hm
 ·cases hm
theorem yp(t:TypeId)(x y:Operand){n:Nat}{x' y':Opd}(hn:cd P t=some n)(hx:aS x=some x')(hy:aS y=some y'):cX E P env a (.store t x y) (.store n x' y'):=by
 intro W0 ρ φ m m' v w hm hE hG hs dst ty pos af gd;simp only[bM] at hm;split at hm
 ·rename_i ad val had hval;split at hm
  ·rename_i vs hvs;cases hl:Nat.beq vs.length n with
   |false=>rw[hl] at hm;cases hm
   |true =>
    rw[hl,cond_true] at hm;rw[Zg] at hl;simp only[Zb,Zf] at hm;obtain⟨m1,h1,rfl,rfl⟩:=hm;have hp:=al hx had hE;have hc:=jq hvs (al hy hval hE);cases hq:a.eval x<;>rw[hq] at hp<;>have hf:=hp.By<;>cases hf
    rename_i i b s o hrb;obtain⟨w',l1,l2,l3⟩:=im (P:=P) h1 hG hs (.ptr hrb) hc;refine⟨.skip,w',ρ,φ,?_,rfl,fun h=>.inr trivial,l2,l3⟩;have hsz:¬((a.eval y).cells.size≠n):=by
     have:vs.length=(a.eval y).cells.size:=by simpa using hc.length
     omega
    simp only[execOp,hq,Instr.storeAt,Instr.sureAddr,storeVar,Zc,Zd,Za,bW hn,hsz,if_false,l1]
  ·cases hm
 ·cases hm
def ll(P:Program)(env:LV)(a:Act)(op:Op)(i:IOp):Prop :=
 ∀(ρ:Ren) (r:Bool×List Value×Option Nat) (w:World),fE env i=some r→ER ρ env a →
  ∀(dst:Option Tmp) (ty:TypeId) (pos:String) (af:Array Edge) (gd:Option (Nat×Bool)),∃cs' e,(execOp a.eval ⟨dst,op,ty,pos,af,gd⟩).run P w = .ok (.value (iQ w.heap.size r.2.2)) { w with heap:=w.heap.push (.cells ⟨cs'⟩ e) }∧All2 (FR ρ) r.2.1 cs'
theorem sH{i b:Nat}{k:Option Nat}(h:ρ i=some (b,0)):VR ρ (iQ i k) (iQ b k):=by
 cases k with
 |none=>exact .of_flat (.ptr h)
 |some n=>exact .of_flat (.slc (c:=n) h)
theorem iE{op:Op}{i:IOp}(h:ll P env a op i)(hm:∀m:Mem E.X,bM env m i=(fE env i).map fun r=>(iQ m.next r.2.2,m.new r.1 (.cells r.2.1))):cX E P env a op i:=by
 intro W0 ρ φ m m' v w hs hE hG hsp dst ty pos af gd;rw[hm] at hs;simp only[Zb,Zf] at hs;obtain⟨r,hr,rfl,rfl⟩:=hs;obtain⟨cs',e,k1,k2⟩:=h ρ r w hr hE dst ty pos af gd;obtain⟨ρ',φ',h1,h2,h3⟩:=r8 (heap:=r.1) hG hsp e k2;exact⟨_,_,ρ',φ',k1,sH h1,fun h=>.inr trivial,h2,h3⟩
theorem sB(t:TypeId){d:Nat}{hp:Bool}{z:List Value}(hz:eM P t=some z):ll P env a (.alloc t) (.new d hp z):=by
 intro ρ r w hm hE dst ty pos af gd;simp only[fE,zI] at hm;subst hm;obtain⟨zv,z1,z2,z3,z4⟩:=gM (ρ:=ρ) (w:=w) hz;refine⟨z,t,?_,z3⟩;have hz':zv.cells=⟨z⟩:=Array.ext' z2;simp only[execOp,Instr.alloc,newVar,Zc,z1,Za,Zd,hz',c9];rfl
theorem sq(t:TypeId)(x:Operand){d:Nat}{hp:Bool}{y:Opd}(hx:aS x=some y):ll P env a (.box t x) (.box d hp y):=by
 intro ρ r w hm hE dst ty pos af gd;simp only[fE] at hm;split at hm
 ·rename_i val hval;simp only[Zb] at hm;obtain⟨vs,hvs,rfl⟩:=hm;refine⟨(a.eval x).cells.toList,t,?_,jq hvs (al hx hval hE)⟩;simp only[execOp,Instr.box,newVar,Zc,Za,Zd,c9];rfl
 ·cases hm
theorem kG(n:Nat)(z:List Value):(rows n z).length=n*z.length:=by
 unfold rows;simp
theorem ov{n:Nat}{z z':List Value}(h:All2 (FR ρ) z z'):All2 (FR ρ) (rows n z) (rows n z'):=(All2.replicate h n).flatten
theorem lT(n:Nat)(z:Array Value)(hz:z.size≠0∨n=0):(Array.range (n*z.size)).map (fun i=>z[i % z.size]!)=⟨rows n z.toList⟩:=by
 apply Array.ext';rw[Array.toList_map,Array.toList_range];induction n with
 |zero=>simp[rows]
 |succ n ih =>
  have hz:z.size≠0:=by rcases hz with h|h;exact h;omega
  have ih:=ih (.inl hz);rw[Nat.succ_mul,List.range_add,List.map_append,ih];have:rows (n+1) z.toList=rows n z.toList++z.toList:=by
   unfold rows;rw[List.replicate_succ'];simp
  rw[this];congr 1;rw[List.map_map];apply List.ext_getElem
  ·simp
  ·intro i h1 h2;simp only[List.getElem_map,List.getElem_range,Function.comp];have hi:i<z.size:=by simpa using h1
   have:(n*z.size+i) % z.size=i:=by rw[Nat.mul_add_mod_self_right];exact ZC hi
   rw[this];simp[hi]
theorem oI(e:Nat):∀{ps:List (Nat×Operand)} {qs:List (Nat×Opd)},tF ps=some qs→iv (fun i=>some (i*e,e)) ps=some (qs.map fun p=>(p.1*e,e,p.2))
 |[],qs,h=>by simp only[tF,zI] at h;subst h;rfl
 |(i,x)::ps,qs,h=>by
  simp only[tF] at h;split at h
  ·rename_i y s h1 h2;injection h with h;subst h;simp only[iv,h1,oI e h2,List.map_cons]
  ·cases h
theorem mY(t:TypeId)(n:Nat)(ps:Array (Nat×Operand)){e:TypeId}{d k:Nat}{z:List Value}{qs:List (Nat×Opd)}(hu:P.underlying t=some (.slice e))(hz:eM P e=some z)(hk:cd P e=some k)(hq:tF ps.toList=some qs)(hle:n*k≤16777216) :
  ll P env a (.buildSlice t n ps) (.bslice d n k z qs):=by
 intro ρ r w hm hE dst ty pos af gd;simp only[fE,Zb] at hm;obtain⟨cs,hcs,rfl⟩:=hm;obtain⟨zv,z1,z2,z3,z4⟩:=gM (ρ:=ρ) (w:=w) hz;rw[hk] at z4;injection z4 with z4;have hz':zv.cells=⟨z⟩:=Array.ext' z2;obtain⟨r',f1,f2⟩:=jA (cs':=rows n z) (oI k hq) hcs hE (ov z3);refine⟨r',e,?_,f2⟩;have hmap:(ps.map fun(i,x)=>(i,a.eval x)).toList=ps.toList.map fun p=>(p.1,a.eval p.2):=by rw[Array.toList_map]
 have hgt:¬(n*k>2 ^ 24):=by omega
 simp only[execOp,Instr.buildSlice,Zc,am hu,Za,bW hk,hgt,if_false,Zd];by_cases h0:n*k=0
 ·simp only[h0,if_true,Zc,Zd,Za,hmap];have hrow:rows n z=[]:=List.eq_nil_of_length_eq_zero (by rw[kG,← z4];exact h0);rw[hrow] at f1;have e0:(Array.range 0).map (fun x=>(#[]:Array Value)[x % (#[]:Array Value).size]!)=⟨[]⟩:=by simp
  rw[e0,f1];simp only[Zc,c9,Za,Zd];rfl
 ·simp only[h0,if_false,Zc,z1,Zd,Za,hmap,hz'];have hzs:(⟨z⟩:Array Value).size=k:=by show z.length=k;omega
  have e1:=lT n (⟨z⟩:Array Value) (.inl (by rw[hzs];intro e;rw[e] at h0;simp at h0));rw[hzs] at e1;rw[hzs,e1,f1];simp only[Zc,c9,Za,Zd];rfl
theorem v8(t:TypeId)(l c:Operand){e:TypeId}{i:TypeInfo}{d:Nat}{z:List Value}{l' c':Opd}(hu:P.underlying t=some (.slice e))(hi:P.info? e=some i)(hz:eM P e=some z)(hl:aS l=some l')(hc:aS c=some c') :
  cX E P env a (.makeSlice t l c) (.mslice d i.size i.bytes z l' c'):=by
 intro W0 ρ φ m m' v w hm hE hG hs dst ty pos af gd;simp only[bM] at hm;split at hm
 ·rename_i lv cv hlv hcv;split at hm
  ·rename_i ln cn hln hcn;cases hb:(Nat.ble ln cn&&Nat.ble (cn*i.bytes) 281474976710656&&Nat.ble cn 281474976710656) with
   |false=>rw[hb] at hm;cases hm
   |true =>
    rw[hb,cond_true] at hm;simp only[Zi,Zk] at hb;obtain⟨⟨b1,b2⟩,b3⟩:=hb;simp only[zI,Zf] at hm;obtain⟨rfl,rfl⟩:=hm;obtain⟨kl,rfl⟩:=cS hln;obtain⟨kc,rfl⟩:=cS hcn;obtain⟨zv,z1,z2,z3,z4⟩:=gM (ρ:=ρ) (w:=w) hz;have hz':zv.cells=⟨z⟩:=Array.ext' z2;have hsz:cd P e=some i.size:=by simp[cd,hi]
    rw[hsz] at z4;injection z4 with z4;obtain⟨ρ',φ',h1,h2,h3⟩:=r8 (heap:=true) hG hs e (ov (n:=cn) z3);refine⟨.value (.slice (some ⟨w.heap.size,0,none⟩) ln cn),_,ρ',φ',?_,.of_flat (.slc (c:=cn) h1),fun h=>.inr trivial,h2,h3⟩;have el:IntKind.i64.wrap (Int.ofNat ln)=ln:=fM .i64 ln (by simp only[jk];omega);have ec:IntKind.i64.wrap (Int.ofNat cn)=cn:=fM .i64 cn (by simp only[jk];omega);simp only[execOp,(al hl hlv hE).sh,(al hc hcv hE).sh,Instr.makeSlice,Zc,am hu,Za,asInt,asIntOf,Zd,ki hi,el,ec];have t1:(decide ((cn:Int)<0)||decide ((i.bytes:Int)*(cn:Int)>2 ^ 48))=false:=by
     simp only[Bool.or_eq_false_iff,decide_eq_false_iff_not];have:(i.bytes:Int)*cn=((cn*i.bytes:Nat):Int):=by rw[Int.natCast_mul,Int.mul_comm]
     rw[this];constructor<;>omega
    have t2:(decide ((ln:Int)<0))=false:=by simp
    have t3:(decide ((ln:Int)>(cn:Int)))=false:=by simp;omega
    simp only[t1,t2,t3,Bool.or_self,Zq,if_false,Zc,Go.run_askRoom,Za,Int.toNat_natCast,bW hsz];by_cases h0:cn*i.size=0
    ·have hrow:rows cn z=[]:=List.eq_nil_of_length_eq_zero (by rw[kG,← z4];exact h0);simp only[h0,if_true,Zd,Zc,Za,hrow];have e0:(Array.range 0).map (fun x=>(#[]:Array Value)[x % (#[]:Array Value).size]!)=⟨[]⟩:=by simp
     rw[e0];simp only[c9,Za]
    ·have hzs:(⟨z⟩:Array Value).size=i.size:=by show z.length=i.size;omega
     have e1:=lT cn (⟨z⟩:Array Value) (.inl (by rw[hzs];intro e;rw[e] at h0;simp at h0));rw[hzs] at e1;simp only[h0,if_false,Zd,Zc,Za,z1,hz',hzs,e1,c9]
  ·cases hm
 ·cases hm
theorem lW(l:List UInt8):All2 (FR ρ) (aq l) (aq l):=by
 induction l with
 |nil=>exact .nil
 |cons b l ih=>exact .cons (.int _ _) ih
theorem oB{cs cs' rest:List Value}{s ez:Nat}{heap:Bool}{w':World}(g:Good (E:=E) W0 ρ φ m.get m.next w)(hs:m.Sep)(e:TypeId)(hc:All2 (FR ρ) cs cs')(hr:rest.length=s*ez)
  (f:Nat×Nat) (hf:xy f (cs'++rest).length) (hw:w'.heap=w.heap.push (.cells ⟨cs'++rest⟩ e f)) (ho:w'.os=w.os) (hp:w'.output=w.output) :
  ∃ρ' φ',ρ' m.next=some (w.heap.size,s)∧Post W0 ρ φ m.get m.next w ρ' φ' (m.new heap (.grown ez e cs)).get (m.new heap (.grown ez e cs)).next w'∧(m.new heap (.grown ez e cs)).Sep:=by
 have hle:=jU (ρ:=ρ) (x:=(w.heap.size,s)) (g.dom m.next (Ze _));have hl:=hc.length;obtain⟨k1,k2⟩:=mw (o:=.grown ez e cs) (s:=s) (heap:=heap) (c:=.cells ⟨cs'++rest⟩ e f) (w':=w') g hs hw ho hp
  ⟨fun _=>Iff.rfl,fun _=>Iff.rfl,⟨cs'++rest⟩,e,f,by rw[hw];simp,by show(cs'++rest).length=_;simp;omega,by
   show All2 _ cs ((cs'++rest).take cs.length);rw[hl,List.take_left']
   ·exact hc.mono fun _ _=>FR.mono hle
   ·rfl,hf,rfl⟩
 exact⟨_,_,by simp[Ren.put],k1,k2⟩
theorem DO(s t:TypeId)(x:Operand){e:TypeId}{d:Nat}{y:Opd}(hs1:P.underlying s=some .string)(ht:P.underlying t=some (.slice e))(he:P.underlying e=some (.int .u8))(hx:aS x=some y) :
  cX E P env a (.convert s t x) (.s2b d e y):=by
 intro W0 ρ φ m m' v w hm hE hG hs dst ty pos af gd;simp only[bM] at hm;split at hm
 ·rename_i q hq;simp only[zI,Zf] at hm;obtain⟨rfl,rfl⟩:=hm;have hcut:∀k,¬(Question.appendCap q.size 0 e).forced=true∧q.size≤(Question.appendCap q.size 0 e).cut k:=by
   intro k;refine⟨by simp[Question.forced],by simp[Question.cut]⟩
  obtain⟨hnf,hcap⟩:=hcut (w.tape w.drawn (Question.appendCap q.size 0 e));generalize hC:(Question.appendCap q.size 0 e).cut (w.tape w.drawn (Question.appendCap q.size 0 e))=C at hcap;have hqs:q.data.toList.length=q.size:=by simp
  have hrow:(q.data.map fun b=>(Value.int .u8 b.toNat))++Array.replicate (C-q.size) (Value.int .u8 0)=⟨aq q.data.toList++List.replicate (C-q.size) (.int .u8 0)⟩:=by
   apply Array.ext';simp[aq]
  have hlen:(aq q.data.toList++List.replicate (C-q.size) (Value.int .u8 0)).length=C:=by
   simp only[aq,Zw,List.length_map,List.length_replicate,hqs];omega
  obtain⟨ρ',φ',h1,h2,h3⟩:=oB (heap:=true) (ez:=1) (s:=C-q.size) (w':={ w with drawn:=w.drawn+1,heap:=w.heap.push (.cells ⟨aq q.data.toList++List.replicate (C-q.size) (.int .u8 0)⟩ e (C,C+1)) }) hG hs e (lW q.data.toList) (by simp) (C,C+1) (by rw[hlen];intro o ho;omega) rfl rfl rfl;refine⟨.value (.slice (some ⟨w.heap.size,0,none⟩) q.size (q.size+(C-q.size))),_,ρ',φ',?_,?_,fun h=>.inr trivial,h2,h3⟩
  ·simp only[execOp,(al hx hq hE).Qu,convert,Zc,am hs1,am ht,am he,Za,Conv.stringToBytes,run_choose,hnf,hC,Zq,if_false,hrow,c9,markStringish,run_shape,Zd];have hsh:({ w with drawn:=w.drawn+1,heap:=w.heap.push (.cells ⟨aq q.data.toList++List.replicate (C-q.size) (.int .u8 0)⟩ e) }:World).shape? w.heap.size=some (e,C):=by
    simp only[World.shape?,Array.getElem?_push_size,zI,Zf,true_and];exact hlen
   simp only[hsh];simp only[run_freeze,Za];rw[show q.size+(C-q.size)=C by omega];congr 1;unfold World.freeze;simp only[Nat.add_one_ne_zero,if_false];congr 1;apply Array.ext_getElem?;intro j;rw[Array.getElem?_modify];by_cases hj:j=w.heap.size
   ·subst hj;simp
   ·simp only[Ne.symm hj,if_false];rcases ZA j w.heap.size with h'|h'
    ·rw[Array.getElem?_push_lt h',Array.getElem?_push_lt h']
    ·have hne:w.heap.size<j:=by omega
     rw[Array.getElem?_eq_none (by simp;omega),Array.getElem?_eq_none (by simp;omega)]
  ·rw[hqs];exact .of_flat (.slc h1)
 ·cases hm
theorem fT{x x':Option Addr}{n l c l' c':Nat}{r:List Value}(h:m.loads x n=some r)(g:Good (E:=E) W0 ρ φ m.get m.next w)(hx:FR ρ (.slice x l c) (.slice x' l' c'))(hl:x=none→n=0)(hz:n≠0→l≠0) :
  ∃r',(match x' with|some b=>(loadCells b n).run P w|none=>Result.ok #[] w) = .ok ⟨r'⟩ w∧All2 (FR ρ) r r':=by
 unfold Mem.loads at h;by_cases hn:n=0
 ·subst hn;simp only[Nat.beq_refl,cond_true,zI] at h;subst h;refine⟨[],?_,.nil⟩;cases x'<;>rfl
 ·have hb:Nat.beq n 0=false:=by rw[← Zl,Zg];exact hn
  rw[hb,cond_false] at h;cases hx with
  |nils=>exact(hn (hl rfl)).elim
  |slc hr=>obtain⟨r',k1,k2,_⟩:=gI (P:=P) h g hn (.ptr hr);exact⟨r',k1,k2⟩
  |slx hr=>obtain⟨r',k1,k2,_⟩:=gI (P:=P) h g hn (.ptr hr);exact⟨r',k1,k2⟩
  |slz hr=>exact(hz hn rfl).elim
end
end Go.AI
namespace Go.AI
variable {E:Ext}{P:Program}{W0:World}{ρ:Ren}{φ:br}{m m':Mem E.X}{w:World}{env:LV}{a:Act}
theorem iA:∀{cs:List Value} {l:List UInt8},dp cs=some l→∃ns:List Nat,cs=ns.map (fun(n:Nat)=>Value.int .u8 n)∧l=ns.map UInt8.ofNat
 |[],l,h=>by simp only[dp,zI] at h;subst h;exact⟨[],rfl,rfl⟩
 |c::cs,l,h=>by
  unfold dp at h;split at h
  ·rename_i heq;cases heq
  ·rename_i n r heq;injection heq with e1 e2;subst e1;subst e2;simp only[Zb] at h;obtain⟨l',h',rfl⟩:=h;obtain⟨ns,rfl,rfl⟩:=iA h';exact⟨n::ns,rfl,rfl⟩
  ·cases h
theorem sr{ns:List Nat}{ys:List Value}(h:All2 (FR ρ) (ns.map (fun(n:Nat)=>Value.int .u8 n)) ys):ys=ns.map (fun(n:Nat)=>Value.int .u8 n):=by
 induction ns generalizing ys with
 |nil=>cases h;rfl
 |cons n ns ih =>
  cases h with
  |cons hf ht=>cases hf;rw[ih ht];rfl
theorem s9{f:Value→ByteArray→Sem (ForInStep ByteArray)}(hf:∀(n:Int) (s:ByteArray),f (.int .u8 n) s=pure (ForInStep.yield (s.push (UInt8.ofNat n.toNat))))(ns:List Nat) :
  ∀(s:ByteArray),(forIn (m:=Sem) (ns.map (fun(n:Nat)=>Value.int .u8 n)) s f).run P w = .ok ⟨⟨s.data.toList++ns.map UInt8.ofNat⟩⟩ w:=by
 induction ns with
 |nil=>intro s;simp
 |cons n ns ih =>
  intro s;simp only[List.map_cons,List.forIn_cons,Zc,hf,Zd,Za];rw[ih];simp
theorem E7(s t:TypeId)(x:Operand){e:TypeId}{d:Nat}{y:Opd}(hs1:P.underlying s=some (.slice e))(ht:P.underlying t=some .string)(he:P.underlying e=some (.int .u8))(hx:aS x=some y) :
  cX E P env a (.convert s t x) (.b2s d y):=by
 intro W0 ρ φ m m' v w hm hE hG hs dst ty pos af gd;simp only[bM] at hm;split at hm
 ·rename_i l c hq;simp only[zI,Zf] at hm;obtain⟨rfl,rfl⟩:=hm;have hf:=(al hx hq hE).AS;refine⟨.value (.string ⟨⟨[]⟩⟩),w,ρ,φ,?_,.of_flat (.str _),fun h=>.inr trivial,Post.refl hG,hs⟩;generalize hz:a.eval x=z at hf;cases hf;simp only[execOp,hz,convert,Zc,am hs1,am ht,am he,Za,Conv.bytesToString,Zd];rfl
 ·rename_i ad n c hq;split at hm
  ·rename_i cs hcs;simp only[Zb,Zf] at hm;obtain⟨l,hl,rfl,rfl⟩:=hm;have hf:=(al hx hq hE).AS;obtain⟨z,c',hz⟩:=hf.Qv;rw[hz] at hf;obtain⟨r',l1,l2⟩:=fT (P:=P) hcs hG hf (by simp) (fun h=>h);obtain⟨ns,rfl,rfl⟩:=iA hl;have:=sr l2;subst this;refine⟨.value (.string ⟨⟨ns.map UInt8.ofNat⟩⟩),w,ρ,φ,?_,.of_flat (.str _),fun h=>.inr trivial,Post.refl hG,hs⟩;obtain⟨zz,rfl⟩:∃zz,z=some zz:=by cases hf<;>exact⟨_,rfl⟩
   simp only[execOp,hz,convert,Zc,am hs1,am ht,am he,Za,Conv.bytesToString,Zd];simp only at l1;rw[l1];simp only[Za];rw[← Array.forIn_toList];rw[s9 (fun n s=>rfl) ns ByteArray.empty];simp
  ·cases hm
 ·cases hm
theorem jF(s:ByteArray)(n:Nat):((s.extract 0 n).data.map fun b=>(Value.int .u8 b.toNat))=⟨aq (s.data.toList.take n)⟩:=by
 apply Array.ext';simp[aq,Array.toList_extract,List.map_take]
theorem kF{x x':Option Addr}{i o l c l' c':Nat}{sp:Option Nat}{vs vs':List Value}(hx:x=some ⟨i,o,sp⟩)(hl:l≠0)(hf:FR ρ (.slice x l c) (.slice x' l' c'))(h:m.store ⟨i,o,none⟩ vs=some m')(g:Good (E:=E) W0 ρ φ m.get m.next w)(hs:m.Sep)(hv:All2 (FR ρ) vs vs') :
  ∃b w',x'=some b∧(storeCells b vs').run P w = .ok () w'∧Post W0 ρ φ m.get m.next w ρ φ m'.get m'.next w'∧m'.Sep:=by
 subst hx;cases hf with
 |slc hr=>obtain⟨w',k1,k2,k3⟩:=im (P:=P) h g hs (.ptr hr) hv;exact⟨_,w',rfl,k1,k2,k3⟩
 |slx hr=>obtain⟨w',k1,k2,k3⟩:=im (P:=P) h g hs (.ptr hr) hv;exact⟨_,w',rfl,k1,k2,k3⟩
 |slz hr=>exact(hl rfl).elim
theorem qH{n:Nat}{r:List Value}(h:m.loads none n=some r):n=0:=by
 unfold Mem.loads at h;cases hb:Nat.beq n 0 with
 |true=>rw[Zg] at hb;exact hb
 |false=>rw[hb] at h;cases h
theorem C4(ts:Array TypeId)(as:Array Operand){t e:TypeId}{d k:Nat}{x y:Opd}(ht:ts[0]? = some t)(hu:P.underlying t=some (.slice e))(hk:cd P e=some k)(hk0:k≠0)(hxs:c7 as.toList=some [x,y]) :
  cX E P env a (.call ⟨.builtin .copy,as,ts⟩) (.copy d k x y):=by
 intro W0 ρ φ m m' v w hm hE hG hs dst ty pos af gd;simp only[bM] at hm;split at hm
 ·rename_i ad dl dc val hx hy;have hall:=dH (a:=a) hxs (show evs env [x,y]=some [.slice ad dl dc,val] by simp[evs,hx,hy]) hE;have hm0:=cY (a:=a) (as:=as) rfl;generalize as.toList.map a.eval=ws at hall hm0;cases hall with
  |cons r1 rest =>
   cases rest with
   |cons r2 rest2 =>
    cases rest2;rename_i xv yv;have hf:=r1.AS;obtain⟨b,dc',rfl⟩:=hf.Qv;have hexec:∀{q:Value} {w':World},(Builtin.copy_ ts ty ⟨[.slice b dl dc',yv]⟩).run P w = .ok q w'→(execOp a.eval ⟨dst,.call ⟨.builtin .copy,as,ts⟩,ty,pos,af,gd⟩).run P w = .ok (.value q) w':=by
     intro q w' h;simp only[execOp,resolve,Zc,Zd,Za,invoke,Go.builtin,hm0,h]
    split at hm
    ·rename_i s;cases r2.Qu;have hcopy:∀{w':World} ,(match b with|some b=>(storeCells b (aq (s.data.toList.take dl))).run P w|none=>Result.ok () w) = .ok () w' →
       (Builtin.copy_ ts ty ⟨[.slice b dl dc',.string s]⟩).run P w = .ok (i0 (Nat.min s.data.toList.length dl)) w':=by
      intro w' h;have hmin:Nat.min s.size dl=Nat.min s.data.toList.length dl:=by simp
      have hcells:((s.extract 0 (Nat.min s.data.toList.length dl)).data.map fun b=>(Value.int .u8 b.toNat))=⟨aq (s.data.toList.take dl)⟩:=by
       rw[jF];congr 2;rw[List.take_eq_take_iff];show min (min _ dl) _=_;omega
      have g0:(⟨[Value.slice b dl dc',Value.string s]⟩:Array Value)[0]? = some (.slice b dl dc'):=by rw[dY];rfl
      have g1:(⟨[Value.slice b dl dc',Value.string s]⟩:Array Value)[1]? = some (.string s):=by rw[dY];rfl
      simp only[Builtin.copy_,ht,g0,g1,Zc,am hu,Za,Builtin.lenOf,Zd,bW hk,hmin,Builtin.firstCells,hcells];cases b with
      |none=>simp only at h;injection h with _ h;subst h;rfl
      |some b=>simp only at h;simp only[Zc,h,Za,Zd];rfl
     cases hb:Nat.beq (aq (s.data.toList.take dl)).length 0 with
     |true =>
      rw[hb,cond_true] at hm;rw[Zg] at hb;simp only[zI,Zf] at hm;obtain⟨rfl,rfl⟩:=hm;have h0:aq (s.data.toList.take dl)=[]:=List.eq_nil_of_length_eq_zero hb;have h0':Nat.min s.data.toList.length dl=0:=by
       simp only[aq,List.length_map,ZG] at hb;show min _ _=0;omega
      refine⟨.value (.int .i64 (Int.ofNat (Nat.min s.data.toList.length dl))),w,ρ,φ,hexec (hcopy ?_),by rw[h0'];exact .of_flat (.int _ _),fun h=>.inr trivial,Post.refl hG,hs⟩;rw[h0];cases b<;>rfl
     |false =>
      rw[hb,cond_false] at hm;have hdl:dl≠0:=by
       intro e;subst e;simp[aq] at hb
      split at hm
      ·rename_i i o sp;simp only[Zb,Zf] at hm;obtain⟨m1,h1,rfl,rfl⟩:=hm;obtain⟨b',w',rfl,k1,k2,k3⟩:=kF (P:=P) rfl hdl hf h1 hG hs (lW _);exact⟨.value (.int .i64 (Int.ofNat (Nat.min s.data.toList.length dl))),w',ρ,φ,hexec (hcopy k1),.of_flat (.int _ _),fun h=>.inr trivial,k2,k3⟩
      ·cases hm
    ·rename_i sb sl sc;have hf2:=r2.AS;obtain⟨b2,sc',rfl⟩:=hf2.Qv;have ek:(bif Nat.ble sl dl then sl else dl)=Nat.min sl dl:=by
      cases hb:Nat.ble sl dl with
      |true=>rw[Zk] at hb;show sl=min sl dl;omega
      |false =>
           have:¬sl≤dl:=fun h=>by rw[← Zk] at h;rw[h] at hb;cases hb
           show dl=min sl dl;omega
     simp only[ek] at hm;have hcopy:∀{cs:List Value} {w':World},(match b2 with|some b=>(loadCells b (Nat.min sl dl*k)).run P w|none=>Result.ok #[] w) = .ok ⟨cs⟩ w→(match b with|some b=>(storeCells b cs).run P w|none=>Result.ok () w) = .ok () w' →
       (Builtin.copy_ ts ty ⟨[.slice b dl dc',.slice b2 sl sc']⟩).run P w = .ok (i0 (Nat.min sl dl)) w':=by
      intro cs w' h1 h2;have g0:(⟨[Value.slice b dl dc',Value.slice b2 sl sc']⟩:Array Value)[0]? = some (.slice b dl dc'):=by rw[dY];rfl
      have g1:(⟨[Value.slice b dl dc',Value.slice b2 sl sc']⟩:Array Value)[1]? = some (.slice b2 sl sc'):=by rw[dY];rfl
      have hfc:(Builtin.firstCells k (Nat.min sl dl) (.slice b2 sl sc')).run P w = .ok ⟨cs⟩ w:=by
       cases b2 with
       |none=>exact h1
       |some b2=>exact h1
      simp only[Builtin.copy_,ht,g0,g1,Zc,am hu,Za,Builtin.lenOf,Zd,bW hk,hfc];cases b with
      |none=>simp only at h2;injection h2 with _ h2;subst h2;rfl
      |some b=>simp only at h2;simp only[Zc,h2,Za,Zd];rfl
     cases hb:Nat.beq (Nat.min sl dl) 0 with
     |true =>
      rw[hb,cond_true] at hm;rw[Zg] at hb;simp only[zI,Zf] at hm;obtain⟨rfl,rfl⟩:=hm;refine⟨.value (.int .i64 (Int.ofNat (Nat.min sl dl))),w,ρ,φ,hexec (hcopy (cs:=[]) ?_ ?_),by rw[hb];exact .of_flat (.int _ _),fun h=>.inr trivial,Post.refl hG,hs⟩
      ·rw[hb,Nat.zero_mul];cases b2<;>rfl
      ·cases b<;>rfl
     |false =>
      rw[hb,cond_false] at hm;have hne:Nat.min sl dl≠0:=fun e=>by rw[e] at hb;simp at hb
      have hmin:min sl dl=Nat.min sl dl:=rfl;split at hm
      ·rename_i i o sp src hsrc;simp only[Zb,Zf] at hm;obtain⟨m1,h1,rfl,rfl⟩:=hm;have hnk:Nat.min sl dl*k≠0:=Nat.mul_ne_zero hne hk0;obtain⟨r',l1,l2⟩:=fT (P:=P) hsrc hG hf2 (fun e=>qH (e▸hsrc)) (fun _ h=>hne (by show min sl dl=0;omega));obtain⟨b',w',rfl,k1,k2,k3⟩:=kF (P:=P) rfl (fun h=>hne (by show min sl dl=0;omega)) hf h1 hG hs l2;exact⟨.value (.int .i64 (Int.ofNat (Nat.min sl dl))),w',ρ,φ,hexec (hcopy l1 k1),.of_flat (.int _ _),fun h=>.inr trivial,k2,k3⟩
      ·cases hm
    ·cases hm
 ·cases hm
theorem kv(z:List Value)(n:Nat):(Builtin.zeroCells ⟨z⟩ n).toList=rows n z:=by
 by_cases h:z.length=0
 ·have hz:z=[]:=List.eq_nil_of_length_eq_zero h;subst hz;simp[Builtin.zeroCells,rows]
 ·have:=lT n (⟨z⟩:Array Value) (.inl h);unfold Builtin.zeroCells;rw[this]
theorem ym(ts:Array TypeId)(as:Array Operand){t e:TypeId}{d k:Nat}{z:List Value}{x:Opd}(ht:ts[0]? = some t)(hu:P.underlying t=some (.slice e))(hz:eM P e=some z)(hxs:c7 as.toList=some [x]) :
  cX E P env a (.call ⟨.builtin .clear,as,ts⟩) (.clear d k z x):=by
 intro W0 ρ φ m m' v w hm hE hG hs dst ty pos af gd;obtain⟨yo,hyo,hx⟩:=je hxs;have hm0:as.map a.eval=⟨[a.eval yo]⟩:=cY (by rw[hyo];rfl);simp only[bM] at hm;split at hm
 ·rename_i ad n c hq;have hf:=(al hx hq hE).AS;obtain⟨b,c',hb⟩:=hf.Qv;rw[hb] at hf hm0;have hexec:∀{q:Value} {w':World},(Builtin.clear_ ts ty ⟨[.slice b n c']⟩).run P w = .ok q w'→(execOp a.eval ⟨dst,.call ⟨.builtin .clear,as,ts⟩,ty,pos,af,gd⟩).run P w = .ok (.value q) w':=by
   intro q w' h;simp only[execOp,resolve,Zc,Zd,Za,invoke,Go.builtin,hm0,h]
  have g0:(⟨[Value.slice b n c']⟩:Array Value)[0]? = some (.slice b n c'):=by rw[dY];rfl
  cases hn:Nat.beq n 0 with
  |true =>
   rw[hn,cond_true] at hm;rw[Zg] at hn;subst hn;simp only[zI,Zf] at hm;obtain⟨rfl,rfl⟩:=hm;refine⟨.value (.tuple ⟨[]⟩),w,ρ,φ,hexec ?_,.tup .nil,fun h=>.inr trivial,Post.refl hG,hs⟩;simp only[Builtin.clear_,ht,g0,Zc,am hu,Za];cases b<;>rfl
  |false =>
   rw[hn,cond_false] at hm;have hn0:n≠0:=fun e=>by rw[e] at hn;simp at hn
   split at hm
   ·rename_i i o sp;simp only[Zb,Zf] at hm;obtain⟨m1,h1,rfl,rfl⟩:=hm;obtain⟨zv,z1,z2,z3,z4⟩:=gM (ρ:=ρ) (w:=w) hz;have hz':zv.cells=⟨z⟩:=Array.ext' z2;obtain⟨b',w',rfl,k1,k2,k3⟩:=kF (P:=P) rfl hn0 hf h1 hG hs (ov (n:=n) z3);refine⟨.value (.tuple ⟨[]⟩),w',ρ,φ,hexec ?_,.tup .nil,fun h=>.inr trivial,k2,k3⟩;obtain⟨n',rfl⟩:∃n',n=n'+1:=⟨n-1,by omega⟩;simp only[Builtin.clear_,ht,g0,Zc,am hu,Za,z1,hz',kv,k1,Zd]
   ·cases hm
 ·cases hm
end Go.AI
namespace Go.AI
variable {E:Ext}{P:Program}{W0:World}{ρ:Ren}{φ:br}{m m':Mem E.X}{w:World}{env:LV}{a:Act}
theorem sg(n:Nat):∀(r c:Nat),c≤2*n+768→Builtin.growBy n r c≤2*n+768
 |0,c,h=>h
 |r+1,c,h=>by
  unfold Builtin.growBy;split
  ·exact h
  ·exact sg n r _ (by omega)
theorem IW{n c:Nat}(h:c<n):Builtin.nextslicecap n c≤2*n+768:=by
 unfold Builtin.nextslicecap;split
 ·omega
 ·split
  ·omega
  ·exact sg n 4 c (by omega)
section
variable {ts:Array TypeId}{ty t u e:TypeId}{i:TypeInfo}{z:List Value}{base:Option Addr}{l c n:Nat}{y:Value}
theorem iz(ht:ts[0]? = some t)(hu:P.underlying t=some (.slice e))(hi:P.info? e=some i)(ht1:ts[1]? = some u)(hsrc:(∃q,P.underlying u=some (.slice q))∨P.underlying u=some .string)
  (hl:(Builtin.lenOf y).run P w = .ok n w) {src:List Value} {w':World} (hn:l+n≤c) (hf:(Builtin.firstCells i.size n y).run P w = .ok ⟨src⟩ w)
  (hst:(match base with|some b=>(storeCells (b.add (l*i.size)) src).run P w|none=>Result.ok () w) = .ok () w') :
  (Builtin.append_ ts ty ⟨[.slice base l c,y]⟩).run P w = .ok (.slice base (l+n) c) w':=by
 have g0:(⟨[Value.slice base l c,y]⟩:Array Value)[0]? = some (.slice base l c):=by rw[dY];rfl
 have g1:(⟨[Value.slice base l c,y]⟩:Array Value)[1]? = some y:=by rw[dY];rfl
 have hsz:cd P e=some i.size:=by simp[cd,hi]
 rcases hsrc with⟨q,hq⟩|hq;all_goals
  simp only[Builtin.append_,ht,ht1,g0,g1,Zc,am hu,am hq,Za,bW hsz,Zd,Zq,if_false,hl,hn,if_true,Bool.not_false,hf];cases base with
  |none=>simp only at hst;injection hst with _ h;subst h;rfl
  |some b=>simp only at hst;simp only[Zc,hst,Za,Zd]
theorem lV(ht:ts[0]? = some t)(hu:P.underlying t=some (.slice e))(hi:P.info? e=some i)(ht1:ts[1]? = some u)(hsrc:(∃q,P.underlying u=some (.slice q))∨P.underlying u=some .string)
  (hz:eM P e=some z) (hl:(Builtin.lenOf y).run P w = .ok n w) (hn:¬l+n≤c) (hr:mN (l+n) i.bytes=true) (hb:i.bytes≠0) {src old:List Value}
  (hf:(Builtin.firstCells i.size n y).run P { w with drawn:=w.drawn+1 } = .ok ⟨src⟩ { w with drawn:=w.drawn+1 })
  (ho:(Builtin.firstCells i.size l (.slice base l c)).run P { w with drawn:=w.drawn+1 } = .ok ⟨old⟩ { w with drawn:=w.drawn+1 }) :
  ∃s rest,rest.length=s*i.size∧(Builtin.append_ ts ty ⟨[.slice base l c,y]⟩).run P w = .ok (.slice (some ⟨w.heap.size,0,none⟩) (l+n) (l+n+s)) { w with drawn:=w.drawn+1,heap:=w.heap.push (.cells ⟨(old++src)++rest⟩ e) }:=by
 have g0:(⟨[Value.slice base l c,y]⟩:Array Value)[0]? = some (.slice base l c):=by rw[dY];rfl
 have g1:(⟨[Value.slice base l c,y]⟩:Array Value)[1]? = some y:=by rw[dY];rfl
 have hsz:cd P e=some i.size:=by simp[cd,hi]
 have hnf:¬(Question.appendCap (l+n) c e).forced=true:=by simp[Question.forced]
 have hcap:l+n≤(Question.appendCap (l+n) c e).cut (w.tape w.drawn (Question.appendCap (l+n) c e)):=by simp[Question.cut]
 generalize hC:(Question.appendCap (l+n) c e).cut (w.tape w.drawn (Question.appendCap (l+n) c e))=C at hcap;unfold mN at hr;rw[Zk] at hr;have c2:¬(Builtin.nextslicecap (l+n) c*i.bytes>2 ^ 48):=by
  have h1:=IW (n:=l+n) (c:=c) (by omega);generalize Builtin.nextslicecap (l+n) c=N at h1 ⊢;have h0:N≤2*(l+n+1000):=(fun(a b c d:Nat) (h:a≤2*(b+c)+d) (e:d≤2000)=>by omega:∀a b c d:Nat,a≤2*(b+c)+d→d≤2000→a≤2*(b+c+1000)) N l n 768 h1 (by decide);have h2:N*i.bytes≤(2*(l+n+1000))*i.bytes:=Nat.mul_le_mul_right i.bytes h0;have h3:(2*(l+n+1000))*i.bytes=2*((l+n+1000)*i.bytes):=Nat.mul_assoc _ _ _;omega
 obtain⟨zv,z1,z2,z3,z4⟩:=gM (ρ:=fun _=>none) (w:={ w with drawn:=w.drawn+1 }) hz;have hz':zv.cells=⟨z⟩:=Array.ext' z2;refine⟨C-(l+n),rows (C-(l+n)) z,?_,?_⟩
 ·rw[kG];rw[hsz] at z4;injection z4 with z4;rw[z4]
 ·have c1':¬(((l+n:Nat):Int)>IntKind.i64.max∧(False∨i.bytes=0)):=by
   rintro⟨_,h|h⟩
   ·exact h
   ·exact hb h
  have e1:(⟨old⟩:Array Value)++⟨src⟩++Builtin.zeroCells ⟨z⟩ (C-(l+n))=⟨(old++src)++rows (C-(l+n)) z⟩:=by
   apply Array.ext';rw[Array.toList_append,Array.toList_append,kv]
  rcases hsrc with⟨q,hq⟩|hq;all_goals
   simp only[Builtin.append_,ht,ht1,g0,g1,Zc,am hu,am hq,Za,bW hsz,Zd,Zq,if_false,hl,hn,ki hi,c1',c2,run_choose,hnf,hC,Go.run_askRoom,Bool.not_false,if_true,ho,hf,z1,hz',c9,e1];rw[show l+n+(C-(l+n))=C by omega]
end
theorem Good.swap{V V':View E}{n:Nat}{w':World}(g:Good (E:=E) W0 ρ φ V n w){i b s':Nat}{o o':AObj E.X}(hi:V i=some o)
  (hsz:w'.heap.size=w.heap.size) (ho:w'.os=w.os) (hp:w'.output=w.output) (hold:∀c,¬(φ i).1 c→w'.heap[c]? = w.heap[c]?)
  (hrel:ObjR E (ρ.put n (b,s')) o' b s' (φ i).1 (φ i).2 w')
  (hV:∀j oj,V' j=some oj→(j=n∧oj=o')∨(j≠n∧j≠i∧V j=some oj)) :
  Post W0 ρ φ V n w (ρ.put n (b,s')) (fun j=>if j=n then φ i else φ j) V' (n+1) w':=by
 have hle:=jU (ρ:=ρ) (x:=(b,s')) (g.dom n (Ze _));have hV':∀j oj,V' j=some oj→∃k ok,V k=some ok∧(if j=n then φ i else φ j)=φ k∧(j=n→k=i)∧(j≠n→k=j):=by
  intro j oj hj;rcases hV j oj hj with⟨rfl,rfl⟩|⟨h1,h2,h3⟩
  ·exact⟨i,o,hi,by simp,fun _=>rfl,fun h=>absurd rfl h⟩
  ·exact⟨j,oj,h3,by simp[h1],fun h=>absurd h h1,fun _=>rfl⟩
 refine⟨⟨?_,?_,?_,?_,?_,?_,by rw[hsz];exact g.size,?_,by rw[ho];exact g.os,by rw[hp];exact g.out⟩,hle,by omega,by omega,fun c _ hF=>hold c (hF i o hi),?_,?_,?_,fun j hj=>by simp[Ren.put,show j≠n by omega]⟩
 ·intro j hj;have:j≠n:=by omega
  simp only[Ren.put,this,if_false];exact g.dom j (by omega)
 ·intro j oj hj;rcases hV j oj hj with⟨rfl,rfl⟩|⟨h1,h2,h3⟩
  ·exact⟨b,s',by simp[Ren.put],by simpa using hrel⟩
  ·obtain⟨b2,s2,hb,hr⟩:=g.rel j oj h3;refine⟨b2,s2,hle _ _ hb,?_⟩;simp only[h1,if_false];exact hr.frame hle fun c hc=>hold c fun hF=>g.dis i j o oj c hi h3 (fun e=>h2 e.symm) hF hc
 ·intro j k oj ok c hj hk hne hF hD;obtain⟨j',oj',h1,h2,h3,h4⟩:=hV' j oj hj;obtain⟨k',ok',h5,h6,h7,h8⟩:=hV' k ok hk;simp only[h2] at hF;simp only[h6] at hD;refine g.dis j' k' oj' ok' c h1 h5 ?_ hF hD;intro e;by_cases ej:j=n
  ·by_cases ek:k=n
   ·exact hne (ej.trans ek.symm)
   ·rcases hV k ok hk with⟨h,_⟩|⟨_,h,_⟩
    ·exact ek h
    ·exact h (by rw[← h8 ek,← e,h3 ej])
  ·by_cases ek:k=n
   ·rcases hV j oj hj with⟨h,_⟩|⟨_,h,_⟩
    ·exact ej h
    ·exact h (by rw[← h4 ej,e,h7 ek])
   ·exact hne (by rw[← h4 ej,e,h8 ek])
 ·intro j oj c hj hF;obtain⟨j',oj',h1,h2,_,_⟩:=hV' j oj hj;simp only[h2] at hF ⊢;exact g.sub j' oj' c h1 hF
 ·intro j oj c hj hD;obtain⟨j',oj',h1,h2,_,_⟩:=hV' j oj hj;simp only[h2] at hD;rw[hsz];exact g.lts j' oj' c h1 hD
 ·intro j oj c hj hF;obtain⟨j',oj',h1,h2,_,_⟩:=hV' j oj hj;simp only[h2] at hF;exact g.frs j' oj' c h1 hF
 ·intro c hc;rw[hold c fun hF=>by have:=g.frs i o c hi hF;omega];exact g.base c hc
 ·intro j oj c hj hF;obtain⟨j',oj',h1,h2,_,_⟩:=hV' j oj hj;simp only[h2] at hF;exact .inr ⟨j',oj',h1,hF⟩
 ·intro j oj c hj hD;obtain⟨j',oj',h1,h2,_,_⟩:=hV' j oj hj;simp only[h2] at hD;exact .inr ⟨j',oj',h1,hD⟩
 ·intro j oj hj;rcases hV j oj hj with⟨h,_⟩|⟨_,_,h⟩
  ·left;omega
  ·exact .inr ⟨oj,h⟩
theorem mJ{e n:Nat}{y y':Value}{src:List Value}(h:source m e y=some (n,src))(hy:VR ρ y y') :
  (∀w:World,(Builtin.lenOf y').run P w = .ok n w)∧(n=0→src=[])∧∀(w:World),Good (E:=E) W0 ρ φ m.get m.next w→∃src',(Builtin.firstCells e n y').run P w = .ok ⟨src'⟩ w∧All2 (FR ρ) src src':=by
 unfold source at h;split at h
 ·rename_i s;simp only[zI,Zf] at h;obtain⟨rfl,rfl⟩:=h;cases hy.Qu;refine⟨fun w=>by simp[Builtin.lenOf],fun h=>?_,fun w _=>⟨aq s.data.toList,?_,lW _⟩⟩
  ·have:s.data.toList=[]:=List.eq_nil_of_length_eq_zero h;rw[this];rfl
  ·simp only[Builtin.firstCells,Zd];rw[jF,List.take_length]
 ·rename_i ad k c;simp only[Zb,Zf] at h;obtain⟨cs,hcs,rfl,rfl⟩:=h;have hf:=hy.AS;obtain⟨b,c',rfl⟩:=hf.Qv;refine⟨fun w=>rfl,fun h=>?_,fun w g=>?_⟩
  ·subst h;simp only[Mem.loads,Nat.zero_mul,Nat.beq_refl,cond_true,zI] at hcs;exact hcs.symm
  ·obtain⟨r',l1,l2⟩:=fT (P:=P) hcs g hf (fun e=>qH (e▸hcs)) (fun h e=>h (by rw[e,Nat.zero_mul]));refine⟨r',?_,l2⟩;cases b with
   |none=>exact l1
   |some b=>exact l1
 ·cases h
theorem gQ{V:View E}{n:Nat}(g:Good (E:=E) W0 ρ φ V n w):Good (E:=E) W0 ρ φ V n { w with drawn:=w.drawn+1 }:=g.world rfl rfl rfl
theorem jo{cs cs' rest:List Value}{s ez:Nat}(g:Good (E:=E) W0 ρ φ m.get m.next w)(hs:m.Sep)(e:TypeId)(hc:All2 (FR ρ) cs cs')(hr:rest.length=s*ez) :
  ∃ρ' φ',ρ' m.next=some (w.heap.size,s)∧Post W0 ρ φ m.get m.next w ρ' φ' (m.new true (.grown ez e cs)).get (m.new true (.grown ez e cs)).next { w with drawn:=w.drawn+1,heap:=w.heap.push (.cells ⟨cs'++rest⟩ e) }∧(m.new true (.grown ez e cs)).Sep :=
 oB (heap:=true) g hs e hc hr (0,0) (iW _) rfl rfl rfl
theorem vJ{k l c:Nat}{b:Option Addr}{w:World}:(Builtin.firstCells k l (.slice b l c)).run P w=(match b with|some b=>(loadCells b (l*k)).run P w|none=>Result.ok #[] w):=by
 cases b<;>rfl
theorem oE(ts:Array TypeId)(as:Array Operand){t u e:TypeId}{i:TypeInfo}{d:Nat}{z:List Value}{x y:Opd}(ht:ts[0]? = some t)(ht1:ts[1]? = some u)(hu:P.underlying t=some (.slice e))(hsrc:(∃q,P.underlying u=some (.slice q))∨P.underlying u=some .string)(hi:P.info? e=some i)(hz:eM P e=some z)
  (hb0:i.bytes≠0) (_hs0:i.size≠0) (hxs:c7 as.toList=some [x,y]) :
  cX E P env a (.call ⟨.builtin .append,as,ts⟩) (.append d i.size i.bytes e x y):=by
 intro W0 ρ φ m m' v w hm hE hG hs dst ty pos af gd;simp only[bM] at hm;split at hm
 ·rename_i xv yv hx hy;have hall:=dH (a:=a) hxs (show evs env [x,y]=some [xv,yv] by simp[evs,hx,hy]) hE;have hm0:=cY (a:=a) (as:=as) rfl;generalize as.toList.map a.eval=ws at hall hm0;cases hall with
  |cons r1 rest =>
   cases rest with
   |cons r2 rest2 =>
    cases rest2;rename_i xc yc;have hexec:∀{q:Value} {w':World},(Builtin.append_ ts ty ⟨[xc,yc]⟩).run P w = .ok q w'→(execOp a.eval ⟨dst,.call ⟨.builtin .append,as,ts⟩,ty,pos,af,gd⟩).run P w = .ok (.value q) w':=by
     intro q w' h;simp only[execOp,resolve,Zc,Zd,Za,invoke,Go.builtin,hm0,h]
    unfold dJ at hm;split at hm
    ·-- a nil slice
     rename_i l cp n src hsr;obtain⟨s1,s2,s3⟩:=mJ (P:=P) (ρ:=ρ) (W0:=W0) (φ:=φ) hsr r2;have hf:=r1.AS;cases hf;cases hb:Nat.ble (l+n) cp with
     |true =>
      rw[hb,cond_true] at hm;rw[Zk] at hb;simp only[zI,Zf] at hm;obtain⟨rfl,rfl⟩:=hm;obtain⟨src',k1,k2⟩:=s3 w hG;exact⟨.value (.slice none (l+n) cp),w,ρ,φ,hexec (iz ht hu hi ht1 hsrc (s1 w) hb k1 rfl),.of_flat (.nils _ _),fun h=>.inr trivial,Post.refl hG,hs⟩
     |false =>
      rw[hb,cond_false] at hm;have hnb:¬l+n≤cp:=fun h=>by rw[← Zk] at h;rw[h] at hb;cases hb
      cases hcnd:(Nat.beq l 0&&mN (l+n) i.bytes) with
      |false=>rw[hcnd] at hm;cases hm
      |true =>
       rw[hcnd,cond_true] at hm;simp only[Zi,Zg] at hcnd;obtain⟨rfl,hro⟩:=hcnd;simp only[zI,Zf] at hm;obtain⟨rfl,rfl⟩:=hm;obtain⟨src',k1,k2⟩:=s3 _ (gQ hG);obtain⟨s,rest,q1,q2⟩:=lV (ty:=ty) (base:=none) ht hu hi ht1 hsrc hz (s1 w) hnb hro hb0 k1 (old:=[]) rfl;obtain⟨ρ',φ',p1,p2,p3⟩:=jo (rest:=rest) hG hs e k2 q1;refine⟨_,_,ρ',φ',hexec q2,.of_flat (.slc p1),fun h=>.inr trivial,?_,p3⟩;simpa using p2
    ·rename_i ii o sp l cp n src hsr;obtain⟨s1,s2,s3⟩:=mJ (P:=P) (ρ:=ρ) (W0:=W0) (φ:=φ) hsr r2;split at hm
     ·rename_i ob hob
      -- the place of the slice
      have hf:=r1.AS;obtain⟨b,s,hbs,hobj⟩:=hG.rel ii ob hob;simp only at hm;generalize hex:mg sp ob=exact at hm;generalize hmi:jC i.size e o cp l n src sp ob=mine at hm;cases hcnd:(exact||mine) with
      |false=>rw[hcnd] at hm;cases hm
      |true =>
       rw[hcnd,cond_true] at hm
       -- what stands for the slice
       obtain⟨cp',hxc,hcp,hex'⟩:∃cp',xc = .slice (some ⟨b,o,none⟩) l cp'∧cp≤cp'∧(exact=true→cp'=cp)∧(exact=false→sp=none∧cp'=cp+s):=by
        cases hf with
        |slc hr =>
         rw[hbs] at hr;injection hr with hr;injection hr with e1 e2;subst e1;subst e2;refine⟨_,rfl,by omega,fun he=>?_,fun _=>⟨rfl,rfl⟩⟩;cases ob with
         |cells c=>obtain⟨h0,_⟩:=hobj;omega
         |_=>rw[he] at hex;simp[mg] at hex
        |slx hr =>
         rw[hbs] at hr;injection hr with hr;injection hr with e1 e2;subst e1;subst e2;refine⟨_,rfl,Ze _,fun _=>rfl,fun he=>?_⟩;subst he;simp only[Bool.false_or] at hcnd;subst hcnd;simp[jC] at hmi
        |slz hr =>
         exfalso;simp only[Bool.or_eq_true] at hcnd;rcases hcnd with h|h
         ·rw[h] at hex;simp[mg] at hex
         ·rw[h] at hmi;simp[jC] at hmi
       subst hxc;have hvr:∀k,(cp'=cp∨sp=none∧cp'=cp+s)→FR ρ (.slice (some ⟨ii,o,sp⟩) k cp) (.slice (some ⟨b,o,none⟩) k cp'):=by
        intro k hk;cases hf with
        |slc hr=>exact .slc hr
        |slx hr=>exact .slx hr
        |slz hr =>
         simp only[Bool.or_eq_true] at hcnd;rcases hcnd with h|h
         ·rw[h] at hex;simp[mg] at hex
         ·rw[h] at hmi;simp[jC] at hmi
       have hcase:cp'=cp∨sp=none∧cp'=cp+s:=by
        cases exact with
        |true=>exact .inl (hex'.1 rfl)
        |false=>exact .inr (hex'.2 rfl)
       cases hb:Nat.ble (l+n) cp with
       |true =>
        rw[hb,cond_true] at hm;rw[Zk] at hb;obtain⟨src',k1,k2⟩:=s3 w hG;cases hn:Nat.beq n 0 with
        |true =>
         rw[hn,cond_true] at hm;rw[Zg] at hn;simp only[zI,Zf] at hm;obtain⟨rfl,rfl⟩:=hm;have:=s2 hn;subst this;cases k2;exact⟨.value (.slice (some ⟨b,o,none⟩) (l+n) cp'),w,ρ,φ,hexec (iz ht hu hi ht1 hsrc (s1 w) (by omega) k1 rfl),.of_flat (hvr _ hcase),fun h=>.inr trivial,Post.refl hG,hs⟩
        |false =>
         rw[hn,cond_false] at hm;simp only[Zb,Zf] at hm;obtain⟨m1,h1,rfl,rfl⟩:=hm;obtain⟨w',q1,q2,q3⟩:=im (P:=P) h1 hG hs (.ptr hbs) k2;refine⟨.value (.slice (some ⟨b,o,none⟩) (l+n) cp'),w',ρ,φ,hexec (iz ht hu hi ht1 hsrc (s1 w) (by omega) k1 ?_),.of_flat (hvr _ hcase),fun h=>.inr trivial,q2,q3⟩;simp only[du];exact q1
       |false =>
        rw[hb,cond_false] at hm;have hnb:¬l+n≤cp:=fun h=>by rw[← Zk] at h;rw[h] at hb;cases hb
        cases hro:mN (l+n) i.bytes with
        |false=>rw[hro] at hm;cases hm
        |true =>
         rw[hro,cond_true] at hm;split at hm
         ·rename_i old hold;have hfold:∀w:World,Good (E:=E) W0 ρ φ m.get m.next w→∃old',(Builtin.firstCells i.size l (.slice (some ⟨b,o,none⟩) l cp')).run P w = .ok ⟨old'⟩ w∧All2 (FR ρ) old old':=by
           intro w g;obtain⟨r',l1,l2⟩:=fT (P:=P) (l:=l) (c:=cp) (x':=some ⟨b,o,none⟩) (l':=l) (c':=cp+s) hold g (.slc hbs) (by simp) (fun h e=>h (by rw[e,Nat.zero_mul]));exact⟨r',by rw[vJ];exact l1,l2⟩
          cases exact with
          |true =>
           have:=hex'.1 rfl;subst this;simp only[cond_true,zI,Zf] at hm;obtain⟨rfl,rfl⟩:=hm;obtain⟨src',k1,k2⟩:=s3 _ (gQ hG);obtain⟨old',o1,o2⟩:=hfold _ (gQ hG);obtain⟨s',rest,q1,q2⟩:=lV (ty:=ty) ht hu hi ht1 hsrc hz (s1 w) hnb hro hb0 k1 o1;obtain⟨ρ',φ',p1,p2,p3⟩:=jo (rest:=rest) hG hs e (o2.append k2) q1;exact⟨_,_,ρ',φ',hexec q2,.of_flat (.slc p1),fun h=>.inr trivial,p2,p3⟩
          |false =>
           obtain⟨hsp,hcp'⟩:=hex'.2 rfl;subst hsp;subst hcp';simp only[Bool.false_or] at hcnd;subst hcnd;simp only[cond_false,zI,Zf] at hm;obtain⟨rfl,rfl⟩:=hm;cases ob with
           |typed t cs=>simp[jC] at hmi
           |grown e' t' cs =>
            simp only[jC,Zi,Zg,Zk] at hmi;obtain⟨⟨⟨⟨⟨m0,m1⟩,m2⟩,m3⟩,m4⟩,m5⟩:=hmi;subst m0;subst m1;subst m2;have hks:(m.kill ii).Sep:=Mem.v ii hs;have hksub:=Mem.u m ii;by_cases hroom:l+n≤cp+s
            ·-- the model finds room
             obtain⟨src',k1,k2⟩:=s3 w hG;obtain⟨hF,hD,cs',e2,f2,c1,c2,c3,c4,c5⟩:=hobj;have hsl:=k2.length;have hle:l*i.size+src'.length≤cs'.size:=by
              rw[c2,m3,← hsl,m4,← Nat.add_mul,← Nat.add_mul];exact Nat.mul_le_mul_right _ hroom
             have h1:∀v∈src',v.oneCell'=true:=by
              clear hle hsl k1 m4 s3 hsr s2 s1 hnb hroom hro hb;induction k2 with
              |nil=>intro v hv;cases hv
              |cons hf _ ih=>intro v hv;rcases List.mem_cons.1 hv with rfl|hv;exact hf.one;exact ih v hv
             have hst:=jI (P:=P) (off:=l*i.size) c1 c4 h1 hle;have hgood:=hG.part (V':=(m.kill ii).get) (n':=m.next) (fun j oj h=>(hksub j oj h).1) (Ze _);have hnn:=Mem.j (m:=m.kill ii) hgood;have hold2:old=cs.take (l*i.size):=by
              unfold Mem.loads at hold;cases hz0:Nat.beq (l*i.size) 0 with
              |true =>
               rw[hz0,cond_true,zI] at hold;rw[Zg] at hz0;rw[← hold,hz0];rfl
              |false =>
               rw[hz0,cond_false] at hold;simp only[Mem.load,hob,bH,bg,List.drop_zero] at hold;cases hq:Nat.beq (cs.take (l*i.size)).length (l*i.size) with
               |false=>rw[hq] at hold;cases hold
               |true=>rw[hq,cond_true,zI] at hold;exact hold.symm
             have hlcs:l*i.size≤cs.length:=by rw[m3];exact Nat.mul_le_mul_right _ m5
             have hlold:old.length=l*i.size:=by rw[hold2,ZG];omega
             refine⟨.value (.slice (some ⟨b,0,none⟩) (l+n) (cp+s)),et w b (.cells ⟨aT cs'.toList (l*i.size) src'⟩ e2 f2),ρ.put m.next (b,cp+s-(l+n)),(fun j=>if j=m.next then φ ii else φ j),hexec (iz ht hu hi ht1 hsrc (s1 w) hroom k1 (by have:=hst;simp only[du,ZB];exact this)),?_,fun h=>.inr trivial,?_,?_⟩
             ·have:=FR.slc (ρ:=ρ.put m.next (b,cp+s-(l+n))) (i:=m.next) (b:=b) (s:=cp+s-(l+n)) (o:=0) (l:=l+n) (c:=l+n) (by simp[Ren.put]);rw[show l+n+(cp+s-(l+n))=cp+s by omega] at this;exact .of_flat this
             ·rw[Mem.p];show Post W0 ρ φ m.get m.next w _ _ _ (m.next+1) _;refine hG.swap (o':=.grown i.size t' (old++src)) hob (by unfold et;simp) rfl rfl (fun c hc=>jr b c _ fun e=>hc (e▸(hF b).2 rfl)) ?_ ?_
              ·have hsz2:(⟨aT cs'.toList (l*i.size) src'⟩:Array Value).size=cs'.size:=by
                show(aT cs'.toList (l*i.size) src').length=_;rw[iC (by simpa using hle)];simp
               refine⟨hF,hD,_,_,_,fU _ c1,?_,?_,by rw[hsz2];exact c4,c5⟩
               ·rw[hsz2,c2,Zw,hlold,m3,m4,← Nat.add_mul,← Nat.add_mul,← Nat.add_mul];congr 1;omega
               ·have hle2:=jU (ρ:=ρ) (x:=(b,cp+s-(l+n))) (hG.dom m.next (Ze _));have e3:List.take (old++src).length (aT cs'.toList (l*i.size) src')=cs'.toList.take (l*i.size)++src':=by
                 rw[ch _ _ _ (by simpa using hle)];rw[List.take_left'];rw[Zw,Zw,hlold,hsl,ZG,Array.length_toList];omega
                show All2 _ (old++src) (List.take (old++src).length (aT cs'.toList (l*i.size) src'));rw[e3];have e4:All2 (FR ρ) old (cs'.toList.take (l*i.size)):=by
                 have:=c3.take (l*i.size);rw[List.take_take,Nat.min_eq_left hlcs] at this;rw[hold2];exact this
                exact(e4.append k2).mono fun _ _=>FR.mono hle2
              ·intro j oj hj;rw[Mem.k hnn.1] at hj;simp only[View.put] at hj;split at hj
               ·rename_i he;injection hj with hj;exact .inl ⟨he,hj.symm⟩
               ·rename_i he;exact .inr ⟨he,(hksub j oj hj).2,(hksub j oj hj).1⟩
             ·exact Mem.q hks hnn.1 hnn.2
            ·-- the model makes a new row
             obtain⟨src',k1,k2⟩:=s3 _ (gQ hG);obtain⟨old',o1,o2⟩:=hfold _ (gQ hG);obtain⟨s',rest,q1,q2⟩:=lV (ty:=ty) ht hu hi ht1 hsrc hz (s1 w) hroom hro hb0 k1 o1;have hgood:=hG.part (V':=(m.kill ii).get) (n':=m.next) (fun j oj h=>(hksub j oj h).1) (Ze _);obtain⟨ρ',φ',p1,p2,p3⟩:=jo (m:=m.kill ii) (rest:=rest) hgood hks _ (o2.append k2) q1;refine⟨_,_,ρ',φ',hexec q2,.of_flat (.slc p1),fun h=>.inr trivial,?_,p3⟩;exact(Post.part (Post.refl hG) (fun j oj h=>(hksub j oj h).1) (Ze _)).trans p2
           |cells c=>simp[mg] at hex
           |ro k c=>simp[jC] at hmi
           |map es c=>simp[jC] at hmi
           |ext x=>simp[jC] at hmi
         ·cases hm
     ·cases hm
    ·cases hm
 ·cases hm
end Go.AI
namespace Go.AI
section
variable {E:Ext}{P:Program}{W0:World}{ρ:Ren}{φ:br}{m m':Mem E.X}{w:World}{env:LV}{a:Act}
theorem BQ{t:TypeId}{cs cs':List Value}{heap:Bool}(g:Good (E:=E) W0 ρ φ m.get m.next w)(hs:m.Sep)(hc:All2 (FR ρ) cs cs') :
  ∃ρ' φ',ρ' m.next=some (w.heap.size,0)∧Post W0 ρ φ m.get m.next w ρ' φ' (m.new heap (.typed t cs)).get (m.new heap (.typed t cs)).next { w with heap:=w.heap.push (.cells ⟨cs'⟩ t) }∧(m.new heap (.typed t cs)).Sep:=by
 have hle:=jU (ρ:=ρ) (x:=(w.heap.size,0)) (g.dom m.next (Ze _));obtain⟨k1,k2⟩:=mw (o:=.typed t cs) (s:=0) (heap:=heap) (c:=.cells ⟨cs'⟩ t) (w':={ w with heap:=w.heap.push (.cells ⟨cs'⟩ t) }) g hs rfl rfl rfl
  ⟨rfl,fun _=>Iff.rfl,fun _=>Iff.rfl,⟨cs'⟩,t,(0,0),by simp,hc.mono fun _ _=>FR.mono hle,iW _,rfl⟩
 exact⟨_,_,by simp[Ren.put],k1,k2⟩
theorem CR(t:TypeId){d:Nat}{hp:Bool}{z:List Value}(hz:eM P t=some z):cX E P env a (.alloc t) (.newt d hp t z):=by
 intro W0 ρ φ m m' v w hm hE hG hs dst ty pos af gd;simp only[bM,zI,Zf] at hm;obtain⟨rfl,rfl⟩:=hm;obtain⟨zv,z1,z2,z3,z4⟩:=gM (ρ:=ρ) (w:=w) hz;have hz':zv.cells=⟨z⟩:=Array.ext' z2;obtain⟨ρ',φ',h1,h2,h3⟩:=BQ (heap:=hp) (t:=t) hG hs z3;refine⟨.value (.pointer (some ⟨w.heap.size,0,none⟩)),{ w with heap:=w.heap.push (.cells ⟨z⟩ t) },ρ',φ',?_,.of_flat (.ptr h1),fun h=>.inr trivial,h2,h3⟩;simp only[execOp,Instr.alloc,newVar,Zc,z1,Za,Zd,hz',c9]
theorem rv{b:Nat}{cs:Array Value}{e:TypeId}{f:Nat×Nat}(h:w.heap[b]? = some (.cells cs e f)):w.shape? b=some (e,cs.size):=by
 simp[World.shape?,h]
theorem D9(s t u:TypeId)(x:Operand){j:TypeInfo}{d:Nat}{y:Opd}(hs:P.underlying s=some (.pointer u))(ht:P.underlying t=some .unsafePointer)(hu:P.info? u=some j)(hj:j.size≠0)(hx:aS x=some y) :
  cX E P env a (.convert s t x) (.tou d u y):=by
 intro W0 ρ φ m m' v w hm hE hG hsp dst ty pos af gd;simp only[bM] at hm;split at hm
 ·rename_i i hv;split at hm
  ·rename_i t' c cs hob;cases hb:Nat.beq t' u with
   |false=>rw[hb] at hm;cases hm
   |true =>
    rw[hb,cond_true] at hm;rw[Zg] at hb;subst hb;simp only[zI,Zf] at hm;obtain⟨rfl,rfl⟩:=hm;have hp:=al hx hv hE;obtain⟨b,s',hbs,hobj⟩:=hG.rel i _ hob;obtain⟨h0,_,_,cs',e,f,h4,h5,h6,h7⟩:=hobj;subst h0;subst h7;refine⟨.value (a.eval x),w,ρ,φ,?_,hp,fun h=>.inr trivial,Post.refl hG,hsp⟩;generalize hq:a.eval x=q at hp;cases hp.By with
    |ptr hr =>
     rw[hbs] at hr;injection hr with hr;injection hr with e1 e2;subst e1;have hl:=h5.length;have hsz:0<cs'.size:=by simp at hl;omega
     have:=Lib.run_to_unsafe (P:=P) w (src:=s) (dst:=t) (t:=e) ⟨b,0,none⟩ hs ht hu hj (rv h4) hsz;simp only[execOp,Zc,hq,this,Za,Zd]
  ·cases hm
 ·cases hm
theorem yb(s t u:TypeId)(x:Operand){j:TypeInfo}{d:Nat}{y:Opd}(hs:P.underlying s=some .unsafePointer)(ht:P.underlying t=some (.pointer u))(hu:P.info? u=some j)
  (hlies:liesAt P P.depth u (j.size / P.cellsOf u) 0 u 1=true) (hx:aS x=some y) :
  cX E P env a (.convert s t x) (.fromu d u j.size y):=by
 intro W0 ρ φ m m' v w hm hE hG hsp dst ty pos af gd;simp only[bM] at hm;split at hm
 ·rename_i i hv;split at hm
  ·rename_i t' cs hob;cases hb:(Nat.beq t' u&&Nat.beq cs.length j.size) with
   |false=>rw[hb] at hm;cases hm
   |true =>
    rw[hb,cond_true] at hm;simp only[Zi,Zg] at hb;obtain⟨hb,hn⟩:=hb;subst hb;simp only[zI,Zf] at hm;obtain⟨rfl,rfl⟩:=hm;have hp:=al hx hv hE;obtain⟨b,s',hbs,hobj⟩:=hG.rel i _ hob;obtain⟨h0,_,_,cs',e,f,h4,h5,h6,h7⟩:=hobj;subst h0;subst h7;refine⟨.value (a.eval x),w,ρ,φ,?_,hp,fun h=>.inr trivial,Post.refl hG,hsp⟩;generalize hq:a.eval x=q at hp;cases hp.By with
    |ptr hr =>
     rw[hbs] at hr;injection hr with hr;injection hr with e1 e2;subst e1;have hl:=h5.length;have hsz:cs'.size=j.size:=by simp at hl;omega
     have:=Lib.run_from_unsafe (P:=P) w (src:=s) (dst:=t) (u:=e) ⟨b,0,none⟩ hs ht hu (rv h4) (by rw[hsz];exact hlies);simp only[execOp,Zc,hq,this,Za,Zd]
  ·cases hm
 ·cases hm
theorem FS(ts:Array TypeId)(as:Array Operand){d:Nat}{x:Opd}(hxs:c7 as.toList=some [x]) :
  cX E P env a (.call ⟨.builtin .unsafeSliceData,as,ts⟩) (.usd d x):=by
 intro W0 ρ φ m m' v w hm hE hG hsp dst ty pos af gd;simp only[bM] at hm;have key:∀xv,evo env x=some xv→∃xc,VR ρ xv xc∧∀(q:Value),(Builtin.unsafeSliceData_ ts ty #[xc]).run P w = .ok q w→(execOp a.eval ⟨dst,.call ⟨.builtin .unsafeSliceData,as,ts⟩,ty,pos,af,gd⟩).run P w = .ok (.value q) w:=by
  intro xv hx;have hall:=dH (a:=a) hxs (show evs env [x]=some [xv] by simp[evs,hx]) hE;have hm0:=cY (a:=a) (as:=as) rfl;generalize as.toList.map a.eval=ws at hall hm0;cases hall with
  |cons r1 rest =>
   cases rest;rename_i xc;refine⟨xc,r1,fun q h=>?_⟩;simp only[execOp,resolve,Zc,Zd,Za,invoke,Go.builtin,hm0,h]
 split at hm
 ·rename_i l c hx;simp only[zI,Zf] at hm;obtain⟨rfl,rfl⟩:=hm;obtain⟨xc,h1,h2⟩:=key _ hx;cases h1.AS;exact⟨_,w,ρ,φ,h2 (.pointer none) rfl,.of_flat .nilp,fun h=>.inr trivial,Post.refl hG,hsp⟩
 ·rename_i i o l c hx;cases hc:Nat.beq c 0 with
  |true=>rw[hc] at hm;cases hm
  |false =>
   rw[hc,cond_false] at hm;simp only[zI,Zf] at hm;obtain⟨rfl,rfl⟩:=hm;rw[← Zl,Zg] at hc;obtain⟨xc,h1,h2⟩:=key _ hx;cases h1.AS with
   |slc hr =>
    refine⟨_,w,ρ,φ,h2 (.pointer (some ⟨_,o,none⟩)) ?_,.of_flat (.ptr hr),fun h=>.inr trivial,Post.refl hG,hsp⟩;rename_i b s;exact Lib.run_unsafeSliceData_row w ts ty _ _ _ (by omega)
 ·cases hm
theorem Good.Ra{V V':View E}{n i:Nat}{o:AObj E.X}{w':World}(g:Good W0 ρ φ V n w)(hi:V i=some o)(hV:∀j oj,V' j=some oj→V j=some oj∧j≠i)
  (hsz:w'.heap.size=w.heap.size) (ho:w'.os=w.os) (hp:w'.output=w.output) (hold:∀c,¬(φ i).1 c→w'.heap[c]? = w.heap[c]?):Post W0 ρ φ V n w ρ φ V' n w' where
 good:=by
  refine⟨g.dom,?_,fun i j oi oj b a c=>g.dis i j oi oj b (hV _ _ a).1 (hV _ _ c).1,fun i o b a=>g.sub i o b (hV _ _ a).1,fun i o b a c=>by rw[hsz];exact g.lts i o b (hV _ _ a).1 c,fun i o b a=>g.frs i o b (hV _ _ a).1,by rw[hsz];exact g.size,?_,ho.trans g.os,hp.trans g.out⟩
  ·intro j oj hj;obtain⟨h1,h2⟩:=hV j oj hj;obtain⟨b,s,h3,h4⟩:=g.rel j oj h1;exact⟨b,s,h3,h4.frame (Ren.le_refl ρ) fun c hc=>hold c fun hF=>g.dis i j o oj c hi h1 (fun e=>h2 e.symm) hF hc⟩
  ·intro b hb;rw[← g.base b hb];refine hold b fun hF=>?_
   have:=g.frs i o b hi hF;omega
 le:=Ren.le_refl ρ
 nle:=Ze n
 sz:=by rw[hsz];exact Ze _
 keep:=fun c _ hF=>hold c (hF i o hi)
 fF:=fun j oj c hj hc=>.inr ⟨j,oj,(hV j oj hj).1,hc⟩
 fD:=fun j oj c hj hc=>.inr ⟨j,oj,(hV j oj hj).1,hc⟩
 ids:=fun j oj hj=>.inr ⟨oj,(hV j oj hj).1⟩
 old:=fun _ _=>rfl
theorem vZ{R:Value→Value→Prop}:∀{l l':List Value},All2 R l l'→∀{j:Nat} {x:Value},l[j]? = some x→∃y,l'[j]? = some y∧R x y
 |_,_,.nil,j,x,h=>by simp at h
 |_,_,.cons (b:=b) h1 h2,0,x,h=>by
  simp only[ZH,zI] at h;subst h;exact⟨b,rfl,h1⟩
 |_,_,.cons h1 h2,j+1,x,h=>by
  simp only[List.getElem?_cons_succ] at h ⊢;exact vZ h2 h
theorem qa:∀{cs:List Value} {l:List UInt8},eg cs=some l→cs=l.map fun b=>.int .u8 b.toNat
 |[],l,h=>by simp only[eg,zI] at h;subst h;rfl
 |c::cs,l,h=>by
  unfold eg at h;split at h
  ·rename_i h';cases h'
  ·rename_i n r hcs;injection hcs with e1 e2;subst e1;subst e2;cases hn:Nat.blt n 256 with
   |false=>rw[hn] at h;cases h
   |true =>
    rw[hn,cond_true] at h;rw[aD,Zt] at hn;simp only[Zb] at h;obtain⟨l',h3,rfl⟩:=h;rw[qa h3];simp only[List.map_cons,List.cons.injEq,and_true];have:(UInt8.ofNat n).toNat=n:=by simp;omega
    rw[this];rfl
  ·cases h
theorem qG(ts:Array TypeId)(pt ty:TypeId)(p:Option Addr)(v:Value)(h:ts[0]? = some pt):Builtin.unsafeString_ ts ty #[.pointer p,v]=Builtin.unsafeString_ #[pt,pt] ty #[.pointer p,v]:=by
 obtain⟨l⟩:=ts;cases l with
 |nil=>simp at h
 |cons x r =>
  have:x=pt:=by simpa using h
  subst this;rfl
theorem BX(ts:Array TypeId)(as:Array Operand){pt t:TypeId}{d:Nat}{x n:Opd}(ht:ts[0]? = some pt)(hpt:P.underlying pt=some (.pointer t))(hc:P.cellsOf t=1)(hxs:c7 as.toList=some [x,n]) :
  cX E P env a (.call ⟨.builtin .unsafeString,as,ts⟩) (.ustr d t x n):=by
 intro W0 ρ φ m m' v w hm hE hG hsp dst ty pos af gd;simp only[bM] at hm;split at hm
 ·rename_i p n hx hn;have hall:=dH (a:=a) hxs (vs:=[.pointer p,i0 n]) (by simp only[evs,hx,hn]) hE;have hm0:=cY (a:=a) (as:=as) rfl;generalize as.toList.map a.eval=ws at hall hm0;cases hall with
  |cons r1 rest =>
   cases rest with
   |cons r2 rest =>
    cases rest;rename_i xc nc;obtain⟨pc,hpc⟩:∃pc,xc = .pointer pc:=by cases r1.By<;>exact⟨_,rfl⟩
    subst hpc;have hexec:∀{q:Value} {w':World},(Builtin.unsafeString_ #[pt,pt] ty #[.pointer pc,nc]).run P w = .ok q w'→(execOp a.eval ⟨dst,.call ⟨.builtin .unsafeString,as,ts⟩,ty,pos,af,gd⟩).run P w = .ok (.value q) w':=by
     intro q w' h;rw[← qG ts pt ty _ _ ht] at h;simp only[execOp,resolve,Zc,Zd,Za,invoke,Go.builtin,hm0,h]
    have hnc:=r2.sh;subst hnc;have hpv:=r1.By;cases h0:Nat.beq n 0 with
    |true =>
     rw[h0,cond_true] at hm;rw[Zg] at h0;subst h0;simp only[zI,Zf] at hm;obtain⟨rfl,rfl⟩:=hm;refine⟨_,w,ρ,φ,hexec ?_,.of_flat (.str ⟨⟨[]⟩⟩),fun h=>.inr trivial,Post.refl hG,hsp⟩;cases hpv with
     |nilp=>exact Lib.run_unsafeString_none w pt pt ty none
     |ptr hr=>exact Lib.run_unsafeString_none w pt pt ty _
    |false =>
     rw[h0,cond_false] at hm;rw[← Zl,Zg] at h0;split at hm
     ·rename_i i;split at hm
      ·rename_i ez t' cs hob;cases hb:(Nat.beq t' t&&Nat.ble n 9223372036854775807) with
       |false=>rw[hb] at hm;cases hm
       |true =>
        rw[hb,cond_true] at hm;simp only[Zi,Zg,Zk] at hb;obtain⟨hb,h63⟩:=hb;subst hb;split at hm
        ·rename_i l hl;cases hln:Nat.beq l.length n with
         |false=>rw[hln] at hm;cases hm
         |true =>
          rw[hln,cond_true] at hm;rw[Zg] at hln;simp only[zI,Zf] at hm;obtain⟨rfl,rfl⟩:=hm;obtain⟨b,s',hbs,hobj⟩:=hG.rel i _ hob;obtain⟨hF,hD,cs',e,f,c1,c2,c3,c4,c5⟩:=hobj;subst c5;cases hpv with
          |ptr hr =>
           rw[hbs] at hr;injection hr with hr;injection hr with e1 e2;subst e1;have hcs:=qa hl;have hlc:n≤cs.length:=by
            have:=congrArg List.length hcs;simp only[ZG,List.length_map,hln] at this;omega
           have hget:∀(j:Nat) (x:UInt8),l[j]? = some x→cs'[j]? = some (.int .u8 x.toNat):=by
            intro j x hj;have hjl:j<n:=by
             rcases ZA j n with h|h
             ·exact h
             ·rw[ZD (by omega)] at hj;cases hj
            have h1:(cs.take n)[j]? = some (.int .u8 x.toNat):=by rw[hcs,ZK,hj];rfl
            rw[List.getElem?_take_of_lt hjl] at h1;obtain⟨y,h3,h4⟩:=vZ c3 h1;rw[List.getElem?_take_of_lt (by omega)] at h3;cases h4;rw[← Array.getElem?_toList];exact h3
           have hrun:=Lib.run_unsafeString_row (P:=P) w pt pt ty e hpt hc b cs'.size (rv c1) l (by intro h;rw[h] at hln;exact h0 hln.symm) (by rw[hln,c2];omega) (by omega)
            (fun j x hj=>by rw[du,ZB,nh c1];exact hget j x hj)
           refine⟨.value (.string ⟨⟨l⟩⟩),w.freeze ⟨b,0,none⟩ l.length,ρ,φ,hexec ?_,.of_flat (.str _),fun h=>.inr trivial,?_,Mem.v i hsp⟩
           ·rw[← hln];exact hrun
           ·refine hG.Ra (i:=i) hob (Mem.u m i) ?_ ?_ ?_ ?_
            ·unfold World.freeze;split<;>simp
            ·unfold World.freeze;split<;>rfl
            ·unfold World.freeze;split<;>rfl
            ·intro c hc';unfold World.freeze;split
             ·rfl
             ·rw[Array.getElem?_modify,if_neg];exact fun e=>hc' ((hF c).2 e.symm)
        ·cases hm
      ·cases hm
     ·cases hm
 ·cases hm
end
end Go.AI
namespace Go.AI
variable {E:Ext}{P:Program}{W0:World}{ρ:Ren}{φ:br}{m m':Mem E.X}{w:World}{env:LV}{a:Act}
abbrev MR(ρ:Ren):(Value×Value×Nat)→MapEntry→Prop:=fun x y=>FR ρ x.1 y.key∧XR ρ x.2.1 y.val∧x.2.2=y.born
theorem VR.QA{i:Nat}{v:Value}(h:VR ρ (.map (some i)) v):∃b s,v = .map (some b)∧ρ i=some (b,s):=by
 cases h with
 |x h=>cases h with
  |flat h=>cases h with|mp e=>exact⟨_,_,rfl,e⟩
theorem eT{k:IntKind}{n:Int}{D:TypeDesc}(hD:∃kk,D = .int kk):∀{es:List (Value×Value×Nat)} {es':List MapEntry} {i:Nat} {r:Option (Nat×Value×Nat)},All2 (MR ρ) es es'→ij k n es i=some r →
  match r with
  |none=>Instr.findNow D (.int k n) es' i=some none
  |some (j,v,b)=>∃v' c,Instr.findNow D (.int k n) es' i=some (some (j,v'))∧XR ρ v v'∧j=i+c∧es'[c]? = some ⟨.int k n,v',b⟩∧es[c]? = some (.int k n,v,b)
 |[],_,i,r,.nil,h=>by
  simp only[ij,zI] at h;subst h;rfl
 |(k0,v0,b0)::es,e'::es',i,r,.cons h0 t,h=>by
  obtain⟨kk,rfl⟩:=hD;obtain⟨key,val,born⟩:=e';obtain⟨h1,h2,h3⟩:=h0;simp only at h1 h2 h3;cases k0 with
  |int j a =>
   cases h1;simp only[ij] at h;split at h
   ·rename_i hj;subst hj;cases hn:bz n a with
    |true =>
     rw[hn,cond_true] at h;injection h with h;subst h;rw[d7,beq_iff_eq] at hn;subst hn;refine⟨val,0,?_,h2,rfl,?_,?_⟩
     ·simp[Instr.findNow,Instr.sameNow]
     ·simp[h3]
     ·simp
    |false =>
     rw[hn,cond_false] at h;have hne:(n == a)=false:=by rw[← d7];exact hn
     have ih:=eT ⟨kk,rfl⟩ t h;have hf:Instr.findNow (.int kk) (.int k n) (⟨.int k a,val,born⟩::es') i=Instr.findNow (.int kk) (.int k n) es' (i+1):=by
      simp[Instr.findNow,Instr.sameNow,hne]
     cases r with
     |none=>exact hf.trans ih
     |some r =>
      obtain⟨jj,vv,bb⟩:=r;obtain⟨v',c,q1,q2,q3,q4,q5⟩:=ih;exact⟨v',c+1,hf.trans q1,q2,by omega,by simpa using q4,by simpa using q5⟩
   ·cases h
  |_=>simp[ij] at h
theorem nU{i b s:Nat}{es:List (Value×Value×Nat)}{c:Nat}(g:Good (E:=E) W0 ρ φ m.get m.next w)(hm:m.get i=some (.map es c))(hr:ρ i=some (b,s)) :
  ∃es':Array MapEntry,w.heap[b]? = some (.map es' c)∧All2 (MR ρ) es es'.toList∧(φ i).1 b:=by
 obtain⟨b',s',h1,h2⟩:=g.rel i _ hm;rw[hr] at h1;injection h1 with h1;injection h1 with e1 e2;subst e1;subst e2;obtain⟨q1,q2,es',q3,q4⟩:=h2;exact⟨es',q3,q4,(q1 b).2 rfl⟩
theorem mW{i b s:Nat}{es es2:List (Value×Value×Nat)}{c c2:Nat}{es':Array MapEntry}(g:Good (E:=E) W0 ρ φ m.get m.next w)(hs:m.Sep)(hm:m.get i=some (.map es c))(hr:ρ i=some (b,s))(hb:w.heap[b]? = some (.map es' c))(hF:(φ i).1 b)
  {es2':Array MapEntry} (hn:All2 (MR ρ) es2 es2'.toList) :
  Post W0 ρ φ m.get m.next w ρ φ (m.put i (.map es2 c2)).get (m.put i (.map es2 c2)).next { w with heap:=w.heap.setIfInBounds b (.map es2' c2) }∧(m.put i (.map es2 c2)).Sep:=by
 refine⟨?_,Mem.e hs⟩;rw[Mem.a hm];have hnx:(m.put i (.map es2 c2)).next=m.next:=by unfold Mem.put;split<;>rfl
 rw[hnx];have hw:et w b (.map es2' c2)={ w with heap:=w.heap.setIfInBounds b (.map es2' c2) }:=rfl;rw[← hw];refine g.QR hm _ (by unfold et;simp) rfl rfl ?_ ?_
 ·intro c' hc;exact jr b c' _ fun e=>hc (e▸hF)
 ·intro b2 s2 hb2 hobj;rw[hr] at hb2;injection hb2 with hb2;injection hb2 with e1 e2;subst e1;subst e2;obtain⟨q1,q2,_⟩:=hobj;exact⟨q1,q2,es2',fU _ hb,hn⟩
theorem FG{es':List MapEntry}{c:Nat}{y:MapEntry}(hy:es'[c]? = some y):es'.modify c (fun e=>{ e with key:=y.key })=es':=by
 apply List.ext_getElem?;intro j;rw[List.getElem?_modify];by_cases e:c=j
 ·subst e;rw[hy];cases y;simp
 ·simp[e]
theorem pZ{t:TypeId}{k:IntKind}{n:Int}(h:qi P t=some (.int k n)):(zeroValue t).run P w = .ok (.int k n) w:=by
 unfold qi at h;split at h
 ·rename_i i hi;split at h
  ·rename_i k' n' hz;injection h with h;injection h with e1 e2;subst e1;subst e2;simp[zeroValue,ki hi,hz]
  ·cases h
 ·cases h
theorem qD{t:TypeId}{z:Value}(h:qi P t=some z):∃k n,z = .int k n:=by
 unfold qi at h;split at h
 ·split at h
  ·injection h with h;exact⟨_,_,h.symm⟩
  ·cases h
 ·cases h
theorem fG{kt:TypeId}{kk k:IntKind}{n:Int}(h:P.underlying kt=some (.int kk))(e:Bool):(Instr.checkKey e 10000 kt (.int k n)).run P w = .ok () w:=by
 rw[show(10000:Nat)=9999+1 from rfl];unfold Instr.checkKey;simp only[Zc,am h,Za,Zd]
theorem gD{kt:TypeId}{kk k:IntKind}{n:Int}{l:List MapEntry}{r:Option (Nat×Value)}(h:P.underlying kt=some (.int kk))(hf:Instr.findNow (.int kk) (.int k n) l 0=some r):(Instr.findKey kt (.int k n) l).run P w = .ok r w :=
 MapKept.run_findKey h hf
theorem BE{k:IntKind}{n:Int}:(Instr.keyThatStays (.int k n) (.int k n)).run P w = .ok (.int k n) w:=by
 simp[Instr.keyThatStays,Instr.sameBits]
theorem Bh(t:TypeId){d:Nat}:cX E P env a (.makeMap t none) (.mmap d):=by
 intro W0 ρ φ m m' v w hm hE hG hs dst ty pos af gd;simp only[bM,zI,Zf] at hm;obtain⟨rfl,rfl⟩:=hm;have hrel:ObjR E (ρ.put m.next (w.heap.size,0)) (.map [] 0) w.heap.size 0 (· = w.heap.size) (· = w.heap.size) { w with heap:=w.heap.push (.map #[] 0) } :=
  ⟨fun _=>Iff.rfl,fun _=>Iff.rfl,#[],by simp,.nil⟩
 obtain⟨k1,k2⟩:=mw (o:=.map [] 0) (s:=0) (heap:=true) (c:=.map #[] 0) (w':={ w with heap:=w.heap.push (.map #[] 0) }) hG hs rfl rfl rfl hrel;refine⟨.value (.map (some w.heap.size)),_,_,_,?_,.of_flat (.mp (s:=0) ?_),fun h=>.inr trivial,k1,k2⟩
 ·simp only[execOp,Instr.makeMap,Zc,Zd,Za,Option.map_none];rfl
 ·simp[Ren.put]
theorem BD(ts:Array TypeId)(as:Array Operand){t:TypeId}{d:Nat}{x:Opd}(ht:ts[0]? = some t)(hu:∃k e,P.underlying t=some (.map k e))(hxs:c7 as.toList=some [x]):cX E P env a (.call ⟨.builtin .len,as,ts⟩) (.mlen d x):=by
 intro W0 ρ φ m m' v w hm hE hG hs dst ty pos af gd;obtain⟨k,e,hu⟩:=hu;obtain⟨yo,hyo,hx⟩:=je hxs;have hm0:as.map a.eval=⟨[a.eval yo]⟩:=cY (by rw[hyo];rfl);simp only[bM] at hm;split at hm
 ·rename_i i hi;obtain⟨b,s,hb,hr⟩:=(al hx hi hE).QA;split at hm
  ·rename_i es c he;simp only[zI,Zf] at hm;obtain⟨rfl,rfl⟩:=hm;obtain⟨es',h1,h2,h3⟩:=nU hG he hr;have hl:es'.size=es.length:=by rw[h2.length];simp
   rw[hb] at hm0;have g0:(⟨[Value.map (some b)]⟩:Array Value)[0]? = some (.map (some b)):=by rw[dY];rfl
   have hlen:(Builtin.len_ ts ty ⟨[.map (some b)]⟩).run P w = .ok (.int .i64 (Int.ofNat es.length)) w:=by
    simp only[Builtin.len_,ht,g0,Zc,am hu,Za,MapKept.run_getObj_map h1,Zd,goInt,hl];rfl
   refine⟨.value (.int .i64 (Int.ofNat es.length)),w,ρ,φ,?_,.of_flat (.int _ _),fun h=>.inr trivial,Post.refl hG,hs⟩;simp only[execOp,resolve,Zc,Zd,Za,invoke,Go.builtin,hm0,hlen]
  ·cases hm
 ·cases hm
theorem Dc(t:TypeId)(mm kk:Operand)(ok:Bool){kt e:TypeId}{ik:IntKind}{z:Value}{d:Nat}{x y:Opd}(hu:P.underlying t=some (.map kt e))(hk:P.underlying kt=some (.int ik))(hz:qi P e=some z)(hx:aS mm=some x)(hy:aS kk=some y) :
  cX E P env a (.lookup t mm kk ok) (.mget d [z] false ok x y):=by
 intro W0 ρ φ m m' v w hm hE hG hs dst ty pos af gd;obtain⟨zk,zn,rfl⟩:=qD hz;simp only[bM] at hm;split at hm
 ·rename_i i k n hi hn;obtain⟨b,s,hb,hr⟩:=(al hx hi hE).QA;have hq:=(al hy hn hE).sh;split at hm
  ·rename_i es c he;obtain⟨es',h1,h2,h3⟩:=nU hG he hr;split at hm
   ·rename_i j u bo hf;injection hm with hm;injection hm with e1 e2;subst e1;subst e2;obtain⟨v',c',q1,q2,_⟩:=eT (D:=.int ik) ⟨_,rfl⟩ h2 hf;refine⟨.value (if ok then .tuple #[v',.bool true] else v'),w,ρ,φ,?_,?_,fun h=>.inr trivial,Post.refl hG,hs⟩
    ·simp only[execOp,hb,hq,Instr.lookup,Zc,am hu,Za,MapKept.run_getObj_map h1,Zd,fG hk,gD hk q1]
    ·cases ok with
     |true=>exact .tup (.cons q2 (.cons (.flat (.bool _)) .nil))
     |false=>exact .x q2
   ·rename_i hf;simp only[cond_false] at hm;injection hm with hm;injection hm with e1 e2;subst e1;subst e2;have q1:=eT (D:=.int ik) ⟨_,rfl⟩ h2 hf;refine⟨.value (if ok then .tuple #[.int zk zn,.bool false] else .int zk zn),w,ρ,φ,?_,?_,fun h=>.inr trivial,Post.refl hG,hs⟩
    ·simp only[execOp,hb,hq,Instr.lookup,Zc,am hu,Za,MapKept.run_getObj_map h1,Zd,fG hk,gD hk q1,pZ hz]
    ·cases ok with
     |true=>exact .tup (.cons (.flat (.int _ _)) (.cons (.flat (.bool _)) .nil))
     |false=>exact .of_flat (.int _ _)
   ·cases hm
  ·cases hm
 ·cases hm
theorem Bt(t:TypeId)(mm kk:Operand){kt e:TypeId}{ik:IntKind}{z:Value}{d:Nat}{x y:Opd}(hu:P.underlying t=some (.map kt e))(hk:P.underlying kt=some (.int ik))(hz:qi P e=some z)(hx:aS mm=some x)(hy:aS kk=some y) :
  cX E P env a (.mapEntry t mm kk) (.ment d [z] false x y):=by
 intro W0 ρ φ m m' v w hm hE hG hs dst ty pos af gd;obtain⟨zk,zn,rfl⟩:=qD hz;simp only[bM] at hm;split at hm
 ·rename_i i k n hi hn;obtain⟨b,s,hb,hr⟩:=(al hx hi hE).QA;have hq:=(al hy hn hE).sh;split at hm
  ·rename_i es c he;obtain⟨es',h1,h2,h3⟩:=nU hG he hr;split at hm
   ·rename_i j u bo hf;injection hm with hm;injection hm with e1 e2;subst e1;subst e2;obtain⟨v',c',q1,q2,q3,q4,q5⟩:=eT (D:=.int ik) ⟨_,rfl⟩ h2 hf;rw[ZB] at q3;subst q3;have q4':es'[j]? = some ⟨.int k n,v',bo⟩:=by rw[← Array.getElem?_toList];exact q4
    have hsame:es'.modify j (fun e=>{ e with key:=.int k n })=es':=by
     apply Array.toList_inj.1;rw[Array.toList_modify];exact FG q4
    obtain⟨k1,k2⟩:=mW (es2:=es) (c2:=c) (es2':=es') hG hs he hr h1 h3 h2;refine⟨.value (.tuple #[v',.int .i64 (Int.ofNat bo)]),_,ρ,φ,?_,?_,fun h=>.inr trivial,k1,k2⟩
    ·simp[execOp,hb,hq,Instr.mapEntry,Zc,am hu,MapKept.run_getObj_map h1,fG hk,gD hk q1,q4',BE,hsame,MapKept.run_setObj_map _ h1,goInt]
    ·exact .tup (.cons q2 (.cons (.flat (.int _ _)) .nil))
   ·rename_i hf;simp only[cond_false] at hm;injection hm with hm;injection hm with e1 e2;subst e1;subst e2;have q1:=eT (D:=.int ik) ⟨_,rfl⟩ h2 hf;have hn2:All2 (MR ρ) (es++[(.int k n,.int zk zn,c)]) (es'.push ⟨.int k n,.int zk zn,c⟩).toList:=by
     rw[Array.toList_push];exact h2.append (.cons ⟨.int _ _,.flat (.int _ _),rfl⟩ .nil)
    obtain⟨k1,k2⟩:=mW (c2:=c+1) hG hs he hr h1 h3 hn2;refine⟨.value (.tuple #[.int zk zn,.int .i64 (Int.ofNat c)]),_,ρ,φ,?_,?_,fun h=>.inr trivial,k1,k2⟩
    ·simp[execOp,hb,hq,Instr.mapEntry,Zc,am hu,MapKept.run_getObj_map h1,fG hk,gD hk q1,pZ hz,MapKept.run_setObj_map _ h1,goInt]
    ·exact .tup (.cons (.flat (.int _ _)) (.cons (.flat (.int _ _)) .nil))
   ·cases hm
  ·cases hm
 ·cases hm
theorem A9(t:TypeId)(mm kk vv:Operand){kt e:TypeId}{ik:IntKind}{x y u:Opd}(hu:P.underlying t=some (.map kt e))(hk:P.underlying kt=some (.int ik))(hx:aS mm=some x)(hy:aS kk=some y)(hv:aS vv=some u) :
  cX E P env a (.mapUpdate t mm kk vv) (.mset x y u):=by
 intro W0 ρ φ m m' v w hm hE hG hs dst ty pos af gd;simp only[bM] at hm;split at hm
 ·rename_i i k n vk vn hi hn hvn;obtain⟨b,s,hb,hr⟩:=(al hx hi hE).QA;have hq:=(al hy hn hE).sh;have hw:=(al hv hvn hE).sh;split at hm
  ·rename_i es c he;obtain⟨es',h1,h2,h3⟩:=nU hG he hr;split at hm
   ·rename_i hf;injection hm with hm;injection hm with e1 e2;subst e1;subst e2;have q1:=eT (D:=.int ik) ⟨_,rfl⟩ h2 hf;have hn2:All2 (MR ρ) (es++[(.int k n,.int vk vn,c)]) (es'.push ⟨.int k n,.int vk vn,c⟩).toList:=by
     rw[Array.toList_push];exact h2.append (.cons ⟨.int _ _,.flat (.int _ _),rfl⟩ .nil)
    obtain⟨k1,k2⟩:=mW (c2:=c+1) hG hs he hr h1 h3 hn2;refine⟨.skip,_,ρ,φ,?_,rfl,fun h=>.inr trivial,k1,k2⟩;simp[execOp,hb,hq,hw,Instr.mapUpdate,Zc,am hu,MapKept.run_getObj_map h1,fG hk,gD hk q1,MapKept.run_setObj_map _ h1]
   ·cases hm
  ·cases hm
 ·cases hm
theorem pJ{s:Nat}{v v':Value}(hv:XR ρ v v'):∀{es es2:List (Value×Value×Nat)} {es':List MapEntry},All2 (MR ρ) es es'→pF s v es=some es2→∃i,es'.findIdx? (fun e=>(e.born:Int) == (s:Int))=some i∧All2 (MR ρ) es2 (es'.modify i fun e=>{ e with val:=v' })
 |[],_,_,.nil,h=>by cases h
 |(k0,v0,b0)::es,es2,e'::es',.cons h0 t,h=>by
  obtain⟨h1,h2,h3⟩:=h0;simp only at h1 h2 h3;unfold pF at h;cases hb:Nat.beq b0 s with
  |true =>
   rw[hb,cond_true] at h;injection h with h;subst h;rw[Zg] at hb;refine⟨0,?_,?_⟩
   ·rw[List.findIdx?_cons];have:((e'.born:Int) == (s:Int))=true:=by rw[← h3,hb];simp
    rw[this];rfl
   ·exact .cons ⟨h1,hv,h3⟩ t
  |false =>
   rw[hb,cond_false] at h;simp only[Zb] at h;obtain⟨es3,h4,rfl⟩:=h;obtain⟨i,q1,q2⟩:=pJ hv t h4;refine⟨i+1,?_,?_⟩
   ·rw[List.findIdx?_cons];have hne:¬b0=s:=fun e=>by rw[e,Nat.beq_refl] at hb;cases hb
    have:((e'.born:Int) == (s:Int))=false:=by
     rw[← h3];simp only[beq_eq_false_iff_ne,ne_eq];omega
    rw[this,q1];rfl
   ·exact .cons ⟨h1,h2,h3⟩ q2
theorem Bg(t:TypeId)(mm ss vv:Operand){x y u:Opd}(hx:aS mm=some x)(hy:aS ss=some y)(hv:aS vv=some u):cX E P env a (.entryStore t mm ss vv) (.ests x y u):=by
 intro W0 ρ φ m m' v w hm hE hG hs dst ty pos af gd;simp only[bM] at hm;split at hm
 ·rename_i i s k n hi hn hu;obtain⟨b,q,hb,hr⟩:=(al hx hi hE).QA;have hq:=(al hy hn hE).sh;have hw:=(al hv hu hE).sh;split at hm
  ·rename_i es c he;simp only[Zb,Zf] at hm;obtain⟨es2,h0,rfl,rfl⟩:=hm;obtain⟨es',h1,h2,h3⟩:=nU hG he hr;obtain⟨j,q1,q2⟩:=pJ (v':=.int k n) (.flat (.int k n)) h2 h0;have q1':es'.findIdx? (fun e=>(e.born:Int) == (s:Int))=some j:=by rw[← Array.toArray_toList (xs:=es'),List.findIdx?_toArray];exact q1
   rw[← Array.toList_modify] at q2;obtain⟨k1,k2⟩:=mW (c2:=c) hG hs he hr h1 h3 q2;refine⟨.skip,_,ρ,φ,?_,rfl,fun h=>.inr trivial,k1,k2⟩;simp[execOp,hb,hq,hw,Instr.entryStore,Zc,MapKept.run_getObj_map h1,asInt,asIntOf,q1',MapKept.run_setObj_map _ h1]
  ·cases hm
 ·cases hm
end Go.AI
