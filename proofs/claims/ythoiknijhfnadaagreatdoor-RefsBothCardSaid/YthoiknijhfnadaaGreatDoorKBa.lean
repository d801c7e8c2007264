/- The abstract heap of the evaluator: how its values and objects stand for the model's memory; the laws by which a step keeps this. No program is named here. -/
import Derived.Orders
import Derived.Laws.Sem
import GoSem.Dispatch
import GoSem.Step
import GoSem.Core.Layout
namespace Go.AI
abbrev i0 (a:Nat):Value:=.int .i64 (.ofNat a)
abbrev u0 (a:Nat):Value:=.int .u64 (.ofNat a)
abbrev p0:Value:=.pointer none
abbrev pV (a:Nat):Value:=.pointer (some (.mk a 0 none))
def n4:List (Option Nat):=[none,none,none,none]
def n8:List (Option Nat):=none::none::none::none::n4
def n12:List (Option Nat):=none::none::none::none::n8
def n16:List (Option Nat):=none::none::none::none::n12
def n20:List (Option Nat):=none::none::none::none::n16
theorem zT:(!true)=false ∧ (!false)=true ∧ (∀ b,(true||b)=true) ∧ (∀ b,(b||true)=true) ∧ (∀ b,(false||b)=b) ∧ (∀ b,(b||false)=b) ∧ (∀ b,(true&&b)=b) ∧ (∀ b,(b&&true)=b) ∧ (∀ b,(false&&b)=false) ∧ (∀ b,(b&&false)=false):=by simp
theorem zO (n:Nat):Int.ofNat n=(n:Int):=rfl
theorem zL {a b:Nat} (h:Nat.ble a b=true):a ≤ b:=Nat.le_of_ble_eq_true h
theorem zI {α:Type _} (a b:α):(some a=some b)=(a=b):=Option.some.injEq a b
def look{α:Type}(s:Nat):List (Nat×α)→Option α
 |[]=>none
 |x::r=>bif Nat.beq s x.1 then some x.2 else look s r
def upd{α:Type}(s:Nat)(y:α):List (Nat×α)→List (Nat×α)
 |[]=>[]
 |x::r=>bif Nat.beq s x.1 then(x.1,y)::r else x::upd s y r
def del{α:Type}(s:Nat):List (Nat×α)→List (Nat×α)
 |[]=>[]
 |x::r=>bif Nat.beq s x.1 then del s r else x::del s r
theorem zC{α:Type}(s:Nat)(x:Nat×α)(r:List (Nat×α)):look s (x::r)=if s=x.1 then some x.2 else look s r:=by
 show(bif Nat.beq s x.1 then some x.2 else look s r)=_
 by_cases h:s=x.1
 ·subst h;simp
 ·have:Nat.beq s x.1=false:=by rw[← Bool.not_eq_true,Nat.beq_eq];exact h
  simp[this,h]
theorem look_upd{α:Type}(s t:Nat)(y:α):∀(l:List (Nat×α)),look s (upd t y l)=if s=t then(look s l).map (fun _=>y) else look s l
 |[]=>by simp[upd,look]
 |x::r=>by
  unfold upd
  by_cases h:t=x.1
  ·subst h
   simp only[Nat.beq_refl,cond_true,zC]
   by_cases h2:s=x.1<;>simp[h2]
  ·have:Nat.beq t x.1=false:=by rw[← Bool.not_eq_true,Nat.beq_eq];exact h
   simp only[this,cond_false,zC,look_upd s t y r]
   by_cases h2:s=x.1
   ·subst h2
    have h3:¬x.1=t:=fun e=>h e.symm
    simp[h3]
   ·simp[h2]
theorem look_del{α:Type}(s t:Nat):∀(l:List (Nat×α)),look s (del t l)=if s=t then none else look s l
 |[]=>by simp[del,look]
 |x::r=>by
  unfold del
  by_cases h:t=x.1
  ·subst h
   simp only[Nat.beq_refl,cond_true,zC,look_del s x.1 r]
   by_cases h2:s=x.1<;>simp[h2]
  ·have:Nat.beq t x.1=false:=by rw[← Bool.not_eq_true,Nat.beq_eq];exact h
   simp only[this,cond_false,zC,look_del s t r]
   by_cases h2:s=x.1
   ·subst h2
    have h3:¬x.1=t:=fun e=>h e.symm
    simp[h3]
   ·simp[h2]
abbrev Ren:=Nat→Option (Nat×Nat)
def Ren.le(ρ ρ':Ren):Prop:=∀i x,ρ i=some x→ρ' i=some x
theorem Ren.le_refl(ρ:Ren):ρ.le ρ:=fun _ _ h=>h
theorem Ren.le_trans{a b c:Ren}(h:a.le b)(h':b.le c):a.le c:=fun i x e=>h' i x (h i x e)
inductive AR(ρ:Ren):Addr→Addr→Prop
 |mk {i b s o:Nat} (h:ρ i=some (b,s)):AR ρ ⟨i,o,none⟩ ⟨b,o,none⟩
inductive All2{α β:Type}(R:α→β→Prop):List α→List β→Prop
 |nil:All2 R [] []
 |cons {a b x y} (h:R a b) (t:All2 R x y):All2 R (a::x) (b::y)
namespace All2
variable {α β:Type}{R R':α→β→Prop}
theorem mono(h:∀a b,R a b→R' a b):∀{x y},All2 R x y→All2 R' x y
 |_,_,.nil=>.nil
 |_,_,.cons a t=>.cons (h _ _ a) (t.mono h)
theorem length:∀{x y},All2 R x y→x.length=y.length
 |_,_,.nil=>rfl
 |_,_,.cons _ t=>by simp[t.length]
theorem append:∀{x y x' y'},All2 R x y→All2 R x' y'→All2 R (x++x') (y++y')
 |_,_,_,_,.nil,h=>h
 |_,_,_,_,.cons a t,h=>.cons a (t.append h)
theorem take:∀{x y} (n:Nat),All2 R x y→All2 R (x.take n) (y.take n)
 |_,_,0,_=>by simpa using .nil
 |_,_,_+1,.nil=>by simpa using .nil
 |_,_,n+1,.cons a t=>by simpa using .cons a (t.take n)
theorem drop:∀{x y} (n:Nat),All2 R x y→All2 R (x.drop n) (y.drop n)
 |_,_,0,h=>by simpa using h
 |_,_,_+1,.nil=>by simpa using .nil
 |_,_,n+1,.cons _ t=>by simpa using t.drop n
theorem get:∀{x y} (n:Nat) (a:α),All2 R x y→x[n]? = some a→∃b,y[n]? = some b∧R a b
 |_,_,_,_,.nil,h=>by simp at h
 |_,_,0,_,.cons (b:=b) r _,h=>⟨b,by simp,by simpa using(by simpa using h)▸r⟩
 |_,_,n+1,a,.cons _ t,h=>by simpa using t.get n a (by simpa using h)
theorem replicate{a:α}{b:β}(h:R a b):∀n,All2 R (List.replicate n a) (List.replicate n b)
 |0=>.nil
 |n+1=>by simpa[List.replicate_succ] using .cons h (replicate h n)
theorem flatten{x:List (List α)}{y:List (List β)}:All2 (All2 R) x y→All2 R x.flatten y.flatten
 | .nil=>.nil
 | .cons a t=>by simpa using a.append t.flatten
end All2
def decZ(b:Nat):Int:=if b % 2=0 then Int.ofNat (b / 2) else Int.negSucc (b / 2)
inductive FR(ρ:Ren):Value→Value→Prop
 |bool (b:Bool):FR ρ (.bool b) (.bool b)
 |int (k:IntKind) (n:Int):FR ρ (.int k n) (.int k n)
 |str (s:ByteArray):FR ρ (.string s) (.string s)
 |nilp:FR ρ (.pointer none) (.pointer none)
 |ptr {i b s o:Nat} (h:ρ i=some (b,s)):FR ρ (.pointer (some ⟨i,o,none⟩)) (.pointer (some ⟨b,o,none⟩))
 |nils (l c:Nat):FR ρ (.slice none l c) (.slice none l c)
 |slc {i b s o l c:Nat} (h:ρ i=some (b,s)):FR ρ (.slice (some ⟨i,o,none⟩) l c) (.slice (some ⟨b,o,none⟩) l (c+s))
 |slx {i b s o l c:Nat} (h:ρ i=some (b,s)):FR ρ (.slice (some ⟨i,o,some 1⟩) l c) (.slice (some ⟨b,o,none⟩) l c)
 |slz {i b s o o' c:Nat} (h:ρ i=some (b,s)):FR ρ (.slice (some ⟨i,o,some 0⟩) 0 0) (.slice (some ⟨b,o',none⟩) 0 c)
 |nilm:FR ρ (.map none) (.map none)
 |mp {i b s:Nat} (h:ρ i=some (b,s)):FR ρ (.map (some i)) (.map (some b))
 |nilf:FR ρ .nilFunc .nilFunc
 |nili:FR ρ .nilIface .nilIface
 |tok {i b s:Nat} (h:ρ i=some (b,s)):FR ρ (.chan (some i)) (.int .i64 (decZ b))
 |fn (f:FuncId) {cs ds:List Addr} (h:All2 (AR ρ) cs ds):FR ρ (.func (.func f) #[] ⟨cs.map fun a=>.pointer (some a)⟩) (.func (.func f) #[] ⟨ds.map fun a=>.pointer (some a)⟩)
inductive XR(ρ:Ren):Value→Value→Prop
 |flat {a b:Value} (h:FR ρ a b):XR ρ a b
 |agg {xs ys:List Value} (h:All2 (FR ρ) xs ys):XR ρ (.agg ⟨xs⟩) (.agg ⟨ys⟩)
inductive VR(ρ:Ren):Value→Value→Prop
 |x {a b:Value} (h:XR ρ a b):VR ρ a b
 |tup {xs ys:List Value} (h:All2 (XR ρ) xs ys):VR ρ (.tuple ⟨xs⟩) (.tuple ⟨ys⟩)
theorem AR.mono{ρ ρ':Ren}(h:ρ.le ρ'){a b:Addr}:AR ρ a b→AR ρ' a b
 | .mk e=>.mk (h _ _ e)
theorem FR.mono{ρ ρ':Ren}(h:ρ.le ρ'){a b:Value}(r:FR ρ a b):FR ρ' a b:=by
 cases r with
 |bool b=>exact .bool b
 |int k n=>exact .int k n
 |str s=>exact .str s
 |nilp=>exact .nilp
 |ptr e=>exact .ptr (h _ _ e)
 |nils l c=>exact .nils l c
 |slc e=>exact .slc (h _ _ e)
 |slx e=>exact .slx (h _ _ e)
 |slz e=>exact .slz (h _ _ e)
 |nilm=>exact .nilm
 |mp e=>exact .mp (h _ _ e)
 |nilf=>exact .nilf
 |nili=>exact .nili
 |tok e=>exact .tok (h _ _ e)
 |fn f e=>exact .fn f (e.mono fun _ _=>AR.mono h)
theorem XR.mono{ρ ρ':Ren}(h:ρ.le ρ'){a b:Value}:XR ρ a b→XR ρ' a b
 | .flat r=>.flat (r.mono h)
 | .agg r=>.agg (r.mono fun _ _=>FR.mono h)
theorem VR.mono{ρ ρ':Ren}(h:ρ.le ρ'){a b:Value}:VR ρ a b→VR ρ' a b
 | .x r=>.x (r.mono h)
 | .tup r=>.tup (r.mono fun _ _=>XR.mono h)
theorem FR.cells{ρ:Ren}{a b:Value}(r:FR ρ a b):a.cells = #[a]∧b.cells = #[b]:=by
 cases r<;>exact⟨rfl,rfl⟩
theorem FR.one{ρ:Ren}{a b:Value}(r:FR ρ a b):b.oneCell'=true:=by
 cases r<;>rfl
theorem XR.cells{ρ:Ren}{a b:Value}:XR ρ a b→All2 (FR ρ) a.cells.toList b.cells.toList
 | .flat r=>by rw[r.cells.1,r.cells.2];exact .cons r .nil
 | .agg r=>r
structure Ext where
 X:Type
 rel:X→Nat→(Nat→Prop)→(Nat→Prop)→World→Prop
 frame:∀{x b F D w w'},rel x b F D w→(∀c,D c→w'.heap[c]? = w.heap[c]?)→rel x b F D w'
inductive AObj(X:Type) where
 |cells (cs:List Value)
 |grown (e t:Nat) (cs:List Value)
 |typed (t:Nat) (cs:List Value)
 |ro (k:Nat) (cs:List Value)
 |map (es:List (Value×Value×Nat)) (clock:Nat)
 |ext (x:X)
def free(f:Nat×Nat)(n:Nat):Prop:=∀o,o<n→¬(f.1≤o∧o<f.2)
def restOk(cs':Array Value)(n:Nat):Prop:=∃ra,All2 (FR fun _=>none) ra (cs'.toList.drop n)
variable (E:Ext)
def ObjR(ρ:Ren)(o:AObj E.X)(b s:Nat)(F D:Nat→Prop)(w:World):Prop :=
 match o with
 | .cells cs=>s=0∧(∀c,F c↔c=b)∧(∀c,D c↔c=b)∧∃cs' e f,w.heap[b]? = some (.cells cs' e f)∧All2 (FR ρ) cs cs'.toList∧free f (cs'.size+1)
 | .grown ez t cs=>(∀c,F c↔c=b)∧(∀c,D c↔c=b)∧∃cs' e f,w.heap[b]? = some (.cells cs' e f)∧cs'.size=cs.length+s*ez∧All2 (FR ρ) cs (cs'.toList.take cs.length)∧free f cs'.size∧e=t∧restOk cs' cs.length
 | .typed t cs=>s=0∧(∀c,F c↔c=b)∧(∀c,D c↔c=b)∧∃cs' e f,w.heap[b]? = some (.cells cs' e f)∧All2 (FR ρ) cs cs'.toList∧free f cs'.size∧e=t
 | .ro k cs=>(∀c,¬F c)∧(∀c,D c↔c=b)∧∃cs' e f,w.heap[b]? = some (.cells cs' e f)∧k+cs.length≤cs'.size∧All2 (FR ρ) cs ((cs'.toList.drop k).take cs.length)
 | .map es clock=>(∀c,F c↔c=b)∧(∀c,D c↔c=b)∧∃es':Array MapEntry,w.heap[b]? = some (.map es' clock)∧All2 (fun x y=>FR ρ x.1 y.key∧XR ρ x.2.1 y.val∧x.2.2=y.born) es es'.toList
 | .ext x=>E.rel x b F D w
abbrev Foot:=Nat→(Nat→Prop)×(Nat→Prop)
variable {E}
theorem ObjR.frame{ρ ρ':Ren}{o:AObj E.X}{b s:Nat}{F D:Nat→Prop}{w w':World}(h:ObjR E ρ o b s F D w)(hρ:ρ.le ρ')(hD:∀c,D c→w'.heap[c]? = w.heap[c]?):ObjR E ρ' o b s F D w':=by
 cases o with
 |cells cs =>
  obtain⟨h1,h2,h3,cs',e,f,h4,h5,h6⟩:=h
  exact⟨h1,h2,h3,cs',e,f,by rw[hD b ((h3 b).2 rfl)];exact h4,h5.mono fun _ _=>FR.mono hρ,h6⟩
 |typed t cs =>
  obtain⟨h1,h2,h3,cs',e,f,h4,h5,h6⟩:=h
  exact⟨h1,h2,h3,cs',e,f,by rw[hD b ((h3 b).2 rfl)];exact h4,h5.mono fun _ _=>FR.mono hρ,h6⟩
 |grown ez t cs =>
  obtain⟨h2,h3,cs',e,f,h4,h5,h6,h7⟩:=h
  exact⟨h2,h3,cs',e,f,by rw[hD b ((h3 b).2 rfl)];exact h4,h5,h6.mono fun _ _=>FR.mono hρ,h7⟩
 |ro k cs =>
  obtain⟨h2,h3,cs',e,f,h4,h6,h5⟩:=h
  exact⟨h2,h3,cs',e,f,by rw[hD b ((h3 b).2 rfl)];exact h4,h6,h5.mono fun _ _=>FR.mono hρ⟩
 |map es clock =>
  obtain⟨h2,h3,es',h4,h5⟩:=h
  exact⟨h2,h3,es',by rw[hD b ((h3 b).2 rfl)];exact h4,h5.mono fun _ _ ⟨x,y,z⟩=>⟨x.mono hρ,y.mono hρ,z⟩⟩
 |ext x=>exact E.frame h hD
abbrev View(E:Ext):=Nat→Option (AObj E.X)
structure Good(W0:World)(ρ:Ren)(φ:Foot)(V:View E)(n:Nat)(w:World):Prop where
 dom:∀i,n≤i→ρ i=none
 rel:∀i o,V i=some o→∃b s,ρ i=some (b,s)∧ObjR E ρ o b s (φ i).1 (φ i).2 w
 dis:∀i j oi oj b,V i=some oi→V j=some oj→i≠j→(φ i).1 b→¬(φ j).2 b
 sub:∀i o b,V i=some o→(φ i).1 b→(φ i).2 b
 lts:∀i o b,V i=some o→(φ i).2 b→b<w.heap.size
 frs:∀i o b,V i=some o→(φ i).1 b→W0.heap.size≤b
 size:W0.heap.size≤w.heap.size
 base:∀b,b<W0.heap.size→w.heap[b]? = W0.heap[b]?
 os:w.os=W0.os
 out:w.output=W0.output
theorem Good.lt{W0:World}{ρ:Ren}{φ:Foot}{V:View E}{n:Nat}{w:World}(g:Good W0 ρ φ V n w){i:Nat}{o:AObj E.X}(h:V i=some o):i<n:=by
 obtain⟨b,s,hb,_⟩:=g.rel i o h
 rcases Nat.lt_or_ge i n with h'|h'
 ·exact h'
 ·rw[g.dom i h'] at hb;cases hb
theorem Good.known{W0:World}{ρ:Ren}{φ:Foot}{V:View E}{n:Nat}{w:World}(g:Good W0 ρ φ V n w){i:Nat}{x:Nat×Nat}(h:ρ i=some x):i<n:=by
 rcases Nat.lt_or_ge i n with h'|h'
 ·exact h'
 ·rw[g.dom i h'] at h;cases h
theorem Good.part{W0:World}{ρ:Ren}{φ:Foot}{V V':View E}{n n':Nat}{w:World}(g:Good W0 ρ φ V n w)(h:∀i o,V' i=some o→V i=some o)(hn:n≤n'):Good W0 ρ φ V' n' w where
 dom:=fun i hi=>g.dom i (by omega)
 rel:=fun i o e=>g.rel i o (h i o e)
 dis:=fun i j oi oj b a c=>g.dis i j oi oj b (h _ _ a) (h _ _ c)
 sub:=fun i o b a=>g.sub i o b (h _ _ a)
 lts:=fun i o b a=>g.lts i o b (h _ _ a)
 frs:=fun i o b a=>g.frs i o b (h _ _ a)
 size:=g.size
 base:=g.base
 os:=g.os
 out:=g.out
structure Post(W0:World)(ρ:Ren)(φ:Foot)(V:View E)(n:Nat)(w:World)(ρ':Ren)(φ':Foot)(V':View E)(n':Nat)(w':World):Prop where
 good:Good W0 ρ' φ' V' n' w'
 le:ρ.le ρ'
 nle:n≤n'
 sz:w.heap.size≤w'.heap.size
 keep:∀c,c<w.heap.size→(∀i o,V i=some o→¬(φ i).1 c)→w'.heap[c]? = w.heap[c]?
 fF:∀i o c,V' i=some o→(φ' i).1 c→w.heap.size≤c∨∃j oj,V j=some oj∧(φ j).1 c
 fD:∀i o c,V' i=some o→(φ' i).2 c→w.heap.size≤c∨∃j oj,V j=some oj∧(φ j).2 c
 ids:∀i o,V' i=some o→n≤i∨∃oi,V i=some oi
 old:∀i,i<n→ρ' i=ρ i
theorem Post.refl{W0:World}{ρ:Ren}{φ:Foot}{V:View E}{n:Nat}{w:World}(g:Good W0 ρ φ V n w):Post W0 ρ φ V n w ρ φ V n w where
 good:=g
 le:=Ren.le_refl ρ
 nle:=Nat.le_refl n
 sz:=Nat.le_refl _
 keep:=fun _ _ _=>rfl
 fF:=fun i o _c h hc=>.inr ⟨i,o,h,hc⟩
 fD:=fun i o _c h hc=>.inr ⟨i,o,h,hc⟩
 ids:=fun _i o h=>.inr ⟨o,h⟩
 old:=fun _ _=>rfl
theorem Post.trans{W0:World}{ρ ρ' ρ'':Ren}{φ φ' φ'':Foot}{V V' V'':View E}{n n' n'':Nat}{w w' w'':World}
  (a:Post W0 ρ φ V n w ρ' φ' V' n' w') (b:Post W0 ρ' φ' V' n' w' ρ'' φ'' V'' n'' w''):Post W0 ρ φ V n w ρ'' φ'' V'' n'' w'' where
 good:=b.good
 le:=Ren.le_trans a.le b.le
 nle:=Nat.le_trans a.nle b.nle
 sz:=Nat.le_trans a.sz b.sz
 keep:=fun c hc hF=>by
  rw[← a.keep c hc hF]
  refine b.keep c (Nat.lt_of_lt_of_le hc a.sz) fun i o hi hc'=>?_
  rcases a.fF i o c hi hc' with h|⟨j,oj,hj,hF'⟩
  ·omega
  ·exact hF j oj hj hF'
 fF:=fun i o c hi hc=>by
  rcases b.fF i o c hi hc with h|⟨j,oj,hj,hF'⟩
  ·exact .inl (Nat.le_trans a.sz h)
  ·exact a.fF j oj c hj hF'
 fD:=fun i o c hi hc=>by
  rcases b.fD i o c hi hc with h|⟨j,oj,hj,hF'⟩
  ·exact .inl (Nat.le_trans a.sz h)
  ·exact a.fD j oj c hj hF'
 ids:=fun i o hi=>by
  rcases b.ids i o hi with h|⟨oi,h⟩
  ·exact .inl (Nat.le_trans a.nle h)
  ·exact a.ids i oi h
 old:=fun i hi=>(b.old i (Nat.lt_of_lt_of_le hi a.nle)).trans (a.old i hi)
theorem Post.part{W0:World}{ρ ρ':Ren}{φ φ':Foot}{V V' V'':View E}{n n' n'':Nat}{w w':World}
  (a:Post W0 ρ φ V n w ρ' φ' V' n' w') (h:∀i o,V'' i=some o→V' i=some o) (hn:n'≤n''):Post W0 ρ φ V n w ρ' φ' V'' n'' w' where
 good:=a.good.part h hn
 le:=a.le
 nle:=Nat.le_trans a.nle hn
 sz:=a.sz
 keep:=a.keep
 fF:=fun i o c hi=>a.fF i o c (h i o hi)
 fD:=fun i o c hi=>a.fD i o c (h i o hi)
 ids:=fun i o hi=>a.ids i o (h i o hi)
 old:=a.old
theorem Good.world{W0:World}{ρ:Ren}{φ:Foot}{V:View E}{n:Nat}{w w':World}(g:Good W0 ρ φ V n w)(h:w'.heap=w.heap)(ho:w'.os=w.os)(hp:w'.output=w.output):Good W0 ρ φ V n w' where
 dom:=g.dom
 rel:=fun i o e=>let⟨b,s,x,y⟩:=g.rel i o e;⟨b,s,x,y.frame (Ren.le_refl ρ) fun c _=>by rw[h]⟩
 dis:=g.dis
 sub:=g.sub
 lts:=fun i o b a c=>by rw[h];exact g.lts i o b a c
 frs:=g.frs
 size:=by rw[h];exact g.size
 base:=fun b hb=>by rw[h];exact g.base b hb
 os:=by rw[ho];exact g.os
 out:=by rw[hp];exact g.out
theorem Post.world{W0:World}{ρ:Ren}{φ:Foot}{V:View E}{n:Nat}{w w':World}(g:Good W0 ρ φ V n w)(h:w'.heap=w.heap)(ho:w'.os=w.os)(hp:w'.output=w.output):Post W0 ρ φ V n w ρ φ V n w' where
 good:=g.world h ho hp
 le:=Ren.le_refl ρ
 nle:=Nat.le_refl n
 sz:=by rw[h];exact Nat.le_refl _
 keep:=fun _ _ _=>by rw[h]
 fF:=fun i o c e hc=>.inr ⟨i,o,e,hc⟩
 fD:=fun i o c e hc=>.inr ⟨i,o,e,hc⟩
 ids:=fun i o e=>.inr ⟨o,e⟩
 old:=fun _ _=>rfl
def Ren.put(ρ:Ren)(i:Nat)(x:Nat×Nat):Ren:=fun j=>if j=i then some x else ρ j
def View.put(V:View E)(i:Nat)(o:AObj E.X):View E:=fun j=>if j=i then some o else V j
theorem Good.new{W0:World}{ρ:Ren}{φ:Foot}{V:View E}{n:Nat}{w w':World}(g:Good W0 ρ φ V n w)(o:AObj E.X)(s:Nat)(F D:Nat→Prop)(c:Obj)
  (hw:w'.heap=w.heap.push c) (ho:w'.os=w.os) (hp:w'.output=w.output)
  (hF:∀c,F c→c=w.heap.size) (hD:∀c,D c→c=w.heap.size) (hs:∀c,F c→D c)
  (hrel:ObjR E (ρ.put n (w.heap.size,s)) o w.heap.size s F D w') :
  Post W0 ρ φ V n w (ρ.put n (w.heap.size,s)) (fun j=>if j=n then(F,D) else φ j) (V.put n o) (n+1) w':=by
 have hle:ρ.le (ρ.put n (w.heap.size,s)):=fun i x hx=>by
  have:i≠n:=fun e=>by rw[e,g.dom n (Nat.le_refl n)] at hx;cases hx
  simp[Ren.put,this,hx]
 have hold:∀b,b<w.heap.size→w'.heap[b]? = w.heap[b]? := fun b hb=>by rw[hw,Array.getElem?_push_lt hb];simp[hb]
 have hsz:w'.heap.size=w.heap.size+1:=by rw[hw];simp
 refine⟨⟨?_,?_,?_,?_,?_,?_,?_,?_,?_,?_⟩,hle,by omega,by omega,fun c hc _=>hold c hc,?_,?_,?_,fun i hi=>by simp[Ren.put,show i≠n by omega]⟩
 ·intro i hi
  have:i≠n:=by omega
  simp only[Ren.put,this,if_false]
  exact g.dom i (by omega)
 ·intro i oi hi
  by_cases e:i=n
  ·subst e
   simp only[View.put,if_true] at hi
   injection hi with hi
   subst hi
   exact⟨w.heap.size,s,by simp[Ren.put],by simpa using hrel⟩
  ·simp only[View.put,e,if_false] at hi
   obtain⟨b,t,hb,hr⟩:=g.rel i oi hi
   refine⟨b,t,hle _ _ hb,?_⟩
   simp only[e,if_false]
   exact hr.frame hle fun c hc=>hold c (g.lts i oi c hi hc)
 ·intro i j oi oj b hi hj hne hFi hDj
  by_cases e:i=n
  ·by_cases e':j=n
   ·exact hne (e.trans e'.symm)
   ·simp only[View.put,e',if_false] at hj
    simp only[e,if_true] at hFi
    simp only[e',if_false] at hDj
    have:=g.lts j oj b hj hDj
    have:=hF b hFi
    omega
  ·simp only[View.put,e,if_false] at hi
   simp only[e,if_false] at hFi
   by_cases e':j=n
   ·simp only[e',if_true] at hDj
    have:=hD b hDj
    have:=g.lts i oi b hi (g.sub i oi b hi hFi)
    omega
   ·simp only[View.put,e',if_false] at hj
    simp only[e',if_false] at hDj
    exact g.dis i j oi oj b hi hj hne hFi hDj
 ·intro i oi b hi hFi
  by_cases e:i=n
  ·simp only[e,if_true] at hFi ⊢; exact hs b hFi
  ·simp only[View.put,e,if_false] at hi hFi ⊢
   exact g.sub i oi b hi hFi
 ·intro i oi b hi hDi
  by_cases e:i=n
  ·simp only[e,if_true] at hDi;have:=hD b hDi;omega
  ·simp only[View.put,e,if_false] at hi hDi
   have:=g.lts i oi b hi hDi;omega
 ·intro i oi b hi hFi
  by_cases e:i=n
  ·simp only[e,if_true] at hFi;have:=hF b hFi;have:=g.size;omega
  ·simp only[View.put,e,if_false] at hi hFi
   exact g.frs i oi b hi hFi
 ·have:=g.size;omega
 ·intro b hb;rw[hold b (by have:=g.size;omega)];exact g.base b hb
 ·rw[ho];exact g.os
 ·rw[hp];exact g.out
 ·intro i oi c hi hFi
  by_cases e:i=n
  ·simp only[e,if_true] at hFi;have:=hF c hFi;left;omega
  ·simp only[View.put,e,if_false] at hi hFi
   exact .inr ⟨i,oi,hi,hFi⟩
 ·intro i oi c hi hFi
  by_cases e:i=n
  ·simp only[e,if_true] at hFi;have:=hD c hFi;left;omega
  ·simp only[View.put,e,if_false] at hi hFi
   exact .inr ⟨i,oi,hi,hFi⟩
 ·intro i oi hi
  by_cases e:i=n
  ·left;omega
  ·simp only[View.put,e,if_false] at hi;exact .inr ⟨oi,hi⟩
theorem Good.turn{W0:World}{ρ:Ren}{φ:Foot}{V:View E}{n:Nat}{w w':World}(g:Good W0 ρ φ V n w){i:Nat}{o:AObj E.X}(hi:V i=some o)(o':AObj E.X)
  (hsz:w'.heap.size=w.heap.size) (ho:w'.os=w.os) (hp:w'.output=w.output)
  (hold:∀c,¬(φ i).1 c→w'.heap[c]? = w.heap[c]?)
  (hrel:∀b s,ρ i=some (b,s)→ObjR E ρ o b s (φ i).1 (φ i).2 w→ObjR E ρ o' b s (φ i).1 (φ i).2 w') :
  Post W0 ρ φ V n w ρ φ (V.put i o') n w':=by
 have hV:∀j oj,V.put i o' j=some oj→∃ok,V j=some ok:=fun j oj h=>by
  by_cases e:j=i
  ·exact⟨o,e▸hi⟩
  ·simp only[View.put,e,if_false] at h;exact⟨oj,h⟩
 refine⟨⟨g.dom,?_,?_,?_,?_,?_,?_,?_,?_,?_⟩,Ren.le_refl ρ,Nat.le_refl n,by omega,fun c _ hF=>hold c (hF i o hi),?_,?_,?_,fun _ _=>rfl⟩
 ·intro j oj hj
  by_cases e:j=i
  ·subst e
   simp only[View.put,if_true] at hj
   injection hj with hj
   subst hj
   obtain⟨b,s,hb,hr⟩:=g.rel j o hi
   exact⟨b,s,hb,hrel b s hb hr⟩
  ·simp only[View.put,e,if_false] at hj
   obtain⟨b,s,hb,hr⟩:=g.rel j oj hj
   exact⟨b,s,hb,hr.frame (Ren.le_refl ρ) fun c hc=>hold c fun hF=>g.dis i j o oj c hi hj (fun h=>e h.symm) hF hc⟩
 ·intro j k oj ok b hj hk
  obtain⟨x,hx⟩:=hV j oj hj
  obtain⟨y,hy⟩:=hV k ok hk
  exact g.dis j k x y b hx hy
 ·intro j oj b hj;obtain⟨x,hx⟩:=hV j oj hj;exact g.sub j x b hx
 ·intro j oj b hj hD;obtain⟨x,hx⟩:=hV j oj hj;rw[hsz];exact g.lts j x b hx hD
 ·intro j oj b hj;obtain⟨x,hx⟩:=hV j oj hj;exact g.frs j x b hx
 ·rw[hsz];exact g.size
 ·intro b hb
  rw[hold b fun hF=>by have:=g.frs i o b hi hF;omega]
  exact g.base b hb
 ·rw[ho];exact g.os
 ·rw[hp];exact g.out
 ·intro j oj c hj hF;obtain⟨x,hx⟩:=hV j oj hj;exact .inr ⟨j,x,hx,hF⟩
 ·intro j oj c hj hF;obtain⟨x,hx⟩:=hV j oj hj;exact .inr ⟨j,x,hx,hF⟩
 ·intro j oj hj;exact .inr (hV j oj hj)
theorem Post.beside{W0:World}{ρ ρ':Ren}{φ φ':Foot}{V A B B':View E}{n n':Nat}{w w':World}
  (g:Good W0 ρ φ V n w) (hA:∀i o,A i=some o→V i=some o) (hB:∀i o,B i=some o→V i=some o) (hAB:∀i a b,A i=some a→B i=some b→False)
  (p:Post W0 ρ φ B n w ρ' φ' B' n' w') :
  ∃φ'',Post W0 ρ φ V n w ρ' φ'' (fun i=>(A i).or (B' i)) n' w':=by
 classical
 refine⟨fun i=>if(A i).isSome then φ i else φ' i,?_⟩
 have hA':∀i o,(A i).or (B' i)=some o→(A i=some o)∨(A i=none∧B' i=some o):=fun i o h=>by
  cases ha:A i with
  |none=>rw[ha] at h;exact .inr ⟨rfl,by simpa using h⟩
  |some x=>rw[ha] at h;simp at h;exact .inl (by rw[h])
 have hBlt:∀i o b,B' i=some o→(φ' i).2 b→b<w'.heap.size:=p.good.lts
 -- a block of A's is none of B's
 have hkeepA:∀i a c,A i=some a→(φ i).2 c→w'.heap[c]? = w.heap[c]? := fun i a c ha hc =>
  p.keep c (g.lts i a c (hA i a ha) hc) fun j b hb hF=>g.dis j i b a c (hB j b hb) (hA i a ha) (fun e=>hAB i a b ha (e▸hb)) hF hc
 refine⟨⟨p.good.dom,?_,?_,?_,?_,?_,p.good.size,p.good.base,p.good.os,p.good.out⟩,p.le,p.nle,p.sz,?_,?_,?_,?_,p.old⟩
 ·intro i o h
  rcases hA' i o h with ha|⟨ha,hb⟩
  ·obtain⟨b,s,hb,hr⟩:=g.rel i o (hA i o ha)
   simp only[ha,Option.isSome_some,if_true]
   exact⟨b,s,p.le _ _ hb,hr.frame p.le fun c hc=>hkeepA i o c ha hc⟩
  ·simp only[ha,Option.isSome_none,Bool.false_eq_true,if_false]
   exact p.good.rel i o hb
 ·intro i j oi oj c hi hj hne hF hD
  rcases hA' i oi hi with ha|⟨ha,hb⟩<;>rcases hA' j oj hj with ha'|⟨ha',hb'⟩
  ·simp only[ha,ha',Option.isSome_some,if_true] at hF hD
   exact g.dis i j oi oj c (hA _ _ ha) (hA _ _ ha') hne hF hD
  ·simp only[ha,ha',Option.isSome_some,Option.isSome_none,if_true,Bool.false_eq_true,if_false] at hF hD
   have hlt:=g.lts i oi c (hA _ _ ha) (g.sub i oi c (hA _ _ ha) hF)
   rcases p.fD j oj c hb' hD with h|⟨k,ok,hk,hD'⟩
   ·omega
   ·exact g.dis i k oi ok c (hA _ _ ha) (hB _ _ hk) (fun e=>hAB i oi ok ha (e▸hk)) hF hD'
  ·simp only[ha,ha',Option.isSome_some,Option.isSome_none,if_true,Bool.false_eq_true,if_false] at hF hD
   have hlt:=g.lts j oj c (hA _ _ ha') hD
   rcases p.fF i oi c hb hF with h|⟨k,ok,hk,hF'⟩
   ·omega
   ·exact g.dis k j ok oj c (hB _ _ hk) (hA _ _ ha') (fun e=>hAB j oj ok ha' (e▸hk)) hF' hD
  ·simp only[ha,ha',Option.isSome_none,Bool.false_eq_true,if_false] at hF hD
   exact p.good.dis i j oi oj c hb hb' hne hF hD
 ·intro i o c h hF
  rcases hA' i o h with ha|⟨ha,hb⟩
  ·simp only[ha,Option.isSome_some,if_true] at hF ⊢; exact g.sub i o c (hA _ _ ha) hF
  ·simp only[ha,Option.isSome_none,Bool.false_eq_true,if_false] at hF ⊢; exact p.good.sub i o c hb hF
 ·intro i o c h hD
  rcases hA' i o h with ha|⟨ha,hb⟩
  ·simp only[ha,Option.isSome_some,if_true] at hD;exact Nat.lt_of_lt_of_le (g.lts i o c (hA _ _ ha) hD) p.sz
  ·simp only[ha,Option.isSome_none,Bool.false_eq_true,if_false] at hD;exact p.good.lts i o c hb hD
 ·intro i o c h hF
  rcases hA' i o h with ha|⟨ha,hb⟩
  ·simp only[ha,Option.isSome_some,if_true] at hF;exact g.frs i o c (hA _ _ ha) hF
  ·simp only[ha,Option.isSome_none,Bool.false_eq_true,if_false] at hF;exact p.good.frs i o c hb hF
 ·intro c hc hF
  exact p.keep c hc fun i o hi=>hF i o (hB i o hi)
 ·intro i o c h hF
  rcases hA' i o h with ha|⟨ha,hb⟩
  ·simp only[ha,Option.isSome_some,if_true] at hF;exact .inr ⟨i,o,hA _ _ ha,hF⟩
  ·simp only[ha,Option.isSome_none,Bool.false_eq_true,if_false] at hF
   rcases p.fF i o c hb hF with h'|⟨j,oj,hj,hF'⟩
   ·exact .inl h'
   ·exact .inr ⟨j,oj,hB _ _ hj,hF'⟩
 ·intro i o c h hF
  rcases hA' i o h with ha|⟨ha,hb⟩
  ·simp only[ha,Option.isSome_some,if_true] at hF;exact .inr ⟨i,o,hA _ _ ha,hF⟩
  ·simp only[ha,Option.isSome_none,Bool.false_eq_true,if_false] at hF
   rcases p.fD i o c hb hF with h'|⟨j,oj,hj,hF'⟩
   ·exact .inl h'
   ·exact .inr ⟨j,oj,hB _ _ hj,hF'⟩
 ·intro i o h
  rcases hA' i o h with ha|⟨ha,hb⟩
  ·exact .inr ⟨o,hA _ _ ha⟩
  ·rcases p.ids i o hb with h'|⟨x,hx⟩
   ·exact .inl h'
   ·exact .inr ⟨x,hB _ _ hx⟩
end Go.AI
/- The evaluator: what it makes of the model's operations, and what it does with them. No program is named here. -/
namespace Go.AI
def half(k:IntKind):Nat:=match k with| .i8=>128 | .i16=>32768 | .i32=>2147483648 | .i64=>9223372036854775808 | .u8=>128 | .u16=>32768 | .u32=>2147483648 | .u64=>9223372036854775808
def full(k:IntKind):Nat:=match k with| .i8 | .u8=>256 | .i16 | .u16=>65536 | .i32 | .u32=>4294967296 | .i64 | .u64=>18446744073709551616
def wrapF(k:IntKind)(n:Int):Int :=
 match n with
 | .ofNat m=>bif Nat.blt m (half k) then .ofNat m else match k with
  | .u8 | .u16 | .u32 | .u64=>.ofNat (Nat.mod m (full k))
  |_=>k.wrap (.ofNat m)
 | .negSucc m=>match k with
  | .i8 | .i16 | .i32 | .i64=>bif Nat.blt m (half k) then .negSucc m else k.wrap (.negSucc m)
  |_=>k.wrap (.negSucc m)
def iltF(x y:Int):Bool :=
 match x,y with
 | .ofNat a,.ofNat b=>Nat.blt a b
 | .ofNat _,.negSucc _=>false
 | .negSucc _,.ofNat _=>true
 | .negSucc a,.negSucc b=>Nat.blt b a
def ieqF(x y:Int):Bool :=
 match x,y with
 | .ofNat a,.ofNat b=>Nat.beq a b
 | .negSucc a,.negSucc b=>Nat.beq a b
 |_,_=>false
def bitsS(op:BinOp)(k:IntKind)(x y:Int):Option Int :=
 let a:=BitVec.ofInt k.bits x
 let b:=BitVec.ofInt k.bits y
 match op with
 | .and=>some (k.wrap (a &&& b).toNat)
 | .or=>some (k.wrap (a ||| b).toNat)
 | .xor=>some (k.wrap (a ^^^ b).toNat)
 | .andNot=>some (k.wrap (a &&& ~~~b).toNat)
 |_=>none
def bitsF(op:BinOp)(k:IntKind)(x y:Int):Option Int :=
 match x,y with
 | .ofNat a,.ofNat b=>bif Nat.blt a (full k)&&Nat.blt b (full k) then
   match op with
   | .and=>some (wrapF k (.ofNat (Nat.land a b)))
   | .or=>some (wrapF k (.ofNat (Nat.lor a b)))
   | .xor=>some (wrapF k (.ofNat (Nat.xor a b)))
   | .andNot=>some (wrapF k (.ofNat (Nat.land a (Nat.sub (Nat.sub (full k) 1) b))))
   |_=>none
  else bitsS op k x y
 |_,_=>bitsS op k x y
def shiftF(op:BinOp)(k:IntKind)(x y:Int):Option Int :=
 match y with
 | .negSucc _=>none
 | .ofNat n =>
  let m:=bif Nat.blt n k.bits then n else k.bits
  match op with
  | .shl=>match x with
   | .ofNat a=>some (wrapF k (.ofNat (Nat.mul a (Nat.pow 2 m))))
   | .negSucc _=>some (k.wrap (x*2 ^ m))
  | .shr=>match x with
   | .ofNat a=>some (.ofNat (Nat.div a (Nat.pow 2 m)))
   | .negSucc _=>some (x.fdiv (2 ^ m))
  |_=>none
def divF(op:BinOp)(k:IntKind)(x y:Int):Option Int :=
 match x,y with
 |_,.ofNat 0=>none
 | .ofNat a,.ofNat (b+1)=>match op with
  | .quo=>some (wrapF k (.ofNat (Nat.div a (b+1))))
  | .rem=>some (.ofNat (Nat.mod a (b+1)))
  |_=>none
 |_,_=>match op with
  | .quo=>some (k.wrap (x.tdiv y))
  | .rem=>some (x.tmod y)
  |_=>none
def intBin(op:BinOp)(k:IntKind)(x:Int)(j:IntKind)(y:Int):Option Value :=
 match op with
 | .shl | .shr=>(shiftF op k x y).map (.int k)
 | .add=>if k=j then some (.int k (wrapF k (x+y))) else none
 | .sub=>if k=j then some (.int k (wrapF k (x-y))) else none
 | .mul=>if k=j then some (.int k (wrapF k (x*y))) else none
 | .quo | .rem=>if k=j then(divF op k x y).map (.int k) else none
 | .and | .or | .xor | .andNot=>if k=j then(bitsF op k x y).map (.int k) else none
 | .eql=>if k=j then some (.bool (ieqF x y)) else none
 | .neq=>if k=j then some (.bool (!ieqF x y)) else none
 | .lss=>if k=j then some (.bool (iltF x y)) else none
 | .leq=>if k=j then some (.bool (!iltF y x)) else none
 | .gtr=>if k=j then some (.bool (iltF y x)) else none
 | .geq=>if k=j then some (.bool (!iltF x y)) else none
def bytesEq:List UInt8→List UInt8→Bool
 |[],[]=>true
 |a::x,b::y=>a == b&&bytesEq x y
 |_,_=>false
def strBin(op:BinOp)(x y:ByteArray):Option Value :=
 match op with
 | .add=>if x.size+y.size≤9223372036854775807 then some (.string ⟨⟨x.data.toList++y.data.toList⟩⟩) else none
 | .eql=>some (.bool (bytesEq x.data.toList y.data.toList))
 | .neq=>some (.bool (!bytesEq x.data.toList y.data.toList))
 | .lss=>some (.bool (Op.bytesLess x.data.toList y.data.toList))
 | .gtr=>some (.bool (!(Op.bytesLess x.data.toList y.data.toList||bytesEq x.data.toList y.data.toList)))
 | .leq=>some (.bool (Op.bytesLess x.data.toList y.data.toList||bytesEq x.data.toList y.data.toList))
 | .geq=>some (.bool (!Op.bytesLess x.data.toList y.data.toList))
 |_=>none
inductive Opd where
 |t (n:Nat)
 |c (v:Value)
inductive LK where
 |int|bool|str
inductive EqK where
 |num|ptr|slc|iface|func|agg (ks:List LK)|no
inductive PureOp where
 |mv (x:Opd)
 |pick (c a b:Opd)
 |bin (op:BinOp) (e:EqK) (x y:Opd)
 |not (x:Opd)
 |neg (x:Opd)
 |com (x:Opd)
 |conv (k:IntKind) (x:Opd)
 |same (x:Opd)
 |slS (x:Opd) (lo hi:Option Opd)
 |slL (e:Nat) (x:Opd) (lo hi mx:Option Opd)
 |slA (n e:Nat) (x:Opd) (lo hi mx:Option Opd)
 |nilck (x:Opd)
 |fadd (off:Nat) (x:Opd)
 |idxL (e:Nat) (x i:Opd)
 |idxA (n e:Nat) (x i:Opd)
 |idxS (x i:Opd)
 |idxG (n e:Nat) (agg:Bool) (x i:Opd)
 |fld (off n:Nat) (agg:Bool) (x:Opd)
 |ext (k:Nat) (x:Opd)
 |mkfn (f:Nat) (cs:List Opd)
 |build (zero:List Value) (ps:List (Nat×Nat×Opd))
 |len (x:Opd)
 |lens (x:Opd)
 |alen (n:Nat)
 |cap (x:Opd)
 |max (xs:List Opd)
 |min (xs:List Opd)
inductive IOp where
 |pure (d:Nat) (p:PureOp)
 |load (d n:Nat) (agg:Bool) (a:Opd)
 |store (n:Nat) (a x:Opd)
 |new (d:Nat) (heap:Bool) (cs:List Value)
 |box (d:Nat) (heap:Bool) (x:Opd)
 |bslice (d n e:Nat) (zero:List Value) (ps:List (Nat×Opd))
 |mslice (d e b:Nat) (zero:List Value) (l c:Opd)
 |s2b (d t:Nat) (x:Opd)
 |b2s (d:Nat) (x:Opd)
 |append (d e b t:Nat) (x y:Opd)
 |copy (d e:Nat) (x y:Opd)
 |clear (d:Option Nat) (e:Nat) (zero:List Value) (x:Opd)
 |call (d:Option Nat) (f:Opd) (xs:List Opd)
 |mmap (d:Nat)
 |mget (d:Nat) (zero:List Value) (agg ok:Bool) (m k:Opd)
 |mset (m k x:Opd)
 |ment (d:Nat) (zero:List Value) (agg:Bool) (m k:Opd)
 |ests (m s x:Opd)
 |mlen (d:Nat) (m:Opd)
 |mclr (d:Nat) (m:Opd)
 |newt (d:Nat) (heap:Bool) (t:Nat) (cs:List Value)
 |tou (d t:Nat) (x:Opd)
 |fromu (d t n:Nat) (x:Opd)
 |usd (d:Nat) (x:Opd)
 |ustr (d t:Nat) (x n:Opd)
 |appz (d e b t:Nat) (z:List Value) (x n:Opd)
inductive ICode where
 |skip
 |ops (l:List (Option (Nat×Bool)×IOp))
 |drawn (l:List (Option (Nat×Bool)×IOp)) (bf:List (List Nat))
 |seq (a b:ICode)
 |cond (c:Opd) (a b:ICode)
 |block (id:Nat) (a:ICode)
 |loop (a:ICode)
 |exit (id:Nat)
 |ret
def okFlat:Value→Bool
 | .bool _ | .int _ _ | .string _ | .pointer none | .slice none _ _ | .map none | .nilFunc | .nilIface=>true
 |_=>false
def okConst:Value→Bool
 | .agg cs=>cs.toList.all okFlat
 |v=>okFlat v
def mkOpd:Operand→Option Opd
 | .tmp t=>some (.t t)
 | .const v=>if okConst v then some (.c v) else none
 | .func f=>some (.c (.func (.func f) #[] #[]))
 | .global _=>none
def mkOpt:Option Operand→Option (Option Opd)
 |none=>some none
 |some x=>(mkOpd x).map some
def mkOpds:List Operand→Option (List Opd)
 |[]=>some []
 |x::r=>match mkOpd x,mkOpds r with
  |some y,some s=>some (y::s)
  |_,_=>none
section
variable (P:Program)
def zeroOf(t:TypeId):Option (List Value) :=
 match P.info? t with
 |some i=>match i.zero with
  |some z=>if z.cells.toList.all okFlat&&Nat.beq z.cells.size i.size then some z.cells.toList else none
  |none=>none
 |none=>none
def sizeT(t:TypeId):Option Nat:=(P.info? t).map (·.size)
def aggT(t:TypeId):Option Bool :=
 match P.underlying t with
 |some (.struct _)|some (.array _ _)=>some true
 |some _=>some false
 |none=>none
def zInt(t:TypeId):Option Value:=match P.info? t with
 |some i=>match i.zero with
  |some (.int k n)=>some (.int k n)
  |_=>none
 |none=>none
def leafT(t:TypeId):Option LK :=
 bif Nat.beq (((P.info? t).map (·.size)).getD 0) 1 then(match P.underlying t with
 |some (.int _)=>some .int
 |some .bool=>some .bool
 |some .string=>some .str
 |_=>none) else none
def leafStruct(fs:List Field):Nat→Option (List LK)
 |off=>match fs with
  |[]=>some []
  |f::r=>match leafT P f.type,leafStruct r (off+1) with
   |some k,some s=>bif f.name != "_" && Nat.beq f.offset off then some (k::s) else none
   |_,_=>none
def eqk(t:TypeId):EqK :=
 match P.underlying t with
 |some .bool=>.num
 |some (.pointer e)=>match P.info? e with
  |some i=>if i.size=0 then .no else .ptr
  |none=>.no
 |some (.slice _)=>.slc
 |some (.interface _)=>.iface
 |some (.func _ _ _)=>.func
 |some (.struct fs)=>match leafStruct P fs.toList 0 with
  |some ks=>if !P.stoodInHeld t&&!P.eqGuardType P.depth t then .agg ks else .no
  |none=>.no
 |_=>.no
def mkParts(place:Nat→Option (Nat×Nat)):List (Nat×Operand)→Option (List (Nat×Nat×Opd))
 |[]=>some []
 |(i,x)::r=>match place i,mkOpd x,mkParts place r with
  |some (off,n),some y,some s=>some ((off,n,y)::s)
  |_,_,_=>none
def mkRow:List (Nat×Operand)→Option (List (Nat×Opd))
 |[]=>some []
 |(i,x)::r=>match mkOpd x,mkRow r with
  |some y,some s=>some ((i,y)::s)
  |_,_=>none
def fieldPlaces:List Field→Option (List (Nat×Nat))
 |[]=>some []
 |f::r=>match sizeT P f.type,fieldPlaces r with
  |some n,some s=>some ((f.offset,n)::s)
  |_,_=>none
def mkBuiltin(b:Builtin)(xs:List Opd)(t:Option TypeId):Option PureOp :=
 match b with
 | .max=>some (.max xs)
 | .min=>some (.min xs)
 | .len=>match xs with
  |[x]=>match t with
   |some t=>match P.underlying t with
    |some .string=>some (.lens x)
    |some (.slice _)=>some (.len x)
    |some (.array n _)=>some (.alen n)
    |_=>none
   |none=>none
  |_=>none
 | .cap=>match xs with
  |[x]=>match t with
   |some t=>match P.underlying t with
    |some (.slice _)=>some (.cap x)
    |_=>none
   |none=>none
  |_=>none
 |_=>none
def mkPure:Op→Option PureOp
 | .move x | .assign x=>(mkOpd x).map .mv
 | .pick c a b=>match mkOpd c,mkOpd a,mkOpd b with
  |some c,some a,some b=>some (.pick c a b)
  |_,_,_=>none
 | .binOp op t x y _=>match mkOpd x,mkOpd y with
  |some x,some y=>some (.bin op (eqk P t) x y)
  |_,_=>none
 | .unOp op _ x=>match op with
  | .not=>(mkOpd x).map .not
  | .neg=>(mkOpd x).map .neg
  | .xor=>(mkOpd x).map .com
  |_=>none
 | .convert s d x=>match P.underlying s,P.underlying d with
  |some _,some (.int k)=>(mkOpd x).map (.conv k)
  |some .string,some .string=>(mkOpd x).map .same
  |_,_=>none
 | .slice t x lo hi mx=>match mkOpd x,mkOpt lo,mkOpt hi,mkOpt mx with
  |some x,some lo,some hi,some mx=>match P.underlying t with
   |some .string=>match mx with|none=>some (.slS x lo hi)|some _=>none
   |some (.slice e)=>(sizeT P e).map fun n=>.slL n x lo hi mx
   |some (.array n e)=>(sizeT P e).map fun m=>.slA n m x lo hi mx
   |_=>none
  |_,_,_,_=>none
 | .nilCheck x=>(mkOpd x).map .nilck
 | .fieldAddr s x f=>match P.underlying s with
  |some (.struct fs)=>match fs[f]? with
   |some f=>match P.info? f.type with
    |some i=>if i.size=0 then none else(mkOpd x).map (.fadd f.offset)
    |none=>none
   |none=>none
  |_=>none
 | .indexAddr t x i=>match mkOpd x,mkOpd i with
  |some x,some i=>match P.underlying t with
   |some (.slice e)=>(sizeT P e).map fun n=>.idxL n x i
   |some (.array n e)=>(sizeT P e).map fun m=>.idxA n m x i
   |_=>none
  |_,_=>none
 | .index t x i=>match mkOpd x,mkOpd i with
  |some x,some i=>match P.underlying t with
   |some .string=>some (.idxS x i)
   |some (.array n e)=>match sizeT P e,aggT P e with
    |some m,some a=>some (.idxG n m a x i)
    |_,_=>none
   |_=>none
  |_,_=>none
 | .field t x f=>match P.underlying t with
  |some (.struct fs)=>match fs[f]? with
   |some f=>match sizeT P f.type,aggT P f.type,mkOpd x with
    |some n,some a,some x=>some (.fld f.offset n a x)
    |_,_,_=>none
   |none=>none
  |_=>none
 | .extract t k=>(mkOpd t).map (.ext k)
 | .makeFunc fn first cs=>match fn,first.toList with
  | .func f,[]=>(mkOpds cs.toList).map (.mkfn f)
  |_,_=>none
 | .build t ps=>match zeroOf P t with
  |some z=>match P.underlying t with
   |some (.struct fs)=>match fieldPlaces P fs.toList with
    |some pl=>(mkParts (pl[·]?) ps.toList).map (.build z)
    |none=>none
   |some (.array _ e)=>match sizeT P e with
    |some n=>(mkParts (fun i=>some (i*n,n)) ps.toList).map (.build z)
    |none=>none
   |_=>none
  |none=>none
 | .call { callee:=.builtin b,args:=as,argTypes:=ts }=>match mkOpds as.toList with
  |some xs=>mkBuiltin P b xs ts[0]?
  |none=>none
 |_=>none
def selfPtr(t:TypeId):Bool :=
 match P.underlying t with
 |some (.struct fs)=>match fs.toList with
  |f::_=>match P.underlying f.type with
   |some (.pointer u)=>Nat.beq u t
   |_=>false
  |[]=>false
 |_=>false
def mkOp1(esc:Nat→Bool)(N:Nat)(o:Oper):Option IOp :=
 match o.dst with
 |some d=>bif Nat.blt d N then(match mkPure P o.op with
  |some p=>some (.pure d p)
  |none=>match o.op with
   | .load t a=>match aggT P t,sizeT P t,mkOpd a with
    |some g,some n,some a=>if g&&Nat.beq n 0 then none else some (.load d (bif g then n else 1) g a)
    |_,_,_=>none
   | .alloc t=>match zeroOf P t with
    |some z=>if selfPtr P t=true then some (.newt d (esc d) t z) else some (.new d (esc d) z)
    |none=>none
   | .box _ x=>(mkOpd x).map (.box d (esc d))
   | .buildSlice t n ps=>match P.underlying t with
    |some (.slice e)=>match zeroOf P e,sizeT P e,mkRow ps.toList with
     |some z,some m,some ps=>if n*m≤16777216 then some (.bslice d n m z ps) else none
     |_,_,_=>none
    |_=>none
   | .makeSlice t l c=>match P.underlying t with
    |some (.slice e)=>match P.info? e with
     |some i=>match zeroOf P e,mkOpd l,mkOpd c with
      |some z,some l,some c=>some (.mslice d i.size i.bytes z l c)
      |_,_,_=>none
     |none=>none
    |_=>none
   | .convert s t x=>match P.underlying s,P.underlying t with
    |some .string,some (.slice e)=>match P.underlying e with
     |some (.int .u8)=>(mkOpd x).map (.s2b d e)
     |_=>none
    |some (.slice e),some .string=>match P.underlying e with
     |some (.int .u8)=>(mkOpd x).map (.b2s d)
     |_=>none
    |some (.pointer u),some .unsafePointer=>match P.info? u with
     |some j=>if j.size=0 then none else(mkOpd x).map (.tou d u)
     |none=>none
    |some .unsafePointer,some (.pointer u)=>match P.info? u with
     |some j=>if liesAt P P.depth u (j.size / P.cellsOf u) 0 u 1=true then(mkOpd x).map (.fromu d u j.size) else none
     |none=>none
    |_,_=>none
   | .call { callee:=.value f,args:=as,argTypes:=_ }=>match mkOpd f,mkOpds as.toList with
    |some f,some xs=>some (.call (some d) f xs)
    |_,_=>none
   | .call { callee:=.builtin b,args:=as,argTypes:=ts }=>match mkOpds as.toList,ts[0]? with
    |some xs,some t=>match b,xs,P.underlying t with
     | .append,[x,y],some (.slice e)=>match P.info? e,ts[1]? with
      |some i,some u=>match zeroOf P e,P.underlying u with
       |some _,some (.slice _)|some _,some .string=>if i.bytes=0||i.size=0 then none else some (.append d i.size i.bytes e x y)
       |some z,some (.int _)=>if(i.bytes=0||i.size=0)||!(Nat.beq ts.size 2) then none else some (.appz d i.size i.bytes e z x y)
       |_,_=>none
      |_,_=>none
     | .copy,[x,y],some (.slice e)=>match sizeT P e with
      |some n=>if n=0 then none else some (.copy d n x y)
      |none=>none
     | .clear,[x],some (.slice e)=>(zeroOf P e).map fun z=>.clear (some d) z.length z x
     | .len,[m],some (.map _ _)=>some (.mlen d m)
     | .unsafeSliceData,[x],some (.slice _)=>some (.usd d x)
     | .unsafeString,[x,y],some (.pointer e)=>if P.cellsOf e=1 then some (.ustr d e x y) else none
     |_,_,_=>none
    |_,_=>none
   | .makeMap _ none=>some (.mmap d)
   | .lookup t m k ok=>match P.underlying t with
    |some (.map kt e)=>match P.underlying kt,zInt P e,mkOpd m,mkOpd k with
     |some (.int _),some z,some m,some k=>some (.mget d [z] false ok m k)
     |_,_,_,_=>none
    |_=>none
   | .mapEntry t m k=>match P.underlying t with
    |some (.map kt e)=>match P.underlying kt,zInt P e,mkOpd m,mkOpd k with
     |some (.int _),some z,some m,some k=>some (.ment d [z] false m k)
     |_,_,_,_=>none
    |_=>none
   |_=>none) else none
 |none=>match o.op with
  | .store t a x=>match sizeT P t,mkOpd a,mkOpd x with
   |some n,some a,some x=>some (.store n a x)
   |_,_,_=>none
  | .call { callee:=.value f,args:=as,argTypes:=_ }=>match mkOpd f,mkOpds as.toList with
   |some f,some xs=>some (.call none f xs)
   |_,_=>none
  | .call { callee:=.builtin .clear,args:=as,argTypes:=ts }=>match mkOpds as.toList,ts[0]? with
   |some [x],some t=>match P.underlying t with
    |some (.slice e)=>match zeroOf P e with
     |some z=>some (.clear none z.length z x)
     |none=>none
    |_=>none
   |_,_=>none
  | .mapUpdate t m k x=>match P.underlying t with
   |some (.map kt _)=>match P.underlying kt,mkOpd m,mkOpd k,mkOpd x with
    |some (.int _),some m,some k,some x=>some (.mset m k x)
    |_,_,_,_=>none
   |_=>none
  | .entryStore _ m s x=>match mkOpd m,mkOpd s,mkOpd x with
   |some m,some s,some x=>some (.ests m s x)
   |_,_,_=>none
  |_=>none
def badOp:Option Nat→IOp
 |some d=>.mclr d (.c .nilFunc)
 |none=>.mset (.c .nilFunc) (.c .nilFunc) (.c .nilFunc)
def mkOp(esc:Nat→Bool)(N:Nat)(o:Oper):Option IOp :=
 match mkOp1 P esc N o with
 |some i=>some i
 |none=>bif (match o.dst with|some d=>Nat.blt d N|none=>true) then some (badOp o.dst) else none
def mkGuard(ops:List Oper):Option (Nat×Bool)→Option (Option (Nat×Bool))
 |none=>some none
 |some (j,w)=>match ops[j]? with
  |some o=>o.dst.map fun d=>some (d,w)
  |none=>none
def mkOps(esc:Nat→Bool)(N:Nat)(all:List Oper):List Oper→Option (List (Option (Nat×Bool)×IOp))
 |[]=>some []
 |o::r=>match mkGuard all o.guard,mkOp P esc N o,mkOps esc N all r with
  |some g,some i,some s=>some ((g,i)::s)
  |_,_,_=>none
def IOp.dst:IOp→Option Nat
 | .pure d _ | .load d _ _ _ | .new d _ _ | .box d _ _ | .bslice d _ _ _ _ | .mslice d _ _ _ _ _ | .s2b d _ _ | .b2s d _ | .append d _ _ _ _ _ | .copy d _ _ _ | .mmap d | .mget d _ _ _ _ _ | .ment d _ _ _ _ | .mlen d _ | .mclr d _ | .newt d _ _ _ | .tou d _ _ | .fromu d _ _ _ | .usd d _ | .ustr d _ _ _ | .appz d _ _ _ _ _ _=>some d
 | .store _ _ _ | .mset _ _ _ | .ests _ _ _=>none
 | .call d _ _ | .clear d _ _ _=>d
def slotsOnce:List (Option (Nat×Bool)×IOp)→Bool
 |[]=>true
 |(_,i)::r=>(match i.dst with|some d=>r.all (fun x=>match x.2.dst with|some e=>!Nat.beq d e|none=>true)|none=>true)&&slotsOnce r
def bfOk:Nat→List (List Nat)→Bool
 |_,[]=>true
 |k,l::r=>l.all (fun i=>Nat.blt i k)&&bfOk (Nat.succ k) r
def fNat{β:Type}(n:Nat)(k:Nat→β):β:=match n with
 |0=>k 0
 |m+1=>k (m+1)
theorem fNat_eq{β:Type}(n:Nat)(k:Nat→β):fNat n k=k n:=by cases n<;>rfl
def fList{β:Type}:List Nat→(List Nat→β)→β
 |[],k=>k []
 |x::r,k=>fNat x fun x=>fList r fun r=>k (x::r)
theorem fList_eq{β:Type}:∀(l:List Nat) (k:List Nat→β),fList l k=k l
 |[],k=>rfl
 |x::r,k=>by simp only[fList,fNat_eq,fList_eq r]
def fSpine{α β:Type}:List α→(List α→β)→β
 |[],k=>k []
 |x::r,k=>fSpine r fun r=>k (x::r)
theorem fSpine_eq{α β:Type}:∀(l:List α) (k:List α→β),fSpine l k=k l
 |[],k=>rfl
 |x::r,k=>by simp only[fSpine,fSpine_eq r]
def undup:List Nat→Nat→List Nat
 |[],_=>[]
 |x::r,m=>bif Nat.testBit m x then undup r m else x::undup r (Nat.lor m (Nat.shiftLeft 1 x))
theorem mem_undup{i:Nat}:∀(l:List Nat) (m:Nat),(i∈undup l m→i∈l)∧(i∈l→m.testBit i=false→i∈undup l m)
 |[],m=>by simp[undup]
 |x::r,m=>by
  simp only[undup]
  cases h:m.testBit x with
  |true =>
   rw[cond_true]
   obtain⟨h1,h2⟩:=mem_undup (i:=i) r m
   refine⟨fun h=>List.mem_cons_of_mem _ (h1 h),fun hi hm=>?_⟩
   rcases List.mem_cons.1 hi with rfl|hi
   ·rw[h] at hm;cases hm
   ·exact h2 hi hm
  |false =>
   rw[cond_false]
   obtain⟨h1,h2⟩:=mem_undup (i:=i) r (Nat.lor m (Nat.shiftLeft 1 x))
   refine⟨fun hi=>?_,fun hi hm=>?_⟩
   ·rcases List.mem_cons.1 hi with rfl|hi
    ·exact List.mem_cons_self ..
    ·exact List.mem_cons_of_mem _ (h1 hi)
   ·rcases List.mem_cons.1 hi with rfl|hi
    ·exact List.mem_cons_self ..
    ·by_cases e:i=x
     ·rw[e];exact List.mem_cons_self ..
     ·refine List.mem_cons_of_mem _ (h2 hi ?_)
      have h3:Nat.lor m (Nat.shiftLeft 1 x)=m ||| 2 ^ x:=by
       show m ||| (1 <<< x)=_
       rw[Nat.one_shiftLeft]
      rw[h3,Nat.testBit_or,Nat.testBit_two_pow,hm]
      have:decide (x=i)=false:=by simp only[decide_eq_false_iff_not];exact fun h=>e h.symm
      rw[this];rfl
def ahead(es:List Nat)(bf:List (List Nat)):List Nat:=undup (es++(es.map fun k=>bf.getD k []).flatten) 0
theorem mem_ahead{i:Nat}{es:List Nat}{bf:List (List Nat)}:i∈ahead es bf↔i∈es++(es.map fun k=>bf.getD k []).flatten :=
 ⟨(mem_undup _ 0).1,fun h=>(mem_undup _ 0).2 h (Nat.zero_testBit i)⟩
def befores:List Oper→List (List Nat)→List (List Nat)
 |[],acc=>acc
 |o::r,acc=>fList (ahead ((o.after.toList.filter (Region.binds .any)).map (·.on)) acc) fun l=>fSpine (acc++[l]) fun acc=>befores r acc
theorem befores_cons(o:Oper)(r:List Oper)(acc:List (List Nat)):befores (o::r) acc=befores r (acc++[ahead ((o.after.toList.filter (Region.binds .any)).map (·.on)) acc]):=by
 simp only[befores,fList_eq,fSpine_eq]
def mkCode(esc:Nat→Bool)(N:Nat):Code→Option ICode
 | .skip=>some .skip
 | .region _ os false=>(mkOps P esc N os.toList os.toList).map .ops
 | .region _ os true=>match mkOps P esc N os.toList os.toList with
  |some l=>bif slotsOnce l&&bfOk 0 (befores os.toList []) then some (.drawn l (befores os.toList [])) else none
  |none=>none
 | .seq a b=>match mkCode esc N a,mkCode esc N b with
  |some x,some y=>some (.seq x y)
  |_,_=>none
 | .cond c a b=>match mkOpd c,mkCode esc N a,mkCode esc N b with
  |some c,some x,some y=>some (.cond c x y)
  |_,_,_=>none
 | .block id a=>(mkCode esc N a).map (.block id)
 | .loop a=>(mkCode esc N a).map .loop
 | .exit id=>some (.exit id)
 | .ret=>some .ret
 |_=>some (.cond (.c .nilFunc) .skip .skip)
inductive IRes where
 |tmp (t:Nat)
 |cell (t n:Nat) (g:Bool)
structure IFn where
 code:ICode
 n:Nat
 res:List IRes
def mkRes:List ResultVar→Option (List IRes)
 |[]=>some []
 | .tmp t::r=>(mkRes r).map (.tmp t::·)
 | .cell a t::r=>match aggT P t,sizeT P t,mkRes r with
  |some g,some n,some s=>if g&&Nat.beq n 0 then none else some (.cell a (bif g then n else 1) g::s)
  |_,_,_=>none
def mkFn(esc:Nat→Nat→Bool)(f:Nat):Option IFn :=
 match P.funcs[f]? with
 |some fn=>match fn.body with
  |some c=>match mkCode P (esc f) fn.ntmps c,mkRes P fn.results.toList with
   |some ic,some rs=>if fn.name == "runtime.NumGoroutine" then none else some ⟨ic,fn.ntmps,rs⟩
   |_,_=>none
  |none=>none
 |none=>none
end
structure Fr(X:Type) where
 env:List (Nat×Value)
 loc:List (Nat×AObj X)
structure Heap(X:Type) where
 next:Nat
 tbl:List (Nat×AObj X)
section
variable {X:Type}
def evo(env:List (Nat×Value)):Opd→Option Value
 | .t n=>look n env
 | .c v=>some v
def evs(env:List (Nat×Value)):List Opd→Option (List Value)
 |[]=>some []
 |x::r=>match evo env x,evs env r with
  |some v,some s=>some (v::s)
  |_,_=>none
def evopt(env:List (Nat×Value)):Option Opd→Option (Option Value)
 |none=>some none
 |some x=>(evo env x).map some
def natOf:Value→Option Nat
 | .int _ (.ofNat n)=>some n
 |_=>none
def natOpt(d:Nat):Option Value→Option Nat
 |none=>some d
 |some v=>natOf v
def cellEq:LK→Value→Value→Option Bool
 | .int,.int j a,.int k b=>if j=k then some (ieqF a b) else none
 | .bool,.bool a,.bool b=>some (a == b)
 | .str,.string a,.string b=>some (bytesEq a.data.toList b.data.toList)
 |_,_,_=>none
def cellsEq:List LK→List Value→List Value→Option Bool
 |[],[],[]=>some true
 |k::s,a::x,b::y=>match cellEq k a b with
  |some true=>cellsEq s x y
  |some false=>some false
  |none=>none
 |_,_,_=>none
def eqVal(e:EqK)(x y:Value):Option Bool :=
 match e,x,y with
 | .num,.bool a,.bool b=>some (a == b)
 | .ptr,.pointer none,.pointer b=>some b.isNone
 | .ptr,.pointer (some _),.pointer none=>some false
 | .ptr,.pointer (some a),.pointer (some b)=>bif Nat.beq a.block b.block then some (Nat.beq a.off b.off) else none
 | .slc,.slice none _ _,.slice b _ _=>some b.isNone
 | .slc,.slice (some _) _ _,.slice none _ _=>some false
 | .func,.nilFunc,.nilFunc=>some true
 | .func,.nilFunc,.func _ _ _=>some false
 | .func,.func _ _ _,.nilFunc=>some false
 | .agg ks,.agg a,.agg b=>cellsEq ks a.toList b.toList
 |_,_,_=>none
def binVal(op:BinOp)(e:EqK)(x y:Value):Option Value :=
 match x,y with
 | .int k a,.int j b=>intBin op k a j b
 | .string a,.string b=>strBin op a b
 |x,y=>match op with
  | .eql=>(eqVal e x y).map .bool
  | .neq=>(eqVal e x y).map fun b=>.bool (!b)
  |_=>none
def bounds(len cap:Nat)(lo hi mx:Option Value):Option (Nat×Nat×Nat) :=
 match natOpt cap mx with
 |none=>none
 |some m=>match natOpt len hi with
  |none=>none
  |some h=>match natOpt 0 lo with
   |none=>none
   |some l=>bif Nat.ble m cap&&(Nat.ble h m&&Nat.ble l h)&&(hi.isSome||mx.isNone) then some (l,h,m) else none
def sliceL(e:Nat)(a:Option Addr)(len cap:Nat)(lo hi mx:Option Value):Option Value :=
 match bounds len cap lo hi mx with
 |none=>none
 |some (l,h,m)=>match a with
  |none=>some (.slice none (h-l) (m-l))
  |some ⟨i,o,none⟩=>match mx with
   |none=>bif Nat.blt l m||Nat.beq l 0 then some (.slice (some ⟨i,o+l*e,none⟩) (h-l) (m-l)) else some (.slice (some ⟨i,o,some 0⟩) 0 0)
   |some _=>bif Nat.beq m l then some (.slice (some ⟨i,o,some 1⟩) 0 0) else some (.slice (some ⟨i,o+l*e,some 1⟩) (h-l) (m-l))
  |some ⟨i,o,some 1⟩=>bif Nat.beq m l then some (.slice (some ⟨i,o,some 1⟩) 0 0) else some (.slice (some ⟨i,o+l*e,some 1⟩) (h-l) (m-l))
  |some ⟨i,o,some 0⟩=>some (.slice (some ⟨i,o,some 0⟩) 0 0)
  |_=>none
def maxes:Value→List Value→Option Value
 |v,[]=>some v
 | .int k x,.int j y::r=>if j=k then maxes (.int k (bif iltF x y then y else x)) r else none
 |_,_=>none
def mines:Value→List Value→Option Value
 |v,[]=>some v
 | .int k x,.int j y::r=>if j=k then mines (.int k (bif iltF y x then y else x)) r else none
 |_,_=>none
def over:List Value→List Value→List Value
 |cs,[]=>cs
 |[],_=>[]
 |_::cs,v::vs=>v::over cs vs
def splice:List Value→Nat→List Value→List Value
 |cs,0,vs=>over cs vs
 |[],_,_=>[]
 |c::cs,n+1,vs=>c::splice cs n vs
def cellsV:Value→Option (List Value)
 | .agg cs=>some cs.toList
 | .tuple _=>none
 |v=>some [v]
def fillp(env:List (Nat×Value)):List Value→List (Nat×Nat×Opd)→Option (List Value)
 |cs,[]=>some cs
 |cs,(off,n,x)::r=>match evo env x with
  |some v=>match cellsV v with
   |some vs=>bif Nat.beq vs.length n&&Nat.ble (off+n) cs.length then fillp env (splice cs off vs) r else none
   |none=>none
  |none=>none
def ptrs:List Value→Option (List Addr)
 |[]=>some []
 | .pointer (some a)::r=>(ptrs r).map (a::·)
 |_=>none
def bytesAt:List UInt8→Nat→Option UInt8
 |[],_=>none
 |b::_,0=>some b
 |_::r,n+1=>bytesAt r n
def oneOf(agg:Bool)(cs:List Value):Option Value :=
 bif agg then some (.agg ⟨cs⟩) else match cs with
  |[v]=>some v
  |_=>none
def takeN(cs:List Value)(off n:Nat):Option (List Value) :=
 let r:=(cs.drop off).take n
 bif Nat.beq r.length n then some r else none
def peval(env:List (Nat×Value)):PureOp→Option Value
 | .mv x=>evo env x
 | .pick c a b=>match evo env c with
  |some (.bool true)=>evo env a
  |some (.bool false)=>evo env b
  |_=>none
 | .bin op e x y=>match evo env x,evo env y with
  |some a,some b=>binVal op e a b
  |_,_=>none
 | .not x=>match evo env x with
  |some (.bool b)=>some (.bool (!b))
  |_=>none
 | .neg x=>match evo env x with
  |some (.int k n)=>some (.int k (wrapF k (0-n)))
  |_=>none
 | .com x=>match evo env x with
  |some (.int k n)=>(bitsS .xor k (if k.signed then -1 else k.max) n).map (.int k)
  |_=>none
 | .conv k x=>match evo env x with
  |some (.int _ n)=>some (.int k (wrapF k n))
  |_=>none
 | .same x=>match evo env x with
  |some (.string s)=>some (.string s)
  |_=>none
 | .slS x lo hi=>match evo env x,evopt env lo,evopt env hi with
  |some (.string s),some lo,some hi=>match bounds s.size s.size lo hi none with
   |some (l,h,_)=>some (.string ⟨⟨(s.data.toList.drop l).take (h-l)⟩⟩)
   |none=>none
  |_,_,_=>none
 | .slL e x lo hi mx=>match evo env x,evopt env lo,evopt env hi,evopt env mx with
  |some (.slice a len cap),some lo,some hi,some mx=>sliceL e a len cap lo hi mx
  |_,_,_,_=>none
 | .slA n e x lo hi mx=>match evo env x,evopt env lo,evopt env hi,evopt env mx with
  |some (.pointer (some ⟨i,o,none⟩)),some lo,some hi,some mx=>sliceL e (some ⟨i,o,some 1⟩) n n lo hi mx
  |_,_,_,_=>none
 | .nilck x=>match evo env x with
  |some (.pointer (some a))=>some (.pointer (some a))
  |_=>none
 | .fadd off x=>match evo env x with
  |some (.pointer (some ⟨i,o,none⟩))=>some (.pointer (some ⟨i,o+off,none⟩))
  |_=>none
 | .idxL e x i=>match evo env x,evo env i with
  |some (.slice (some ⟨b,o,_⟩) len _),some v=>match natOf v with
   |some n=>bif Nat.blt n len then some (.pointer (some ⟨b,o+n*e,none⟩)) else none
   |none=>none
  |_,_=>none
 | .idxA n e x i=>match evo env x,evo env i with
  |some (.pointer (some ⟨b,o,none⟩)),some v=>match natOf v with
   |some k=>bif Nat.blt k n then some (.pointer (some ⟨b,o+k*e,none⟩)) else none
   |none=>none
  |_,_=>none
 | .idxS x i=>match evo env x,evo env i with
  |some (.string s),some v=>match natOf v with
   |some n=>match bytesAt s.data.toList n with
    |some b=>some (.int .u8 b.toNat)
    |none=>none
   |none=>none
  |_,_=>none
 | .idxG n e agg x i=>match evo env x,evo env i with
  |some (.agg cs),some v=>match natOf v with
   |some k=>bif Nat.blt k n then(match takeN cs.toList (k*e) (bif agg then e else 1) with
    |some r=>oneOf agg r
    |none=>none) else none
   |none=>none
  |_,_=>none
 | .fld off n agg x=>match evo env x with
  |some (.agg cs)=>match takeN cs.toList off (bif agg then n else 1) with
   |some r=>oneOf agg r
   |none=>none
  |_=>none
 | .ext k x=>match evo env x with
  |some (.tuple vs)=>vs.toList[k]?
  |_=>none
 | .mkfn f cs=>match evs env cs with
  |some vs=>(ptrs vs).map fun as=>.func (.func f) #[] ⟨as.map fun a=>.pointer (some a)⟩
  |none=>none
 | .build z ps=>(fillp env z ps).map fun cs=>.agg ⟨cs⟩
 | .len x=>match evo env x with
  |some (.slice _ n _)=>some (.int .i64 n)
  |_=>none
 | .lens x=>match evo env x with
  |some (.string s)=>some (.int .i64 s.size)
  |_=>none
 | .alen n=>some (.int .i64 n)
 | .cap x=>match evo env x with
  |some (.slice none _ c)=>some (.int .i64 c)
  |some (.slice (some ⟨_,_,some 1⟩) _ c)=>some (.int .i64 c)
  |_=>none
 | .max xs=>match evs env xs with
  |some (.int k x::r)=>maxes (.int k x) r
  |_=>none
 | .min xs=>match evs env xs with
  |some (.int k x::r)=>mines (.int k x) r
  |_=>none
end
end Go.AI
/- The evaluator's quick arithmetic is the model's. No program is named here. -/
namespace Go.AI
theorem wrap_i64(n:Int):IntKind.i64.wrap n=if n % 18446744073709551616≥9223372036854775808 then n % 18446744073709551616-18446744073709551616 else n % 18446744073709551616:=by
 simp[IntKind.wrap,IntKind.bits,IntKind.signed]
theorem wrap_i32(n:Int):IntKind.i32.wrap n=if n % 4294967296≥2147483648 then n % 4294967296-4294967296 else n % 4294967296:=by
 simp[IntKind.wrap,IntKind.bits,IntKind.signed]
theorem wrap_i16(n:Int):IntKind.i16.wrap n=if n % 65536≥32768 then n % 65536-65536 else n % 65536:=by
 simp[IntKind.wrap,IntKind.bits,IntKind.signed]
theorem wrap_i8(n:Int):IntKind.i8.wrap n=if n % 256≥128 then n % 256-256 else n % 256:=by
 simp[IntKind.wrap,IntKind.bits,IntKind.signed]
theorem wrap_u64(n:Int):IntKind.u64.wrap n=n % 18446744073709551616:=by
 simp[IntKind.wrap,IntKind.bits,IntKind.signed]
theorem wrap_u32(n:Int):IntKind.u32.wrap n=n % 4294967296:=by
 simp[IntKind.wrap,IntKind.bits,IntKind.signed]
theorem wrap_u16(n:Int):IntKind.u16.wrap n=n % 65536:=by
 simp[IntKind.wrap,IntKind.bits,IntKind.signed]
theorem wrap_u8(n:Int):IntKind.u8.wrap n=n % 256:=by
 simp[IntKind.wrap,IntKind.bits,IntKind.signed]
theorem blt_iff(a b:Nat):Nat.blt a b=decide (a<b):=by
 rw[Bool.eq_iff_iff,Nat.blt_eq];simp
theorem wrapF_nat(k:IntKind)(m:Nat)(h:m<half k):k.wrap (m:Int)=m:=by
 cases k<;>simp only[half] at h
 ·rw[wrap_i8];omega
 ·rw[wrap_i16];omega
 ·rw[wrap_i32];omega
 ·rw[wrap_i64];omega
 ·rw[wrap_u8];omega
 ·rw[wrap_u16];omega
 ·rw[wrap_u32];omega
 ·rw[wrap_u64];omega
theorem wrapF_neg(k:IntKind)(m:Nat)(hk:k = .i8∨k = .i16∨k = .i32∨k = .i64)(h:m<half k):k.wrap (Int.negSucc m)=Int.negSucc m:=by
 rcases hk with rfl|rfl|rfl|rfl<;>simp only[half] at h<;>rw[Int.negSucc_eq]
 ·rw[wrap_i8];omega
 ·rw[wrap_i16];omega
 ·rw[wrap_i32];omega
 ·rw[wrap_i64];omega
theorem wrapF_eq(k:IntKind)(n:Int):wrapF k n=k.wrap n:=by
 unfold wrapF
 cases n with
 |ofNat m =>
  by_cases h:m<half k
  ·have hb:Nat.blt m (half k)=true:=by rw[blt_iff];exact decide_eq_true h
   simp only[hb,cond_true]
   exact(wrapF_nat k m h).symm
  ·have hb:Nat.blt m (half k)=false:=by rw[blt_iff];exact decide_eq_false h
   simp only[hb,cond_false]
   cases k
   ·rfl
   ·rfl
   ·rfl
   ·rfl
   ·rw[wrap_u8];show((m % 256:Nat):Int)=(m:Int) % 256;omega
   ·rw[wrap_u16];show((m % 65536:Nat):Int)=(m:Int) % 65536;omega
   ·rw[wrap_u32];show((m % 4294967296:Nat):Int)=(m:Int) % 4294967296;omega
   ·rw[wrap_u64];show((m % 18446744073709551616:Nat):Int)=(m:Int) % 18446744073709551616;omega
 |negSucc m =>
  by_cases h:m<half k
  ·have hb:Nat.blt m (half k)=true:=by rw[blt_iff];exact decide_eq_true h
   simp only[hb,cond_true]
   cases k
   ·exact(wrapF_neg _ m (by simp) h).symm
   ·exact(wrapF_neg _ m (by simp) h).symm
   ·exact(wrapF_neg _ m (by simp) h).symm
   ·exact(wrapF_neg _ m (by simp) h).symm
   ·rfl
   ·rfl
   ·rfl
   ·rfl
  ·have hb:Nat.blt m (half k)=false:=by rw[blt_iff];exact decide_eq_false h
   simp only[hb,cond_false]
   cases k<;>rfl
theorem iltF_eq(x y:Int):iltF x y=decide (x<y):=by
 cases x<;>cases y<;>simp only[iltF,blt_iff,zO,Int.negSucc_eq]<;>simp<;>omega
theorem ieqF_eq(x y:Int):ieqF x y=(x == y):=by
 cases x with
 |ofNat a=>cases y with
  |ofNat b=>simp only[ieqF,zO];rw[Bool.eq_iff_iff,Nat.beq_eq];simp only[beq_iff_eq];omega
  |negSucc b=>simp[ieqF]
 |negSucc a=>cases y with
  |ofNat b=>simp[ieqF]
  |negSucc b=>simp only[ieqF];rw[Bool.eq_iff_iff,Nat.beq_eq];simp only[beq_iff_eq,Int.negSucc_eq];omega
variable {P:Program}{w:World}
theorem bitsS_sound{op:BinOp}{k:IntKind}{x y r:Int}(h:bitsS op k x y=some r):(Op.intBits op k x y).run P w = .ok (.int k r) w:=by
 cases op<;>simp only[bitsS,zI,reduceCtorEq] at h<;>subst h<;>rfl
theorem full_bits(k:IntKind):full k=2 ^ k.bits:=by cases k<;>rfl
theorem bitsF_eq{op:BinOp}{k:IntKind}{x y:Int}:bitsF op k x y=bitsS op k x y:=by
 unfold bitsF
 split
 ·rename_i a b
  by_cases h:a<full k∧b<full k
  ·obtain⟨h1,h2⟩:=h
   simp only[blt_iff,h1,h2,decide_true,Bool.and_self,cond_true,wrapF_eq]
   rw[full_bits] at h1 h2
   have ea:(BitVec.ofInt k.bits (Int.ofNat a)).toNat=a:=by
    rw[zO,BitVec.ofInt_natCast,BitVec.toNat_ofNat,Nat.mod_eq_of_lt h1]
   have eb:(BitVec.ofInt k.bits (Int.ofNat b)).toNat=b:=by
    rw[zO,BitVec.ofInt_natCast,BitVec.toNat_ofNat,Nat.mod_eq_of_lt h2]
   cases op<;>simp only[bitsS,BitVec.toNat_and,BitVec.toNat_or,BitVec.toNat_xor,BitVec.toNat_not,ea,eb]<;>try rfl
   rw[full_bits];rfl
  ·have:(Nat.blt a (full k)&&Nat.blt b (full k))=false:=by
    simp only[blt_iff,Bool.and_eq_false_iff,decide_eq_false_iff_not]
    rcases Nat.lt_or_ge a (full k) with h'|h'
    ·exact .inr fun h2=>h ⟨h',h2⟩
    ·exact .inl (by omega)
   rw[this];rfl
 ·rfl
theorem shiftF_sound{op:BinOp}{k j:IntKind}{x y r:Int}(h:shiftF op k x y=some r):(Op.shift op k x j y).run P w = .ok (.int k r) w:=by
 unfold shiftF at h
 cases y with
 |negSucc n=>simp at h
 |ofNat n =>
  have hn:¬(Int.ofNat n<0):=by simp
  have hm:(bif Nat.blt n k.bits then n else k.bits)=min n k.bits:=by
   rw[blt_iff];by_cases hlt:n<k.bits<;>simp[hlt]<;>omega
  simp only[hm] at h
  simp only[Op.shift,hn,if_false]
  cases op<;>simp only[reduceCtorEq] at h
  ·cases x with
   |ofNat a =>
    simp only[zI,wrapF_eq] at h
    subst h
    simp only[Int.toNat_natCast,zO,Sem.run_pure]
    rfl
   |negSucc a=>simp only[zI] at h;subst h;rfl
  ·cases x with
   |ofNat a =>
    simp only[zI] at h
    subst h
    simp only[Int.toNat_natCast,zO,Sem.run_pure]
    congr 2
    show((a:Int).fdiv (2 ^ min n k.bits))=((a / 2 ^ min n k.bits:Nat):Int)
    rw[Int.fdiv_eq_ediv_of_nonneg _ (Int.pow_nonneg (by decide))]
    simp
   |negSucc a=>simp only[zI] at h;subst h;rfl
theorem divF_sound{op:BinOp}{k:IntKind}{x y r:Int}(h:divF op k x y=some r):(Op.intDiv op k x y).run P w = .ok (.int k r) w:=by
 unfold divF at h
 split at h
 ·cases h
 ·rename_i a b
  have hy:¬(Int.ofNat (b+1)=0):=by intro e;simp at e;omega
  simp only[Op.intDiv,hy,if_false]
  cases op<;>simp only[reduceCtorEq,zI] at h<;>subst h
  ·rw[wrapF_eq];rfl
  ·rfl
 ·rename_i h0 h1
  have hy:¬(y=0):=fun e=>h0 (by rw[e];rfl)
  simp only[Op.intDiv,hy,if_false]
  cases op<;>simp only[reduceCtorEq,zI] at h<;>subst h<;>rfl
theorem intBin_sound{op:BinOp}{t:TypeId}{k j:IntKind}{x y:Int}{v:Value}(h:intBin op k x j y=some v) :
  (binOp op t (.int k x) (.int j y)).run P w = .ok v w∧∀ρ,FR ρ v v:=by
 unfold intBin at h
 cases op<;>simp only[Option.map_eq_some_iff,Option.ite_none_right_eq_some,zI] at h
 all_goals (try (obtain⟨rfl,rfl⟩:=h))
 all_goals (try (obtain⟨r,hr,rfl⟩:=h))
 all_goals (try (obtain⟨rfl,r,hr,rfl⟩:=h))
 all_goals refine⟨?_,fun ρ=>by constructor⟩
 all_goals simp only[binOp,ne_eq,not_true_eq_false,if_false,Op.intArith,Op.intCmp,wrapF_eq,ieqF_eq,iltF_eq]
 all_goals (try rfl)
 all_goals (try exact divF_sound hr)
 all_goals (try exact shiftF_sound hr)
 all_goals (try (rw[bitsF_eq] at hr;exact bitsS_sound hr))
 all_goals (simp only[Sem.run_pure];congr 2;rw[Bool.eq_iff_iff];simp<;>omega)
end Go.AI
