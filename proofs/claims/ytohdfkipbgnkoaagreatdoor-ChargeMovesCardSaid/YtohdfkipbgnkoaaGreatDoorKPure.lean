/- The evaluator's operations that only look at temporaries do what the model's do, in any world. No program is named here. -/
import Derived.Test.YtohdfkipbgnkoaaGreatDoorKBa
import Derived.Laws.Strings
import Derived.Laws.StructEq
namespace Go.AI
variable {P:Program}{ρ:Ren}{env:LV}{a:Act}{w:World}
def ER(ρ:Ren)(env:LV)(a:Act):Prop:=∀s v,aa s env=some v→VR ρ v (a.tmps.getD s undef)
theorem VR.IS{b:Bool}{v:Value}(h:VR ρ (.bool b) v):v = .bool b:=by
 cases h with|x h=>cases h with|flat h=>cases h;rfl
theorem VR.sh{k:IntKind}{n:Int}{v:Value}(h:VR ρ (.int k n) v):v = .int k n:=by
 cases h with|x h=>cases h with|flat h=>cases h;rfl
theorem VR.Qu{s:ByteArray}{v:Value}(h:VR ρ (.string s) v):v = .string s:=by
 cases h with|x h=>cases h with|flat h=>cases h;rfl
theorem VR.AS{x:Option Addr}{l c:Nat}{v:Value}(h:VR ρ (.slice x l c) v):FR ρ (.slice x l c) v:=by
 cases h with|x h=>cases h with|flat h=>exact h
theorem VR.By{x:Option Addr}{v:Value}(h:VR ρ (.pointer x) v):FR ρ (.pointer x) v:=by
 cases h with|x h=>cases h with|flat h=>exact h
theorem VR.QL{xs:Array Value}{v:Value}(h:VR ρ (.agg xs) v):∃ys:List Value,v = .agg ⟨ys⟩∧All2 (FR ρ) xs.toList ys:=by
 cases h with|x h=>cases h with
  |flat h=>cases h
  |agg h=>exact⟨_,rfl,h⟩
theorem VR.QO{xs:Array Value}{v:Value}(h:VR ρ (.tuple xs) v):∃ys:List Value,v = .tuple ⟨ys⟩∧All2 (XR ρ) xs.toList ys:=by
 cases h with
 |x h=>cases h with|flat h=>cases h
 |tup h=>exact⟨_,rfl,h⟩
theorem VR.of_flat{x y:Value}(h:FR ρ x y):VR ρ x y:=.x (.flat h)
theorem FR.Qv{x:Option Addr}{l c:Nat}{v:Value}(h:FR ρ (.slice x l c) v):∃y d,v = .slice y l d:=by
 cases h<;>exact⟨_,_,rfl⟩
theorem nH{v:Value}(h:oh v=true):FR ρ v v:=by
 unfold oh at h;split at h
 ·exact .bool _
 ·exact .int _ _
 ·exact .str _
 ·exact .nilp
 ·exact .nils _ _
 ·exact .nilm
 ·exact .nilf
 ·exact .nili
 ·cases h
theorem yV{l:List Value}(h:l.all oh=true):All2 (FR ρ) l l:=by
 induction l with
 |nil=>exact .nil
 |cons x l ih =>
  simp only[List.all_cons,Zi] at h;exact .cons (nH h.1) (ih h.2)
theorem rR{v:Value}(h:tR v=true):VR ρ v v:=by
 unfold tR at h;split at h
 ·rename_i cs;exact .x (.agg (xs:=cs.toList) (ys:=cs.toList) (yV h))
 ·exact .of_flat (nH h)
theorem al{x:Operand}{y:Opd}{v:Value}(hc:aS x=some y)(he:evo env y=some v)(hE:ER ρ env a):VR ρ v (a.eval x):=by
 unfold aS at hc;split at hc
 ·injection hc with hc;subst hc;exact hE _ _ he
 ·split at hc
  ·rename_i hk;injection hc with hc;subst hc;simp only[evo,zI] at he;subst he;exact rR hk
  ·cases hc
 ·injection hc with hc;subst hc;simp only[evo,zI] at he;subst he;exact .of_flat (.fn _ (cs:=[]) (ds:=[]) .nil)
 ·cases hc
theorem A8{x:Option Operand}{y:Option Opd}{v:Option Value}(hc:oZ x=some y)(he:gF env y=some v)(hE:ER ρ env a) :
  (x=none∧v=none)∨∃x' v',x=some x'∧v=some v'∧VR ρ v' (a.eval x'):=by
 cases x with
 |none =>
  simp only[oZ,zI] at hc;subst hc;simp only[gF,zI] at he;exact .inl ⟨rfl,he.symm⟩
 |some x =>
  simp only[oZ,Zb] at hc;obtain⟨y',hy,rfl⟩:=hc;simp only[gF,Zb] at he;obtain⟨v',hv,rfl⟩:=he;exact .inr ⟨x,v',rfl,rfl,al hy hv hE⟩
theorem dH:∀{xs:List Operand} {ys:List Opd} {vs:List Value},c7 xs=some ys→evs env ys=some vs→ER ρ env a→All2 (VR ρ) vs (xs.map a.eval)
 |[],ys,vs,hc,he,_=>by
  simp only[c7,zI] at hc;subst hc;simp only[evs,zI] at he;subst he;exact .nil
 |x::xs,ys,vs,hc,he,hE=>by
  simp only[c7] at hc;split at hc
  ·rename_i y s h1 h2;injection hc with hc;subst hc;simp only[evs] at he;split at he
   ·rename_i v t h3 h4;injection he with he;subst he;exact .cons (al h1 h3 hE) (dH h2 h4 hE)
   ·cases he
  ·cases hc
theorem am{t:TypeId}{d:TypeDesc}(h:P.underlying t=some d):(underlying t).run P w = .ok d w:=by
 simp[underlying,h]
theorem ki{t:TypeId}{i:TypeInfo}(h:P.info? t=some i):(typeInfo t).run P w = .ok i w:=by
 simp[typeInfo,h]
theorem bW{t:TypeId}{n:Nat}(h:cd P t=some n):(sizeOf t).run P w = .ok n w:=by
 simp only[cd,Zb] at h;obtain⟨i,hi,rfl⟩:=h;simp[sizeOf,ki hi]
theorem fO{t:TypeId}{b:Bool}(h:nX P t=some b):(isAgg t).run P w = .ok b w:=by
 unfold nX at h;split at h<;>simp_all [isAgg,am]
theorem gM{t:TypeId}{z:List Value}(h:eM P t=some z):∃v,(zeroValue t).run P w = .ok v w∧v.cells.toList=z∧All2 (FR ρ) z z∧cd P t=some z.length:=by
 unfold eM at h;split at h
 ·rename_i i hi;split at h
  ·rename_i v hz;split at h
   ·rename_i hk;simp only[zI] at h;simp only[Zi,Zg] at hk;refine⟨v,by simp[zeroValue,ki hi,hz],h,h▸yV hk.1,?_⟩;simp only[cd,hi,Option.map_some,← hk.2,← h,Array.length_toList]
   ·cases h
  ·cases h
 ·cases h
theorem jh:∀x y:List UInt8,eL x y=(x == y)
 |[],[]=>rfl
 |[],_::_=>rfl
 |_::_,[]=>rfl
 |a::x,b::y=>by simp only[eL,jh x y,List.cons_beq_cons]
theorem toList_eq(x:ByteArray):x.toList=x.data.toList:=by
 exact ByteArray.toList_eq x
theorem uN{op:BinOp}{t:TypeId}{x y:ByteArray}{v:Value}(h:yl op x y=some v) :
  (binOp op t (.string x) (.string y)).run P w = .ok v w∧FR ρ v v:=by
 unfold yl at h;cases op<;>simp only[reduceCtorEq,Option.ite_none_right_eq_some,zI] at h
 case add =>
  obtain⟨hl,rfl⟩:=h;refine⟨?_,.str _⟩;have:¬(((x.size+y.size:Nat):Int)>IntKind.i64.max):=by simp[IntKind.max,IntKind.signed,IntKind.bits];omega
  simp only[binOp,Op.stringOp,this,if_false,Zd];have e:x++y=⟨⟨x.data.toList++y.data.toList⟩⟩:=by
   apply ByteArray.ext;rw[ByteArray.data_append];apply Array.ext';simp
  rw[e]
 all_goals
  subst h;refine⟨?_,.bool _⟩;simp only[binOp,Op.stringOp,jh,toList_eq];rfl
theorem qd{t:TypeId}{k:LK}(h:ze P t=some k):cd P t=some 1∧nX P t=some false∧(P.underlying t=some .bool∧k = .bool∨P.underlying t=some .string∧k = .str∨(∃j,P.underlying t=some (.int j))∧k = .int):=by
 unfold ze at h;cases hb:Nat.beq (((P.info? t).map (·.size)).getD 0) 1 with
 |false=>rw[hb] at h;cases h
 |true =>
  rw[hb,cond_true] at h;rw[Zg] at hb;refine⟨?_,?_⟩
  ·unfold cd;cases hi:(P.info? t).map (·.size) with
   |none=>rw[hi] at hb;cases hb
   |some n=>rw[hi] at hb;exact congrArg some hb
  ·split at h<;>simp only[zI,reduceCtorEq] at h<;>subst h<;>rename_i hu<;>simp[nX,hu]
theorem AZ(a b:ByteArray):(a == b)=(a.data.toList == b.data.toList):=by
 have e:(a == b)=(a.data == b.data):=by cases a;cases b;rfl
 rw[e,Bool.eq_iff_iff];simp only[beq_iff_eq];exact⟨fun e=>by rw[e],fun e=>Array.toList_inj.1 e⟩
theorem ny{t:TypeId}{d:Nat}{k:LK}{x y x' y':Value}{b:Bool}(hl:ze P t=some k)(h:pX k x y=some b)(hx:FR ρ x x')(hy:FR ρ y y') :
  (Op.equalIn (d+1) t x' y').run P w = .ok b w:=by
 obtain⟨_,_,hu⟩:=qd hl;rcases hu with⟨hu,rfl⟩|⟨hu,rfl⟩|⟨⟨j,hu⟩,rfl⟩
 ·cases x<;>simp only[pX,reduceCtorEq] at h
  cases y<;>simp only[reduceCtorEq,zI] at h
  cases hx;cases hy;subst h;simp[Op.equalIn,am hu]
 ·cases x<;>simp only[pX,reduceCtorEq] at h
  cases y<;>simp only[reduceCtorEq,zI] at h
  cases hx;cases hy;subst h;simp only[Op.equalIn,Zc,am hu,Za,Zd,jh,AZ]
 ·cases x<;>simp only[pX,reduceCtorEq] at h
  cases y<;>simp only[reduceCtorEq,Option.ite_none_right_eq_some,zI] at h
  obtain⟨rfl,rfl⟩:=h;cases hx;cases hy;simp[Op.equalIn,am hu,d7]
theorem lI{d:Nat}{xs ys:Array Value}:∀(fs:List Field) (off:Nat) (ks:List LK) (x y x' y':List Value) (b:Bool),eN P fs off=some ks→jl ks x y=some b→All2 (FR ρ) x x'→All2 (FR ρ) y y' →
  xs.toList.drop off=x'→ys.toList.drop off=y'→(Op.eqFields (d+1) xs ys fs).run P w = .ok b w
 |[],off,ks,x,y,x',y',b,hl,h,hx,hy,ex,ey=>by
  simp only[eN,zI] at hl;subst hl;cases x<;>cases y<;>simp only[jl,reduceCtorEq,zI] at h
  subst h;simp[Op.eqFields]
 |f::fs,off,ks,x,y,x',y',b,hl,h,hx,hy,ex,ey=>by
  simp only[eN] at hl;split at hl
  ·rename_i k s hk hs;cases hc:(f.name != "_" && Nat.beq f.offset off) with
   |false=>rw[hc] at hl;cases hl
   |true =>
    rw[hc,cond_true,zI] at hl;subst hl;simp only[Zi,bne_iff_ne,ne_eq,Zg] at hc;obtain⟨hn,ho⟩:=hc;obtain⟨hsz,hag,_⟩:=qd hk;cases hx with
    |nil=>cases y<;>simp[jl] at h
    |cons rx tx =>
     cases hy with
     |nil=>simp[jl] at h
     |cons ry ty =>
      rename_i ax bx tlx tlx' ay by' tly tly';have gx:xs[f.offset]? = some bx:=by rw[ho,← Array.getElem?_toList,← List.head?_drop,ex];rfl
      have gy:ys[f.offset]? = some by':=by rw[ho,← Array.getElem?_toList,← List.head?_drop,ey];rfl
      have ex':xs.toList.drop (off+1)=tlx':=by rw[← List.tail_drop,ex];rfl
      have ey':ys.toList.drop (off+1)=tly':=by rw[← List.tail_drop,ey];rfl
      simp only[jl] at h;have px:(part f.type xs f.offset).run P w = .ok bx w:=by simp[part,fO hag,gx]
      have py:(part f.type ys f.offset).run P w = .ok by' w:=by simp[part,fO hag,gy]
      split at h
      ·rename_i hc;have he:=ny (P:=P) (w:=w) (d:=d) hk hc rx ry;simp[Op.eqFields,hn,px,py,he];exact lI fs (off+1) s tlx tly tlx' tly' b hs h tx ty ex' ey'
      ·rename_i hc;have he:=ny (P:=P) (w:=w) (d:=d) hk hc rx ry;simp only[zI] at h;subst h;simp[Op.eqFields,hn,px,py,he]
      ·cases h
  ·cases hl
def AC:Value→Bool
 | .agg _ | .nilIface=>false
 |_=>true
theorem cN{t:TypeId}{x y:Value}(h:AC x=true)(op:BinOp)(u v:Operand):(eqGuard op t u v x y).run P w = .ok () w:=by
 unfold eqGuard;cases op<;>first|rfl|(cases x<;>first|rfl|(simp[AC] at h;done))
section
variable {d:Nat}{t:TypeId}
theorem Hm(hu:P.underlying t=some .bool)(a b:Bool):(Op.equalIn (d+1) t (.bool a) (.bool b)).run P w = .ok (a == b) w:=by
 simp only[Op.equalIn,Zc,am hu,Za,Zd]
theorem wn{e:TypeId}(hu:P.underlying t=some (.pointer e))(b:Option Addr):(Op.equalIn (d+1) t (.pointer none) (.pointer b)).run P w = .ok b.isNone w:=by
 simp only[Op.equalIn,Zc,am hu,Za,Zd]
theorem nW{e:TypeId}(hu:P.underlying t=some (.pointer e))(a:Addr):(Op.equalIn (d+1) t (.pointer (some a)) (.pointer none)).run P w = .ok false w:=by
 simp only[Op.equalIn,Zc,am hu,Za,Zd]
theorem wW{e n:TypeId}(hu:P.underlying t=some (.pointer e))(hs:cd P e=some n)(hn:n≠0)(b o o':Nat) :
  (Op.equalIn (d+1) t (.pointer (some ⟨b,o,none⟩)) (.pointer (some ⟨b,o',none⟩))).run P w = .ok (Nat.beq o o') w:=by
 simp only[Op.equalIn,Zc,am hu,Za,bW hs,ne_eq,hn,not_false_eq_true,if_true,sameAddr,beq_self_eq_true,Zd];congr 1;rw[Bool.eq_iff_iff,Zg,beq_iff_eq];simp
theorem uT{e:TypeId}(hu:P.underlying t=some (.slice e))(b:Option Addr)(l c l' c':Nat):(Op.equalIn (d+1) t (.slice none l c) (.slice b l' c')).run P w = .ok b.isNone w:=by
 simp only[Op.equalIn,Zc,am hu,Za,Zd]
theorem nQ{e:TypeId}(hu:P.underlying t=some (.slice e))(a:Addr)(l c l' c':Nat):(Op.equalIn (d+1) t (.slice (some a) l c) (.slice none l' c')).run P w = .ok false w:=by
 simp only[Op.equalIn,Zc,am hu,Za,Zd]
theorem ET{p r:Array TypeId}{v:Bool}(hu:P.underlying t=some (.func p r v)):(Op.equalIn (d+1) t .nilFunc .nilFunc).run P w = .ok true w:=by
 simp only[Op.equalIn,Zc,am hu,Za,Zd]
theorem Dw{p r:Array TypeId}{v:Bool}(hu:P.underlying t=some (.func p r v))(f:Fn)(x y:Array Value):(Op.equalIn (d+1) t .nilFunc (.func f x y)).run P w = .ok false w:=by
 simp only[Op.equalIn,Zc,am hu,Za,Zd]
theorem Gt{p r:Array TypeId}{v:Bool}(hu:P.underlying t=some (.func p r v))(f:Fn)(x y:Array Value):(Op.equalIn (d+1) t (.func f x y) .nilFunc).run P w = .ok false w:=by
 simp only[Op.equalIn,Zc,am hu,Za,Zd]
end
theorem IOq(t:TypeId):match eqk P t with
  | .num=>P.underlying t=some .bool
  | .ptr=>∃e n,P.underlying t=some (.pointer e)∧cd P e=some n∧n≠0
  | .slc=>∃e,P.underlying t=some (.slice e)
  | .func=>∃p r v,P.underlying t=some (.func p r v)
  | .agg ks=>∃fs,P.underlying t=some (.struct fs)∧eN P fs.toList 0=some ks∧P.stoodInHeld t=false∧P.eqGuardType P.depth t=false
  |_=>True:=by
 cases hu:P.underlying t with
 |none=>simp[eqk,hu]
 |some u =>
  cases u with
  |bool=>simp[eqk,hu]
  |pointer e =>
   cases hi:P.info? e with
   |none=>simp[eqk,hu,hi]
   |some i =>
    by_cases hz:i.size=0
    ·simp[eqk,hu,hi,hz]
    ·simp[eqk,hu,hi,hz,cd]
  |slice e=>simp[eqk,hu]
  |func p r v=>simp[eqk,hu]
  | «struct» fs =>
   cases hl:eN P fs.toList 0 with
   |none=>simp[eqk,hu,hl]
   |some ks =>
    cases h1:P.stoodInHeld t<;>cases h2:P.eqGuardType P.depth t<;>simp[eqk,hu,hl,h1,h2]
  |_=>simp[eqk,hu]
theorem rU{d:Nat}{t:TypeId}{x y x' y':Value}{b:Bool}(h:gc (eqk P t) x y=some b)(hx:VR ρ x x')(hy:VR ρ y y') :
  (Op.equalIn (d+1+1) t x' y').run P w = .ok b w∧∀op u v,(eqGuard op t u v x' y').run P w = .ok () w:=by
 have hk:=IOq (P:=P) t;generalize eqk P t=e at h hk;cases e with
 |num =>
  unfold gc at h;split at h<;>first|contradiction|skip
  all_goals simp only[zI] at *
  subst h;cases hx.IS;cases hy.IS;exact⟨Hm hk _ _,cN rfl⟩
 |ptr =>
  obtain⟨e,n,hu,hs,hn⟩:=hk;unfold gc at h;split at h<;>first|contradiction|skip
  all_goals simp only[zI] at *
  ·subst h;cases hx.By;have hy:=hy.By;cases hy<;>exact⟨wn hu _,cN rfl⟩
  ·subst h;cases hx.By;cases hy.By;exact⟨nW hu _,cN rfl⟩
  ·rename_i p q _ _ _;cases hx.By with
   |ptr hp=>cases hy.By with
    |ptr hq =>
     rename_i i1 b1 s1 o1 i2 b2 s2 o2;cases hb:Nat.beq i1 i2 with
     |false=>simp only[hb,cond_false,reduceCtorEq] at h
     |true =>
      simp only[hb,cond_true,zI] at h;subst h;rw[Zg] at hb;subst hb;rw[hp] at hq;injection hq with hq;injection hq with h1 h2;subst h1;subst h2;exact⟨wW hu hs hn _ _ _,cN rfl⟩
 |slc =>
  obtain⟨e,hu⟩:=hk;unfold gc at h;split at h<;>first|contradiction|skip
  all_goals simp only[zI] at *
  ·subst h;cases hx.AS;have hy:=hy.AS;cases hy<;>exact⟨uT hu _ _ _ _ _,cN rfl⟩
  ·subst h;cases hy.AS;have hx:=hx.AS;cases hx<;>exact⟨nQ hu _ _ _ _ _,cN rfl⟩
 |iface=>unfold gc at h;split at h<;>first|contradiction|simp only[reduceCtorEq] at *
 |no=>unfold gc at h;split at h<;>first|contradiction|simp only[reduceCtorEq] at *
 |func =>
  obtain⟨p,r,v,hu⟩:=hk;unfold gc at h;split at h<;>first|contradiction|skip
  all_goals simp only[zI] at *
  ·subst h;cases hx with|x hx=>cases hx with|flat hx=>cases hx;cases hy with|x hy=>cases hy with|flat hy=>cases hy;exact⟨ET hu,cN rfl⟩
  ·subst h;cases hx with|x hx=>cases hx with|flat hx=>cases hx;cases hy with|x hy=>cases hy with|flat hy=>cases hy;exact⟨Dw hu _ _ _,cN rfl⟩
  ·subst h;cases hy with|x hy=>cases hy with|flat hy=>cases hy;cases hx with|x hx=>cases hx with|flat hx=>cases hx;exact⟨Gt hu _ _ _,cN rfl⟩
 |agg ks =>
  obtain⟨fs,hu,hl,hst,hg⟩:=hk;unfold gc at h;split at h<;>first|contradiction|skip
  all_goals simp only[EqK.agg.injEq] at *
  rename_i a b' hk';subst hk';obtain⟨xs,rfl,hxs⟩:=hx.QL;obtain⟨ys,rfl,hys⟩:=hy.QL;have hf:P.fieldsOf t=fs:=by simp[Program.fieldsOf,hu]
  refine⟨?_,?_⟩
  ·rw[run_equalIn_struct w (d+1) t ⟨xs⟩ ⟨ys⟩ (by rw[hf];exact hu) hst,hf];exact lI fs.toList 0 ks _ _ _ _ b hl h hxs hys rfl rfl
  ·intro op u v;unfold eqGuard;cases op<;>first|rfl|skip
   all_goals simp[hg]
theorem xg{t:TypeId}{x y x' y':Value}{b:Bool}(h:gc (eqk P t) x y=some b)(hx:VR ρ x x')(hy:VR ρ y y') :
  (Op.equal t x' y').run P w = .ok b w∧∀op u v,(eqGuard op t u v x' y').run P w = .ok () w :=
 rU (d:=9998) h hx hy
theorem mH{op:BinOp}{t:TypeId}{x y x' y':Value}{v:Value}{ox oy:Operand}(h:bu op (eqk P t) x y=some v)(hx:VR ρ x x')(hy:VR ρ y y') :
  (do eqGuard op t ox oy x' y';binOp op t x' y':Sem Value).run P w = .ok v w∧VR ρ v v:=by
 unfold bu at h;split at h
 ·cases hx.sh;cases hy.sh;obtain⟨h1,h2⟩:=uC (P:=P) (w:=w) (t:=t) h;exact⟨by rw[Zc,cN rfl];exact h1,.of_flat (h2 ρ)⟩
 ·cases hx.Qu;cases hy.Qu;obtain⟨h1,h2⟩:=uN (P:=P) (w:=w) (ρ:=ρ) (t:=t) h;exact⟨by rw[Zc,cN rfl];exact h1,.of_flat h2⟩
 ·rename_i hn1 hn2;have key:∀b,gc (eqk P t) x y=some b→(eqGuard op t ox oy x' y').run P w = .ok () w ∧
    (op = .eql→(binOp op t x' y').run P w = .ok (.bool b) w)∧(op = .neq→(binOp op t x' y').run P w = .ok (.bool (!b)) w):=by
   intro b hb;obtain⟨h1,h2⟩:=xg (P:=P) (w:=w) hb hx hy;have hi:∀k n,x' = .int k n→False:=by
    intro k n e;subst e;cases hx with|x hx=>cases hx with|flat hx=>cases hx with
     |int=>unfold gc at hb;split at hb<;>simp_all
     |tok=>revert hb;unfold gc;cases eqk P t<;>cases y<;>simp
   have hs:∀s,x' = .string s→False:=by
    intro s e;subst e;cases hx with|x hx=>cases hx with|flat hx=>cases hx;unfold gc at hb;split at hb<;>simp_all
   have hf:∀k s,x' = .float k s→False:=by
    intro k s e;subst e;cases hx with|x hx=>cases hx with|flat hx=>cases hx
   have hc:∀k s r,x' = .complex k s r→False:=by
    intro k s r e;subst e;cases hx with|x hx=>cases hx with|flat hx=>cases hx
   refine⟨h2 _ _ _,?_,?_⟩
   ·intro e;subst e;unfold binOp;split<;>first|(simp at *; done)|skip
    all_goals first|(exact(hi _ _ rfl).elim)|(exact(hf _ _ rfl).elim)|(exact(hc _ _ _ rfl).elim)|(exact(hs _ rfl).elim)|(simp[h1];done)|(simp_all;done)
   ·intro e;subst e;unfold binOp;split<;>first|(simp at *; done)|skip
    all_goals first|(exact(hi _ _ rfl).elim)|(exact(hf _ _ rfl).elim)|(exact(hc _ _ _ rfl).elim)|(exact(hs _ rfl).elim)|(simp[h1];done)|(simp_all;done)
  split at h
  ·simp only[Zb] at h;obtain⟨b,hb,rfl⟩:=h;obtain⟨k1,k2,_⟩:=key b hb;exact⟨by rw[Zc,k1];exact k2 rfl,.of_flat (.bool _)⟩
  ·simp only[Zb] at h;obtain⟨b,hb,rfl⟩:=h;obtain⟨k1,_,k2⟩:=key b hb;exact⟨by rw[Zc,k1];exact k2 rfl,.of_flat (.bool _)⟩
  ·cases h
end Go.AI
namespace Go.AI
variable {P:Program}{ρ:Ren}{env:LV}{a:Act}{w:World}
theorem iL{s:Sem Value}{v:Value}(h:s.run P w = .ok v w):(do pure (Next.value (← s)):Sem Next).run P w = .ok (.value v) w:=by
 simp[h]
theorem cS{v:Value}{n:Nat}(h:cQ v=some n):∃k,v = .int k (Int.ofNat n):=by
 unfold cQ at h;split at h
 ·injection h with h;subst h;exact⟨_,rfl⟩
 ·cases h
theorem dO{k:IntKind}{n y:Nat}(c:BoundsCode)(h:n≤y):(Instr.sliceBound (.int k (Int.ofNat n)) y c).run P w = .ok n w:=by
 have:(0:Int)≤Int.ofNat n∧Int.ofNat n≤(y:Int):=⟨by simp,by simp;exact_mod_cast h⟩;simp only[Instr.sliceBound,asIntOf,Zc,Zd,Za];rw[if_pos this];rfl
inductive OptR(ρ:Ren):Option Value→Option Value→Prop
 |none:OptR ρ none none
 |some {v v'} (h:VR ρ v v'):OptR ρ (some v) (some v')
theorem nF{s:Bool}{len cap len' cap':Nat}{lo hi mx lo' hi' mx':Option Value}{l h m:Nat}(hb:iF len cap lo hi mx=some (l,h,m))(hl:len'=len)(hc:cap≤cap')
  (rl:OptR ρ lo lo') (rh:OptR ρ hi hi') (rm:OptR ρ mx mx') :
  (Instr.sliceBounds s len' cap' lo' hi' mx').run P w = .ok (l,h,if mx=none then cap' else m) w∧l≤h∧h≤m∧m≤cap∧(mx=none→m=cap):=by
 subst hl;unfold iF at hb;split at hb
 ·cases hb
 ·rename_i m0 hm0;split at hb
  ·cases hb
  ·rename_i h0 hh0;split at hb
   ·cases hb
   ·rename_i l0 hl0;cases hcnd:(Nat.ble m0 cap&&(Nat.ble h0 m0&&Nat.ble l0 h0)&&(hi.isSome||mx.isNone)) with
    |false=>rw[hcnd] at hb;cases hb
    |true =>
     rw[hcnd,cond_true] at hb;simp only[zI,Zf] at hb;obtain⟨rfl,rfl,rfl⟩:=hb;simp only[Zi,Zk] at hcnd;obtain⟨⟨h1,h2,h3⟩,h4⟩:=hcnd;refine⟨?_,h3,h2,h1,?_⟩
     ·-- the model's own iF
      have em:mx=none→m0=cap:=by
       intro e;subst e;simp only[dK,zI] at hm0;exact hm0.symm
      unfold Instr.sliceBounds;cases rm with
      |none =>
       have em:=em rfl;simp only[Zc,Zd,Za,if_true];cases rh with
       |none =>
        simp only[dK,zI] at hh0;subst hh0;simp only[];cases rl with
        |none=>simp only[dK,zI] at hl0;subst hl0;simp only[Zc,Zd,Za]
        |some r =>
         simp only[dK] at hl0;obtain⟨k,rfl⟩:=cS hl0;cases r.sh;simp only[Zc,dO _ h3,Za,Zd]
       |some r =>
        simp only[dK] at hh0;obtain⟨k,rfl⟩:=cS hh0;cases r.sh;simp only[Zc,dO _ (show h0≤cap' by omega),Za];cases rl with
        |none=>simp only[dK,zI] at hl0;subst hl0;simp only[Zc,Zd,Za]
        |some r =>
         simp only[dK] at hl0;obtain⟨k,rfl⟩:=cS hl0;cases r.sh;simp only[Zc,dO _ h3,Za,Zd]
      |some r =>
       simp only[dK] at hm0;obtain⟨k,rfl⟩:=cS hm0;cases r.sh;simp only[Zc,dO _ (show m0≤cap' by omega),Za,reduceCtorEq,if_false];cases rh with
       |none=>simp at h4
       |some r =>
        simp only[dK] at hh0;obtain⟨k,rfl⟩:=cS hh0;cases r.sh;simp only[Zc,dO _ h2,Za];cases rl with
        |none=>simp only[dK,zI] at hl0;subst hl0;simp only[Zc,Zd,Za]
        |some r =>
         simp only[dK] at hl0;obtain⟨k,rfl⟩:=cS hl0;cases r.sh;simp only[Zc,dO _ h3,Za,Zd]
     ·intro e;subst e;simp only[dK,zI] at hm0;exact hm0.symm
theorem ir{x:Option Operand}{y:Option Opd}{v:Option Value}(hc:oZ x=some y)(he:gF env y=some v)(hE:ER ρ env a):OptR ρ v (x.map a.eval):=by
 rcases A8 hc he hE with⟨rfl,rfl⟩|⟨x',v',rfl,rfl,h⟩
 ·exact .none
 ·exact .some h
theorem du(i o n:Nat):Addr.add ⟨i,o,none⟩ n=⟨i,o+n,none⟩:=by
 unfold Addr.add;split
 ·rename_i h;subst h;rfl
 ·rfl
theorem mM{e:Nat}{x x':Option Addr}{s:Bool}{len cap cap':Nat}{lo hi mx lo' hi' mx':Option Value}{v:Value}
  (h:me e x len cap lo hi mx=some v) (hx:FR ρ (.slice x len cap) (.slice x' len cap'))
  (rl:OptR ρ lo lo') (rh:OptR ρ hi hi') (rm:OptR ρ mx mx') :
  ∃l h m v',(Instr.sliceBounds s len cap' lo' hi' mx').run P w = .ok (l,h,m) w∧v' = .slice (if m=l then x' else x'.map (·.add (l*e))) (h-l) (m-l)∧FR ρ v v':=by
 unfold me at h;split at h
 ·cases h
 ·rename_i l hh m hb;have hcap:cap≤cap':=by cases hx<;>omega
  obtain⟨h1,h2,h3,h4,h5⟩:=nF (P:=P) (w:=w) (s:=s) hb rfl hcap rl rh rm;refine⟨_,_,_,_,h1,rfl,?_⟩;cases hx with
  |nils l0 c0 =>
   simp only[zI] at h;subst h;have:(if mx=none then cap else m)=m:=by(split;exact(h5 (by assumption)).symm;rfl)
   rw[this];split<;>exact .nils _ _
  |slc hr =>
   rename_i i b s0 o;simp only at h;cases mx with
   |none =>
    have e5:=h5 rfl;simp only[if_true] at *
    cases hlt:(Nat.blt l m||Nat.beq l 0) with
    |true =>
     simp only[hlt,cond_true,zI] at h;subst h;rw[Bool.or_eq_true,aD,Zt,Zg] at hlt;have hadd:(if cap+s0=l then some (⟨b,o,none⟩:Addr) else(some (⟨b,o,none⟩:Addr)).map (·.add (l*e)))=some ⟨b,o+l*e,none⟩:=by
      split
      ·have h0:l=0:=by omega
       rw[h0,Nat.zero_mul,Nat.add_zero]
      ·simp only[Option.map_some,du]
     rw[hadd];have:cap+s0-l=(m-l)+s0:=by omega
     rw[this];exact .slc hr
    |false =>
     simp only[hlt,cond_false,zI] at h;subst h;rw[Bool.or_eq_false_iff,aD,decide_eq_false_iff_not] at hlt;have hlt:=hlt.1;have e0:hh-l=0:=by omega
     rw[e0];split
     ·exact .slz hr
     ·simp only[Option.map_some,du];exact .slz hr
   |some q =>
    simp only[reduceCtorEq,if_false] at *
    cases hlt:Nat.beq m l with
    |true =>
     simp only[hlt,cond_true,zI] at h;subst h;rw[Zg] at hlt;subst hlt;simp only[if_true,Nat.sub_self];have e0:hh-m=0:=by omega
     rw[e0];exact .slx hr
    |false =>
     simp only[hlt,cond_false,zI] at h;subst h;have hne:¬(m=l):=fun e=>by rw[e,Nat.beq_refl] at hlt;cases hlt
     simp only[hne,if_false,Option.map_some,du];exact .slx hr
  |slx hr =>
   have em:(if mx=none then cap else m)=m:=by(split;exact(h5 (by assumption)).symm;rfl)
   rw[em];simp only at h;cases hlt:Nat.beq m l with
   |true =>
    simp only[hlt,cond_true,zI] at h;subst h;rw[Zg] at hlt;subst hlt;simp only[if_true,Nat.sub_self];have e0:hh-m=0:=by omega
    rw[e0];exact .slx hr
   |false =>
    simp only[hlt,cond_false,zI] at h;subst h;have hne:¬(m=l):=fun e=>by rw[e,Nat.beq_refl] at hlt;cases hlt
    simp only[hne,if_false,Option.map_some,du];exact .slx hr
  |slz hr =>
   simp only[zI] at h;subst h;have e1:hh-l=0:=by omega
   rw[e1];generalize(if mx=none then cap' else m)=q;by_cases hq:q=l
   ·rw[if_pos hq];exact .slz hr
   ·rw[if_neg hq];simp only[Option.map_some,du];exact .slz hr
theorem xp:∀(cs vs:List Value),vs.length≤cs.length→(over cs vs).length=cs.length
 |cs,[],_=>by cases cs<;>simp[over]
 |[],v::vs,h=>by simp at h
 |c::cs,v::vs,h=>by simp only[over,Zy];rw[xp cs vs (by simpa using h)]
theorem zK:∀(cs vs:List Value),vs.length≤cs.length→over cs vs=vs++cs.drop vs.length
 |cs,[],_=>by cases cs<;>simp[over]
 |[],v::vs,h=>by simp at h
 |c::cs,v::vs,h=>by simp only[over,List.cons_append,Zy,List.drop_succ_cons];rw[zK cs vs (by simpa using h)]
theorem ch:∀(cs:List Value) (n:Nat) (vs:List Value),n+vs.length≤cs.length→aT cs n vs=cs.take n++vs++cs.drop (n+vs.length)
 |cs,0,vs,h=>by cases cs<;>simp only[aT]<;>rw[zK _ _ (by omega)]<;>simp
 |[],n+1,vs,h=>by simp at h
 |c::cs,n+1,vs,h=>by
  simp only[aT,List.take_succ_cons,List.cons_append];rw[ch cs n vs (by simp at h;omega),show n+1+vs.length=(n+vs.length)+1 by omega];rfl
theorem iC{cs:List Value}{n:Nat}{vs:List Value}(h:n+vs.length≤cs.length):(aT cs n vs).length=cs.length:=by
 rw[ch cs n vs h];simp;omega
theorem iy{R:Value→Value→Prop}{cs cs' vs vs':List Value}{n:Nat}(h:n+vs.length≤cs.length)(hc:All2 R cs cs')(hv:All2 R vs vs'):All2 R (aT cs n vs) (aT cs' n vs'):=by
 have e1:=hc.length;have e2:=hv.length;rw[ch cs n vs h,ch cs' n vs' (by omega),← e2];exact((hc.take n).append hv).append (hc.drop _)
theorem C6(vs:List Value):∀(cs:Array Value) (off k:Nat),off+k+vs.length≤cs.size →
  ((vs.zipIdx k).foldl (fun cs (x:Value×Nat)=>cs.setIfInBounds (off+x.2) x.1) cs).toList=aT cs.toList (off+k) vs:=by
 induction vs with
 |nil=>intro cs off k h;simp only[List.zipIdx_nil,List.foldl_nil];rw[ch _ _ _ (by simpa using h)];simp
 |cons v vs ih =>
  intro cs off k h;simp only[Zy] at h;simp only[List.zipIdx_cons,List.foldl_cons];rw[ih (cs.setIfInBounds (off+k) v) off (k+1) (by simp;omega)];rw[ch _ _ _ (by simp;omega),ch _ _ _ (by simp;omega)];simp only[Array.toList_setIfInBounds,Zy];have hlt:off+k<cs.toList.length:=by simp;omega
  rw[show off+(k+1)=(off+k)+1 by omega,List.take_succ_eq_append_getElem (by simpa using hlt),List.getElem_set_self,List.take_set_of_le (Ze _)];rw[List.drop_set_of_lt (by omega)];simp only[List.append_assoc,List.cons_append,List.nil_append];rw[show off+k+1+vs.length=off+k+(vs.length+1) by omega]
theorem jq{v v':Value}{cs:List Value}(h:cR v=some cs)(hv:VR ρ v v'):All2 (FR ρ) cs v'.cells.toList:=by
 cases hv with
 |x hv =>
  have:=hv.cells;cases hv with
  |flat hf=>cases hf<;>(simp only[cR,zI] at h;subst h;exact this)
  |agg hf=>simp only[cR,zI] at h;subst h;exact hf
 |tup hv=>simp[cR] at h
theorem jA{place:Nat→Option (Nat×Nat)}:∀{ps:List (Nat×Operand)} {qs:List (Nat×Nat×Opd)} {cs cs':List Value} {r:List Value},iv place ps=some qs→jS env cs qs=some r→ER ρ env a→All2 (FR ρ) cs cs' →
  ∃r',Instr.fill place ⟨cs'⟩ (ps.map fun p=>(p.1,a.eval p.2))=some ⟨r'⟩∧All2 (FR ρ) r r'
 |[],qs,cs,cs',r,hm,hf,_,hc=>by
  simp only[iv,zI] at hm;subst hm;simp only[jS,zI] at hf;subst hf;exact⟨cs',rfl,hc⟩
 |(i,x)::ps,qs,cs,cs',r,hm,hf,hE,hc=>by
  simp only[iv] at hm;split at hm
  ·rename_i off n y s h1 h2 h3;injection hm with hm;subst hm;simp only[jS] at hf;split at hf
   ·rename_i v hv;split at hf
    ·rename_i vs hvs;cases hcnd:(Nat.beq vs.length n&&Nat.ble (off+n) cs.length) with
     |false=>rw[hcnd] at hf;cases hf
     |true =>
      rw[hcnd,cond_true] at hf;simp only[Zi,Zg,Zk] at hcnd;obtain⟨hn,hle⟩:=hcnd;have hcs:=jq hvs (al h2 hv hE);have hl:=hcs.length;have hl2:=hc.length;have hsp:=iy (n:=off) (by omega) hc hcs;obtain⟨r',hr,hr2⟩:=jA h3 hf hE hsp;refine⟨r',?_,hr2⟩;have hsz:(a.eval x).cells.size=n:=by rw[← Array.length_toList];omega
      have hcnd':(decide ((a.eval x).cells.size≠n)||decide (off+(a.eval x).cells.size>(⟨cs'⟩:Array Value).size))=false:=by
       have:¬(off+(a.eval x).cells.size>cs'.length):=by omega
       simp[hsz];omega
      have hfold:(a.eval x).cells.zipIdx.foldl (fun cs (c,j)=>cs.setIfInBounds (off+j) c) (⟨cs'⟩:Array Value)=⟨aT cs' off (a.eval x).cells.toList⟩:=by
       apply Array.ext';have:=C6 (a.eval x).cells.toList ⟨cs'⟩ off 0 (by simp;omega);rw[← Array.foldl_toList,Array.toList_zipIdx];exact this
      simp only[List.map_cons,Instr.fill,h1,hfold,hr];simp only[hcnd',Zq,if_false]
    ·cases hf
   ·cases hf
  ·cases hm
end Go.AI
namespace Go.AI
variable {P:Program}{ρ:Ren}{env:LV}{a:Act}{w:World}
def ei(P:Program)(ρ:Ren)(env:LV)(a:Act)(op:Op):Prop :=
 ∀(p:PureOp) (v:Value),cC P op=some p→aw env p=some v→ER ρ env a→∀(w:World) (dst:Option Tmp) (ty:TypeId) (pos:String) (af:Array Edge) (g:Option (Nat×Bool)),
  ∃v',(execOp a.eval ⟨dst,op,ty,pos,af,g⟩).run P w = .ok (.value v') w∧VR ρ v v'
theorem Ce(x:Operand):ei P ρ env a (.move x):=by
 intro p v hc he hE w dst ty pos af g;simp only[cC,Zb] at hc;obtain⟨y,hy,rfl⟩:=hc;exact⟨_,rfl,al hy he hE⟩
theorem vc(x:Operand):ei P ρ env a (.assign x):=by
 intro p v hc he hE w dst ty pos af g;simp only[cC,Zb] at hc;obtain⟨y,hy,rfl⟩:=hc;exact⟨_,rfl,al hy he hE⟩
theorem Bq(c x y:Operand):ei P ρ env a (.pick c x y):=by
 intro p v hc he hE w dst ty pos af g;simp only[cC] at hc;split at hc
 ·rename_i c' x' y' h1 h2 h3;injection hc with hc;subst hc;simp only[aw] at he;split at he
  ·rename_i hb;have:=(al h1 hb hE).IS;exact⟨_,by simp only[execOp,this,asBool,Zc,Zd,Za,if_true],al h2 he hE⟩
  ·rename_i hb;have:=(al h1 hb hE).IS;exact⟨_,by simp only[execOp,this,asBool,Zc,Zd,Za,Zq,if_false],al h3 he hE⟩
  ·cases he
 ·cases hc
theorem EB(op:BinOp)(t:TypeId)(x y:Operand)(t':TypeId):ei P ρ env a (.binOp op t x y t'):=by
 intro p v hc he hE w dst ty pos af g;simp only[cC] at hc;split at hc
 ·rename_i x' y' h1 h2;injection hc with hc;subst hc;simp only[aw] at he;split at he
  ·rename_i u z h3 h4;obtain⟨k1,k2⟩:=mH (P:=P) (w:=w) (ox:=x) (oy:=y) he (al h1 h3 hE) (al h2 h4 hE);exact⟨v,iL k1,k2⟩
  ·cases he
 ·cases hc
theorem Hy(op:UnOp)(t:TypeId)(x:Operand):ei P ρ env a (.unOp op t x):=by
 intro p v hc he hE w dst ty pos af g;cases op<;>simp only[cC,Zb,reduceCtorEq] at hc
 all_goals obtain⟨y,hy,rfl⟩:=hc
 all_goals simp only[aw] at he
 ·split at he
  ·rename_i k n hx;injection he with he;subst he;refine⟨.int k (ai k (0-n)),iL ?_,.of_flat (.int _ _)⟩;rw[(al hy hx hE).sh,dm];rfl
  ·cases he
 ·split at he
  ·rename_i k n hx;simp only[Zb] at he;obtain⟨r,hr,rfl⟩:=he;refine⟨.int k r,iL ?_,.of_flat (.int _ _)⟩;rw[(al hy hx hE).sh];exact oQ hr
  ·cases he
 ·split at he
  ·rename_i b hx;injection he with he;subst he;refine⟨.bool (!b),iL ?_,.of_flat (.bool _)⟩;rw[(al hy hx hE).IS];rfl
  ·cases he
theorem Dq(s d:TypeId)(x:Operand):ei P ρ env a (.convert s d x):=by
 intro p v hc he hE w dst ty pos af g;simp only[cC] at hc;split at hc
 ·rename_i us k h1 h2;simp only[Zb] at hc;obtain⟨y,hy,rfl⟩:=hc;simp only[aw] at he;split at he
  ·rename_i j n hx;injection he with he;subst he;refine⟨.int k (ai k n),iL ?_,.of_flat (.int _ _)⟩;rw[(al hy hx hE).sh,dm];simp only[convert,Zc,am h1,am h2,Za];rfl
  ·cases he
 ·rename_i h1 h2;simp only[Zb] at hc;obtain⟨y,hy,rfl⟩:=hc;simp only[aw] at he;split at he
  ·rename_i q hx;injection he with he;subst he;refine⟨.string q,iL ?_,.of_flat (.str _)⟩;rw[(al hy hx hE).Qu];simp only[convert,Zc,am h1,am h2,Za];rfl
  ·cases he
 ·cases hc
theorem xN(t:TypeId)(x:Operand)(lo hi mx:Option Operand):ei P ρ env a (.slice t x lo hi mx):=by
 intro p v hc he hE w dst ty pos af g;simp only[cC] at hc;split at hc
 ·rename_i x' lo' hi' mx' h1 h2 h3 h4;split at hc
  ·rename_i hu;split at hc
   ·injection hc with hc;subst hc;simp only[aw] at he;split at he
    ·rename_i s l hh hx hl hhi;split at he
     ·rename_i l' h' m hb;injection he with he;subst he;have rm:mx=none:=by
       cases mx with
       |none=>rfl
       |some m=>simp[oZ] at h4
      subst rm;obtain⟨k1,k2,k3,k4,k5⟩:=nF (P:=P) (w:=w) (s:=false) hb rfl (Ze _) (ir h2 hl hE) (ir h3 hhi hE) .none;refine⟨.string (s.extract l' h'),iL ?_,?_⟩
      ·rw[(al h1 hx hE).Qu];simp only[Instr.sliceAt,Instr.slice,Zc,am hu,Za,Option.map_none,Option.isSome_none,Zq,if_false,Zd];rw[k1];rfl
      ·have:s.extract l' h'=⟨⟨(s.data.toList.drop l').take (h'-l')⟩⟩:=by
        apply ByteArray.ext;rw[ByteArray.data_extract];apply Array.ext';simp[Array.toList_extract]
       rw[this];exact .of_flat (.str _)
     ·cases he
    ·cases he
   ·cases hc
  ·rename_i e hu;simp only[Zb] at hc;obtain⟨n,hn,rfl⟩:=hc;simp only[aw] at he;split at he
   ·rename_i ad len cap l hh m hx hl hhi hmx;have hx':=(al h1 hx hE).AS;obtain⟨y',c',hy'⟩:=hx'.Qv;rw[hy'] at hx';obtain⟨l',h',m',v',k1,k2,k3⟩:=mM (P:=P) (w:=w) (s:=true) he hx' (ir h2 hl hE) (ir h3 hhi hE) (ir h4 hmx hE);refine⟨v',iL ?_,.of_flat k3⟩;rw[hy',k2];simp only[Instr.sliceAt,Instr.slice,Zc,am hu,Za,k1,bW hn,Zd]
   ·cases he
  ·rename_i n e hu;simp only[Zb] at hc;obtain⟨m0,hn,rfl⟩:=hc;simp only[aw] at he;split at he
   ·rename_i i o l hh m hx hl hhi hmx;cases hq:a.eval x with
    |pointer q =>
     have hx':=(al h1 hx hE);rw[hq] at hx';cases hx'.By with
     |ptr hr =>
      obtain⟨l',h',m',v',k1,k2,k3⟩:=mM (P:=P) (w:=w) (s:=false) he (.slx hr) (ir h2 hl hE) (ir h3 hhi hE) (ir h4 hmx hE);refine⟨v',iL ?_,.of_flat k3⟩;rw[hq,k2];simp only[Instr.sliceAt,Instr.sureAddr,Zc,am hu,Za,k1,bW hn,Zd,Option.map_some];split<;>rfl
    |_ =>
     have hx':=(al h1 hx hE);rw[hq] at hx';cases hx'.By
   ·cases he
  ·cases hc
 ·cases hc
theorem yR(x:Operand):ei P ρ env a (.nilCheck x):=by
 intro p v hc he hE w dst ty pos af g;simp only[cC,Zb] at hc;obtain⟨y,hy,rfl⟩:=hc;simp only[aw] at he;split at he
 ·rename_i ad hx;injection he with he;subst he;have hx':=al hy hx hE;refine⟨a.eval x,?_,hx'⟩;cases hq:a.eval x<;>rw[hq] at hx'<;>have hf:=hx'.By<;>cases hf
  simp[execOp,hq]
 ·cases he
theorem xD{t:TypeId}{i:TypeInfo}{f:Field}(hf:f.type=t)(hi:P.info? t=some i)(hz:i.size≠0)(b o:Nat):(fieldPlace ⟨b,o,none⟩ f).run P w = .ok ⟨b,o+f.offset,none⟩ w:=by
 subst hf;have hs:cd P f.type=some i.size:=by simp[cd,hi]
 simp only[fieldPlace,Zc,bW hs,Za,hz,if_false,Zd,du]
theorem B1(s:TypeId)(x:Operand)(f:Nat):ei P ρ env a (.fieldAddr s x f):=by
 intro p v hc he hE w dst ty pos af g;simp only[cC] at hc;split at hc
 ·rename_i fs hu;split at hc
  ·rename_i fl hf;split at hc
   ·rename_i i hi;split at hc
    ·cases hc
    ·rename_i hz;simp only[Zb] at hc;obtain⟨y,hy,rfl⟩:=hc;simp only[aw] at he;split at he
     ·rename_i b o hx;injection he with he;subst he;have hx':=al hy hx hE;cases hq:a.eval x<;>rw[hq] at hx'<;>have hf2:=hx'.By<;>cases hf2
      rename_i hr;refine⟨_,iL (v:=.pointer (some ⟨_,o+fl.offset,none⟩)) ?_,.of_flat (.ptr hr)⟩;rw[hq];simp only[Instr.fieldAt,Instr.sureAddr,Zc,am hu,Za,hf,Zd,xD rfl hi hz]
     ·cases he
   ·cases hc
  ·cases hc
 ·cases hc
theorem GE(t:TypeId)(x i:Operand):ei P ρ env a (.indexAddr t x i):=by
 intro p v hc he hE w dst ty pos af g;simp only[cC] at hc;split at hc
 ·rename_i x' i' h1 h2;split at hc
  ·rename_i e hu;simp only[Zb] at hc;obtain⟨n,hn,rfl⟩:=hc;simp only[aw] at he;split at he
   ·rename_i b o sp len cp vi hx hi;split at he
    ·rename_i k hk;cases hlt:Nat.blt k len with
     |false=>rw[hlt] at he;cases he
     |true =>
      rw[hlt,cond_true] at he;injection he with he;subst he;rw[aD,Zt] at hlt;obtain⟨kk,rfl⟩:=cS hk;have hi':=(al h2 hi hE).sh;have hx':=(al h1 hx hE).AS;obtain⟨y',c',hy'⟩:=hx'.Qv;rw[hy'] at hx';obtain⟨b',s',hr,rfl⟩:∃b' s',ρ b=some (b',s')∧y'=some ⟨b',o,none⟩:=by
       cases hx' with
       |slc hr=>exact⟨_,_,hr,rfl⟩
       |slx hr=>exact⟨_,_,hr,rfl⟩
       |slz hr=>omega
      refine⟨_,iL (v:=.pointer (some ⟨b',o+k*n,none⟩)) ?_,.of_flat (.ptr hr)⟩;rw[hy',hi'];have hin:(0:Int)≤Int.ofNat k∧Int.ofNat k<(len:Int):=⟨by simp,by simp;exact_mod_cast hlt⟩;simp only[Instr.indexAt,asIntOf,Zc,am hu,Za,Zd];rw[if_pos hin];simp only[Zc,bW hn,Za,Zd,du,zO,Int.toNat_natCast]
    ·cases he
   ·cases he
  ·rename_i len e hu;simp only[Zb] at hc;obtain⟨n,hn,rfl⟩:=hc;simp only[aw] at he;split at he
   ·rename_i b o vi hx hi;split at he
    ·rename_i k hk;cases hlt:Nat.blt k len with
     |false=>rw[hlt] at he;cases he
     |true =>
      rw[hlt,cond_true] at he;injection he with he;subst he;rw[aD,Zt] at hlt;obtain⟨kk,rfl⟩:=cS hk;have hi':=(al h2 hi hE).sh;have hx':=al h1 hx hE;cases hq:a.eval x<;>rw[hq] at hx'<;>have hf2:=hx'.By<;>cases hf2
      rename_i b' s' hr;refine⟨_,iL (v:=.pointer (some ⟨b',o+k*n,none⟩)) ?_,.of_flat (.ptr hr)⟩;rw[hq,hi'];have hin:(0:Int)≤Int.ofNat k∧Int.ofNat k<(len:Int):=⟨by simp,by simp;exact_mod_cast hlt⟩;simp only[Instr.indexAt,Instr.sureAddr,asIntOf,Zc,am hu,Za,Zd];rw[if_pos hin];simp only[Zc,bW hn,Za,Zd,du,zO,Int.toNat_natCast]
    ·cases he
   ·cases he
  ·cases hc
 ·cases hc
theorem dY{α:Type}(l:List α)(n:Nat):(⟨l⟩:Array α)[n]? = l[n]? := by
 rw[show(⟨l⟩:Array α)=l.toArray from rfl];simp
theorem j8{cs cs' r:List Value}{off n:Nat}(h:bg cs off n=some r)(hc:All2 (FR ρ) cs cs'):All2 (FR ρ) r ((cs'.drop off).take n)∧r.length=n:=by
 unfold bg at h;simp only at h;cases hb:Nat.beq ((cs.drop off).take n).length n with
 |false=>rw[hb] at h;cases h
 |true =>
  rw[hb,cond_true,zI] at h;rw[Zg] at hb;subst h;exact⟨(hc.drop off).take n,hb⟩
theorem ql{t:TypeId}{cs cs':List Value}{off n:Nat}{g:Bool}{r:List Value}{v:Value}(hg:nX P t=some g)(hn:cd P t=some n)(h:bg cs off (bif g then n else 1)=some r)(ho:dy g r=some v)(hc:All2 (FR ρ) cs cs') :
  ∃v',(part t ⟨cs'⟩ off).run P w = .ok v' w∧VR ρ v v':=by
 obtain⟨h1,h2⟩:=j8 h hc;unfold dy at ho;cases g with
 |true =>
  simp only[cond_true,zI] at ho h1 h2;subst ho;refine⟨.agg ⟨(cs'.drop off).take n⟩,?_,.x (.agg h1)⟩;simp only[part,Zc,fO hg,Za,if_true,bW hn,Zd];congr 2;apply Array.ext';simp[]
 |false =>
  simp only[cond_false] at ho h1 h2;split at ho
  ·rename_i x;injection ho with ho;subst ho;cases hd:(cs'.drop off).take 1 with
   |nil=>rw[hd] at h1;cases h1
   |cons y l =>
    rw[hd] at h1;cases h1 with
    |cons hf ht =>
     have hy:(⟨cs'⟩:Array Value)[off]? = some y:=by
      rw[dY];rw[← List.head?_drop];cases hdd:cs'.drop off with
      |nil=>rw[hdd] at hd;simp at hd
      |cons z l'=>rw[hdd] at hd;simp at hd;simp[hd.1]
     refine⟨y,?_,.of_flat hf⟩;simp only[part,Zc,fO hg,Za,Zq,if_false,hy,Zd]
  ·cases ho
theorem qT:∀(l:List UInt8) (n:Nat),jm l n=l[n]?
 |[],n=>by cases n<;>rfl
 |b::l,0=>rfl
 |b::l,n+1=>by simp[jm,qT l n]
theorem yf(t:TypeId)(x i:Operand):ei P ρ env a (.index t x i):=by
 intro p v hc he hE w dst ty pos af g;simp only[cC] at hc;split at hc
 ·rename_i x' i' h1 h2;split at hc
  ·rename_i hu;injection hc with hc;subst hc;simp only[aw] at he;split at he
   ·rename_i s vi hx hi;split at he
    ·rename_i k hk;split at he
     ·rename_i b hb;injection he with he;subst he;obtain⟨kk,rfl⟩:=cS hk;refine⟨_,iL (v:=.int .u8 b.toNat) ?_,.of_flat (.int _ _)⟩;rw[(al h1 hx hE).Qu,(al h2 hi hE).sh];rw[qT] at hb;have hb':s[k]? = some b:=by
       rw[← hb];simp only[getElem?_def,ByteArray.getElem_eq_getElem_data,Array.length_toList,Array.getElem_toList];rfl
      have h0:(0:Int)≤Int.ofNat k:=by simp
      simp only[Instr.index,asIntOf,Zc,am hu,Za,Zd];rw[if_pos h0];simp only[zO,Int.toNat_natCast,hb',Zd]
     ·cases he
    ·cases he
   ·cases he
  ·rename_i n e hu;split at hc
   ·rename_i m ag h3 h4;injection hc with hc;subst hc;simp only[aw] at he;split at he
    ·rename_i cs vi hx hi;split at he
     ·rename_i k hk;cases hlt:Nat.blt k n with
      |false=>rw[hlt] at he;cases he
      |true =>
       rw[hlt,cond_true] at he;rw[aD,Zt] at hlt;split at he
       ·rename_i r hr;obtain⟨kk,rfl⟩:=cS hk;obtain⟨ys,hy,hall⟩:=(al h1 hx hE).QL;obtain⟨v',k1,k2⟩:=ql (P:=P) (w:=w) h4 h3 hr he hall;refine⟨v',iL ?_,k2⟩;rw[hy,(al h2 hi hE).sh];have hin:(0:Int)≤Int.ofNat k∧Int.ofNat k<(n:Int):=⟨by simp,by simp;exact_mod_cast hlt⟩;simp only[Instr.index,asIntOf,Zc,am hu,Za,Zd];rw[if_pos hin];simp only[Zc,bW h3,Za,zO,Int.toNat_natCast,k1]
       ·cases he
     ·cases he
    ·cases he
   ·cases hc
  ·cases hc
 ·cases hc
theorem yA(t:TypeId)(x:Operand)(f:Nat):ei P ρ env a (.field t x f):=by
 intro p v hc he hE w dst ty pos af g;simp only[cC] at hc;split at hc
 ·rename_i fs hu;split at hc
  ·rename_i fl hf;split at hc
   ·rename_i n ag y h1 h2 h3;injection hc with hc;subst hc;simp only[aw] at he;split at he
    ·rename_i cs hx;split at he
     ·rename_i r hr;obtain⟨ys,hy,hall⟩:=(al h3 hx hE).QL;obtain⟨v',k1,k2⟩:=ql (P:=P) (w:=w) h2 h1 hr he hall;refine⟨v',iL ?_,k2⟩;rw[hy];simp only[Instr.field,asAgg,Zc,am hu,Za,hf,Zd,k1]
     ·cases he
    ·cases he
   ·cases hc
  ·cases hc
 ·cases hc
theorem uj(x:Operand)(k:Nat):ei P ρ env a (.extract x k):=by
 intro p v hc he hE w dst ty pos af g;simp only[cC,Zb] at hc;obtain⟨y,hy,rfl⟩:=hc;simp only[aw] at he;split at he
 ·rename_i vs hx;obtain⟨ys,hq,hall⟩:=(al hy hx hE).QO;obtain⟨b,hb,hr⟩:=hall.get k v he;refine⟨b,iL ?_,.x hr⟩;rw[hq];have:(⟨ys⟩:Array Value)[k]? = some b:=by rw[dY];exact hb
  simp only[Instr.extract,this,Zd]
 ·cases he
theorem qM:∀{vs:List Value} {as:List Addr} {ws:List Value},Fs vs=some as→All2 (VR ρ) vs ws→∃bs:List Addr,ws=bs.map (fun a=>.pointer (some a))∧All2 (AR ρ) as bs
 |[],as,ws,h,hw=>by
  simp only[Fs,zI] at h;subst h;cases hw;exact⟨[],rfl,.nil⟩
 |v::vs,as,ws,h,hw=>by
  cases hw with
  |cons h1 h2 =>
   unfold Fs at h;split at h
   ·rename_i heq;cases heq
   ·rename_i ad r heq;injection heq with e1 e2;subst e1;subst e2;simp only[Zb] at h;obtain⟨as',h3,rfl⟩:=h;obtain⟨bs,rfl,h4⟩:=qM h3 h2;have hf:=h1.By;cases hf with
    |ptr hr=>exact⟨_::bs,rfl,.cons (.mk hr) h4⟩
   ·cases h
theorem AY(fn:Fn)(first cs:Array Operand):ei P ρ env a (.makeFunc fn first cs):=by
 intro p v hc he hE w dst ty pos af g;simp only[cC] at hc;split at hc
 ·rename_i f hf;simp only[Zb] at hc;obtain⟨ys,hy,rfl⟩:=hc;simp only[aw] at he;split at he
  ·rename_i vs hv;simp only[Zb] at he;obtain⟨as,has,rfl⟩:=he;have hfirst:first = #[]:=Array.toList_eq_nil_iff.1 hf
   subst hfirst;obtain⟨bs,hb,hall⟩:=qM has (dH hy hv hE);refine⟨.func (.func f) #[] ⟨bs.map fun a=>.pointer (some a)⟩,iL ?_,.of_flat (.fn f hall)⟩;have:cs.map a.eval=⟨bs.map fun a=>.pointer (some a)⟩:=by
    apply Array.ext';rw[Array.toList_map];exact hb
   rw[this];simp only[Instr.makeFunc,Array.map_empty,Zd]
  ·cases he
 ·cases hc
theorem tU(fs:Array Field){pl:List (Nat×Nat)}(h:eQ P fs.toList=some pl) :
  (fs.mapM (m:=Sem) fun f=>do pure (f.offset,← sizeOf f.type)).run P w = .ok ⟨pl⟩ w:=by
 have key:∀(l:List Field) (pl:List (Nat×Nat)),eQ P l=some pl→(l.mapM (m:=Sem) fun f=>do pure (f.offset,← sizeOf f.type)).run P w = .ok pl w:=by
  intro l;induction l with
  |nil=>intro pl h;simp only[eQ,zI] at h;subst h;rfl
  |cons f l ih =>
   intro pl h;simp only[eQ] at h;split at h
   ·rename_i n s h1 h2;injection h with h;subst h;simp only[List.mapM_cons,Zc,bW h1,Za,Zd,ih s h2]
   ·cases h
 have:=key fs.toList pl h;rw[← Array.toArray_toList (xs:=fs),List.mapM_toArray];simp only[Sem.run_map,this,Za]
theorem x8(t:TypeId)(ps:Array (Nat×Operand)):ei P ρ env a (.build t ps):=by
 intro p v hc he hE w dst ty pos af g;simp only[cC] at hc;split at hc
 ·rename_i z hz;obtain⟨zv,z1,z2,z3,z4⟩:=gM (ρ:=ρ) (w:=w) hz;have hmap:(ps.map fun(i,x)=>(i,a.eval x)).toList=ps.toList.map fun p=>(p.1,a.eval p.2):=by rw[Array.toList_map]
  split at hc
  ·rename_i fs hu;split at hc
   ·rename_i pl hpl;simp only[Zb] at hc;obtain⟨qs,hq,rfl⟩:=hc;simp only[aw,Zb] at he;obtain⟨r,hr,rfl⟩:=he;obtain⟨r',k1,k2⟩:=jA (cs':=z) hq hr hE z3;refine⟨.agg ⟨r'⟩,iL ?_,.x (.agg k2)⟩;have hz':zv.cells=⟨z⟩:=Array.ext' z2;simp only[Instr.build,Zc,z1,Za,am hu,tU fs hpl,hz',hmap];have:(fun x=>(⟨pl⟩:Array (Nat×Nat))[x]?)=(pl[·]?):=funext fun x=>dY pl x
    rw[this,k1];rfl
   ·cases hc
  ·rename_i n e hu;split at hc
   ·rename_i m hm;simp only[Zb] at hc;obtain⟨qs,hq,rfl⟩:=hc;simp only[aw,Zb] at he;obtain⟨r,hr,rfl⟩:=he;obtain⟨r',k1,k2⟩:=jA (cs':=z) hq hr hE z3;refine⟨.agg ⟨r'⟩,iL ?_,.x (.agg k2)⟩;have hz':zv.cells=⟨z⟩:=Array.ext' z2;simp only[Instr.build,Zc,z1,Za,am hu,bW hm,hz',hmap,k1,Zd]
   ·cases hc
  ·cases hc
 ·cases hc
theorem o9:∀(l:List Value) (k:IntKind) (x:Int) (v:Value) (l':List Value),nD (.int k x) l=some v→All2 (VR ρ) l l' →
  (l'.foldlM Builtin.max2 (.int k x)).run P w = .ok v w∧VR ρ v v
 |[],k,x,v,l',h,hl=>by
  simp only[nD,zI] at h;subst h;cases hl;exact⟨rfl,.of_flat (.int _ _)⟩
 |y::l,k,x,v,l',h,hl=>by
  cases hl with
  |cons h1 h2 =>
   unfold nD at h;split at h
   ·rename_i heq;cases heq
   ·rename_i k1 x1 j y1 r e1 e2;injection e1 with e1 e1';subst e1;subst e1';injection e2 with e2 e2';subst e2;subst e2';simp only[Option.ite_none_right_eq_some] at h;obtain⟨rfl,h⟩:=h;cases h1.sh;have ex:(bif eY x y1 then y1 else x)=(if y1>x then y1 else x):=by rw[eZ];by_cases hlt:x<y1<;>simp[hlt]
    rw[ex] at h;have:=o9 _ _ _ v _ h h2;simp only[List.foldlM_cons,Builtin.max2,Zc,Zd,Za];exact this
   ·cases h
theorem oU:∀(l:List Value) (k:IntKind) (x:Int) (v:Value) (l':List Value),tM (.int k x) l=some v→All2 (VR ρ) l l' →
  (l'.foldlM Builtin.min2 (.int k x)).run P w = .ok v w∧VR ρ v v
 |[],k,x,v,l',h,hl=>by
  simp only[tM,zI] at h;subst h;cases hl;exact⟨rfl,.of_flat (.int _ _)⟩
 |y::l,k,x,v,l',h,hl=>by
  cases hl with
  |cons h1 h2 =>
   unfold tM at h;split at h
   ·rename_i heq;cases heq
   ·rename_i k1 x1 j y1 r e1 e2;injection e1 with e1 e1';subst e1;subst e1';injection e2 with e2 e2';subst e2;subst e2';simp only[Option.ite_none_right_eq_some] at h;obtain⟨rfl,h⟩:=h;cases h1.sh;have ex:(bif eY y1 x then y1 else x)=(if y1<x then y1 else x):=by rw[eZ];by_cases hlt:y1<x<;>simp[hlt]
    rw[ex] at h;have:=oU _ _ _ v _ h h2;simp only[List.foldlM_cons,Builtin.min2,Zc,Zd,Za];exact this
   ·cases h
theorem eP{b:Builtin}{as:Array Operand}{ts:Array TypeId}{v:Value}{dst:Option Tmp}{ty:TypeId}{pos:String}{af:Array Edge}{g:Option (Nat×Bool)}
  (h:∀cs,(Go.builtin b ts ty cs (as.map a.eval)).run P w = .ok (.value v) w) :
  (execOp a.eval ⟨dst,.call ⟨.builtin b,as,ts⟩,ty,pos,af,g⟩).run P w = .ok (.value v) w:=by
 simp only[execOp,resolve,Zc,Zd,Za,invoke,h]
theorem cY{as:Array Operand}{vs:List Value}(h:as.toList.map a.eval=vs):as.map a.eval=⟨vs⟩:=by
 apply Array.ext';rw[Array.toList_map];exact h
theorem je{as:List Operand}{x:Opd}(h:c7 as=some [x]):∃y,as=[y]∧aS y=some x:=by
 cases as with
 |nil=>simp[c7] at h
 |cons y l =>
  simp only[c7] at h;split at h
  ·rename_i z s h1 h2;simp only[zI,List.cons.injEq] at h;obtain⟨rfl,rfl⟩:=h;cases l with
   |nil=>exact⟨y,rfl,h1⟩
   |cons q l =>
    simp only[c7] at h2;split at h2<;>simp at h2
  ·cases h
theorem uJ(b:Builtin)(as:Array Operand)(ts:Array TypeId):ei P ρ env a (.call ⟨.builtin b,as,ts⟩):=by
 intro p v hc he hE w dst ty pos af g;simp only[cC] at hc;split at hc
 ·rename_i xs hxs;unfold tq at hc;split at hc
  ·injection hc with hc;subst hc;simp only[aw] at he;split at he
   ·rename_i k x r hv;have hall:=dH hxs hv hE;have hm:=cY (a:=a) (as:=as) rfl;generalize as.toList.map a.eval=ws at hall hm;cases hall with
    |cons h1 h2 =>
     cases h1.sh;obtain⟨k1,k2⟩:=o9 (P:=P) (w:=w) _ _ _ v _ he h2;refine⟨v,eP fun cs=>?_,k2⟩;rw[hm];simp only[Go.builtin,Builtin.max_,Zc,k1,Za,Zd]
   ·cases he
  ·injection hc with hc;subst hc;simp only[aw] at he;split at he
   ·rename_i k x r hv;have hall:=dH hxs hv hE;have hm:=cY (a:=a) (as:=as) rfl;generalize as.toList.map a.eval=ws at hall hm;cases hall with
    |cons h1 h2 =>
     cases h1.sh;obtain⟨k1,k2⟩:=oU (P:=P) (w:=w) _ _ _ v _ he h2;refine⟨v,eP fun cs=>?_,k2⟩;rw[hm];simp only[Go.builtin,Builtin.min_,Zc,k1,Za,Zd]
   ·cases he
  ·split at hc
   ·rename_i x;obtain⟨y,hy,hx⟩:=je hxs;have hm:as.map a.eval=⟨[a.eval y]⟩:=cY (by rw[hy];rfl);split at hc
    ·rename_i t ht;split at hc
     ·rename_i hu;injection hc with hc;subst hc;simp only[aw] at he;split at he
      ·rename_i s hv;injection he with he;subst he;refine⟨_,eP (v:=.int .i64 s.size) fun cs=>?_,.of_flat (.int _ _)⟩;rw[hm,(al hx hv hE).Qu];simp[Go.builtin,Builtin.len_,ht,am hu,goInt]
      ·cases he
     ·rename_i e hu;injection hc with hc;subst hc;simp only[aw] at he;split at he
      ·rename_i sl n c hv;injection he with he;subst he;obtain⟨y',d,hq⟩:=(al hx hv hE).AS.Qv;refine⟨_,eP (v:=.int .i64 n) fun cs=>?_,.of_flat (.int _ _)⟩;rw[hm,hq];simp[Go.builtin,Builtin.len_,ht,am hu,goInt]
      ·cases he
     ·rename_i n e hu;injection hc with hc;subst hc;simp only[aw,zI] at he;subst he;refine⟨_,eP (v:=.int .i64 n) fun cs=>?_,.of_flat (.int _ _)⟩;rw[hm];simp[Go.builtin,Builtin.len_,ht,am hu,goInt]
     ·cases hc
    ·cases hc
   ·cases hc
  ·split at hc
   ·rename_i x;obtain⟨y,hy,hx⟩:=je hxs;have hm:as.map a.eval=⟨[a.eval y]⟩:=cY (by rw[hy];rfl);split at hc
    ·rename_i t ht;split at hc
     ·rename_i e hu;injection hc with hc;subst hc;simp only[aw] at he;split at he
      ·rename_i l c hv;injection he with he;subst he;have hf:=(al hx hv hE).AS;generalize a.eval y=q at hf hm;cases hf;refine⟨_,eP (v:=.int .i64 c) fun cs=>?_,.of_flat (.int _ _)⟩;rw[hm];simp[Go.builtin,Builtin.cap_,ht,am hu,goInt]
      ·rename_i i o l c hv;injection he with he;subst he;have hf:=(al hx hv hE).AS;generalize a.eval y=q at hf hm;cases hf;refine⟨_,eP (v:=.int .i64 c) fun cs=>?_,.of_flat (.int _ _)⟩;rw[hm];simp[Go.builtin,Builtin.cap_,ht,am hu,goInt]
      ·cases he
     ·cases hc
    ·cases hc
   ·cases hc
  ·cases hc
 ·cases hc
theorem rG(op:Op):ei P ρ env a op:=by
 cases op with
 |move x=>exact Ce x
 |assign x=>exact vc x
 |pick c x y=>exact Bq c x y
 |binOp op t x y t'=>exact EB op t x y t'
 |unOp op t x=>exact Hy op t x
 |convert s d x=>exact Dq s d x
 |slice t x lo hi mx=>exact xN t x lo hi mx
 |nilCheck x=>exact yR x
 |fieldAddr s x f=>exact B1 s x f
 |indexAddr t x i=>exact GE t x i
 |index t x i=>exact yf t x i
 |field t x f=>exact yA t x f
 |extract x k=>exact uj x k
 |makeFunc fn first cs=>exact AY fn first cs
 |build t ps=>exact x8 t ps
 |call c =>
  obtain⟨callee,as,ts⟩:=c;cases callee with
  |builtin b=>exact uJ b as ts
  |value f=>intro p v hc;simp[cC] at hc
  |invoke r m=>intro p v hc;simp[cC] at hc
 |_=>intro p v hc;simp[cC] at hc
end Go.AI
