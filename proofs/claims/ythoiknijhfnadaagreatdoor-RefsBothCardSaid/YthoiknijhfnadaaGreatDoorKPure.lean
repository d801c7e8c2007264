/- The evaluator's operations that only look at temporaries do what the model's do, in any world. No program is named here. -/
import Derived.Test.YthoiknijhfnadaaGreatDoorKBa
import Derived.Laws.Strings
import Derived.Laws.StructEq
namespace Go.AI
variable {P:Program}{ρ:Ren}{env:List (Nat×Value)}{a:Act}{w:World}
def ER(ρ:Ren)(env:List (Nat×Value))(a:Act):Prop:=∀s v,look s env=some v→VR ρ v (a.tmps.getD s undef)
theorem VR.bool_inv{b:Bool}{v:Value}(h:VR ρ (.bool b) v):v = .bool b:=by
 cases h with|x h=>cases h with|flat h=>cases h;rfl
theorem VR.int_inv{k:IntKind}{n:Int}{v:Value}(h:VR ρ (.int k n) v):v = .int k n:=by
 cases h with|x h=>cases h with|flat h=>cases h;rfl
theorem VR.str_inv{s:ByteArray}{v:Value}(h:VR ρ (.string s) v):v = .string s:=by
 cases h with|x h=>cases h with|flat h=>cases h;rfl
theorem VR.flat_slice{x:Option Addr}{l c:Nat}{v:Value}(h:VR ρ (.slice x l c) v):FR ρ (.slice x l c) v:=by
 cases h with|x h=>cases h with|flat h=>exact h
theorem VR.flat_ptr{x:Option Addr}{v:Value}(h:VR ρ (.pointer x) v):FR ρ (.pointer x) v:=by
 cases h with|x h=>cases h with|flat h=>exact h
theorem VR.agg_inv{xs:Array Value}{v:Value}(h:VR ρ (.agg xs) v):∃ys:List Value,v = .agg ⟨ys⟩∧All2 (FR ρ) xs.toList ys:=by
 cases h with|x h=>cases h with
  |flat h=>cases h
  |agg h=>exact⟨_,rfl,h⟩
theorem VR.tup_inv{xs:Array Value}{v:Value}(h:VR ρ (.tuple xs) v):∃ys:List Value,v = .tuple ⟨ys⟩∧All2 (XR ρ) xs.toList ys:=by
 cases h with
 |x h=>cases h with|flat h=>cases h
 |tup h=>exact⟨_,rfl,h⟩
theorem VR.of_flat{x y:Value}(h:FR ρ x y):VR ρ x y:=.x (.flat h)
theorem FR.slice_shape{x:Option Addr}{l c:Nat}{v:Value}(h:FR ρ (.slice x l c) v):∃y d,v = .slice y l d:=by
 cases h<;>exact⟨_,_,rfl⟩
theorem okFlat_sound{v:Value}(h:okFlat v=true):FR ρ v v:=by
 unfold okFlat at h
 split at h
 ·exact .bool _
 ·exact .int _ _
 ·exact .str _
 ·exact .nilp
 ·exact .nils _ _
 ·exact .nilm
 ·exact .nilf
 ·exact .nili
 ·cases h
theorem okFlats{l:List Value}(h:l.all okFlat=true):All2 (FR ρ) l l:=by
 induction l with
 |nil=>exact .nil
 |cons x l ih =>
  simp only[List.all_cons,Bool.and_eq_true] at h
  exact .cons (okFlat_sound h.1) (ih h.2)
theorem okConst_sound{v:Value}(h:okConst v=true):VR ρ v v:=by
 unfold okConst at h
 split at h
 ·rename_i cs
  exact .x (.agg (xs:=cs.toList) (ys:=cs.toList) (okFlats h))
 ·exact .of_flat (okFlat_sound h)
theorem opd_sound{x:Operand}{y:Opd}{v:Value}(hc:mkOpd x=some y)(he:evo env y=some v)(hE:ER ρ env a):VR ρ v (a.eval x):=by
 unfold mkOpd at hc
 split at hc
 ·injection hc with hc;subst hc;exact hE _ _ he
 ·split at hc
  ·rename_i hk
   injection hc with hc;subst hc
   simp only[evo,zI] at he;subst he
   exact okConst_sound hk
  ·cases hc
 ·injection hc with hc;subst hc
  simp only[evo,zI] at he;subst he
  exact .of_flat (.fn _ (cs:=[]) (ds:=[]) .nil)
 ·cases hc
theorem opt_sound{x:Option Operand}{y:Option Opd}{v:Option Value}(hc:mkOpt x=some y)(he:evopt env y=some v)(hE:ER ρ env a) :
  (x=none∧v=none)∨∃x' v',x=some x'∧v=some v'∧VR ρ v' (a.eval x'):=by
 cases x with
 |none =>
  simp only[mkOpt,zI] at hc;subst hc
  simp only[evopt,zI] at he;exact .inl ⟨rfl,he.symm⟩
 |some x =>
  simp only[mkOpt,Option.map_eq_some_iff] at hc
  obtain⟨y',hy,rfl⟩:=hc
  simp only[evopt,Option.map_eq_some_iff] at he
  obtain⟨v',hv,rfl⟩:=he
  exact .inr ⟨x,v',rfl,rfl,opd_sound hy hv hE⟩
theorem opds_sound:∀{xs:List Operand} {ys:List Opd} {vs:List Value},mkOpds xs=some ys→evs env ys=some vs→ER ρ env a→All2 (VR ρ) vs (xs.map a.eval)
 |[],ys,vs,hc,he,_=>by
  simp only[mkOpds,zI] at hc;subst hc
  simp only[evs,zI] at he;subst he
  exact .nil
 |x::xs,ys,vs,hc,he,hE=>by
  simp only[mkOpds] at hc
  split at hc
  ·rename_i y s h1 h2
   injection hc with hc;subst hc
   simp only[evs] at he
   split at he
   ·rename_i v t h3 h4
    injection he with he;subst he
    exact .cons (opd_sound h1 h3 hE) (opds_sound h2 h4 hE)
   ·cases he
  ·cases hc
theorem run_under{t:TypeId}{d:TypeDesc}(h:P.underlying t=some d):(underlying t).run P w = .ok d w:=by
 simp[underlying,h]
theorem run_info{t:TypeId}{i:TypeInfo}(h:P.info? t=some i):(typeInfo t).run P w = .ok i w:=by
 simp[typeInfo,h]
theorem run_size{t:TypeId}{n:Nat}(h:sizeT P t=some n):(sizeOf t).run P w = .ok n w:=by
 simp only[sizeT,Option.map_eq_some_iff] at h
 obtain⟨i,hi,rfl⟩:=h
 simp[sizeOf,run_info hi]
theorem run_agg{t:TypeId}{b:Bool}(h:aggT P t=some b):(isAgg t).run P w = .ok b w:=by
 unfold aggT at h
 split at h<;>simp_all [isAgg,run_under]
theorem run_zero{t:TypeId}{z:List Value}(h:zeroOf P t=some z):∃v,(zeroValue t).run P w = .ok v w∧v.cells.toList=z∧All2 (FR ρ) z z∧sizeT P t=some z.length:=by
 unfold zeroOf at h
 split at h
 ·rename_i i hi
  split at h
  ·rename_i v hz
   split at h
   ·rename_i hk
    simp only[zI] at h
    simp only[Bool.and_eq_true,Nat.beq_eq] at hk
    refine⟨v,by simp[zeroValue,run_info hi,hz],h,h▸okFlats hk.1,?_⟩
    simp only[sizeT,hi,Option.map_some,← hk.2,← h,Array.length_toList]
   ·cases h
  ·cases h
 ·cases h
theorem bytesEq_eq:∀x y:List UInt8,bytesEq x y=(x == y)
 |[],[]=>rfl
 |[],_::_=>rfl
 |_::_,[]=>rfl
 |a::x,b::y=>by simp only[bytesEq,bytesEq_eq x y,List.cons_beq_cons]
theorem toList_eq(x:ByteArray):x.toList=x.data.toList:=by
 exact ByteArray.toList_eq x
theorem strBin_sound{op:BinOp}{t:TypeId}{x y:ByteArray}{v:Value}(h:strBin op x y=some v) :
  (binOp op t (.string x) (.string y)).run P w = .ok v w∧FR ρ v v:=by
 unfold strBin at h
 cases op<;>simp only[reduceCtorEq,Option.ite_none_right_eq_some,zI] at h
 case add =>
  obtain⟨hl,rfl⟩:=h
  refine⟨?_,.str _⟩
  have:¬(((x.size+y.size:Nat):Int)>IntKind.i64.max):=by simp[IntKind.max,IntKind.signed,IntKind.bits];omega
  simp only[binOp,Op.stringOp,this,if_false,Sem.run_pure]
  have e:x++y=⟨⟨x.data.toList++y.data.toList⟩⟩:=by
   apply ByteArray.ext
   rw[ByteArray.data_append]
   apply Array.ext'
   simp
  rw[e]
 all_goals
  subst h
  refine⟨?_,.bool _⟩
  simp only[binOp,Op.stringOp,bytesEq_eq,toList_eq]
  rfl
theorem leafT_size{t:TypeId}{k:LK}(h:leafT P t=some k):sizeT P t=some 1∧aggT P t=some false∧(P.underlying t=some .bool∧k = .bool∨P.underlying t=some .string∧k = .str∨(∃j,P.underlying t=some (.int j))∧k = .int):=by
 unfold leafT at h
 cases hb:Nat.beq (((P.info? t).map (·.size)).getD 0) 1 with
 |false=>rw[hb] at h;cases h
 |true =>
  rw[hb,cond_true] at h
  rw[Nat.beq_eq] at hb
  refine⟨?_,?_⟩
  ·unfold sizeT
   cases hi:(P.info? t).map (·.size) with
   |none=>rw[hi] at hb;cases hb
   |some n=>rw[hi] at hb;exact congrArg some hb
  ·split at h<;>simp only[zI,reduceCtorEq] at h<;>subst h<;>rename_i hu<;>simp[aggT,hu]
theorem bytes_beq(a b:ByteArray):(a == b)=(a.data.toList == b.data.toList):=by
 have e:(a == b)=(a.data == b.data):=by cases a;cases b;rfl
 rw[e,Bool.eq_iff_iff]
 simp only[beq_iff_eq]
 exact⟨fun e=>by rw[e],fun e=>Array.toList_inj.1 e⟩
theorem cellEq_sound{t:TypeId}{d:Nat}{k:LK}{x y x' y':Value}{b:Bool}(hl:leafT P t=some k)(h:cellEq k x y=some b)(hx:FR ρ x x')(hy:FR ρ y y') :
  (Op.equalIn (d+1) t x' y').run P w = .ok b w:=by
 obtain⟨_,_,hu⟩:=leafT_size hl
 rcases hu with⟨hu,rfl⟩|⟨hu,rfl⟩|⟨⟨j,hu⟩,rfl⟩
 ·cases x<;>simp only[cellEq,reduceCtorEq] at h
  cases y<;>simp only[reduceCtorEq,zI] at h
  cases hx;cases hy;subst h
  simp[Op.equalIn,run_under hu]
 ·cases x<;>simp only[cellEq,reduceCtorEq] at h
  cases y<;>simp only[reduceCtorEq,zI] at h
  cases hx;cases hy;subst h
  simp only[Op.equalIn,Sem.run_bind,run_under hu,Result.andThen_ok,Sem.run_pure,bytesEq_eq,bytes_beq]
 ·cases x<;>simp only[cellEq,reduceCtorEq] at h
  cases y<;>simp only[reduceCtorEq,Option.ite_none_right_eq_some,zI] at h
  obtain⟨rfl,rfl⟩:=h
  cases hx;cases hy
  simp[Op.equalIn,run_under hu,ieqF_eq]
theorem cellsEq_sound{d:Nat}{xs ys:Array Value}:∀(fs:List Field) (off:Nat) (ks:List LK) (x y x' y':List Value) (b:Bool),leafStruct P fs off=some ks→cellsEq ks x y=some b→All2 (FR ρ) x x'→All2 (FR ρ) y y' →
  xs.toList.drop off=x'→ys.toList.drop off=y'→(Op.eqFields (d+1) xs ys fs).run P w = .ok b w
 |[],off,ks,x,y,x',y',b,hl,h,hx,hy,ex,ey=>by
  simp only[leafStruct,zI] at hl;subst hl
  cases x<;>cases y<;>simp only[cellsEq,reduceCtorEq,zI] at h
  subst h;simp[Op.eqFields]
 |f::fs,off,ks,x,y,x',y',b,hl,h,hx,hy,ex,ey=>by
  simp only[leafStruct] at hl
  split at hl
  ·rename_i k s hk hs
   cases hc:(f.name != "_" && Nat.beq f.offset off) with
   |false=>rw[hc] at hl;cases hl
   |true =>
    rw[hc,cond_true,zI] at hl;subst hl
    simp only[Bool.and_eq_true,bne_iff_ne,ne_eq,Nat.beq_eq] at hc
    obtain⟨hn,ho⟩:=hc
    obtain⟨hsz,hag,_⟩:=leafT_size hk
    cases hx with
    |nil=>cases y<;>simp[cellsEq] at h
    |cons rx tx =>
     cases hy with
     |nil=>simp[cellsEq] at h
     |cons ry ty =>
      rename_i ax bx tlx tlx' ay by' tly tly'
      have gx:xs[f.offset]? = some bx:=by rw[ho,← Array.getElem?_toList,← List.head?_drop,ex];rfl
      have gy:ys[f.offset]? = some by':=by rw[ho,← Array.getElem?_toList,← List.head?_drop,ey];rfl
      have ex':xs.toList.drop (off+1)=tlx':=by rw[← List.tail_drop,ex];rfl
      have ey':ys.toList.drop (off+1)=tly':=by rw[← List.tail_drop,ey];rfl
      simp only[cellsEq] at h
      have px:(part f.type xs f.offset).run P w = .ok bx w:=by simp[part,run_agg hag,gx]
      have py:(part f.type ys f.offset).run P w = .ok by' w:=by simp[part,run_agg hag,gy]
      split at h
      ·rename_i hc
       have he:=cellEq_sound (P:=P) (w:=w) (d:=d) hk hc rx ry
       simp[Op.eqFields,hn,px,py,he]
       exact cellsEq_sound fs (off+1) s tlx tly tlx' tly' b hs h tx ty ex' ey'
      ·rename_i hc
       have he:=cellEq_sound (P:=P) (w:=w) (d:=d) hk hc rx ry
       simp only[zI] at h;subst h
       simp[Op.eqFields,hn,px,py,he]
      ·cases h
  ·cases hl
def noGuard:Value→Bool
 | .agg _ | .nilIface=>false
 |_=>true
theorem guard_flat{t:TypeId}{x y:Value}(h:noGuard x=true)(op:BinOp)(u v:Operand):(eqGuard op t u v x y).run P w = .ok () w:=by
 unfold eqGuard
 cases op<;>first|rfl|(cases x<;>first|rfl|(simp[noGuard] at h;done))
section
variable {d:Nat}{t:TypeId}
theorem eq_bool(hu:P.underlying t=some .bool)(a b:Bool):(Op.equalIn (d+1) t (.bool a) (.bool b)).run P w = .ok (a == b) w:=by
 simp only[Op.equalIn,Sem.run_bind,run_under hu,Result.andThen_ok,Sem.run_pure]
theorem eq_ptr_none{e:TypeId}(hu:P.underlying t=some (.pointer e))(b:Option Addr):(Op.equalIn (d+1) t (.pointer none) (.pointer b)).run P w = .ok b.isNone w:=by
 simp only[Op.equalIn,Sem.run_bind,run_under hu,Result.andThen_ok,Sem.run_pure]
theorem eq_ptr_some_none{e:TypeId}(hu:P.underlying t=some (.pointer e))(a:Addr):(Op.equalIn (d+1) t (.pointer (some a)) (.pointer none)).run P w = .ok false w:=by
 simp only[Op.equalIn,Sem.run_bind,run_under hu,Result.andThen_ok,Sem.run_pure]
theorem eq_ptr_same{e n:TypeId}(hu:P.underlying t=some (.pointer e))(hs:sizeT P e=some n)(hn:n≠0)(b o o':Nat) :
  (Op.equalIn (d+1) t (.pointer (some ⟨b,o,none⟩)) (.pointer (some ⟨b,o',none⟩))).run P w = .ok (Nat.beq o o') w:=by
 simp only[Op.equalIn,Sem.run_bind,run_under hu,Result.andThen_ok,run_size hs,ne_eq,hn,not_false_eq_true,if_true,sameAddr,beq_self_eq_true,Sem.run_pure]
 congr 1
 rw[Bool.eq_iff_iff,Nat.beq_eq,beq_iff_eq]
 simp
theorem eq_slc_none{e:TypeId}(hu:P.underlying t=some (.slice e))(b:Option Addr)(l c l' c':Nat):(Op.equalIn (d+1) t (.slice none l c) (.slice b l' c')).run P w = .ok b.isNone w:=by
 simp only[Op.equalIn,Sem.run_bind,run_under hu,Result.andThen_ok,Sem.run_pure]
theorem eq_slc_some_none{e:TypeId}(hu:P.underlying t=some (.slice e))(a:Addr)(l c l' c':Nat):(Op.equalIn (d+1) t (.slice (some a) l c) (.slice none l' c')).run P w = .ok false w:=by
 simp only[Op.equalIn,Sem.run_bind,run_under hu,Result.andThen_ok,Sem.run_pure]
theorem eq_fn_nn{p r:Array TypeId}{v:Bool}(hu:P.underlying t=some (.func p r v)):(Op.equalIn (d+1) t .nilFunc .nilFunc).run P w = .ok true w:=by
 simp only[Op.equalIn,Sem.run_bind,run_under hu,Result.andThen_ok,Sem.run_pure]
theorem eq_fn_nf{p r:Array TypeId}{v:Bool}(hu:P.underlying t=some (.func p r v))(f:Fn)(x y:Array Value):(Op.equalIn (d+1) t .nilFunc (.func f x y)).run P w = .ok false w:=by
 simp only[Op.equalIn,Sem.run_bind,run_under hu,Result.andThen_ok,Sem.run_pure]
theorem eq_fn_fn{p r:Array TypeId}{v:Bool}(hu:P.underlying t=some (.func p r v))(f:Fn)(x y:Array Value):(Op.equalIn (d+1) t (.func f x y) .nilFunc).run P w = .ok false w:=by
 simp only[Op.equalIn,Sem.run_bind,run_under hu,Result.andThen_ok,Sem.run_pure]
end
theorem eqk_inv(t:TypeId):match eqk P t with
  | .num=>P.underlying t=some .bool
  | .ptr=>∃e n,P.underlying t=some (.pointer e)∧sizeT P e=some n∧n≠0
  | .slc=>∃e,P.underlying t=some (.slice e)
  | .func=>∃p r v,P.underlying t=some (.func p r v)
  | .agg ks=>∃fs,P.underlying t=some (.struct fs)∧leafStruct P fs.toList 0=some ks∧P.stoodInHeld t=false∧P.eqGuardType P.depth t=false
  |_=>True:=by
 cases hu:P.underlying t with
 |none=>simp[eqk,hu]
 |some u =>
  cases u with
  |bool=>simp[eqk,hu]
  |pointer e =>
   cases hi:P.info? e with
   |none=>simp[eqk,hu,hi]
   |some i =>
    by_cases hz:i.size=0
    ·simp[eqk,hu,hi,hz]
    ·simp[eqk,hu,hi,hz,sizeT]
  |slice e=>simp[eqk,hu]
  |func p r v=>simp[eqk,hu]
  | «struct» fs =>
   cases hl:leafStruct P fs.toList 0 with
   |none=>simp[eqk,hu,hl]
   |some ks =>
    cases h1:P.stoodInHeld t<;>cases h2:P.eqGuardType P.depth t<;>simp[eqk,hu,hl,h1,h2]
  |_=>simp[eqk,hu]
theorem eqValIn_sound{d:Nat}{t:TypeId}{x y x' y':Value}{b:Bool}(h:eqVal (eqk P t) x y=some b)(hx:VR ρ x x')(hy:VR ρ y y') :
  (Op.equalIn (d+1+1) t x' y').run P w = .ok b w∧∀op u v,(eqGuard op t u v x' y').run P w = .ok () w:=by
 have hk:=eqk_inv (P:=P) t
 generalize eqk P t=e at h hk
 cases e with
 |num =>
  unfold eqVal at h
  split at h<;>first|contradiction|skip
  all_goals simp only[zI] at *
  subst h
  cases hx.bool_inv;cases hy.bool_inv
  exact⟨eq_bool hk _ _,guard_flat rfl⟩
 |ptr =>
  obtain⟨e,n,hu,hs,hn⟩:=hk
  unfold eqVal at h
  split at h<;>first|contradiction|skip
  all_goals simp only[zI] at *
  ·subst h
   cases hx.flat_ptr
   have hy:=hy.flat_ptr
   cases hy<;>exact⟨eq_ptr_none hu _,guard_flat rfl⟩
  ·subst h
   cases hx.flat_ptr
   cases hy.flat_ptr
   exact⟨eq_ptr_some_none hu _,guard_flat rfl⟩
  ·rename_i p q _ _ _
   cases hx.flat_ptr with
   |ptr hp=>cases hy.flat_ptr with
    |ptr hq =>
     rename_i i1 b1 s1 o1 i2 b2 s2 o2
     cases hb:Nat.beq i1 i2 with
     |false=>simp only[hb,cond_false,reduceCtorEq] at h
     |true =>
      simp only[hb,cond_true,zI] at h;subst h
      rw[Nat.beq_eq] at hb;subst hb
      rw[hp] at hq;injection hq with hq;injection hq with h1 h2;subst h1;subst h2
      exact⟨eq_ptr_same hu hs hn _ _ _,guard_flat rfl⟩
 |slc =>
  obtain⟨e,hu⟩:=hk
  unfold eqVal at h
  split at h<;>first|contradiction|skip
  all_goals simp only[zI] at *
  ·subst h
   cases hx.flat_slice
   have hy:=hy.flat_slice
   cases hy<;>exact⟨eq_slc_none hu _ _ _ _ _,guard_flat rfl⟩
  ·subst h
   cases hy.flat_slice
   have hx:=hx.flat_slice
   cases hx<;>exact⟨eq_slc_some_none hu _ _ _ _ _,guard_flat rfl⟩
 |iface=>unfold eqVal at h;split at h<;>first|contradiction|simp only[reduceCtorEq] at *
 |no=>unfold eqVal at h;split at h<;>first|contradiction|simp only[reduceCtorEq] at *
 |func =>
  obtain⟨p,r,v,hu⟩:=hk
  unfold eqVal at h
  split at h<;>first|contradiction|skip
  all_goals simp only[zI] at *
  ·subst h
   cases hx with|x hx=>cases hx with|flat hx=>cases hx;cases hy with|x hy=>cases hy with|flat hy=>cases hy;exact⟨eq_fn_nn hu,guard_flat rfl⟩
  ·subst h
   cases hx with|x hx=>cases hx with|flat hx=>cases hx;cases hy with|x hy=>cases hy with|flat hy=>cases hy;exact⟨eq_fn_nf hu _ _ _,guard_flat rfl⟩
  ·subst h
   cases hy with|x hy=>cases hy with|flat hy=>cases hy;cases hx with|x hx=>cases hx with|flat hx=>cases hx;exact⟨eq_fn_fn hu _ _ _,guard_flat rfl⟩
 |agg ks =>
  obtain⟨fs,hu,hl,hst,hg⟩:=hk
  unfold eqVal at h
  split at h<;>first|contradiction|skip
  all_goals simp only[EqK.agg.injEq] at *
  rename_i a b' hk'
  subst hk'
  obtain⟨xs,rfl,hxs⟩:=hx.agg_inv
  obtain⟨ys,rfl,hys⟩:=hy.agg_inv
  have hf:P.fieldsOf t=fs:=by simp[Program.fieldsOf,hu]
  refine⟨?_,?_⟩
  ·rw[run_equalIn_struct w (d+1) t ⟨xs⟩ ⟨ys⟩ (by rw[hf];exact hu) hst,hf]
   exact cellsEq_sound fs.toList 0 ks _ _ _ _ b hl h hxs hys rfl rfl
  ·intro op u v
   unfold eqGuard
   cases op<;>first|rfl|skip
   all_goals simp[hg]
theorem eqVal_sound{t:TypeId}{x y x' y':Value}{b:Bool}(h:eqVal (eqk P t) x y=some b)(hx:VR ρ x x')(hy:VR ρ y y') :
  (Op.equal t x' y').run P w = .ok b w∧∀op u v,(eqGuard op t u v x' y').run P w = .ok () w :=
 eqValIn_sound (d:=9998) h hx hy
theorem binVal_sound{op:BinOp}{t:TypeId}{x y x' y':Value}{v:Value}{ox oy:Operand}(h:binVal op (eqk P t) x y=some v)(hx:VR ρ x x')(hy:VR ρ y y') :
  (do eqGuard op t ox oy x' y';binOp op t x' y':Sem Value).run P w = .ok v w∧VR ρ v v:=by
 unfold binVal at h
 split at h
 ·cases hx.int_inv;cases hy.int_inv
  obtain⟨h1,h2⟩:=intBin_sound (P:=P) (w:=w) (t:=t) h
  exact⟨by rw[Sem.run_bind,guard_flat rfl];exact h1,.of_flat (h2 ρ)⟩
 ·cases hx.str_inv;cases hy.str_inv
  obtain⟨h1,h2⟩:=strBin_sound (P:=P) (w:=w) (ρ:=ρ) (t:=t) h
  exact⟨by rw[Sem.run_bind,guard_flat rfl];exact h1,.of_flat h2⟩
 ·rename_i hn1 hn2
  have key:∀b,eqVal (eqk P t) x y=some b→(eqGuard op t ox oy x' y').run P w = .ok () w ∧
    (op = .eql→(binOp op t x' y').run P w = .ok (.bool b) w)∧(op = .neq→(binOp op t x' y').run P w = .ok (.bool (!b)) w):=by
   intro b hb
   obtain⟨h1,h2⟩:=eqVal_sound (P:=P) (w:=w) hb hx hy
   have hi:∀k n,x' = .int k n→False:=by
    intro k n e;subst e
    cases hx with|x hx=>cases hx with|flat hx=>cases hx with
     |int=>unfold eqVal at hb;split at hb<;>simp_all
     |tok=>revert hb;unfold eqVal;cases eqk P t<;>cases y<;>simp
   have hs:∀s,x' = .string s→False:=by
    intro s e;subst e
    cases hx with|x hx=>cases hx with|flat hx=>cases hx;unfold eqVal at hb;split at hb<;>simp_all
   have hf:∀k s,x' = .float k s→False:=by
    intro k s e;subst e
    cases hx with|x hx=>cases hx with|flat hx=>cases hx
   have hc:∀k s r,x' = .complex k s r→False:=by
    intro k s r e;subst e
    cases hx with|x hx=>cases hx with|flat hx=>cases hx
   refine⟨h2 _ _ _,?_,?_⟩
   ·intro e;subst e
    unfold binOp
    split<;>first|(simp at *; done)|skip
    all_goals first|(exact(hi _ _ rfl).elim)|(exact(hf _ _ rfl).elim)|(exact(hc _ _ _ rfl).elim)|(exact(hs _ rfl).elim)|(simp[h1];done)|(simp_all;done)
   ·intro e;subst e
    unfold binOp
    split<;>first|(simp at *; done)|skip
    all_goals first|(exact(hi _ _ rfl).elim)|(exact(hf _ _ rfl).elim)|(exact(hc _ _ _ rfl).elim)|(exact(hs _ rfl).elim)|(simp[h1];done)|(simp_all;done)
  split at h
  ·simp only[Option.map_eq_some_iff] at h
   obtain⟨b,hb,rfl⟩:=h
   obtain⟨k1,k2,_⟩:=key b hb
   exact⟨by rw[Sem.run_bind,k1];exact k2 rfl,.of_flat (.bool _)⟩
  ·simp only[Option.map_eq_some_iff] at h
   obtain⟨b,hb,rfl⟩:=h
   obtain⟨k1,_,k2⟩:=key b hb
   exact⟨by rw[Sem.run_bind,k1];exact k2 rfl,.of_flat (.bool _)⟩
  ·cases h
end Go.AI
/- The evaluator's operations that only look at temporaries, all of them. No program is named here. -/
namespace Go.AI
variable {P:Program}{ρ:Ren}{env:List (Nat×Value)}{a:Act}{w:World}
theorem ok_v{s:Sem Value}{v:Value}(h:s.run P w = .ok v w):(do pure (Next.value (← s)):Sem Next).run P w = .ok (.value v) w:=by
 simp[h]
theorem natOf_inv{v:Value}{n:Nat}(h:natOf v=some n):∃k,v = .int k (Int.ofNat n):=by
 unfold natOf at h
 split at h
 ·injection h with h;subst h;exact⟨_,rfl⟩
 ·cases h
theorem sliceBound_ok{k:IntKind}{n y:Nat}(c:BoundsCode)(h:n≤y):(Instr.sliceBound (.int k (Int.ofNat n)) y c).run P w = .ok n w:=by
 have:(0:Int)≤Int.ofNat n∧Int.ofNat n≤(y:Int):=⟨by simp,by simp;exact_mod_cast h⟩
 simp only[Instr.sliceBound,asIntOf,Sem.run_bind,Sem.run_pure,Result.andThen_ok]
 rw[if_pos this]
 rfl
inductive OptR(ρ:Ren):Option Value→Option Value→Prop
 |none:OptR ρ none none
 |some {v v'} (h:VR ρ v v'):OptR ρ (some v) (some v')
theorem bounds_sound{s:Bool}{len cap len' cap':Nat}{lo hi mx lo' hi' mx':Option Value}{l h m:Nat}(hb:bounds len cap lo hi mx=some (l,h,m))(hl:len'=len)(hc:cap≤cap')
  (rl:OptR ρ lo lo') (rh:OptR ρ hi hi') (rm:OptR ρ mx mx') :
  (Instr.sliceBounds s len' cap' lo' hi' mx').run P w = .ok (l,h,if mx=none then cap' else m) w∧l≤h∧h≤m∧m≤cap∧(mx=none→m=cap):=by
 subst hl
 unfold bounds at hb
 split at hb
 ·cases hb
 ·rename_i m0 hm0
  split at hb
  ·cases hb
  ·rename_i h0 hh0
   split at hb
   ·cases hb
   ·rename_i l0 hl0
    cases hcnd:(Nat.ble m0 cap&&(Nat.ble h0 m0&&Nat.ble l0 h0)&&(hi.isSome||mx.isNone)) with
    |false=>rw[hcnd] at hb;cases hb
    |true =>
     rw[hcnd,cond_true] at hb
     simp only[zI,Prod.mk.injEq] at hb
     obtain⟨rfl,rfl,rfl⟩:=hb
     simp only[Bool.and_eq_true,Nat.ble_eq] at hcnd
     obtain⟨⟨h1,h2,h3⟩,h4⟩:=hcnd
     refine⟨?_,h3,h2,h1,?_⟩
     ·-- the model's own bounds
      have em:mx=none→m0=cap:=by
       intro e;subst e;simp only[natOpt,zI] at hm0;exact hm0.symm
      unfold Instr.sliceBounds
      cases rm with
      |none =>
       have em:=em rfl
       simp only[Sem.run_bind,Sem.run_pure,Result.andThen_ok,if_true]
       cases rh with
       |none =>
        simp only[natOpt,zI] at hh0;subst hh0
        simp only[]
        cases rl with
        |none=>simp only[natOpt,zI] at hl0;subst hl0;simp only[Sem.run_bind,Sem.run_pure,Result.andThen_ok]
        |some r =>
         simp only[natOpt] at hl0
         obtain⟨k,rfl⟩:=natOf_inv hl0
         cases r.int_inv
         simp only[Sem.run_bind,sliceBound_ok _ h3,Result.andThen_ok,Sem.run_pure]
       |some r =>
        simp only[natOpt] at hh0
        obtain⟨k,rfl⟩:=natOf_inv hh0
        cases r.int_inv
        simp only[Sem.run_bind,sliceBound_ok _ (show h0≤cap' by omega),Result.andThen_ok]
        cases rl with
        |none=>simp only[natOpt,zI] at hl0;subst hl0;simp only[Sem.run_bind,Sem.run_pure,Result.andThen_ok]
        |some r =>
         simp only[natOpt] at hl0
         obtain⟨k,rfl⟩:=natOf_inv hl0
         cases r.int_inv
         simp only[Sem.run_bind,sliceBound_ok _ h3,Result.andThen_ok,Sem.run_pure]
      |some r =>
       simp only[natOpt] at hm0
       obtain⟨k,rfl⟩:=natOf_inv hm0
       cases r.int_inv
       simp only[Sem.run_bind,sliceBound_ok _ (show m0≤cap' by omega),Result.andThen_ok,reduceCtorEq,if_false]
       cases rh with
       |none=>simp at h4
       |some r =>
        simp only[natOpt] at hh0
        obtain⟨k,rfl⟩:=natOf_inv hh0
        cases r.int_inv
        simp only[Sem.run_bind,sliceBound_ok _ h2,Result.andThen_ok]
        cases rl with
        |none=>simp only[natOpt,zI] at hl0;subst hl0;simp only[Sem.run_bind,Sem.run_pure,Result.andThen_ok]
        |some r =>
         simp only[natOpt] at hl0
         obtain⟨k,rfl⟩:=natOf_inv hl0
         cases r.int_inv
         simp only[Sem.run_bind,sliceBound_ok _ h3,Result.andThen_ok,Sem.run_pure]
     ·intro e;subst e;simp only[natOpt,zI] at hm0;exact hm0.symm
theorem optR_of{x:Option Operand}{y:Option Opd}{v:Option Value}(hc:mkOpt x=some y)(he:evopt env y=some v)(hE:ER ρ env a):OptR ρ v (x.map a.eval):=by
 rcases opt_sound hc he hE with⟨rfl,rfl⟩|⟨x',v',rfl,rfl,h⟩
 ·exact .none
 ·exact .some h
theorem add_addr(i o n:Nat):Addr.add ⟨i,o,none⟩ n=⟨i,o+n,none⟩:=by
 unfold Addr.add
 split
 ·rename_i h;subst h;rfl
 ·rfl
theorem sliceL_sound{e:Nat}{x x':Option Addr}{s:Bool}{len cap cap':Nat}{lo hi mx lo' hi' mx':Option Value}{v:Value}
  (h:sliceL e x len cap lo hi mx=some v) (hx:FR ρ (.slice x len cap) (.slice x' len cap'))
  (rl:OptR ρ lo lo') (rh:OptR ρ hi hi') (rm:OptR ρ mx mx') :
  ∃l h m v',(Instr.sliceBounds s len cap' lo' hi' mx').run P w = .ok (l,h,m) w∧v' = .slice (if m=l then x' else x'.map (·.add (l*e))) (h-l) (m-l)∧FR ρ v v':=by
 unfold sliceL at h
 split at h
 ·cases h
 ·rename_i l hh m hb
  have hcap:cap≤cap':=by cases hx<;>omega
  obtain⟨h1,h2,h3,h4,h5⟩:=bounds_sound (P:=P) (w:=w) (s:=s) hb rfl hcap rl rh rm
  refine⟨_,_,_,_,h1,rfl,?_⟩
  cases hx with
  |nils l0 c0 =>
   simp only[zI] at h;subst h
   have:(if mx=none then cap else m)=m:=by(split;exact(h5 (by assumption)).symm;rfl)
   rw[this]
   split<;>exact .nils _ _
  |slc hr =>
   rename_i i b s0 o
   simp only at h
   cases mx with
   |none =>
    have e5:=h5 rfl
    simp only[if_true] at *
    cases hlt:(Nat.blt l m||Nat.beq l 0) with
    |true =>
     simp only[hlt,cond_true,zI] at h;subst h
     rw[Bool.or_eq_true,blt_iff,decide_eq_true_eq,Nat.beq_eq] at hlt
     have hadd:(if cap+s0=l then some (⟨b,o,none⟩:Addr) else(some (⟨b,o,none⟩:Addr)).map (·.add (l*e)))=some ⟨b,o+l*e,none⟩:=by
      split
      ·have h0:l=0:=by omega
       rw[h0,Nat.zero_mul,Nat.add_zero]
      ·simp only[Option.map_some,add_addr]
     rw[hadd]
     have:cap+s0-l=(m-l)+s0:=by omega
     rw[this]
     exact .slc hr
    |false =>
     simp only[hlt,cond_false,zI] at h;subst h
     rw[Bool.or_eq_false_iff,blt_iff,decide_eq_false_iff_not] at hlt
     have hlt:=hlt.1
     have e0:hh-l=0:=by omega
     rw[e0]
     split
     ·exact .slz hr
     ·simp only[Option.map_some,add_addr];exact .slz hr
   |some q =>
    simp only[reduceCtorEq,if_false] at *
    cases hlt:Nat.beq m l with
    |true =>
     simp only[hlt,cond_true,zI] at h;subst h
     rw[Nat.beq_eq] at hlt;subst hlt
     simp only[if_true,Nat.sub_self]
     have e0:hh-m=0:=by omega
     rw[e0]
     exact .slx hr
    |false =>
     simp only[hlt,cond_false,zI] at h;subst h
     have hne:¬(m=l):=fun e=>by rw[e,Nat.beq_refl] at hlt;cases hlt
     simp only[hne,if_false,Option.map_some,add_addr]
     exact .slx hr
  |slx hr =>
   have em:(if mx=none then cap else m)=m:=by(split;exact(h5 (by assumption)).symm;rfl)
   rw[em]
   simp only at h
   cases hlt:Nat.beq m l with
   |true =>
    simp only[hlt,cond_true,zI] at h;subst h
    rw[Nat.beq_eq] at hlt;subst hlt
    simp only[if_true,Nat.sub_self]
    have e0:hh-m=0:=by omega
    rw[e0]
    exact .slx hr
   |false =>
    simp only[hlt,cond_false,zI] at h;subst h
    have hne:¬(m=l):=fun e=>by rw[e,Nat.beq_refl] at hlt;cases hlt
    simp only[hne,if_false,Option.map_some,add_addr]
    exact .slx hr
  |slz hr =>
   simp only[zI] at h;subst h
   have e1:hh-l=0:=by omega
   rw[e1]
   generalize(if mx=none then cap' else m)=q
   by_cases hq:q=l
   ·rw[if_pos hq];exact .slz hr
   ·rw[if_neg hq];simp only[Option.map_some,add_addr];exact .slz hr
theorem over_length:∀(cs vs:List Value),vs.length≤cs.length→(over cs vs).length=cs.length
 |cs,[],_=>by cases cs<;>simp[over]
 |[],v::vs,h=>by simp at h
 |c::cs,v::vs,h=>by simp only[over,List.length_cons];rw[over_length cs vs (by simpa using h)]
theorem over_eq:∀(cs vs:List Value),vs.length≤cs.length→over cs vs=vs++cs.drop vs.length
 |cs,[],_=>by cases cs<;>simp[over]
 |[],v::vs,h=>by simp at h
 |c::cs,v::vs,h=>by simp only[over,List.cons_append,List.length_cons,List.drop_succ_cons];rw[over_eq cs vs (by simpa using h)]
theorem splice_eq:∀(cs:List Value) (n:Nat) (vs:List Value),n+vs.length≤cs.length→splice cs n vs=cs.take n++vs++cs.drop (n+vs.length)
 |cs,0,vs,h=>by cases cs<;>simp only[splice]<;>rw[over_eq _ _ (by omega)]<;>simp
 |[],n+1,vs,h=>by simp at h
 |c::cs,n+1,vs,h=>by
  simp only[splice,List.take_succ_cons,List.cons_append]
  rw[splice_eq cs n vs (by simp at h;omega),show n+1+vs.length=(n+vs.length)+1 by omega]
  rfl
theorem splice_length{cs:List Value}{n:Nat}{vs:List Value}(h:n+vs.length≤cs.length):(splice cs n vs).length=cs.length:=by
 rw[splice_eq cs n vs h];simp;omega
theorem splice_all2{R:Value→Value→Prop}{cs cs' vs vs':List Value}{n:Nat}(h:n+vs.length≤cs.length)(hc:All2 R cs cs')(hv:All2 R vs vs'):All2 R (splice cs n vs) (splice cs' n vs'):=by
 have e1:=hc.length
 have e2:=hv.length
 rw[splice_eq cs n vs h,splice_eq cs' n vs' (by omega),← e2]
 exact((hc.take n).append hv).append (hc.drop _)
theorem foldl_set(vs:List Value):∀(cs:Array Value) (off k:Nat),off+k+vs.length≤cs.size →
  ((vs.zipIdx k).foldl (fun cs (x:Value×Nat)=>cs.setIfInBounds (off+x.2) x.1) cs).toList=splice cs.toList (off+k) vs:=by
 induction vs with
 |nil=>intro cs off k h;simp only[List.zipIdx_nil,List.foldl_nil];rw[splice_eq _ _ _ (by simpa using h)];simp
 |cons v vs ih =>
  intro cs off k h
  simp only[List.length_cons] at h
  simp only[List.zipIdx_cons,List.foldl_cons]
  rw[ih (cs.setIfInBounds (off+k) v) off (k+1) (by simp;omega)]
  rw[splice_eq _ _ _ (by simp;omega),splice_eq _ _ _ (by simp;omega)]
  simp only[Array.toList_setIfInBounds,List.length_cons]
  have hlt:off+k<cs.toList.length:=by simp;omega
  rw[show off+(k+1)=(off+k)+1 by omega,List.take_succ_eq_append_getElem (by simpa using hlt),List.getElem_set_self,List.take_set_of_le (Nat.le_refl _)]
  rw[List.drop_set_of_lt (by omega)]
  simp only[List.append_assoc,List.cons_append,List.nil_append]
  rw[show off+k+1+vs.length=off+k+(vs.length+1) by omega]
theorem cellsV_sound{v v':Value}{cs:List Value}(h:cellsV v=some cs)(hv:VR ρ v v'):All2 (FR ρ) cs v'.cells.toList:=by
 cases hv with
 |x hv =>
  have:=hv.cells
  cases hv with
  |flat hf=>cases hf<;>(simp only[cellsV,zI] at h;subst h;exact this)
  |agg hf=>simp only[cellsV,zI] at h;subst h;exact hf
 |tup hv=>simp[cellsV] at h
theorem fill_sound{place:Nat→Option (Nat×Nat)}:∀{ps:List (Nat×Operand)} {qs:List (Nat×Nat×Opd)} {cs cs':List Value} {r:List Value},mkParts place ps=some qs→fillp env cs qs=some r→ER ρ env a→All2 (FR ρ) cs cs' →
  ∃r',Instr.fill place ⟨cs'⟩ (ps.map fun p=>(p.1,a.eval p.2))=some ⟨r'⟩∧All2 (FR ρ) r r'
 |[],qs,cs,cs',r,hm,hf,_,hc=>by
  simp only[mkParts,zI] at hm;subst hm
  simp only[fillp,zI] at hf;subst hf
  exact⟨cs',rfl,hc⟩
 |(i,x)::ps,qs,cs,cs',r,hm,hf,hE,hc=>by
  simp only[mkParts] at hm
  split at hm
  ·rename_i off n y s h1 h2 h3
   injection hm with hm;subst hm
   simp only[fillp] at hf
   split at hf
   ·rename_i v hv
    split at hf
    ·rename_i vs hvs
     cases hcnd:(Nat.beq vs.length n&&Nat.ble (off+n) cs.length) with
     |false=>rw[hcnd] at hf;cases hf
     |true =>
      rw[hcnd,cond_true] at hf
      simp only[Bool.and_eq_true,Nat.beq_eq,Nat.ble_eq] at hcnd
      obtain⟨hn,hle⟩:=hcnd
      have hcs:=cellsV_sound hvs (opd_sound h2 hv hE)
      have hl:=hcs.length
      have hl2:=hc.length
      have hsp:=splice_all2 (n:=off) (by omega) hc hcs
      obtain⟨r',hr,hr2⟩:=fill_sound h3 hf hE hsp
      refine⟨r',?_,hr2⟩
      have hsz:(a.eval x).cells.size=n:=by rw[← Array.length_toList];omega
      have hcnd':(decide ((a.eval x).cells.size≠n)||decide (off+(a.eval x).cells.size>(⟨cs'⟩:Array Value).size))=false:=by
       have:¬(off+(a.eval x).cells.size>cs'.length):=by omega
       simp[hsz];omega
      have hfold:(a.eval x).cells.zipIdx.foldl (fun cs (c,j)=>cs.setIfInBounds (off+j) c) (⟨cs'⟩:Array Value)=⟨splice cs' off (a.eval x).cells.toList⟩:=by
       apply Array.ext'
       have:=foldl_set (a.eval x).cells.toList ⟨cs'⟩ off 0 (by simp;omega)
       rw[← Array.foldl_toList,Array.toList_zipIdx]
       exact this
      simp only[List.map_cons,Instr.fill,h1,hfold,hr]
      simp only[hcnd',Bool.false_eq_true,if_false]
    ·cases hf
   ·cases hf
  ·cases hm
end Go.AI
/- Each operation that only looks at temporaries: the evaluator's answer stands for the model's, in any world. No program is named here. -/
namespace Go.AI
variable {P:Program}{ρ:Ren}{env:List (Nat×Value)}{a:Act}{w:World}
def PureOk(P:Program)(ρ:Ren)(env:List (Nat×Value))(a:Act)(op:Op):Prop :=
 ∀(p:PureOp) (v:Value),mkPure P op=some p→peval env p=some v→ER ρ env a→∀(w:World) (dst:Option Tmp) (ty:TypeId) (pos:String) (af:Array Edge) (g:Option (Nat×Bool)),
  ∃v',(execOp a.eval ⟨dst,op,ty,pos,af,g⟩).run P w = .ok (.value v') w∧VR ρ v v'
theorem pure_move(x:Operand):PureOk P ρ env a (.move x):=by
 intro p v hc he hE w dst ty pos af g
 simp only[mkPure,Option.map_eq_some_iff] at hc
 obtain⟨y,hy,rfl⟩:=hc
 exact⟨_,rfl,opd_sound hy he hE⟩
theorem pure_assign(x:Operand):PureOk P ρ env a (.assign x):=by
 intro p v hc he hE w dst ty pos af g
 simp only[mkPure,Option.map_eq_some_iff] at hc
 obtain⟨y,hy,rfl⟩:=hc
 exact⟨_,rfl,opd_sound hy he hE⟩
theorem pure_pick(c x y:Operand):PureOk P ρ env a (.pick c x y):=by
 intro p v hc he hE w dst ty pos af g
 simp only[mkPure] at hc
 split at hc
 ·rename_i c' x' y' h1 h2 h3
  injection hc with hc;subst hc
  simp only[peval] at he
  split at he
  ·rename_i hb
   have:=(opd_sound h1 hb hE).bool_inv
   exact⟨_,by simp only[execOp,this,asBool,Sem.run_bind,Sem.run_pure,Result.andThen_ok,if_true],opd_sound h2 he hE⟩
  ·rename_i hb
   have:=(opd_sound h1 hb hE).bool_inv
   exact⟨_,by simp only[execOp,this,asBool,Sem.run_bind,Sem.run_pure,Result.andThen_ok,Bool.false_eq_true,if_false],opd_sound h3 he hE⟩
  ·cases he
 ·cases hc
theorem pure_bin(op:BinOp)(t:TypeId)(x y:Operand)(t':TypeId):PureOk P ρ env a (.binOp op t x y t'):=by
 intro p v hc he hE w dst ty pos af g
 simp only[mkPure] at hc
 split at hc
 ·rename_i x' y' h1 h2
  injection hc with hc;subst hc
  simp only[peval] at he
  split at he
  ·rename_i u z h3 h4
   obtain⟨k1,k2⟩:=binVal_sound (P:=P) (w:=w) (ox:=x) (oy:=y) he (opd_sound h1 h3 hE) (opd_sound h2 h4 hE)
   exact⟨v,ok_v k1,k2⟩
  ·cases he
 ·cases hc
theorem pure_un(op:UnOp)(t:TypeId)(x:Operand):PureOk P ρ env a (.unOp op t x):=by
 intro p v hc he hE w dst ty pos af g
 cases op<;>simp only[mkPure,Option.map_eq_some_iff,reduceCtorEq] at hc
 all_goals obtain⟨y,hy,rfl⟩:=hc
 all_goals simp only[peval] at he
 ·split at he
  ·rename_i k n hx
   injection he with he;subst he
   refine⟨.int k (wrapF k (0-n)),ok_v ?_,.of_flat (.int _ _)⟩
   rw[(opd_sound hy hx hE).int_inv,wrapF_eq]
   rfl
  ·cases he
 ·split at he
  ·rename_i k n hx
   simp only[Option.map_eq_some_iff] at he
   obtain⟨r,hr,rfl⟩:=he
   refine⟨.int k r,ok_v ?_,.of_flat (.int _ _)⟩
   rw[(opd_sound hy hx hE).int_inv]
   exact bitsS_sound hr
  ·cases he
 ·split at he
  ·rename_i b hx
   injection he with he;subst he
   refine⟨.bool (!b),ok_v ?_,.of_flat (.bool _)⟩
   rw[(opd_sound hy hx hE).bool_inv]
   rfl
  ·cases he
theorem pure_conv(s d:TypeId)(x:Operand):PureOk P ρ env a (.convert s d x):=by
 intro p v hc he hE w dst ty pos af g
 simp only[mkPure] at hc
 split at hc
 ·rename_i us k h1 h2
  simp only[Option.map_eq_some_iff] at hc
  obtain⟨y,hy,rfl⟩:=hc
  simp only[peval] at he
  split at he
  ·rename_i j n hx
   injection he with he;subst he
   refine⟨.int k (wrapF k n),ok_v ?_,.of_flat (.int _ _)⟩
   rw[(opd_sound hy hx hE).int_inv,wrapF_eq]
   simp only[convert,Sem.run_bind,run_under h1,run_under h2,Result.andThen_ok]
   rfl
  ·cases he
 ·rename_i h1 h2
  simp only[Option.map_eq_some_iff] at hc
  obtain⟨y,hy,rfl⟩:=hc
  simp only[peval] at he
  split at he
  ·rename_i q hx
   injection he with he;subst he
   refine⟨.string q,ok_v ?_,.of_flat (.str _)⟩
   rw[(opd_sound hy hx hE).str_inv]
   simp only[convert,Sem.run_bind,run_under h1,run_under h2,Result.andThen_ok]
   rfl
  ·cases he
 ·cases hc
theorem pure_slice(t:TypeId)(x:Operand)(lo hi mx:Option Operand):PureOk P ρ env a (.slice t x lo hi mx):=by
 intro p v hc he hE w dst ty pos af g
 simp only[mkPure] at hc
 split at hc
 ·rename_i x' lo' hi' mx' h1 h2 h3 h4
  split at hc
  ·rename_i hu
   split at hc
   ·injection hc with hc;subst hc
    simp only[peval] at he
    split at he
    ·rename_i s l hh hx hl hhi
     split at he
     ·rename_i l' h' m hb
      injection he with he;subst he
      have rm:mx=none:=by
       cases mx with
       |none=>rfl
       |some m=>simp[mkOpt] at h4
      subst rm
      obtain⟨k1,k2,k3,k4,k5⟩:=bounds_sound (P:=P) (w:=w) (s:=false) hb rfl (Nat.le_refl _) (optR_of h2 hl hE) (optR_of h3 hhi hE) .none
      refine⟨.string (s.extract l' h'),ok_v ?_,?_⟩
      ·rw[(opd_sound h1 hx hE).str_inv]
       simp only[Instr.sliceAt,Instr.slice,Sem.run_bind,run_under hu,Result.andThen_ok,Option.map_none,Option.isSome_none,Bool.false_eq_true,if_false,Sem.run_pure]
       rw[k1]
       rfl
      ·have:s.extract l' h'=⟨⟨(s.data.toList.drop l').take (h'-l')⟩⟩:=by
        apply ByteArray.ext
        rw[ByteArray.data_extract]
        apply Array.ext'
        simp[Array.toList_extract]
       rw[this]
       exact .of_flat (.str _)
     ·cases he
    ·cases he
   ·cases hc
  ·rename_i e hu
   simp only[Option.map_eq_some_iff] at hc
   obtain⟨n,hn,rfl⟩:=hc
   simp only[peval] at he
   split at he
   ·rename_i ad len cap l hh m hx hl hhi hmx
    have hx':=(opd_sound h1 hx hE).flat_slice
    obtain⟨y',c',hy'⟩:=hx'.slice_shape
    rw[hy'] at hx'
    obtain⟨l',h',m',v',k1,k2,k3⟩:=sliceL_sound (P:=P) (w:=w) (s:=true) he hx' (optR_of h2 hl hE) (optR_of h3 hhi hE) (optR_of h4 hmx hE)
    refine⟨v',ok_v ?_,.of_flat k3⟩
    rw[hy',k2]
    simp only[Instr.sliceAt,Instr.slice,Sem.run_bind,run_under hu,Result.andThen_ok,k1,run_size hn,Sem.run_pure]
   ·cases he
  ·rename_i n e hu
   simp only[Option.map_eq_some_iff] at hc
   obtain⟨m0,hn,rfl⟩:=hc
   simp only[peval] at he
   split at he
   ·rename_i i o l hh m hx hl hhi hmx
    cases hq:a.eval x with
    |pointer q =>
     have hx':=(opd_sound h1 hx hE)
     rw[hq] at hx'
     cases hx'.flat_ptr with
     |ptr hr =>
      obtain⟨l',h',m',v',k1,k2,k3⟩:=sliceL_sound (P:=P) (w:=w) (s:=false) he (.slx hr) (optR_of h2 hl hE) (optR_of h3 hhi hE) (optR_of h4 hmx hE)
      refine⟨v',ok_v ?_,.of_flat k3⟩
      rw[hq,k2]
      simp only[Instr.sliceAt,Instr.sureAddr,Sem.run_bind,run_under hu,Result.andThen_ok,k1,run_size hn,Sem.run_pure,Option.map_some]
      split<;>rfl
    |_ =>
     have hx':=(opd_sound h1 hx hE)
     rw[hq] at hx'
     cases hx'.flat_ptr
   ·cases he
  ·cases hc
 ·cases hc
theorem pure_nilck(x:Operand):PureOk P ρ env a (.nilCheck x):=by
 intro p v hc he hE w dst ty pos af g
 simp only[mkPure,Option.map_eq_some_iff] at hc
 obtain⟨y,hy,rfl⟩:=hc
 simp only[peval] at he
 split at he
 ·rename_i ad hx
  injection he with he;subst he
  have hx':=opd_sound hy hx hE
  refine⟨a.eval x,?_,hx'⟩
  cases hq:a.eval x<;>rw[hq] at hx'<;>have hf:=hx'.flat_ptr<;>cases hf
  simp[execOp,hq]
 ·cases he
theorem field_place{t:TypeId}{i:TypeInfo}{f:Field}(hf:f.type=t)(hi:P.info? t=some i)(hz:i.size≠0)(b o:Nat):(fieldPlace ⟨b,o,none⟩ f).run P w = .ok ⟨b,o+f.offset,none⟩ w:=by
 subst hf
 have hs:sizeT P f.type=some i.size:=by simp[sizeT,hi]
 simp only[fieldPlace,Sem.run_bind,run_size hs,Result.andThen_ok,hz,if_false,Sem.run_pure,add_addr]
theorem pure_fadd(s:TypeId)(x:Operand)(f:Nat):PureOk P ρ env a (.fieldAddr s x f):=by
 intro p v hc he hE w dst ty pos af g
 simp only[mkPure] at hc
 split at hc
 ·rename_i fs hu
  split at hc
  ·rename_i fl hf
   split at hc
   ·rename_i i hi
    split at hc
    ·cases hc
    ·rename_i hz
     simp only[Option.map_eq_some_iff] at hc
     obtain⟨y,hy,rfl⟩:=hc
     simp only[peval] at he
     split at he
     ·rename_i b o hx
      injection he with he;subst he
      have hx':=opd_sound hy hx hE
      cases hq:a.eval x<;>rw[hq] at hx'<;>have hf2:=hx'.flat_ptr<;>cases hf2
      rename_i hr
      refine⟨_,ok_v (v:=.pointer (some ⟨_,o+fl.offset,none⟩)) ?_,.of_flat (.ptr hr)⟩
      rw[hq]
      simp only[Instr.fieldAt,Instr.sureAddr,Sem.run_bind,run_under hu,Result.andThen_ok,hf,Sem.run_pure,field_place rfl hi hz]
     ·cases he
   ·cases hc
  ·cases hc
 ·cases hc
theorem pure_idx(t:TypeId)(x i:Operand):PureOk P ρ env a (.indexAddr t x i):=by
 intro p v hc he hE w dst ty pos af g
 simp only[mkPure] at hc
 split at hc
 ·rename_i x' i' h1 h2
  split at hc
  ·rename_i e hu
   simp only[Option.map_eq_some_iff] at hc
   obtain⟨n,hn,rfl⟩:=hc
   simp only[peval] at he
   split at he
   ·rename_i b o sp len cp vi hx hi
    split at he
    ·rename_i k hk
     cases hlt:Nat.blt k len with
     |false=>rw[hlt] at he;cases he
     |true =>
      rw[hlt,cond_true] at he;injection he with he;subst he
      rw[blt_iff,decide_eq_true_eq] at hlt
      obtain⟨kk,rfl⟩:=natOf_inv hk
      have hi':=(opd_sound h2 hi hE).int_inv
      have hx':=(opd_sound h1 hx hE).flat_slice
      obtain⟨y',c',hy'⟩:=hx'.slice_shape
      rw[hy'] at hx'
      obtain⟨b',s',hr,rfl⟩:∃b' s',ρ b=some (b',s')∧y'=some ⟨b',o,none⟩:=by
       cases hx' with
       |slc hr=>exact⟨_,_,hr,rfl⟩
       |slx hr=>exact⟨_,_,hr,rfl⟩
       |slz hr=>omega
      refine⟨_,ok_v (v:=.pointer (some ⟨b',o+k*n,none⟩)) ?_,.of_flat (.ptr hr)⟩
      rw[hy',hi']
      have hin:(0:Int)≤Int.ofNat k∧Int.ofNat k<(len:Int):=⟨by simp,by simp;exact_mod_cast hlt⟩
      simp only[Instr.indexAt,asIntOf,Sem.run_bind,run_under hu,Result.andThen_ok,Sem.run_pure]
      rw[if_pos hin]
      simp only[Sem.run_bind,run_size hn,Result.andThen_ok,Sem.run_pure,add_addr,zO,Int.toNat_natCast]
    ·cases he
   ·cases he
  ·rename_i len e hu
   simp only[Option.map_eq_some_iff] at hc
   obtain⟨n,hn,rfl⟩:=hc
   simp only[peval] at he
   split at he
   ·rename_i b o vi hx hi
    split at he
    ·rename_i k hk
     cases hlt:Nat.blt k len with
     |false=>rw[hlt] at he;cases he
     |true =>
      rw[hlt,cond_true] at he;injection he with he;subst he
      rw[blt_iff,decide_eq_true_eq] at hlt
      obtain⟨kk,rfl⟩:=natOf_inv hk
      have hi':=(opd_sound h2 hi hE).int_inv
      have hx':=opd_sound h1 hx hE
      cases hq:a.eval x<;>rw[hq] at hx'<;>have hf2:=hx'.flat_ptr<;>cases hf2
      rename_i b' s' hr
      refine⟨_,ok_v (v:=.pointer (some ⟨b',o+k*n,none⟩)) ?_,.of_flat (.ptr hr)⟩
      rw[hq,hi']
      have hin:(0:Int)≤Int.ofNat k∧Int.ofNat k<(len:Int):=⟨by simp,by simp;exact_mod_cast hlt⟩
      simp only[Instr.indexAt,Instr.sureAddr,asIntOf,Sem.run_bind,run_under hu,Result.andThen_ok,Sem.run_pure]
      rw[if_pos hin]
      simp only[Sem.run_bind,run_size hn,Result.andThen_ok,Sem.run_pure,add_addr,zO,Int.toNat_natCast]
    ·cases he
   ·cases he
  ·cases hc
 ·cases hc
theorem arr_get{α:Type}(l:List α)(n:Nat):(⟨l⟩:Array α)[n]? = l[n]? := by
 rw[show(⟨l⟩:Array α)=l.toArray from rfl];simp
theorem takeN_sound{cs cs' r:List Value}{off n:Nat}(h:takeN cs off n=some r)(hc:All2 (FR ρ) cs cs'):All2 (FR ρ) r ((cs'.drop off).take n)∧r.length=n:=by
 unfold takeN at h
 simp only at h
 cases hb:Nat.beq ((cs.drop off).take n).length n with
 |false=>rw[hb] at h;cases h
 |true =>
  rw[hb,cond_true,zI] at h
  rw[Nat.beq_eq] at hb
  subst h
  exact⟨(hc.drop off).take n,hb⟩
theorem part_sound{t:TypeId}{cs cs':List Value}{off n:Nat}{g:Bool}{r:List Value}{v:Value}(hg:aggT P t=some g)(hn:sizeT P t=some n)(h:takeN cs off (bif g then n else 1)=some r)(ho:oneOf g r=some v)(hc:All2 (FR ρ) cs cs') :
  ∃v',(part t ⟨cs'⟩ off).run P w = .ok v' w∧VR ρ v v':=by
 obtain⟨h1,h2⟩:=takeN_sound h hc
 unfold oneOf at ho
 cases g with
 |true =>
  simp only[cond_true,zI] at ho h1 h2;subst ho
  refine⟨.agg ⟨(cs'.drop off).take n⟩,?_,.x (.agg h1)⟩
  simp only[part,Sem.run_bind,run_agg hg,Result.andThen_ok,if_true,run_size hn,Sem.run_pure]
  congr 2
  apply Array.ext'
  simp[]
 |false =>
  simp only[cond_false] at ho h1 h2
  split at ho
  ·rename_i x
   injection ho with ho;subst ho
   cases hd:(cs'.drop off).take 1 with
   |nil=>rw[hd] at h1;cases h1
   |cons y l =>
    rw[hd] at h1
    cases h1 with
    |cons hf ht =>
     have hy:(⟨cs'⟩:Array Value)[off]? = some y:=by
      rw[arr_get]
      rw[← List.head?_drop]
      cases hdd:cs'.drop off with
      |nil=>rw[hdd] at hd;simp at hd
      |cons z l'=>rw[hdd] at hd;simp at hd;simp[hd.1]
     refine⟨y,?_,.of_flat hf⟩
     simp only[part,Sem.run_bind,run_agg hg,Result.andThen_ok,Bool.false_eq_true,if_false,hy,Sem.run_pure]
  ·cases ho
theorem bytesAt_eq:∀(l:List UInt8) (n:Nat),bytesAt l n=l[n]?
 |[],n=>by cases n<;>rfl
 |b::l,0=>rfl
 |b::l,n+1=>by simp[bytesAt,bytesAt_eq l n]
theorem pure_index(t:TypeId)(x i:Operand):PureOk P ρ env a (.index t x i):=by
 intro p v hc he hE w dst ty pos af g
 simp only[mkPure] at hc
 split at hc
 ·rename_i x' i' h1 h2
  split at hc
  ·rename_i hu
   injection hc with hc;subst hc
   simp only[peval] at he
   split at he
   ·rename_i s vi hx hi
    split at he
    ·rename_i k hk
     split at he
     ·rename_i b hb
      injection he with he;subst he
      obtain⟨kk,rfl⟩:=natOf_inv hk
      refine⟨_,ok_v (v:=.int .u8 b.toNat) ?_,.of_flat (.int _ _)⟩
      rw[(opd_sound h1 hx hE).str_inv,(opd_sound h2 hi hE).int_inv]
      rw[bytesAt_eq] at hb
      have hb':s[k]? = some b:=by
       rw[← hb]
       simp only[getElem?_def,ByteArray.getElem_eq_getElem_data,Array.length_toList,Array.getElem_toList]
       rfl
      have h0:(0:Int)≤Int.ofNat k:=by simp
      simp only[Instr.index,asIntOf,Sem.run_bind,run_under hu,Result.andThen_ok,Sem.run_pure]
      rw[if_pos h0]
      simp only[zO,Int.toNat_natCast,hb',Sem.run_pure]
     ·cases he
    ·cases he
   ·cases he
  ·rename_i n e hu
   split at hc
   ·rename_i m ag h3 h4
    injection hc with hc;subst hc
    simp only[peval] at he
    split at he
    ·rename_i cs vi hx hi
     split at he
     ·rename_i k hk
      cases hlt:Nat.blt k n with
      |false=>rw[hlt] at he;cases he
      |true =>
       rw[hlt,cond_true] at he
       rw[blt_iff,decide_eq_true_eq] at hlt
       split at he
       ·rename_i r hr
        obtain⟨kk,rfl⟩:=natOf_inv hk
        obtain⟨ys,hy,hall⟩:=(opd_sound h1 hx hE).agg_inv
        obtain⟨v',k1,k2⟩:=part_sound (P:=P) (w:=w) h4 h3 hr he hall
        refine⟨v',ok_v ?_,k2⟩
        rw[hy,(opd_sound h2 hi hE).int_inv]
        have hin:(0:Int)≤Int.ofNat k∧Int.ofNat k<(n:Int):=⟨by simp,by simp;exact_mod_cast hlt⟩
        simp only[Instr.index,asIntOf,Sem.run_bind,run_under hu,Result.andThen_ok,Sem.run_pure]
        rw[if_pos hin]
        simp only[Sem.run_bind,run_size h3,Result.andThen_ok,zO,Int.toNat_natCast,k1]
       ·cases he
     ·cases he
    ·cases he
   ·cases hc
  ·cases hc
 ·cases hc
theorem pure_field(t:TypeId)(x:Operand)(f:Nat):PureOk P ρ env a (.field t x f):=by
 intro p v hc he hE w dst ty pos af g
 simp only[mkPure] at hc
 split at hc
 ·rename_i fs hu
  split at hc
  ·rename_i fl hf
   split at hc
   ·rename_i n ag y h1 h2 h3
    injection hc with hc;subst hc
    simp only[peval] at he
    split at he
    ·rename_i cs hx
     split at he
     ·rename_i r hr
      obtain⟨ys,hy,hall⟩:=(opd_sound h3 hx hE).agg_inv
      obtain⟨v',k1,k2⟩:=part_sound (P:=P) (w:=w) h2 h1 hr he hall
      refine⟨v',ok_v ?_,k2⟩
      rw[hy]
      simp only[Instr.field,asAgg,Sem.run_bind,run_under hu,Result.andThen_ok,hf,Sem.run_pure,k1]
     ·cases he
    ·cases he
   ·cases hc
  ·cases hc
 ·cases hc
theorem pure_extract(x:Operand)(k:Nat):PureOk P ρ env a (.extract x k):=by
 intro p v hc he hE w dst ty pos af g
 simp only[mkPure,Option.map_eq_some_iff] at hc
 obtain⟨y,hy,rfl⟩:=hc
 simp only[peval] at he
 split at he
 ·rename_i vs hx
  obtain⟨ys,hq,hall⟩:=(opd_sound hy hx hE).tup_inv
  obtain⟨b,hb,hr⟩:=hall.get k v he
  refine⟨b,ok_v ?_,.x hr⟩
  rw[hq]
  have:(⟨ys⟩:Array Value)[k]? = some b:=by rw[arr_get];exact hb
  simp only[Instr.extract,this,Sem.run_pure]
 ·cases he
theorem ptrs_sound:∀{vs:List Value} {as:List Addr} {ws:List Value},ptrs vs=some as→All2 (VR ρ) vs ws→∃bs:List Addr,ws=bs.map (fun a=>.pointer (some a))∧All2 (AR ρ) as bs
 |[],as,ws,h,hw=>by
  simp only[ptrs,zI] at h;subst h
  cases hw
  exact⟨[],rfl,.nil⟩
 |v::vs,as,ws,h,hw=>by
  cases hw with
  |cons h1 h2 =>
   unfold ptrs at h
   split at h
   ·rename_i heq;cases heq
   ·rename_i ad r heq
    injection heq with e1 e2
    subst e1;subst e2
    simp only[Option.map_eq_some_iff] at h
    obtain⟨as',h3,rfl⟩:=h
    obtain⟨bs,rfl,h4⟩:=ptrs_sound h3 h2
    have hf:=h1.flat_ptr
    cases hf with
    |ptr hr=>exact⟨_::bs,rfl,.cons (.mk hr) h4⟩
   ·cases h
theorem pure_mkfn(fn:Fn)(first cs:Array Operand):PureOk P ρ env a (.makeFunc fn first cs):=by
 intro p v hc he hE w dst ty pos af g
 simp only[mkPure] at hc
 split at hc
 ·rename_i f hf
  simp only[Option.map_eq_some_iff] at hc
  obtain⟨ys,hy,rfl⟩:=hc
  simp only[peval] at he
  split at he
  ·rename_i vs hv
   simp only[Option.map_eq_some_iff] at he
   obtain⟨as,has,rfl⟩:=he
   have hfirst:first = #[]:=Array.toList_eq_nil_iff.1 hf
   subst hfirst
   obtain⟨bs,hb,hall⟩:=ptrs_sound has (opds_sound hy hv hE)
   refine⟨.func (.func f) #[] ⟨bs.map fun a=>.pointer (some a)⟩,ok_v ?_,.of_flat (.fn f hall)⟩
   have:cs.map a.eval=⟨bs.map fun a=>.pointer (some a)⟩:=by
    apply Array.ext'
    rw[Array.toList_map]
    exact hb
   rw[this]
   simp only[Instr.makeFunc,Array.map_empty,Sem.run_pure]
  ·cases he
 ·cases hc
theorem field_places(fs:Array Field){pl:List (Nat×Nat)}(h:fieldPlaces P fs.toList=some pl) :
  (fs.mapM (m:=Sem) fun f=>do pure (f.offset,← sizeOf f.type)).run P w = .ok ⟨pl⟩ w:=by
 have key:∀(l:List Field) (pl:List (Nat×Nat)),fieldPlaces P l=some pl→(l.mapM (m:=Sem) fun f=>do pure (f.offset,← sizeOf f.type)).run P w = .ok pl w:=by
  intro l
  induction l with
  |nil=>intro pl h;simp only[fieldPlaces,zI] at h;subst h;rfl
  |cons f l ih =>
   intro pl h
   simp only[fieldPlaces] at h
   split at h
   ·rename_i n s h1 h2
    injection h with h;subst h
    simp only[List.mapM_cons,Sem.run_bind,run_size h1,Result.andThen_ok,Sem.run_pure,ih s h2]
   ·cases h
 have:=key fs.toList pl h
 rw[← Array.toArray_toList (xs:=fs),List.mapM_toArray]
 simp only[Sem.run_map,this,Result.andThen_ok]
theorem pure_build(t:TypeId)(ps:Array (Nat×Operand)):PureOk P ρ env a (.build t ps):=by
 intro p v hc he hE w dst ty pos af g
 simp only[mkPure] at hc
 split at hc
 ·rename_i z hz
  obtain⟨zv,z1,z2,z3,z4⟩:=run_zero (ρ:=ρ) (w:=w) hz
  have hmap:(ps.map fun(i,x)=>(i,a.eval x)).toList=ps.toList.map fun p=>(p.1,a.eval p.2):=by rw[Array.toList_map]
  split at hc
  ·rename_i fs hu
   split at hc
   ·rename_i pl hpl
    simp only[Option.map_eq_some_iff] at hc
    obtain⟨qs,hq,rfl⟩:=hc
    simp only[peval,Option.map_eq_some_iff] at he
    obtain⟨r,hr,rfl⟩:=he
    obtain⟨r',k1,k2⟩:=fill_sound (cs':=z) hq hr hE z3
    refine⟨.agg ⟨r'⟩,ok_v ?_,.x (.agg k2)⟩
    have hz':zv.cells=⟨z⟩:=Array.ext' z2
    simp only[Instr.build,Sem.run_bind,z1,Result.andThen_ok,run_under hu,field_places fs hpl,hz',hmap]
    have:(fun x=>(⟨pl⟩:Array (Nat×Nat))[x]?)=(pl[·]?):=funext fun x=>arr_get pl x
    rw[this,k1]
    rfl
   ·cases hc
  ·rename_i n e hu
   split at hc
   ·rename_i m hm
    simp only[Option.map_eq_some_iff] at hc
    obtain⟨qs,hq,rfl⟩:=hc
    simp only[peval,Option.map_eq_some_iff] at he
    obtain⟨r,hr,rfl⟩:=he
    obtain⟨r',k1,k2⟩:=fill_sound (cs':=z) hq hr hE z3
    refine⟨.agg ⟨r'⟩,ok_v ?_,.x (.agg k2)⟩
    have hz':zv.cells=⟨z⟩:=Array.ext' z2
    simp only[Instr.build,Sem.run_bind,z1,Result.andThen_ok,run_under hu,run_size hm,hz',hmap,k1,Sem.run_pure]
   ·cases hc
  ·cases hc
 ·cases hc
theorem maxes_sound:∀(l:List Value) (k:IntKind) (x:Int) (v:Value) (l':List Value),maxes (.int k x) l=some v→All2 (VR ρ) l l' →
  (l'.foldlM Builtin.max2 (.int k x)).run P w = .ok v w∧VR ρ v v
 |[],k,x,v,l',h,hl=>by
  simp only[maxes,zI] at h;subst h
  cases hl
  exact⟨rfl,.of_flat (.int _ _)⟩
 |y::l,k,x,v,l',h,hl=>by
  cases hl with
  |cons h1 h2 =>
   unfold maxes at h
   split at h
   ·rename_i heq;cases heq
   ·rename_i k1 x1 j y1 r e1 e2
    injection e1 with e1 e1';subst e1;subst e1'
    injection e2 with e2 e2';subst e2;subst e2'
    simp only[Option.ite_none_right_eq_some] at h
    obtain⟨rfl,h⟩:=h
    cases h1.int_inv
    have ex:(bif iltF x y1 then y1 else x)=(if y1>x then y1 else x):=by rw[iltF_eq];by_cases hlt:x<y1<;>simp[hlt]
    rw[ex] at h
    have:=maxes_sound _ _ _ v _ h h2
    simp only[List.foldlM_cons,Builtin.max2,Sem.run_bind,Sem.run_pure,Result.andThen_ok]
    exact this
   ·cases h
theorem mines_sound:∀(l:List Value) (k:IntKind) (x:Int) (v:Value) (l':List Value),mines (.int k x) l=some v→All2 (VR ρ) l l' →
  (l'.foldlM Builtin.min2 (.int k x)).run P w = .ok v w∧VR ρ v v
 |[],k,x,v,l',h,hl=>by
  simp only[mines,zI] at h;subst h
  cases hl
  exact⟨rfl,.of_flat (.int _ _)⟩
 |y::l,k,x,v,l',h,hl=>by
  cases hl with
  |cons h1 h2 =>
   unfold mines at h
   split at h
   ·rename_i heq;cases heq
   ·rename_i k1 x1 j y1 r e1 e2
    injection e1 with e1 e1';subst e1;subst e1'
    injection e2 with e2 e2';subst e2;subst e2'
    simp only[Option.ite_none_right_eq_some] at h
    obtain⟨rfl,h⟩:=h
    cases h1.int_inv
    have ex:(bif iltF y1 x then y1 else x)=(if y1<x then y1 else x):=by rw[iltF_eq];by_cases hlt:y1<x<;>simp[hlt]
    rw[ex] at h
    have:=mines_sound _ _ _ v _ h h2
    simp only[List.foldlM_cons,Builtin.min2,Sem.run_bind,Sem.run_pure,Result.andThen_ok]
    exact this
   ·cases h
theorem ok_builtin{b:Builtin}{as:Array Operand}{ts:Array TypeId}{v:Value}{dst:Option Tmp}{ty:TypeId}{pos:String}{af:Array Edge}{g:Option (Nat×Bool)}
  (h:∀cs,(Go.builtin b ts ty cs (as.map a.eval)).run P w = .ok (.value v) w) :
  (execOp a.eval ⟨dst,.call ⟨.builtin b,as,ts⟩,ty,pos,af,g⟩).run P w = .ok (.value v) w:=by
 simp only[execOp,resolve,Sem.run_bind,Sem.run_pure,Result.andThen_ok,invoke,h]
theorem map_toList{as:Array Operand}{vs:List Value}(h:as.toList.map a.eval=vs):as.map a.eval=⟨vs⟩:=by
 apply Array.ext';rw[Array.toList_map];exact h
theorem mkOpds_one{as:List Operand}{x:Opd}(h:mkOpds as=some [x]):∃y,as=[y]∧mkOpd y=some x:=by
 cases as with
 |nil=>simp[mkOpds] at h
 |cons y l =>
  simp only[mkOpds] at h
  split at h
  ·rename_i z s h1 h2
   simp only[zI,List.cons.injEq] at h
   obtain⟨rfl,rfl⟩:=h
   cases l with
   |nil=>exact⟨y,rfl,h1⟩
   |cons q l =>
    simp only[mkOpds] at h2
    split at h2<;>simp at h2
  ·cases h
theorem pure_builtin(b:Builtin)(as:Array Operand)(ts:Array TypeId):PureOk P ρ env a (.call ⟨.builtin b,as,ts⟩):=by
 intro p v hc he hE w dst ty pos af g
 simp only[mkPure] at hc
 split at hc
 ·rename_i xs hxs
  unfold mkBuiltin at hc
  split at hc
  ·injection hc with hc;subst hc
   simp only[peval] at he
   split at he
   ·rename_i k x r hv
    have hall:=opds_sound hxs hv hE
    have hm:=map_toList (a:=a) (as:=as) rfl
    generalize as.toList.map a.eval=ws at hall hm
    cases hall with
    |cons h1 h2 =>
     cases h1.int_inv
     obtain⟨k1,k2⟩:=maxes_sound (P:=P) (w:=w) _ _ _ v _ he h2
     refine⟨v,ok_builtin fun cs=>?_,k2⟩
     rw[hm]
     simp only[Go.builtin,Builtin.max_,Sem.run_bind,k1,Result.andThen_ok,Sem.run_pure]
   ·cases he
  ·injection hc with hc;subst hc
   simp only[peval] at he
   split at he
   ·rename_i k x r hv
    have hall:=opds_sound hxs hv hE
    have hm:=map_toList (a:=a) (as:=as) rfl
    generalize as.toList.map a.eval=ws at hall hm
    cases hall with
    |cons h1 h2 =>
     cases h1.int_inv
     obtain⟨k1,k2⟩:=mines_sound (P:=P) (w:=w) _ _ _ v _ he h2
     refine⟨v,ok_builtin fun cs=>?_,k2⟩
     rw[hm]
     simp only[Go.builtin,Builtin.min_,Sem.run_bind,k1,Result.andThen_ok,Sem.run_pure]
   ·cases he
  ·split at hc
   ·rename_i x
    obtain⟨y,hy,hx⟩:=mkOpds_one hxs
    have hm:as.map a.eval=⟨[a.eval y]⟩:=map_toList (by rw[hy];rfl)
    split at hc
    ·rename_i t ht
     split at hc
     ·rename_i hu
      injection hc with hc;subst hc
      simp only[peval] at he
      split at he
      ·rename_i s hv
       injection he with he;subst he
       refine⟨_,ok_builtin (v:=.int .i64 s.size) fun cs=>?_,.of_flat (.int _ _)⟩
       rw[hm,(opd_sound hx hv hE).str_inv]
       simp[Go.builtin,Builtin.len_,ht,run_under hu,goInt]
      ·cases he
     ·rename_i e hu
      injection hc with hc;subst hc
      simp only[peval] at he
      split at he
      ·rename_i sl n c hv
       injection he with he;subst he
       obtain⟨y',d,hq⟩:=(opd_sound hx hv hE).flat_slice.slice_shape
       refine⟨_,ok_builtin (v:=.int .i64 n) fun cs=>?_,.of_flat (.int _ _)⟩
       rw[hm,hq]
       simp[Go.builtin,Builtin.len_,ht,run_under hu,goInt]
      ·cases he
     ·rename_i n e hu
      injection hc with hc;subst hc
      simp only[peval,zI] at he;subst he
      refine⟨_,ok_builtin (v:=.int .i64 n) fun cs=>?_,.of_flat (.int _ _)⟩
      rw[hm]
      simp[Go.builtin,Builtin.len_,ht,run_under hu,goInt]
     ·cases hc
    ·cases hc
   ·cases hc
  ·split at hc
   ·rename_i x
    obtain⟨y,hy,hx⟩:=mkOpds_one hxs
    have hm:as.map a.eval=⟨[a.eval y]⟩:=map_toList (by rw[hy];rfl)
    split at hc
    ·rename_i t ht
     split at hc
     ·rename_i e hu
      injection hc with hc;subst hc
      simp only[peval] at he
      split at he
      ·rename_i l c hv
       injection he with he;subst he
       have hf:=(opd_sound hx hv hE).flat_slice
       generalize a.eval y=q at hf hm
       cases hf
       refine⟨_,ok_builtin (v:=.int .i64 c) fun cs=>?_,.of_flat (.int _ _)⟩
       rw[hm]
       simp[Go.builtin,Builtin.cap_,ht,run_under hu,goInt]
      ·rename_i i o l c hv
       injection he with he;subst he
       have hf:=(opd_sound hx hv hE).flat_slice
       generalize a.eval y=q at hf hm
       cases hf
       refine⟨_,ok_builtin (v:=.int .i64 c) fun cs=>?_,.of_flat (.int _ _)⟩
       rw[hm]
       simp[Go.builtin,Builtin.cap_,ht,run_under hu,goInt]
      ·cases he
     ·cases hc
    ·cases hc
   ·cases hc
  ·cases hc
 ·cases hc
theorem pure_sound(op:Op):PureOk P ρ env a op:=by
 cases op with
 |move x=>exact pure_move x
 |assign x=>exact pure_assign x
 |pick c x y=>exact pure_pick c x y
 |binOp op t x y t'=>exact pure_bin op t x y t'
 |unOp op t x=>exact pure_un op t x
 |convert s d x=>exact pure_conv s d x
 |slice t x lo hi mx=>exact pure_slice t x lo hi mx
 |nilCheck x=>exact pure_nilck x
 |fieldAddr s x f=>exact pure_fadd s x f
 |indexAddr t x i=>exact pure_idx t x i
 |index t x i=>exact pure_index t x i
 |field t x f=>exact pure_field t x f
 |extract x k=>exact pure_extract x k
 |makeFunc fn first cs=>exact pure_mkfn fn first cs
 |build t ps=>exact pure_build t ps
 |call c =>
  obtain⟨callee,as,ts⟩:=c
  cases callee with
  |builtin b=>exact pure_builtin b as ts
  |value f=>intro p v hc;simp[mkPure] at hc
  |invoke r m=>intro p v hc;simp[mkPure] at hc
 |_=>intro p v hc;simp[mkPure] at hc
end Go.AI
