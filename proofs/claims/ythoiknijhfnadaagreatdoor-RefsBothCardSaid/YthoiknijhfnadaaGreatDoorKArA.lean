/- What the arena's functions do upon its parts. -/
import Derived.Test.YthoiknijhfnadaaGreatDoorAiPop
import Derived.Test.YthoiknijhfnadaaGreatDoorIfn
import Derived.Test.YthoiknijhfnadaaGreatDoorKSpec
import Derived.Test.YthoiknijhfnadaaGreatDoorKWp
namespace Go.AI
open Go.Proofs
variable {hk:Hook Empty}
noncomputable def RA(n:Nat):CallFn Empty:=run FA (fun _=>false) hk n
theorem whole_run{n:Nat}{x:Int}{h:Hp Empty}(h0:hk 147=none):∃v h',RA (hk:=hk) (n+1) 147 [.int .i64 x] h=some (v,h')∧(v = .bool (decide (x=1∨x=2∨x=4∨x=8))∧h'=h):=by
 refine run_fn h0 f147 (by simp[i147]) ?_
 dsimp only[i147,argsE]
 repeat' first
  |with_reducible refine WC.seq ?_
  |with_reducible refine WC.ops ?_
  |with_reducible refine WC.ret ?_
  |with_reducible refine WC.skip ?_
  |with_reducible refine zN ?_
  |with_reducible refine thenC_ret ?_
  |with_reducible refine WO.nil ?_
  |refine WO.mv rfl ?_
  |refine WO.eqlS rfl rfl (fun _=>?_) (fun _=>?_)
  |refine WO.skip rfl rfl ?_
  |refine WO.take rfl rfl ?_
  |refine WO.pure rfl ?_
 all_goals refine⟨_,_,rfl,rfl,?_,rfl⟩
 all_goals simp only[zO] at *
 all_goals (congr 1;symm;first|(rw[decide_eq_true_eq];omega)|(rw[decide_eq_false_iff_not];omega))
theorem within_run{n:Nat}{L a k:Int}{s:Value}{h:Hp Empty}(h0:hk 106=none)(hL:0≤L)(hL2:L≤1048576)(hf:Fresh h.tbl h.next) :
  ∃v h',RA (hk:=hk) (n+1) 106 [.agg ⟨[.int .i64 L,s]⟩,.int .i64 a,.int .i64 k] h=some (v,h')∧(v = .bool (decide (0≤a∧0≤k∧k≤L∧a≤L-k))∧Keep h.tbl h.next h'.tbl h'.next):=by
 refine run_fn h0 f106 (by simp[i106]) ?_
 dsimp only[i106,argsE]
 repeat' first
  |with_reducible refine WC.seq ?_
  |with_reducible refine WC.ops ?_
  |with_reducible refine WC.ret ?_
  |with_reducible refine WC.skip ?_
  |with_reducible refine WC.block ?_
  |with_reducible refine WC.exit ?_
  |with_reducible refine zN ?_
  |with_reducible refine thenC_ret ?_
  |with_reducible refine thenC_exit ?_
  |with_reducible refine zB ?_
  |with_reducible refine blockC_ret ?_
  |with_reducible refine blockC_exit ?_
  |with_reducible refine WO.nil ?_
  |refine WO.mv (by first|rfl|assumption) ?_
  |refine WO.eqlS (by first|rfl|assumption) (by first|rfl|assumption) (fun _=>?_) (fun _=>?_)
  |refine WO.neqS (by first|rfl|assumption) (by first|rfl|assumption) (fun _=>?_) (fun _=>?_)
  |refine WO.lssS (by first|rfl|assumption) (by first|rfl|assumption) (fun _=>?_) (fun _=>?_)
  |refine WO.gtrS (by first|rfl|assumption) (by first|rfl|assumption) (fun _=>?_) (fun _=>?_)
  |refine WO.leqS (by first|rfl|assumption) (by first|rfl|assumption) (fun _=>?_) (fun _=>?_)
  |refine WO.geqS (by first|rfl|assumption) (by first|rfl|assumption) (fun _=>?_) (fun _=>?_)
  |refine WO.skip rfl rfl ?_
  |refine WO.take rfl rfl ?_
  |refine WC.cond_true (by first|rfl|assumption) ?_
  |refine WC.cond_false (by first|rfl|assumption) ?_
  |refine WO.add (by first|rfl|assumption) (by first|rfl|assumption) (by simp only[zO] at *; omega) (by simp only[zO] at *; omega) ?_
  |refine WO.sub (by first|rfl|assumption) (by first|rfl|assumption) (by simp only[zO] at *; omega) (by simp only[zO] at *; omega) ?_
  |refine WO.box (by first|rfl|assumption) rfl ?_
  |refine WO.new ?_
  |refine WO.load (by first|rfl|assumption) (by first|exact look_new|assumption) rfl rfl rfl ?_
  |refine WO.pure rfl ?_
 all_goals refine⟨_,_,rfl,rfl,?_,Keep.new hf _⟩
 all_goals simp only[zO] at *
 all_goals (congr 1;symm;first|(rw[decide_eq_true_eq];omega)|(rw[decide_eq_false_iff_not];omega))
theorem and127{x:Nat}(hx:x<18446744073709551616):bitsF .and .i64 (wrapF .i64 (Int.ofNat x)) (Int.ofNat 127)=some (Int.ofNat (x % 128)):=by
 rw[bitsF_eq,wrapF_eq]
 simp only[bitsS]
 have h1:BitVec.ofInt IntKind.i64.bits (IntKind.i64.wrap (Int.ofNat x))=BitVec.ofNat 64 x:=by
  show BitVec.ofInt 64 (IntKind.i64.wrap (Int.ofNat x))=BitVec.ofNat 64 x
  rw[wrap_i64]
  apply BitVec.eq_of_toNat_eq
  rw[BitVec.toNat_ofInt,BitVec.toNat_ofNat]
  simp only[zO]
  split<;>omega
 have h2:BitVec.ofInt IntKind.i64.bits (Int.ofNat 127)=BitVec.ofNat 64 127:=rfl
 rw[h1,h2]
 have h3:(BitVec.ofNat 64 x &&& BitVec.ofNat 64 127).toNat=x % 128:=by
  rw[BitVec.toNat_and,BitVec.toNat_ofNat,BitVec.toNat_ofNat,Nat.mod_eq_of_lt hx]
  exact Nat.and_two_pow_sub_one_eq_mod x 7
 show some (IntKind.i64.wrap ((BitVec.ofNat 64 x &&& BitVec.ofNat 64 127).toNat:Int))=_
 rw[h3]
 congr 1
 exact wrapF_nat .i64 _ (by show x % 128<9223372036854775808;omega)
theorem WO.and127{X:Type}{call:CallFn X}{env:List (Nat×Value)}{m:Mem X}{K:List (Nat×Value)→Mem X→Prop}{l:List (Option (Nat×Bool)×IOp)}{d:Nat}{e:EqK}{x:Opd}{a:Nat}(hx:evo env x=some (.int .i64 (wrapF .i64 (Int.ofNat a))))(ha:a<18446744073709551616)
  (k:WO call l ((d,.int .i64 (Int.ofNat (a % 128)))::env) m K):WO call ((none,.pure d (.bin .and e x (.c (.int .i64 (.ofNat 127)))))::l) env m K:=by
 refine .pure ?_ k
 have h2:evo env (.c (.int .i64 (Int.ofNat 127)))=some (.int .i64 (Int.ofNat 127)):=rfl
 simp only[peval,hx,h2,binVal,intBin,if_true,AI.and127 ha,Option.map]
theorem ones_run{n x:Nat}{h:Hp Empty}(h0:hk 108=none)(hx:x<18446744073709551616):RA (hk:=hk) (n+1) 108 [.int .u64 (Int.ofNat x)] h=some (.int .i64 (Int.ofNat (pc x 0 64)),h):=by
 obtain⟨hs,l1,l2⟩:=ones_eq x hx
 have key:∃v h',RA (hk:=hk) (n+1) 108 [.int .u64 (Int.ofNat x)] h=some (v,h')∧(v = .int .i64 (Int.ofNat (pc x 0 64))∧h'=h):=by
  refine run_fn h0 f108 (by simp[i108]) ?_
  dsimp only[i108,argsE]
  repeat' first
   |with_reducible refine WC.seq ?_
   |with_reducible refine WC.ops ?_
   |with_reducible refine WC.ret ?_
   |with_reducible refine zN ?_
   |with_reducible refine WO.nil ?_
   |refine WO.mv rfl ?_
   |refine WO.shrU rfl rfl (by decide) ?_
   |refine WO.and127 rfl (Nat.mod_lt _ (by decide)) ?_
   |refine WO.andU rfl rfl (by first|assumption|exact Nat.lt_of_le_of_lt (Nat.div_le_self _ _) (by first|assumption|exact Nat.mod_lt _ (by decide))|exact Nat.mod_lt _ (by decide)) (by decide) ?_
   |refine WO.addU rfl rfl ?_
   |refine WO.pure rfl ?_
  refine⟨_,_,rfl,rfl,?_,rfl⟩
  show Value.int .i64 (Int.ofNat _)=_
  rw[← hs]
 obtain⟨v,h',e,rfl,rfl⟩:=key
 exact e
def maskN(a k:Nat):Nat:=(2 ^ k-1)*2 ^ (a % 64)
def stepN(a n:Nat):Nat:=min n (64-a % 64)
theorem mask_lt{a n:Nat}:maskN a (stepN a n)<18446744073709551616:=by
 unfold maskN
 have h1:stepN a n+a % 64≤64:=by unfold stepN;omega
 have h2:(2 ^ stepN a n-1)*2 ^ (a % 64)<2 ^ stepN a n*2 ^ (a % 64):=Nat.mul_lt_mul_of_pos_right (by have:=Nat.two_pow_pos (stepN a n);omega) (Nat.two_pow_pos _)
 rw[← Nat.pow_add] at h2
 exact Nat.lt_of_lt_of_le h2 (Nat.pow_le_pow_right (by decide) h1)
theorem mask_run{n a k:Nat}{h:Hp Empty}(h0:hk 107=none)(_ha:a<4611686018427387904)(hn:k<4611686018427387904):RA (hk:=hk) (n+1) 107 [.int .i64 (Int.ofNat a),.int .i64 (Int.ofNat k)] h=some (.tuple ⟨[.int .u64 (Int.ofNat (maskN a (stepN a k))),.int .i64 (Int.ofNat (stepN a k))]⟩,h):=by
 have key:∃v h',RA (hk:=hk) (n+1) 107 [.int .i64 (Int.ofNat a),.int .i64 (Int.ofNat k)] h=some (v,h')∧(v = .tuple ⟨[.int .u64 (Int.ofNat (maskN a (stepN a k))),.int .i64 (Int.ofNat (stepN a k))]⟩∧h'=h):=by
  refine run_fn h0 f107 (by simp[i107]) ?_
  dsimp only[i107,argsE]
  refine WC.seq (WC.ops (WO.mv rfl (WO.mv rfl (WO.nil (zN (WC.seq (WC.ops ?_)))))))
  refine WO.mv rfl (WO.mv rfl (WO.rem rfl rfl (WO.sub rfl rfl (by simp only[zO];omega) (by simp only[zO];omega) (WO.min2 rfl rfl ?_))))
  refine WO.as (b:=Int.ofNat (stepN a k)) (by unfold stepN;simp only[zO];omega) ?_
  refine WO.mv rfl (WO.nil (zN (WC.seq (WC.ops ?_))))
  have hs:stepN a k≤64:=by unfold stepN;omega
  refine WO.mv rfl (WO.shlU rfl rfl hs (WO.subU rfl rfl (by decide) ?_))
  refine WO.as (b:=Int.ofNat (2 ^ stepN a k-1)) ?_ ?_
  ·refine congrArg Int.ofNat ?_
   have h1:=Nat.two_pow_pos (stepN a k)
   have h2:2 ^ stepN a k≤2 ^ 64:=Nat.pow_le_pow_right (by decide) hs
   omega
  refine WO.mv rfl (WO.rem rfl rfl (WO.shlU rfl rfl (by omega) ?_))
  refine WO.as (b:=Int.ofNat (maskN a (stepN a k))) ?_ ?_
  ·refine congrArg Int.ofNat ?_
   exact Nat.mod_eq_of_lt mask_lt
  refine WO.mv rfl (WO.mv rfl (WO.mv rfl (WO.nil (zN (WC.ret ?_)))))
  exact⟨_,_,rfl,rfl,rfl,rfl⟩
 obtain⟨v,h',e,rfl,rfl⟩:=key
 exact e
def WordsAt(t:List (Nat×AObj Empty))(W s nw:Nat):Prop:=∃ob,look W t=some ob∧cellsO ob=some ((List.range nw).map (wordV s))
theorem WordsAt.keep{t t':List (Nat×AObj Empty)}{n n' W s nw:Nat}(h:WordsAt t W s nw)(k:Keep t n t' n')(hW:W<n):WordsAt t' W s nw:=by
 obtain⟨ob,h1,h2⟩:=h
 exact⟨ob,(k.same W hW).trans h1,h2⟩
theorem word_take{s nw q:Nat}(hq:q<nw):takeN ((List.range nw).map (wordV s)) q 1=some [wordV s q]:=by
 have h:(((List.range nw).map (wordV s)).drop q).take 1=[wordV s q]:=by
  rw[← List.map_drop,← List.map_take]
  have:((List.range nw).drop q).take 1=[q]:=by
   apply List.ext_getElem?
   intro i
   rw[List.getElem?_take]
   by_cases hi:i<1
   ·have:i=0:=by omega
    subst this
    simp[hq]
   ·simp[hi]
  rw[this];rfl
 simp only[takeN,h];rfl
theorem pc_word{s a k:Nat}(_hk:0<k):pc (s / 2 ^ (64*(a / 64)) % 18446744073709551616 &&& maskN a (stepN a k)) 0 64=pc s a (stepN a k):=by
 have hst:stepN a k+a % 64≤64:=by unfold stepN;omega
 obtain⟨st,he⟩:∃st,st=stepN a k:=⟨_,rfl⟩
 rw[← he] at hst ⊢
 have hb:∀i,(s / 2 ^ (64*(a / 64)) % 18446744073709551616 &&& maskN a st).testBit i=(decide (a % 64≤i)&&decide (i<a % 64+st)&&s.testBit (64*(a / 64)+i)):=by
  intro i
  unfold maskN
  rw[Nat.testBit_and,show(18446744073709551616:Nat)=2 ^ 64 from rfl,Nat.testBit_mod_two_pow,Nat.testBit_div_two_pow,Nat.testBit_mul_two_pow,Nat.testBit_two_pow_sub_one]
  by_cases h1:a % 64≤i
  ·by_cases h2:i<a % 64+st
   ·have h3:i<64:=by omega
    have h4:i-a % 64<st:=by omega
    rw[decide_eq_true h1,decide_eq_true h2,decide_eq_true h3,decide_eq_true h4,Nat.add_comm i];simp
   ·have h4:¬(i-a % 64<st):=by omega
    simp[h1,h2,h4]
  ·simp[h1]
 generalize(s / 2 ^ (64*(a / 64)) % 18446744073709551616 &&& maskN a st)=z at hb
 have hz:pc z 0 64=pc z 0 (a % 64)+(pc z (0+a % 64) st+pc z (0+a % 64+st) (64-(a % 64+st))):=by
  rw[← pc_add,← pc_add,show a % 64+(st+(64-(a % 64+st)))=64 by omega]
 rw[hz]
 rw[pc_zero (a % 64) 0 (fun i hi=>by rw[hb];simp;omega)]
 rw[pc_zero (64-(a % 64+st)) (0+a % 64+st) (fun i hi=>by rw[hb];simp;omega)]
 rw[Nat.zero_add,Nat.add_zero]
 refine pc_congr st _ _ fun i hi=>?_
 rw[hb]
 have h1:a % 64≤0+a % 64+i:=by omega
 have h2:0+a % 64+i<a % 64+st:=by omega
 rw[decide_eq_true h1,decide_eq_true h2,Bool.true_and,Bool.true_and,show 64*(a / 64)+(0+a % 64+i)=a+i by omega]
def setVal(L:Nat)(W:Nat)(sp:Option Nat)(nw cp:Nat):Value:=.agg ⟨[.int .i64 (Int.ofNat L),.slice (some ⟨W,0,sp⟩) nw cp]⟩
structure HkA(hk:Hook Empty):Prop where
 none:∀k,k≠148→hk k=none
set_option maxHeartbeats 1000000 in
theorem count_run{n L W nw cp s:Nat}{sp:Option Nat}{a k:Int}{h:Hp Empty}(H:HkA hk)(hn:1048576≤n)(hL:L≤1048576)(hw:L≤64*nw)(hf:Fresh h.tbl h.next)(hW:W<h.next)(hws:WordsAt h.tbl W s nw) :
  ∃v h',RA (hk:=hk) (n+2) 64 [setVal L W sp nw cp,.int .i64 a,.int .i64 k] h=some (v,h') ∧
   ((0≤a∧0≤k∧k≤(L:Int)∧a≤(L:Int)-k→v = .tuple ⟨[.int .i64 (Int.ofNat (pc s a.toNat k.toNat)),.int .i64 (Int.ofNat 0)]⟩)∧(¬(0≤a∧0≤k∧k≤(L:Int)∧a≤(L:Int)-k)→v = .tuple ⟨[.int .i64 (Int.ofNat 0),.int .i64 (Int.ofNat 3)]⟩)∧Keep h.tbl h.next h'.tbl h'.next):=by
 refine run_fn (H.none 64 (by decide)) f64 (by simp[i64]) ?_
 dsimp only[i64,argsE]
 refine WC.seq (WC.ops (WO.box rfl rfl (WO.mv rfl (WO.mv rfl (WO.nil (zN (WC.seq (WC.seq (WC.ops ?_)))))))))
 refine WO.load rfl look_new rfl rfl rfl (WO.mv rfl (WO.mv rfl ?_))
 have k1:=Keep.new hf (.cells [.int .i64 (Int.ofNat L),.slice (some ⟨W,0,sp⟩) nw cp])
 refine WO.fcall_ex rfl rfl (within_run (h:=⟨_,_⟩) (L:=(L:Int)) (H.none 106 (by decide)) (by omega) (by omega) k1.fr) ?_
 rintro v2 ⟨tb2,nx2⟩ ⟨rfl,k2⟩
 have k3:=k1.trans k2
 have hbox:look h.next tb2=some (.cells [.int .i64 (Int.ofNat L),.slice (some ⟨W,0,sp⟩) nw cp]):=(k2.same h.next (by show h.next<h.next+1;omega)).trans look_new
 show WO _ _ ((14,.bool (decide _))::_) _ _
 refine WO.split (fun hc=>?_) (fun hc=>?_)
 ·-- there is such a row
  have hc0:=hc
  obtain⟨ha,hk0,hkL,haL⟩:=hc
  obtain⟨a',rfl⟩:∃a':Nat,a=Int.ofNat a':=⟨a.toNat,by simp only[zO];omega⟩
  obtain⟨k',rfl⟩:∃k':Nat,k=Int.ofNat k':=⟨k.toNat,by simp only[zO];omega⟩
  simp only[zO] at ha hk0 hkL haL
  have hbound:a'+k'≤L:=by omega
  refine WO.pure rfl (WO.nil (WC.cond_false rfl (WC.skip (zN (WC.seq (WC.ops (WO.mv rfl (WO.nil (zN (WC.seq (WC.block ?_)))))))))))
  refine WC.loop (fun j f tbl nx=>∃(b c:Nat),f 1=some (.int .i64 (Int.ofNat b))∧f 2=some (.int .i64 (Int.ofNat j))∧f 8=some (.int .i64 (Int.ofNat c))∧f 3=some (.pointer (some ⟨h.next,0,none⟩)) ∧
   look h.next tbl=some (.cells [.int .i64 (Int.ofNat L),.slice (some ⟨W,0,sp⟩) nw cp])∧b+j≤L∧c+pc s b j=pc s a' k'∧Keep h.tbl h.next tbl nx) (k:=k') (by omega) ⟨a',0,rfl,rfl,rfl,rfl,hbox,hbound,by simp,k3⟩ ?_
  rintro j e tbl nx ⟨b,c,e1,e2,e8,e3,hb,hbj,hpc,hkp⟩
  refine WC.seq (WC.seq (WC.ops (WO.mv e2 (WO.gtrS rfl rfl (fun hj=>?_) (fun hj=>?_)))))
  ·-- a round
   simp only[zO] at hj
   have hj':0<j:=by omega
   refine WO.nil (WC.cond_true rfl (WC.skip (zN (WC.block (WC.seq (WC.ops ?_))))))
   refine WO.mv e1 (WO.mv e2 (WO.fcall rfl rfl (mask_run (h:=⟨_,_⟩) (H.none 107 (by decide)) (by omega) (by omega)) ?_))
   refine WO.mv rfl (WO.pure rfl (WO.pure rfl (WO.mv rfl (WO.mv rfl (WO.nil (zN (WC.seq (WC.ops ?_))))))))
   refine WO.mv e8 (WO.fadd e3 ?_)
   refine WO.load rfl hb rfl rfl rfl (WO.mv e1 (WO.quo rfl rfl (by omega) ?_))
   have hq:b / (63+1)<nw:=by omega
   refine WO.idxL rfl rfl rfl hq ?_
   obtain⟨ob,ho1,ho2⟩:=hws.keep hkp hW
   refine WO.load rfl ho1 ho2 (by rw[show 0+b / (63+1)*1=b / 64 by omega];exact word_take (by omega)) rfl ?_
   refine WO.mv rfl (WO.andU rfl rfl (Nat.mod_lt _ (by decide)) mask_lt ?_)
   refine WO.fcall rfl rfl (ones_run (h:=⟨_,_⟩) (H.none 108 (by decide)) (Nat.lt_of_le_of_lt Nat.and_le_left (Nat.mod_lt _ (by decide)))) ?_
   have hpw:pc (Nat.mod (Nat.shiftRight s (Nat.mul 64 (b / 64))) 18446744073709551616 &&& maskN b (stepN b j)) 0 64=pc s b (stepN b j):=by
    have:Nat.mod (Nat.shiftRight s (Nat.mul 64 (b / 64))) 18446744073709551616=s / 2 ^ (64*(b / 64)) % 18446744073709551616:=by
     show(s >>> (64*(b / 64))) % 18446744073709551616=_
     rw[Nat.shiftRight_eq_div_pow]
    rw[this];exact pc_word hj'
   have hst:0<stepN b j∧stepN b j≤j:=by unfold stepN;omega
   have hle:=pc_le s (stepN b j) b
   have hle2:=pc_le s j b
   have hle3:=pc_le s k' a'
   rw[hpw]
   refine WO.add (a:=Int.ofNat c) (b:=Int.ofNat (pc s b (stepN b j))) rfl rfl (by simp only[zO];omega) (by simp only[zO];omega) ?_
   refine WO.mv rfl (WO.nil (zN (WC.ops ?_)))
   refine WO.mv e1 (WO.mv rfl (WO.add (a:=Int.ofNat b) (b:=Int.ofNat (stepN b j)) rfl rfl (by simp only[zO];omega) (by simp only[zO];omega) ?_))
   refine WO.mv e2 (WO.mv rfl (WO.sub (a:=Int.ofNat j) (b:=Int.ofNat (stepN b j)) rfl rfl (by simp only[zO];omega) (by simp only[zO];omega) ?_))
   refine WO.as (b:=Int.ofNat (j-stepN b j)) (by simp only[zO];omega) ?_
   refine WO.mv rfl (WO.mv rfl (WO.nil (zB ?_)))
   refine⟨j-stepN b j,by omega,rfl,b+stepN b j,c+pc s b (stepN b j),rfl,rfl,rfl,e3,hb,by omega,?_,hkp⟩
   have:=pc_add s (stepN b j) b (j-stepN b j)
   rw[show stepN b j+(j-stepN b j)=j by omega] at this
   omega
  ·-- the end
   simp only[zO] at hj
   have hj0:j=0:=by omega
   subst hj0
   refine WO.nil (WC.cond_false rfl (WC.exit (thenC_exit (blockC_exit (zN (WC.seq (WC.ops ?_)))))))
   refine WO.mv e8 (WO.mv rfl (WO.mv rfl (WO.nil (zN (WC.ret ?_)))))
   refine⟨_,_,rfl,rfl,fun _=>?_,fun h=>(h hc0).elim,hkp⟩
   simp only[pc,Nat.add_zero] at hpc
   subst hpc
   rfl
 ·-- there is none
  refine WO.pure rfl (WO.nil (WC.cond_true rfl (WC.seq (WC.ops (WO.mv rfl (WO.mv rfl (WO.nil (zN (WC.ret ?_)))))))))
  exact⟨_,_,rfl,rfl,fun h=>(hc h).elim,fun _=>rfl,k3⟩
theorem setN_bit:∀(l:List (Option Nat)) (i:Nat),(setN l).testBit i=(pgAt l i).isSome
 |[],i=>by simp[setN,pgAt]
 |none::r,0=>by
  show(Nat.mul 2 (setN r)).testBit 0=false
  have:Nat.mul 2 (setN r)=2*setN r:=rfl
  rw[this,Nat.testBit_zero];simp
 |some _::r,0=>by
  show(Nat.succ (Nat.mul 2 (setN r))).testBit 0=true
  have:Nat.succ (Nat.mul 2 (setN r))=2*setN r+1:=rfl
  rw[this,Nat.testBit_zero];simp
 |none::r,i+1=>by
  show(Nat.mul 2 (setN r)).testBit (i+1)=(pgAt r i).isSome
  have:Nat.mul 2 (setN r)=2*setN r:=rfl
  rw[this,Nat.testBit_succ,← setN_bit r i];congr 1;omega
 |some _::r,i+1=>by
  show(Nat.succ (Nat.mul 2 (setN r))).testBit (i+1)=(pgAt r i).isSome
  have:Nat.succ (Nat.mul 2 (setN r))=2*setN r+1:=rfl
  rw[this,Nat.testBit_succ,← setN_bit r i];congr 1;omega
theorem pc_cnt(l:List (Option Nat)):∀(k a:Nat),pc (setN l) a k=cntC l a k
 |0,a=>rfl
 |k+1,a=>by
  simp only[pc,cntC]
  rw[setN_bit,pc_cnt l k (a+1)]
  cases pgAt l a with
  |none=>simp
  |some P=>simp;omega
theorem cnt_all(l:List (Option Nat)):∀(k a:Nat),allC l a k=true↔cntC l a k=k
 |0,a=>by simp[allC,cntC]
 |k+1,a=>by
  simp only[allC,cntC]
  have h:=cnt_all l k (a+1)
  have hle:cntC l (a+1) k≤k:=by rw[← pc_cnt];exact pc_le _ _ _
  cases pgAt l a with
  |none =>
   simp only[Bool.false_eq_true,false_iff]
   show¬cntC l (a+1) k=k+1
   omega
  |some P =>
   show allC l (a+1) k=true↔(cntC l (a+1) k).succ=k+1
   rw[h];omega
abbrev topCells(x:Ar)(I:ArIds):List Value:=[.slice (some ⟨I.Pg,0,none⟩) x.pages.length x.pages.length,.int .i64 (Int.ofNat x.pages.length),.slice (some ⟨I.W,0,I.sp⟩) (nWords x.pages) I.cp,.int .i64 (Int.ofNat (countN x.pages)),.bool x.armed,.int .i64 (Int.ofNat x.refuse)]
structure ArH(h:Hp Empty)(x:Ar)(I:ArIds):Prop where
 at_:ArAt (fun i=>look i h.tbl) x I
 fresh:Fresh h.tbl h.next
theorem ArH.ltA{h:Hp Empty}{x:Ar}{I:ArIds}(H:ArH h x I):I.A<h.next:=by
 rcases Nat.lt_or_ge I.A h.next with h1|h1
 ·exact h1
 ·have:=H.at_.top;simp only[H.fresh _ h1] at this;cases this
theorem ArH.ltPg{h:Hp Empty}{x:Ar}{I:ArIds}(H:ArH h x I):I.Pg<h.next:=by
 rcases Nat.lt_or_ge I.Pg h.next with h1|h1
 ·exact h1
 ·have:=H.at_.row;simp only[H.fresh _ h1] at this;cases this
theorem ArH.ltW{h:Hp Empty}{x:Ar}{I:ArIds}(H:ArH h x I):I.W<h.next:=by
 rcases Nat.lt_or_ge I.W h.next with h1|h1
 ·exact h1
 ·obtain⟨ob,h2,_⟩:=H.at_.wds;simp only[H.fresh _ h1] at h2;cases h2
theorem ArH.ltP{h:Hp Empty}{x:Ar}{I:ArIds}(H:ArH h x I){i P:Nat}(hp:x.pages[i]? = some (some P)):I.pid i<h.next:=by
 rcases Nat.lt_or_ge (I.pid i) h.next with h1|h1
 ·exact h1
 ·have:=H.at_.page i P hp;simp only[H.fresh _ h1] at this;cases this
theorem ArH.keep{h h':Hp Empty}{x:Ar}{I:ArIds}(H:ArH h x I)(k:Keep h.tbl h.next h'.tbl h'.next):ArH h' x I where
 fresh:=k.fr
 at_:=by
  have hA:=k.same _ H.ltA;have hP:=k.same _ H.ltPg;have hW:=k.same _ H.ltW
  exact⟨by simp only[hA];exact H.at_.top,by simp only[hP];exact H.at_.row,by simp only[hW];exact H.at_.wds,fun i P hp=>by have:=k.same _ (H.ltP hp);simp only[this];exact H.at_.page i P hp,H.at_.inj,H.at_.dA,H.at_.dP,H.at_.cap,H.at_.ref⟩
theorem ArH.words{h:Hp Empty}{x:Ar}{I:ArIds}(H:ArH h x I):WordsAt h.tbl I.W (setN x.pages) (nWords x.pages):=H.at_.wds
theorem nWords_le(l:List (Option Nat)):l.length≤64*nWords l:=by
 show l.length≤64*((l.length+63) / 64);omega
theorem WO.mulI{X:Type}{call:CallFn X}{env:List (Nat×Value)}{m:Mem X}{K:List (Nat×Value)→Mem X→Prop}{l:List (Option (Nat×Bool)×IOp)}{d:Nat}{e:EqK}{x y:Opd}{a b:Nat}(hx:evo env x=some (.int .i64 (Int.ofNat a)))(hy:evo env y=some (.int .i64 (Int.ofNat b)))(h:a*b<9223372036854775808)
  (k:WO call l ((d,.int .i64 (Int.ofNat (a*b)))::env) m K):WO call ((none,.pure d (.bin .mul e x y))::l) env m K:=by
 refine .mul hx hy ?_ ?_ (WO.as (b:=Int.ofNat (a*b)) (by simp) k)
 ·simp only[zO,← Int.natCast_mul];omega
 ·simp only[zO,← Int.natCast_mul];omega
set_option maxHeartbeats 2000000 in
theorem check_run{n:Nat}{x:Ar}{I:ArIds}{a k:Int}{h:Hp Empty}(H:HkA hk)(hn:1048576≤n)(hA:ArH h x I) :
  ∃v h',RA (hk:=hk) (n+3) 67 [.pointer (some ⟨I.A,0,none⟩),.int .i64 a,.int .i64 k] h=some (v,h')∧(v = .int .i64 (Int.ofNat (checkA x.pages a k))∧Keep h.tbl h.next h'.tbl h'.next):=by
 have htop:look I.A h.tbl=some (.cells (topCells x I)):=hA.at_.top
 have hcap:=hA.at_.cap
 have kr:=Keep.refl hA.fresh
 have hca:checkA x.pages a k=(if 0≤a∧0≤k∧a+k≤(x.pages.length*4096:Nat) then checkN x.pages a.toNat k.toNat else 3):=by
  cases a with
  |negSucc a=>rw[if_neg (by omega)];rfl
  |ofNat a =>
   cases k with
   |negSucc k=>rw[if_neg (by omega)];rfl
   |ofNat k =>
    split
    ·rfl
    ·rename_i hc
     show checkN x.pages a k=3
     unfold checkN
     have:Nat.ble (Nat.add a k) (Nat.mul x.pages.length 4096)=false:=by
      rw[← Bool.not_eq_true,Nat.ble_eq]
      show¬(a+k≤x.pages.length*4096)
      simp only[zO] at hc
      omega
     rw[this];rfl
 rw[hca]
 refine run_fn (H.none 67 (by decide)) f67 (by simp[i67]) ?_
 dsimp only[i67,argsE]
 refine WC.seq (WC.ops (WO.mv rfl (WO.nil (zN (WC.seq (WC.block (WC.seq (WC.ops (WO.mv rfl (WO.pure rfl (WO.mv rfl (WO.nil (zN (WC.cond_false rfl (WC.seq (WC.ops ?_))))))))))))))))
 by_cases hr:0≤a∧0≤k∧a+k≤(x.pages.length*4096:Nat)
 ·simp only[if_pos hr]
  obtain⟨ha0,hk0,hrr⟩:=hr
  obtain⟨a',rfl⟩:∃a':Nat,a=Int.ofNat a':=⟨a.toNat,by simp only[zO];omega⟩
  obtain⟨k',rfl⟩:∃k':Nat,k=Int.ofNat k':=⟨k.toNat,by simp only[zO];omega⟩
  simp only[zO] at ha0 hk0 hrr
  have hrn:a'+k'≤x.pages.length*4096:=by omega
  refine WO.mv rfl (WO.lssS rfl rfl (fun h=>absurd h (by simp only[zO];omega)) (fun _=>?_))
  refine WO.mv rfl (WO.take rfl rfl (WO.mv rfl (WO.take rfl rfl (WO.lssS rfl rfl (fun h=>absurd h (by simp only[zO];omega)) (fun _=>?_)))))
  refine WO.pure rfl (WO.mv rfl (WO.take rfl rfl (WO.mv rfl (WO.take rfl rfl (WO.mv rfl (WO.take rfl rfl (WO.nilck rfl (WO.take rfl rfl (WO.fadd rfl (WO.take rfl rfl ?_))))))))))
  refine WO.load rfl htop rfl rfl rfl (WO.take rfl rfl (WO.len rfl (WO.take rfl rfl (WO.mulI rfl rfl (by omega) (WO.take rfl rfl ?_)))))
  refine WO.gtrS rfl rfl (fun h=>absurd h (by simp only[zO];omega)) (fun _=>?_)
  refine WO.pure rfl (WO.mv rfl (WO.take rfl rfl (WO.mv rfl (WO.take rfl rfl (WO.mv rfl (WO.take rfl rfl (WO.nilck rfl (WO.take rfl rfl (WO.fadd rfl (WO.take rfl rfl ?_))))))))))
  refine WO.load rfl htop rfl rfl rfl (WO.take rfl rfl (WO.len rfl (WO.take rfl rfl (WO.mulI rfl rfl (by omega) (WO.take rfl rfl (WO.mv rfl (WO.take rfl rfl ?_)))))))
  refine WO.sub rfl rfl (by simp only[zO];omega) (by simp only[zO];omega) (WO.take rfl rfl ?_)
  refine WO.gtrS rfl rfl (fun h=>absurd h (by simp only[zO];omega)) (fun _=>?_)
  refine WO.pure rfl (WO.mv rfl (WO.nil (zN (WC.cond_false rfl (WC.seq (WC.ops (WO.mv rfl ?_)))))))
  refine WO.eqlS rfl rfl (fun he=>?_) (fun he=>?_)
  ·-- no bytes
   simp only[zO] at he
   have:k'=0:=by omega
   subst this
   refine WO.mv rfl (WO.nil (zN (WC.cond_true rfl (WC.seq (WC.ops (WO.mv rfl (WO.nil (zN (WC.ret ?_)))))))))
   refine⟨_,_,rfl,rfl,?_,kr⟩
   have h1:Nat.ble (Nat.add a' 0) (Nat.mul x.pages.length 4096)=true:=by rw[Nat.ble_eq];exact hrn
   show Value.int .i64 (Int.ofNat 0) = .int .i64 (Int.ofNat (checkN x.pages a' 0))
   unfold checkN
   rw[h1];rfl
  ·simp only[zO] at he
   have hk1:0<k':=by omega
   refine WO.mv rfl (WO.nil (zN (WC.cond_false rfl (WC.skip (zB (zN (WC.seq (WC.ops ?_))))))))
   refine WO.mv rfl (WO.quo rfl rfl (by omega) (WO.mv rfl (WO.mv rfl (WO.add rfl rfl (by simp only[zO];omega) (by simp only[zO];omega) (WO.sub rfl rfl (by simp only[zO];omega) (by simp only[zO];omega) ?_)))))
   refine WO.as (b:=Int.ofNat (a'+k'-1)) (by simp only[zO];omega) (WO.quo rfl rfl (by omega) (WO.mv rfl (WO.mv rfl (WO.nil (zN (WC.seq (WC.seq (WC.ops ?_))))))))
   refine WO.mv rfl (WO.nilck rfl (WO.fadd rfl (WO.load rfl htop rfl rfl rfl (WO.mv rfl (WO.mv rfl (WO.mv rfl (WO.sub rfl rfl (by simp only[zO];omega) (by simp only[zO];omega) ?_)))))))
   refine WO.add rfl rfl (by simp only[zO];omega) (by simp only[zO];omega) ?_
   refine WO.as (b:=Int.ofNat ((a'+k'-1) / 4096-a' / 4096+1)) (by simp only[zO];omega) ?_
   refine WO.fcall_ex rfl rfl (count_run (h:=h) (s:=setN x.pages) H hn hcap (nWords_le _) hA.fresh hA.ltW hA.words) ?_
   rintro v2 ⟨tb2,nx2⟩ ⟨hv,_,k2⟩
   have hv:=hv (by simp only[zO];omega)
   subst hv
   refine WO.mv rfl (WO.pure rfl (WO.pure rfl (WO.mv rfl (WO.mv rfl (WO.nil (zN (WC.seq (WC.ops (WO.mv rfl (WO.mv rfl (WO.mv rfl ?_)))))))))))
   refine WO.sub rfl rfl (by simp only[zO];omega) (by simp only[zO];omega) ?_
   have hcn:checkN x.pages a' k'=(if cntC x.pages (a' / 4096) ((a'+k'-1) / 4096-a' / 4096+1)=(a'+k'-1) / 4096-a' / 4096+1 then 0 else 3):=by
    have h1:Nat.ble (Nat.add a' k') (Nat.mul x.pages.length 4096)=true:=by rw[Nat.ble_eq];exact hrn
    have h2:Nat.beq k' 0=false:=by rw[← Bool.not_eq_true,Nat.beq_eq];omega
    unfold checkN
    rw[h1,h2,cond_true,cond_false]
    show(bif allC x.pages (a' / 4096) ((a'+k'-1) / 4096-a' / 4096+1) then 0 else 3)=_
    have:=cnt_all x.pages ((a'+k'-1) / 4096-a' / 4096+1) (a' / 4096)
    by_cases hq:allC x.pages (a' / 4096) ((a'+k'-1) / 4096-a' / 4096+1)=true
    ·rw[hq,if_pos (this.1 hq)];rfl
    ·rw[if_neg (fun h=>hq (this.2 h))]
     rw[Bool.not_eq_true] at hq
     rw[hq];rfl
   have hpc:pc (setN x.pages) (a' / 4096) ((a'+k'-1) / 4096-a' / 4096+1)=cntC x.pages (a' / 4096) ((a'+k'-1) / 4096-a' / 4096+1):=pc_cnt _ _ _
   have hle:=pc_le (setN x.pages) ((a'+k'-1) / 4096-a' / 4096+1) (a' / 4096)
   refine WO.leqS rfl rfl (fun hc=>?_) (fun hc=>?_)
   ·refine WO.nil (WC.cond_true rfl (WC.seq (WC.ops (WO.mv rfl (WO.nil (zN (WC.ret ?_)))))))
    refine⟨_,_,rfl,rfl,?_,k2⟩
    have hc:pc (setN x.pages) (a' / 4096) ((a'+k'-1) / 4096-a' / 4096+1)≤(a'+k'-1) / 4096-a' / 4096:=by
     have:((pc (setN x.pages) (a' / 4096) ((a'+k'-1) / 4096-a' / 4096+1):Nat):Int)≤(((a'+k'-1) / 4096:Nat):Int)-((a' / 4096:Nat):Int):=hc
     omega
    show Value.int .i64 (Int.ofNat 3) = .int .i64 (Int.ofNat (checkN x.pages a' k'))
    rw[hcn,if_neg (by omega)]
   ·refine WO.nil (WC.cond_false rfl (WC.skip (zN (WC.seq (WC.ops (WO.mv rfl (WO.nil (zN (WC.ret ?_)))))))))
    refine⟨_,_,rfl,rfl,?_,k2⟩
    have hc:¬pc (setN x.pages) (a' / 4096) ((a'+k'-1) / 4096-a' / 4096+1)≤(a'+k'-1) / 4096-a' / 4096:=by
     have:¬((pc (setN x.pages) (a' / 4096) ((a'+k'-1) / 4096-a' / 4096+1):Nat):Int)≤(((a'+k'-1) / 4096:Nat):Int)-((a' / 4096:Nat):Int):=hc
     omega
    show Value.int .i64 (Int.ofNat 0) = .int .i64 (Int.ofNat (checkN x.pages a' k'))
    rw[hcn,if_pos (by omega)]
 ·simp only[if_neg hr]
  repeat' first
   |with_reducible refine WC.seq ?_
   |with_reducible refine WC.ops ?_
   |with_reducible refine WC.ret ?_
   |with_reducible refine WC.skip ?_
   |with_reducible refine WC.block ?_
   |with_reducible refine WC.exit ?_
   |with_reducible refine zN ?_
   |with_reducible refine thenC_ret ?_
   |with_reducible refine thenC_exit ?_
   |with_reducible refine zB ?_
   |with_reducible refine blockC_ret ?_
   |with_reducible refine blockC_exit ?_
   |with_reducible refine WO.nil ?_
   |refine WO.mv (by first|rfl|assumption) ?_
   |refine WO.eqlS (by first|rfl|assumption) (by first|rfl|assumption) (fun _=>?_) (fun _=>?_)
   |refine WO.neqS (by first|rfl|assumption) (by first|rfl|assumption) (fun _=>?_) (fun _=>?_)
   |refine WO.lssS (by first|rfl|assumption) (by first|rfl|assumption) (fun _=>?_) (fun _=>?_)
   |refine WO.gtrS (by first|rfl|assumption) (by first|rfl|assumption) (fun _=>?_) (fun _=>?_)
   |refine WO.leqS (by first|rfl|assumption) (by first|rfl|assumption) (fun _=>?_) (fun _=>?_)
   |refine WO.geqS (by first|rfl|assumption) (by first|rfl|assumption) (fun _=>?_) (fun _=>?_)
   |refine WO.skip rfl rfl ?_
   |refine WO.take rfl rfl ?_
   |refine WC.cond_true (by first|rfl|assumption) ?_
   |refine WC.cond_false (by first|rfl|assumption) ?_
   |refine WO.add (by first|rfl|assumption) (by first|rfl|assumption) (by simp only[zO] at *; omega) (by simp only[zO] at *; omega) ?_
   |refine WO.sub (by first|rfl|assumption) (by first|rfl|assumption) (by simp only[zO] at *; omega) (by simp only[zO] at *; omega) ?_
   |refine WO.len rfl ?_
   |refine WO.mulI rfl rfl (by omega) ?_
   |refine WO.load rfl htop rfl rfl rfl ?_
   |refine WO.pure rfl ?_
  all_goals first
   |exact⟨_,_,rfl,rfl,rfl,kr⟩
   |(exfalso;simp only[zO] at *; omega)
end Go.AI
/- What the arena's functions do upon its parts, on. -/
namespace Go.AI
open Go.Proofs
variable {hk:Hook Empty}
theorem pgAt_get:∀(l:List (Option Nat)) (i P:Nat),pgAt l i=some P↔l[i]? = some (some P)
 |[],i,P=>by simp[pgAt]
 |p::r,0,P=>by simp[pgAt]
 |p::r,i+1,P=>by simp only[pgAt,List.getElem?_cons_succ];exact pgAt_get r i P
theorem rowCells_get(pid:Nat→Nat):∀(l:List (Option Nat)) (b i:Nat),(rowCells pid b l)[i]? = (l[i]?).map fun p=>match p with|none=>.pointer none|some _=>.pointer (some ⟨pid (b+i),0,none⟩)
 |[],b,i=>by simp[rowCells]
 |none::r,b,0=>by simp[rowCells]
 |some P::r,b,0=>by simp[rowCells]
 |none::r,b,i+1=>by simp only[rowCells,List.getElem?_cons_succ];rw[rowCells_get pid r (b+1) i,show b+1+i=b+(i+1) by omega]
 |some P::r,b,i+1=>by simp only[rowCells,List.getElem?_cons_succ];rw[rowCells_get pid r (b+1) i,show b+1+i=b+(i+1) by omega]
theorem take_one{cs:List Value}{q:Nat}{v:Value}(h:cs[q]? = some v):takeN cs q 1=some [v]:=by
 have h1:(cs.drop q).take 1=[v]:=by
  apply List.ext_getElem?
  intro i
  rw[List.getElem?_take]
  by_cases hi:i<1
  ·have:i=0:=by omega
   subst this
   simp[h]
  ·simp[hi]
 simp only[takeN,h1];rfl
theorem row_take{pid:Nat→Nat}{l:List (Option Nat)}{q P:Nat}(h:pgAt l q=some P):takeN (rowCells pid 0 l) q 1=some [.pointer (some ⟨pid q,0,none⟩)]:=by
 refine take_one ?_
 rw[rowCells_get,(pgAt_get l q P).1 h,Nat.zero_add];rfl
theorem each_run{n f:Nat}{I:ArIds}{arm:Bool}{ref:Nat}{caps:List Value}{h:Hp Empty}(H:HkA hk)(_hn:1048576≤n)
  (Inv:Nat→Nat→List (Option Nat)→List (Nat×AObj Empty)→Nat→Prop)
  (hA:∀a k l tbl nx,Inv a k l tbl nx→ArH ⟨tbl,nx⟩ ⟨l,arm,ref⟩ I)
  (hpg:∀a k l tbl nx,Inv a k l tbl nx→0<k→∃P,pgAt l (a / 4096)=some P)
  (hcall:∀a k l tbl nx P,Inv a k l tbl nx→0<k→pgAt l (a / 4096)=some P→∃v h',RA (hk:=hk) (n+1) f ([.slice (some ⟨I.pid (a / 4096),a % 4096,some 1⟩) (min k (4096-a % 4096)) (4096-a % 4096)]++caps) ⟨tbl,nx⟩=some (v,h')∧∃l',Inv (a+min k (4096-a % 4096)) (k-min k (4096-a % 4096)) l' h'.tbl h'.next)
  {a k:Nat} {l:List (Option Nat)} (h0:Inv a k l h.tbl h.next) (hb:a+k≤4294967296) (hfuel:k<n) :
  ∃v h',RA (hk:=hk) (n+2) 68 [.pointer (some ⟨I.A,0,none⟩),.int .i64 (Int.ofNat a),.int .i64 (Int.ofNat k),.func (.func f) #[] ⟨caps⟩] h=some (v,h')∧(v = .tuple ⟨[]⟩∧∃a' l',Inv a' 0 l' h'.tbl h'.next):=by
 refine run_fn (H.none 68 (by decide)) f68 (by simp[i68]) ?_
 dsimp only[i68,argsE]
 refine WC.block ?_
 refine WC.loop (fun j e tbl nx=>∃(b:Nat) (l:List (Option Nat)),e 0=some (.pointer (some ⟨I.A,0,none⟩))∧e 1=some (.int .i64 (Int.ofNat b))∧e 2=some (.int .i64 (Int.ofNat j))∧e 3=some (.func (.func f) #[] ⟨caps⟩)∧b+j≤4294967296∧Inv b j l tbl nx) (k:=k) (by omega) ⟨a,l,rfl,rfl,rfl,rfl,hb,h0⟩ ?_
 rintro j e tbl nx ⟨b,l,e0,e1,e2,e3,hbj,hI⟩
 refine WC.seq (WC.seq (WC.ops (WO.mv e2 (WO.gtrS rfl rfl (fun hj=>?_) (fun hj=>?_)))))
 ·simp only[zO] at hj
  have hj':0<j:=by omega
  have hAr:=hA _ _ _ _ _ hI
  obtain⟨P,hP⟩:=hpg _ _ _ _ _ hI hj'
  have hlt:b / 4096<l.length:=by
   have:=(pgAt_get l _ P).1 hP
   rcases Nat.lt_or_ge (b / 4096) l.length with h|h
   ·exact h
   ·rw[List.getElem?_eq_none h] at this;cases this
  have htop:look I.A tbl=some (.cells (topCells ⟨l,arm,ref⟩ I)):=hAr.at_.top
  have hrow:look I.Pg tbl=some (.cells (rowCells I.pid 0 l)):=hAr.at_.row
  refine WO.nil (WC.cond_true rfl (WC.skip (zN (WC.block (WC.seq (WC.ops ?_))))))
  refine WO.mv e2 (WO.mv e1 (WO.rem rfl rfl (WO.sub rfl rfl (by simp only[zO];omega) (by simp only[zO];omega) (WO.min2 rfl rfl ?_))))
  refine WO.as (b:=Int.ofNat (min j (4096-b % 4096))) (by simp only[zO];omega) ?_
  refine WO.mv rfl (WO.nil (zN (WC.seq (WC.ops ?_))))
  refine WO.mv e3 (WO.mv e0 (WO.nilck rfl (WO.fadd rfl (WO.load rfl htop rfl rfl rfl (WO.mv e1 (WO.quo rfl rfl (by omega) (WO.idxL rfl rfl rfl hlt ?_)))))))
  refine WO.load rfl hrow rfl (by rw[show 0+b / (4095+1)*1=b / 4096 by omega];exact row_take hP) rfl ?_
  refine WO.nilck rfl (WO.mv e1 (WO.rem rfl rfl (WO.slALo rfl rfl rfl (Nat.mod_lt _ (by decide)) ?_)))
  refine WO.mv rfl (WO.slLHi rfl rfl rfl (by show min j (4096-b % 4096)≤4096-b % 4096;omega) (by show 0<4096-b % 4096;omega) ?_)
  have hs:(Value.slice (some ⟨I.pid (b / 4096),0+b % 4096*1+0*1,some 1⟩) (min j (4096-b % 4096)-0) (4096-b % 4096-0)) = .slice (some ⟨I.pid (b / 4096),b % 4096,some 1⟩) (min j (4096-b % 4096)) (4096-b % 4096):=by
   rw[show 0+b % 4096*1+0*1=b % 4096 by omega,Nat.sub_zero,Nat.sub_zero]
  obtain⟨v,h',hc,l',hI'⟩:=hcall b j l tbl nx P hI hj' hP
  refine WO.fcall rfl rfl (v:=v) (h:=h') (by
   show run FA (fun _=>false) hk (n+1) f ([_]++caps) ⟨tbl,nx⟩=some (v,h')
   rw[hs];exact hc) ?_
  refine WO.nil (zN (WC.ops ?_))
  refine WO.mv e1 (WO.mv rfl (WO.add rfl rfl (by simp only[zO];omega) (by simp only[zO];omega) ?_))
  refine WO.mv e2 (WO.mv rfl (WO.sub rfl rfl (by simp only[zO];omega) (by simp only[zO];omega) ?_))
  refine WO.as (b:=Int.ofNat (j-min j (4096-b % 4096))) (by simp only[zO];omega) ?_
  refine WO.mv rfl (WO.mv rfl (WO.nil (zB ?_)))
  exact⟨j-min j (4096-b % 4096),by omega,rfl,b+min j (4096-b % 4096),l',e0,rfl,rfl,e3,by omega,hI'⟩
 ·simp only[zO] at hj
  have hj0:j=0:=by omega
  subst hj0
  refine WO.nil (WC.cond_false rfl (WC.exit (thenC_exit (blockC_exit ?_))))
  exact⟨_,_,rfl,rfl,rfl,b,l,hI⟩
end Go.AI
/- What the arena's functions do upon its parts: a page's cells. -/
namespace Go.AI
open Go.Proofs
variable {hk:Hook Empty}
theorem page_get(P i:Nat):(pageCells P)[i]? = if i<4096 then some (byteV P i) else none:=by
 unfold pageCells
 rw[List.getElem?_map]
 by_cases h:i<4096
 ·rw[if_pos h,List.getElem?_range h];rfl
 ·rw[if_neg h,List.getElem?_eq_none (by simpa using h)];rfl
theorem page_len(P:Nat):(pageCells P).length=4096:=by unfold pageCells;simp
theorem splice_get{cs vs:List Value}{n:Nat}(h:n+vs.length≤cs.length)(i:Nat):(splice cs n vs)[i]? = if n≤i∧i<n+vs.length then vs[i-n]? else cs[i]? := by
 rw[splice_eq _ _ _ h]
 by_cases h1:i<n
 ·rw[if_neg (by omega),List.append_assoc,List.getElem?_append_left (by rw[List.length_take];omega),List.getElem?_take,if_pos h1]
 ·by_cases h2:i<n+vs.length
  ·rw[if_pos ⟨by omega,h2⟩,List.getElem?_append_left (by rw[List.length_append,List.length_take];omega),List.getElem?_append_right (by rw[List.length_take];omega),List.length_take,Nat.min_eq_left (by omega)]
  ·rw[if_neg (by omega),List.getElem?_append_right (by rw[List.length_append,List.length_take];omega),List.length_append,List.length_take,Nat.min_eq_left (by omega),List.getElem?_drop,show n+vs.length+(i-(n+vs.length))=i by omega]
theorem page_set{P off k v:Nat}{vs:List Value}(hv:v<2 ^ (8*k))(hl:vs.length=k)(hb:off+k≤4096)(hs:∀i,i<k→vs[i]? = some (byteV v i)):splice (pageCells P) off vs=pageCells (setBytes P off k v):=by
 apply List.ext_getElem?
 intro i
 rw[splice_get (by rw[page_len];omega),page_get,page_get,hl]
 by_cases h1:off≤i∧i<off+k
 ·rw[if_pos h1,if_pos (by omega),hs _ (by omega)]
  unfold byteV
  rw[byte_set hv,if_pos h1]
 ·rw[if_neg h1]
  unfold byteV
  rw[byte_set hv,if_neg h1]
theorem page_put{P off:Nat}{s:List UInt8}(hb:off+s.length≤4096):splice (pageCells P) off (byteCells s)=pageCells (setBytes P off s.length (numOf s)):=by
 refine page_set (numOf_lt s) (by simp[byteCells]) hb fun i hi=>?_
 unfold byteCells byteV
 rw[List.getElem?_map,List.getElem?_eq_getElem hi,byte_num s i s[i] (List.getElem?_eq_getElem hi)]
 rfl
theorem page_bytes(P:Nat):∀(k off:Nat),off+k≤4096→takeN (pageCells P) off k=some (byteCells (segBytes P off k)):=by
 intro k off hb
 have key:∀(k off:Nat),off+k≤4096→((pageCells P).drop off).take k=byteCells (segBytes P off k):=by
  intro k
  induction k with
  |zero=>intro off _;simp[segBytes,byteCells]
  |succ k ih =>
   intro off h
   have h0:(pageCells P).drop off=byteV P off::(pageCells P).drop (off+1):=by
    have:off<(pageCells P).length:=by rw[page_len];omega
    rw[List.drop_eq_getElem_cons this]
    have h2:=page_get P off
    rw[if_pos (by omega),List.getElem?_eq_getElem this] at h2
    rw[Option.some.inj h2]
   rw[h0,List.take_succ_cons,ih (off+1) (by omega)]
   have hv:(UInt8.ofNat (byteN P off)).toNat=byteN P off:=by
    have:=byteN_lt P off
    rw[UInt8.toNat_ofNat']
    exact Nat.mod_eq_of_lt this
   show byteV P off::byteCells (segBytes P (off+1) k) = .int .u8 (Int.ofNat (UInt8.ofNat (byteN P off)).toNat)::byteCells (segBytes P (off+1) k)
   rw[hv]
   rfl
 have hl:(byteCells (segBytes P off k)).length=k:=by
  rw[← key k off hb,List.length_take,List.length_drop,page_len];omega
 simp only[takeN,key k off hb,hl,Nat.beq_refl,cond_true]
theorem setPg_len:∀(l:List (Option Nat)) (q:Nat) (p:Option Nat),(setPg l q p).length=l.length
 |[],_,_=>rfl
 |_::r,0,p=>rfl
 |x::r,q+1,p=>by simp only[setPg,List.length_cons];rw[setPg_len r q p]
theorem setPg_get:∀(l:List (Option Nat)) (q i:Nat) (p:Option Nat),(setPg l q p)[i]? = if i=q∧i<l.length then some p else l[i]?
 |[],q,i,p=>by simp[setPg]
 |x::r,0,0,p=>by simp[setPg]
 |x::r,0,i+1,p=>by simp[setPg]
 |x::r,q+1,0,p=>by simp[setPg]
 |x::r,q+1,i+1,p=>by
  simp only[setPg,List.getElem?_cons_succ,List.length_cons]
  rw[setPg_get r q i p]
  by_cases h:i=q∧i<r.length
  ·rw[if_pos h,if_pos (by omega)]
  ·rw[if_neg h,if_neg (by omega)]
theorem pgAt_lt{l:List (Option Nat)}{q P:Nat}(h:pgAt l q=some P):q<l.length:=by
 have:=(pgAt_get l q P).1 h
 rcases Nat.lt_or_ge q l.length with h|h
 ·exact h
 ·rw[List.getElem?_eq_none h] at this;cases this
theorem row_set(pid:Nat→Nat):∀(l:List (Option Nat)) (b q P P':Nat),pgAt l q=some P→rowCells pid b (setPg l q (some P'))=rowCells pid b l
 |[],_,_,_,_,h=>by simp[pgAt] at h
 |none::r,b,0,P,P',h=>by simp[pgAt] at h
 |some x::r,b,0,P,P',h=>rfl
 |none::r,b,q+1,P,P',h=>by simp only[setPg,rowCells];rw[row_set pid r (b+1) q P P' h]
 |some x::r,b,q+1,P,P',h=>by simp only[setPg,rowCells];rw[row_set pid r (b+1) q P P' h]
theorem setN_set:∀(l:List (Option Nat)) (q P P':Nat),pgAt l q=some P→setN (setPg l q (some P'))=setN l
 |[],_,_,_,h=>by simp[pgAt] at h
 |none::r,0,P,P',h=>by simp[pgAt] at h
 |some x::r,0,P,P',h=>rfl
 |none::r,q+1,P,P',h=>by simp only[setPg,setN];rw[setN_set r q P P' h]
 |some x::r,q+1,P,P',h=>by simp only[setPg,setN];rw[setN_set r q P P' h]
theorem countN_set:∀(l:List (Option Nat)) (q P P':Nat),pgAt l q=some P→countN (setPg l q (some P'))=countN l
 |[],_,_,_,h=>by simp[pgAt] at h
 |none::r,0,P,P',h=>by simp[pgAt] at h
 |some x::r,0,P,P',h=>rfl
 |none::r,q+1,P,P',h=>by simp only[setPg,countN];rw[countN_set r q P P' h]
 |some x::r,q+1,P,P',h=>by simp only[setPg,countN];rw[countN_set r q P P' h]
theorem nWords_set(l:List (Option Nat))(q:Nat)(p:Option Nat):nWords (setPg l q p)=nWords l:=by
 unfold nWords;rw[setPg_len]
theorem wordCells_set{l:List (Option Nat)}{q P:Nat}(P':Nat)(h:pgAt l q=some P):wordCells (setPg l q (some P'))=wordCells l:=by
 unfold wordCells;rw[nWords_set,setN_set l q P P' h]
theorem ArH.setPage{tbl:List (Nat×AObj Empty)}{nx q P P' ref:Nat}{l:List (Option Nat)}{arm:Bool}{I:ArIds}(H:ArH ⟨tbl,nx⟩ ⟨l,arm,ref⟩ I)(hq:pgAt l q=some P) :
  ArH ⟨upd (I.pid q) (.cells (pageCells P')) tbl,nx⟩ ⟨setPg l q (some P'),arm,ref⟩ I where
 fresh:=H.fresh.upd
 at_:=by
  have hP:l[q]? = some (some P):=(pgAt_get l q P).1 hq
  obtain⟨d1,d2,d3⟩:=H.at_.dP q P hP
  have hl:∀i P2,(setPg l q (some P'))[i]? = some (some P2)→∃P3,l[i]? = some (some P3)∧(i=q∧P2=P'∨i≠q∧P2=P3):=by
   intro i P2 h
   rw[setPg_get] at h
   by_cases hc:i=q∧i<l.length
   ·rw[if_pos hc] at h
    injection h with h;injection h with h
    exact⟨P,hc.1▸hP,.inl ⟨hc.1,h.symm⟩⟩
   ·rw[if_neg hc] at h
    refine⟨P2,h,.inr ⟨fun e=>hc ⟨e,?_⟩,rfl⟩⟩
    rw[e];exact pgAt_lt hq
  have hold:∀j,j≠I.pid q→look j (upd (I.pid q) (.cells (pageCells P')) tbl)=look j tbl:=fun j h=>zU h
  refine⟨?_,?_,?_,?_,?_,H.at_.dA,?_,?_,H.at_.ref⟩
  ·show look I.A (upd _ _ tbl)=_
   rw[hold _ (Ne.symm d1),setPg_len,nWords_set,countN_set l q P P' hq]
   exact H.at_.top
  ·show look I.Pg (upd _ _ tbl)=_
   rw[hold _ (Ne.symm d2),row_set _ l 0 q P P' hq]
   exact H.at_.row
  ·show∃ob,look I.W (upd _ _ tbl)=some ob∧cellsO ob=some (wordCells (setPg l q (some P')))
   rw[hold _ (Ne.symm d3),wordCells_set P' hq]
   exact H.at_.wds
  ·intro i P2 h
   obtain⟨P3,h3,h4⟩:=hl i P2 h
   show look (I.pid i) (upd _ _ tbl)=_
   rcases h4 with⟨rfl,rfl⟩|⟨h5,rfl⟩
   ·exact zS (H.at_.page i P hP)
   ·rw[hold _ (fun e=>h5 (H.at_.inj i q _ _ h3 hP e))]
    exact H.at_.page i P2 h3
  ·intro i j P2 P3 hi hj
   obtain⟨_,hi',_⟩:=hl i P2 hi
   obtain⟨_,hj',_⟩:=hl j P3 hj
   exact H.at_.inj i j _ _ hi' hj'
  ·intro i P2 hi
   obtain⟨_,hi',_⟩:=hl i P2 hi
   exact H.at_.dP i _ hi'
  ·show(setPg l q (some P')).length≤1048576
   rw[setPg_len];exact H.at_.cap
theorem ArAt.congr{V V':Nat→Option (AObj Empty)}{x:Ar}{I:ArIds}(h:ArAt V x I)(e:∀k,V' k=V k):ArAt V' x I:=by
 have:V'=V:=funext e
 rw[this];exact h
theorem ArH.congr{h h':Hp Empty}{x:Ar}{I:ArIds}(H:ArH h x I)(e:∀k,look k h'.tbl=look k h.tbl)(hn:h.next≤h'.next):ArH h' x I :=
 ⟨H.at_.congr e,fun k hk=>by rw[e];exact H.fresh k (by omega)⟩
theorem fill_step{P off i b:Nat}(hb:b<256)(h:off+i<4096):splice (pageCells (setBytes P off i (fillV b i))) (off+i) [.int .u8 (Int.ofNat b)]=pageCells (setBytes P off (i+1) (fillV b (i+1))):=by
 apply List.ext_getElem?
 intro j
 rw[splice_get (by rw[page_len];show off+i+1≤4096;omega),page_get,page_get]
 show(if off+i≤j∧j<off+i+1 then _ else _)=_
 unfold byteV
 rw[byte_set (fill_lt hb i),byte_set (fill_lt hb (i+1))]
 by_cases h1:j=off+i
 ·subst h1
  rw[if_pos (by omega),if_pos (by omega),if_pos (by omega),byte_fill hb (i+1) _ (by omega),Nat.sub_self]
  rfl
 ·rw[if_neg (by omega)]
  by_cases h2:j<4096
  ·rw[if_pos h2,if_pos h2]
   by_cases h3:off≤j∧j<off+i
   ·rw[if_pos h3,if_pos (by omega),byte_fill hb i _ (by omega),byte_fill hb (i+1) _ (by omega)]
   ·rw[if_neg h3,if_neg (by omega)]
  ·rw[if_neg h2,if_neg h2]
set_option maxHeartbeats 1000000 in
theorem fill1_run{n p off len cp B b P:Nat}{h:Hp Empty}(H:HkA hk)(hn:4096≤n)(hpB:p≠B)(hb:b<256)(hlen:off+len≤4096)(hp:look p h.tbl=some (.cells (pageCells P)))(hB:look B h.tbl=some (.cells [.int .u8 (Int.ofNat b)])) :
  ∃v h',RA (hk:=hk) (n+2) 149 [.slice (some ⟨p,off,some 1⟩) len cp,.pointer (some ⟨B,0,none⟩)] h=some (v,h')∧(v = .tuple ⟨[]⟩∧h'.next=h.next∧∀k,look k h'.tbl=look k (upd p (.cells (pageCells (setBytes P off len (fillV b len)))) h.tbl)):=by
 refine run_fn (H.none 149 (by decide)) f149 (by simp[i149]) ?_
 dsimp only[i149,argsE]
 have h00:pageCells (setBytes P off 0 (fillV b 0))=pageCells P:=by
  have:=page_set (P:=P) (off:=off) (k:=0) (v:=fillV b 0) (vs:=[]) (fill_lt hb 0) rfl (by omega) (fun i hi=>by omega)
  rw[← this]
  rw[splice_eq _ _ _ (by rw[page_len];show off+0≤4096;omega)]
  simp
 refine WC.seq (WC.ops (WO.mv rfl (WO.len rfl (WO.mv rfl (WO.nil (zN (WC.block ?_)))))))
 refine WC.loop (fun j e tbl nx=>∃i,i+j=len∧e 0=some (.slice (some ⟨p,off,some 1⟩) len cp)∧e 1=some (.pointer (some ⟨B,0,none⟩))∧e 5=some (.int .i64 (Int.ofNat len))∧e 6=some (.int .i64 (Int.ofNat i))∧nx=h.next ∧
  look p tbl=some (.cells (pageCells (setBytes P off i (fillV b i))))∧(∀k,k≠p→look k tbl=look k h.tbl)) (k:=len) (by omega) ⟨0,by omega,rfl,rfl,rfl,rfl,rfl,by rw[h00];exact hp,fun _ _=>rfl⟩ ?_
 rintro j e tbl nx ⟨i,hij,e0,e1,e5,e6,rfl,hpc,hoth⟩
 refine WC.seq (WC.ops (WO.lssS e6 e5 (fun hc=>?_) (fun hc=>?_)))
 ·simp only[zO] at hc
  have hi:i<len:=by omega
  refine WO.nil (zN (WC.seq (WC.cond_true rfl (WC.skip (zN (WC.seq (WC.block (WC.seq (WC.ops ?_)))))))))
  refine WO.mv e6 (WO.mv rfl (WO.nil (zN (WC.ops (WO.mv e0 (WO.mv rfl ?_))))))
  refine WO.load e1 ((hoth B (Ne.symm hpB)).trans hB) rfl rfl rfl (WO.idxL rfl rfl rfl hi ?_)
  refine WO.store (ob':=.cells (pageCells (setBytes P off (i+1) (fillV b (i+1))))) rfl rfl rfl rfl hpc rfl (by rw[page_len];show off+i*1+1≤4096;omega) (by
   show some (AObj.cells (splice _ (off+i*1) [_]))=_
   rw[Nat.mul_one,fill_step hb (by omega)]) ?_
  refine WO.nil (zB (zN (WC.ops ?_)))
  refine WO.add e6 rfl (by simp only[zO];omega) (by simp only[zO];omega) (WO.as (b:=Int.ofNat (i+1)) (by simp only[zO];omega) (WO.mv rfl (WO.nil ?_)))
  exact⟨j-1,by omega,rfl,i+1,by omega,e0,e1,e5,rfl,rfl,zS hpc,fun k hk=>(zU hk).trans (hoth k hk)⟩
 ·simp only[zO] at hc
  have hi:i=len:=by omega
  subst hi
  refine WO.nil (zN (WC.seq (WC.cond_false rfl (WC.exit (thenC_exit (blockC_exit ?_))))))
  refine⟨_,_,rfl,rfl,rfl,rfl,fun k=>?_⟩
  show look k tbl=_
  by_cases hk:k=p
  ·subst hk;rw[hpc,zS hp]
  ·rw[hoth k hk,zU hk]
end Go.AI
/- What the arena's functions do upon its parts: bytes that are there;Fill. -/
namespace Go.AI
open Go.Proofs
variable {hk:Hook Empty}
def There(l:List (Option Nat))(a k:Nat):Prop:=a+k≤l.length*4096∧(0<k→∀q,a / 4096≤q→q≤(a+k-1) / 4096→∃P,pgAt l q=some P)
theorem allC_get{l:List (Option Nat)}:∀(c p:Nat),allC l p c=true→∀i,i<c→∃P,pgAt l (p+i)=some P
 |0,p,_,i,h=>by omega
 |c+1,p,h,i,hi=>by
  simp only[allC] at h
  cases hp:pgAt l p with
  |none=>rw[hp] at h;cases h
  |some P =>
   rw[hp] at h
   rcases Nat.eq_zero_or_pos i with h0|h0
   ·subst h0;exact⟨P,hp⟩
   ·obtain⟨Q,hQ⟩:=allC_get c (p+1) h (i-1) (by omega)
    exact⟨Q,by rw[← hQ];congr 1;omega⟩
theorem check_vals(l:List (Option Nat))(a k:Nat):checkN l a k=0∨checkN l a k=3:=by
 unfold checkN
 cases Nat.ble (Nat.add a k) (Nat.mul l.length 4096) with
 |false=>exact .inr rfl
 |true =>
  cases Nat.beq k 0 with
  |true=>exact .inl rfl
  |false =>
   cases allC l (Nat.div a 4096) (Nat.succ (Nat.sub (Nat.div (Nat.pred (Nat.add a k)) 4096) (Nat.div a 4096))) with
   |true=>exact .inl rfl
   |false=>exact .inr rfl
theorem check_there{l:List (Option Nat)}{a k:Nat}(h:checkN l a k=0):There l a k:=by
 unfold checkN at h
 cases h1:Nat.ble (Nat.add a k) (Nat.mul l.length 4096) with
 |false=>rw[h1] at h;cases h
 |true =>
  rw[h1,cond_true] at h
  rw[Nat.ble_eq] at h1
  refine⟨h1,fun hk q hq1 hq2=>?_⟩
  have h2:Nat.beq k 0=false:=by rw[← Bool.not_eq_true,Nat.beq_eq];omega
  rw[h2,cond_false] at h
  cases h3:allC l (Nat.div a 4096) (Nat.succ (Nat.sub (Nat.div (Nat.pred (Nat.add a k)) 4096) (Nat.div a 4096))) with
  |false=>rw[h3] at h;cases h
  |true =>
   have h4:Nat.succ (Nat.sub (Nat.div (Nat.pred (Nat.add a k)) 4096) (Nat.div a 4096))=(a+k-1) / 4096-a / 4096+1:=rfl
   rw[h4] at h3
   obtain⟨P,hP⟩:=allC_get _ _ h3 (q-a / 4096) (by omega)
   refine⟨P,?_⟩
   rw[← hP]
   congr 1
   show q=a / 4096+(q-a / 4096)
   omega
theorem There.step{l:List (Option Nat)}{a k m:Nat}(h:There l a k)(hm:m≤k):There l (a+m) (k-m):=by
 refine⟨by have:=h.1;omega,fun hk q h1 h2=>h.2 (by omega) q ?_ ?_⟩
 ·have:a / 4096≤(a+m) / 4096:=Nat.div_le_div_right (by omega)
  omega
 ·rw[show a+m+(k-m)-1=a+k-1 by omega] at h2;exact h2
theorem There.set{l:List (Option Nat)}{a k q P':Nat}(h:There l a k):There (setPg l q (some P')) a k:=by
 refine⟨by rw[setPg_len];exact h.1,fun hk j h1 h2=>?_⟩
 obtain⟨P,hP⟩:=h.2 hk j h1 h2
 by_cases e:j=q
 ·subst e
  refine⟨P',(pgAt_get _ _ _).2 ?_⟩
  rw[setPg_get,if_pos ⟨rfl,pgAt_lt hP⟩]
 ·refine⟨P,(pgAt_get _ _ _).2 ?_⟩
  rw[setPg_get,if_neg (fun h=>e h.1)]
  exact(pgAt_get _ _ _).1 hP
def segs(a k:Nat):Nat:=if k=0 then 0 else(a % 4096+k+4095) / 4096
theorem segs_step{a k:Nat}(hk:0<k):segs (a+min k (4096-a % 4096)) (k-min k (4096-a % 4096))+1=segs a k:=by
 unfold segs
 by_cases h:k≤4096-a % 4096
 ·rw[Nat.min_eq_left h,if_pos (by omega),if_neg (by omega)];omega
 ·rw[Nat.min_eq_right (by omega),if_neg (by omega),if_neg (by omega)]
  have:(a+(4096-a % 4096)) % 4096=0:=by omega
  rw[this];omega
theorem segs_le(a k:Nat):segs a k≤fuelA k:=by
 show segs a k≤k / 4096+2
 unfold segs
 split<;>omega
end Go.AI
/- What the arena's functions do upon its parts: Fill, whole. -/
namespace Go.AI
open Go.Proofs
variable {hk:Hook Empty}
theorem pgAt_set{l:List (Option Nat)}{q i Q P P':Nat}(hq:pgAt l q=some P)(h:pgAt (setPg l q (some P')) i=some Q):∃P,pgAt l i=some P:=by
 have h1:=(pgAt_get _ _ _).1 h
 rw[setPg_get] at h1
 by_cases hc:i=q∧i<l.length
 ·exact⟨P,hc.1▸hq⟩
 ·rw[if_neg hc] at h1
  exact⟨Q,(pgAt_get _ _ _).2 h1⟩
theorem fillA_zero(b:Nat):∀(f:Nat) (l:List (Option Nat)) (a:Nat),fillA b f l a 0=l
 |0,_,_=>rfl
 |_+1,_,_=>rfl
theorem fillA_step{b f a k P:Nat}{l:List (Option Nat)}(hk:0<k)(hP:pgAt l (a / 4096)=some P) :
  fillA b (f+1) l a k=fillA b f (setPg l (a / 4096) (some (setBytes P (a % 4096) (min k (4096-a % 4096)) (fillV b (min k (4096-a % 4096)))))) (a+min k (4096-a % 4096)) (k-min k (4096-a % 4096)):=by
 have h0:Nat.beq k 0=false:=by rw[← Bool.not_eq_true,Nat.beq_eq];omega
 show(bif Nat.beq k 0 then l else match pgAt l (a / 4096) with
  |some P=>fillA b f (setPg l (a / 4096) (some (setBytes P (a % 4096) (min k (4096-a % 4096)) (fillV b (min k (4096-a % 4096)))))) (a+min k (4096-a % 4096)) (k-min k (4096-a % 4096))
  |none=>l)=_
 rw[h0,hP];rfl
def FillInv(I:ArIds)(arm:Bool)(ref b B:Nat)(L:List (Option Nat))(a k:Nat)(l:List (Option Nat))(tbl:List (Nat×AObj Empty))(nx:Nat):Prop :=
 ArH ⟨tbl,nx⟩ ⟨l,arm,ref⟩ I∧look B tbl=some (.cells [.int .u8 (Int.ofNat b)])∧(∀i P,pgAt l i=some P→I.pid i≠B)∧There l a k∧∃f,segs a k≤f∧fillA b f l a k=L
theorem fill_call{n:Nat}{I:ArIds}{arm:Bool}{ref b B:Nat}{L:List (Option Nat)}(H:HkA hk)(hn:4096≤n)(hb:b<256)(a k:Nat)(l:List (Option Nat))(tbl:List (Nat×AObj Empty))(nx P:Nat)(hI:FillInv I arm ref b B L a k l tbl nx)(hk0:0<k)(hP:pgAt l (a / 4096)=some P) :
  ∃v h',RA (hk:=hk) (n+2) 149 ([.slice (some ⟨I.pid (a / 4096),a % 4096,some 1⟩) (min k (4096-a % 4096)) (4096-a % 4096)]++[.pointer (some ⟨B,0,none⟩)]) ⟨tbl,nx⟩=some (v,h')∧∃l',FillInv I arm ref b B L (a+min k (4096-a % 4096)) (k-min k (4096-a % 4096)) l' h'.tbl h'.next:=by
 obtain⟨hAr,hB,hne,hth,f,hf,hfa⟩:=hI
 have hseg:=segs_step (a:=a) hk0
 obtain⟨f',rfl⟩:∃f',f=f'+1:=⟨f-1,by omega⟩
 have hm:min k (4096-a % 4096)≤k:=Nat.min_le_left _ _
 have hm2:min k (4096-a % 4096)≤4096-a % 4096:=Nat.min_le_right _ _
 have hmod:a % 4096<4096:=Nat.mod_lt _ (by decide)
 have hpc:look (I.pid (a / 4096)) tbl=some (.cells (pageCells P)):=hAr.at_.page _ _ ((pgAt_get _ _ _).1 hP)
 obtain⟨v,h',h1,_,h2,h3⟩:=fill1_run (n:=n) (p:=I.pid (a / 4096)) (off:=a % 4096) (len:=min k (4096-a % 4096)) (cp:=4096-a % 4096) (B:=B) (b:=b) (P:=P) (h:=⟨tbl,nx⟩) H hn (hne _ _ hP) hb (by omega) hpc hB
 refine⟨v,h',h1,setPg l (a / 4096) (some (setBytes P (a % 4096) (min k (4096-a % 4096)) (fillV b (min k (4096-a % 4096))))),?_⟩
 have hS:=hAr.setPage (P':=setBytes P (a % 4096) (min k (4096-a % 4096)) (fillV b (min k (4096-a % 4096)))) hP
 refine⟨hS.congr (h':=h') h3 (by rw[h2];exact Nat.le_refl _),?_,?_,hth.set.step hm,f',by omega,?_⟩
 ·rw[h3,zU (Ne.symm (hne _ _ hP))];exact hB
 ·intro i Q hi
  obtain⟨P2,hP2⟩:=pgAt_set hP hi
  exact hne _ _ hP2
 ·rw[← fillA_step hk0 hP];exact hfa
theorem fill_run{n:Nat}{x:Ar}{I:ArIds}{a k b:Nat}{h:Hp Empty}(H:HkA hk)(hn:4294967297≤n)(hb:b<256)(hA:ArH h x I)(hc:checkN x.pages a k=0) :
  ∃v h',RA (hk:=hk) (n+4) 111 [.pointer (some ⟨I.A,0,none⟩),.int .i64 (Int.ofNat a),.int .i64 (Int.ofNat k),.int .u8 (Int.ofNat b)] h=some (v,h')∧(v=errV 0∧ArH h' ⟨fillA b (fuelA k) x.pages a k,x.armed,x.refuse⟩ I):=by
 have hth:=check_there hc
 have hcap:=hA.at_.cap
 refine run_fn (H.none 111 (by decide)) f111 (by simp[i111]) ?_
 dsimp only[i111,argsE]
 refine WC.seq (WC.ops (WO.box rfl rfl (WO.mv rfl (WO.nil (zN (WC.seq (WC.seq (WC.ops ?_))))))))
 have k1:=Keep.new hA.fresh (.cells [.int .u8 (Int.ofNat b)])
 have hA1:ArH ⟨(h.next,.cells [.int .u8 (Int.ofNat b)])::h.tbl,h.next+1⟩ x I:=hA.keep k1
 refine WO.mv rfl (WO.mv rfl (WO.mv rfl (WO.fcall_ex rfl rfl (check_run (n:=n) (a:=Int.ofNat a) (k:=Int.ofNat k) H (by omega) hA1) ?_)))
 rintro v2 ⟨tb2,nx2⟩ ⟨rfl,k2⟩
 have hA2:ArH ⟨tb2,nx2⟩ x I:=hA1.keep k2
 have hB2:look h.next tb2=some (.cells [.int .u8 (Int.ofNat b)]):=(k2.same h.next (by show h.next<h.next+1;omega)).trans look_new
 refine WO.mv rfl (WO.nil (zN (WC.seq (WC.ops (WO.mv rfl (WO.neqS rfl rfl (fun hne=>?_) (fun _=>?_)))))))
 ·exact absurd (by show Int.ofNat (checkN x.pages a k)=Int.ofNat 0;rw[hc]) hne
 ·refine WO.nil (WC.cond_false rfl (WC.skip (zN (WC.seq (WC.ops ?_)))))
  have hea:=each_run (n:=n+1) (f:=149) (I:=I) (arm:=x.armed) (ref:=x.refuse) (caps:=[.pointer (some ⟨h.next,0,none⟩)]) (a:=a) (k:=k) (l:=x.pages) (h:=⟨tb2,nx2⟩) H (by omega)
   (FillInv I x.armed x.refuse b h.next (fillA b (fuelA k) x.pages a k)) (fun a k l tbl nx hI=>hI.1) (fun a k l tbl nx hI hk=>hI.2.2.2.1.2 hk _ (Nat.le_refl _) (Nat.div_le_div_right (by omega)))
   (fun a k l tbl nx P hI hk hP=>fill_call H (by omega) hb a k l tbl nx P hI hk hP)
   ⟨hA2,hB2,fun i P hi=>Nat.ne_of_lt (hA.ltP ((pgAt_get _ _ _).1 hi)),hth,fuelA k,segs_le a k,rfl⟩ (by have:=hth.1;omega) (by have:=hth.1;omega)
  refine WO.mv rfl (WO.mv rfl (WO.mv rfl (WO.pure rfl (WO.fcall_ex rfl rfl hea ?_))))
  rintro v3 ⟨tb3,nx3⟩ ⟨rfl,a',l',hA3,_,_,_,f,_,hL⟩
  rw[fillA_zero] at hL
  subst hL
  refine WO.nil (zN (WC.seq (WC.ops (WO.mv rfl (WO.nil (zN (WC.ret ?_)))))))
  exact⟨_,_,rfl,rfl,rfl,hA3⟩
theorem fill_no{n:Nat}{x:Ar}{I:ArIds}{a k:Int}{b:Value}{bs:List Value}{h:Hp Empty}(H:HkA hk)(hn:1048576≤n)(hA:ArH h x I)(hbs:cellsV b=some bs)(hc:checkA x.pages a k≠0) :
  ∃v h',RA (hk:=hk) (n+4) 111 [.pointer (some ⟨I.A,0,none⟩),.int .i64 a,.int .i64 k,b] h=some (v,h')∧(v=errV (checkA x.pages a k)∧ArH h' x I):=by
 refine run_fn (H.none 111 (by decide)) f111 (by simp[i111]) ?_
 dsimp only[i111,argsE]
 refine WC.seq (WC.ops (WO.box rfl hbs (WO.mv rfl (WO.nil (zN (WC.seq (WC.seq (WC.ops ?_))))))))
 have k1:=Keep.new hA.fresh (.cells bs)
 have hA1:ArH ⟨(h.next,.cells bs)::h.tbl,h.next+1⟩ x I:=hA.keep k1
 refine WO.mv rfl (WO.mv rfl (WO.mv rfl (WO.fcall_ex rfl rfl (check_run (n:=n) (a:=a) (k:=k) H hn hA1) ?_)))
 rintro v2 ⟨tb2,nx2⟩ ⟨rfl,k2⟩
 refine WO.mv rfl (WO.nil (zN (WC.seq (WC.ops (WO.mv rfl (WO.neqS rfl rfl (fun _=>?_) (fun he=>?_)))))))
 ·refine WO.nil (WC.cond_true rfl (WC.seq (WC.ops (WO.mv rfl (WO.mv rfl (WO.nil (zN (WC.ret ?_))))))))
  exact⟨_,_,rfl,rfl,rfl,hA1.keep k2⟩
 ·exact absurd (Int.ofNat.inj he) hc
end Go.AI
/- What the arena's functions do upon its parts: a Builder;Bytes. -/
namespace Go.AI
open Go.Proofs
variable {hk:Hook Empty}
structure HkB(hk:Hook Empty):Prop extends HkA hk where
 noesc:hk 148=some noEscapeH
structure Bst(t0:List (Nat×AObj Empty))(B:Nat)(s:List UInt8)(tbl:List (Nat×AObj Empty))(nx:Nat):Prop where
 keep:Keep t0 B tbl nx
 st:(s=[]∧look B tbl=some (.typed 158 [.pointer none,.slice none 0 0])) ∨
  (s≠[]∧∃G,B<G∧look B tbl=some (.typed 158 [.pointer (some ⟨B,0,none⟩),.slice (some ⟨G,0,none⟩) s.length s.length])∧look G tbl=some (.grown 1 5 (byteCells s)))
theorem WO.eqlp{X:Type}{call:CallFn X}{env:List (Nat×Value)}{m:Mem X}{K:List (Nat×Value)→Mem X→Prop}{l:List (Option (Nat×Bool)×IOp)}{d:Nat}{x y:Opd}{b o:Nat}(hx:evo env x=some (.pointer (some ⟨b,o,none⟩)))(hy:evo env y=some (.pointer (some ⟨b,o,none⟩)))
  (k:WO call l ((d,.bool false)::env) m K):WO call ((none,.pure d (.bin .neq .ptr x y))::l) env m K:=by
 refine .pure ?_ k
 have h1:Nat.beq b b=true:=Nat.beq_refl b
 have h2:Nat.beq o o=true:=Nat.beq_refl o
 simp only[peval,hx,hy,binVal,eqVal,h1,h2,cond_true,Option.map,Bool.not_true]
theorem cc_first{n B:Nat}{buf:Value}{h:Hp Empty}(H:HkB hk)(hB:look B h.tbl=some (.typed 158 [.pointer none,buf])) :
  ∃v h',RA (hk:=hk) (n+2) 110 [.pointer (some ⟨B,0,none⟩)] h=some (v,h')∧(h'=⟨upd B (.typed 158 [.pointer (some ⟨B,0,none⟩),buf]) h.tbl,h.next⟩):=by
 refine run_fn (H.none 110 (by decide)) f110 (by simp[i110]) ?_
 dsimp only[i110,argsE]
 refine WC.seq (WC.ops (WO.mv rfl (WO.nilck rfl (WO.fadd rfl (WO.load rfl hB rfl rfl rfl (WO.pure rfl (WO.nil (zN (WC.cond_true rfl (WC.ops ?_))))))))))
 refine WO.mv rfl (WO.mv rfl ?_)
 refine WO.step (i:=.tou 9 158 (.t 8)) (v:=.pointer (some ⟨B,0,none⟩)) (m':=⟨[],h.tbl,h.next⟩) ?_ ?_
 ·have h1:(⟨[],h.tbl,h.next⟩:Mem Empty).get B=some (.typed 158 [.pointer none,buf]):=hB
  have he:evo ((8,Value.pointer (some ⟨B,0,none⟩))::(7,Value.pointer (some ⟨B,0,none⟩))::(6,Value.bool true)::(5,Value.pointer none)::(4,Value.pointer (some ⟨B,0+0,none⟩))::(3,Value.pointer (some ⟨B,0,none⟩))::(2,Value.pointer (some ⟨B,0,none⟩))::[(0,Value.pointer (some ⟨B,0,none⟩))]) (.t 8)=some (.pointer (some ⟨B,0,none⟩)):=rfl
  simp only[estep,mstep]
  first
   |(rw[he];simp only[h1,Nat.beq_refl,cond_true];done)
   |(simp[evo,look,h1])
 refine WO.fcall (kf:=148) rfl rfl (v:=.pointer (some ⟨B,0,none⟩)) (h:=⟨h.tbl,h.next⟩) ?_ ?_
 ·show run FA (fun _=>false) hk (n+1) 148 _ _=_
  rw[run_hook H.noesc];rfl
 refine WO.step (i:=.fromu 11 158 2 (.t 10)) (v:=.pointer (some ⟨B,0,none⟩)) (m':=⟨[],h.tbl,h.next⟩) ?_ ?_
 ·have h1:(⟨[],h.tbl,h.next⟩:Mem Empty).get B=some (.typed 158 [.pointer none,buf]):=hB
  simp[estep,mstep,evo,look,putEnv,h1]
 refine WO.nilck rfl (WO.fadd rfl (WO.store (ob':=.typed 158 [.pointer (some ⟨B,0,none⟩),buf]) rfl rfl rfl rfl hB rfl (by simp) rfl (WO.nil ?_)))
 exact⟨_,_,rfl,rfl,rfl⟩
theorem cc_later{n B:Nat}{buf:Value}{h:Hp Empty}(H:HkB hk)(hB:look B h.tbl=some (.typed 158 [.pointer (some ⟨B,0,none⟩),buf])) :
  ∃v h',RA (hk:=hk) (n+2) 110 [.pointer (some ⟨B,0,none⟩)] h=some (v,h')∧h'=h:=by
 refine run_fn (H.none 110 (by decide)) f110 (by simp[i110]) ?_
 dsimp only[i110,argsE]
 refine WC.seq (WC.ops (WO.mv rfl (WO.nilck rfl (WO.fadd rfl (WO.load rfl hB rfl rfl rfl (WO.pure rfl (WO.nil (zN (WC.cond_false rfl (WC.seq (WC.ops ?_)))))))))))
 refine WO.mv rfl (WO.nilck rfl (WO.fadd rfl (WO.load rfl hB rfl rfl rfl (WO.mv rfl (WO.eqlp rfl rfl (WO.nil (zN (WC.cond_false rfl (WC.skip ?_)))))))))
 exact⟨_,_,rfl,rfl,rfl⟩
theorem seg_len(P:Nat):∀(k off:Nat),(segBytes P off k).length=k
 |0,_=>rfl
 |k+1,off=>by simp only[segBytes,List.length_cons,seg_len P k]
theorem seg_ne{P k off:Nat}(h:0<k):segBytes P off k≠[]:=fun e=>by
 have:=seg_len P k off
 rw[e] at this;simp at this;omega
theorem write_run{n B p off len cp P:Nat}{s:List UInt8}{t0:List (Nat×AObj Empty)}{h:Hp Empty}(H:HkB hk)(hb:Bst t0 B s h.tbl h.next)(hp:look p h.tbl=some (.cells (pageCells P)))(hpB:p<B)(hl0:0<len)(hlen:off+len≤4096)(hs:s.length≤4294967296) :
  ∃v h',RA (hk:=hk) (n+3) 70 [.pointer (some ⟨B,0,none⟩),.slice (some ⟨p,off,some 1⟩) len cp] h=some (v,h')∧Bst t0 B (s++segBytes P off len) h'.tbl h'.next:=by
 obtain⟨hkp,hst⟩:=hb
 have hlm:len*1≠0:=by omega
 refine run_fn (H.none 70 (by decide)) f70 (by simp[i70]) ?_
 dsimp only[i70,argsE]
 refine WC.seq (WC.ops (WO.mv rfl (WO.mv rfl (WO.nil (zN (WC.seq (WC.ops (WO.mv rfl ?_))))))))
 have hsl:=byteCells_len (segBytes P off len)
 rw[seg_len] at hsl
 rcases hst with⟨rfl,hB⟩|⟨hne,G,hG,hB,hGc⟩
 ·refine WO.fcall_ex rfl rfl (cc_first (n:=n) (h:=h) H hB) ?_
  rintro v2 h2 rfl
  have hB2:look B (upd B (.typed 158 [.pointer (some ⟨B,0,none⟩),.slice none 0 0]) h.tbl)=some (.typed 158 [.pointer (some ⟨B,0,none⟩),.slice none 0 0]):=zS hB
  have hp2:look p (upd B (.typed 158 [.pointer (some ⟨B,0,none⟩),.slice none 0 0]) h.tbl)=some (.cells (pageCells P)):=(zU (by omega)).trans hp
  have k2:=hkp.upd (i:=B) (o:=.typed 158 [.pointer (some ⟨B,0,none⟩),.slice none 0 0]) (Nat.le_refl _)
  generalize upd B (.typed 158 [.pointer (some ⟨B,0,none⟩),.slice none 0 0]) h.tbl=tb at hB2 hp2 k2
  refine WO.nil (zN (WC.seq (WC.ops ?_)))
  refine WO.mv rfl (WO.mv rfl (WO.nilck rfl (WO.fadd rfl (WO.load rfl hB2 rfl rfl rfl (WO.mv rfl ?_)))))
  have hsrc:source (⟨[],tb,h.next⟩:Mem Empty) 1 (.slice (some ⟨p,off,some 1⟩) len cp)=some (len,byteCells (segBytes P off len)):=by
   have:=mem_loads (nx:=h.next) (sp:=some 1) (n:=len*1) hp2 rfl (by rw[Nat.mul_one];exact page_bytes P len off hlen) hlm
   simp only[source,this,Option.map]
  refine WO.append rfl rfl (appendM_new hsrc hl0 (by omega)) ?_
  have hBh:B<h.next:=by
   rcases Nat.lt_or_ge B h.next with q|q
   ·exact q
   ·have:=k2.fr B q;rw[hB2] at this;cases this
  have k3:=k2.trans (Keep.new k2.fr (.grown 1 5 (byteCells (segBytes P off len))))
  have hB3:look B ((h.next,.grown 1 5 (byteCells (segBytes P off len)))::tb)=some (.typed 158 [.pointer (some ⟨B,0,none⟩),.slice none 0 0]):=(look_old (by omega)).trans hB2
  refine WO.nilck rfl (WO.fadd rfl (WO.store (ob':=.typed 158 [.pointer (some ⟨B,0,none⟩),.slice (some ⟨h.next,0,none⟩) len len]) rfl rfl rfl rfl hB3 rfl (by simp) rfl (WO.nil (zN (WC.seq (WC.ops ?_))))))
  refine WO.mv rfl (WO.len rfl (WO.mv rfl (WO.mv rfl (WO.nil (zN (WC.ret ?_))))))
  refine⟨_,_,rfl,rfl,k3.upd (Nat.le_refl _),.inr ⟨seg_ne hl0,h.next,hBh,?_,?_⟩⟩
  ·rw[List.nil_append,seg_len];exact zS hB3
  ·rw[List.nil_append];exact(zU (by omega)).trans look_new
 ·refine WO.fcall_ex rfl rfl (cc_later (n:=n) (h:=h) H hB) ?_
  rintro v2 h2 rfl
  refine WO.nil (zN (WC.seq (WC.ops ?_)))
  refine WO.mv rfl (WO.mv rfl (WO.nilck rfl (WO.fadd rfl (WO.load rfl hB rfl rfl rfl (WO.mv rfl ?_)))))
  have hsrc:source (⟨[],h2.tbl,h2.next⟩:Mem Empty) 1 (.slice (some ⟨p,off,some 1⟩) len cp)=some (len,byteCells (segBytes P off len)):=by
   have:=mem_loads (nx:=h2.next) (sp:=some 1) (n:=len*1) hp rfl (by rw[Nat.mul_one];exact page_bytes P len off hlen) hlm
   simp only[source,this,Option.map]
  have hs0:0<s.length:=List.length_pos_iff.2 hne
  have hsl2:=byteCells_len s
  have hld:(⟨[],h2.tbl,h2.next⟩:Mem Empty).loads (some ⟨G,0,none⟩) (s.length*1)=some (byteCells s):=by
   rw[Nat.mul_one]
   refine mem_loads hGc rfl ?_ (by omega)
   have:((byteCells s).drop 0).take s.length=byteCells s:=by rw[List.drop_zero,← hsl2,List.take_length]
   simp only[takeN,this,hsl2,Nat.beq_refl,cond_true]
  refine WO.append rfl rfl (appendM_more hsrc (by omega) hl0 hGc (by omega) hld (by omega)) ?_
  have hGh:G<h2.next:=by
   rcases Nat.lt_or_ge G h2.next with q|q
   ·exact q
   ·have:=hkp.fr G q;rw[hGc] at this;cases this
  have k2:=hkp.del (i:=G) (by omega)
  have k3:=k2.trans (Keep.new k2.fr (.grown 1 5 (byteCells s++byteCells (segBytes P off len))))
  have hB3:look B ((h2.next,.grown 1 5 (byteCells s++byteCells (segBytes P off len)))::del G h2.tbl)=some (.typed 158 [.pointer (some ⟨B,0,none⟩),.slice (some ⟨G,0,none⟩) s.length s.length]):=(look_old (by omega)).trans ((look_del_ne (by omega)).trans hB)
  refine WO.nilck rfl (WO.fadd rfl (WO.store (ob':=.typed 158 [.pointer (some ⟨B,0,none⟩),.slice (some ⟨h2.next,0,none⟩) (s.length+len) (s.length+len)]) rfl rfl rfl rfl hB3 rfl (by simp) rfl (WO.nil (zN (WC.seq (WC.ops ?_))))))
  refine WO.mv rfl (WO.len rfl (WO.mv rfl (WO.mv rfl (WO.nil (zN (WC.ret ?_))))))
  refine⟨_,_,rfl,rfl,k3.upd (Nat.le_refl _),.inr ⟨fun e=>hne (List.append_eq_nil_iff.1 e).1,h2.next,by omega,?_,?_⟩⟩
  ·rw[List.length_append,seg_len];exact zS hB3
  ·rw[byteCells_app];exact(zU (by omega)).trans look_new
theorem wr_run{n B p off len cp P:Nat}{s:List UInt8}{t0:List (Nat×AObj Empty)}{h:Hp Empty}(H:HkB hk)(hb:Bst t0 B s h.tbl h.next)(hp:look p h.tbl=some (.cells (pageCells P)))(hpB:p<B)(hl0:0<len)(hlen:off+len≤4096)(hs:s.length≤4294967296) :
  ∃v h',RA (hk:=hk) (n+4) 69 [.slice (some ⟨p,off,some 1⟩) len cp,.pointer (some ⟨B,0,none⟩)] h=some (v,h')∧Bst t0 B (s++segBytes P off len) h'.tbl h'.next:=by
 refine run_fn (H.none 69 (by decide)) f69 (by simp[i69]) ?_
 dsimp only[i69,argsE]
 refine WC.ops (WO.mv rfl (WO.fcall_ex rfl rfl (write_run (n:=n) (h:=h) H hb hp hpB hl0 hlen hs) ?_))
 rintro v2 h2 hb2
 exact WO.nil ⟨_,_,rfl,rfl,hb2⟩
theorem string_some{n B G:Nat}{ad:Value}{s:List UInt8}{h:Hp Empty}(H:HkB hk)(hB:look B h.tbl=some (.typed 158 [ad,.slice (some ⟨G,0,none⟩) s.length s.length]))(hG:look G h.tbl=some (.grown 1 5 (byteCells s)))(h0:s≠[])(hs:s.length≤4294967296) :
  ∃v h',RA (hk:=hk) (n+1) 71 [.pointer (some ⟨B,0,none⟩)] h=some (v,h')∧(v = .string ⟨⟨s⟩⟩∧h'.tbl=del G h.tbl∧h.next≤h'.next):=by
 have hs0:0<s.length:=List.length_pos_iff.2 h0
 have hld:∀nx,(⟨[],h.tbl,nx⟩:Mem Empty).load ⟨B,0+1,none⟩ 1=some [.slice (some ⟨G,0,none⟩) s.length s.length]:=fun nx=>mem_load hB rfl rfl
 refine run_fn (H.none 71 (by decide)) f71 (by simp[i71]) ?_
 dsimp only[i71,argsE]
 refine WC.seq (WC.ops (WO.mv rfl (WO.nil (zN (WC.seq (WC.drawnW ?_))))))
 refine WD.pure rfl (WD.pure rfl (WD.pure rfl (WD.load rfl (hld _) rfl ?_)))
 refine WD.chn (v:=.pointer (some ⟨G,0,none⟩)) (m':=⟨[],h.tbl,h.next+12⟩) rfl rfl rfl ?_ ?_
 ·have h1:Nat.beq s.length 0=false:=by rw[← Bool.not_eq_true,Nat.beq_eq];omega
  show(bif Nat.beq s.length 0 then none else some (Value.pointer (some ⟨G,0,none⟩),(⟨[],h.tbl,h.next+12⟩:Mem Empty)))=_
  rw[h1];rfl
 refine WD.pure rfl (WD.pure rfl (WD.pure rfl (WD.load rfl (hld _) rfl (WD.pure rfl ?_))))
 refine WD.chn (v:=.string ⟨⟨s⟩⟩) (m':=⟨[],del G h.tbl,h.next+12⟩) rfl rfl rfl ?_ ?_
 ·have h2:(⟨[],h.tbl,h.next+12⟩:Mem Empty).get G=some (.grown 1 5 (byteCells s)):=hG
  have h4:(byteCells s).take s.length=byteCells s:=by
   have:=List.take_length (l:=byteCells s)
   rwa [byteCells_len] at this
  exact estep_ustr (i:=G) (n:=s.length) rfl rfl (by omega) h2 (by omega) (by rw[h4];exact cellBytesX_of s) rfl
 refine WD.pure rfl (WD.nil ⟨?_,_,_,rfl,?_⟩)
 ·have h1:ceqs [Value.slice (some ⟨G,0,none⟩) s.length s.length] [Value.slice (some ⟨G,0,none⟩) s.length s.length]=true:=by
   simp[ceqs,ceq]
  simp only[heldAll,loadsIn,hld,h1]
  rfl
 refine zN (WC.ret ⟨_,_,rfl,rfl,rfl,rfl,?_⟩)
 show h.next≤h.next+12
 omega
theorem string_none{n B:Nat}{ad:Value}{h:Hp Empty}(H:HkB hk)(hB:look B h.tbl=some (.typed 158 [ad,.slice none 0 0])) :
  ∃v h',RA (hk:=hk) (n+1) 71 [.pointer (some ⟨B,0,none⟩)] h=some (v,h')∧(v = .string ⟨⟨[]⟩⟩∧h'.tbl=h.tbl∧h.next≤h'.next):=by
 have hld:∀nx,(⟨[],h.tbl,nx⟩:Mem Empty).load ⟨B,0+1,none⟩ 1=some [.slice none 0 0]:=fun nx=>mem_load hB rfl rfl
 refine run_fn (H.none 71 (by decide)) f71 (by simp[i71]) ?_
 dsimp only[i71,argsE]
 refine WC.seq (WC.ops (WO.mv rfl (WO.nil (zN (WC.seq (WC.drawnW ?_))))))
 refine WD.pure rfl (WD.pure rfl (WD.pure rfl (WD.load rfl (hld _) rfl ?_)))
 refine WD.chn (v:=.pointer none) (m':=⟨[],h.tbl,h.next+12⟩) rfl rfl rfl rfl ?_
 refine WD.pure rfl (WD.pure rfl (WD.pure rfl (WD.load rfl (hld _) rfl (WD.pure rfl ?_))))
 refine WD.chn (v:=.string ⟨⟨[]⟩⟩) (m':=⟨[],h.tbl,h.next+12⟩) rfl rfl rfl rfl ?_
 refine WD.pure rfl (WD.nil ⟨?_,_,_,rfl,?_⟩)
 ·have h1:ceqs [Value.slice none 0 0] [Value.slice none 0 0]=true:=rfl
  simp only[heldAll,loadsIn,hld,h1]
  rfl
 refine zN (WC.ret ⟨_,_,rfl,rfl,rfl,rfl,?_⟩)
 show h.next≤h.next+12
 omega
theorem bytesA_zero:∀(f:Nat) (l:List (Option Nat)) (a:Nat),bytesA l f a 0=[]
 |0,_,_=>rfl
 |_+1,_,_=>rfl
theorem bytesA_step{f a k P:Nat}{l:List (Option Nat)}(hk:0<k)(hP:pgAt l (a / 4096)=some P) :
  bytesA l (f+1) a k=segBytes P (a % 4096) (min k (4096-a % 4096))++bytesA l f (a+min k (4096-a % 4096)) (k-min k (4096-a % 4096)):=by
 have h0:Nat.beq k 0=false:=by rw[← Bool.not_eq_true,Nat.beq_eq];omega
 show(bif Nat.beq k 0 then[] else match pgAt l (a / 4096) with
  |some P=>segBytes P (a % 4096) (min k (4096-a % 4096))++bytesA l f (a+min k (4096-a % 4096)) (k-min k (4096-a % 4096))
  |none=>[])=_
 rw[h0,hP];rfl
def BytesInv(t0:List (Nat×AObj Empty))(B:Nat)(x:Ar)(_a0:Nat)(S:List UInt8)(a k:Nat)(l:List (Option Nat))(tbl:List (Nat×AObj Empty))(nx:Nat):Prop :=
 l=x.pages∧There l a k∧∃s,Bst t0 B s tbl nx∧s.length+k≤4294967296∧∃f,segs a k≤f∧s++bytesA l f a k=S
theorem bytes_run{n:Nat}{x:Ar}{I:ArIds}{a k:Nat}{h:Hp Empty}(H:HkB hk)(hn:4294967297≤n)(hA:ArH h x I)(hc:checkN x.pages a k=0) :
  ∃v h',RA (hk:=hk) (n+6) 45 [.pointer (some ⟨I.A,0,none⟩),.int .i64 (Int.ofNat a),.int .i64 (Int.ofNat k)] h=some (v,h')∧(v = .tuple ⟨[.string ⟨⟨bytesA x.pages (fuelA k) a k⟩⟩,errV 0]⟩∧Keep h.tbl h.next h'.tbl h'.next):=by
 have hth:=check_there hc
 have hcap:=hA.at_.cap
 refine run_fn (H.none 45 (by decide)) f45 (by simp[i45]) ?_
 dsimp only[i45,argsE]
 refine WC.seq (WC.ops (WO.mv rfl (WO.mv rfl (WO.nil (zN (WC.seq (WC.seq (WC.ops ?_))))))))
 refine WO.mv rfl (WO.mv rfl (WO.mv rfl (WO.fcall_ex rfl rfl (check_run (n:=n+2) (a:=Int.ofNat a) (k:=Int.ofNat k) (h:=h) H.toHkA (by omega) hA) ?_)))
 rintro v2 h2 ⟨rfl,k2⟩
 have hA2:ArH h2 x I:=hA.keep k2
 refine WO.mv rfl (WO.nil (zN (WC.seq (WC.ops (WO.mv rfl (WO.neqS rfl rfl (fun hne=>?_) (fun _=>?_)))))))
 ·exact absurd (by show Int.ofNat (checkN x.pages a k)=Int.ofNat 0;rw[hc]) hne
 ·refine WO.nil (WC.cond_false rfl (WC.skip (zN (WC.seq (WC.ops (WO.newt (WO.nil (zN (WC.seq (WC.ops ?_))))))))))
  have k3:=Keep.new k2.fr (.typed 158 [.pointer none,.slice none 0 0])
  have hA3:∀tbl nx,Keep h2.tbl h2.next tbl nx→ArH ⟨tbl,nx⟩ x I:=fun tbl nx hk=>hA2.keep (h':=⟨tbl,nx⟩) hk
  have q1:∀a1 k1 l tbl nx,BytesInv h2.tbl h2.next x a (bytesA x.pages (fuelA k) a k) a1 k1 l tbl nx→ArH ⟨tbl,nx⟩ ⟨l,x.armed,x.refuse⟩ I:=by
   rintro a1 k1 l tbl nx ⟨rfl,_,s,hb,_⟩
   exact hA3 tbl nx hb.keep
  have q2:∀a1 k1 l tbl nx,BytesInv h2.tbl h2.next x a (bytesA x.pages (fuelA k) a k) a1 k1 l tbl nx→0<k1→∃P,pgAt l (a1 / 4096)=some P:=by
   rintro a1 k1 l tbl nx ⟨rfl,hth,_⟩ hk
   exact hth.2 hk _ (Nat.le_refl _) (Nat.div_le_div_right (by omega))
  have q3:∀a1 k1 l tbl nx P,BytesInv h2.tbl h2.next x a (bytesA x.pages (fuelA k) a k) a1 k1 l tbl nx→0<k1→pgAt l (a1 / 4096)=some P→∃v h',RA (hk:=hk) (n+4) 69 ([.slice (some ⟨I.pid (a1 / 4096),a1 % 4096,some 1⟩) (min k1 (4096-a1 % 4096)) (4096-a1 % 4096)]++[.pointer (some ⟨h2.next,0,none⟩)]) ⟨tbl,nx⟩=some (v,h')∧∃l',BytesInv h2.tbl h2.next x a (bytesA x.pages (fuelA k) a k) (a1+min k1 (4096-a1 % 4096)) (k1-min k1 (4096-a1 % 4096)) l' h'.tbl h'.next:=by
   rintro a1 k1 l tbl nx P ⟨rfl,hth,s,hb,hsl,f,hf,hfa⟩ hk hP
   have hseg:=segs_step (a:=a1) hk
   obtain⟨f',rfl⟩:∃f',f=f'+1:=⟨f-1,by omega⟩
   have hm:min k1 (4096-a1 % 4096)≤k1:=Nat.min_le_left _ _
   have hm2:min k1 (4096-a1 % 4096)≤4096-a1 % 4096:=Nat.min_le_right _ _
   have hmod:a1 % 4096<4096:=Nat.mod_lt _ (by decide)
   have hm3:0<min k1 (4096-a1 % 4096):=by omega
   have hPg:=(pgAt_get _ _ _).1 hP
   have hpc:look (I.pid (a1 / 4096)) tbl=some (.cells (pageCells P)):=(hA3 tbl nx hb.keep).at_.page _ _ hPg
   have hplt:I.pid (a1 / 4096)<h2.next:=hA2.ltP hPg
   obtain⟨v,h',h1,hb'⟩:=wr_run (n:=n) (cp:=4096-a1 % 4096) (off:=a1 % 4096) (len:=min k1 (4096-a1 % 4096)) (h:=⟨tbl,nx⟩) H hb hpc hplt hm3 (by omega) (by omega)
   refine⟨v,h',h1,x.pages,rfl,hth.step hm,_,hb',?_,f',by omega,?_⟩
   ·rw[List.length_append,seg_len];omega
   ·rw[List.append_assoc,← bytesA_step hk hP];exact hfa
  have hea:=each_run (n:=n+3) (f:=69) (I:=I) (arm:=x.armed) (ref:=x.refuse) (caps:=[.pointer (some ⟨h2.next,0,none⟩)]) (a:=a) (k:=k) (l:=x.pages) (h:=⟨(h2.next,.typed 158 [.pointer none,.slice none 0 0])::h2.tbl,h2.next+1⟩) H.toHkA (by omega)
   (BytesInv h2.tbl h2.next x a (bytesA x.pages (fuelA k) a k)) q1 q2 q3 ⟨rfl,hth,[],⟨k3,.inl ⟨rfl,look_new⟩⟩,by have:=hth.1;simp only[List.length_nil];omega,fuelA k,segs_le a k,rfl⟩ (by have:=hth.1;omega) (by have:=hth.1;omega)
  refine WO.mv rfl (WO.mv rfl (WO.mv rfl (WO.pure rfl (WO.fcall_ex rfl rfl hea ?_))))
  rintro v3 h3 ⟨rfl,a',l',rfl,_,s,hb,hsl,f,_,hS⟩
  rw[bytesA_zero,List.append_nil] at hS
  subst hS
  refine WO.nil (zN (WC.seq (WC.ops ?_)))
  rcases hb.st with⟨hs0,hB⟩|⟨hs0,G,hG,hB,hGc⟩
  ·refine WO.fcall_ex rfl rfl (string_none (n:=n+4) (h:=h3) H hB) ?_
   rintro v4 h4 ⟨rfl,ht4,hn4⟩
   refine WO.mv rfl (WO.mv rfl (WO.nil (zN (WC.ret ⟨_,_,rfl,rfl,?_,?_⟩))))
   ·rw[hs0];rfl
   ·have:Keep h2.tbl h2.next h4.tbl h4.next:=by
     rw[ht4];exact⟨fun k hk=>hb.keep.fr k (by omega),by have:=hb.keep.le;omega,hb.keep.same⟩
    exact k2.trans this
  ·refine WO.fcall_ex rfl rfl (string_some (n:=n+4) (h:=h3) H hB hGc hs0 (by omega)) ?_
   rintro v4 h4 ⟨rfl,ht4,hn4⟩
   refine WO.mv rfl (WO.mv rfl (WO.nil (zN (WC.ret ⟨_,_,rfl,rfl,rfl,?_⟩))))
   have hk4:=hb.keep.del (i:=G) (by omega)
   have:Keep h2.tbl h2.next h4.tbl h4.next:=by
    rw[ht4];exact⟨fun k hk=>hk4.fr k (by omega),by have:=hk4.le;omega,hk4.same⟩
   exact k2.trans this
theorem bytes_no{n:Nat}{x:Ar}{I:ArIds}{a k:Int}{h:Hp Empty}(H:HkB hk)(hn:1048576≤n)(hA:ArH h x I)(hc:checkA x.pages a k≠0) :
  ∃v h',RA (hk:=hk) (n+4) 45 [.pointer (some ⟨I.A,0,none⟩),.int .i64 a,.int .i64 k] h=some (v,h')∧(v = .tuple ⟨[.string ⟨⟨[]⟩⟩,errV (checkA x.pages a k)]⟩∧Keep h.tbl h.next h'.tbl h'.next):=by
 refine run_fn (H.none 45 (by decide)) f45 (by simp[i45]) ?_
 dsimp only[i45,argsE]
 refine WC.seq (WC.ops (WO.mv rfl (WO.mv rfl (WO.nil (zN (WC.seq (WC.seq (WC.ops ?_))))))))
 refine WO.mv rfl (WO.mv rfl (WO.mv rfl (WO.fcall_ex rfl rfl (check_run (n:=n) (a:=a) (k:=k) (h:=h) H.toHkA hn hA) ?_)))
 rintro v2 h2 ⟨rfl,k2⟩
 refine WO.mv rfl (WO.nil (zN (WC.seq (WC.ops (WO.mv rfl (WO.neqS rfl rfl (fun _=>?_) (fun he=>?_)))))))
 ·refine WO.nil (WC.cond_true rfl (WC.seq (WC.ops (WO.mv rfl (WO.mv rfl (WO.mv rfl (WO.nil (zN (WC.ret ?_)))))))))
  exact⟨_,_,rfl,rfl,rfl,k2⟩
 ·exact absurd (Int.ofNat.inj he) hc
end Go.AI
/- What the arena's functions do upon its parts: Put;Copy. -/
namespace Go.AI
open Go.Proofs
variable {hk:Hook Empty}
theorem ArH.upd{h:Hp Empty}{x:Ar}{I:ArIds}{B:Nat}{o:AObj Empty}(H:ArH h x I)(h1:I.A<B)(h2:I.Pg<B)(h3:I.W<B)(h4:∀i P,x.pages[i]? = some (some P)→I.pid i<B):ArH ⟨AI.upd B o h.tbl,h.next⟩ x I where
 fresh:=H.fresh.upd
 at_:=by
  have hold:∀j,j<B→look j (AI.upd B o h.tbl)=look j h.tbl:=fun j hj=>zU (by omega)
  exact⟨(hold _ h1).trans H.at_.top,(hold _ h2).trans H.at_.row,by
   obtain⟨ob,q1,q2⟩:=H.at_.wds
   exact⟨ob,(hold _ h3).trans q1,q2⟩,fun i P hp=>(hold _ (h4 i P hp)).trans (H.at_.page i P hp),H.at_.inj,H.at_.dA,H.at_.dP,H.at_.cap,H.at_.ref⟩
theorem putA_nil:∀(f:Nat) (l:List (Option Nat)) (a:Nat),putA f l a []=l
 |0,_,_=>rfl
 |_+1,_,_=>rfl
theorem putA_step{f a P:Nat}{l:List (Option Nat)}{s:List UInt8}(hk:0<s.length)(hP:pgAt l (a / 4096)=some P) :
  putA (f+1) l a s=putA f (setPg l (a / 4096) (some (setBytes P (a % 4096) (min s.length (4096-a % 4096)) (numOf (s.take (min s.length (4096-a % 4096))))))) (a+min s.length (4096-a % 4096)) (s.drop (min s.length (4096-a % 4096))):=by
 have h0:Nat.beq s.length 0=false:=by rw[← Bool.not_eq_true,Nat.beq_eq];omega
 show(bif Nat.beq s.length 0 then l else match pgAt l (a / 4096) with
  |some P=>putA f (setPg l (a / 4096) (some (setBytes P (a % 4096) (min s.length (4096-a % 4096)) (numOf (s.take (min s.length (4096-a % 4096))))))) (a+min s.length (4096-a % 4096)) (s.drop (min s.length (4096-a % 4096)))
  |none=>l)=_
 rw[h0,hP];rfl
theorem put1_run{n B p off len cp P:Nat}{s:List UInt8}{h:Hp Empty}(H:HkA hk)(hp:look p h.tbl=some (.cells (pageCells P)))(hB:look B h.tbl=some (.cells [.string ⟨⟨s⟩⟩]))(hpB:p≠B)(hl0:0<len)(hls:len≤s.length)(hlen:off+len≤4096) :
  ∃v h',RA (hk:=hk) (n+1) 208 [.slice (some ⟨p,off,some 1⟩) len cp,.pointer (some ⟨B,0,none⟩)] h=some (v,h') ∧
   (h'.tbl=upd B (.cells [.string ⟨⟨s.drop len⟩⟩]) (upd p (.cells (pageCells (setBytes P off len (numOf (s.take len))))) h.tbl)∧h.next≤h'.next):=by
 have htl:(s.take len).length=len:=by rw[List.length_take];omega
 refine run_fn (H.none 208 (by decide)) f208 (by simp[i208]) ?_
 dsimp only[i208,argsE]
 refine WC.drawnW ?_
 have hld0:∀nx,(⟨[],h.tbl,nx⟩:Mem Empty).load ⟨B,0,none⟩ 1=some [.string ⟨⟨s⟩⟩]:=fun nx=>mem_load hB rfl rfl
 have hB1:look B (upd p (.cells (pageCells (setBytes P off len (numOf (s.take len))))) h.tbl)=some (.cells [.string ⟨⟨s⟩⟩]):=(zU (Ne.symm hpB)).trans hB
 have hld1:∀nx,(⟨[],upd p (.cells (pageCells (setBytes P off len (numOf (s.take len))))) h.tbl,nx⟩:Mem Empty).load ⟨B,0,none⟩ 1=some [.string ⟨⟨s⟩⟩]:=fun nx=>mem_load hB1 rfl rfl
 refine WD.load rfl (hld0 _) rfl (WD.pure rfl (WD.load rfl (hld0 _) rfl ?_))
 refine WD.chn (v:=.int .i64 (Int.ofNat len)) (m':=⟨[],upd p (.cells (pageCells (setBytes P off len (numOf (s.take len))))) h.tbl,h.next+6⟩) rfl rfl rfl ?_ ?_
 ·have h1:(byteCells (s.take len)).length=len:=by rw[byteCells_len,htl]
  have h2:Nat.beq len 0=false:=by rw[← Bool.not_eq_true,Nat.beq_eq];omega
  have h3:(⟨[],h.tbl,h.next+6⟩:Mem Empty).store ⟨p,off,none⟩ (byteCells (s.take len))=some ⟨[],upd p (.cells (pageCells (setBytes P off len (numOf (s.take len))))) h.tbl,h.next+6⟩:=by
   refine mem_store hp rfl (by rw[h1,page_len];exact hlen) ?_
   show some (AObj.cells (splice (pageCells P) off (byteCells (s.take len))))=_
   have:=page_put (P:=P) (off:=off) (s:=s.take len) (by rw[htl];exact hlen)
   rw[htl] at this
   rw[this]
  have h4:Nat.min s.length len=len:=Nat.min_eq_right hls
  refine Eq.trans (estep_copys (dl:=len) (s:=s) rfl rfl (by rw[h1];omega) h3) ?_
  rw[h4]
 refine WD.pure (v:=.string ⟨⟨s.drop len⟩⟩) ?_ ?_
 ·have h1:Nat.ble s.length s.length=true:=by rw[Nat.ble_eq];exact Nat.le_refl _
  have h2:Nat.ble len s.length=true:=by rw[Nat.ble_eq];exact hls
  have h3:(s.drop len).take (s.length-len)=s.drop len:=by
   rw[← List.length_drop,List.take_length]
  show(match bounds s.length s.length (some (.int .i64 (Int.ofNat len))) none none with
   |some (l,h,_)=>some (Value.string ⟨⟨(s.drop l).take (h-l)⟩⟩)
   |none=>none)=_
  simp only[bounds,natOpt,natOf,h1,h2,Bool.and_self,Option.isNone,Option.isSome,Bool.or_true,cond_true,h3]
 refine WD.chn (v:=undef) (m':=⟨[],upd B (.cells [.string ⟨⟨s.drop len⟩⟩]) (upd p (.cells (pageCells (setBytes P off len (numOf (s.take len))))) h.tbl),h.next+6⟩) rfl rfl rfl ?_ (WD.nil ⟨?_,_,_,rfl,?_⟩)
 ·have h3:(⟨[],upd p (.cells (pageCells (setBytes P off len (numOf (s.take len))))) h.tbl,h.next+6⟩:Mem Empty).store ⟨B,0,none⟩ [.string ⟨⟨s.drop len⟩⟩]=some ⟨[],upd B (.cells [.string ⟨⟨s.drop len⟩⟩]) (upd p (.cells (pageCells (setBytes P off len (numOf (s.take len))))) h.tbl),h.next+6⟩ :=
   mem_store hB1 rfl (by simp) rfl
  exact estep_store rfl rfl rfl rfl h3
 ·have h1:ceqs [Value.string ⟨⟨s⟩⟩] [Value.string ⟨⟨s⟩⟩]=true:=by
   show(bytesEq s s&&true)=true
   rw[bytesEq_refl];rfl
  simp only[heldAll,loadsIn,hld0,hld1,h1]
  rfl
 refine⟨_,_,rfl,rfl,rfl,?_⟩
 show h.next≤h.next+6
 omega
structure PutInv(I:ArIds)(arm:Bool)(ref B:Nat)(L:List (Option Nat))(a k:Nat)(l:List (Option Nat))(tbl:List (Nat×AObj Empty))(nx:Nat):Prop where
 ar:ArH ⟨tbl,nx⟩ ⟨l,arm,ref⟩ I
 lt:I.A<B∧I.Pg<B∧I.W<B
 ne:∀i P,pgAt l i=some P→I.pid i<B
 th:There l a k
 st:∃s f,look B tbl=some (.cells [.string ⟨⟨s⟩⟩])∧s.length=k∧segs a k≤f∧putA f l a s=L
theorem put_call{n:Nat}{I:ArIds}{arm:Bool}{ref B:Nat}{L:List (Option Nat)}(H:HkA hk)(a k:Nat)(l:List (Option Nat))(tbl:List (Nat×AObj Empty))(nx P:Nat)(hI:PutInv I arm ref B L a k l tbl nx)(hk0:0<k)(hP:pgAt l (a / 4096)=some P) :
  ∃v h',RA (hk:=hk) (n+1) 208 ([.slice (some ⟨I.pid (a / 4096),a % 4096,some 1⟩) (min k (4096-a % 4096)) (4096-a % 4096)]++[.pointer (some ⟨B,0,none⟩)]) ⟨tbl,nx⟩=some (v,h')∧∃l',PutInv I arm ref B L (a+min k (4096-a % 4096)) (k-min k (4096-a % 4096)) l' h'.tbl h'.next:=by
 obtain⟨hAr,⟨l1,l2,l3⟩,hne,hth,s,f,hB,rfl,hf,hfa⟩:=hI
 have hseg:=segs_step (a:=a) hk0
 obtain⟨f',rfl⟩:∃f',f=f'+1:=⟨f-1,by omega⟩
 have hm:min s.length (4096-a % 4096)≤s.length:=Nat.min_le_left _ _
 have hm2:min s.length (4096-a % 4096)≤4096-a % 4096:=Nat.min_le_right _ _
 have hmod:a % 4096<4096:=Nat.mod_lt _ (by decide)
 have hPg:=(pgAt_get _ _ _).1 hP
 have hpc:look (I.pid (a / 4096)) tbl=some (.cells (pageCells P)):=hAr.at_.page _ _ hPg
 obtain⟨v,h',h1,h2,h3⟩:=put1_run (n:=n) (cp:=4096-a % 4096) (off:=a % 4096) (len:=min s.length (4096-a % 4096)) (h:=⟨tbl,nx⟩) H hpc hB (Nat.ne_of_lt (hne _ _ hP)) (by omega) hm (by omega)
 refine⟨v,h',h1,setPg l (a / 4096) (some (setBytes P (a % 4096) (min s.length (4096-a % 4096)) (numOf (s.take (min s.length (4096-a % 4096)))))),?_⟩
 have hS:=hAr.setPage (P':=setBytes P (a % 4096) (min s.length (4096-a % 4096)) (numOf (s.take (min s.length (4096-a % 4096))))) hP
 have hne':∀i Q,pgAt (setPg l (a / 4096) (some (setBytes P (a % 4096) (min s.length (4096-a % 4096)) (numOf (s.take (min s.length (4096-a % 4096))))))) i=some Q→I.pid i<B:=fun i Q hi=>by
  obtain⟨P2,hP2⟩:=pgAt_set hP hi
  exact hne _ _ hP2
 have hU:=hS.upd (o:=.cells [.string ⟨⟨s.drop (min s.length (4096-a % 4096))⟩⟩]) l1 l2 l3 fun i Q hi=>hne' i Q ((pgAt_get _ _ _).2 hi)
 refine⟨hU.congr (h':=h') (fun k=>by rw[h2]) h3,⟨l1,l2,l3⟩,hne',hth.set.step hm,s.drop (min s.length (4096-a % 4096)),f',?_,List.length_drop,by omega,?_⟩
 ·rw[h2]
  exact zS ((zU (Ne.symm (Nat.ne_of_lt (hne _ _ hP)))).trans hB)
 ·rw[← putA_step hk0 hP];exact hfa
theorem put_run{n:Nat}{x:Ar}{I:ArIds}{a:Nat}{s:List UInt8}{h:Hp Empty}(H:HkA hk)(hn:4294967297≤n)(hA:ArH h x I)(hc:checkN x.pages a s.length=0) :
  ∃v h',RA (hk:=hk) (n+4) 174 [.pointer (some ⟨I.A,0,none⟩),.int .i64 (Int.ofNat a),.string ⟨⟨s⟩⟩] h=some (v,h')∧(v=errV 0∧ArH h' ⟨putA (fuelA s.length) x.pages a s,x.armed,x.refuse⟩ I):=by
 have hth:=check_there hc
 have hcap:=hA.at_.cap
 refine run_fn (H.none 174 (by decide)) f174 (by simp[i174]) ?_
 dsimp only[i174,argsE]
 refine WC.seq (WC.ops (WO.box rfl rfl (WO.mv rfl (WO.nil (zN (WC.seq (WC.seq (WC.ops ?_))))))))
 have k1:=Keep.new hA.fresh (.cells [.string ⟨⟨s⟩⟩])
 have hA1:ArH ⟨(h.next,.cells [.string ⟨⟨s⟩⟩])::h.tbl,h.next+1⟩ x I:=hA.keep k1
 refine WO.mv rfl (WO.mv rfl (WO.load rfl look_new rfl rfl rfl (WO.lens rfl (WO.fcall_ex rfl rfl (check_run (n:=n) (a:=Int.ofNat a) (k:=Int.ofNat s.length) H (by omega) hA1) ?_))))
 rintro v2 ⟨tb2,nx2⟩ ⟨rfl,k2⟩
 have hA2:ArH ⟨tb2,nx2⟩ x I:=hA1.keep k2
 have hB2:look h.next tb2=some (.cells [.string ⟨⟨s⟩⟩]):=(k2.same h.next (by show h.next<h.next+1;omega)).trans look_new
 refine WO.mv rfl (WO.nil (zN (WC.seq (WC.ops (WO.mv rfl (WO.neqS rfl rfl (fun hne=>?_) (fun _=>?_)))))))
 ·exact absurd (by show Int.ofNat (checkN x.pages a s.length)=Int.ofNat 0;rw[hc]) hne
 ·refine WO.nil (WC.cond_false rfl (WC.skip (zN (WC.seq (WC.ops ?_)))))
  have hea:=each_run (n:=n+1) (f:=208) (I:=I) (arm:=x.armed) (ref:=x.refuse) (caps:=[.pointer (some ⟨h.next,0,none⟩)]) (a:=a) (k:=s.length) (l:=x.pages) (h:=⟨tb2,nx2⟩) H (by omega)
   (PutInv I x.armed x.refuse h.next (putA (fuelA s.length) x.pages a s)) (fun a k l tbl nx hI=>hI.ar) (fun a k l tbl nx hI hk=>hI.th.2 hk _ (Nat.le_refl _) (Nat.div_le_div_right (by omega)))
   (fun a k l tbl nx P hI hk hP=>put_call H a k l tbl nx P hI hk hP)
   ⟨hA2,⟨hA.ltA,hA.ltPg,hA.ltW⟩,fun i P hi=>hA.ltP ((pgAt_get _ _ _).1 hi),hth,s,fuelA s.length,hB2,rfl,segs_le a s.length,rfl⟩ (by have:=hth.1;omega) (by have:=hth.1;omega)
  refine WO.mv rfl (WO.mv rfl (WO.load rfl hB2 rfl rfl rfl (WO.lens rfl (WO.pure rfl (WO.fcall_ex rfl rfl hea ?_)))))
  rintro v3 ⟨tb3,nx3⟩ ⟨rfl,a',l',hA3,_,_,_,s',f,_,hs',_,hL⟩
  rw[List.eq_nil_of_length_eq_zero hs',putA_nil] at hL
  subst hL
  refine WO.nil (zN (WC.seq (WC.ops (WO.mv rfl (WO.nil (zN (WC.ret ?_)))))))
  exact⟨_,_,rfl,rfl,rfl,hA3⟩
theorem put_no{n:Nat}{x:Ar}{I:ArIds}{a:Int}{s:List UInt8}{h:Hp Empty}(H:HkA hk)(hn:1048576≤n)(hA:ArH h x I)(hc:checkA x.pages a (Int.ofNat s.length)≠0) :
  ∃v h',RA (hk:=hk) (n+4) 174 [.pointer (some ⟨I.A,0,none⟩),.int .i64 a,.string ⟨⟨s⟩⟩] h=some (v,h')∧(v=errV (checkA x.pages a (Int.ofNat s.length))∧ArH h' x I):=by
 refine run_fn (H.none 174 (by decide)) f174 (by simp[i174]) ?_
 dsimp only[i174,argsE]
 refine WC.seq (WC.ops (WO.box rfl rfl (WO.mv rfl (WO.nil (zN (WC.seq (WC.seq (WC.ops ?_))))))))
 have k1:=Keep.new hA.fresh (.cells [.string ⟨⟨s⟩⟩])
 have hA1:ArH ⟨(h.next,.cells [.string ⟨⟨s⟩⟩])::h.tbl,h.next+1⟩ x I:=hA.keep k1
 refine WO.mv rfl (WO.mv rfl (WO.load rfl look_new rfl rfl rfl (WO.lens rfl (WO.fcall_ex rfl rfl (check_run (n:=n) (a:=a) (k:=Int.ofNat s.length) H hn hA1) ?_))))
 rintro v2 ⟨tb2,nx2⟩ ⟨rfl,k2⟩
 refine WO.mv rfl (WO.nil (zN (WC.seq (WC.ops (WO.mv rfl (WO.neqS rfl rfl (fun _=>?_) (fun he=>?_)))))))
 ·refine WO.nil (WC.cond_true rfl (WC.seq (WC.ops (WO.mv rfl (WO.mv rfl (WO.nil (zN (WC.ret ?_))))))))
  exact⟨_,_,rfl,rfl,rfl,hA1.keep k2⟩
 ·exact absurd (Int.ofNat.inj he) hc
theorem bytesA_len{l:List (Option Nat)}:∀(f a k:Nat),There l a k→segs a k≤f→(bytesA l f a k).length=k
 |0,a,k,_,h=>by
  have:k=0:=by
   rcases Nat.eq_zero_or_pos k with h0|h0
   ·exact h0
   ·have:=segs_step (a:=a) h0;omega
  subst this;rfl
 |f+1,a,k,hth,h=>by
  rcases Nat.eq_zero_or_pos k with h0|h0
  ·subst h0;rfl
  ·obtain⟨P,hP⟩:=hth.2 h0 _ (Nat.le_refl _) (Nat.div_le_div_right (by omega))
   have hm:min k (4096-a % 4096)≤k:=Nat.min_le_left _ _
   have hseg:=segs_step (a:=a) h0
   rw[bytesA_step h0 hP,List.length_append,seg_len,bytesA_len f _ _ (hth.step hm) (by omega)]
   omega
end Go.AI
/- What the arena's functions do upon its parts: each method as its function says;Load, Store, Copy, Cap. -/
namespace Go.AI
open Go.Proofs
variable {hk:Hook Empty}
theorem checkA_vals(l:List (Option Nat))(a k:Int):checkA l a k=0∨checkA l a k=3:=by
 unfold checkA
 split
 ·exact check_vals _ _ _
 ·exact .inr rfl
theorem bytes_m{n:Nat}{x x':Ar}{I:ArIds}{args:List Value}{v:Value}{h:Hp Empty}(H:HkB hk)(hn:4294967297≤n)(hA:ArH h x I)(hs:bytesS x args=some (v,x')) :
  ∃h',RA (hk:=hk) (n+6) 45 (.pointer (some ⟨I.A,0,none⟩)::args) h=some (v,h')∧x'=x∧Keep h.tbl h.next h'.tbl h'.next:=by
 unfold bytesS at hs
 split at hs
 ·rename_i a k
  have hno:∀a k:Int,checkA x.pages a k≠0→∃h',RA (hk:=hk) (n+6) 45 [.pointer (some ⟨I.A,0,none⟩),.int .i64 a,.int .i64 k] h=some (.tuple ⟨[.string ⟨⟨[]⟩⟩,errV 3]⟩,h')∧Keep h.tbl h.next h'.tbl h'.next:=by
   intro a k hc
   obtain⟨v,h',h1,rfl,h3⟩:=bytes_no (n:=n+2) H (by omega) hA hc
   have:checkA x.pages a k=3:=(checkA_vals _ _ _).resolve_left hc
   rw[this] at h1
   exact⟨h',h1,h3⟩
  split at hs
  ·rename_i a' k'
   split at hs
   ·rename_i hc
    simp only[zI,Prod.mk.injEq] at hs
    obtain⟨rfl,rfl⟩:=hs
    obtain⟨v,h',h1,rfl,h3⟩:=bytes_run H hn hA hc
    exact⟨h',h1,rfl,h3⟩
   ·rename_i m hc
    simp only[zI,Prod.mk.injEq] at hs
    obtain⟨rfl,rfl⟩:=hs
    obtain⟨h',h1,h3⟩:=hno (.ofNat a') (.ofNat k') (by show checkN x.pages a' k'≠0;rw[hc];exact Nat.succ_ne_zero _)
    exact⟨h',h1,rfl,h3⟩
  ·rename_i hne
   simp only[zI,Prod.mk.injEq] at hs
   obtain⟨rfl,rfl⟩:=hs
   obtain⟨h',h1,h3⟩:=hno a k (by
    cases a with
    |negSucc a=>exact fun h=>by cases h
    |ofNat a=>cases k with
     |negSucc k=>exact fun h=>by cases h
     |ofNat k=>exact(hne _ _ rfl rfl).elim)
   exact⟨h',h1,rfl,h3⟩
 ·cases hs
theorem put_m{n:Nat}{x x':Ar}{I:ArIds}{args:List Value}{v:Value}{h:Hp Empty}(H:HkA hk)(hn:4294967297≤n)(hA:ArH h x I)(hs:putS x args=some (v,x')) :
  ∃h',RA (hk:=hk) (n+4) 174 (.pointer (some ⟨I.A,0,none⟩)::args) h=some (v,h')∧ArH h' x' I:=by
 unfold putS at hs
 split at hs
 ·rename_i a s
  obtain⟨⟨s⟩⟩:=s
  have hno:∀a:Int,checkA x.pages a (Int.ofNat s.length)≠0→∃h',RA (hk:=hk) (n+4) 174 [.pointer (some ⟨I.A,0,none⟩),.int .i64 a,.string ⟨⟨s⟩⟩] h=some (errV 3,h')∧ArH h' x I:=by
   intro a hc
   obtain⟨v,h',h1,rfl,h3⟩:=put_no (n:=n) H (by omega) hA hc
   have:checkA x.pages a (Int.ofNat s.length)=3:=(checkA_vals _ _ _).resolve_left hc
   rw[this] at h1
   exact⟨h',h1,h3⟩
  split at hs
  ·rename_i a'
   split at hs
   ·rename_i hc
    simp only[zI,Prod.mk.injEq] at hs
    obtain⟨rfl,rfl⟩:=hs
    obtain⟨v,h',h1,rfl,h3⟩:=put_run H hn hA hc
    exact⟨h',h1,h3⟩
   ·rename_i m hc
    simp only[zI,Prod.mk.injEq] at hs
    obtain⟨rfl,rfl⟩:=hs
    exact hno (.ofNat a') (by
     show checkN x.pages a' s.length≠0
     have hc':checkN x.pages a' s.length=m.succ:=hc
     rw[hc'];exact Nat.succ_ne_zero _)
  ·rename_i hne
   simp only[zI,Prod.mk.injEq] at hs
   obtain⟨rfl,rfl⟩:=hs
   exact hno a (by
    cases a with
    |negSucc a=>exact fun h=>by cases h
    |ofNat a=>exact(hne _ rfl).elim)
 ·cases hs
theorem fill_m{n:Nat}{x x':Ar}{I:ArIds}{args:List Value}{v:Value}{h:Hp Empty}(H:HkA hk)(hn:4294967297≤n)(hA:ArH h x I)(hs:fillS x args=some (v,x')) :
  ∃h',RA (hk:=hk) (n+4) 111 (.pointer (some ⟨I.A,0,none⟩)::args) h=some (v,h')∧ArH h' x' I:=by
 unfold fillS at hs
 split at hs
 ·rename_i a k b
  cases hb:Nat.blt b 256 with
  |false=>rw[hb] at hs;cases hs
  |true =>
   rw[hb,cond_true] at hs
   have hb':b<256:=by rw[blt_iff] at hb;exact of_decide_eq_true hb
   have hno:∀a k:Int,checkA x.pages a k≠0→∃h',RA (hk:=hk) (n+4) 111 [.pointer (some ⟨I.A,0,none⟩),.int .i64 a,.int .i64 k,.int .u8 (Int.ofNat b)] h=some (errV 3,h')∧ArH h' x I:=by
    intro a k hc
    obtain⟨v,h',h1,rfl,h3⟩:=fill_no (n:=n) (b:=.int .u8 (Int.ofNat b)) H (by omega) hA rfl hc
    have:checkA x.pages a k=3:=(checkA_vals _ _ _).resolve_left hc
    rw[this] at h1
    exact⟨h',h1,h3⟩
   split at hs
   ·rename_i a' k'
    split at hs
    ·rename_i hc
     simp only[zI,Prod.mk.injEq] at hs
     obtain⟨rfl,rfl⟩:=hs
     obtain⟨v,h',h1,rfl,h3⟩:=fill_run H hn hb' hA hc
     exact⟨h',h1,h3⟩
    ·rename_i m hc
     simp only[zI,Prod.mk.injEq] at hs
     obtain⟨rfl,rfl⟩:=hs
     exact hno (.ofNat a') (.ofNat k') (by show checkN x.pages a' k'≠0;rw[hc];exact Nat.succ_ne_zero _)
   ·rename_i hne
    simp only[zI,Prod.mk.injEq] at hs
    obtain⟨rfl,rfl⟩:=hs
    exact hno a k (by
     cases a with
     |negSucc a=>exact fun h=>by cases h
     |ofNat a=>cases k with
      |negSucc k=>exact fun h=>by cases h
      |ofNat k=>exact(hne _ _ rfl rfl).elim)
 ·cases hs
theorem copy_m{n:Nat}{x x':Ar}{I:ArIds}{args:List Value}{v:Value}{h:Hp Empty}(H:HkB hk)(hn:4294967297≤n)(hA:ArH h x I)(hs:copyS x args=some (v,x')) :
  ∃h',RA (hk:=hk) (n+7) 278 (.pointer (some ⟨I.A,0,none⟩)::args) h=some (v,h')∧ArH h' x' I:=by
 unfold copyS at hs
 split at hs
 ·rename_i to fr k
  split at hs
  ·rename_i s e x2 hb
   have hx2:∃h2,RA (hk:=hk) (n+6) 45 [.pointer (some ⟨I.A,0,none⟩),.int .i64 fr,.int .i64 k] h=some (.tuple ⟨[.string s,.int .i64 (.ofNat e)]⟩,h2)∧x2=x∧Keep h.tbl h.next h2.tbl h2.next:=bytes_m H hn hA hb
   obtain⟨h2,h1,rfl,k2⟩:=hx2
   have hA2:=hA.keep k2
   suffices hsuf:∃w h',RA (hk:=hk) (n+7) 278 [.pointer (some ⟨I.A,0,none⟩),.int .i64 to,.int .i64 fr,.int .i64 k] h=some (w,h')∧(w=v∧ArH h' x' I) by
    obtain⟨w,h',q1,rfl,q2⟩:=hsuf
    exact⟨h',q1,q2⟩
   refine run_fn (H.none 278 (by decide)) f278 (by simp[i278]) ?_
   dsimp only[i278,argsE]
   refine WC.seq (WC.ops (WO.mv rfl (WO.nil (zN (WC.seq (WC.ops ?_))))))
   refine WO.mv rfl (WO.mv rfl (WO.mv rfl (WO.fcall rfl rfl h1 ?_)))
   refine WO.mv rfl (WO.pure rfl (WO.pure rfl (WO.mv rfl (WO.mv rfl (WO.nil (zN (WC.seq (WC.seq (WC.ops ?_)))))))))
   refine WO.mv rfl (WO.neqS rfl rfl (fun hne=>?_) (fun he=>?_))
   ·have he0:Nat.beq e 0=false:=by
     rw[← Bool.not_eq_true,Nat.beq_eq]
     intro h;subst h;exact hne rfl
    rw[he0,cond_false] at hs
    simp only[zI,Prod.mk.injEq] at hs
    obtain⟨rfl,rfl⟩:=hs
    refine WO.nil (zN (WC.cond_true rfl (WC.seq (WC.ops (WO.mv rfl (WO.mv rfl (WO.nil (zN (WC.ret ?_)))))))))
    exact⟨_,_,rfl,rfl,rfl,hA2⟩
   ·have he0:e=0:=Int.ofNat.inj he
    subst he0
    have hs':putS x2 [.int .i64 to,.string s]=some (v,x'):=hs
    obtain⟨h3,h4,h5⟩:=put_m (n:=n+2) H.toHkA (by omega) hA2 hs'
    refine WO.nil (zN (WC.cond_false rfl (WC.skip (zN (WC.seq (WC.ops ?_))))))
    refine WO.mv rfl (WO.mv rfl (WO.mv rfl (WO.fcall rfl rfl h4 (WO.mv rfl (WO.nil (zN (WC.ret ?_)))))))
    exact⟨_,_,rfl,rfl,rfl,h5⟩
  ·cases hs
 ·cases hs
theorem cap_m{n:Nat}{x x':Ar}{I:ArIds}{args:List Value}{v:Value}{h:Hp Empty}(H:HkA hk)(hA:ArH h x I)(hs:capS x args=some (v,x')) :
  ∃h',RA (hk:=hk) (n+1) 155 (.pointer (some ⟨I.A,0,none⟩)::args) h=some (v,h')∧ArH h' x' I:=by
 unfold capS at hs
 split at hs
 ·simp only[zI,Prod.mk.injEq] at hs
  obtain⟨rfl,rfl⟩:=hs
  have htop:look I.A h.tbl=some (.cells (topCells x I)):=hA.at_.top
  suffices hsuf:∃w h',RA (hk:=hk) (n+1) 155 [.pointer (some ⟨I.A,0,none⟩)] h=some (w,h')∧(w = .int .i64 (Int.ofNat x.pages.length)∧ArH h' x I) by
   obtain⟨w,h',q1,rfl,q2⟩:=hsuf
   exact⟨h',q1,q2⟩
  refine run_fn (H.none 155 (by decide)) f155 (by simp[i155]) ?_
  dsimp only[i155,argsE]
  refine WC.seq (WC.ops (WO.mv rfl (WO.nil (zN (WC.seq (WC.seq (WC.ops (WO.mv rfl (WO.pure rfl (WO.nil (zN (WC.cond_false rfl (WC.skip (zN (WC.seq (WC.ops ?_))))))))))))))))
  refine WO.mv rfl (WO.nilck rfl (WO.fadd rfl (WO.load rfl htop rfl rfl rfl (WO.len rfl (WO.mv rfl (WO.nil (zN (WC.ret ?_))))))))
  exact⟨_,_,rfl,rfl,rfl,hA⟩
 ·cases hs
end Go.AI
/- What the arena's functions do upon its parts: Load, Store. -/
namespace Go.AI
open Go.Proofs
variable {hk:Hook Empty}
theorem numOf_snoc:∀(s:List UInt8) (b:UInt8),numOf (s++[b])=numOf s+b.toNat*2 ^ (8*s.length)
 |[],b=>by
  show b.toNat+256*0=0+b.toNat*2 ^ (8*0)
  omega
 |a::r,b=>by
  have ih:=numOf_snoc r b
  show a.toNat+256*numOf (r++[b])=a.toNat+256*numOf r+b.toNat*2 ^ (8*(r.length+1))
  rw[ih,show 8*(r.length+1)=8*r.length+8 by omega,Nat.pow_add]
  rw[Nat.mul_add,show b.toNat*(2 ^ (8*r.length)*2 ^ 8)=256*(b.toNat*2 ^ (8*r.length)) by rw[show(2:Nat) ^ 8=256 from rfl,← Nat.mul_assoc,Nat.mul_comm]]
  omega
theorem num_or{s:List UInt8}{i:Nat}{b:UInt8}(hi:s[i]? = some b)(h8:i<8):(numOf (s.take i) ||| b.toNat*2 ^ (8*i) % 18446744073709551616)=numOf (s.take (i+1)):=by
 have hl:i<s.length:=by
  rcases Nat.lt_or_ge i s.length with h|h
  ·exact h
  ·rw[List.getElem?_eq_none h] at hi;cases hi
 have hlt:(s.take i).length=i:=by rw[List.length_take];omega
 have ht:s.take (i+1)=s.take i++[b]:=by
  rw[List.take_add_one,hi];rfl
 rw[ht,numOf_snoc,hlt]
 have hn:=numOf_lt (s.take i)
 rw[hlt] at hn
 have hb:=b.toNat_lt
 have hp:(2:Nat) ^ (8*i)*256≤18446744073709551616:=by
  have:(2:Nat) ^ (8*i)*256=2 ^ (8*i+8):=by rw[Nat.pow_add]
  rw[this]
  exact Nat.pow_le_pow_right (by decide) (show 8*i+8≤64 by omega)
 have hm:b.toNat*2 ^ (8*i) % 18446744073709551616=b.toNat*2 ^ (8*i):=by
  refine Nat.mod_eq_of_lt (Nat.lt_of_lt_of_le ?_ hp)
  rw[Nat.mul_comm]
  exact Nat.mul_lt_mul_of_pos_left hb (Nat.two_pow_pos _)
 rw[hm,Nat.or_comm,Nat.mul_comm b.toNat,← Nat.two_pow_add_eq_or_of_lt hn]
 omega
theorem num_seg(P:Nat):∀(k off:Nat),numOf (segBytes P off k)=P / 2 ^ (8*off) % 256 ^ k
 |0,off=>by show 0=_;rw[Nat.pow_zero,Nat.mod_one]
 |k+1,off=>by
  have hv:(UInt8.ofNat (byteN P off)).toNat=byteN P off:=by
   rw[UInt8.toNat_ofNat']
   exact Nat.mod_eq_of_lt (byteN_lt P off)
  have hb:byteN P off=P / 2 ^ (8*off) % 256:=by
   show(P >>> (8*off)) &&& 255=_
   rw[Nat.shiftRight_eq_div_pow,show(255:Nat)=2 ^ 8-1 from rfl,Nat.and_two_pow_sub_one_eq_mod]
  show(UInt8.ofNat (byteN P off)).toNat+256*numOf (segBytes P (off+1) k)=_
  rw[hv,hb,num_seg P k (off+1),Nat.pow_succ,Nat.mul_comm (256 ^ k) 256,Nat.mod_mul,show 8*(off+1)=8*off+8 by omega,Nat.pow_add,← Nat.div_div_eq_div_mul]
theorem num_bytes:∀(k x:Nat),numOf (numBytes x k)=x % 256 ^ k
 |0,x=>by show 0=_;rw[Nat.pow_zero,Nat.mod_one]
 |k+1,x=>by
  have hv:(UInt8.ofNat (x % 256)).toNat=x % 256:=by
   rw[UInt8.toNat_ofNat']
   exact Nat.mod_eq_of_lt (Nat.mod_lt _ (by decide))
  show(UInt8.ofNat (x % 256)).toNat+256*numOf (numBytes (x / 256) k)=_
  rw[hv,num_bytes k (x / 256),Nat.pow_succ,Nat.mul_comm (256 ^ k) 256,Nat.mod_mul]
theorem numBytes_len:∀(k x:Nat),(numBytes x k).length=k
 |0,_=>rfl
 |k+1,x=>by simp only[numBytes,List.length_cons,numBytes_len k]
theorem numBytes_cells:∀(k x:Nat),byteCells (numBytes x k)=(List.range k).map fun j=>Value.int .u8 (Int.ofNat (x / 2 ^ (8*j) % 256))
 |0,_=>rfl
 |k+1,x=>by
  have hv:(UInt8.ofNat (x % 256)).toNat=x % 256:=by
   rw[UInt8.toNat_ofNat']
   exact Nat.mod_eq_of_lt (Nat.mod_lt _ (by decide))
  show Value.int .u8 (Int.ofNat (UInt8.ofNat (x % 256)).toNat)::byteCells (numBytes (x / 256) k)=_
  rw[hv,numBytes_cells k (x / 256),List.range_succ_eq_map,List.map_cons,List.map_map]
  congr 1
  ·rw[Nat.mul_zero,Nat.pow_zero,Nat.div_one]
  ·apply List.map_congr_left
   intro j _
   show Value.int .u8 (Int.ofNat (x / 256 / 2 ^ (8*j) % 256))=Value.int .u8 (Int.ofNat (x / 2 ^ (8*(j+1)) % 256))
   rw[Nat.div_div_eq_div_mul,show 8*(j+1)=8+8*j by omega,Nat.pow_add]
theorem loadA_eq{l:List (Option Nat)}{a k:Nat}(hth:There l a k)(hk:0<k):loadA l a k=numOf (bytesA l (fuelA k) a k):=by
 unfold loadA
 cases hb:Nat.ble (Nat.add (Nat.mod a 4096) k) 4096 with
 |false=>rfl
 |true =>
  rw[Nat.ble_eq] at hb
  have hb':a % 4096+k≤4096:=hb
  obtain⟨P,hP⟩:=hth.2 hk _ (Nat.le_refl _) (Nat.div_le_div_right (by omega))
  have h1:fuelA k=k / 4096+1+1:=rfl
  rw[h1,bytesA_step hk hP,Nat.min_eq_left (by omega),Nat.sub_self,bytesA_zero,List.append_nil,num_seg]
  show(match pgAt l (a / 4096) with|some P=>(P >>> (8*(a % 4096))) % 256 ^ k|none=>0)=_
  rw[hP,← Nat.shiftRight_eq_div_pow]
theorem storeA_eq{l:List (Option Nat)}{a k x:Nat}(hth:There l a k)(hk:0<k):storeA l a k x=putA (fuelA k) l a (numBytes x k):=by
 unfold storeA
 cases hb:Nat.ble (Nat.add (Nat.mod a 4096) k) 4096 with
 |false=>rfl
 |true =>
  rw[Nat.ble_eq] at hb
  have hb':a % 4096+k≤4096:=hb
  obtain⟨P,hP⟩:=hth.2 hk _ (Nat.le_refl _) (Nat.div_le_div_right (by omega))
  have h1:fuelA k=k / 4096+1+1:=rfl
  have hl:=numBytes_len k x
  have ht:(numBytes x k).take k=numBytes x k:=by rw[← hl,hl,List.take_of_length_le (by omega)]
  have hd:(numBytes x k).drop k=[]:=List.drop_eq_nil_of_le (by omega)
  rw[h1,putA_step (by omega) hP,hl,Nat.min_eq_left (by omega),ht,hd,putA_nil,num_bytes]
  show(match pgAt l (a / 4096) with|some P=>setPg l (a / 4096) (some (setBytes P (a % 4096) k (x % 256 ^ k)))|none=>l)=_
  rw[hP]
theorem WO.idxS{X:Type}{call:CallFn X}{env:List (Nat×Value)}{m:Mem X}{K:List (Nat×Value)→Mem X→Prop}{l:List (Option (Nat×Bool)×IOp)}{d:Nat}{x i:Opd}{s:List UInt8}{j:IntKind}{n:Nat}{b:UInt8}(hx:evo env x=some (.string ⟨⟨s⟩⟩))(hi:evo env i=some (.int j (Int.ofNat n)))(hb:s[n]? = some b)
  (k:WO call l ((d,.int .u8 (Int.ofNat b.toNat))::env) m K):WO call ((none,.pure d (.idxS x i))::l) env m K:=by
 refine .pure ?_ k
 have key:∀(s:List UInt8) (n:Nat),bytesAt s n=s[n]? := by
  intro s
  induction s with
  |nil=>intro n;simp[bytesAt]
  |cons a r ih=>intro n;cases n with
   |zero=>rfl
   |succ n=>rw[List.getElem?_cons_succ];exact ih n
 have h1:bytesAt s n=some b:=by rw[key];exact hb
 simp only[peval,hx,hi,natOf,h1]
 rfl
theorem WO.convU{X:Type}{call:CallFn X}{env:List (Nat×Value)}{m:Mem X}{K:List (Nat×Value)→Mem X→Prop}{l:List (Option (Nat×Bool)×IOp)}{d:Nat}{x:Opd}{j:IntKind}{n:Nat}(hx:evo env x=some (.int j (Int.ofNat n)))(hn:n<18446744073709551616)
  (k:WO call l ((d,.int .u64 (Int.ofNat n))::env) m K):WO call ((none,.pure d (.conv .u64 x))::l) env m K:=by
 refine .pure ?_ k
 simp only[peval,hx,wrapU_lt hn]
theorem WO.convB{X:Type}{call:CallFn X}{env:List (Nat×Value)}{m:Mem X}{K:List (Nat×Value)→Mem X→Prop}{l:List (Option (Nat×Bool)×IOp)}{d:Nat}{x:Opd}{j:IntKind}{n:Nat}(hx:evo env x=some (.int j (Int.ofNat n)))
  (k:WO call l ((d,.int .u8 (Int.ofNat (n % 256)))::env) m K):WO call ((none,.pure d (.conv .u8 x))::l) env m K:=by
 refine .pure ?_ k
 have h:wrapF .u8 (Int.ofNat n)=Int.ofNat (n % 256):=by
  show(bif Nat.blt n 128 then Int.ofNat n else Int.ofNat (n % 256))=_
  cases hb:Nat.blt n 128 with
  |true =>
   rw[blt_iff] at hb
   have:=of_decide_eq_true hb
   rw[Nat.mod_eq_of_lt (by omega)];rfl
  |false=>rfl
 simp only[peval,hx,h]
def loadP(x:Ar)(a k:Int):Nat×Nat:=match k with
 | .negSucc _=>(0,2)
 | .ofNat n=>bif wholeN n then(match a with
  | .ofNat a=>(match checkN x.pages a n with|0=>(loadA x.pages a n,0)|Nat.succ _=>(0,3))
  | .negSucc _=>(0,3)) else(0,2)
theorem wholeN_iff(n:Nat):wholeN n=true↔(n=1∨n=2∨n=4∨n=8):=by
 unfold wholeN
 simp only[Bool.or_eq_true,Nat.beq_eq]
 omega
set_option maxHeartbeats 1000000 in
theorem load_run{n:Nat}{x:Ar}{I:ArIds}{a k:Int}{h:Hp Empty}(H:HkB hk)(hn:4294967297≤n)(hA:ArH h x I) :
  ∃v h',RA (hk:=hk) (n+7) 105 [.pointer (some ⟨I.A,0,none⟩),.int .i64 a,.int .i64 k] h=some (v,h')∧(v = .tuple ⟨[.int .u64 (Int.ofNat (loadP x a k).1),errV (loadP x a k).2]⟩∧Keep h.tbl h.next h'.tbl h'.next):=by
 have k0:=Keep.refl hA.fresh
 refine run_fn (H.none 105 (by decide)) f105 (by simp[i105]) ?_
 dsimp only[i105,argsE]
 refine WC.seq (WC.ops (WO.mv rfl (WO.mv rfl (WO.nil (zN (WC.seq (WC.block (WC.seq (WC.ops ?_)))))))))
 refine WO.mv rfl (WO.pure rfl (WO.mv rfl (WO.nil (zN (WC.cond_false rfl (WC.seq (WC.ops ?_)))))))
 refine WO.mv rfl (WO.fcall_ex rfl rfl (whole_run (n:=n+5) (x:=k) (h:=h) (H.none 147 (by decide))) ?_)
 rintro v2 h2 ⟨rfl,rfl⟩
 refine WO.not rfl ?_
 refine WO.split (fun hw=>?_) (fun hw=>?_)
 ·-- no whole number
  have hp:loadP x a k=(0,2):=by
   unfold loadP
   cases k with
   |negSucc k=>rfl
   |ofNat k =>
    have:wholeN k=false:=by
     rw[← Bool.not_eq_true,wholeN_iff]
     intro h;apply hw
     simp only[zO];omega
    simp only[this,cond_false]
  rw[hp]
  refine WO.mv rfl (WO.nil (zN (WC.cond_true rfl (WC.seq (WC.ops (WO.mv rfl (WO.mv rfl (WO.nil (zN (WC.ret ?_))))))))))
  exact⟨_,_,rfl,rfl,rfl,k0⟩
 ·have hw:=Decidable.byContradiction hw
  obtain⟨k',rfl⟩:∃k':Nat,k=Int.ofNat k':=⟨k.toNat,by simp only[zO];omega⟩
  have hw':k'=1∨k'=2∨k'=4∨k'=8:=by simp only[zO] at hw;omega
  have hwN:wholeN k'=true:=(wholeN_iff _).2 hw'
  refine WO.mv rfl (WO.nil (zN (WC.cond_false rfl (WC.skip (zB (zN (WC.seq (WC.ops ?_))))))))
  obtain⟨w,x',hbs⟩:∃w x',bytesS x [.int .i64 a,.int .i64 (Int.ofNat k')]=some (w,x'):=by
   unfold bytesS
   dsimp only
   split
   ·split<;>exact⟨_,_,rfl⟩
   ·exact⟨_,_,rfl⟩
  obtain⟨h3,hb3,rfl,k3⟩:=bytes_m (n:=n) H hn hA hbs
  -- what the bytes are
  have hw3:(∃a':Nat,a=Int.ofNat a'∧checkN x'.pages a' k'=0∧w = .tuple ⟨[.string ⟨⟨bytesA x'.pages (fuelA k') a' k'⟩⟩,errV 0]⟩)∨(w = .tuple ⟨[.string ⟨⟨[]⟩⟩,errV 3]⟩∧loadP x' a (Int.ofNat k')=(0,3)):=by
   unfold bytesS at hbs
   dsimp only at hbs
   split at hbs
   ·rename_i a' k2 e2
    injection e2 with e2
    subst e2
    split at hbs
    ·rename_i hc
     simp only[zI,Prod.mk.injEq] at hbs
     exact .inl ⟨a',rfl,hc,hbs.1.symm⟩
    ·rename_i m hc
     simp only[zI,Prod.mk.injEq] at hbs
     refine .inr ⟨hbs.1.symm,?_⟩
     simp only[loadP,hwN,cond_true,hc]
   ·rename_i y1 y2 y3 hne
    simp only[zI,Prod.mk.injEq] at hbs
    refine .inr ⟨hbs.1.symm,?_⟩
    cases y1 with
    |negSucc a=>simp only[loadP,hwN,cond_true]
    |ofNat a=>exact(hne _ _ rfl rfl).elim
  refine WO.mv rfl (WO.mv rfl (WO.mv rfl (WO.fcall rfl rfl hb3 ?_)))
  rcases hw3 with⟨a',rfl,hc,rfl⟩|⟨rfl,hlp⟩
  ·have hth:=check_there hc
   have hk0:0<k':=by omega
   have hlp:loadP x' (Int.ofNat a') (Int.ofNat k')=(numOf (bytesA x'.pages (fuelA k') a' k'),0):=by
    simp only[loadP,hwN,cond_true,hc,loadA_eq hth hk0]
   have hlen:=bytesA_len (fuelA k') a' k' hth (segs_le _ _)
   rw[hlp]
   generalize bytesA x'.pages (fuelA k') a' k'=s at hlen
   refine WO.mv rfl (WO.pure rfl (WO.pure rfl (WO.mv rfl (WO.mv rfl (WO.nil (zN (WC.seq (WC.seq (WC.ops ?_)))))))))
   refine WO.mv rfl (WO.neqS rfl rfl (fun hne=>(hne rfl).elim) (fun _=>?_))
   refine WO.nil (zN (WC.cond_false rfl (WC.skip (zN (WC.seq (WC.ops (WO.mv rfl (WO.nil (zN (WC.seq (WC.seq (WC.ops ?_))))))))))))
   refine WO.mv rfl (WO.mv rfl (WO.nil (zN (WC.block ?_))))
   refine WC.loop (fun j e tbl nx=>∃i,i+j=k'∧e 8=some (.string ⟨⟨s⟩⟩)∧e 29=some (.int .i64 (Int.ofNat k'))∧e 30=some (.int .i64 (Int.ofNat i))∧e 10=some (.int .u64 (Int.ofNat (numOf (s.take i))))∧tbl=h3.tbl∧nx=h3.next) (k:=k') (by omega) ⟨0,by omega,rfl,rfl,rfl,rfl,rfl,rfl⟩ ?_
   rintro j e tbl nx ⟨i,hij,e8,e29,e30,e10,rfl,rfl⟩
   refine WC.seq (WC.ops (WO.lssS e30 e29 (fun hlt=>?_) (fun hlt=>?_)))
   ·simp only[zO] at hlt
    have hi:i<s.length:=by omega
    have hb8:=(s[i]).toNat_lt
    have hnt:=numOf_lt (s.take i)
    have hnt2:numOf (s.take i)<18446744073709551616:=by
     refine Nat.lt_of_lt_of_le hnt ?_
     rw[List.length_take,Nat.min_eq_left (by omega)]
     exact Nat.pow_le_pow_right (by decide) (show 8*i≤64 by omega)
    refine WO.nil (zN (WC.seq (WC.cond_true rfl (WC.skip (zN (WC.seq (WC.block (WC.seq (WC.ops ?_)))))))))
    refine WO.mv e30 (WO.mv rfl (WO.nil (zN (WC.ops ?_))))
    refine WO.mv e10 (WO.mv e8 (WO.mv rfl (WO.idxS rfl rfl (List.getElem?_eq_getElem hi) (WO.convU rfl (by omega) (WO.mv rfl (WO.mulI rfl rfl (by omega) ?_))))))
    refine WO.shlU rfl rfl (by omega) (WO.orU rfl rfl hnt2 (Nat.mod_lt _ (by decide)) ?_)
    rw[num_or (List.getElem?_eq_getElem hi) (by omega)]
    refine WO.mv rfl (WO.nil (zB (zN (WC.ops ?_))))
    refine WO.add e30 rfl (by simp only[zO];omega) (by simp only[zO];omega) (WO.as (b:=Int.ofNat (i+1)) (by simp only[zO];omega) (WO.mv rfl (WO.nil ?_)))
    exact⟨j-1,by omega,rfl,i+1,by omega,e8,e29,rfl,rfl,rfl,rfl⟩
   ·simp only[zO] at hlt
    have hi:i=k':=by omega
    subst hi
    have hts:s.take i=s:=by rw[← hlen,List.take_length]
    rw[hts] at e10
    refine WO.nil (zN (WC.seq (WC.cond_false rfl (WC.exit (thenC_exit (blockC_exit (zN (WC.seq (WC.ops ?_)))))))))
    refine WO.mv e10 (WO.mv rfl (WO.mv rfl (WO.nil (zN (WC.ret ?_)))))
    exact⟨_,_,rfl,rfl,rfl,k3⟩
  ·rw[hlp]
   refine WO.mv rfl (WO.pure rfl (WO.pure rfl (WO.mv rfl (WO.mv rfl (WO.nil (zN (WC.seq (WC.seq (WC.ops ?_)))))))))
   refine WO.mv rfl (WO.neqS rfl rfl (fun _=>?_) (fun he=>by cases he))
   refine WO.nil (zN (WC.cond_true rfl (WC.seq (WC.ops (WO.mv rfl (WO.mv rfl (WO.mv rfl (WO.nil (zN (WC.ret ?_))))))))))
   exact⟨_,_,rfl,rfl,rfl,k3⟩
theorem load_m{n:Nat}{x x':Ar}{I:ArIds}{args:List Value}{v:Value}{h:Hp Empty}(H:HkB hk)(hn:4294967297≤n)(hA:ArH h x I)(hs:loadS x args=some (v,x')) :
  ∃h',RA (hk:=hk) (n+7) 105 (.pointer (some ⟨I.A,0,none⟩)::args) h=some (v,h')∧ArH h' x' I:=by
 unfold loadS at hs
 split at hs
 ·rename_i a k
  obtain⟨w,h',h1,rfl,h3⟩:=load_run (n:=n) (a:=a) (k:=k) H hn hA
  have hq:some (Value.tuple ⟨[.int .u64 (Int.ofNat (loadP x a k).1),errV (loadP x a k).2]⟩,x)=some (v,x'):=by
   rw[← hs]
   unfold loadP
   cases k with
   |negSucc k=>rfl
   |ofNat k =>
    dsimp only
    cases wholeN k with
    |false=>rfl
    |true =>
     cases a with
     |negSucc a=>rfl
     |ofNat a =>
      dsimp only[cond_true]
      cases checkN x.pages a k<;>rfl
  simp only[zI,Prod.mk.injEq] at hq
  obtain⟨rfl,rfl⟩:=hq
  exact⟨h',h1,hA.keep h3⟩
 ·cases hs
def arr8(x i:Nat):List Value:=(List.range 8).map fun j=>if j<i then Value.int .u8 (Int.ofNat (x / 2 ^ (8*j) % 256)) else .int .u8 (Int.ofNat 0)
theorem arr8_step(x:Nat){i:Nat}(h:i<8):splice (arr8 x i) i [.int .u8 (Int.ofNat (x / 2 ^ (8*i) % 256))]=arr8 x (i+1):=by
 match i,h with
 |0,_=>rfl
 |1,_=>rfl
 |2,_=>rfl
 |3,_=>rfl
 |4,_=>rfl
 |5,_=>rfl
 |6,_=>rfl
 |7,_=>rfl
theorem arr8_take(x:Nat){k:Nat}(h:k=1∨k=2∨k=4∨k=8):takeN (arr8 x 8) 0 k=some (byteCells (numBytes x k)):=by
 rw[numBytes_cells]
 rcases h with rfl|rfl|rfl|rfl<;>rfl
set_option maxHeartbeats 1000000 in
theorem store_m{n:Nat}{x x':Ar}{I:ArIds}{args:List Value}{v:Value}{h:Hp Empty}(H:HkB hk)(hn:4294967297≤n)(hA:ArH h x I)(hs:storeS x args=some (v,x')) :
  ∃h',RA (hk:=hk) (n+7) 138 (.pointer (some ⟨I.A,0,none⟩)::args) h=some (v,h')∧ArH h' x' I:=by
 unfold storeS at hs
 split at hs
 ·rename_i a k y
  cases hy:Nat.blt y 18446744073709551616 with
  |false=>rw[hy] at hs;cases hs
  |true =>
   rw[hy,cond_true] at hs
   have hy':y<18446744073709551616:=by rw[blt_iff] at hy;exact of_decide_eq_true hy
   suffices hsuf:∃w h',RA (hk:=hk) (n+7) 138 [.pointer (some ⟨I.A,0,none⟩),.int .i64 a,.int .i64 k,.int .u64 (.ofNat y)] h=some (w,h')∧(w=v∧ArH h' x' I) by
    obtain⟨w,h',q1,rfl,q2⟩:=hsuf
    exact⟨h',q1,q2⟩
   refine run_fn (H.none 138 (by decide)) f138 (by simp[i138]) ?_
   dsimp only[i138,argsE]
   refine WC.seq (WC.ops (WO.mv rfl (WO.nil (zN (WC.seq (WC.block (WC.seq (WC.ops ?_))))))))
   refine WO.mv rfl (WO.pure rfl (WO.mv rfl (WO.nil (zN (WC.cond_false rfl (WC.seq (WC.ops ?_)))))))
   refine WO.mv rfl (WO.fcall_ex rfl rfl (whole_run (n:=n+5) (x:=k) (h:=h) (H.none 147 (by decide))) ?_)
   rintro v2 h2 ⟨rfl,rfl⟩
   refine WO.not rfl ?_
   refine WO.split (fun hw=>?_) (fun hw=>?_)
   ·have hq:some (errV 2,x)=some (v,x'):=by
     rw[← hs]
     cases k with
     |negSucc k=>rfl
     |ofNat k =>
      have:wholeN k=false:=by
       rw[← Bool.not_eq_true,wholeN_iff]
       intro h;apply hw
       simp only[zO];omega
      simp only[this,cond_false]
    simp only[zI,Prod.mk.injEq] at hq
    obtain⟨rfl,rfl⟩:=hq
    refine WO.mv rfl (WO.nil (zN (WC.cond_true rfl (WC.seq (WC.ops (WO.mv rfl (WO.nil (zN (WC.ret ?_)))))))))
    exact⟨_,_,rfl,rfl,rfl,hA⟩
   ·have hw:=Decidable.byContradiction hw
    obtain⟨k',rfl⟩:∃k':Nat,k=Int.ofNat k':=⟨k.toNat,by simp only[zO];omega⟩
    have hw':k'=1∨k'=2∨k'=4∨k'=8:=by simp only[zO] at hw;omega
    have hwN:wholeN k'=true:=(wholeN_iff _).2 hw'
    have hk0:0<k':=by omega
    refine WO.mv rfl (WO.nil (zN (WC.cond_false rfl (WC.skip (zB (zN (WC.seq (WC.ops (WO.new (WO.nil (zN (WC.seq (WC.seq (WC.ops ?_))))))))))))))
    have k1:=Keep.new hA.fresh (.cells (arr8 y 0))
    have hpS:putS x [.int .i64 a,.string ⟨⟨numBytes y k'⟩⟩]=some (v,x'):=by
     rw[← hs]
     unfold putS
     dsimp only
     rw[hwN,cond_true]
     have hl:(numBytes y k').length=k':=numBytes_len _ _
     cases a with
     |negSucc a=>rfl
     |ofNat a =>
      dsimp only
      rw[hl]
      cases hc:checkN x.pages a k' with
      |zero=>dsimp only;rw[storeA_eq (check_there hc) hk0]
      |succ m=>rfl
    refine WO.mv rfl (WO.nil (zN (WC.block ?_)))
    refine WC.loop (fun j e tbl nx=>∃i,i+j=8∧e 0=some (.pointer (some ⟨I.A,0,none⟩))∧e 1=some (.int .i64 a)∧e 2=some (.int .i64 (Int.ofNat k'))∧e 3=some (.int .u64 (Int.ofNat y))∧e 9=some (.pointer (some ⟨h2.next,0,none⟩))∧e 18=some (.int .i64 (Int.ofNat i)) ∧
     look h2.next tbl=some (.cells (arr8 y i))∧Keep h2.tbl h2.next tbl nx) (k:=8) (by omega) ⟨0,by omega,rfl,rfl,rfl,rfl,rfl,rfl,look_new,k1⟩ ?_
    rintro j e tbl nx ⟨i,hij,e0,e1,e2,e3,e9,e18,hcs,hkp⟩
    refine WC.seq (WC.ops (WO.lssS e18 rfl (fun hlt=>?_) (fun hlt=>?_)))
    ·simp only[zO] at hlt
     have hi:i<8:=by omega
     refine WO.nil (zN (WC.seq (WC.cond_true rfl (WC.skip (zN (WC.seq (WC.block (WC.seq (WC.ops ?_)))))))))
     refine WO.mv e18 (WO.mv rfl (WO.nil (zN (WC.ops ?_))))
     refine WO.mv rfl (WO.mv e3 (WO.mv rfl (WO.mulI rfl rfl (by omega) (WO.shrU rfl rfl (by omega) (WO.convB rfl (WO.idxA e9 rfl rfl hi ?_))))))
     refine WO.store (ob':=.cells (arr8 y (i+1))) rfl rfl rfl rfl hcs rfl (by show 0+i*1+1≤(arr8 y i).length;unfold arr8;simp;omega) (by
      show some (AObj.cells (splice (arr8 y i) (0+i*1) [.int .u8 (Int.ofNat (y / 2 ^ (8*i) % 256))]))=_
      rw[Nat.mul_one,Nat.zero_add,arr8_step y hi]) ?_
     refine WO.nil (zB (zN (WC.ops ?_)))
     refine WO.add e18 rfl (by simp only[zO];omega) (by simp only[zO];omega) (WO.as (b:=Int.ofNat (i+1)) (by simp only[zO];omega) (WO.mv rfl (WO.nil ?_)))
     exact⟨j-1,by omega,rfl,i+1,by omega,e0,e1,e2,e3,e9,rfl,zS hcs,hkp.upd (Nat.le_refl _)⟩
    ·simp only[zO] at hlt
     have hi:i=8:=by omega
     subst hi
     have hA3:ArH ⟨tbl,nx⟩ x I:=hA.keep (h':=⟨tbl,nx⟩) hkp
     obtain⟨h5,q1,q2⟩:=put_m (n:=n+2) H.toHkA (by omega) hA3 hpS
     refine WO.nil (zN (WC.seq (WC.cond_false rfl (WC.exit (thenC_exit (blockC_exit (zN (WC.seq (WC.ops ?_)))))))))
     refine WO.mv e0 (WO.mv e1 (WO.mv e2 (WO.slAHi e9 rfl rfl (by omega) (by decide) ?_)))
     refine WO.step (i:=.b2s 33 (.t 32)) (v:=.string ⟨⟨numBytes y k'⟩⟩) (m':=⟨[],tbl,nx⟩) ?_ ?_
     ·have h6:(⟨[],tbl,nx⟩:Mem Empty).loads (some ⟨h2.next,0+0*1,some 1⟩) (k'-0)=some (byteCells (numBytes y k')):=mem_loads hcs rfl (arr8_take y hw') (by omega)
      exact estep_b2s rfl h6 (cellBytes_of _)
     refine WO.fcall rfl rfl q1 (WO.mv rfl (WO.nil (zN (WC.ret ?_))))
     exact⟨_,_,rfl,rfl,rfl,q2⟩
 ·cases hs
end Go.AI
