/- Functions in the evaluator's form: printed by a program, held against the program by the kernel. -/
import Derived.Test.YthoiknijhfnadaaGreatDoorIfn
import Derived.Test.YthoiknijhfnadaaGreatDoorKIn
import Derived.Test.YthoiknijhfnadaaGreatDoorKTa
set_option maxRecDepth 4000
namespace Go.AI
def iInsert:IFn:=(.mk (sO [pU 6 (.mv (.c (.slice none 0 0)))] (sO [mV 10 0,mV 11 1,pU 12 (.slL 2 (.t 10) (some (.t 11)) none none)] (sO [mV 13 2,pU 14 (.len (.t 13)),mV 7 14] (.seq (sO [mV 15 7,pU 16 (.bin .eql .no (.t 15) (cI 0))] (.cond (.t 16) (sO [mV 17 0,mV 6 17] .ret) .skip)) (sO [mV 18 0,pU 19 (.len (.t 18)),mV 8 19] (.seq (sO [mV 20 1,mV 21 8,pU 22 (.bin .eql .no (.t 20) (.t 21))] (.cond (.t 22) (sO [mV 23 0,mV 24 2,(none,(.append 25 2 16 67 (.t 23) (.t 24))),mV 6 25] .ret) .skip)) (.seq (sO [mV 26 8,mV 27 7,pU 28 (.bin .add .no (.t 26) (.t 27)),mV 29 0,pU 30 (.cap (.t 29)),pU 31 (.bin .gtr .no (.t 28) (.t 30))] (.cond (.t 31) (sO [mV 32 0,mV 33 1,pU 34 (.slL 2 (.t 32) none (some (.t 33)) none),mV 35 8,mV 36 7,pU 37 (.bin .add .no (.t 35) (.t 36)),mV 38 1,pU 39 (.bin .sub .no (.t 37) (.t 38)),(none,(.appz 40 2 16 67 [(u0 0),(u0 0)] (.t 34) (.t 39))),mV 9 40] (sO [mV 41 9,mV 42 1,pU 43 (.slL 2 (.t 41) (some (.t 42)) none none),mV 44 2,(none,(.copy 45 2 (.t 43) (.t 44)))] (.seq (.drawn [mV 46 9,mV 47 1,mV 48 7,pU 49 (.bin .add .no (.t 47) (.t 48)),pU 50 (.slL 2 (.t 46) (some (.t 49)) none none),mV 51 0,mV 52 1,pU 53 (.slL 2 (.t 51) (some (.t 52)) none none),(none,(.copy 54 2 (.t 50) (.t 53)))] [[],[],[],[1,2],[0,3,1,2],[],[],[5,6],[4,7,0,3,1,2,5,6]]) (sO [mV 55 9,mV 6 55] .ret)))) .skip)) (sO [mV 56 0,mV 57 8,mV 58 7,pU 59 (.bin .add .no (.t 57) (.t 58)),pU 60 (.slL 2 (.t 56) none (some (.t 59)) none),mV 0 60] (.seq (sO [mV 61 2,mV 62 0,mV 63 1,mV 64 7,pU 65 (.bin .add .no (.t 63) (.t 64)),pU 66 (.slL 2 (.t 62) (some (.t 65)) none none),cL 67 76 [(.t 61),(.t 66)],pU 68 (.not (.t 67))] (.cond (.t 68) (.seq (.drawn [mV 69 0,mV 70 1,mV 71 7,pU 72 (.bin .add .no (.t 70) (.t 71)),pU 73 (.slL 2 (.t 69) (some (.t 72)) none none),mV 74 0,mV 75 1,pU 76 (.slL 2 (.t 74) (some (.t 75)) none none),(none,(.copy 77 2 (.t 73) (.t 76)))] [[],[],[],[1,2],[0,3,1,2],[],[],[5,6],[4,7,0,3,1,2,5,6]]) (sO [mV 78 0,mV 79 1,pU 80 (.slL 2 (.t 78) (some (.t 79)) none none),mV 81 2,(none,(.copy 82 2 (.t 80) (.t 81)))] (sO [mV 83 0,mV 6 83] .ret))) .skip)) (sO [mV 84 0,mV 85 8,pU 86 (.slL 2 (.t 84) (some (.t 85)) none none),mV 87 2,(none,(.copy 88 2 (.t 86) (.t 87)))] (sO [mV 89 0,mV 90 1,pU 91 (.slL 2 (.t 89) (some (.t 90)) none none),mV 92 7,cL 93 77 [(.t 91),(.t 92)]] (sO [mV 94 0,mV 6 94] .ret)))))))))))) 95 [(.tmp 6)])
theorem fInsert:FA 49=some iInsert:=by kernel_rfl
def iDelete:IFn:=(.mk (sO [pU 6 (.mv (.c (.slice none 0 0)))] (sO [mV 8 0,mV 9 1,mV 10 2,mV 11 0,pU 12 (.len (.t 11)),pU 13 (.slL 2 (.t 8) (some (.t 9)) (some (.t 10)) (some (.t 12)))] (.seq (sO [mV 14 1,mV 15 2,pU 16 (.bin .eql .no (.t 14) (.t 15))] (.cond (.t 16) (sO [mV 17 0,mV 6 17] .ret) .skip)) (sO [mV 18 0,pU 19 (.len (.t 18)),mV 7 19] (.seq (.drawn [mV 20 0,mV 21 1,pU 22 (.slL 2 (.t 20) none (some (.t 21)) none),mV 23 0,mV 24 2,pU 25 (.slL 2 (.t 23) (some (.t 24)) none none),(none,(.append 26 2 16 67 (.t 22) (.t 25))),mV 0 26] [[],[],[0,1],[],[],[3,4],[2,5,0,1,3,4],[6,0,1,2,3,4,5]]) (sO [mV 27 0,mV 28 0,pU 29 (.len (.t 28)),mV 30 7,pU 31 (.slL 2 (.t 27) (some (.t 29)) (some (.t 30)) none),(none,(.clear none 2 [(u0 0),(u0 0)] (.t 31)))] (sO [mV 32 0,mV 6 32] .ret))))))) 33 [(.tmp 6)])
theorem fDelete:FA 48=some iDelete:=by kernel_rfl
end Go.AI
/- slices.Insert of one link: the walk. -/
namespace Go.AI
variable {X:Type}{hook:Hook X}
theorem mem_stH{tbl:List (Nat×AObj X)}{nx i o:Nat}{ob ob':AObj X}{cs vs:List Value}(hi:look i tbl=some ob)(hc:cellsO ob=some cs)(hl:o+vs.length≤cs.length)(hp:putO (splice cs o vs) ob=some ob'):(⟨[],tbl,nx⟩:Mem X).store ⟨i,o,none⟩ vs=some ⟨[],upd i ob' tbl,nx⟩:=mem_store hi hc hl hp
theorem mem_lds{tbl:List (Nat×AObj X)}{nx i o n:Nat}{sp:Option Nat}{ob:AObj X}{cs r:List Value}(hi:look i tbl=some ob)(hc:cellsO ob=some cs)(hn:n≠0)(hr:takeN cs o n=some r):(⟨[],tbl,nx⟩:Mem X).loads (some ⟨i,o,sp⟩) n=some r:=by
 unfold Mem.loads
 rw[beq_not hn,cond_false]
 exact mem_load hi hc hr
theorem takeN_mid{cs:List Value}{o n:Nat}(h:o+n≤cs.length):takeN cs o n=some ((cs.drop o).take n):=by
 have:Nat.beq ((cs.drop o).take n).length n=true:=by rw[Nat.beq_eq,List.length_take,List.length_drop];omega
 show(bif Nat.beq ((cs.drop o).take n).length n then some ((cs.drop o).take n) else none)=_
 rw[this,cond_true]
abbrev jI(n:Nat):Value:=.int .i64 (.ofNat n)
theorem pv_addN{env:List (Nat×Value)}{e:EqK}{x y:Opd}{a b:Nat}(hx:evo env x=some (jI a))(hy:evo env y=some (jI b))(h:a+b<9223372036854775808):peval env (.bin .add e x y)=some (jI (a+b)):=by
 simp only[peval,hx,hy,binVal,intBin,if_true]
 have h2:(Int.ofNat a+Int.ofNat b:Int)=Int.ofNat (a+b):=rfl
 rw[h2,wrap64 (by simp only[zO];omega) (by simp only[zO];omega)]
theorem pv_subN{env:List (Nat×Value)}{e:EqK}{x y:Opd}{a b:Nat}(hx:evo env x=some (jI a))(hy:evo env y=some (jI b))(h:b≤a)(h1:a<9223372036854775808):peval env (.bin .sub e x y)=some (jI (a-b)):=by
 simp only[peval,hx,hy,binVal,intBin,if_true]
 have h2:(Int.ofNat a-Int.ofNat b:Int)=Int.ofNat (a-b):=by simp only[zO];omega
 rw[h2,wrap64 (by simp only[zO];omega) (by simp only[zO];omega)]
theorem roomy1{n:Nat}(h:n≤2000):roomy n 16=true:=by
 unfold roomy
 rw[Nat.ble_eq]
 omega
theorem lookAppN{α:Type}(s:Nat)(r:List (Nat×α)):∀(l:List (Nat×α)),look s l=none→look s (l++r)=look s r
 |[],_=>rfl
 |x::l,h=>by
  rw[zC] at h
  rw[List.cons_append,zC]
  split at h
  ·cases h
  ·rename_i hne;rw[if_neg hne];exact lookAppN s r l h
theorem lookFilt{s:Nat}{L:List Nat}(hm:memB s L=false):∀(l:List (Nat×Value)),look s (l.filter fun p=>!memB p.1 L)=look s l
 |[]=>rfl
 |x::l=>by
  rw[List.filter_cons]
  cases hx:memB x.1 L with
  |true =>
   simp only[Bool.not_true,Bool.false_eq_true,if_false]
   rw[lookFilt hm l,zC,if_neg (fun e=>by rw[e,hx] at hm;cases hm)]
  |false =>
   simp only[Bool.not_false,if_true]
   rw[zC,zC,lookFilt hm l]
theorem evOut{bf:List (List Nat)}{ds:List (Nat×Option Nat)}{env0:List (Nat×Value)}{vals:List (Nat×Option Nat×Value)}{k s:Nat}{v:Value}(he:look s env0=some v)(h1:look s (slotsOf (vals.filter fun x=>ordB bf x.1 k))=none)(hm:memB s (loose bf k ds)=false):evo (envAt bf ds env0 vals k) (.t s)=some v:=by
 show look s (slotsOf (vals.filter fun x=>ordB bf x.1 k)++env0.filter fun p=>!memB p.1 (loose bf k ds))=some v
 rw[lookAppN _ _ _ h1,lookFilt hm];exact he
theorem updH{α:Type}{k:Nat}{y z:α}{l:List (Nat×α)}:upd k z ((k,y)::l)=(k,z)::l:=by
 unfold upd
 rw[Nat.beq_refl];rfl
theorem ldsZ{tbl:List (Nat×AObj X)}{nx i o n:Nat}{sp:Option Nat}{ob:AObj X}{cs:List Value}(hi:look i tbl=some ob)(hc:cellsO ob=some cs)(h:o+n≤cs.length):(⟨[],tbl,nx⟩:Mem X).loads (some ⟨i,o,sp⟩) n=some ((cs.drop o).take n):=by
 by_cases hn:n=0
 ·subst hn
  rw[List.take_zero]
  rfl
 ·exact mem_lds hi hc hn (takeN_mid h)
theorem splice_end{cs vs:List Value}{o:Nat}(h:o+vs.length=cs.length):splice cs o vs=cs.take o++vs:=by
 rw[splice_eq _ _ _ (by omega),List.drop_eq_nil_of_le (by omega),List.append_nil]
theorem ins_run(h49:hook 49=none)(h76:hook 76=some overlapsH){n C l k:Nat}{cs xs ra:List Value}(hk:k≤l)(h0:0<l)(hl:l≤1000)(hcs:cs.length=l*2)(hxs:xs.length=2)(hro:C=l∧ra=[]∨l<C∧ra.length=2) :
  InsR (run FA (fun _=>false) hook (n+2)) 49 2 67 C l k cs xs ra:=by
 have hlC:l≤C:=by rcases hro with⟨h,_⟩|⟨h,_⟩<;>omega
 suffices h:∃v h',run FA (fun _=>false) hook (n+1+1) 49 [.slice (some ⟨0,0,some 1⟩) l C,.int .i64 (.ofNat k),.slice (some ⟨1,0,none⟩) 1 1] ⟨[(1,.cells xs),(0,.grown 2 67 (cs++ra))],2⟩=some (v,h') ∧
   (∃r sp cp',v = .slice (some ⟨r,0,sp⟩) (l+1) cp'∧look r h'.tbl=some (.grown 2 67 (insL cs (k*2) xs))∧((sp=some 1∧r=0∧cp'=C∧l<C)∨(sp=none∧cp'=l+1))) by
  obtain⟨v,h',h1,r,sp,cp',h2,h3,h4⟩:=h
  exact⟨v,h',r,sp,cp',h1,h2,h3,h4⟩
 refine run_fn h49 fInsert (zL rfl) ?_
 dsimp only[iInsert,argsE]
 obtain⟨u12,hu12⟩:=pv_slXany (env:=[(11,Value.int .i64 (.ofNat k)),(10,.slice (some ⟨0,0,some 1⟩) l C)]) (e:=2) (x:=.t 10) (y:=.t 11) rfl rfl hk hlC
 refine WC.seq (WC.ops (WO.mv rfl (WO.nil (zN (WC.seq (WC.ops (WO.mv rfl (WO.mv rfl (WO.pure (v:=u12) ?_ (WO.nil (zN ?_)))))))))))
 ·exact hu12
 refine WC.seq (WC.ops (WO.mv rfl (WO.len rfl (WO.mv rfl (WO.nil (zN ?_))))))
 refine WC.seq (WC.seq (WC.ops (WO.mv rfl (WO.pure (v:=.bool false) rfl (WO.nil (zN (WC.cond_false rfl (WC.skip (zN ?_)))))))))
 refine WC.seq (WC.ops (WO.mv rfl (WO.len rfl (WO.mv rfl (WO.nil (zN ?_))))))
 refine WC.seq (WC.seq (WC.ops (WO.mv rfl (WO.mv rfl ?_))))
 have hx1:∀nx,(⟨[],[(1,.cells xs),(0,.grown 2 67 (cs++ra))],nx⟩:Mem X).loads (some ⟨1,0,none⟩) 2=some xs:=fun nx=>mem_lds (by rw[zC,if_pos rfl]) rfl (by decide) (by rw[takeN_mid (by omega),List.drop_zero,← hxs,List.take_length])
 refine WO.eqlS rfl rfl (fun hkl=>?_) (fun hkl=>?_)
 ·have hkl:k=l:=Int.ofNat.inj hkl
  subst hkl
  have hsr:∀nx,source (⟨[],[(1,.cells xs),(0,.grown 2 67 (cs++ra))],nx⟩:Mem X) 2 (.slice (some ⟨1,0,none⟩) 1 1)=some (1,xs):=fun nx=>by
   show(Mem.loads _ _ (1*2)).map _=_
   rw[hx1];rfl
  refine WO.nil (zN (WC.cond_true rfl (WC.seq (WC.ops (WO.mv rfl (WO.mv rfl ?_))))))
  have hins:insL cs (k*2) xs=cs++xs:=by
   unfold insL
   rw[List.take_of_length_le (by omega),List.drop_eq_nil_of_le (by omega),List.append_nil]
  rcases hro with⟨rfl,rfl⟩|⟨hlt,hra⟩
  ·have hld:(⟨[],[(1,.cells xs),(0,.grown 2 67 (cs++[]))],2⟩:Mem X).loads (some ⟨0,0,none⟩) (C*2)=some cs:=mem_lds (ob:=.grown 2 67 (cs++[])) rfl rfl (by omega) (by rw[List.append_nil,takeN_mid (by omega),List.drop_zero,← hcs,List.take_length])
   refine WO.step (i:=.append 25 2 16 67 (.t 23) (.t 24)) ((estep_appX (v:=.slice (some ⟨1,0,none⟩) 1 1) rfl rfl (hsr 2) rfl rfl (by decide)).2 cs (by omega) (roomy1 (by omega)) hld) ?_
   refine WO.mv rfl (WO.nil (zN (WC.ret (thenC_ret ?_))))
   exact⟨_,_,rfl,rfl,2,none,C+1,rfl,by rw[hins];rfl,.inr ⟨rfl,rfl⟩⟩
  ·have hst:(⟨[],[(1,.cells xs),(0,.grown 2 67 (cs++ra))],2⟩:Mem X).store ⟨0,0+k*2,none⟩ xs=some ⟨[],upd 0 (.grown 2 67 (cs++xs)) [(1,.cells xs),(0,.grown 2 67 (cs++ra))],2⟩:=by
    refine mem_stH (ob:=.grown 2 67 (cs++ra)) rfl rfl (by rw[List.length_append];omega) ?_
    rw[splice_eq _ _ _ (by rw[List.length_append];omega),Nat.zero_add,List.take_left' hcs,List.drop_eq_nil_of_le (by rw[List.length_append];omega),List.append_nil]
    rfl
   refine WO.step (i:=.append 25 2 16 67 (.t 23) (.t 24)) ((estep_appX (v:=.slice (some ⟨1,0,none⟩) 1 1) rfl rfl (hsr 2) rfl rfl (by decide)).1 _ (by omega) hst) ?_
   refine WO.mv rfl (WO.nil (zN (WC.ret (thenC_ret ?_))))
   exact⟨_,_,rfl,rfl,0,some 1,C,rfl,by rw[hins];rfl,.inl ⟨rfl,rfl,rfl,hlt⟩⟩
 have hkl:k<l:=by
  have:k≠l:=fun e=>hkl (by rw[e])
  omega
 have hins:insL cs (k*2) xs=cs.take (k*2)++(xs++cs.drop (k*2)):=rfl
 refine WO.nil (zN (WC.cond_false rfl (WC.skip (zN ?_))))
 refine WC.seq (WC.seq (WC.ops (WO.mv rfl (WO.mv rfl (WO.pure (v:=jI (l+1)) (pv_addN rfl rfl (by omega)) (WO.mv rfl (WO.pure (v:=jI C) (pv_cap1 rfl) ?_)))))))
 refine WO.gtrS rfl rfl (fun hgt=>?_) (fun hgt=>?_)
 ·-- no room
  have hCl:C=l∧ra=[]:=by
   rcases hro with h|⟨h,_⟩
   ·exact h
   ·simp only[zO] at hgt;omega
  obtain⟨rfl,rfl⟩:=hCl
  clear hro hgt
  refine WO.nil (zN (WC.cond_true rfl (WC.seq (WC.ops (WO.mv rfl (WO.mv rfl ?_))))))
  refine WO.pure (v:=.slice (some ⟨0,0,some 1⟩) k C) (pv_slXhi rfl rfl (by omega) h0) (WO.mv rfl (WO.mv rfl (WO.pure (v:=jI (C+1)) (pv_addN rfl rfl (by omega)) (WO.mv rfl (WO.pure (v:=jI (C+1-k)) (pv_subN rfl rfl (by omega) (by omega)) ?_)))))
  have hl0:(⟨[],[(1,.cells xs),(0,.grown 2 67 (cs++[]))],2⟩:Mem X).loads (some ⟨0,0,none⟩) (k*2)=some (cs.take (k*2)):=by
   rw[ldsZ (ob:=.grown 2 67 (cs++[])) rfl rfl (by rw[List.append_nil];omega),List.append_nil,List.drop_zero]
  have e1:k+(C+1-k)=C+1:=by omega
  have hz:(rows (C+1-k) [Value.int .u64 (.ofNat 0),.int .u64 (.ofNat 0)]).length=(C+1-k)*2:=by
   unfold rows
   simp
  generalize hZ:rows (C+1-k) [Value.int .u64 (.ofNat 0),.int .u64 (.ofNat 0)]=Zs at hz
  refine WO.step (i:=.appz 40 2 16 67 [.int .u64 (.ofNat 0),.int .u64 (.ofNat 0)] (.t 34) (.t 39)) (v:=.slice (some ⟨2,0,none⟩) (C+1) (C+1)) (m':=⟨[],[(2,.grown 2 67 (cs.take (k*2)++Zs)),(1,.cells xs),(0,.grown 2 67 (cs++[]))],3⟩) ?_ ?_
  ·have h:=estep_appz (call:=run FA (fun _=>false) hook (n+1)) (m:=⟨[],[(1,.cells xs),(0,.grown 2 67 (cs++[]))],2⟩) (d:=40) (e:=2) (b:=16) (t:=67) (i:=0) (o:=0) (l:=k) (cp:=C) (k:=C+1-k) (x:=.t 34) (y:=.t 39) (z:=[.int .u64 (.ofNat 0),.int .u64 (.ofNat 0)]) (old:=cs.take (k*2)) (ob:=.grown 2 67 (cs++[])) (env:=(39,jI (C+1-k))::(38,jI k)::(37,jI (C+1))::(36,jI 1)::(35,jI C)::(34,.slice (some ⟨0,0,some 1⟩) k C)::[]) rfl rfl rfl rfl (by omega) (by omega) (roomy1 (by omega)) hl0
   rw[e1,hZ] at h
   exact h
  have hlA:(cs.take (k*2)).length=k*2:=by rw[List.length_take];omega
  refine WO.mv rfl (WO.nil (zN (WC.seq (WC.ops (WO.mv rfl (WO.mv rfl (WO.pure (v:=.slice (some ⟨2,0+k*2,none⟩) (C+1-k) (C+1-k)) (pv_slPlo rfl rfl (by omega) (Nat.le_refl _) (by omega)) (WO.mv rfl ?_))))))))
  have hx3:(⟨[],[(2,.grown 2 67 (cs.take (k*2)++Zs)),(1,.cells xs),(0,.grown 2 67 (cs++[]))],3⟩:Mem X).loads (some ⟨1,0,none⟩) (1*2)=some xs:=by
   rw[ldsZ (ob:=.cells xs) (cs:=xs) rfl rfl (by omega),List.drop_zero,Nat.one_mul,← hxs,List.take_length]
  have hst:(⟨[],[(2,.grown 2 67 (cs.take (k*2)++Zs)),(1,.cells xs),(0,.grown 2 67 (cs++[]))],3⟩:Mem X).store ⟨2,0+k*2,none⟩ xs=some ⟨[],[(2,.grown 2 67 (cs.take (k*2)++(xs++Zs.drop 2))),(1,.cells xs),(0,.grown 2 67 (cs++[]))],3⟩:=by
   have h:=mem_stH (X:=X) (ob:=.grown 2 67 (cs.take (k*2)++Zs)) (nx:=3) (vs:=xs) (o:=0+k*2) (ob':=.grown 2 67 (cs.take (k*2)++(xs++Zs.drop 2))) (tbl:=[(2,.grown 2 67 (cs.take (k*2)++Zs)),(1,AObj.cells xs),(0,.grown 2 67 (cs++[]))]) (i:=2) rfl rfl (by rw[List.length_append,hlA,hz,hxs];omega) (by
    rw[splice_eq _ _ _ (by rw[List.length_append,hlA,hz,hxs];omega),Nat.zero_add,List.take_left' hlA,List.drop_append,List.drop_eq_nil_of_le (by omega),hlA,List.nil_append,show k*2+xs.length-k*2=2 by omega,List.append_assoc]
    rfl)
   rw[updH] at h
   exact h
  refine WO.step (i:=.copy 45 2 (.t 43) (.t 44)) (estep_cpS (k:=1) rfl rfl (by rw[ble_yes (show 1≤C+1-k by omega),cond_true]) (by decide) hx3 hst) ?_
  refine WO.nil (zN (WC.seq (WC.drawnW ?_)))
  have hS:∀nx,(⟨[],[(2,.grown 2 67 (cs.take (k*2)++(xs++Zs.drop 2))),(1,AObj.cells xs),(0,AObj.grown 2 67 (cs++[]))],nx⟩:Mem X).loads (some ⟨0,0+k*2,some 1⟩) ((C-k)*2)=some (cs.drop (k*2)):=fun nx=>by
   rw[ldsZ (ob:=.grown 2 67 (cs++[])) rfl rfl (by rw[List.append_nil];omega),List.append_nil,Nat.zero_add,List.take_of_length_le (by rw[List.length_drop];omega)]
  have hst2:∀nx,(⟨[],[(2,.grown 2 67 (cs.take (k*2)++(xs++Zs.drop 2))),(1,AObj.cells xs),(0,AObj.grown 2 67 (cs++[]))],nx⟩:Mem X).store ⟨2,0+(k+1)*2,none⟩ (cs.drop (k*2))=some ⟨[],[(2,.grown 2 67 (cs.take (k*2)++(xs++cs.drop (k*2)))),(1,AObj.cells xs),(0,AObj.grown 2 67 (cs++[]))],nx⟩:=fun nx=>by
   have hld:(cs.drop (k*2)).length=(C-k)*2:=by rw[List.length_drop];omega
   have hzd:(Zs.drop 2).length=(C-k)*2:=by rw[List.length_drop,hz];omega
   have hax:(cs.take (k*2)++xs).length=0+(k+1)*2:=by rw[List.length_append,hlA];omega
   have h:=mem_stH (X:=X) (ob:=.grown 2 67 (cs.take (k*2)++(xs++Zs.drop 2))) (nx:=nx) (vs:=cs.drop (k*2)) (o:=0+(k+1)*2) (ob':=.grown 2 67 (cs.take (k*2)++(xs++cs.drop (k*2)))) (tbl:=[(2,.grown 2 67 (cs.take (k*2)++(xs++Zs.drop 2))),(1,AObj.cells xs),(0,AObj.grown 2 67 (cs++[]))]) (i:=2) rfl rfl (by rw[← List.append_assoc,List.length_append,hax,hzd,hld];omega) (by
    rw[← List.append_assoc,splice_end (by rw[List.length_append,hax,hzd,hld]),List.take_left' hax,List.append_assoc]
    rfl)
   rw[updH] at h
   exact h
  refine WD.pure (v:=.slice (some ⟨2,0,none⟩) (C+1) (C+1)) (evOut rfl rfl rfl) (WD.pure (v:=jI k) (evOut rfl rfl rfl) (WD.pure (v:=jI 1) (evOut rfl rfl rfl) (WD.pure (v:=jI (k+1)) (pv_addN rfl rfl (by omega)) ?_)))
  refine WD.pure (v:=.slice (some ⟨2,0+(k+1)*2,none⟩) (C+1-(k+1)) (C+1-(k+1))) (pv_slPlo rfl rfl (by omega) (Nat.le_refl _) (by omega)) (WD.pure (v:=.slice (some ⟨0,0,some 1⟩) C C) (evOut rfl rfl rfl) (WD.pure (v:=jI k) (evOut rfl rfl rfl) (WD.pure (v:=.slice (some ⟨0,0+k*2,some 1⟩) (C-k) (C-k)) (pv_slXlo rfl rfl (by omega) (Nat.le_refl _) (by omega)) ?_)))
  refine WD.chn (m:=⟨[],[(2,.grown 2 67 (cs.take (k*2)++(xs++Zs.drop 2))),(1,AObj.cells xs),(0,AObj.grown 2 67 (cs++[]))],3+9⟩) (m':=⟨[],[(2,.grown 2 67 (cs.take (k*2)++(xs++cs.drop (k*2)))),(1,AObj.cells xs),(0,AObj.grown 2 67 (cs++[]))],3+9⟩) (v:=jI (C-k)) rfl rfl rfl (estep_cpS (k:=C-k) rfl rfl (by rw[ble_yes (show C-k≤C+1-(k+1) by omega),cond_true]) (by omega) (hS _) (hst2 _)) (WD.nil ⟨rfl,_,_,rfl,?_⟩)
  refine zN (WC.seq (WC.ops (WO.mv (m:=⟨[],[(2,.grown 2 67 (cs.take (k*2)++(xs++cs.drop (k*2)))),(1,AObj.cells xs),(0,AObj.grown 2 67 (cs++[]))],3+9⟩) rfl (WO.mv rfl (WO.nil (zN (WC.ret (thenC_ret ?_))))))))
  exact⟨_,_,rfl,rfl,2,none,C+1,rfl,rfl,.inr ⟨rfl,rfl⟩⟩
 ·have hC:C≠l∧ra.length=2:=by
   rcases hro with⟨h,_⟩|⟨h,h2⟩
   ·simp only[zO] at hgt;omega
   ·exact⟨by omega,h2⟩
  obtain⟨hC,hra⟩:=hC
  clear hro hgt
  have hlr:(cs++ra).length=(l+1)*2:=by rw[List.length_append];omega
  have hld:(cs.drop (k*2)).length=(l-k)*2:=by rw[List.length_drop];omega
  refine WO.nil (zN (WC.cond_false rfl (WC.skip (zN ?_))))
  refine WC.seq (WC.ops (WO.mv rfl (WO.mv rfl (WO.mv rfl (WO.pure (v:=jI (l+1)) (pv_addN rfl rfl (by omega)) (WO.pure (v:=.slice (some ⟨0,0,some 1⟩) (l+1) C) (pv_slXhi (q:=l+1) (c:=C) rfl rfl (by omega) (by omega)) (WO.mv rfl (WO.nil (zN ?_)))))))))
  refine WC.seq (WC.seq (WC.ops (WO.mv rfl (WO.mv rfl (WO.mv rfl (WO.mv rfl (WO.pure (v:=jI (k+1)) (pv_addN rfl rfl (by omega)) (WO.pure (v:=.slice (some ⟨0,0+(k+1)*2,some 1⟩) (l+1-(k+1)) (C-(k+1))) (pv_slXlo (q:=k+1) (len:=l+1) (c:=C) rfl rfl (by omega) (by omega) (by omega)) ?_))))))))
  have hov:overlapsH [.slice (some ⟨1,0,none⟩) 1 1,.slice (some ⟨0,0+(k+1)*2,some 1⟩) (l+1-(k+1)) (C-(k+1))] (⟨[(1,AObj.cells xs),(0,AObj.grown 2 67 (cs++ra))],2⟩:Hp X)=some (.bool false,⟨[(1,AObj.cells xs),(0,AObj.grown 2 67 (cs++ra))],2⟩):=by
   have h1:Nat.blt 0 (cs++ra).length=true:=by rw[Nat.blt_eq];omega
   show(bif Nat.ble 0 xs.length&&Nat.blt 0 (cs++ra).length then _ else _)=_
   rw[ble_yes (Nat.zero_le _),h1]
   rfl
  refine WO.fcall (vs:=[.slice (some ⟨1,0,none⟩) 1 1,.slice (some ⟨0,0+(k+1)*2,some 1⟩) (l+1-(k+1)) (C-(k+1))]) rfl rfl ((run_hook (n:=n) (g:=overlapsH) h76).trans hov) ?_
  refine WO.pure (v:=.bool true) rfl (WO.nil (zN (WC.cond_true rfl (WC.seq (WC.drawnW ?_)))))
  have hS:∀nx,(⟨[],[(1,AObj.cells xs),(0,AObj.grown 2 67 (cs++ra))],nx⟩:Mem X).loads (some ⟨0,0+k*2,some 1⟩) ((l-k)*2)=some (cs.drop (k*2)):=fun nx=>by
   rw[ldsZ (ob:=.grown 2 67 (cs++ra)) rfl rfl (by rw[hlr];omega),Nat.zero_add,List.drop_append_of_le_length (by omega),List.take_left' hld]
  have hst2:∀nx,(⟨[],[(1,AObj.cells xs),(0,AObj.grown 2 67 (cs++ra))],nx⟩:Mem X).store ⟨0,0+(k+1)*2,none⟩ (cs.drop (k*2))=some ⟨[],[(1,AObj.cells xs),(0,AObj.grown 2 67 ((cs++ra).take ((k+1)*2)++cs.drop (k*2)))],nx⟩:=fun nx=>by
   refine mem_stH (X:=X) (ob:=.grown 2 67 (cs++ra)) rfl rfl (by rw[hlr,hld];omega) ?_
   rw[splice_end (by rw[hlr,hld];omega),Nat.zero_add]
   rfl
  refine WD.pure (v:=.slice (some ⟨0,0,some 1⟩) (l+1) C) (evOut rfl rfl rfl) (WD.pure (v:=jI k) (evOut rfl rfl rfl) (WD.pure (v:=jI 1) (evOut rfl rfl rfl) (WD.pure (v:=jI (k+1)) (pv_addN rfl rfl (by omega)) ?_)))
  refine WD.pure (v:=.slice (some ⟨0,0+(k+1)*2,some 1⟩) (l+1-(k+1)) (C-(k+1))) (pv_slXlo (q:=k+1) (len:=l+1) (c:=C) rfl rfl (by omega) (by omega) (by omega)) (WD.pure (v:=.slice (some ⟨0,0,some 1⟩) (l+1) C) (evOut rfl rfl rfl) (WD.pure (v:=jI k) (evOut rfl rfl rfl) (WD.pure (v:=.slice (some ⟨0,0+k*2,some 1⟩) (l+1-k) (C-k)) (pv_slXlo (q:=k) (len:=l+1) (c:=C) rfl rfl (by omega) (by omega) (by omega)) ?_)))
  have hbl:(bif Nat.ble (l+1-k) (l+1-(k+1)) then l+1-k else l+1-(k+1))=l-k:=by
   have h1:Nat.ble (l+1-k) (l+1-(k+1))=false:=by rw[← Bool.not_eq_true,Nat.ble_eq];omega
   rw[h1,cond_false];omega
  refine WD.chn (m:=⟨[],[(1,AObj.cells xs),(0,AObj.grown 2 67 (cs++ra))],2+9⟩) (m':=⟨[],[(1,AObj.cells xs),(0,AObj.grown 2 67 ((cs++ra).take ((k+1)*2)++cs.drop (k*2)))],2+9⟩) (v:=jI (l-k)) rfl rfl rfl (estep_cpS (k:=l-k) rfl rfl hbl (by omega) (hS _) (hst2 _)) (WD.nil ⟨rfl,_,_,rfl,?_⟩)
  refine zN (WC.seq (WC.ops (WO.mv (m:=⟨[],[(1,AObj.cells xs),(0,AObj.grown 2 67 ((cs++ra).take ((k+1)*2)++cs.drop (k*2)))],2+9⟩) rfl (WO.mv rfl (WO.pure (v:=.slice (some ⟨0,0+k*2,some 1⟩) (l+1-k) (C-k)) (pv_slXlo (q:=k) (len:=l+1) (c:=C) rfl rfl (by omega) (by omega) (by omega)) (WO.mv rfl ?_))))))
  have hx3:∀nx,(⟨[],[(1,AObj.cells xs),(0,AObj.grown 2 67 ((cs++ra).take ((k+1)*2)++cs.drop (k*2)))],nx⟩:Mem X).loads (some ⟨1,0,none⟩) (1*2)=some xs:=fun nx=>by
   rw[ldsZ (ob:=.cells xs) (cs:=xs) rfl rfl (by omega),List.drop_zero,Nat.one_mul,← hxs,List.take_length]
  have hst3:∀nx,(⟨[],[(1,AObj.cells xs),(0,AObj.grown 2 67 ((cs++ra).take ((k+1)*2)++cs.drop (k*2)))],nx⟩:Mem X).store ⟨0,0+k*2,none⟩ xs=some ⟨[],[(1,AObj.cells xs),(0,AObj.grown 2 67 (cs.take (k*2)++(xs++cs.drop (k*2))))],nx⟩:=fun nx=>by
   have hl1:((cs++ra).take ((k+1)*2)).length=(k+1)*2:=by rw[List.length_take,hlr];omega
   refine mem_stH (X:=X) (ob:=.grown 2 67 ((cs++ra).take ((k+1)*2)++cs.drop (k*2))) rfl rfl (by rw[List.length_append,hl1];omega) ?_
   rw[splice_eq _ _ _ (by rw[List.length_append,hl1];omega),Nat.zero_add,List.take_append_of_le_length (by omega),List.take_take,Nat.min_eq_left (by omega),List.take_append_of_le_length (by omega),List.drop_left' (by rw[hl1];omega),List.append_assoc]
   rfl
  refine WO.step (i:=.copy 82 2 (.t 80) (.t 81)) (estep_cpS (k:=1) rfl rfl (by rw[ble_yes (show 1≤l+1-k by omega),cond_true]) (by decide) (hx3 _) (hst3 _)) ?_
  refine WO.nil (zN (WC.seq (WC.ops (WO.mv rfl (WO.mv rfl (WO.nil (zN (WC.ret (thenC_ret ?_)))))))))
  exact⟨_,_,rfl,rfl,0,some 1,C,rfl,rfl,.inl ⟨rfl,rfl,rfl,by omega⟩⟩
end Go.AI
/- slices.Insert of one link, told: nothing is left to show. -/
namespace Go.AI
open Go.Proofs
variable {X:Type}{hook:Hook X}{E:Ext}{W0:World}
theorem ins_nil(h49:hook 49=none){n j nx:Nat}{xs:List Value}(hj:j<nx)(hxs:xs.length=2):InsN (run FA (fun _=>false) hook (n+1)) 49 2 67 j nx xs:=by
 suffices h:∃v h',run FA (fun _=>false) hook (n+1) 49 [.slice none 0 0,.int .i64 (.ofNat 0),.slice (some ⟨j,0,none⟩) 1 1] ⟨[(j,.cells xs)],nx⟩=some (v,h')∧(∃r,v = .slice (some ⟨r,0,none⟩) 1 1∧look r h'.tbl=some (.grown 2 67 xs)) by
  obtain⟨v,h',h1,r,h2,h3⟩:=h
  exact⟨v,h',r,h1,h2,h3⟩
 refine run_fn h49 fInsert (zL rfl) ?_
 dsimp only[iInsert,argsE]
 refine WC.seq (WC.ops (WO.mv rfl (WO.nil (zN (WC.seq (WC.ops (WO.mv rfl (WO.mv rfl (WO.pure (v:=.slice none 0 0) rfl (WO.nil (zN ?_)))))))))))
 refine WC.seq (WC.ops (WO.mv rfl (WO.len rfl (WO.mv rfl (WO.nil (zN ?_))))))
 refine WC.seq (WC.seq (WC.ops (WO.mv rfl (WO.pure (v:=.bool false) rfl (WO.nil (zN (WC.cond_false rfl (WC.skip (zN ?_)))))))))
 refine WC.seq (WC.ops (WO.mv rfl (WO.len rfl (WO.mv rfl (WO.nil (zN ?_))))))
 refine WC.seq (WC.seq (WC.ops (WO.mv rfl (WO.mv rfl (WO.pure (v:=.bool true) rfl ?_)))))
 refine WO.nil (zN (WC.cond_true rfl (WC.seq (WC.ops (WO.mv rfl (WO.mv rfl ?_))))))
 have hx:(⟨[],[(j,.cells xs)],nx⟩:Mem X).loads (some ⟨j,0,none⟩) (1*2)=some xs:=by
  rw[ldsZ (ob:=.cells xs) (cs:=xs) (by rw[zC,if_pos rfl]) rfl (by omega),List.drop_zero,Nat.one_mul,← hxs,List.take_length]
 refine WO.step (i:=.append 25 2 16 67 (.t 23) (.t 24)) (v:=.slice (some ⟨nx,0,none⟩) 1 1) (m':=⟨[],(nx,.grown 2 67 xs)::[(j,.cells xs)],nx+1⟩) (estep_appN (m:=⟨[],[(j,.cells xs)],nx⟩) (n:=1) (v:=.slice (some ⟨j,0,none⟩) 1 1) rfl rfl (by show(Mem.loads _ _ (1*2)).map _=_;rw[hx];rfl) (by decide) (roomy1 (by decide))) ?_
 refine WO.mv rfl (WO.nil (zN (WC.ret (thenC_ret ?_))))
 exact⟨_,_,rfl,rfl,nx,rfl,by show look nx ((nx,_)::_)=_;rw[zC,if_pos rfl]⟩
theorem overlaps_hook:HookOk E PZ W0 76 overlapsH :=
 overlaps_ok (tS:=54) (tR:=4) (e:=67) (size:=2) ⟨_,Tryz.func76,rfl,by kernel_rfl,by kernel_rfl,_,by kernel_rfl,fun _=>rfl⟩ Tryz.underlying54 (Tryz.sizeOf67)
def hIns{X:Type}:List (HookF X):=[(76,overlapsH)]
theorem hIns_ok:∀x∈hIns (X:=E.X),HookOk E PZ W0 x.1 x.2:=fun x hx=>by
 rw[List.mem_singleton.1 hx]
 exact overlaps_hook
theorem insH_ok:HookOk E PZ W0 49 (insertH 2 67) :=
 insert_ok (run_sound (esc:=escA) mixedZ (hookL_ok hIns_ok) 3) (fun C l k cs xs ra h1 h2 h3 h4 h5 h6=>ins_run (n:=1) rfl rfl h1 h2 h3 h4 h5 h6) (fun j nx xs h1 h2=>ins_nil (n:=2) rfl h1 h2)
end Go.AI
