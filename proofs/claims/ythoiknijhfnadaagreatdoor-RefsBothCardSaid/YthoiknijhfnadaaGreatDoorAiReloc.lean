/- A call that was walked from a small heap, whose objects bear numbers of their own, is a call from any heap in which these objects lie. No program is named here. -/
import Derived.Test.YthoiknijhfnadaaGreatDoorKHk
namespace Go.AI
variable {E0 E:Ext}
abbrev Rl:=Nat→Nat→Prop
def Cmp(R:Rl)(ρ ρ':Ren):Prop:=∀i k,R i k→ρ i=ρ' k
inductive RF(R:Rl):Value→Value→Prop
 |bool (b:Bool):RF R (.bool b) (.bool b)
 |int (k:IntKind) (n:Int):RF R (.int k n) (.int k n)
 |str (s:ByteArray):RF R (.string s) (.string s)
 |nilp:RF R (.pointer none) (.pointer none)
 |ptr {i k o:Nat} (h:R i k):RF R (.pointer (some ⟨i,o,none⟩)) (.pointer (some ⟨k,o,none⟩))
 |nils (l c:Nat):RF R (.slice none l c) (.slice none l c)
 |slc {i k o l c:Nat} {p:Option Nat} (h:R i k):RF R (.slice (some ⟨i,o,p⟩) l c) (.slice (some ⟨k,o,p⟩) l c)
 |nilm:RF R (.map none) (.map none)
 |mp {i k:Nat} (h:R i k):RF R (.map (some i)) (.map (some k))
 |nilf:RF R .nilFunc .nilFunc
 |nili:RF R .nilIface .nilIface
 |tok {i k:Nat} (h:R i k):RF R (.chan (some i)) (.chan (some k))
inductive RX(R:Rl):Value→Value→Prop
 |flat {a b:Value} (h:RF R a b):RX R a b
 |agg {xs ys:List Value} (h:All2 (RF R) xs ys):RX R (.agg ⟨xs⟩) (.agg ⟨ys⟩)
inductive RV(R:Rl):Value→Value→Prop
 |x {a b:Value} (h:RX R a b):RV R a b
 |tup {xs ys:List Value} (h:All2 (RX R) xs ys):RV R (.tuple ⟨xs⟩) (.tuple ⟨ys⟩)
theorem RV.of_flat{R:Rl}{a b:Value}(h:RF R a b):RV R a b:=.x (.flat h)
theorem All2.fw{α β γ:Type}{A:α→β→Prop}{B:α→γ→Prop}{C:β→γ→Prop}(h:∀a b c,A a b→B a c→C b c):∀{x y z},All2 A x y→All2 B x z→All2 C y z
 |_,_,_,.nil,.nil=>.nil
 |_,_,_,.cons a t,.cons b t'=>.cons (h _ _ _ a b) (t.fw h t')
theorem All2.bw{α β γ:Type}{A:α→β→Prop}{B:α→γ→Prop}{C:β→γ→Prop}(h:∀a b c,A a b→C b c→B a c):∀{x y z},All2 A x y→All2 C y z→All2 B x z
 |_,_,_,.nil,.nil=>.nil
 |_,_,_,.cons a t,.cons b t'=>.cons (h _ _ _ a b) (t.bw h t')
theorem RF.fw{R:Rl}{ρ ρ':Ren}(hc:Cmp R ρ ρ'){a b c:Value}(r:RF R a b)(h:FR ρ a c):FR ρ' b c:=by
 cases r with
 |bool=>cases h;exact .bool _
 |int=>cases h;exact .int _ _
 |str=>cases h;exact .str _
 |nilp=>cases h;exact .nilp
 |ptr q=>cases h with|ptr e=>exact .ptr ((hc _ _ q).symm.trans e)
 |nils=>cases h;exact .nils _ _
 |slc q =>
  cases h with
  |slc e=>exact .slc ((hc _ _ q).symm.trans e)
  |slx e=>exact .slx ((hc _ _ q).symm.trans e)
  |slz e=>exact .slz ((hc _ _ q).symm.trans e)
 |nilm=>cases h;exact .nilm
 |mp q=>cases h with|mp e=>exact .mp ((hc _ _ q).symm.trans e)
 |nilf=>cases h;exact .nilf
 |nili=>cases h;exact .nili
 |tok q=>cases h with|tok e=>exact .tok ((hc _ _ q).symm.trans e)
theorem RF.bw{R:Rl}{ρ ρ':Ren}(hc:Cmp R ρ ρ'){a b c:Value}(r:RF R a b)(h:FR ρ' b c):FR ρ a c:=by
 cases r with
 |bool=>cases h;exact .bool _
 |int=>cases h;exact .int _ _
 |str=>cases h;exact .str _
 |nilp=>cases h;exact .nilp
 |ptr q=>cases h with|ptr e=>exact .ptr ((hc _ _ q).trans e)
 |nils=>cases h;exact .nils _ _
 |slc q =>
  cases h with
  |slc e=>exact .slc ((hc _ _ q).trans e)
  |slx e=>exact .slx ((hc _ _ q).trans e)
  |slz e=>exact .slz ((hc _ _ q).trans e)
 |nilm=>cases h;exact .nilm
 |mp q=>cases h with|mp e=>exact .mp ((hc _ _ q).trans e)
 |nilf=>cases h;exact .nilf
 |nili=>cases h;exact .nili
 |tok q=>cases h with|tok e=>exact .tok ((hc _ _ q).trans e)
theorem RX.fw{R:Rl}{ρ ρ':Ren}(hc:Cmp R ρ ρ'){a b c:Value}(r:RX R a b)(h:XR ρ a c):XR ρ' b c:=by
 cases r with
 |flat r =>
  cases h with
  |flat h=>exact .flat (r.fw hc h)
  |agg h=>cases r
 |agg r =>
  cases h with
  |flat h=>cases h
  |agg h=>exact .agg (All2.fw (A:=RF R) (B:=FR ρ) (C:=FR ρ') (fun _ _ _ r h=>RF.fw hc r h) r h)
theorem RX.bw{R:Rl}{ρ ρ':Ren}(hc:Cmp R ρ ρ'){a b c:Value}(r:RX R a b)(h:XR ρ' b c):XR ρ a c:=by
 cases r with
 |flat r =>
  cases h with
  |flat h=>exact .flat (r.bw hc h)
  |agg h=>cases r
 |agg r =>
  cases h with
  |flat h=>cases h
  |agg h=>exact .agg (All2.bw (A:=RF R) (B:=FR ρ) (C:=FR ρ') (fun _ _ _ r h=>RF.bw hc r h) r h)
theorem RV.fw{R:Rl}{ρ ρ':Ren}(hc:Cmp R ρ ρ'){a b c:Value}(r:RV R a b)(h:VR ρ a c):VR ρ' b c:=by
 cases r with
 |x r =>
  cases h with
  |x h=>exact .x (r.fw hc h)
  |tup h=>cases r with|flat r=>cases r
 |tup r =>
  cases h with
  |x h=>cases h with|flat h=>cases h
  |tup h=>exact .tup (All2.fw (A:=RX R) (B:=XR ρ) (C:=XR ρ') (fun _ _ _ r h=>RX.fw hc r h) r h)
theorem RV.bw{R:Rl}{ρ ρ':Ren}(hc:Cmp R ρ ρ'){a b c:Value}(r:RV R a b)(h:VR ρ' b c):VR ρ a c:=by
 cases r with
 |x r =>
  cases h with
  |x h=>exact .x (r.bw hc h)
  |tup h=>cases r with|flat r=>cases r
 |tup r =>
  cases h with
  |x h=>cases h with|flat h=>cases h
  |tup h=>exact .tup (All2.bw (A:=RX R) (B:=XR ρ) (C:=XR ρ') (fun _ _ _ r h=>RX.bw hc r h) r h)
def Same2(f:E0.X→E.X):Prop:=∀x b F D w,E0.rel x b F D w↔E.rel (f x) b F D w
inductive RO(f:E0.X→E.X)(R:Rl):AObj E0.X→AObj E.X→Prop
 |cells {cs ds:List Value} (h:All2 (RF R) cs ds):RO f R (.cells cs) (.cells ds)
 |grown (e t:Nat) {cs ds:List Value} (h:All2 (RF R) cs ds):RO f R (.grown e t cs) (.grown e t ds)
 |typed (t:Nat) {cs ds:List Value} (h:All2 (RF R) cs ds):RO f R (.typed t cs) (.typed t ds)
 |ro (k:Nat) {cs ds:List Value} (h:All2 (RF R) cs ds):RO f R (.ro k cs) (.ro k ds)
 |ext (x:E0.X):RO f R (.ext x) (.ext (f x))
theorem RO.fw{f:E0.X→E.X}(hf:Same2 f){R:Rl}{ρ ρ':Ren}(hc:Cmp R ρ ρ'){o:AObj E0.X}{o':AObj E.X}(r:RO f R o o'){b s:Nat}{F D:Nat→Prop}{w:World}(h:ObjR E0 ρ o b s F D w):ObjR E ρ' o' b s F D w:=by
 cases r with
 |cells r =>
  obtain⟨h1,h2,h3,cs',e,f,h4,h5,h6⟩:=h
  exact⟨h1,h2,h3,cs',e,f,h4,All2.fw (A:=RF R) (B:=FR ρ) (C:=FR ρ') (fun _ _ _ r h=>RF.fw hc r h) r h5,h6⟩
 |typed t r =>
  obtain⟨h1,h2,h3,cs',e,f,h4,h5,h6⟩:=h
  exact⟨h1,h2,h3,cs',e,f,h4,All2.fw (A:=RF R) (B:=FR ρ) (C:=FR ρ') (fun _ _ _ r h=>RF.fw hc r h) r h5,h6⟩
 |grown ez t r =>
  obtain⟨h2,h3,cs',e,f,h4,h5,h6,h7⟩:=h
  have hl:=r.length
  exact⟨h2,h3,cs',e,f,h4,by rw[← hl];exact h5,by rw[← hl];exact All2.fw (A:=RF R) (B:=FR ρ) (C:=FR ρ') (fun _ _ _ r h=>RF.fw hc r h) r h6,by rw[← hl];exact h7⟩
 |ro k r =>
  obtain⟨h2,h3,cs',e,f,h4,h6,h5⟩:=h
  have hl:=r.length
  exact⟨h2,h3,cs',e,f,h4,by rw[← hl];exact h6,by rw[← hl];exact All2.fw (A:=RF R) (B:=FR ρ) (C:=FR ρ') (fun _ _ _ r h=>RF.fw hc r h) r h5⟩
 |ext x=>exact(hf _ _ _ _ _).1 h
theorem RO.bw{f:E0.X→E.X}(hf:Same2 f){R:Rl}{ρ ρ':Ren}(hc:Cmp R ρ ρ'){o:AObj E0.X}{o':AObj E.X}(r:RO f R o o'){b s:Nat}{F D:Nat→Prop}{w:World}(h:ObjR E ρ' o' b s F D w):ObjR E0 ρ o b s F D w:=by
 cases r with
 |cells r =>
  obtain⟨h1,h2,h3,cs',e,f,h4,h5,h6⟩:=h
  exact⟨h1,h2,h3,cs',e,f,h4,All2.bw (A:=RF R) (B:=FR ρ) (C:=FR ρ') (fun _ _ _ r h=>RF.bw hc r h) r h5,h6⟩
 |typed t r =>
  obtain⟨h1,h2,h3,cs',e,f,h4,h5,h6⟩:=h
  exact⟨h1,h2,h3,cs',e,f,h4,All2.bw (A:=RF R) (B:=FR ρ) (C:=FR ρ') (fun _ _ _ r h=>RF.bw hc r h) r h5,h6⟩
 |grown ez t r =>
  obtain⟨h2,h3,cs',e,f,h4,h5,h6,h7⟩:=h
  have hl:=r.length
  exact⟨h2,h3,cs',e,f,h4,by rw[hl];exact h5,All2.bw (A:=RF R) (B:=FR ρ) (C:=FR ρ') (fun _ _ _ r h=>RF.bw hc r h) r (by rw[hl];exact h6),by rw[hl];exact h7⟩
 |ro k r =>
  obtain⟨h2,h3,cs',e,f,h4,h6,h5⟩:=h
  have hl:=r.length
  exact⟨h2,h3,cs',e,f,h4,by rw[hl];exact h6,All2.bw (A:=RF R) (B:=FR ρ) (C:=FR ρ') (fun _ _ _ r h=>RF.bw hc r h) r (by rw[hl];exact h5)⟩
 |ext x=>exact(hf _ _ _ _ _).2 h
section
variable {W0:World}{ρ:Ren}{φ:Foot}{V:View E}{V0:View E0}{f:E0.X→E.X}{n n0:Nat}{w:World}{σ:Nat→Nat}
def rts(σ:Nat→Nat)(n0:Nat):Rl:=fun i k=>i<n0∧k=σ i
def rtn(σ:Nat→Nat)(n0:Nat)(τ:Nat→Nat)(n m:Nat):Rl:=fun i k=>(i<n0∧k=σ i)∨∃t,t<m∧i=τ t∧k=n+t
def smallρ(ρ:Ren)(σ:Nat→Nat)(n0:Nat):Ren:=fun i=>bif Nat.blt i n0 then ρ (σ i) else none
theorem smallρ_lt{i:Nat}(h:i<n0):smallρ ρ σ n0 i=ρ (σ i):=by
 have:Nat.blt i n0=true:=by rw[blt_iff,decide_eq_true_eq];exact h
 unfold smallρ;rw[this,cond_true]
theorem smallρ_ge{i:Nat}(h:n0≤i):smallρ ρ σ n0 i=none:=by
 have:Nat.blt i n0=false:=by rw[← Bool.not_eq_true,blt_iff,decide_eq_true_eq];omega
 unfold smallρ;rw[this,cond_false]
theorem cmp_small:Cmp (rts σ n0) (smallρ ρ σ n0) ρ:=fun i k ⟨h1,h2⟩=>by rw[smallρ_lt h1,h2]
theorem Good.small(hf:Same2 f)(g:Good W0 ρ φ V n w)(hinj:∀i j,i<n0→j<n0→σ i=σ j→i=j)
  (hV:∀i o,V0 i=some o→i<n0∧∃o',V (σ i)=some o'∧RO f (rts σ n0) o o'):Good W0 (smallρ ρ σ n0) (fun i=>φ (σ i)) V0 n0 w where
 dom:=fun i hi=>smallρ_ge hi
 rel:=fun i o hi=>by
  obtain⟨h1,o',h2,h3⟩:=hV i o hi
  obtain⟨b,s,h4,h5⟩:=g.rel _ _ h2
  exact⟨b,s,(smallρ_lt h1).trans h4,h3.bw hf cmp_small h5⟩
 dis:=fun i j oi oj b hi hj hne hF hD=>by
  obtain⟨h1,o',h2,_⟩:=hV i oi hi
  obtain⟨h3,o'',h4,_⟩:=hV j oj hj
  exact g.dis _ _ _ _ b h2 h4 (fun e=>hne (hinj i j h1 h3 e)) hF hD
 sub:=fun i o b hi hF=>by
  obtain⟨h1,o',h2,_⟩:=hV i o hi
  exact g.sub _ _ b h2 hF
 lts:=fun i o b hi hF=>by
  obtain⟨h1,o',h2,_⟩:=hV i o hi
  exact g.lts _ _ b h2 hF
 frs:=fun i o b hi hF=>by
  obtain⟨h1,o',h2,_⟩:=hV i o hi
  exact g.frs _ _ b h2 hF
 size:=g.size
 base:=g.base
 os:=g.os
 out:=g.out
open Classical in
noncomputable def bigφ(φ φ0':Foot)(σ:Nat→Nat)(n0:Nat)(τ:Nat→Nat)(n:Nat):Foot:=fun k =>
 if h:∃i,i<n0∧σ i=k then φ0' (Classical.choose h) else if k<n then φ k else φ0' (τ (k-n))
def bigρ(ρ ρ0':Ren)(τ:Nat→Nat)(n m:Nat):Ren:=fun k=>if k<n then ρ k else if k<n+m then ρ0' (τ (k-n)) else none
theorem Post.big(hf:Same2 f){V0':View E0}{V':View E}{ρ0':Ren}{φ0':Foot}{n0' m:Nat}{τ:Nat→Nat}{w':World}(g:Good W0 ρ φ V n w)(hσ:∀i,i<n0→σ i<n)(hinj:∀i j,i<n0→j<n0→σ i=σ j→i=j)
  (hV:∀i o,V0 i=some o→i<n0∧∃o',V (σ i)=some o'∧RO f (rts σ n0) o o')
  (hτ:∀t,t<m→n0≤τ t) (hτi:∀t u,t<m→u<m→τ t=τ u→t=u)
  (p:Post (E:=E0) W0 (smallρ ρ σ n0) (fun i=>φ (σ i)) V0 n0 w ρ0' φ0' V0' n0' w')
  (hV':∀k o,V' k=some o→(∃i o',rtn σ n0 τ n m i k∧V0' i=some o'∧RO f (rtn σ n0 τ n m) o' o)∨(V k=some o∧∀i,i<n0→σ i≠k)) :
  Cmp (rtn σ n0 τ n m) ρ0' (bigρ ρ ρ0' τ n m)∧Post W0 ρ φ V n w (bigρ ρ ρ0' τ n m) (bigφ φ φ0' σ n0 τ n) V' (n+m) w':=by
 have hcmp:Cmp (rtn σ n0 τ n m) ρ0' (bigρ ρ ρ0' τ n m):=by
  rintro i k (⟨h1,rfl⟩|⟨t,h1,rfl,rfl⟩)
  ·have:=hσ i h1
   rw[p.old i h1,smallρ_lt h1,bigρ,if_pos this]
  ·rw[bigρ,if_neg (by omega),if_pos (by omega),show n+t-n=t by omega]
 have hφ:∀i k,rtn σ n0 τ n m i k→bigφ φ φ0' σ n0 τ n k=φ0' i:=by
  rintro i k (⟨h1,rfl⟩|⟨t,h1,rfl,rfl⟩)
  ·have h:∃j,j<n0∧σ j=σ i:=⟨i,h1,rfl⟩
   have h2:=Classical.choose_spec h
   unfold bigφ
   rw[dif_pos h,hinj _ _ h2.1 h1 h2.2]
  ·have h:¬∃j,j<n0∧σ j=n+t:=fun⟨j,h2,h3⟩=>by have:=hσ j h2;omega
   unfold bigφ
   rw[dif_neg h,if_neg (by omega),show n+t-n=t by omega]
 have hφo:∀k o,V k=some o→(∀i,i<n0→σ i≠k)→bigφ φ φ0' σ n0 τ n k=φ k:=by
  intro k o hk hn
  have h:¬∃j,j<n0∧σ j=k:=fun⟨j,h2,h3⟩=>hn j h2 h3
  unfold bigφ
  rw[dif_neg h,if_pos (g.lt hk)]
 have hle:ρ.le (bigρ ρ ρ0' τ n m):=fun k x hk=>by
  have:k<n:=g.known hk
  rw[bigρ,if_pos this];exact hk
 have hfun:∀i i' k k',rtn σ n0 τ n m i k→rtn σ n0 τ n m i' k'→k≠k'→i≠i':=by
  rintro i i' k k' (⟨h1,rfl⟩|⟨t,h1,rfl,rfl⟩) (⟨h2,rfl⟩|⟨u,h2,rfl,rfl⟩) hne e
  ·exact hne (by rw[e])
  ·have:=hτ u h2;omega
  ·have:=hτ t h1;omega
  ·exact hne (by rw[hτi t u h1 h2 e])
 have hF:∀i o c,V0' i=some o→(φ0' i).1 c→w.heap.size≤c∨∃j oj,j<n0∧V (σ j)=some oj∧(φ (σ j)).1 c:=fun i o c hi hc=>by
  rcases p.fF i o c hi hc with h|⟨j,oj,h1,h2⟩
  ·exact .inl h
  ·obtain⟨h3,o',h4,_⟩:=hV j oj h1
   exact .inr ⟨j,o',h3,h4,h2⟩
 have hD:∀i o c,V0' i=some o→(φ0' i).2 c→w.heap.size≤c∨∃j oj,j<n0∧V (σ j)=some oj∧(φ (σ j)).2 c:=fun i o c hi hc=>by
  rcases p.fD i o c hi hc with h|⟨j,oj,h1,h2⟩
  ·exact .inl h
  ·obtain⟨h3,o',h4,_⟩:=hV j oj h1
   exact .inr ⟨j,o',h3,h4,h2⟩
 have hkeep:∀c,c<w.heap.size→(∀j oj,j<n0→V (σ j)=some oj→¬(φ (σ j)).1 c)→w'.heap[c]? = w.heap[c]? := fun c hc hn =>
  p.keep c hc fun i o hi hFi=>by
   obtain⟨h3,o',h4,_⟩:=hV i o hi
   exact hn i o' h3 h4 hFi
 refine⟨hcmp,⟨⟨?_,?_,?_,?_,?_,?_,p.good.size,p.good.base,p.good.os,p.good.out⟩,hle,by omega,p.sz,fun c hc hn=>hkeep c hc fun j oj _ hj=>hn _ oj hj,?_,?_,?_,fun i hi=>by rw[bigρ,if_pos hi]⟩⟩
 ·intro k hk
  rw[bigρ,if_neg (by omega),if_neg (by omega)]
 ·intro k o hk
  rcases hV' k o hk with⟨i,o',h1,h2,h3⟩|⟨h1,h2⟩
  ·obtain⟨b,s,h4,h5⟩:=p.good.rel i o' h2
   refine⟨b,s,(hcmp i k h1).symm.trans h4,?_⟩
   rw[hφ i k h1]
   exact h3.fw hf hcmp h5
  ·obtain⟨b,s,h3,h4⟩:=g.rel k o h1
   refine⟨b,s,hle _ _ h3,?_⟩
   rw[hφo k o h1 h2]
   exact h4.frame hle fun c hc=>hkeep c (g.lts k o c h1 hc) fun j oj hj hoj hFj=>g.dis (σ j) k oj o c hoj h1 (h2 j hj) hFj hc
 ·intro k l ok ol c hk hl hne hFk hDl
  rcases hV' k ok hk with⟨i,o',h1,h2,h3⟩|⟨h1,h2⟩
  ·rw[hφ i k h1] at hFk
   rcases hV' l ol hl with⟨i',o'',h1',h2',h3'⟩|⟨h1',h2'⟩
   ·rw[hφ i' l h1'] at hDl
    exact p.good.dis i i' o' o'' c h2 h2' (hfun i i' k l h1 h1' hne) hFk hDl
   ·rw[hφo l ol h1' h2'] at hDl
    rcases hF i o' c h2 hFk with h|⟨j,oj,h4,h5,h6⟩
    ·have:=g.lts l ol c h1' hDl;omega
    ·exact g.dis (σ j) l oj ol c h5 h1' (h2' j h4) h6 hDl
  ·rw[hφo k ok h1 h2] at hFk
   rcases hV' l ol hl with⟨i',o'',h1',h2',h3'⟩|⟨h1',h2'⟩
   ·rw[hφ i' l h1'] at hDl
    rcases hD i' o'' c h2' hDl with h|⟨j,oj,h4,h5,h6⟩
    ·have:=g.lts k ok c h1 (g.sub k ok c h1 hFk);omega
    ·exact g.dis k (σ j) ok oj c h1 h5 (fun e=>h2 j h4 e.symm) hFk h6
   ·rw[hφo l ol h1' h2'] at hDl
    exact g.dis k l ok ol c h1 h1' hne hFk hDl
 ·intro k o c hk hFk
  rcases hV' k o hk with⟨i,o',h1,h2,h3⟩|⟨h1,h2⟩
  ·rw[hφ i k h1] at hFk ⊢
   exact p.good.sub i o' c h2 hFk
  ·rw[hφo k o h1 h2] at hFk ⊢
   exact g.sub k o c h1 hFk
 ·intro k o c hk hDk
  rcases hV' k o hk with⟨i,o',h1,h2,h3⟩|⟨h1,h2⟩
  ·rw[hφ i k h1] at hDk
   exact p.good.lts i o' c h2 hDk
  ·rw[hφo k o h1 h2] at hDk
   have:=g.lts k o c h1 hDk
   have:=p.sz
   omega
 ·intro k o c hk hFk
  rcases hV' k o hk with⟨i,o',h1,h2,h3⟩|⟨h1,h2⟩
  ·rw[hφ i k h1] at hFk
   exact p.good.frs i o' c h2 hFk
  ·rw[hφo k o h1 h2] at hFk
   exact g.frs k o c h1 hFk
 ·intro k o c hk hFk
  rcases hV' k o hk with⟨i,o',h1,h2,h3⟩|⟨h1,h2⟩
  ·rw[hφ i k h1] at hFk
   rcases hF i o' c h2 hFk with h|⟨j,oj,_,h5,h6⟩
   ·exact .inl h
   ·exact .inr ⟨σ j,oj,h5,h6⟩
  ·rw[hφo k o h1 h2] at hFk
   exact .inr ⟨k,o,h1,hFk⟩
 ·intro k o c hk hDk
  rcases hV' k o hk with⟨i,o',h1,h2,h3⟩|⟨h1,h2⟩
  ·rw[hφ i k h1] at hDk
   rcases hD i o' c h2 hDk with h|⟨j,oj,_,h5,h6⟩
   ·exact .inl h
   ·exact .inr ⟨σ j,oj,h5,h6⟩
  ·rw[hφo k o h1 h2] at hDk
   exact .inr ⟨k,o,h1,hDk⟩
 ·intro k o hk
  rcases hV' k o hk with⟨i,o',h1,h2,h3⟩|⟨h1,h2⟩
  ·rcases h1 with⟨h1,rfl⟩|⟨t,h1,rfl,rfl⟩
   ·rcases p.ids i o' h2 with h|⟨oi,h⟩
    ·omega
    ·obtain⟨_,o'',h4,_⟩:=hV i oi h
     exact .inr ⟨o'',h4⟩
   ·exact .inl (by omega)
  ·exact .inr ⟨o,h1⟩
end
theorem reloc{P:Program}{W0:World}{g:E0.X→E.X}(hg:Same2 g){call:CallFn E0.X}(hC:CallsOk E0 P W0 call){f:Nat}{vs0:List Value}{h0:Hp E0.X}{v0:Value}{h0':Hp E0.X}(hr:call f vs0 h0=some (v0,h0'))
  {vs:List Value} {h:Hp E.X} {v:Value} {h':Hp E.X} {σ τ:Nat→Nat} {m:Nat}
  (hσ:∀i,i<h0.next→σ i<h.next) (hinj:∀i j,i<h0.next→j<h0.next→σ i=σ j→i=j)
  (hargs:All2 (RV (rts σ h0.next)) vs0 vs)
  (hV:∀i o,look i h0.tbl=some o→i<h0.next∧∃o',look (σ i) h.tbl=some o'∧RO g (rts σ h0.next) o o')
  (hτ:∀t,t<m→h0.next≤τ t) (hτi:∀t u,t<m→u<m→τ t=τ u→t=u)
  (hres:RV (rtn σ h0.next τ h.next m) v0 v) (hn:h'.next=h.next+m)
  (hV':∀k o,look k h'.tbl=some o→(∃i o',rtn σ h0.next τ h.next m i k∧look i h0'.tbl=some o'∧RO g (rtn σ h0.next τ h.next m) o' o)∨(look k h.tbl=some o∧∀i,i<h0.next→σ i≠k))
  {ρ:Ren} {φ:Foot} {w:World} (hG:Good (E:=E) W0 ρ φ (fun i=>look i h.tbl) h.next w) {vs':List Value} (hvs:All2 (VR ρ) vs vs') :
  ((∃fn c,P.funcs[f]? = some fn∧fn.body=some c∧(fn.name == "runtime.NumGoroutine")=false) ∧
  Calls P f ⟨vs'⟩ w fun e w'=>∃v' ρ' φ',e = .returned v'∧VR ρ' v v'∧Post (E:=E) W0 ρ φ (fun i=>look i h.tbl) h.next w ρ' φ' (fun i=>look i h'.tbl) h'.next w') ∨
  ∃v' w' ρ' φ',(callFunc f ⟨vs'⟩).run P w = .ok (.value v') w'∧VR ρ' v v'∧Post (E:=E) W0 ρ φ (fun i=>look i h.tbl) h.next w ρ' φ' (fun i=>look i h'.tbl) h'.next w':=by
 have g0:=hG.small (V0:=fun i=>look i h0.tbl) hg hinj hV
 have hvs0:All2 (VR (smallρ ρ σ h0.next)) vs0 vs':=All2.bw (A:=RV (rts σ h0.next)) (B:=VR (smallρ ρ σ h0.next)) (C:=VR ρ) (fun _ _ _ r q=>RV.bw cmp_small r q) hargs hvs
 have key:∀v' w' ρ0' φ0',VR ρ0' v0 v'→Post (E:=E0) W0 (smallρ ρ σ h0.next) (fun i=>φ (σ i)) (fun i=>look i h0.tbl) h0.next w ρ0' φ0' (fun i=>look i h0'.tbl) h0'.next w' →
   ∃ρ' φ',VR ρ' v v'∧Post (E:=E) W0 ρ φ (fun i=>look i h.tbl) h.next w ρ' φ' (fun i=>look i h'.tbl) h'.next w':=by
  intro v' w' ρ0' φ0' hv hp
  obtain⟨h1,h2⟩:=Post.big (V':=fun i=>look i h'.tbl) hg hG hσ hinj hV hτ hτi hp hV'
  rw[hn]
  exact⟨_,_,hres.fw h1 hv,h2⟩
 rcases hC f vs0 h0 v0 h0' hr _ _ w g0 vs' hvs0 with⟨h1,h2⟩|⟨v',w',ρ0',φ0',h1,h2,h3⟩
 ·refine .inl ⟨h1,calls_mono h2 ?_⟩
  rintro e w' ⟨v',ρ0',φ0',rfl,h3,h4⟩
  obtain⟨ρ',φ',h5,h6⟩:=key v' w' ρ0' φ0' h3 h4
  exact⟨v',ρ',φ',rfl,h5,h6⟩
 ·obtain⟨ρ',φ',h5,h6⟩:=key v' w' ρ0' φ0' h2 h3
  exact .inr ⟨v',w',ρ',φ',h1,h5,h6⟩
end Go.AI
