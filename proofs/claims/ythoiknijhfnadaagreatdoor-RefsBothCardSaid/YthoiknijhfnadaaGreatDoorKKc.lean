/- Functions in the evaluator's form: printed by a program, held against the program by the kernel. -/
import Derived.Test.YthoiknijhfnadaaGreatDoorIfn
import Derived.Test.YthoiknijhfnadaaGreatDoorKKb
namespace Go.AI
end Go.AI
/- Rows of links: what is said of them, walked. -/
namespace Go.AI
open Go.Proofs
variable {x:Ar}{tbl t' t'':List (Nat×AObj Ar)}{nx n' n'' j a s i w z ty lo:Nat}{L M:List (Nat×Nat)}
def RowT(ty lo:Nat)(t:List (Nat×AObj Ar))(n:Nat)(v:Value)(l:List (Nat×Nat)):Prop:=(l=[]∧v = .slice none 0 0)∨(l≠[]∧∃r,lo≤r∧r<n∧v = .slice (some ⟨r,0,none⟩) l.length l.length∧look r t=some (.grown 2 ty (lkC l)))
theorem RowK.toT{v:Value}(h:RowK lo tbl nx v L):RowT 67 lo tbl nx v L:=h
theorem RowT.kq{v:Value}{l:List (Nat×Nat)}(h:RowT ty lo tbl nx v l)(K:Kq tbl nx t' n'):RowT ty lo t' n' v l:=by
 rcases h with h|⟨h0,r,h1,h2,h3,h4⟩
 ·exact .inl h
 ·exact .inr ⟨h0,r,h1,Nat.lt_of_lt_of_le h2 K.1,h3,(K.2 r h2).trans h4⟩
theorem RowT.get{v:Value}(h:RowT ty lo tbl nx v L):∃ad,v = .slice ad L.length L.length∧(L≠[]→∃r,lo≤r∧r<nx∧ad=some ⟨r,0,none⟩∧look r tbl=some (.grown 2 ty (lkC L))):=by
 rcases h with⟨rfl,rfl⟩|⟨h0,r,h1,h2,rfl,h4⟩
 ·exact⟨none,rfl,fun h=>absurd rfl h⟩
 ·exact⟨_,rfl,fun _=>⟨r,h1,h2,rfl,h4⟩⟩
theorem WO.nst{call:CallFn Ar}{env:List (Nat×Value)}{K:List (Nat×Value)→Mem Ar→Prop}{l:List (Option (Nat×Bool)×IOp)}{d:Nat}{y:Opd}{c1 c2 a b:Value}(hy:evo ((d,.pointer (some ⟨nx,0,none⟩))::env) y=some (.agg ⟨[a,b]⟩))
  (k:WO call l ((d,.pointer (some ⟨nx,0,none⟩))::env) ⟨[],(nx,.cells [a,b])::tbl,nx+1⟩ K):WO call ((none,.new d true [c1,c2])::(none,.store 2 (.t d) y)::l) env ⟨[],tbl,nx⟩ K:=by
 refine WO.new (WO.step (i:=.store 2 (.t d) y) (v:=undef) (m':=⟨[],(nx,.cells [a,b])::tbl,nx+1⟩) ?_ k)
 have hm:=mem_store (nx:=nx+1) (vs:=[a,b]) (o:=0) (ob':=.cells [a,b]) (tbl:=(nx,AObj.cells [c1,c2])::tbl) (i:=nx) (by rw[zC,if_pos rfl]) rfl (zL rfl) rfl
 rw[updH] at hm
 exact estep_store (by show look d (_::_)=_;rw[zC,if_pos rfl]) hy rfl rfl hm
end Go.AI
/- Rows of links: are they the same;is somebody in one;walked. -/
namespace Go.AI
open Go.Proofs
variable {x:Ar}{tbl t' t'':List (Nat×AObj Ar)}{nx n' n'' j a s i w z ty lo lo2:Nat}{L M:List (Nat×Nat)}
end Go.AI
/- The document's links: Drop, and Add, walked. -/
namespace Go.AI
open Go.Proofs
variable {x:Ar}{tbl t' t'':List (Nat×AObj Ar)}{nx n' n'' j a s i w z ty lo lo2:Nat}{L M:List (Nat×Nat)}
def dropF(L:List (Nat×Nat))(w:Nat):List (Nat×Nat):=L.filter fun c=>decide (c.1≠w)
end Go.AI
/- The document's links: Add, walked. -/
namespace Go.AI
open Go.Proofs
variable {x:Ar}{tbl t' t'':List (Nat×AObj Ar)}{nx n' n'' j a s i w z ty lo lo2:Nat}{L M:List (Nat×Nat)}
end Go.AI
/- Links in a page: what is there behind Add, and behind Drop. -/
namespace Go.AI
variable {P off m s o k i w z:Nat}{L:List (Nat×Nat)}
theorem pgW_zP(h:off≤o)(h2:o+k≤off+m):pgW (zP P off m) o k=0:=by
 unfold zP
 split
 ·have hk:k=0:=by omega
  subst hk
  show _ % 256 ^ 0=0
  rw[Nat.pow_zero,Nat.mod_one]
 ·exact pgW_zero h h2
theorem zP_out(h:o+k≤off∨off+m≤o):pgW (zP P off m) o k=pgW P o k:=by
 unfold zP
 split
 ·rfl
 ·exact pgW_ne (Nat.pow_pos (by decide)) h
theorem lay_read(hL:L.length≤m)(hc:∀c,c∈L→c.1≠0∧c.1<18446744073709551616∧c.2<18446744073709551616):pgL (layP off (zP P off (m*16)) 0 L) off m 0=L :=
 layP_read hc hL fun h=>pgW_zP (by omega) (by omega)
theorem lay_out(hL:L.length≤m)(hc:∀c,c∈L→c.1≠0∧c.1<18446744073709551616∧c.2<18446744073709551616)(h:o+k≤off∨off+m*16≤o):pgW (layP off (zP P off (m*16)) 0 L) o k=pgW P o k:=by
 rw[layP_out (fun c h=>(hc c h).2) (by omega)]
 exact zP_out h
theorem pgL_congr{P Q:Nat}:∀{n i:Nat},(∀o,off+i*16≤o→o+8≤off+(i+n)*16→pgW P o 8=pgW Q o 8)→pgL P off n i=pgL Q off n i
 |0,_,_=>rfl
 |n+1,i,h=>by
  unfold pgL
  rw[h (off+i*16) (by omega) (by omega),h (off+i*16+8) (by omega) (by omega),pgL_congr (n:=n) (i:=i+1) fun o h1 h2=>h o (by omega) (by omega)]
def Uni(L:List (Nat×Nat)):Prop:=(L.map Prod.fst).Nodup
theorem chk_zero(h:chkN L m w z=0):w≠0∧z≠0∧(∀c,c∈L→c.1≠w)∧L.length<m:=by
 unfold chkN at h
 split at h
 ·cases h
 ·rename_i h1
  split at h
  ·cases h
  ·rename_i h2
   split at h
   ·cases h
   ·exact⟨fun e=>h1 (.inl e),fun e=>h1 (.inr e),fun c hc e=>h2 (List.any_eq_true.2 ⟨c,hc,decide_eq_true e⟩),by omega⟩
theorem Uni.ins(h:Uni L)(hw:∀c,c∈L→c.1≠w):Uni (insK L w z):=by
 have h0:(L.map Prod.fst).Nodup:=h
 have h1:w∉L.map Prod.fst:=fun hm=>by
  obtain⟨c,hc,e⟩:=List.mem_map.1 hm
  exact hw c hc e
 have hp:List.Perm ((insK L w z).map Prod.fst) (w::L.map Prod.fst):=by
  unfold insK
  rw[List.map_append,List.map_cons]
  refine List.perm_middle.trans (List.Perm.cons _ ?_)
  rw[← List.map_append,List.take_append_drop]
 exact hp.nodup_iff.2 (List.nodup_cons.2 ⟨h1,h0⟩)
theorem Uni.drop(h:Uni L):Uni (dropF L w):=by
 have:List.Sublist (dropF L w) L:=List.filter_sublist
 exact(this.map Prod.fst).nodup h
theorem idxF_at2:∀(L:List (Nat×Nat)) (i:Nat),Uni L→(L.any fun c=>decide (c.1=w))=true→∃k,idxF w L i = .ofNat (i+k)∧L.eraseIdx k=dropF L w
 |[],_,_,h=>by simp at h
 |c::r,i,hu,h=>by
  have hu1:(c.1::r.map Prod.fst).Nodup:=hu
  obtain⟨u1,u2⟩:=List.nodup_cons.1 hu1
  by_cases hc:c.1=w
  ·refine⟨0,if_pos hc,?_⟩
   show r=dropF (c::r) w
   unfold dropF
   rw[List.filter_cons_of_neg (by simp[hc])]
   symm
   refine List.filter_eq_self.2 fun d hd=>decide_eq_true fun e=>u1 ?_
   rw[hc,← e]
   exact List.mem_map.2 ⟨d,hd,rfl⟩
  ·rw[List.any_cons,decide_eq_false hc,Bool.false_or] at h
   obtain⟨k,h1,h2⟩:=idxF_at2 r (i+1) u2 h
   refine⟨k+1,?_,?_⟩
   ·show(if c.1=w then _ else _)=_
    rw[if_neg hc,h1,show i+1+k=i+(k+1) by omega]
   ·show c::r.eraseIdx k=dropF (c::r) w
    unfold dropF at h2 ⊢
    rw[List.filter_cons_of_pos (by simp[hc]),h2]
theorem delK_drop(hu:Uni L)(h:(L.any fun c=>decide (c.1=w))=true):delK L w=dropF L w:=by
 obtain⟨k,h1,h2⟩:=idxF_at2 L 0 hu h
 unfold delK
 rw[h1,Nat.zero_add]
 exact h2
theorem insK_ok(hc:∀c,c∈L→c.1≠0∧c.1<18446744073709551616∧c.2<18446744073709551616)(h0:w≠0)(hw:w<18446744073709551616)(hz:z<18446744073709551616):∀c,c∈insK L w z→c.1≠0∧c.1<18446744073709551616∧c.2<18446744073709551616:=fun c h=>by
 rcases insK_mem h with rfl|h
 ·exact⟨h0,hw,hz⟩
 ·exact hc c h
theorem add_read(h:chkN (pgL P off (s / 16) 0) (s / 16) w z=0)(hw:w<18446744073709551616)(hz:z<18446744073709551616):pgL (addP P off s w z) off (s / 16) 0=insK (pgL P off (s / 16) 0) w z:=by
 obtain⟨h1,_,_,h4⟩:=chk_zero h
 unfold addP
 exact lay_read (by rw[insK_len];omega) (insK_ok (fun c hc=>pgL_mem hc) h1 hw hz)
theorem drop_read(hu:Uni (pgL P off (s / 16) 0))(h:((pgL P off (s / 16) 0).any fun c=>decide (c.1=w))=true):pgL (dropP P off s w) off (s / 16) 0=dropF (pgL P off (s / 16) 0) w:=by
 unfold dropP
 rw[delK_drop hu h]
 exact lay_read (Nat.le_trans (List.length_filter_le ..) (pgL_len _ _)) fun c hc=>pgL_mem ((List.mem_filter.1 hc).1)
theorem add_out(h:chkN (pgL P off (s / 16) 0) (s / 16) w z=0)(hw:w<18446744073709551616)(hz:z<18446744073709551616)(hd:o+k≤off∨off+s / 16*16≤o):pgW (addP P off s w z) o k=pgW P o k:=by
 obtain⟨h1,_,_,h4⟩:=chk_zero h
 unfold addP
 exact lay_out (by rw[insK_len];omega) (insK_ok (fun c hc=>pgL_mem hc) h1 hw hz) hd
theorem drop_out(hu:Uni (pgL P off (s / 16) 0))(h:((pgL P off (s / 16) 0).any fun c=>decide (c.1=w))=true)(hd:o+k≤off∨off+s / 16*16≤o):pgW (dropP P off s w) o k=pgW P o k:=by
 unfold dropP
 rw[delK_drop hu h]
 exact lay_out (Nat.le_trans (List.length_filter_le ..) (pgL_len _ _)) (fun c hc=>pgL_mem ((List.mem_filter.1 hc).1)) hd
end Go.AI
