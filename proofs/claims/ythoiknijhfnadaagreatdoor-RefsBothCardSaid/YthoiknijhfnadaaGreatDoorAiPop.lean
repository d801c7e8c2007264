/- Counting bits: the sum of the bits that math/bits counts in parallel; plain numbers. No program is named here. -/
import Derived.Test.YthoiknijhfnadaaGreatDoorKWp
namespace Go.AI
def pc(s:Nat):Nat→Nat→Nat
 |_,0=>0
 |a,k+1=>(s.testBit a).toNat+pc s (a+1) k
theorem pc_add(s:Nat):∀(j a k:Nat),pc s a (j+k)=pc s a j+pc s (a+j) k
 |0,a,k=>by simp[pc]
 |j+1,a,k=>by
  rw[show j+1+k=(j+k)+1 by omega]
  simp only[pc]
  rw[pc_add s j (a+1) k,show a+1+j=a+(j+1) by omega];omega
theorem pc_shift(s c:Nat):∀(k a:Nat),pc (s / 2 ^ c) a k=pc s (c+a) k
 |0,a=>rfl
 |k+1,a=>by
  simp only[pc]
  rw[pc_shift s c k (a+1),Nat.testBit_div_two_pow,show c+(a+1)=c+a+1 by omega,Nat.add_comm a c]
theorem pc_congr{s t:Nat}:∀(k a b:Nat),(∀i,i<k→s.testBit (a+i)=t.testBit (b+i))→pc s a k=pc t b k
 |0,a,b,_=>rfl
 |k+1,a,b,h=>by
  simp only[pc]
  have h0:=h 0 (by omega)
  simp only[Nat.add_zero] at h0
  rw[h0,pc_congr k (a+1) (b+1) (fun i hi=>by have:=h (i+1) (by omega);rw[show a+1+i=a+(i+1) by omega,show b+1+i=b+(i+1) by omega];exact this)]
theorem pc_zero{s:Nat}:∀(k a:Nat),(∀i,i<k→s.testBit (a+i)=false)→pc s a k=0
 |0,a,_=>rfl
 |k+1,a,h=>by
  simp only[pc]
  have h0:=h 0 (by omega)
  simp only[Nat.add_zero] at h0
  rw[h0,pc_zero k (a+1) (fun i hi=>by have:=h (i+1) (by omega);rw[show a+1+i=a+(i+1) by omega];exact this)]
  rfl
theorem pc_le(s:Nat):∀(k a:Nat),pc s a k≤k
 |0,a=>Nat.le_refl _
 |k+1,a=>by
  simp only[pc]
  have:=pc_le s k (a+1)
  have h:(s.testBit a).toNat≤1:=by cases s.testBit a<;>decide
  omega
theorem and_byte{a m y M:Nat}(ha:a<256)(hm:m<256):(a+256*y) &&& (m+256*M)=(a &&& m)+256*(y &&& M):=by
 have h1:((a+256*y) &&& (m+256*M)) % 2 ^ 8=(a &&& m):=by
  rw[Nat.and_mod_two_pow]
  congr 1<;>omega
 have h2:((a+256*y) &&& (m+256*M)) / 2 ^ 8=(y &&& M):=by
  rw[Nat.and_div_two_pow]
  congr 1<;>omega
 have:=Nat.div_add_mod ((a+256*y) &&& (m+256*M)) (2 ^ 8)
 omega
def repB(m:Nat):Nat→Nat
 |0=>0
 |n+1=>m+256*repB m n
def mapB(f:Nat→Nat):Nat→Nat→Nat
 |0,_=>0
 |n+1,x=>f (x % 256)+256*mapB f n (x / 256)
def allB(p:Nat→Prop):Nat→Nat→Prop
 |0,x=>x=0
 |n+1,x=>p (x % 256)∧allB p n (x / 256)
theorem byte_all{p:Nat→Bool}(h:(List.range 256).all p=true){a:Nat}(ha:a<256):p a=true:=List.all_eq_true.1 h a (List.mem_range.2 ha)
def t1(a:Nat):Nat:=((a / 2) &&& 85)+(a &&& 85)
def t2(a:Nat):Nat:=((a / 4) &&& 51)+(a &&& 51)
def t3(a:Nat):Nat:=(a+a / 16) &&& 15
theorem step1:∀(n x:Nat),x<256 ^ n→((x / 2) &&& repB 85 n)+(x &&& repB 85 n)=mapB t1 n x
 |0,x,h=>by simp[repB,mapB]
 |n+1,x,h=>by
  have hx:x=x % 256+256*(x / 256):=by omega
  have ha:x % 256<256:=Nat.mod_lt _ (by decide)
  have hy:x / 256<256 ^ n:=by rw[Nat.pow_succ] at h;omega
  have ih:=step1 n (x / 256) hy
  generalize hya:x / 256=y at *
  generalize haa:x % 256=a at *
  have h2:x / 2=(a / 2+128*(y % 2))+256*(y / 2):=by omega
  have hb:a / 2+128*(y % 2)<256:=by omega
  have h3:(a / 2+128*(y % 2)) &&& 85=(a / 2) &&& 85:=by
   have:(List.range 256).all (fun a=>((a / 2+128*0) &&& 85 == (a / 2) &&& 85)&&((a / 2+128*1) &&& 85 == (a / 2) &&& 85))=true:=by decide +kernel
   have:=byte_all this ha
   simp only[Bool.and_eq_true,beq_iff_eq] at this
   rcases Nat.mod_two_eq_zero_or_one y with e|e<;>rw[e]
   ·exact this.1
   ·exact this.2
  simp only[repB,mapB]
  rw[hya,haa,h2,and_byte hb (by decide),h3]
  conv=>lhs;rw[hx]
  rw[and_byte ha (by decide),← ih]
  simp only[t1];omega
theorem step2:∀(n x:Nat),x<256 ^ n→((x / 4) &&& repB 51 n)+(x &&& repB 51 n)=mapB t2 n x
 |0,x,h=>by simp[repB,mapB]
 |n+1,x,h=>by
  have hx:x=x % 256+256*(x / 256):=by omega
  have ha:x % 256<256:=Nat.mod_lt _ (by decide)
  have hy:x / 256<256 ^ n:=by rw[Nat.pow_succ] at h;omega
  have ih:=step2 n (x / 256) hy
  generalize hya:x / 256=y at *
  generalize haa:x % 256=a at *
  have h2:x / 4=(a / 4+64*(y % 4))+256*(y / 4):=by omega
  have hb:a / 4+64*(y % 4)<256:=by omega
  have h3:(a / 4+64*(y % 4)) &&& 51=(a / 4) &&& 51:=by
   have:(List.range 256).all (fun a=>(List.range 4).all fun c=>(a / 4+64*c) &&& 51 == (a / 4) &&& 51)=true:=by decide +kernel
   have:=byte_all this ha
   have:=List.all_eq_true.1 this (y % 4) (List.mem_range.2 (Nat.mod_lt _ (by decide)))
   simpa using this
  simp only[repB,mapB]
  rw[hya,haa,h2,and_byte hb (by decide),h3]
  conv=>lhs;rw[hx]
  rw[and_byte ha (by decide),← ih]
  simp only[t2];omega
def small(a:Nat):Prop:=a % 16≤4∧a / 16≤4
theorem step3:∀(n x:Nat),allB small n x→((x / 16+x) &&& repB 15 n)=mapB t3 n x∧x / 16+x<256 ^ n∧(n=0∨x % 16≤4)
 |0,x,h=>by
  have:x=0:=h
  subst this;simp[repB,mapB]
 |n+1,x,h=>by
  obtain⟨hs,hr⟩:=h
  have hx:x=x % 256+256*(x / 256):=by omega
  have ha:x % 256<256:=Nat.mod_lt _ (by decide)
  obtain⟨ih,ih2,ih3⟩:=step3 n (x / 256) hr
  have hc:(x / 256) % 16≤4:=by
   rcases ih3 with h0|h0
   ·subst h0
    have:x / 256=0:=hr
    omega
   ·exact h0
  generalize hya:x / 256=y at *
  generalize haa:x % 256=a at *
  have h2:x / 16+x=(a+a / 16+16*(y % 16))+256*(y / 16+y):=by omega
  have hb:a+a / 16+16*(y % 16)<256:=by unfold small at hs;omega
  have h3:(a+a / 16+16*(y % 16)) &&& 15=t3 a:=by
   unfold t3
   have e1:∀z,z &&& 15=z % 16:=fun z=>Nat.and_two_pow_sub_one_eq_mod z 4
   rw[e1,e1];omega
  refine⟨?_,?_,.inr (by unfold small at hs;omega)⟩
  ·simp only[repB,mapB]
   rw[hya,haa,h2,and_byte hb (by decide),h3,ih]
  ·rw[h2,Nat.pow_succ];omega
theorem mapB_lt{f:Nat→Nat}(hf:∀a,a<256→f a<256):∀(n x:Nat),mapB f n x<256 ^ n
 |0,x=>by simp[mapB]
 |n+1,x=>by
  have h1:=mapB_lt hf n (x / 256)
  have h2:=hf (x % 256) (Nat.mod_lt _ (by decide))
  simp only[mapB];rw[Nat.pow_succ];omega
theorem mapB_map{f g:Nat→Nat}(hf:∀a,a<256→f a<256):∀(n x:Nat),mapB g n (mapB f n x)=mapB (fun a=>g (f a)) n x
 |0,x=>rfl
 |n+1,x=>by
  have h2:=hf (x % 256) (Nat.mod_lt _ (by decide))
  simp only[mapB]
  rw[show(f (x % 256)+256*mapB f n (x / 256)) % 256=f (x % 256) by omega,show(f (x % 256)+256*mapB f n (x / 256)) / 256=mapB f n (x / 256) by omega,mapB_map hf n]
theorem mapB_all{f:Nat→Nat}{p:Nat→Prop}(hf:∀a,a<256→f a<256∧p (f a)):∀(n x:Nat),allB p n (mapB f n x)
 |0,x=>rfl
 |n+1,x=>by
  obtain⟨h1,h2⟩:=hf (x % 256) (Nat.mod_lt _ (by decide))
  simp only[mapB,allB]
  rw[show(f (x % 256)+256*mapB f n (x / 256)) % 256=f (x % 256) by omega,show(f (x % 256)+256*mapB f n (x / 256)) / 256=mapB f n (x / 256) by omega]
  exact⟨h2,mapB_all hf n _⟩
theorem mapB_congr{f g:Nat→Nat}(h:∀a,a<256→f a=g a):∀(n x:Nat),mapB f n x=mapB g n x
 |0,x=>rfl
 |n+1,x=>by simp only[mapB];rw[h _ (Nat.mod_lt _ (by decide)),mapB_congr h n]
theorem t1_lt(a:Nat)(ha:a<256):t1 a<256:=by
 have:(List.range 256).all (fun a=>Nat.ble (t1 a+1) 256)=true:=by decide +kernel
 have:=byte_all this ha
 rw[Nat.ble_eq] at this;omega
theorem t2_small(a:Nat)(ha:a<256):t2 (t1 a)<256∧small (t2 (t1 a)):=by
 have:(List.range 256).all (fun a=>Nat.ble (t2 (t1 a)+1) 256&&(Nat.ble (t2 (t1 a) % 16) 4&&Nat.ble (t2 (t1 a) / 16) 4))=true:=by decide +kernel
 have:=byte_all this ha
 simp only[Bool.and_eq_true,Nat.ble_eq] at this
 exact⟨by omega,this.2.1,this.2.2⟩
theorem t3_pc(a:Nat)(ha:a<256):t3 (t2 (t1 a))=pc a 0 8:=by
 have:(List.range 256).all (fun a=>t3 (t2 (t1 a)) == pc a 0 8)=true:=by decide +kernel
 simpa using byte_all this ha
theorem t2_lt(a:Nat)(ha:a<256):t2 a<256:=by
 have:(List.range 256).all (fun a=>Nat.ble (t2 a+1) 256)=true:=by decide +kernel
 have:=byte_all this ha
 rw[Nat.ble_eq] at this;omega
theorem pc_bytes(x:Nat):∀(n a:Nat),pc x (8*a) (8*(n+1))=pc (x / 256 ^ a % 256) 0 8+pc x (8*(a+1)) (8*n):=by
 intro n a
 rw[show 8*(n+1)=8+8*n by omega,pc_add,show 8*a+8=8*(a+1) by omega]
 congr 1
 refine pc_congr 8 _ _ fun i hi=>?_
 rw[show(256:Nat) ^ a=2 ^ (8*a) by rw[Nat.pow_mul],show(256:Nat)=2 ^ 8 by rfl,Nat.testBit_mod_two_pow,Nat.testBit_div_two_pow]
 simp[hi,Nat.add_comm]
theorem ones_eq(x:Nat)(hx:x<18446744073709551616) :
  let x1:=((x / 2 ^ 1 &&& 6148914691236517205)+(x &&& 6148914691236517205)) % 18446744073709551616
  let x2:=((x1 / 2 ^ 2 &&& 3689348814741910323)+(x1 &&& 3689348814741910323)) % 18446744073709551616
  let x3:=(x2 / 2 ^ 4+x2) % 18446744073709551616 &&& 1085102592571150095
  let x4:=(x3+x3 / 2 ^ 8) % 18446744073709551616
  let x5:=(x4+x4 / 2 ^ 16) % 18446744073709551616
  let x6:=(x5+x5 / 2 ^ 32) % 18446744073709551616
  x6 % 128=pc x 0 64∧x1<18446744073709551616∧x2<18446744073709551616:=by
 intro x1 x2 x3 x4 x5 x6
 have e1:x1=mapB t1 8 x:=by
  have h:=step1 8 x hx
  have hl:=mapB_lt t1_lt 8 x
  show((x / 2 &&& repB 85 8)+(x &&& repB 85 8)) % 18446744073709551616=_
  rw[h,Nat.mod_eq_of_lt hl]
 have e2:x2=mapB (fun a=>t2 (t1 a)) 8 x:=by
  have hl1:=mapB_lt t1_lt 8 x
  have h:=step2 8 x1 (by rw[e1];exact hl1)
  have hl:=mapB_lt t2_lt 8 x1
  show((x1 / 4 &&& repB 51 8)+(x1 &&& repB 51 8)) % 18446744073709551616=_
  rw[h,Nat.mod_eq_of_lt hl,e1,mapB_map t1_lt]
 have e3:x3=mapB (fun a=>pc a 0 8) 8 x:=by
  have hs:=mapB_all (f:=fun a=>t2 (t1 a)) (p:=small) t2_small 8 x
  rw[← e2] at hs
  obtain⟨h1,h2,_⟩:=step3 8 x2 hs
  show(x2 / 16+x2) % 18446744073709551616 &&& repB 15 8=_
  rw[Nat.mod_eq_of_lt h2,h1,e2,mapB_map (f:=fun a=>t2 (t1 a)) (fun a ha=>(t2_small a ha).1)]
  exact mapB_congr t3_pc 8 x
 have hb:∀j,pc (x / 256 ^ j % 256) 0 8≤8:=fun j=>pc_le _ _ _
 have hsum:pc x 0 64=pc (x / 256 ^ 0 % 256) 0 8+(pc (x / 256 ^ 1 % 256) 0 8+(pc (x / 256 ^ 2 % 256) 0 8+(pc (x / 256 ^ 3 % 256) 0 8+(pc (x / 256 ^ 4 % 256) 0 8+(pc (x / 256 ^ 5 % 256) 0 8+(pc (x / 256 ^ 6 % 256) 0 8+(pc (x / 256 ^ 7 % 256) 0 8+0))))))):=by
  have s0:=pc_bytes x 7 0;have s1:=pc_bytes x 6 1;have s2:=pc_bytes x 5 2;have s3:=pc_bytes x 4 3
  have s4:=pc_bytes x 3 4;have s5:=pc_bytes x 2 5;have s6:=pc_bytes x 1 6;have s7:=pc_bytes x 0 7
  simp only[Nat.reduceMul,Nat.reduceAdd] at s0 s1 s2 s3 s4 s5 s6 s7
  have s8:pc x 64 0=0:=rfl
  omega
 have hx3:x3=pc (x / 256 ^ 0 % 256) 0 8+256*(pc (x / 256 ^ 1 % 256) 0 8+256*(pc (x / 256 ^ 2 % 256) 0 8+256*(pc (x / 256 ^ 3 % 256) 0 8+256*(pc (x / 256 ^ 4 % 256) 0 8+256*(pc (x / 256 ^ 5 % 256) 0 8+256*(pc (x / 256 ^ 6 % 256) 0 8+256*(pc (x / 256 ^ 7 % 256) 0 8+256*0))))))):=by
  rw[e3]
  simp only[mapB,Nat.div_div_eq_div_mul,Nat.pow_zero,Nat.div_one,Nat.pow_succ,Nat.one_mul,Nat.reduceMul]
 have h0:=hb 0;have h1:=hb 1;have h2:=hb 2;have h3:=hb 3;have h4:=hb 4;have h5:=hb 5;have h6:=hb 6;have h7:=hb 7
 rw[hsum]
 generalize pc (x / 256 ^ 0 % 256) 0 8=b0 at *
 generalize pc (x / 256 ^ 1 % 256) 0 8=b1 at *
 generalize pc (x / 256 ^ 2 % 256) 0 8=b2 at *
 generalize pc (x / 256 ^ 3 % 256) 0 8=b3 at *
 generalize pc (x / 256 ^ 4 % 256) 0 8=b4 at *
 generalize pc (x / 256 ^ 5 % 256) 0 8=b5 at *
 generalize pc (x / 256 ^ 6 % 256) 0 8=b6 at *
 generalize pc (x / 256 ^ 7 % 256) 0 8=b7 at *
 refine⟨?_,Nat.mod_lt _ (by decide),Nat.mod_lt _ (by decide)⟩
 have q4:x4=(b0+b1)+256*((b1+b2)+256*((b2+b3)+256*((b3+b4)+256*((b4+b5)+256*((b5+b6)+256*((b6+b7)+256*b7)))))):=by
  show(x3+x3 / 2 ^ 8) % 18446744073709551616=_
  rw[hx3];omega
 have r6':x6=(x5+x5 / 2 ^ 32) % 18446744073709551616:=rfl
 have r5:x5=(x4+x4 / 2 ^ 16) % 18446744073709551616:=rfl
 have r6:x6=(x5+x5 / 2 ^ 32) % 18446744073709551616:=rfl
 clear_value x6 x5 x4 x3 x2 x1
 clear hx3 e1 e2 e3 hsum
 obtain⟨c0,k0⟩:∃c,c=b0+b1:=⟨_,rfl⟩
 obtain⟨c1,k1⟩:∃c,c=b1+b2:=⟨_,rfl⟩
 obtain⟨c2,k2⟩:∃c,c=b2+b3:=⟨_,rfl⟩
 obtain⟨c3,k3⟩:∃c,c=b3+b4:=⟨_,rfl⟩
 obtain⟨c4,k4⟩:∃c,c=b4+b5:=⟨_,rfl⟩
 obtain⟨c5,k5⟩:∃c,c=b5+b6:=⟨_,rfl⟩
 obtain⟨c6,k6⟩:∃c,c=b6+b7:=⟨_,rfl⟩
 rw[← k0,← k1,← k2,← k3,← k4,← k5,← k6] at q4
 have i0:c0≤16:=by omega
 have i1:c1≤16:=by omega
 have i2:c2≤16:=by omega
 have i3:c3≤16:=by omega
 have i4:c4≤16:=by omega
 have i5:c5≤16:=by omega
 have i6:c6≤16:=by omega
 have goal:b0+(b1+(b2+(b3+(b4+(b5+(b6+(b7+0)))))))=c0+c2+c4+c6:=by omega
 have gb:c0+c2+c4+c6≤64:=by omega
 rw[goal]
 clear goal k0 k1 k2 k3 k4 k5 k6 h0 h1 h2 h3 h4 h5 h6 r6
 have q5:x5=(c0+c2)+256*((c1+c3)+256*((c2+c4)+256*((c3+c5)+256*((c4+c6)+256*((c5+b7)+256*(c6+256*b7)))))):=by
  have hd:x4 / 2 ^ 16=c2+256*(c3+256*(c4+256*(c5+256*(c6+256*b7)))):=by
   have:x4=(c0+256*c1)+2 ^ 16*(c2+256*(c3+256*(c4+256*(c5+256*(c6+256*b7))))):=by rw[q4];clear r5 r6' q4;omega
   rw[this,Nat.add_mul_div_left _ _ (by decide),Nat.div_eq_of_lt (by clear this;omega),Nat.zero_add]
  rw[r5,hd,q4];clear r5 q4 r6' hd
  rw[Nat.mod_eq_of_lt (by omega)];omega
 clear r5 q4
 obtain⟨d0,k0⟩:∃d,d=c0+c2:=⟨_,rfl⟩
 obtain⟨d1,k1⟩:∃d,d=c1+c3:=⟨_,rfl⟩
 obtain⟨d2,k2⟩:∃d,d=c2+c4:=⟨_,rfl⟩
 obtain⟨d3,k3⟩:∃d,d=c3+c5:=⟨_,rfl⟩
 obtain⟨d4,k4⟩:∃d,d=c4+c6:=⟨_,rfl⟩
 obtain⟨d5,k5⟩:∃d,d=c5+b7:=⟨_,rfl⟩
 rw[← k0,← k1,← k2,← k3,← k4,← k5] at q5
 have j0:d0≤32:=by omega
 have j1:d1≤32:=by omega
 have j2:d2≤32:=by omega
 have j3:d3≤32:=by omega
 have j4:d4≤32:=by omega
 have j5:d5≤32:=by omega
 have goal:c0+c2+c4+c6=d0+d4:=by omega
 rw[goal] at gb ⊢
 clear goal k0 k1 k2 k3 k4 k5 i0 i1 i2 i3 i4 i5
 have q6:x6 % 256=(d0+d4) % 256:=by
  have hd:x5 / 2 ^ 32=d4+256*(d5+256*(c6+256*b7)):=by
   have:x5=(d0+256*(d1+256*(d2+256*d3)))+2 ^ 32*(d4+256*(d5+256*(c6+256*b7))):=by rw[q5];clear r6' q5;omega
   rw[this,Nat.add_mul_div_left _ _ (by decide),Nat.div_eq_of_lt (by clear this;omega),Nat.zero_add]
  rw[r6',hd,q5];clear r6' q5 hd
  omega
 omega
end Go.AI
