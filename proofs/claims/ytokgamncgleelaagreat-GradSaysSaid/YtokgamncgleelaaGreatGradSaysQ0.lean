import Derived.Test.YtokgamncgleelaaGreatGradSaysS5
set_option linter.unusedVariables false
set_option linter.unusedSimpArgs false
set_option maxRecDepth 100000

namespace Go.AM
theorem A9 {X Y:Type} (x:X) (f:X→Option Y):D4 (some x) f=f x:=rfl
theorem Fl {A B Y:Type} (a:A) (f:A→Option Y) (g:B→Option Y):F5 (.inl a) f g=f a:=rfl
theorem F6 {A B Y:Type} (b:B) (f:A→Option Y) (g:B→Option Y):F5 (.inr b) f g=g b:=rfl
theorem Bh {Y:Type} {p:Prop} [Decidable p] {r:Option Y} (h:p:=by omega):Ey p r=r:=if_pos h
theorem G9 {X Z:Type} (B:(X→Option Z)→X→Option Z) (n:Nat) (x:X):Fp B (n+1) x=B (Fp B n) x:=rfl
theorem loop_inv {X Z:Type} {B:(X→Option Z)→X→Option Z} (I:X→Prop) (μ:X→Nat) (Q:Z→Prop)
  (h:∀ x,I x→(∃ z,(∀ go,B go x=some z)∧Q z)∨(∃ y,(∀ go,B go x=go y)∧I y∧μ y<μ x)) :
  ∀ (n:Nat) (x:X),I x→μ x<n→∃ z,Fp B n x=some z∧Q z
 | 0,x,_,hm=>absurd hm (Nat.not_lt_zero _)
 | n+1,x,hi,hm=>by
  rw [G9]
  rcases h x hi with ⟨z,h1,h2⟩ | ⟨y,h1,h2,h3⟩
  ·exact ⟨z,h1 _,h2⟩
  ·rw [h1];exact loop_inv I μ Q h n y h2 (by omega)
theorem Gd {X Z:Type} {B:(X→Option Z)→X→Option Z} (I:X→Prop) (μ:X→Nat) (Q:Z→Prop)
  (h:∀ x,I x→(∃ z,(∀ go,B go x=some z)∧Q z)∨(∃ y,(∀ go,B go x=go y)∧I y∧μ y<μ x)) (x:X) (hi:I x) (hm:μ x<18446744073709551616) :
  ∃ z,Fp B Fq x=some z∧Q z:=loop_inv I μ Q h Fq x hi hm
theorem E9 {n:Int} (h1 : -9223372036854775808≤n:=by omega) (h2:n<9223372036854775808:=by omega):IntKind.i64.wrap n=n:=by
 simp only [IntKind.wrap,IntKind.signed,IntKind.bits]
 have:n%2 ^ 64=if 0≤n then n else n+18446744073709551616:=by
  split <;> omega
 simp only [this]
 split <;> split <;> simp_all <;> omega
theorem Gg {α:Type} (z:α) (xs:List α) (i:Nat) (h:i<xs.length):rd z xs (i:Int)=xs[i]:=by
 simp [rd,h]
end Go.AM
namespace Go.Proofs.PlB
open Go.AM
theorem clone_d (d:List Int) (h:d.length≤17592186044416):f109 d=some d:=by
 unfold f109 nilF
 cases d with
 | nil=>rfl
 | cons x r=>
  simp only
  rw [Bh (by simp at h ⊢;omega)]
  rfl
def pgo:Int→List Int→Int
 | n,[]=>n
 | n,x::r=>if x<1∨x>4096∨n*x>4096 then 0 else pgo (n*x) r
def prd (d:List Int):Int:=if d.length>4 then 0 else pgo 1 d
theorem drop_cons {α:Type} (d:List α) (k:Nat) (h:k<d.length):d.drop k=d[k]::d.drop (k+1):=by
 rw [List.drop_eq_getElem_cons h]
theorem product_ok (d:List Int):f155 d=some (prd d):=by
 unfold f155 prd
 by_cases h4:d.length>4
 ·rw [show decide ((List.length d:Int)>4)=true by simp;omega,if_pos h4];rfl
 ·rw [show decide ((List.length d:Int)>4)=false by simp;omega,if_neg h4]
  simp only [cond_false]
  have H:∀ x:Int×Int,(∃ k:Nat,x.2=(k:Int)∧k≤d.length∧1≤x.1∧x.1≤4096∧pgo x.1 (d.drop k)=pgo 1 d)→
    (∃ z,(∀ go,f155_l3 d go x.1 x.2=some z)∧((z=Sum.inl ()∧pgo 1 d=0)∨z=Sum.inr (pgo 1 d)))∨
    (∃ y:Int×Int,(∀ go,f155_l3 d go x.1 x.2=go y)∧(∃ k:Nat,y.2=(k:Int)∧k≤d.length∧1≤y.1∧y.1≤4096∧pgo y.1 (d.drop k)=pgo 1 d)∧((d.length:Int)-y.2).toNat<((d.length:Int)-x.2).toNat):=by
   rintro ⟨n,_⟩ ⟨k,rfl,hk,hn1,hn2,hp⟩
   simp only at hn1 hn2 hp ⊢
   by_cases hlt:k<d.length
   ·rw [drop_cons d k hlt] at hp
    simp only [pgo] at hp
    have hrd:rd (0:Int) d (k:Int)=d[k]:=Gg _ _ _ hlt
    by_cases c1:d[k]<1
    ·left
     rw [if_pos (.inl c1)] at hp
     refine ⟨Sum.inl (),fun go=>?_,.inl ⟨rfl,hp.symm⟩⟩
     simp only [f155_l3,f155_j4,hrd]
     rw [show decide ((k:Int)<(d.length:Int))=true by simpa using hlt,show decide (d[k]<(1:Int))=true by simpa using c1]
     simp only [cond_true]
     rw [Bh]
     rfl
    ·by_cases c2:d[k]>4096
     ·left
      rw [if_pos (.inr (.inl c2))] at hp
      refine ⟨Sum.inl (),fun go=>?_,.inl ⟨rfl,hp.symm⟩⟩
      simp only [f155_l3,f155_j4,hrd]
      rw [show decide ((k:Int)<(d.length:Int))=true by simpa using hlt,show decide (d[k]<(1:Int))=false by simpa using c1,show decide (d[k]>(4096:Int))=true by simpa using c2]
      simp only [cond_true,cond_false]
      rw [Bh]
      rfl
     ·have hb1:n*d[k]≤4096*4096:=Int.mul_le_mul hn2 (by omega) (by omega) (by omega)
      have hb0:1*1≤n*d[k]:=Int.mul_le_mul hn1 (by omega) (by omega) (by omega)
      have hw:IntKind.i64.wrap (n*d[k])=n*d[k]:=E9 (by omega) (by omega)
      by_cases c3:n*d[k]>4096
      ·left
       rw [if_pos (.inr (.inr c3))] at hp
       refine ⟨Sum.inl (),fun go=>?_,.inl ⟨rfl,hp.symm⟩⟩
       simp only [f155_l3,f155_j4,hrd,hw]
       rw [show decide ((k:Int)<(d.length:Int))=true by simpa using hlt,show decide (d[k]<(1:Int))=false by simpa using c1,show decide (d[k]>(4096:Int))=false by simpa using c2,show decide (n*d[k]>(4096:Int))=true by simpa using c3]
       simp only [cond_true,cond_false]
       rw [Bh]
       rfl
      ·right
       rw [iNo] at hp
       refine ⟨(n*d[k],((k+1:Nat):Int)),fun go=>?_,⟨k+1,rfl,hlt,by simp only;omega,by simp only;omega,hp⟩,by simp only;omega⟩
       simp only [f155_l3,f155_j4,hrd,hw]
       rw [show decide ((k:Int)<(d.length:Int))=true by simpa using hlt,show decide (d[k]<(1:Int))=false by simpa using c1,show decide (d[k]>(4096:Int))=false by simpa using c2,show decide (n*d[k]>(4096:Int))=false by simpa using c3]
       simp only [cond_true,cond_false]
       rw [Bh,E9]
       rfl
   ·left
    have:k=d.length:=by omega
    subst this
    simp only [List.drop_length,pgo] at hp
    refine ⟨Sum.inr n,fun go=>?_,.inr (by rw [hp])⟩
    simp only [f155_l3]
    rw [show decide ((d.length:Int)<(d.length:Int))=false by simp]
    rfl
  obtain ⟨z,e,hz⟩:=Gd (B:=fun go (x:Int×Int)=>f155_l3 d go x.1 x.2) _ (fun x=>((d.length:Int)-x.2).toNat) _ H ((1:Int),(0:Int)) ⟨0,rfl,Nat.zero_le _,by decide,by decide,rfl⟩ (by simp;omega)
  rw [e]
  simp only [A9]
  rcases hz with ⟨rfl,h0⟩ | rfl
  ·simp only [Fl,h0]
  ·simp only [F6]
theorem Gn (d:List Int):f99 d=some (decide (prd d>0)):=by
 unfold f99
 simp only [product_ok,A9]
theorem size_ok (d:List Int):f110 d=some (prd d):=by
 unfold f110
 simp only [product_ok,A9]
def Fu (t:List Int×List Int):Bool:=decide (prd t.1>0)&&((t.2.length:Int)==prd t.1)
theorem F8 (t:List Int×List Int):f113 t=some (Fu t):=by
 unfold f113 Fu
 simp only [Gn,size_ok,A9]
 cases decide (prd t.1>0) <;> rfl
end Go.Proofs.PlB
namespace Go.Proofs.PlW
open Go.AM
theorem wu (n:Int):IntKind.u64.wrap n=n%18446744073709551616:=by
 simp [IntKind.wrap,IntKind.signed,IntKind.bits]
theorem wi (n:Int):IntKind.i64.wrap n=if n%18446744073709551616≥9223372036854775808 then n%18446744073709551616-18446744073709551616 else n%18446744073709551616:=by
 simp [IntKind.wrap,IntKind.signed,IntKind.bits]
theorem wu_wi (n:Int):IntKind.u64.wrap (IntKind.i64.wrap n)=n%18446744073709551616:=by
 rw [wu,wi];split <;> omega
theorem wi_mod (n:Int):IntKind.i64.wrap (n%18446744073709551616)=IntKind.i64.wrap n:=by
 rw [wi,wi,Int.emod_emod_of_dvd _ (Int.dvd_refl _)]
theorem sh32u (x:Int):Int.fdiv x (2 ^ min (Int.toNat (32:Int)) (IntKind.bits IntKind.u64))=x/4294967296:=by
 rw [show ((2:Int) ^ min (Int.toNat (32:Int)) (IntKind.bits IntKind.u64))=4294967296 from rfl]
 exact Int.fdiv_eq_ediv_of_nonneg _ (by decide)
theorem sh32i (x:Int):Int.fdiv x (2 ^ min (Int.toNat (32:Int)) (IntKind.bits IntKind.i64))=x/4294967296:=by
 rw [show ((2:Int) ^ min (Int.toNat (32:Int)) (IntKind.bits IntKind.i64))=4294967296 from rfl]
 exact Int.fdiv_eq_ediv_of_nonneg _ (by decide)
theorem sh63i (x:Int):Int.fdiv x (2 ^ min (Int.toNat (63:Int)) (IntKind.bits IntKind.i64))=x/9223372036854775808:=by
 rw [show ((2:Int) ^ min (Int.toNat (63:Int)) (IntKind.bits IntKind.i64))=9223372036854775808 from rfl]
 exact Int.fdiv_eq_ediv_of_nonneg _ (by decide)
theorem bitsNat (f:BitVec 64→BitVec 64→BitVec 64) (a b:Int):Fv IntKind.u64 f a b=((f (BitVec.ofInt 64 a) (BitVec.ofInt 64 b)).toNat:Int):=by
 have h:Fv IntKind.u64 f a b=IntKind.u64.wrap (((f (BitVec.ofInt 64 a) (BitVec.ofInt 64 b)).toNat:Nat):Int):=rfl
 rw [h,wu]
 have:=(f (BitVec.ofInt 64 a) (BitVec.ofInt 64 b)).isLt
 omega
theorem ofInt_nat (a:Int) (h0:0≤a) (h1:a<18446744073709551616):(BitVec.ofInt 64 a).toNat=a.toNat:=by
 rw [BitVec.toNat_ofInt]
 have:a%((2 ^ 64:Nat):Int)=a:=Int.emod_eq_of_lt h0 (by simpa using h1)
 rw [this]
theorem and_nat (a b:Int) (h0:0≤a) (h1:a<18446744073709551616) (g0:0≤b) (g1:b<18446744073709551616) :
  Fv IntKind.u64 (fun p q=>p&&& q) a b=((a.toNat&&& b.toNat:Nat):Int):=by
 refine (bitsNat (fun p q=>p&&& q) a b).trans ?_
 rw [BitVec.toNat_and,ofInt_nat a h0 h1,ofInt_nat b g0 g1]
theorem or_nat (a b:Int) (h0:0≤a) (h1:a<18446744073709551616) (g0:0≤b) (g1:b<18446744073709551616) :
  Fv IntKind.u64 (fun p q=>p||| q) a b=((a.toNat||| b.toNat:Nat):Int):=by
 refine (bitsNat (fun p q=>p||| q) a b).trans ?_
 rw [BitVec.toNat_or,ofInt_nat a h0 h1,ofInt_nat b g0 g1]
theorem and32 (x:Int) (h0:0≤x) (h1:x<18446744073709551616):Fv IntKind.u64 (fun p q=>p&&& q) x 4294967295=x%4294967296:=by
 rw [and_nat x _ h0 h1 (by decide) (by decide)]
 have:=Nat.and_two_pow_sub_one_eq_mod x.toNat 32
 rw [show (4294967295:Int).toNat=2 ^ 32-1 from rfl,this]
 omega
theorem and1 (x:Int) (h0:0≤x) (h1:x<18446744073709551616):Fv IntKind.u64 (fun p q=>p&&& q) x 1=x%2:=by
 rw [and_nat x _ h0 h1 (by decide) (by decide)]
 have:=Nat.and_two_pow_sub_one_eq_mod x.toNat 1
 rw [show (1:Int).toNat=2 ^ 1-1 from rfl,this]
 omega
theorem or32 (a b:Int) (h0:0≤a) (h1:a<4294967296) (g0:0≤b) (g1:b<4294967296):Fv IntKind.u64 (fun p q=>p||| q) (a*4294967296) b=a*4294967296+b:=by
 rw [or_nat _ _ (by omega) (by omega) (by omega) (by omega)]
 have:=Nat.two_pow_add_eq_or_of_lt (i:=32) (b:=b.toNat) (by omega) a.toNat
 rw [show (a*4294967296).toNat=2 ^ 32*a.toNat by omega,← this]
 omega
theorem add_ok (x y c:Int) (h0:0≤x) (h1:0≤y) (h2:0≤c) (h3:c≤1):add64 x y c=some ((x+y+c)%18446744073709551616,(x+y+c)/18446744073709551616):=by
 unfold add64
 rw [show Nat.ble c.toNat 1=true by rw [Nat.ble_eq];omega]
 simp only [Option.some.injEq,Prod.mk.injEq,Int.ofNat_eq_natCast]
 constructor <;> omega
theorem sub_ok (x y c:Int) (h0:0≤x) (h0':x<18446744073709551616) (h1:0≤y) (h1':y<18446744073709551616) (h2:0≤c) (h3:c≤1) :
  sub64 x y c=some ((x-y-c)%18446744073709551616,if x<y+c then 1 else 0):=by
 unfold sub64
 rw [show Nat.ble c.toNat 1=true by rw [Nat.ble_eq];omega]
 simp only [Option.some.injEq,Prod.mk.injEq,Int.ofNat_eq_natCast]
 constructor
 ·omega
 ·by_cases h:x<y+c
  ·rw [if_pos h,iPo]
  ·rw [if_neg h,iNo]
theorem size_ok (v:Int) (h0 : -9223372036854775808≤v) (h1:v<9223372036854775808):f188 v=some (if v<0 then -v else v):=by
 unfold f188
 by_cases h:v<0
 ·rw [show decide (v<0)=true by simpa using h,if_pos h]
  simp only [cond_true,wu,Option.some.injEq]
  omega
 ·rw [show decide (v<0)=false by simpa using h,if_neg h]
  simp only [cond_false,wu,Option.some.injEq]
  omega
theorem J9 (a b:Int) (h0:0≤a) (h1:a≤4294967295) (g0:0≤b) (g1:b≤4294967295):0≤a*b∧a*b≤18446744065119617025:=
 ⟨Int.mul_nonneg h0 g0,Int.mul_le_mul h1 g1 g0 (by decide)⟩
theorem mul64_ok (x y:Int) (h0:0≤x) (h1:x<18446744073709551616) (g0:0≤y) (g1:y<18446744073709551616) :
  f142 x y=some (x*y/18446744073709551616,x*y%18446744073709551616):=by
 unfold f142
 have x1:=Int.mul_ediv_add_emod x 4294967296
 have y1:=Int.mul_ediv_add_emod y 4294967296
 simp only [sh32u,and32 x h0 h1,and32 y g0 g1,wu]
 rw [and32 _ (by omega) (by omega)]
 generalize hx1:x/4294967296=a at *
 generalize hx0:x%4294967296=b at *
 generalize hy1:y/4294967296=c at *
 generalize hy0:y%4294967296=d at *
 obtain ⟨p0,p1⟩:=J9 a c (by omega) (by omega) (by omega) (by omega)
 obtain ⟨q0,q1⟩:=J9 a d (by omega) (by omega) (by omega) (by omega)
 obtain ⟨r0,r1⟩:=J9 b c (by omega) (by omega) (by omega) (by omega)
 obtain ⟨s0,s1⟩:=J9 b d (by omega) (by omega) (by omega) (by omega)
 have hxy:x*y=18446744073709551616*(a*c)+4294967296*(a*d)+4294967296*(b*c)+b*d:=by
  rw [← x1,← y1,Int.add_mul,Int.mul_add,Int.mul_add]
  have e1:4294967296*a*(4294967296*c)=18446744073709551616*(a*c):=by
   rw [show (18446744073709551616:Int)=4294967296*4294967296 from rfl];ac_rfl
  have e2:4294967296*a*d=4294967296*(a*d):=Int.mul_assoc _ _ _
  have e3:b*(4294967296*c)=4294967296*(b*c):=Int.mul_left_comm _ _ _
  rw [e1,e2,e3];omega
 rw [hxy]
 generalize a*c=P at *
 generalize a*d=Q at *
 generalize b*c=R at *
 generalize b*d=S at *
 have w0:∀ n:Int,0≤n→n<18446744073709551616→n%18446744073709551616=n:=fun n h0 h1=>Int.emod_eq_of_lt h0 h1
 rw [w0 P (by omega) (by omega),w0 Q (by omega) (by omega),w0 R (by omega) (by omega),w0 S (by omega) (by omega)]
 rw [w0 (Q+S/4294967296) (by omega) (by omega)]
 rw [w0 ((Q+S/4294967296)%4294967296+R) (by omega) (by omega)]
 rw [w0 (P+(Q+S/4294967296)/4294967296) (by omega) (by omega)]
 rw [w0 (P+(Q+S/4294967296)/4294967296+((Q+S/4294967296)%4294967296+R)/4294967296) (by omega) (by omega)]
 have hh:(18446744073709551616*P+4294967296*Q+4294967296*R+S)/18446744073709551616=P+(Q+S/4294967296)/4294967296+((Q+S/4294967296)%4294967296+R)/4294967296:=by omega
 rw [hh]
theorem prod_ok (a b:Int) (a0 : -9223372036854775808≤a) (a1:a<9223372036854775808) (b0 : -9223372036854775808≤b) (b1:b<9223372036854775808) :
  f231 a b=some (a*b/18446744073709551616,a*b%18446744073709551616):=by
 unfold f231
 rw [size_ok a a0 a1,size_ok b b0 b1]
 simp only [A9]
 have key:∀ x y:Int,0≤x→x≤9223372036854775808→0≤y→y≤9223372036854775808→0≤x*y∧x*y≤85070591730234615865843651857942052864:=fun x y h0 h1 g0 g1=>⟨Int.mul_nonneg h0 g0,Int.mul_le_mul h1 g1 g0 (by decide)⟩
 have pos:∀ q:Int,0≤q→q≤85070591730234615865843651857942052864→IntKind.i64.wrap (q/18446744073709551616)=q/18446744073709551616:=fun q h0 h1=>E9 (by omega) (by omega)
 have neg:∀ q:Int,0≤q→q≤85070591730234615865843651857942052864→f191 (q/18446744073709551616,q%18446744073709551616)=some (-q/18446744073709551616,-q%18446744073709551616):=fun q h0 h1=>by
  unfold f191 f217
  simp only
  rw [sub_ok _ _ _ (by omega) (by omega) (by omega) (by omega) (by omega) (by omega)]
  simp only [A9,wu]
  rw [sub_ok _ _ _ (by omega) (by omega) (by omega) (by omega) (by split <;> omega) (by split <;> omega)]
  simp only [A9,Option.some.injEq,Prod.mk.injEq]
  constructor
  ·rw [wi];split <;> split <;> omega
  ·omega
 by_cases ha:a<0 <;> by_cases hb:b<0
 ·rw [show (decide (a<0)==decide (b<0))=true by simp [ha,hb],if_pos ha,if_pos hb]
  obtain ⟨k0,k1⟩:=key (-a) (-b) (by omega) (by omega) (by omega) (by omega)
  rw [mul64_ok _ _ (by omega) (by omega) (by omega) (by omega)]
  simp only [A9,Bool.not_true,cond_false]
  rw [Int.neg_mul_neg] at *
  rw [pos _ k0 k1]
 ·rw [show (decide (a<0)==decide (b<0))=false by simp [ha,hb],if_pos ha,if_neg hb]
  obtain ⟨k0,k1⟩:=key (-a) b (by omega) (by omega) (by omega) (by omega)
  rw [mul64_ok _ _ (by omega) (by omega) (by omega) (by omega)]
  simp only [A9,Bool.not_false,cond_true]
  rw [pos _ k0 k1,neg _ k0 k1]
  simp only [A9,Int.neg_mul,Int.neg_neg]
 ·rw [show (decide (a<0)==decide (b<0))=false by simp [ha,hb],if_neg ha,if_pos hb]
  obtain ⟨k0,k1⟩:=key a (-b) (by omega) (by omega) (by omega) (by omega)
  rw [mul64_ok _ _ (by omega) (by omega) (by omega) (by omega)]
  simp only [A9,Bool.not_false,cond_true]
  rw [pos _ k0 k1,neg _ k0 k1]
  simp only [A9,Int.mul_neg,Int.neg_neg]
 ·rw [show (decide (a<0)==decide (b<0))=true by simp [ha,hb],if_neg ha,if_neg hb]
  obtain ⟨k0,k1⟩:=key a b (by omega) (by omega) (by omega) (by omega)
  rw [mul64_ok _ _ (by omega) (by omega) (by omega) (by omega)]
  simp only [A9,Bool.not_true,cond_false]
  rw [pos _ k0 k1]
theorem prodBnd (a b:Int) (a0 : -9223372036854775808≤a) (a1:a<9223372036854775808) (b0 : -9223372036854775808≤b) (b1:b<9223372036854775808) :
  -85070591730234615865843651857942052864≤a*b∧a*b≤85070591730234615865843651857942052864:=by
 have key:∀ x y:Int,0≤x→x≤9223372036854775808→0≤y→y≤9223372036854775808→0≤x*y∧x*y≤85070591730234615865843651857942052864:=fun x y h0 h1 g0 g1=>⟨Int.mul_nonneg h0 g0,Int.mul_le_mul h1 g1 g0 (by decide)⟩
 by_cases ha:a<0 <;> by_cases hb:b<0
 ·have:=key (-a) (-b) (by omega) (by omega) (by omega) (by omega)
  rw [Int.neg_mul_neg] at this;omega
 ·have:=key (-a) b (by omega) (by omega) (by omega) (by omega)
  rw [Int.neg_mul] at this;omega
 ·have:=key a (-b) (by omega) (by omega) (by omega) (by omega)
  rw [Int.mul_neg] at this;omega
 ·have:=key a b (by omega) (by omega) (by omega) (by omega)
  omega
theorem dd (S:Int):S/340282366920938463463374607431768211456=S/18446744073709551616/18446744073709551616:=by omega
theorem sum_div (S p:Int):(S+p)/18446744073709551616=S/18446744073709551616+p/18446744073709551616+(S%18446744073709551616+p%18446744073709551616)/18446744073709551616:=by omega
theorem sum_div3 (s q k:Int):(s+q+k)/18446744073709551616=s/18446744073709551616+q/18446744073709551616+(s%18446744073709551616+q%18446744073709551616+k)/18446744073709551616:=by omega
theorem plus_ok (S a b:Int) (s0 : -1000000000000000000000000000000000000000000000≤S) (s1:S≤1000000000000000000000000000000000000000000000)
  (a0 : -9223372036854775808≤a) (a1:a<9223372036854775808) (b0 : -9223372036854775808≤b) (b1:b<9223372036854775808) :
  f211 (S/340282366920938463463374607431768211456) (IntKind.i64.wrap (S/18446744073709551616)) (S%18446744073709551616) a b =
   some ((S+a*b)/340282366920938463463374607431768211456,IntKind.i64.wrap ((S+a*b)/18446744073709551616),(S+a*b)%18446744073709551616):=by
 obtain ⟨p0,p1⟩:=prodBnd a b a0 a1 b0 b1
 unfold f211
 rw [prod_ok a b a0 a1 b0 b1]
 generalize a*b=p at *
 simp only [A9]
 rw [add_ok _ _ _ (by omega) (by omega) (by omega) (by omega)]
 simp only [A9,wu_wi]
 rw [wu,add_ok _ _ _ (by omega) (by omega) (by omega) (by omega)]
 simp only [A9,sh63i,Option.some.injEq,Prod.mk.injEq,Int.add_zero]
 have hk0:0≤(S%18446744073709551616+p%18446744073709551616)/18446744073709551616:=by omega
 have hk1:(S%18446744073709551616+p%18446744073709551616)/18446744073709551616≤1:=by omega
 have hlo:(S%18446744073709551616+p%18446744073709551616)%18446744073709551616=(S+p)%18446744073709551616:=by omega
 have hs0 : -100000000000000000000000000≤S/18446744073709551616:=by omega
 have hs1:S/18446744073709551616≤100000000000000000000000000:=by omega
 have hq0 : -4611686018427387905≤p/18446744073709551616:=by omega
 have hq1:p/18446744073709551616≤4611686018427387905:=by omega
 rw [dd S,dd (S+p),sum_div S p,hlo]
 generalize (S%18446744073709551616+p%18446744073709551616)/18446744073709551616=k at *
 generalize S/18446744073709551616=s at *
 generalize p/18446744073709551616=q at *
 have hc0:0≤(s%18446744073709551616+q%18446744073709551616+k)/18446744073709551616:=by omega
 have hc1:(s%18446744073709551616+q%18446744073709551616+k)/18446744073709551616≤1:=by omega
 have hq:q/9223372036854775808=q/18446744073709551616:=by omega
 have hqr : -1≤q/18446744073709551616∧q/18446744073709551616≤0:=by omega
 have hsr : -100000000≤s/18446744073709551616∧s/18446744073709551616≤100000000:=by omega
 refine ⟨?_,?_,rfl⟩
 ·rw [sum_div3 s q k,hq]
  generalize (s%18446744073709551616+q%18446744073709551616+k)/18446744073709551616=c2 at *
  rw [E9 (n:=c2) (by omega) (by omega),E9 (n:=q/18446744073709551616+c2) (by omega) (by omega),E9]
  omega
 ·rw [wi_mod,← wi_mod,← wi_mod (s+q+k)]
  congr 1
  omega
def rhe (S:Int):Int:=if S%4294967296>2147483648∨(S%4294967296=2147483648∧S/4294967296%2=1) then S/4294967296+1 else S/4294967296
def sat (x:Int):Int:=if x≥9223372036854775808 then 9223372036854775807 else if x < -9223372036854775808 then -9223372036854775808 else x
theorem fix_ok (R:Int) (h0 : -1000000000000000000000000000000000000≤R) (h1:R≤1000000000000000000000000000000000000):f190 (R/18446744073709551616,R%18446744073709551616)=some (sat R):=by
 unfold f190 f190_j2 f190_j3 sat
 simp only
 by_cases c1:R/18446744073709551616>0
 ·rw [show decide (R/18446744073709551616>0)=true by simpa using c1]
  simp only [cond_true,A9,F6]
  rw [iPo]
 ·rw [show decide (R/18446744073709551616>0)=false by simpa using c1]
  simp only [cond_false]
  by_cases c2:R/18446744073709551616=0
  ·rw [show (R/18446744073709551616==0)=true by simpa using c2]
   simp only [cond_true,A9]
   by_cases c3:R%18446744073709551616≥9223372036854775808
   ·rw [show decide (R%18446744073709551616≥9223372036854775808)=true by simpa using c3]
    simp only [cond_true,A9,F6]
    rw [iPo]
   ·rw [show decide (R%18446744073709551616≥9223372036854775808)=false by simpa using c3]
    simp only [cond_false]
    rw [show decide (R/18446744073709551616 < -1)=false by simp;omega,show (R/18446744073709551616==-1)=false by simp;omega]
    simp only [cond_false,A9,Fl]
    rw [iNo,iNo,E9]
    congr 1;omega
  ·rw [show (R/18446744073709551616==0)=false by simpa using c2]
   simp only [cond_false,A9]
   by_cases c4:R/18446744073709551616 < -1
   ·rw [show decide (R/18446744073709551616 < -1)=true by simpa using c4]
    simp only [cond_true,A9,F6]
    rw [iNo,iPo]
   ·rw [show decide (R/18446744073709551616 < -1)=false by simpa using c4,show (R/18446744073709551616==-1)=true by simp;omega]
    simp only [cond_false,cond_true]
    by_cases c5:R%18446744073709551616<9223372036854775808
    ·rw [show decide (R%18446744073709551616<9223372036854775808)=true by simpa using c5]
     simp only [cond_true,A9,F6]
     rw [iNo,iPo]
    ·rw [show decide (R%18446744073709551616<9223372036854775808)=false by simpa using c5]
     simp only [cond_false,A9,Fl]
     rw [iNo,iNo,wi]
     congr 1
     split <;> omega
theorem down_ok (S:Int):f241 (S/18446744073709551616,S%18446744073709551616) 32 =
  some (S/18446744073709551616/4294967296,S/4294967296%18446744073709551616,S%4294967296*4294967296,0):=by
 unfold f241
 rw [show decide ((32:Int)≥64)=false from rfl]
 simp only [cond_false]
 rw [Bh (by decide),Bh (by decide),Bh (by decide),Bh (by decide)]
 simp only [sh32i,sh32u]
 rw [show ((2:Int) ^ min (Int.toNat (IntKind.i64.wrap ((64:Int)-32))) (IntKind.bits IntKind.u64))=4294967296 from rfl]
 simp only [wu,Option.some.injEq,Prod.mk.injEq,and_true,true_and]
 refine ⟨?_,by omega⟩
 have e:S/18446744073709551616%18446744073709551616*4294967296%18446744073709551616=S/18446744073709551616%4294967296*4294967296:=by omega
 rw [e,or32 _ _ (by omega) (by omega) (by omega) (by omega)]
 omega
theorem shift_ok (S:Int) (h0 : -170141183460469231731687303715884105728≤S) (h1:S<170141183460469231731687303715884105728) :
  f232 (S/18446744073709551616,S%18446744073709551616) 32=some (rhe S/18446744073709551616,rhe S%18446744073709551616):=by
 unfold f232
 rw [show f232_j1 32=some (Sum.inl ()) from rfl]
 simp only [A9,Fl,down_ok]
 have hup:∀ q:Int,f44 (q/18446744073709551616,q%18446744073709551616) (0,1)=some (IntKind.i64.wrap ((q+1)/18446744073709551616),(q+1)%18446744073709551616):=fun q=>by
  unfold f44
  simp only
  rw [add_ok _ _ _ (by omega) (by omega) (by omega) (by omega)]
  simp only [A9,wu]
  rw [add_ok _ _ _ (by omega) (by omega) (by omega) (by omega)]
  simp only [A9,Option.some.injEq,Prod.mk.injEq]
  constructor
  ·rw [wi_mod,← wi_mod,← wi_mod ((q+1)/18446744073709551616)]
   congr 1
   omega
  ·omega
 have e1:S/18446744073709551616/4294967296=S/4294967296/18446744073709551616:=by omega
 rw [e1]
 have hr:rhe S=S/4294967296+1∨rhe S=S/4294967296:=by unfold rhe;split <;> simp
 have up:f232_j2 (S/4294967296/18446744073709551616,S/4294967296%18446744073709551616,S%4294967296*4294967296,0) =
   some (decide (S%4294967296>2147483648∨(S%4294967296=2147483648∧S/4294967296%2=1))):=by
  unfold f232_j2
  simp only
  by_cases c1:S%4294967296>2147483648
  ·rw [show decide (S%4294967296*4294967296>9223372036854775808)=true by simp;omega]
   simp [c1]
  ·rw [show decide (S%4294967296*4294967296>9223372036854775808)=false by simp;omega]
   simp only [cond_false]
   by_cases c2:S%4294967296=2147483648
   ·rw [show (S%4294967296*4294967296==9223372036854775808)=true by simp;omega]
    simp only [cond_true]
    rw [show decide ((0:Int)>0)=false from rfl,and1 _ (by omega) (by omega)]
    simp only [cond_false,Option.some.injEq]
    rw [show S/4294967296%18446744073709551616%2=S/4294967296%2 by omega]
    simp [c2]
    rfl
   ·rw [show (S%4294967296*4294967296==9223372036854775808)=false by simp;omega]
    simp [c1,c2]
 rw [up]
 simp only [A9]
 by_cases c:S%4294967296>2147483648∨(S%4294967296=2147483648∧S/4294967296%2=1)
 ·rw [show decide _=true from decide_eq_true c]
  have hrr:rhe S=S/4294967296+1:=by unfold rhe;rw [if_pos c]
  rw [show f45 1=some (0,1) from rfl]
  simp only [cond_true,A9,hup]
  rw [hrr,E9]
 ·rw [show decide _=false from decide_eq_false c]
  have hrr:rhe S=S/4294967296:=by unfold rhe;rw [if_neg c]
  simp only [cond_false]
  rw [hrr]
theorem accFix_ok (S:Int) (s0 : -1000000000000000000000000000000000000000000000≤S) (s1:S≤1000000000000000000000000000000000000000000000) :
  ∃ x y z,f212 (S/340282366920938463463374607431768211456) (IntKind.i64.wrap (S/18446744073709551616)) (S%18446744073709551616) 32=some (sat (rhe S),x,y,z):=by
 have hrb:S/4294967296≤rhe S∧rhe S≤S/4294967296+1:=by unfold rhe;split <;> omega
 unfold f212
 rw [sh63i]
 by_cases c : -170141183460469231731687303715884105728≤S∧S<170141183460469231731687303715884105728
 ·obtain ⟨c0,c1⟩:=c
  have hw:IntKind.i64.wrap (S/18446744073709551616)=S/18446744073709551616:=E9 (by omega) (by omega)
  rw [hw,show (S/340282366920938463463374607431768211456==S/18446744073709551616/9223372036854775808)=true by simp;omega]
  simp only [cond_true,shift_ok S c0 c1,A9]
  rw [fix_ok _ (by omega) (by omega)]
  exact ⟨_,_,_,rfl⟩
 ·have hne:¬S/340282366920938463463374607431768211456=IntKind.i64.wrap (S/18446744073709551616)/9223372036854775808:=by
   rw [wi];split <;> omega
  rw [show (S/340282366920938463463374607431768211456==IntKind.i64.wrap (S/18446744073709551616)/9223372036854775808)=false by simpa using hne]
  simp only [cond_false]
  by_cases c2:S/340282366920938463463374607431768211456<0
  ·rw [show decide (S/340282366920938463463374607431768211456<0)=true by simpa using c2]
   refine ⟨S/340282366920938463463374607431768211456,IntKind.i64.wrap (S/18446744073709551616),S%18446744073709551616,?_⟩
   simp only [cond_true]
   congr 2
   unfold sat
   rw [iNo,iPo]
  ·rw [show decide (S/340282366920938463463374607431768211456<0)=false by simpa using c2]
   refine ⟨S/340282366920938463463374607431768211456,IntKind.i64.wrap (S/18446744073709551616),S%18446744073709551616,?_⟩
   simp only [cond_false]
   congr 2
   unfold sat
   rw [iPo]
def dotS:List Int→List Int→Int
 | x::a,y::b=>x*y+dotS a b
 | _,_=>0
def inI (l:List Int):Prop:=∀ x ∈ l,-9223372036854775808≤x∧x<9223372036854775808
theorem dot_ok (a b:List Int) (ha:inI a) (hb:inI b) (hl:a.length≤5000∨b.length≤5000):f227 a b=some (sat (rhe (dotS a b))):=by
  unfold f227
  have hmin:∀ n:Int,(if (List.length b:Int)<(List.length a:Int) then (List.length b:Int) else (List.length a:Int))=((min a.length b.length:Nat):Int):=fun _=>by split <;> omega
  have H:∀ x:Int×Int×Int×Int,(∃ (k:Nat) (S:Int),k≤a.length∧k≤b.length∧x=((k:Int),S/340282366920938463463374607431768211456,IntKind.i64.wrap (S/18446744073709551616),S%18446744073709551616)∧
        S+dotS (a.drop k) (b.drop k)=dotS a b∧-(k*85070591730234615865843651857942052864)≤S∧S≤k*85070591730234615865843651857942052864)→
      (∃ z,(∀ go,f227_l1 a b go x.1 x.2.1 x.2.2.1 x.2.2.2=some z)∧(∃ S:Int,S=dotS a b∧-1000000000000000000000000000000000000000000000≤S∧S≤1000000000000000000000000000000000000000000000∧z=(S/340282366920938463463374607431768211456,IntKind.i64.wrap (S/18446744073709551616),S%18446744073709551616)))∨
      (∃ y:Int×Int×Int×Int,(∀ go,f227_l1 a b go x.1 x.2.1 x.2.2.1 x.2.2.2=go y)∧(∃ (k:Nat) (S:Int),k≤a.length∧k≤b.length∧y=((k:Int),S/340282366920938463463374607431768211456,IntKind.i64.wrap (S/18446744073709551616),S%18446744073709551616)∧
        S+dotS (a.drop k) (b.drop k)=dotS a b∧-(k*85070591730234615865843651857942052864)≤S∧S≤k*85070591730234615865843651857942052864)∧(((min a.length b.length:Nat):Int)-y.1).toNat<(((min a.length b.length:Nat):Int)-x.1).toNat):=by
    rintro _ ⟨k,S,ka,kb,rfl,hS,s0,s1⟩
    by_cases hlt:k<a.length∧k<b.length
    · right
      obtain ⟨la,lb⟩:=hlt
      have xa:=ha a[k] (List.getElem_mem la)
      have xb:=hb b[k] (List.getElem_mem lb)
      obtain ⟨p0,p1⟩:=prodBnd a[k] b[k] xa.1 xa.2 xb.1 xb.2
      refine ⟨(((k+1:Nat):Int),_,_,_),fun go=>?_,⟨k+1,S+a[k]*b[k],la,lb,rfl,?_,?_,?_⟩,by simp only;omega⟩
      · simp only [f227_l1,hmin 0]
        rw [show decide ((k:Int)<((min a.length b.length:Nat):Int))=true by simp;omega]
        simp only [cond_true]
        rw [Bh,Bh,Gg _ _ _ la,Gg _ _ _ lb,plus_ok S _ _ (by omega) (by omega) xa.1 xa.2 xb.1 xb.2]
        simp only [A9]
        rw [E9]
        rfl
      · rw [List.drop_eq_getElem_cons la,List.drop_eq_getElem_cons lb] at hS
        simp only [dotS] at hS
        omega
      · simp only [Int.natCast_add,Int.natCast_one,Int.add_mul];omega
      · simp only [Int.natCast_add,Int.natCast_one,Int.add_mul];omega
    · left
      refine ⟨_,fun go=>?_,S,?_,by omega,by omega,rfl⟩
      · simp only [f227_l1,hmin 0]
        rw [show decide ((k:Int)<((min a.length b.length:Nat):Int))=false by simp;omega]
        rfl
      · have:dotS (a.drop k) (b.drop k)=0:=by
          by_cases h:k<a.length
          · have hb0:b.drop k=[]:=List.drop_eq_nil_of_le (by omega)
            rw [hb0]
            cases a.drop k <;> rfl
          · have ha0:a.drop k=[]:=List.drop_eq_nil_of_le (by omega)
            rw [ha0]
            cases b.drop k <;> rfl
        omega
  obtain ⟨z,e,S,hS,s0,s1,rfl⟩:=Gd (B:=fun go (x:Int×Int×Int×Int)=>f227_l1 a b go x.1 x.2.1 x.2.2.1 x.2.2.2) _ (fun x=>(((min a.length b.length:Nat):Int)-x.1).toNat) _ H ((0:Int),(0:Int),(0:Int),(0:Int))
    ⟨0,0,Nat.zero_le _,Nat.zero_le _,rfl,by simp,by simp,by simp⟩ (by simp;omega)
  rw [e]
  simp only [A9]
  obtain ⟨x,y,w,hf⟩:=accFix_ok S s0 s1
  rw [hf]
  simp only [A9,hS]
end Go.Proofs.PlW
namespace Go.Proofs.PlT
open Go.AM Go.Proofs.PlB Go.Proofs.PlW
theorem lf1 {X Z:Type} (B:(X→Option Z)→X→Option Z) (x:X):Fp B Fq x=B (Fp B 18446744073709551615) x:=rfl
theorem lf2 {X Z:Type} (B:(X→Option Z)→X→Option Z) (x:X):Fp B 18446744073709551615 x=B (Fp B 18446744073709551614) x:=rfl
theorem lf3 {X Z:Type} (B:(X→Option Z)→X→Option Z) (x:X):Fp B 18446744073709551614 x=B (Fp B 18446744073709551613) x:=rfl
theorem lf4 {X Z:Type} (B:(X→Option Z)→X→Option Z) (x:X):Fp B 18446744073709551613 x=B (Fp B 18446744073709551612) x:=rfl
theorem lf5 {X Z:Type} (B:(X→Option Z)→X→Option Z) (x:X):Fp B 18446744073709551612 x=B (Fp B 18446744073709551611) x:=rfl
theorem pgo_range:∀ (d:List Int) (n:Int),0≤n→n≤4096→0≤pgo n d∧pgo n d≤4096
 | [],n,h0,h1=>⟨h0,h1⟩
 | x::r,n,h0,h1=>by
  simp only [pgo]
  split
  ·omega
  ·have:0≤n*x:=Int.mul_nonneg h0 (by omega)
   exact pgo_range r _ this (by omega)
theorem F2 (d:List Int):0≤prd d∧prd d≤4096:=by
 unfold prd
 split
 ·omega
 ·exact pgo_range d 1 (by omega) (by omega)
theorem Gy {d:List Int} (h:0<prd d):d.length≤4:=by
 unfold prd at h
 split at h <;> omega
theorem over_rep (v:Int) (n c m:Nat) (h:c+m≤n):over (List.replicate c v++List.replicate (n-c) 0) (c:Int) (List.replicate m v)=List.replicate (c+m) v++List.replicate (n-(c+m)) 0:=by
 unfold over
 simp only [Int.toNat_natCast,List.length_replicate]
 rw [List.take_append_of_le_length (by simp),List.take_of_length_le (by simp),List.drop_append,List.drop_of_length_le (by simp),List.nil_append,List.length_replicate,List.drop_replicate,List.replicate_append_replicate]
 congr 2
 omega
theorem repeat_ok (v:Int) (n:Nat) (h:n≤4096):f108 [v] (n:Int)=some (List.replicate n v):=by
 unfold f108
 rw [show decide ((n:Int)<0)=false by simp]
 simp only [cond_false,f158]
 rw [mul64_ok _ _ (by rw [wu];omega) (by rw [wu];omega) (by rw [wu];omega) (by rw [wu];omega)]
 simp only [A9,wu,List.length_cons,List.length_nil]
 have e1:(((0+1:Nat):Int)%18446744073709551616*((n:Int)%18446744073709551616))=n:=by
  rw [show (((0+1:Nat):Int)%18446744073709551616)=1 from rfl,Int.one_mul];omega
 rw [e1,show (n:Int)/18446744073709551616=0 by omega,show (n:Int)%18446744073709551616=n by omega]
 have hj:f108_j1 ((0:Int),(n:Int))=some ():=by
  unfold f108_j1
  simp only
  rw [show decide ((0:Int)>0)=false from rfl,show decide ((n:Int)>9223372036854775807)=false by simp;omega]
  rfl
 rw [hj,E9]
 simp only [A9,Int.toNat_natCast,List.length_replicate]
 rw [Bh]
 have e2:List.take (n-(0:Int).toNat) [v]=List.replicate (min n 1) v:=by
  cases n with
  | zero=>rfl
  | succ n=>rw [show min (n+1) 1=1 by omega];simp
 rw [show (0:Int).toNat=0 from rfl] at *
 rw [e2]
 have H:∀ x:Int×List Int,(∃ c:Nat,x=((c:Int),List.replicate c v++List.replicate (n-c) 0)∧c≤n∧(1≤n→1≤c))→
   (∃ z,(∀ go,f108_l2 go x.1 x.2=some z)∧z=List.replicate n v)∨
   (∃ y:Int×List Int,(∀ go,f108_l2 go x.1 x.2=go y)∧(∃ c:Nat,y=((c:Int),List.replicate c v++List.replicate (n-c) 0)∧c≤n∧(1≤n→1≤c))∧((n:Int)-y.1).toNat<((n:Int)-x.1).toNat):=by
  rintro _ ⟨c,rfl,hc,h1⟩
  have hlen:(List.replicate c v++List.replicate (n-c) (0:Int)).length=n:=by simp;omega
  by_cases hlt:c<n
  ·right
   have ht:List.take ((n:Int).toNat-(c:Int).toNat) (List.drop (0:Int).toNat (List.take (c:Int).toNat (List.replicate c v++List.replicate (n-c) (0:Int))))=List.replicate (min (n-c) c) v:=by
    simp only [Int.toNat_natCast,show (0:Int).toNat=0 from rfl,List.drop_zero]
    rw [List.take_append_of_le_length (by simp),List.take_replicate,List.take_replicate]
    congr 1;omega
   refine ⟨(((c+min (n-c) c:Nat):Int),_),fun go=>?_,⟨c+min (n-c) c,rfl,by omega,by omega⟩,by simp only;omega⟩
   simp only [f108_l2,hlen]
   rw [show decide ((c:Int)<(n:Int))=true by simpa using hlt]
   simp only [cond_true]
   rw [Bh,Bh,ht,List.length_replicate,E9,over_rep v n c _ (by omega)]
   rfl
  ·left
   have:c=n:=by omega
   subst this
   refine ⟨_,fun go=>?_,rfl⟩
   simp only [f108_l2,hlen]
   rw [show decide ((c:Int)<(c:Int))=false by simp]
   simp
 have e3:(((List.replicate (min n 1) v).length:Int),over (List.replicate n (0:Int)) 0 (List.replicate (min n 1) v))=(((min n 1:Nat):Int),List.replicate (min n 1) v++List.replicate (n-min n 1) 0):=by
  have:=over_rep v n 0 (min n 1) (by omega)
  simp only [List.replicate_zero,List.nil_append,Nat.sub_zero,Nat.zero_add] at this
  rw [List.length_replicate]
  exact Prod.ext rfl this
 rw [e3]
 obtain ⟨z,e,rfl⟩:=Gd (B:=fun go (x:Int×List Int)=>f108_l2 go x.1 x.2) _ (fun x=>((n:Int)-x.1).toNat) _ H _ ⟨min n 1,rfl,by omega,by omega⟩ (by simp only;omega)
 rw [e]
 rfl
theorem Ky (d:List Int) (v:Int):f73 d v=some (if 0<prd d then (0,d,List.replicate (prd d).toNat v) else (1,[],[])):=by
 unfold f73
 rw [Gn]
 simp only [A9]
 by_cases h:0<prd d
 ·have hl:=Gy h
  have hr:=F2 d
  rw [show decide (prd d>0)=true by simpa using h,if_pos h,clone_d d (by omega),PlB.size_ok]
  simp only [Bool.not_true,cond_false,A9]
  rw [show prd d=(((prd d).toNat:Nat):Int) by omega,repeat_ok v _ (by omega)]
  simp only [A9,Int.toNat_natCast]
 ·rw [show decide (prd d>0)=false by simpa using h,if_neg h]
  rfl
theorem prd_two (n m:Int):prd [n,m]=if n<1∨n>4096∨m<1∨m>4096∨n*m>4096 then 0 else n*m:=by
 simp only [prd,pgo,List.length_cons,List.length_nil,Int.one_mul]
 rw [iNo]
 by_cases h1:n<1∨n>4096∨n>4096
 ·rw [if_pos h1,iPo]
 ·rw [if_neg h1]
  by_cases h2:m<1∨m>4096∨n*m>4096
  ·rw [if_pos h2,iPo]
  ·rw [if_neg h2,iNo]
def J4 (g:Nat→Int) (k n:Nat):List Int:=(List.range k).map g++List.replicate (n-k) 0
theorem filled_len (g:Nat→Int) (k n:Nat) (h:k≤n):(J4 g k n).length=n:=by simp [J4];omega
theorem filled_set (g:Nat→Int) (k n:Nat) (h:k<n):(J4 g k n).set k (g k)=J4 g (k+1) n:=by
 unfold J4
 rw [show n-k=(n-(k+1))+1 by omega,List.replicate_succ,List.set_append_right _ _ (by simp)]
 simp [List.range_succ]
theorem filled_full (g:Nat→Int) (n:Nat):J4 g n n=(List.range n).map g:=by simp [J4]
theorem filled_zero (g:Nat→Int) (n:Nat):J4 g 0 n=List.replicate n 0:=by simp [J4]
end Go.Proofs.PlT
namespace Go.AM
open Go.Proofs.PlT
theorem dT {p:Prop} [Decidable p] (h:p:=by omega):decide p=true:=decide_eq_true h
theorem dF {p:Prop} [Decidable p] (h:¬p:=by omega):decide p=false:=decide_eq_false h
theorem bT {a b:Int} (h:a=b):(a==b)=true:=by simpa using h
theorem bF {a b:Int} (h:¬a=b):(a==b)=false:=by simpa using h
theorem nT {a b:Int} (h:¬a=b:=by omega):(a != b)=true:=by simpa using h
theorem nF {a b:Int} (h:a=b:=by omega):(a != b)=false:=by simpa using h
theorem loop_for_aux {X Z:Type} {B:(X→Option Z)→X→Option Z} (s:Nat→X) (n:Nat) (z:Z)
  (hs:∀ k,k<n→∀ go,B go (s k)=go (s (k+1))) (he:∀ go,B go (s n)=some z) :
  ∀ m k,k≤n→n<m+k→Fp B m (s k)=some z
 | 0,k,h1,h2=>absurd h1 (by omega)
 | m+1,k,h1,h2=>by
  rw [G9]
  by_cases h:k<n
  ·rw [hs k h];exact loop_for_aux s n z hs he m (k+1) h (by omega)
  ·rw [show k=n by omega];exact he _
theorem Fx {X Z:Type} {B:(X→Option Z)→X→Option Z} (s:Nat→X) (n:Nat) (z:Z)
  (hs:∀ k,k<n→∀ go,B go (s k)=go (s (k+1))) (he:∀ go,B go (s n)=some z) (hn:n<18446744073709551616) :
  Fp B Fq (s 0)=some z:=loop_for_aux s n z hs he Fq 0 (Nat.zero_le _) (by show n<18446744073709551616+0;omega)
def Lt (P:Nat→Bool):Nat→Nat→Option Nat
 | k,0=>none
 | k,n+1=>if P k then some k else Lt P (k+1) n
theorem loop_find_aux {X Z:Type} {B:(X→Option Z)→X→Option Z} (s:Nat→X) (P:Nat→Bool) (zx:Nat→Z) (z:Z) (n:Nat)
  (hs:∀ k,k<n→P k=false→∀ go,B go (s k)=go (s (k+1))) (hx:∀ k,k<n→P k=true→∀ go,B go (s k)=some (zx k)) (he:∀ go,B go (s n)=some z) :
  ∀ r m k,k+r=n→r<m→Fp B m (s k)=some (match Lt P k r with | some i=>zx i | none=>z)
 | 0,0,k,h1,h2=>absurd h2 (by omega)
 | 0,m+1,k,h1,h2=>by rw [G9,show k=n by omega];exact he _
 | r+1,0,k,h1,h2=>absurd h2 (by omega)
 | r+1,m+1,k,h1,h2=>by
  rw [G9]
  unfold Lt
  cases h:P k
  ·rw [hs k (by omega) h];exact loop_find_aux s P zx z n hs hx he r m (k+1) (by omega) (by omega)
  ·rw [hx k (by omega) h];rfl
theorem loop_find {X Z:Type} {B:(X→Option Z)→X→Option Z} (s:Nat→X) (P:Nat→Bool) (zx:Nat→Z) (z:Z) (n:Nat)
  (hs:∀ k,k<n→P k=false→∀ go,B go (s k)=go (s (k+1))) (hx:∀ k,k<n→P k=true→∀ go,B go (s k)=some (zx k)) (he:∀ go,B go (s n)=some z) (hn:n<18446744073709551616) :
  Fp B Fq (s 0)=some (match Lt P 0 n with | some i=>zx i | none=>z):=loop_find_aux s P zx z n hs hx he n Fq 0 (by omega) (by show n<18446744073709551616;omega)
theorem firstB_none (P:Nat→Bool):∀ n k,(Lt P k n=none↔∀ i,k≤i→i<k+n→P i=false)
 | 0,k=>by simp only [Lt,true_iff];intro i h1 h2;omega
 | n+1,k=>by
  unfold Lt
  by_cases h:P k=true
  ·simp only [h,if_true]
   constructor
   ·intro h';exact absurd h' (by simp)
   ·intro h';have:=h' k (Nat.le_refl _) (by omega);rw [h] at this;exact absurd this (by decide)
  ·rw [if_neg h,firstB_none P n (k+1)]
   constructor
   ·intro h' i h1 h2
    by_cases hk:i=k
    ·subst hk;simpa using h
    ·exact h' i (by omega) (by omega)
   ·intro h' i h1 h2;exact h' i (by omega) (by omega)
def anyB (n:Nat) (P:Nat→Bool):Bool:=(Lt P 0 n).isSome
theorem anyB_false {n:Nat} {P:Nat→Bool}:anyB n P=false↔∀ i,i<n→P i=false:=by
 unfold anyB
 rw [Option.isSome_eq_false_iff,Option.isNone_iff_eq_none,firstB_none]
 constructor
 ·intro h i hi;exact h i (Nat.zero_le _) (by omega)
 ·intro h i _ hi;exact h i (by omega)
theorem loop_any {X Z:Type} {B:(X→Option Z)→X→Option Z} (s:Nat→X) (P:Nat→Bool) (zx z:Z) (n:Nat)
  (hs:∀ k,k<n→P k=false→∀ go,B go (s k)=go (s (k+1))) (hx:∀ k,k<n→P k=true→∀ go,B go (s k)=some zx) (he:∀ go,B go (s n)=some z) (hn:n<18446744073709551616) :
  Fp B Fq (s 0)=some (bif anyB n P then zx else z):=by
 rw [loop_find s P (fun _=>zx) z n hs hx he hn]
 unfold anyB
 cases Lt P 0 n <;> rfl
theorem loop_rel_aux {X Z:Type} {B:(X→Option Z)→X→Option Z} (R:Nat→X→Prop) (Q:Z→Prop) (n:Nat)
  (hs:∀ k,k<n→∀ x,R k x→∃ y,(∀ go,B go x=go y)∧R (k+1) y) (he:∀ x,R n x→∃ z,(∀ go,B go x=some z)∧Q z) :
  ∀ m k x,k≤n→n<m+k→R k x→∃ z,Fp B m x=some z∧Q z
 | 0,k,x,h1,h2,_=>absurd h1 (by omega)
 | m+1,k,x,h1,h2,hr=>by
  rw [G9]
  by_cases h:k<n
  ·obtain ⟨y,e,hy⟩:=hs k h x hr
   rw [e];exact loop_rel_aux R Q n hs he m (k+1) y h (by omega) hy
  ·rw [show k=n by omega] at hr
   obtain ⟨z,e,hz⟩:=he x hr
   exact ⟨z,e _,hz⟩
theorem Le {X Z:Type} {B:(X→Option Z)→X→Option Z} (R:Nat→X→Prop) (Q:Z→Prop) (n:Nat) (x:X) (h0:R 0 x)
  (hs:∀ k,k<n→∀ x,R k x→∃ y,(∀ go,B go x=go y)∧R (k+1) y) (he:∀ x,R n x→∃ z,(∀ go,B go x=some z)∧Q z) (hn:n<18446744073709551616) :
  ∃ z,Fp B Fq x=some z∧Q z:=loop_rel_aux R Q n hs he Fq 0 x (Nat.zero_le _) (by show n<18446744073709551616+0;omega) h0
end Go.AM
namespace Go.Proofs.PlB
open Go.AM
theorem clone_v (d:List Int) (h:d.length≤17592186044416):f54 d=some d:=by
 unfold f54 nilF
 cases d with
 | nil=>rfl
 | cons x r=>
  simp only
  rw [Bh (by simp at h ⊢;omega)]
  rfl
theorem copy_t (t:List Int×List Int) (h1:t.1.length≤17592186044416) (h2:t.2.length≤17592186044416):f112 t=some t:=by
 unfold f112
 simp only [clone_d _ h1,clone_v _ h2,A9]
end Go.Proofs.PlB
namespace Go.Proofs.PlS
open Go.AM Go.Proofs.PlB Go.Proofs.PlW Go.Proofs.PlT
def Ga {α:Type} (n:Nat) (g:Nat→α):List α:=(List.range n).map g
theorem Gb {α:Type} (n:Nat) (g:Nat→α):(Ga n g).length=n:=by simp [Ga]
theorem tab_get {α:Type} (n:Nat) (g:Nat→α) (i:Nat) (h:i<(Ga n g).length):(Ga n g)[i]=g i:=by simp [Ga]
theorem Ge {α:Type} (n:Nat) (g f:Nat→α) (h:∀ i,i<n→g i=f i):Ga n g=Ga n f:=by
 unfold Ga;exact List.map_congr_left (fun i hi=>h i (List.mem_range.1 hi))
theorem Ke {α:Type} (n:Nat) (g:Nat→α) (j:Nat) (v:α):(Ga n g).set j v=Ga n (fun i=>if i=j then v else g i):=by
 apply List.ext_getElem
 ·simp [Ga]
 ·intro i h1 h2
  rw [List.getElem_set,tab_get _ _ _ h2]
  by_cases h:j=i
  ·rw [if_pos h,if_pos h.symm]
  ·rw [if_neg h,if_neg (Ne.symm h),tab_get]
theorem Ly {α:Type} (n:Nat) (v:α):List.replicate n v=Ga n (fun _=>v):=by
 apply List.ext_getElem
 ·simp [Ga]
 ·intro i h1 h2;simp [Ga]
theorem Kx {α:Type} (z:α) (n:Nat) (g:Nat→α) (i:Nat) (h:i<n):rd z (Ga n g) (i:Int)=g i:=by
 rw [Gg _ _ _ (by rw [Gb];exact h),tab_get]
def Ft:List Int→Int
 | []=>1
 | x::r=>x*Ft r
theorem pgo_prod:∀ (d:List Int) (n:Int),1≤n→0<pgo n d→pgo n d=n*Ft d∧∀ x ∈ d,1≤x∧x≤4096
 | [],n,h,hp=>⟨by simp [pgo,Ft],fun x hx=>by simp at hx⟩
 | x::r,n,h,hp=>by
  simp only [pgo] at hp ⊢
  by_cases hb:x<1∨x>4096∨n*x>4096
  ·rw [if_pos hb] at hp;exact absurd hp (by decide)
  ·rw [if_neg hb] at hp ⊢
   have h1:1*1≤n*x:=Int.mul_le_mul h (by omega) (by omega) (by omega)
   obtain ⟨e,m⟩:=pgo_prod r (n*x) (by omega) hp
   refine ⟨by rw [e,Ft,Int.mul_assoc],fun y hy=>?_⟩
   rcases List.mem_cons.1 hy with rfl | hy
   ·omega
   ·exact m y hy
theorem Gw {d:List Int} (h:0<prd d):prd d=Ft d∧(∀ x ∈ d,1≤x∧x≤4096)∧d.length≤4:=by
 have hl:=Gy h
 have e:prd d=pgo 1 d:=by unfold prd;rw [iNo]
 rw [e] at h ⊢
 obtain ⟨a,b⟩:=pgo_prod d 1 (by omega) h
 exact ⟨by rw [a,Int.one_mul],b,hl⟩
theorem getD_at (d:List Int) (i:Nat) (h:i<d.length):d.getD i 0=d[i]:=by simp [List.getD,h]
def Fy (d:List Int) (k:Nat):Int:=if k<d.length then d.getD (d.length-1-k) 0 else 1
theorem Lh (d:List Int) (k:Nat) (h:k<d.length):rd (0:Int) d ((d.length-1-k:Nat):Int)=Fy d k:=by
 unfold Fy
 rw [if_pos h,Gg _ _ _ (by omega),getD_at _ _ (by omega)]
theorem Gv {d:List Int} (h:0<prd d) (k:Nat):1≤Fy d k∧Fy d k≤4096:=by
 obtain ⟨_,b,_⟩:=Gw h
 unfold Fy
 split
 ·rw [getD_at _ _ (by omega)]
  exact b _ (List.getElem_mem _)
 ·omega
def Kp (d:List Int) (k:Nat):Int:=Ft (d.drop (d.length-k))
theorem Lk (d:List Int):Kp d 0=1:=by unfold Kp;simp [Ft]
theorem strd_all (d:List Int):Kp d d.length=Ft d:=by unfold Kp;simp
theorem Kv (d:List Int) (k:Nat) (h:k<d.length):Kp d (k+1)=Fy d k*Kp d k:=by
 unfold Kp Fy
 rw [if_pos h,getD_at _ _ (by omega)]
 rw [List.drop_eq_getElem_cons (show d.length-(k+1)<d.length by omega),Ft,show d.length-(k+1)+1=d.length-k by omega]
 congr 2
 omega
theorem L0 {d:List Int} (h:0<prd d):∀ k,k≤d.length→1≤Kp d k
 | 0,_=>by rw [Lk];omega
 | k+1,hk=>by
  rw [Kv d k hk]
  have:=L0 h k (by omega)
  have hs:=(Gv h k).1
  have:1*1≤Fy d k*Kp d k:=Int.mul_le_mul hs this (by omega) (by omega)
  omega
theorem strd_mono {d:List Int} (h:0<prd d):∀ n k,k+n=d.length→Kp d k≤Ft d
 | 0,k,hk=>by rw [show k=d.length by omega,strd_all];omega
 | n+1,k,hk=>by
  have:=strd_mono h n (k+1) (by omega)
  rw [Kv d k (by omega)] at this
  have hs:=(Gv h k).1
  have hp:=L0 h k (by omega)
  have:1*Kp d k≤Fy d k*Kp d k:=Int.mul_le_mul_of_nonneg_right hs (by omega)
  omega
theorem strd_le {d:List Int} (h:0<prd d) (k:Nat) (hk:k≤d.length):Kp d k≤prd d:=by
 rw [(Gw h).1];exact strd_mono h (d.length-k) k (by omega)
def strL (d:List Int):List Int:=Ga d.length (fun i=>Kp d (d.length-1-i))
theorem strides (d:List Int) (h:0<prd d):f226 d=some (strL d):=by
 obtain ⟨_,_,hl⟩:=Gw h
 have hr:=F2 d
 unfold f226
 rw [Gn,show decide (prd d>0)=true by simpa using h]
 simp only [A9,Bool.not_true,cond_false]
 rw [Bh]
 have H:∀ x:Int×Int×List Int,(∃ k:Nat,k≤d.length∧x=(Kp d k,(d.length:Int)-1-k,Ga d.length (fun i=>if d.length-1-i<k then Kp d (d.length-1-i) else 0)))→
   (∃ z,(∀ go,f226_l1 d go x.1 x.2.1 x.2.2=some z)∧z=strL d)∨
   (∃ y:Int×Int×List Int,(∀ go,f226_l1 d go x.1 x.2.1 x.2.2=go y)∧(∃ k:Nat,k≤d.length∧y=(Kp d k,(d.length:Int)-1-k,Ga d.length (fun i=>if d.length-1-i<k then Kp d (d.length-1-i) else 0)))∧(y.2.1+1).toNat<(x.2.1+1).toNat):=by
  rintro _ ⟨k,hk,rfl⟩
  by_cases hlt:k<d.length
  ·right
   refine ⟨(Kp d (k+1),(d.length:Int)-1-((k+1:Nat):Int),Ga d.length (fun i=>if d.length-1-i<k+1 then Kp d (d.length-1-i) else 0)),fun go=>?_,⟨k+1,hlt,rfl⟩,by simp only;omega⟩
   unfold f226_l1
   simp only [Gb]
   rw [show decide ((d.length:Int)-1-(k:Int)≥0)=true by simp;omega]
   simp only [cond_true]
   rw [Bh,Bh]
   rw [show (d.length:Int)-1-(k:Int)=((d.length-1-k:Nat):Int) by omega,Lh d k hlt,Int.toNat_natCast,Ke]
   have hs:=Kv d k hlt
   have hb1:=L0 h (k+1) hlt
   have hb2:=strd_le h (k+1) hlt
   rw [Int.mul_comm,← hs,E9 (n:=Kp d (k+1)) (by omega) (by omega),E9]
   congr 1
   refine Prod.ext rfl (Prod.ext (by simp only;omega) (Ge _ _ _ (fun i hi=>?_)))
   by_cases he:i=d.length-1-k
   ·rw [if_pos he,iPo,show d.length-1-i=k by omega]
   ·rw [if_neg he]
    by_cases h2:d.length-1-i<k
    ·rw [if_pos h2,iPo]
    ·rw [if_neg h2,iNo]
  ·left
   have:k=d.length:=by omega
   subst this
   refine ⟨_,fun go=>?_,rfl⟩
   unfold f226_l1
   simp only
   rw [show decide ((d.length:Int)-1-(d.length:Int)≥0)=false by simp;omega]
   simp only [cond_false,Option.some.injEq]
   exact Ge _ _ _ (fun i hi=>by rw [iPo])
 have e0:((1:Int),IntKind.i64.wrap ((d.length:Int)-1),List.replicate (Int.toNat (d.length:Int)) (0:Int))=(Kp d 0,(d.length:Int)-1-((0:Nat):Int),Ga d.length (fun i=>if d.length-1-i<0 then Kp d (d.length-1-i) else 0)):=by
  rw [Lk,E9,Int.toNat_natCast,Ly]
  refine Prod.ext rfl (Prod.ext (by simp) (Ge _ _ _ (fun i hi=>by rw [iNo])))
 rw [e0]
 obtain ⟨z,e,rfl⟩:=Gd (B:=fun go (x:Int×Int×List Int)=>f226_l1 d go x.1 x.2.1 x.2.2) _ (fun x=>(x.2.1+1).toNat) _ H _ ⟨0,Nat.zero_le _,rfl⟩ (by simp only;omega)
 rw [e]
 rfl
theorem side_ok (d:List Int) (k:Nat) (hl:d.length≤4096) (hk:k≤4096):f225 d (k:Int)=some (Fy d k):=by
 unfold f225
 by_cases h:k<d.length
 ·rw [show decide ((k:Int)≥(d.length:Int))=false by simp;omega]
  simp only [cond_false]
  rw [E9 (n:=(d.length:Int)-1) (by omega) (by omega),E9,Bh,show (d.length:Int)-1-(k:Int)=((d.length-1-k:Nat):Int) by omega,Lh d k h]
 ·rw [show decide ((k:Int)≥(d.length:Int))=true by simp;omega]
  simp only [cond_true]
  unfold Fy
  rw [if_neg h]
structure Joined (a b d:List Int):Prop where
 pa:0<prd a
 pb:0<prd b
 pd:0<prd d
 len:d.length=max a.length b.length
 le:∀ k,k<d.length→Fy d k=max (Fy a k) (Fy b k)
 ok:∀ k,k<d.length→Fy a k=Fy b k∨Fy a k=1∨Fy b k=1
def rst (big:List Int) (v:Int):Nat→Int
 | 0=>v
 | k+1=>rst big v k/Fy big k
def accS (d big:List Int) (v:Int):Nat→Int
 | 0=>0
 | k+1=>accS d big v k+(if Fy d k>1 then rst big v k%Fy big k*Kp d k else 0)
def spX (d big:List Int) (v:Nat):Int:=accS d big v d.length
structure Fits (d big:List Int):Prop where
 pd:0<prd d
 pb:0<prd big
 len:d.length≤big.length
 eq:∀ k,k<d.length→1<Fy d k→Fy big k=Fy d k
theorem rst_range {big:List Int} (h:0<prd big) (v:Int) (v0:0≤v) (v1:v≤4096):∀ k,0≤rst big v k∧rst big v k≤4096
 | 0=>⟨v0,v1⟩
 | k+1=>by
  obtain ⟨a,b⟩:=rst_range h v v0 v1 k
  have hs:=(Gv h k).1
  simp only [rst]
  exact ⟨Int.ediv_nonneg a (by omega),Int.le_trans (Int.ediv_le_self _ a) b⟩
theorem K7 {d big:List Int} (h:Fits d big) (v:Int) (v0:0≤v) (v1:v≤4096):∀ k,k≤d.length→0≤accS d big v k∧accS d big v k<Kp d k
 | 0,_=>by simp only [accS,Lk];omega
 | k+1,hk=>by
  obtain ⟨a,b⟩:=K7 h v v0 v1 k (by omega)
  have hp:=L0 h.pd k (by omega)
  have hs:=(Gv h.pd k).1
  rw [Kv d k hk]
  simp only [accS]
  by_cases h1:Fy d k>1
  ·rw [if_pos h1,h.eq k hk h1]
   have m0:=Int.emod_nonneg (rst big v k) (show Fy d k≠0 by omega)
   have m1:=Int.emod_lt_of_pos (rst big v k) (show 0<Fy d k by omega)
   have p0:0≤rst big v k%Fy d k*Kp d k:=Int.mul_nonneg m0 (by omega)
   have p1:rst big v k%Fy d k*Kp d k≤(Fy d k-1)*Kp d k:=Int.mul_le_mul_of_nonneg_right (by omega) (by omega)
   rw [Int.sub_mul,Int.one_mul] at p1
   omega
  ·rw [if_neg h1,show Fy d k=1 by omega]
   omega
theorem Jo {d big:List Int} (h:Fits d big) (v:Nat) (hv:v≤4096):0≤spX d big v∧spX d big v<prd d:=by
 have:=K7 h (v:Int) (by omega) (by omega) d.length (Nat.le_refl _)
 rw [strd_all,← (Gw h.pd).1] at this
 exact this
theorem K2 {d big:List Int} (h:Fits d big) (l:List Int) (v:Nat) (hv:v<l.length) (hv2:v≤4096) (h0:l.set v 0=l) :
  Fp (fun go (x:Int×Int×List Int)=>f199_l12 d big (strL d) v go x.1 x.2.1 x.2.2) Fq ((v:Int),IntKind.i64.wrap ((big.length:Int)-1),l)=some (l.set v (spX d big v)):=by
 have hd4:=(Gw h.pd).2.2
 have hb4:=(Gw h.pb).2.2
 have hle:=h.len
 have hr:=F2 d
 have H:∀ x:Int×Int×List Int,(∃ k:Nat,k≤d.length∧x=(rst big v k,(big.length:Int)-1-k,l.set v (accS d big v k)))→
   (∃ z,(∀ go,f199_l12 d big (strL d) v go x.1 x.2.1 x.2.2=some z)∧z=l.set v (spX d big v))∨
   (∃ y:Int×Int×List Int,(∀ go,f199_l12 d big (strL d) v go x.1 x.2.1 x.2.2=go y)∧(∃ k:Nat,k≤d.length∧y=(rst big v k,(big.length:Int)-1-k,l.set v (accS d big v k)))∧(y.2.1+1).toNat<(x.2.1+1).toNat):=by
  rintro _ ⟨k,hk,rfl⟩
  unfold f199_l12
  simp only
  have hw:IntKind.i64.wrap ((big.length:Int)-(d.length:Int))=(big.length:Int)-(d.length:Int):=E9 (by omega) (by omega)
  rw [hw]
  by_cases hlt:k<d.length
  ·right
   refine ⟨(rst big v (k+1),(big.length:Int)-1-((k+1:Nat):Int),l.set v (accS d big v (k+1))),fun go=>?_,⟨k+1,hlt,rfl⟩,by simp only;omega⟩
   rw [show decide ((big.length:Int)-1-(k:Int)≥(big.length:Int)-(d.length:Int))=true by simp;omega]
   simp only [cond_true]
   have ib:(big.length:Int)-1-(k:Int)=((big.length-1-k:Nat):Int):=by omega
   have id:IntKind.i64.wrap (((big.length-1-k:Nat):Int)-((big.length:Int)-(d.length:Int)))=((d.length-1-k:Nat):Int):=by
    rw [E9];omega
   obtain ⟨r0,r1⟩:=rst_range h.pb (v:Int) (by omega) (by omega) k
   obtain ⟨a0,a1⟩:=K7 h (v:Int) (by omega) (by omega) k (by omega)
   obtain ⟨b0,b1⟩:=K7 h (v:Int) (by omega) (by omega) (k+1) hlt
   have sl:=strd_le h.pd k (by omega)
   have sl1:=strd_le h.pd (k+1) hlt
   have sb:=Gv h.pb k
   have hj:f199_j13 d big (strL d) v (rst big v k) ((big.length-1-k:Nat):Int) (l.set v (accS d big v k))=some (l.set v (accS d big v (k+1))):=by
    unfold f199_j13
    rw [hw,id,Bh,Lh d k hlt]
    by_cases h1:Fy d k>1
    ·rw [show decide (Fy d k>1)=true by simpa using h1]
     simp only [cond_true,List.length_set]
     rw [Lh big k (by omega),Bh,Bh,Bh,Bh (by unfold strL;rw [Gb];omega),Bh]
     rw [Int.toNat_natCast,Gg _ _ _ (by simpa using hv),List.getElem_set_self,List.set_set]
     unfold strL
     rw [Kx _ _ _ _ (by omega),show d.length-1-(d.length-1-k)=k by omega,Int.tmod_eq_emod_of_nonneg r0]
     have e:accS d big v (k+1)=accS d big v k+rst big v k%Fy big k*Kp d k:=by simp only [accS];rw [if_pos h1]
     rw [e] at b0 b1 ⊢
     have m0:=Int.emod_nonneg (rst big v k) (show Fy big k≠0 by omega)
     have sp:=L0 h.pd k (by omega)
     have p0:0≤rst big v k%Fy big k*Kp d k:=Int.mul_nonneg m0 (by omega)
     generalize rst big v k%Fy big k*Kp d k=P at *
     rw [E9 (n:=P) (by omega) (by omega),E9]
    ·rw [show decide (Fy d k>1)=false by simpa using h1]
     simp only [cond_false,accS]
     rw [if_neg h1,Int.add_zero]
   rw [ib,hj]
   simp only [A9]
   rw [Bh,Lh big k (by omega),Bh,Int.tdiv_eq_ediv_of_nonneg r0]
   have q0:=Int.ediv_nonneg r0 (show 0≤Fy big k by omega)
   have q1:=Int.ediv_le_self (Fy big k) r0
   rw [E9 (n:=rst big v k/Fy big k) (by omega) (by omega),E9]
   congr 1
   exact Prod.ext rfl (Prod.ext (by simp only;omega) rfl)
  ·left
   have:k=d.length:=by omega
   subst this
   refine ⟨_,fun go=>?_,rfl⟩
   rw [show decide ((big.length:Int)-1-(d.length:Int)≥(big.length:Int)-(d.length:Int))=false by simp;omega]
   rfl
 have e0:((v:Int),IntKind.i64.wrap ((big.length:Int)-1),l)=(rst big v 0,(big.length:Int)-1-((0:Nat):Int),l.set v (accS d big v 0)):=by
  rw [E9]
  refine Prod.ext rfl (Prod.ext (by simp) ?_)
  simp only [accS]
  exact h0.symm
 rw [e0]
 obtain ⟨z,e,rfl⟩:=Gd (B:=fun go (x:Int×Int×List Int)=>f199_l12 d big (strL d) v go x.1 x.2.1 x.2.2) _ (fun x=>(x.2.1+1).toNat) _ H _ ⟨0,Nat.zero_le _,rfl⟩ (by simp only;omega)
 exact e
theorem Kw {d big:List Int} (h:Fits d big):f199 d big=some (Ga (prd big).toNat (spX d big)):=by
 have hb:=F2 big
 unfold f199
 rw [strides d h.pd,PlB.size_ok]
 simp only [A9]
 rw [Bh]
 obtain ⟨N,hN⟩:∃ N:Nat,prd big=(N:Int):=⟨(prd big).toNat,by omega⟩
 rw [hN,Int.toNat_natCast]
 have H:∀ x:Int×List Int,(∃ k:Nat,k≤N∧x=((k:Int),Ga N (fun i=>if i<k then spX d big i else 0)))→
   (∃ z,(∀ go,f199_l9 d big (strL d) (N:Int) go x.1 x.2=some z)∧z=Ga N (spX d big))∨
   (∃ y:Int×List Int,(∀ go,f199_l9 d big (strL d) (N:Int) go x.1 x.2=go y)∧(∃ k:Nat,k≤N∧y=((k:Int),Ga N (fun i=>if i<k then spX d big i else 0)))∧((N:Int)-y.1).toNat<((N:Int)-x.1).toNat):=by
  rintro _ ⟨k,hk,rfl⟩
  unfold f199_l9
  simp only [Int.toNat_natCast,List.length_replicate]
  by_cases hlt:k<N
  ·right
   refine ⟨(((k+1:Nat):Int),Ga N (fun i=>if i<k+1 then spX d big i else 0)),fun go=>?_,⟨k+1,hlt,rfl⟩,by simp only;omega⟩
   rw [show decide ((k:Int)<(N:Int))=true by simpa using hlt]
   simp only [cond_true]
   rw [K2 h _ k (by rw [Gb];exact hlt) (by omega) (by
    rw [Ke]
    refine Ge _ _ _ (fun i hi=>?_)
    by_cases hik:i=k
    ·rw [if_pos hik,iNo]
    ·rw [if_neg hik])]
   simp only [A9]
   rw [E9,Ke]
   congr 1
   refine Prod.ext rfl (Ge _ _ _ (fun i hi=>?_))
   by_cases hik:i=k
   ·rw [if_pos hik,iPo,hik]
   ·rw [if_neg hik]
    by_cases h2:i<k
    ·rw [if_pos h2,iPo]
    ·rw [if_neg h2,iNo]
  ·left
   have:k=N:=by omega
   subst this
   refine ⟨_,fun go=>?_,rfl⟩
   rw [show decide ((k:Int)<(k:Int))=false by simp]
   simp only [cond_false,Option.some.injEq]
   exact Ge _ _ _ (fun i hi=>by rw [if_pos hi])
 have e0:((0:Int),List.replicate N (0:Int))=(((0:Nat):Int),Ga N (fun i=>if i<0 then spX d big i else 0)):=by
  rw [Ly]
  exact Prod.ext rfl (Ge _ _ _ (fun i hi=>by rw [iNo]))
 rw [e0]
 obtain ⟨z,e,rfl⟩:=Gd (B:=fun go (x:Int×List Int)=>f199_l9 d big (strL d) (N:Int) go x.1 x.2) _ (fun x=>((N:Int)-x.1).toNat) _ H _ ⟨0,Nat.zero_le _,rfl⟩ (by simp only;omega)
 rw [e]
 rfl
theorem Joined.fa {a b d:List Int} (h:Joined a b d):Fits a d:=⟨h.pa,h.pd,by have:=h.len;omega,fun k hk h1=>by
 have hl:=h.len
 have e:=h.le k (by omega)
 have o:=h.ok k (by omega)
 have pb:=(Gv h.pb k).1
 omega⟩
theorem Joined.fb {a b d:List Int} (h:Joined a b d):Fits b d:=⟨h.pb,h.pd,by have:=h.len;omega,fun k hk h1=>by
 have hl:=h.len
 have e:=h.le k (by omega)
 have o:=h.ok k (by omega)
 have pa:=(Gv h.pa k).1
 omega⟩
def addV (a b:Int):Int:=sat (a+b)
theorem addF_ok (a b:Int) (a0 : -9223372036854775808≤a) (a1:a<9223372036854775808) (b0 : -9223372036854775808≤b) (b1:b<9223372036854775808):f87 a b=some (addV a b):=by
 unfold f87 addV sat
 have hw:IntKind.i64.wrap (a+b)=if a+b≥9223372036854775808 then a+b-18446744073709551616 else if a+b < -9223372036854775808 then a+b+18446744073709551616 else a+b:=by
  rw [wi]
  split <;> split <;> (try split) <;> omega
 have hj:f87_j1 a b=some (if (a<0↔b<0)∧¬(IntKind.i64.wrap (a+b)<0↔a<0) then Sum.inl () else Sum.inr ()):=by
  unfold f87_j1
  by_cases ha:a<0 <;> by_cases hb:b<0
  ·rw [show (!(decide (a<0)==decide (b<0)))=false by simp [ha,hb]]
   by_cases hc:IntKind.i64.wrap (a+b)<0
   ·rw [show (decide (IntKind.i64.wrap (a+b)<0)==decide (a<0))=true by simp [ha,hc],if_neg (by simp [ha,hc])];rfl
   ·rw [show (decide (IntKind.i64.wrap (a+b)<0)==decide (a<0))=false by simp [ha,hc],if_pos (by simp [ha,hb,hc])];rfl
  ·rw [show (!(decide (a<0)==decide (b<0)))=true by simp [ha,hb],if_neg (by simp [ha,hb])];rfl
  ·rw [show (!(decide (a<0)==decide (b<0)))=true by simp [ha,hb],if_neg (by simp [ha,hb])];rfl
  ·rw [show (!(decide (a<0)==decide (b<0)))=false by simp [ha,hb]]
   by_cases hc:IntKind.i64.wrap (a+b)<0
   ·rw [show (decide (IntKind.i64.wrap (a+b)<0)==decide (a<0))=false by simp [ha,hc],if_pos (by simp [ha,hb,hc])];rfl
   ·rw [show (decide (IntKind.i64.wrap (a+b)<0)==decide (a<0))=true by simp [ha,hc],if_neg (by simp [ha,hc])];rfl
 rw [hj]
 simp only [A9]
 by_cases hc:(a<0↔b<0)∧¬(IntKind.i64.wrap (a+b)<0↔a<0)
 ·rw [if_pos hc]
  simp only [Fl]
  rw [hw] at hc
  by_cases ha:a<0
  ·rw [show decide (a<0)=true by simpa using ha]
   simp only [cond_true,Option.some.injEq]
   split at hc <;> (try split at hc) <;> omega
  ·rw [show decide (a<0)=false by simpa using ha]
   simp only [cond_false,Option.some.injEq]
   split at hc <;> (try split at hc) <;> omega
 ·rw [if_neg hc]
  simp only [F6,Option.some.injEq]
  rw [hw] at hc ⊢
  split at hc <;> (try split at hc) <;> omega
theorem inI_get {l:List Int} (h:inI l) (i:Nat) (hi:i<l.length) : -9223372036854775808≤rd (0:Int) l (i:Int)∧rd (0:Int) l (i:Int)<9223372036854775808:=by
 rw [Gg _ _ _ hi]
 exact h _ (List.getElem_mem hi)
theorem rhe_minus (S:Int):rhe (-S)=-rhe S:=by
 unfold rhe
 split <;> split <;> omega
def K9 (a b:Int):Int:=sat (rhe (a*b))
theorem sizeF_ok (v:Int) (h0 : -9223372036854775808≤v) (h1:v<9223372036854775808):f143 v=some (if v<0 then -v else v):=by
 unfold f143
 by_cases h:v<0
 ·rw [show decide (v<0)=true by simpa using h,if_pos h]
  simp only [cond_true,wu,Option.some.injEq]
  omega
 ·rw [show decide (v<0)=false by simpa using h,if_neg h]
  simp only [cond_false,wu,Option.some.injEq]
  omega
theorem held_ok (R:Int) (s:Bool) (h0:0≤R) (h1:R≤85070591730234615865843651857942052864):f144 (R/18446744073709551616) (R%18446744073709551616) s=some (sat (if s then -R else R)):=by
 unfold f144 f144_j1
 cases s
 ·simp only [cond_false,A9,Bool.false_eq_true,if_false]
  unfold sat
  by_cases h2:R/18446744073709551616>0
  ·rw [show decide (R/18446744073709551616>0)=true by simpa using h2,iPo];rfl
  ·rw [show decide (R/18446744073709551616>0)=false by simpa using h2]
   by_cases h3:R%18446744073709551616≥9223372036854775808
   ·rw [show decide (R%18446744073709551616≥9223372036854775808)=true by simpa using h3,iPo];rfl
   ·rw [show decide (R%18446744073709551616≥9223372036854775808)=false by simpa using h3,iNo,iNo]
    simp only [cond_false,Option.some.injEq]
    rw [E9]
    omega
 ·simp only [cond_true,if_true]
  unfold sat
  by_cases h2:R/18446744073709551616>0
  ·rw [show decide (R/18446744073709551616>0)=true by simpa using h2,iNo,iPo];rfl
  ·rw [show decide (R/18446744073709551616>0)=false by simpa using h2]
   by_cases h3:R%18446744073709551616≥9223372036854775808
   ·rw [show decide (R%18446744073709551616≥9223372036854775808)=true by simpa using h3,iNo]
    simp only [cond_false,A9,cond_true,Option.some.injEq]
    split <;> omega
   ·rw [show decide (R%18446744073709551616≥9223372036854775808)=false by simpa using h3,iNo,iNo]
    simp only [cond_false,A9,Option.some.injEq]
    rw [E9 (n:=R%18446744073709551616) (by omega) (by omega),E9]
    omega
theorem roundF_ok (P:Int) (h0:0≤P) (h1:P≤85070591730234615865843651857942052864) :
  ∃ x y:Int,f88_j2 (P/18446744073709551616,P%18446744073709551616)=some (x,y)∧y=rhe P/18446744073709551616∧x=rhe P%18446744073709551616:=by
 have hor:Fv IntKind.u64 (fun p q=>p||| q) (IntKind.u64.wrap (P/18446744073709551616*2 ^ min (Int.toNat (32:Int)) (IntKind.bits IntKind.u64))) (P%18446744073709551616/4294967296)=P/4294967296%18446744073709551616:=by
  rw [show ((2:Int) ^ min (Int.toNat (32:Int)) (IntKind.bits IntKind.u64))=4294967296 from rfl,wu,show P/18446744073709551616*4294967296%18446744073709551616=P/18446744073709551616%4294967296*4294967296 by omega,or32 _ _ (by omega) (by omega) (by omega) (by omega)]
  omega
 have hand:Fv IntKind.u64 (fun p q=>p&&& q) (P%18446744073709551616) 4294967295=P%4294967296:=by rw [and32 _ (by omega) (by omega)];omega
 have hodd:Fv IntKind.u64 (fun p q=>p&&& q) (P/4294967296%18446744073709551616) 1=P/4294967296%2:=by rw [and1 _ (by omega) (by omega)];omega
 have hj3:f88_j3 (P/18446744073709551616,P%18446744073709551616)=some (decide (P%4294967296>2147483648∨(P%4294967296=2147483648∧P/4294967296%2=1))):=by
  unfold f88_j3
  simp only
  rw [hand,sh32u,hor,hodd]
  by_cases c1:P%4294967296>2147483648
  ·rw [show decide (P%4294967296>2147483648)=true by simpa using c1]
   simp only [cond_true,Option.some.injEq]
   symm;rw [decide_eq_true_iff];exact .inl c1
  ·rw [show decide (P%4294967296>2147483648)=false by simpa using c1]
   simp only [cond_false]
   by_cases c2:P%4294967296=2147483648
   ·rw [show (P%4294967296==2147483648)=true by simpa using c2]
    simp only [cond_true,Option.some.injEq]
    rw [Bool.eq_iff_iff,beq_iff_eq,decide_eq_true_iff]
    omega
   ·rw [show (P%4294967296==2147483648)=false by simpa using c2]
    simp only [cond_false,Option.some.injEq]
    symm;rw [decide_eq_false_iff_not];omega
 unfold f88_j2
 rw [hj3]
 simp only [A9]
 rw [sh32u,sh32u,hor]
 by_cases c:P%4294967296>2147483648∨(P%4294967296=2147483648∧P/4294967296%2=1)
 ·have hr:rhe P=P/4294967296+1:=by unfold rhe;rw [if_pos c]
  rw [show decide (P%4294967296>2147483648∨(P%4294967296=2147483648∧P/4294967296%2=1))=true by rw [decide_eq_true_iff];exact c]
  simp only [cond_true]
  rw [add_ok _ _ _ (by omega) (by omega) (by omega) (by omega)]
  simp only [A9,wu]
  refine ⟨_,_,rfl,?_,?_⟩
  ·rw [hr];omega
  ·rw [hr];omega
 ·have hr:rhe P=P/4294967296:=by unfold rhe;rw [if_neg c]
  rw [show decide (P%4294967296>2147483648∨(P%4294967296=2147483648∧P/4294967296%2=1))=false by rw [decide_eq_false_iff_not];exact c]
  simp only [cond_false]
  refine ⟨_,_,rfl,?_,?_⟩
  ·rw [hr];omega
  ·rw [hr]
theorem mulF_ok (a b:Int) (a0 : -9223372036854775808≤a) (a1:a<9223372036854775808) (b0 : -9223372036854775808≤b) (b1:b<9223372036854775808):f88 a b=some (K9 a b):=by
 have key:∀ x y:Int,0≤x→x≤9223372036854775808→0≤y→y≤9223372036854775808→0≤x*y∧x*y≤85070591730234615865843651857942052864:=fun x y h0 h1 g0 g1=>⟨Int.mul_nonneg h0 g0,Int.mul_le_mul h1 g1 g0 (by decide)⟩
 have fin:∀ (x y:Int) (s:Bool),0≤x→x≤9223372036854775808→0≤y→y≤9223372036854775808→(if s then -(x*y) else x*y)=a*b→
   (D4 (f142 x y) fun r3=>D4 (f88_j2 r3) fun z6=>D4 (f144 z6.2 z6.1 s) fun r9=>some r9)=some (K9 a b):=fun x y s x0 x1 y0 y1 hs=>by
  obtain ⟨k0,k1⟩:=key x y x0 x1 y0 y1
  rw [mul64_ok _ _ (by omega) (by omega) (by omega) (by omega)]
  simp only [A9]
  obtain ⟨p,q,e,hq,hp⟩:=roundF_ok (x*y) k0 k1
  rw [e]
  simp only [A9]
  have hr:0≤rhe (x*y)∧rhe (x*y)≤85070591730234615865843651857942052864:=by unfold rhe;split <;> omega
  rw [hq,hp,held_ok _ _ hr.1 hr.2]
  simp only [A9,K9]
  rw [← hs]
  cases s
  ·rfl
  ·simp only [if_true];rw [rhe_minus]
 unfold f88
 rw [sizeF_ok a a0 a1,sizeF_ok b b0 b1]
 simp only [A9]
 by_cases ha:a<0 <;> by_cases hb:b<0
 ·rw [if_pos ha,if_pos hb,show (!(decide (a<0)==decide (b<0)))=false by simp [ha,hb]]
  exact fin (-a) (-b) false (by omega) (by omega) (by omega) (by omega) (by rw [Int.neg_mul_neg];rfl)
 ·rw [if_pos ha,if_neg hb,show (!(decide (a<0)==decide (b<0)))=true by simp [ha,hb]]
  exact fin (-a) b true (by omega) (by omega) (by omega) (by omega) (by rw [Int.neg_mul,Int.neg_neg];rfl)
 ·rw [if_neg ha,if_pos hb,show (!(decide (a<0)==decide (b<0)))=true by simp [ha,hb]]
  exact fin a (-b) true (by omega) (by omega) (by omega) (by omega) (by rw [Int.mul_neg,Int.neg_neg];rfl)
 ·rw [if_neg ha,if_neg hb,show (!(decide (a<0)==decide (b<0)))=false by simp [ha,hb]]
  exact fin a b false (by omega) (by omega) (by omega) (by omega) rfl
theorem Fw {t:List Int×List Int} (h:Fu t=true):0<prd t.1∧(t.2.length:Int)=prd t.1∧t.1.length≤4∧t.2.length≤4096:=by
 unfold Fu at h
 simp at h
 have:=F2 t.1
 exact ⟨h.1,h.2,Gy h.1,by omega⟩
theorem scale_ok (a:List Int×List Int) (k:Int) (ia:inI a.2) (k0 : -9223372036854775808≤k) (k1:k<9223372036854775808) :
  f163 a k=some (if Fu a=true then (0,a.1,Ga a.2.length (fun i=>K9 (rd (0:Int) a.2 i) k)) else (1,[],[])):=by
 unfold f163
 rw [show (a.1,a.2)=a from rfl,F8]
 simp only [A9]
 by_cases hg:Fu a=true
 ·obtain ⟨_,_,l1,l2⟩:=Fw hg
  rw [hg,if_pos rfl]
  simp only [Bool.not_true,cond_false]
  rw [copy_t a (by omega) (by omega)]
  simp only [A9]
  have H:∀ x:Int×List Int,(∃ j:Nat,j≤a.2.length∧x=((j:Int),Ga a.2.length (fun i=>if i<j then K9 (rd (0:Int) a.2 i) k else rd (0:Int) a.2 i)))→
    (∃ z,(∀ go,f163_l1 k a go x.1 x.2=some z)∧z=Ga a.2.length (fun i=>K9 (rd (0:Int) a.2 i) k))∨
    (∃ y:Int×List Int,(∀ go,f163_l1 k a go x.1 x.2=go y)∧(∃ j:Nat,j≤a.2.length∧y=((j:Int),Ga a.2.length (fun i=>if i<j then K9 (rd (0:Int) a.2 i) k else rd (0:Int) a.2 i)))∧((a.2.length:Int)-y.1).toNat<((a.2.length:Int)-x.1).toNat):=by
   rintro _ ⟨j,hj,rfl⟩
   unfold f163_l1
   simp only [Gb]
   by_cases hlt:j<a.2.length
   ·right
    refine ⟨(((j+1:Nat):Int),Ga a.2.length (fun i=>if i<j+1 then K9 (rd (0:Int) a.2 i) k else rd (0:Int) a.2 i)),fun go=>?_,⟨j+1,hlt,rfl⟩,by simp only;omega⟩
    rw [show decide ((j:Int)<(a.2.length:Int))=true by simpa using hlt]
    simp only [cond_true]
    have q:=inI_get ia j hlt
    rw [Bh,Kx _ _ _ _ hlt,if_neg (Nat.lt_irrefl j),mulF_ok _ _ q.1 q.2 k0 k1]
    simp only [A9]
    rw [Bh,E9,Int.toNat_natCast,Ke]
    congr 1
    refine Prod.ext rfl (Ge _ _ _ (fun i hi=>?_))
    by_cases hik:i=j
    ·rw [if_pos hik,iPo,hik]
    ·rw [if_neg hik]
     by_cases h2:i<j
     ·rw [if_pos h2,iPo]
     ·rw [if_neg h2,iNo]
   ·left
    have:j=a.2.length:=by omega
    subst this
    refine ⟨_,fun go=>?_,rfl⟩
    rw [show decide ((a.2.length:Int)<(a.2.length:Int))=false by simp]
    simp only [cond_false,Option.some.injEq]
    exact Ge _ _ _ (fun i hi=>by rw [if_pos hi])
  have e0:((0:Int),a.2)=(((0:Nat):Int),Ga a.2.length (fun i=>if i<0 then K9 (rd (0:Int) a.2 i) k else rd (0:Int) a.2 i)):=by
   refine Prod.ext rfl ?_
   apply List.ext_getElem
   ·rw [Gb]
   ·intro i h1 h2
    rw [tab_get,iNo,Gg _ _ _ h1]
  rw [e0]
  obtain ⟨z,e,rfl⟩:=Gd (B:=fun go (x:Int×List Int)=>f163_l1 k a go x.1 x.2) _ (fun x=>((a.2.length:Int)-x.1).toNat) _ H _ ⟨0,Nat.zero_le _,rfl⟩ (by simp only;omega)
  rw [e]
  rfl
 ·have hf:Fu a=false:=by simpa using hg
  rw [hf]
  rfl
def subV (a b:Int):Int:=sat (a-b)
theorem subF_ok (a b:Int) (a0 : -9223372036854775808≤a) (a1:a<9223372036854775808) (b0 : -9223372036854775808≤b) (b1:b<9223372036854775808):f90 a b=some (subV a b):=by
 unfold f90 subV sat
 have hw:IntKind.i64.wrap (a-b)=if a-b≥9223372036854775808 then a-b-18446744073709551616 else if a-b < -9223372036854775808 then a-b+18446744073709551616 else a-b:=by
  rw [wi]
  split <;> split <;> (try split) <;> omega
 have hj:f90_j1 a b=some (if ¬(a<0↔b<0)∧¬(IntKind.i64.wrap (a-b)<0↔a<0) then Sum.inl () else Sum.inr ()):=by
  unfold f90_j1
  by_cases ha:a<0 <;> by_cases hb:b<0 <;> by_cases hc:IntKind.i64.wrap (a-b)<0 <;> simp [ha,hb,hc]
 rw [hj]
 simp only [A9]
 by_cases hc:¬(a<0↔b<0)∧¬(IntKind.i64.wrap (a-b)<0↔a<0)
 ·rw [if_pos hc]
  simp only [Fl]
  rw [hw] at hc
  by_cases ha:a<0
  ·rw [show decide (a<0)=true by simpa using ha]
   simp only [cond_true,Option.some.injEq]
   split at hc <;> (try split at hc) <;> omega
  ·rw [show decide (a<0)=false by simpa using ha]
   simp only [cond_false,Option.some.injEq]
   split at hc <;> (try split at hc) <;> omega
 ·rw [if_neg hc]
  simp only [F6,Option.some.injEq]
  rw [hw] at hc ⊢
  split at hc <;> (try split at hc) <;> omega
theorem add_of (a b:List Int×List Int) (d:List Int) (ia:inI a.2) (ib:inI b.2) (hga:Fu a=true) (hgb:Fu b=true) (hj:f198 a.1 b.1=some (0,d)) (hd:Joined a.1 b.1 d) :
  f117 a b=some (0,d,Ga (prd d).toNat (fun i=>addV (rd (0:Int) a.2 (spX a.1 d i)) (rd (0:Int) b.2 (spX b.1 d i)))):=by
 have hg:Fu a=true∧Fu b=true:=⟨hga,hgb⟩
 unfold f117
 have hj2:f172_87_j2 (a.1,a.2) (b.1,b.2)=some (Sum.inl ()):=by
  unfold f172_87_j2 f172_87_j3
  rw [show (a.1,a.2)=a from rfl,show (b.1,b.2)=b from rfl,F8,F8,hga,hgb]
  rfl
 unfold f172_87
 rw [hj2]
 simp only [A9,Fl]
 rw [hj]
 simp only [A9]
 rw [show ((0:Int) != 0)=false from rfl]
 simp only [cond_false]
 rw [Ky,if_pos hd.pd,Kw hd.fa,Kw hd.fb]
 simp only [A9]
 have hr:=F2 d
 obtain ⟨N,hN⟩:∃ N:Nat,prd d=(N:Int):=⟨(prd d).toNat,by omega⟩
 rw [hN,Int.toNat_natCast]
 have ga:(a.2.length:Int)=prd a.1:=by have:=hg.1;unfold Fu at this;simp at this;exact this.2
 have gb:(b.2.length:Int)=prd b.1:=by have:=hg.2;unfold Fu at this;simp at this;exact this.2
 have H:∀ x:Int×List Int,(∃ k:Nat,k≤N∧x=((k:Int),Ga N (fun i=>if i<k then addV (rd (0:Int) a.2 (spX a.1 d i)) (rd (0:Int) b.2 (spX b.1 d i)) else 0)))→
   (∃ z,(∀ go,f172_87_l4 (a.1,a.2) (b.1,b.2) (0,d,List.replicate N 0) (Ga N (spX a.1 d)) (Ga N (spX b.1 d)) go x.1 x.2=some z)∧z=Ga N (fun i=>addV (rd (0:Int) a.2 (spX a.1 d i)) (rd (0:Int) b.2 (spX b.1 d i))))∨
   (∃ y:Int×List Int,(∀ go,f172_87_l4 (a.1,a.2) (b.1,b.2) (0,d,List.replicate N 0) (Ga N (spX a.1 d)) (Ga N (spX b.1 d)) go x.1 x.2=go y)∧(∃ k:Nat,k≤N∧y=((k:Int),Ga N (fun i=>if i<k then addV (rd (0:Int) a.2 (spX a.1 d i)) (rd (0:Int) b.2 (spX b.1 d i)) else 0)))∧((N:Int)-y.1).toNat<((N:Int)-x.1).toNat):=by
  rintro _ ⟨k,hk,rfl⟩
  unfold f172_87_l4
  simp only [List.length_replicate,Gb]
  by_cases hlt:k<N
  ·right
   refine ⟨(((k+1:Nat):Int),Ga N (fun i=>if i<k+1 then addV (rd (0:Int) a.2 (spX a.1 d i)) (rd (0:Int) b.2 (spX b.1 d i)) else 0)),fun go=>?_,⟨k+1,hlt,rfl⟩,by simp only;omega⟩
   rw [show decide ((k:Int)<(N:Int))=true by simpa using hlt]
   simp only [cond_true]
   obtain ⟨x0,x1⟩:=Jo hd.fa k (by omega)
   obtain ⟨y0,y1⟩:=Jo hd.fb k (by omega)
   rw [Kx _ _ _ _ hlt,Kx _ _ _ _ hlt,Bh,Bh,Bh,Bh]
   obtain ⟨xn,hxn⟩:=Int.eq_ofNat_of_zero_le x0
   obtain ⟨yn,hyn⟩:=Int.eq_ofNat_of_zero_le y0
   have qa:=inI_get ia xn (by omega)
   have qb:=inI_get ib yn (by omega)
   rw [← hxn] at qa
   rw [← hyn] at qb
   rw [addF_ok _ _ qa.1 qa.2 qb.1 qb.2]
   simp only [A9]
   rw [Bh,E9,Int.toNat_natCast,Ke]
   congr 1
   refine Prod.ext rfl (Ge _ _ _ (fun i hi=>?_))
   by_cases hik:i=k
   ·rw [if_pos hik,iPo,hik]
   ·rw [if_neg hik]
    by_cases h2:i<k
    ·rw [if_pos h2,iPo]
    ·rw [if_neg h2,iNo]
  ·left
   have:k=N:=by omega
   subst this
   refine ⟨_,fun go=>?_,rfl⟩
   rw [show decide ((k:Int)<(k:Int))=false by simp]
   simp only [cond_false,Option.some.injEq]
   exact Ge _ _ _ (fun i hi=>by rw [if_pos hi])
 have e0:((0:Int),List.replicate N (0:Int))=(((0:Nat):Int),Ga N (fun i=>if i<0 then addV (rd (0:Int) a.2 (spX a.1 d i)) (rd (0:Int) b.2 (spX b.1 d i)) else 0)):=by
  rw [Ly]
  exact Prod.ext rfl (Ge _ _ _ (fun i hi=>by rw [iNo]))
 rw [e0]
 obtain ⟨z,e,rfl⟩:=Gd (B:=fun go (x:Int×List Int)=>f172_87_l4 (a.1,a.2) (b.1,b.2) (0,d,List.replicate N 0) (Ga N (spX a.1 d)) (Ga N (spX b.1 d)) go x.1 x.2) _ (fun x=>((N:Int)-x.1).toNat) _ H _ ⟨0,Nat.zero_le _,rfl⟩ (by simp only;omega)
 rw [e]
 rfl
theorem sub_of (a b:List Int×List Int) (d:List Int) (ia:inI a.2) (ib:inI b.2) (hga:Fu a=true) (hgb:Fu b=true) (hj:f198 a.1 b.1=some (0,d)) (hd:Joined a.1 b.1 d) :
  f218 a b=some (0,d,Ga (prd d).toNat (fun i=>subV (rd (0:Int) a.2 (spX a.1 d i)) (rd (0:Int) b.2 (spX b.1 d i)))):=by
 have hg:Fu a=true∧Fu b=true:=⟨hga,hgb⟩
 unfold f218
 have hj2:f172_90_j2 (a.1,a.2) (b.1,b.2)=some (Sum.inl ()):=by
  unfold f172_90_j2 f172_90_j3
  rw [show (a.1,a.2)=a from rfl,show (b.1,b.2)=b from rfl,F8,F8,hga,hgb]
  rfl
 unfold f172_90
 rw [hj2]
 simp only [A9,Fl]
 rw [hj]
 simp only [A9]
 rw [show ((0:Int) != 0)=false from rfl]
 simp only [cond_false]
 rw [Ky,if_pos hd.pd,Kw hd.fa,Kw hd.fb]
 simp only [A9]
 have hr:=F2 d
 obtain ⟨N,hN⟩:∃ N:Nat,prd d=(N:Int):=⟨(prd d).toNat,by omega⟩
 rw [hN,Int.toNat_natCast]
 have ga:(a.2.length:Int)=prd a.1:=by have:=hg.1;unfold Fu at this;simp at this;exact this.2
 have gb:(b.2.length:Int)=prd b.1:=by have:=hg.2;unfold Fu at this;simp at this;exact this.2
 have H:∀ x:Int×List Int,(∃ k:Nat,k≤N∧x=((k:Int),Ga N (fun i=>if i<k then subV (rd (0:Int) a.2 (spX a.1 d i)) (rd (0:Int) b.2 (spX b.1 d i)) else 0)))→
   (∃ z,(∀ go,f172_90_l4 (a.1,a.2) (b.1,b.2) (0,d,List.replicate N 0) (Ga N (spX a.1 d)) (Ga N (spX b.1 d)) go x.1 x.2=some z)∧z=Ga N (fun i=>subV (rd (0:Int) a.2 (spX a.1 d i)) (rd (0:Int) b.2 (spX b.1 d i))))∨
   (∃ y:Int×List Int,(∀ go,f172_90_l4 (a.1,a.2) (b.1,b.2) (0,d,List.replicate N 0) (Ga N (spX a.1 d)) (Ga N (spX b.1 d)) go x.1 x.2=go y)∧(∃ k:Nat,k≤N∧y=((k:Int),Ga N (fun i=>if i<k then subV (rd (0:Int) a.2 (spX a.1 d i)) (rd (0:Int) b.2 (spX b.1 d i)) else 0)))∧((N:Int)-y.1).toNat<((N:Int)-x.1).toNat):=by
  rintro _ ⟨k,hk,rfl⟩
  unfold f172_90_l4
  simp only [List.length_replicate,Gb]
  by_cases hlt:k<N
  ·right
   refine ⟨(((k+1:Nat):Int),Ga N (fun i=>if i<k+1 then subV (rd (0:Int) a.2 (spX a.1 d i)) (rd (0:Int) b.2 (spX b.1 d i)) else 0)),fun go=>?_,⟨k+1,hlt,rfl⟩,by simp only;omega⟩
   rw [show decide ((k:Int)<(N:Int))=true by simpa using hlt]
   simp only [cond_true]
   obtain ⟨x0,x1⟩:=Jo hd.fa k (by omega)
   obtain ⟨y0,y1⟩:=Jo hd.fb k (by omega)
   rw [Kx _ _ _ _ hlt,Kx _ _ _ _ hlt,Bh,Bh,Bh,Bh]
   obtain ⟨xn,hxn⟩:=Int.eq_ofNat_of_zero_le x0
   obtain ⟨yn,hyn⟩:=Int.eq_ofNat_of_zero_le y0
   have qa:=inI_get ia xn (by omega)
   have qb:=inI_get ib yn (by omega)
   rw [← hxn] at qa
   rw [← hyn] at qb
   rw [subF_ok _ _ qa.1 qa.2 qb.1 qb.2]
   simp only [A9]
   rw [Bh,E9,Int.toNat_natCast,Ke]
   congr 1
   refine Prod.ext rfl (Ge _ _ _ (fun i hi=>?_))
   by_cases hik:i=k
   ·rw [if_pos hik,iPo,hik]
   ·rw [if_neg hik]
    by_cases h2:i<k
    ·rw [if_pos h2,iPo]
    ·rw [if_neg h2,iNo]
  ·left
   have:k=N:=by omega
   subst this
   refine ⟨_,fun go=>?_,rfl⟩
   rw [show decide ((k:Int)<(k:Int))=false by simp]
   simp only [cond_false,Option.some.injEq]
   exact Ge _ _ _ (fun i hi=>by rw [if_pos hi])
 have e0:((0:Int),List.replicate N (0:Int))=(((0:Nat):Int),Ga N (fun i=>if i<0 then subV (rd (0:Int) a.2 (spX a.1 d i)) (rd (0:Int) b.2 (spX b.1 d i)) else 0)):=by
  rw [Ly]
  exact Prod.ext rfl (Ge _ _ _ (fun i hi=>by rw [iNo]))
 rw [e0]
 obtain ⟨z,e,rfl⟩:=Gd (B:=fun go (x:Int×List Int)=>f172_90_l4 (a.1,a.2) (b.1,b.2) (0,d,List.replicate N 0) (Ga N (spX a.1 d)) (Ga N (spX b.1 d)) go x.1 x.2) _ (fun x=>((N:Int)-x.1).toNat) _ H _ ⟨0,Nat.zero_le _,rfl⟩ (by simp only;omega)
 rw [e]
 rfl
theorem mul_of (a b:List Int×List Int) (d:List Int) (ia:inI a.2) (ib:inI b.2) (hga:Fu a=true) (hgb:Fu b=true) (hj:f198 a.1 b.1=some (0,d)) (hd:Joined a.1 b.1 d) :
  f161 a b=some (0,d,Ga (prd d).toNat (fun i=>K9 (rd (0:Int) a.2 (spX a.1 d i)) (rd (0:Int) b.2 (spX b.1 d i)))):=by
 have hg:Fu a=true∧Fu b=true:=⟨hga,hgb⟩
 unfold f161
 have hj2:f172_88_j2 (a.1,a.2) (b.1,b.2)=some (Sum.inl ()):=by
  unfold f172_88_j2 f172_88_j3
  rw [show (a.1,a.2)=a from rfl,show (b.1,b.2)=b from rfl,F8,F8,hga,hgb]
  rfl
 unfold f172_88
 rw [hj2]
 simp only [A9,Fl]
 rw [hj]
 simp only [A9]
 rw [show ((0:Int) != 0)=false from rfl]
 simp only [cond_false]
 rw [Ky,if_pos hd.pd,Kw hd.fa,Kw hd.fb]
 simp only [A9]
 have hr:=F2 d
 obtain ⟨N,hN⟩:∃ N:Nat,prd d=(N:Int):=⟨(prd d).toNat,by omega⟩
 rw [hN,Int.toNat_natCast]
 have ga:(a.2.length:Int)=prd a.1:=by have:=hg.1;unfold Fu at this;simp at this;exact this.2
 have gb:(b.2.length:Int)=prd b.1:=by have:=hg.2;unfold Fu at this;simp at this;exact this.2
 have H:∀ x:Int×List Int,(∃ k:Nat,k≤N∧x=((k:Int),Ga N (fun i=>if i<k then K9 (rd (0:Int) a.2 (spX a.1 d i)) (rd (0:Int) b.2 (spX b.1 d i)) else 0)))→
   (∃ z,(∀ go,f172_88_l4 (a.1,a.2) (b.1,b.2) (0,d,List.replicate N 0) (Ga N (spX a.1 d)) (Ga N (spX b.1 d)) go x.1 x.2=some z)∧z=Ga N (fun i=>K9 (rd (0:Int) a.2 (spX a.1 d i)) (rd (0:Int) b.2 (spX b.1 d i))))∨
   (∃ y:Int×List Int,(∀ go,f172_88_l4 (a.1,a.2) (b.1,b.2) (0,d,List.replicate N 0) (Ga N (spX a.1 d)) (Ga N (spX b.1 d)) go x.1 x.2=go y)∧(∃ k:Nat,k≤N∧y=((k:Int),Ga N (fun i=>if i<k then K9 (rd (0:Int) a.2 (spX a.1 d i)) (rd (0:Int) b.2 (spX b.1 d i)) else 0)))∧((N:Int)-y.1).toNat<((N:Int)-x.1).toNat):=by
  rintro _ ⟨k,hk,rfl⟩
  unfold f172_88_l4
  simp only [List.length_replicate,Gb]
  by_cases hlt:k<N
  ·right
   refine ⟨(((k+1:Nat):Int),Ga N (fun i=>if i<k+1 then K9 (rd (0:Int) a.2 (spX a.1 d i)) (rd (0:Int) b.2 (spX b.1 d i)) else 0)),fun go=>?_,⟨k+1,hlt,rfl⟩,by simp only;omega⟩
   rw [show decide ((k:Int)<(N:Int))=true by simpa using hlt]
   simp only [cond_true]
   obtain ⟨x0,x1⟩:=Jo hd.fa k (by omega)
   obtain ⟨y0,y1⟩:=Jo hd.fb k (by omega)
   rw [Kx _ _ _ _ hlt,Kx _ _ _ _ hlt,Bh,Bh,Bh,Bh]
   obtain ⟨xn,hxn⟩:=Int.eq_ofNat_of_zero_le x0
   obtain ⟨yn,hyn⟩:=Int.eq_ofNat_of_zero_le y0
   have qa:=inI_get ia xn (by omega)
   have qb:=inI_get ib yn (by omega)
   rw [← hxn] at qa
   rw [← hyn] at qb
   rw [mulF_ok _ _ qa.1 qa.2 qb.1 qb.2]
   simp only [A9]
   rw [Bh,E9,Int.toNat_natCast,Ke]
   congr 1
   refine Prod.ext rfl (Ge _ _ _ (fun i hi=>?_))
   by_cases hik:i=k
   ·rw [if_pos hik,iPo,hik]
   ·rw [if_neg hik]
    by_cases h2:i<k
    ·rw [if_pos h2,iPo]
    ·rw [if_neg h2,iNo]
  ·left
   have:k=N:=by omega
   subst this
   refine ⟨_,fun go=>?_,rfl⟩
   rw [show decide ((k:Int)<(k:Int))=false by simp]
   simp only [cond_false,Option.some.injEq]
   exact Ge _ _ _ (fun i hi=>by rw [if_pos hi])
 have e0:((0:Int),List.replicate N (0:Int))=(((0:Nat):Int),Ga N (fun i=>if i<0 then K9 (rd (0:Int) a.2 (spX a.1 d i)) (rd (0:Int) b.2 (spX b.1 d i)) else 0)):=by
  rw [Ly]
  exact Prod.ext rfl (Ge _ _ _ (fun i hi=>by rw [iNo]))
 rw [e0]
 obtain ⟨z,e,rfl⟩:=Gd (B:=fun go (x:Int×List Int)=>f172_88_l4 (a.1,a.2) (b.1,b.2) (0,d,List.replicate N 0) (Ga N (spX a.1 d)) (Ga N (spX b.1 d)) go x.1 x.2) _ (fun x=>((N:Int)-x.1).toNat) _ H _ ⟨0,Nat.zero_le _,rfl⟩ (by simp only;omega)
 rw [e]
 rfl
end Go.Proofs.PlS
namespace Go.Proofs.Sh
open Go.AM Go.Proofs.PlB Go.Proofs.PlW Go.Proofs.PlT Go.Proofs.PlS
theorem goodR (d:List Int):f173 d=some (decide (prd d>0)):=by
 unfold f173 prd
 by_cases h4:d.length>4
 ·rw [dT,if_pos h4];rfl
 ·rw [dF,if_neg h4]
  simp only [cond_false]
  have H:∀ x:Int×Int,(∃ k:Nat,x.2=(k:Int)∧k≤d.length∧1≤x.1∧x.1≤4096∧pgo x.1 (d.drop k)=pgo 1 d)→
    (∃ z,(∀ go,f173_l3 d go x.1 x.2=some z)∧((z=Sum.inl ()∧pgo 1 d=0)∨(z=Sum.inr ()∧1≤pgo 1 d)))∨
    (∃ y:Int×Int,(∀ go,f173_l3 d go x.1 x.2=go y)∧(∃ k:Nat,y.2=(k:Int)∧k≤d.length∧1≤y.1∧y.1≤4096∧pgo y.1 (d.drop k)=pgo 1 d)∧((d.length:Int)-y.2).toNat<((d.length:Int)-x.2).toNat):=by
   rintro ⟨n,_⟩ ⟨k,rfl,hk,hn1,hn2,hp⟩
   simp only at hn1 hn2 hp ⊢
   by_cases hlt:k<d.length
   ·rw [drop_cons d k hlt] at hp
    simp only [pgo] at hp
    have hrd:rd (0:Int) d (k:Int)=d[k]:=Gg _ _ _ hlt
    unfold f173_l3 f173_j4
    rw [dT (show (k:Int)<(d.length:Int) by omega)]
    simp only [cond_true,hrd]
    by_cases c:d[k]<1∨d[k]>4096
    ·left
     rw [iPo] at hp
     refine ⟨Sum.inl (),fun go=>?_,.inl ⟨rfl,hp.symm⟩⟩
     by_cases c1:d[k]<1
     ·rw [Bh,dT c1];rfl
     ·rw [Bh,dF c1,Bh,dT (show d[k]>4096 by omega)];rfl
    ·have hb1:n*d[k]≤4096*4096:=Int.mul_le_mul hn2 (by omega) (by omega) (by omega)
     have hb0:1*1≤n*d[k]:=Int.mul_le_mul hn1 (by omega) (by omega) (by omega)
     have hw:IntKind.i64.wrap (n*d[k])=n*d[k]:=E9 (by omega) (by omega)
     rw [Bh,dF (show ¬d[k]<1 by omega),Bh,dF (show ¬d[k]>4096 by omega)]
     simp only [cond_false,A9,Fl,hw]
     by_cases c3:n*d[k]>4096
     ·left
      rw [if_pos (.inr (.inr c3))] at hp
      refine ⟨Sum.inl (),fun go=>?_,.inl ⟨rfl,hp.symm⟩⟩
      rw [Bh,dT c3];rfl
     ·right
      rw [iNo] at hp
      refine ⟨(n*d[k],((k+1:Nat):Int)),fun go=>?_,⟨k+1,rfl,hlt,by simp only;omega,by simp only;omega,hp⟩,by simp only;omega⟩
      rw [Bh,dF c3,E9];rfl
   ·left
    have:k=d.length:=by omega
    subst this
    simp only [List.drop_length,pgo] at hp
    refine ⟨Sum.inr (),fun go=>?_,.inr ⟨rfl,by omega⟩⟩
    unfold f173_l3
    rw [dF];rfl
  obtain ⟨z,e,hz⟩:=Gd (B:=fun go (x:Int×Int)=>f173_l3 d go x.1 x.2) _ (fun x=>((d.length:Int)-x.2).toNat) _ H ((1:Int),(0:Int)) ⟨0,rfl,Nat.zero_le _,by decide,by decide,rfl⟩ (by simp;omega)
  rw [e]
  rcases hz with ⟨rfl,h0⟩ | ⟨rfl,h0⟩
  ·rw [h0];rfl
  ·rw [dT (show pgo 1 d>0 by omega)];rfl
theorem G8:∀ d:List Int,(∀ x ∈ d,1≤x)→1≤Ft d
 | [],_=>by simp [Ft]
 | x::r,h=>by
  have h1:=h x (by simp)
  have h2:=G8 r (fun y hy=>h y (by simp [hy]))
  have:1*1≤x*Ft r:=Int.mul_le_mul h1 h2 (by omega) (by omega)
  simp only [Ft];omega
theorem sizeR (d:List Int):f122 d=some (prd d):=by
 unfold f122
 rw [goodR]
 simp only [A9]
 by_cases h:prd d>0
 ·rw [dT h]
  simp only [Bool.not_true,cond_false]
  obtain ⟨he,hm,hl⟩:=Gw h
  have hr:=F2 d
  have key:=Le (B:=fun go (x:Int×Int)=>f122_l1 d go x.1 x.2)
   (fun k x=>x.2=(k:Int)∧1≤x.1∧x.1*Ft (d.drop k)=prd d) (fun z=>z=prd d) d.length ((1:Int),(0:Int)) ⟨rfl,by decide,by rw [List.drop_zero,Int.one_mul,he]⟩ ?_ ?_ (by omega)
  ·obtain ⟨z,e,rfl⟩:=key
   rw [e,A9]
  ·rintro k hk ⟨n,_⟩ ⟨rfl,n1,hn⟩
   simp only at n1 hn ⊢
   rw [drop_cons d k hk] at hn
   simp only [Ft] at hn
   rw [← Int.mul_assoc] at hn
   have hp:=G8 (d.drop (k+1)) (fun y hy=>(hm y (List.mem_of_mem_drop hy)).1)
   have hx:=hm d[k] (List.getElem_mem hk)
   have h1:1*1≤n*d[k]:=Int.mul_le_mul n1 hx.1 (by omega) (by omega)
   have h2:n*d[k]*1≤n*d[k]*Ft (d.drop (k+1)):=Int.mul_le_mul_of_nonneg_left hp (by omega)
   refine ⟨(n*d[k],((k+1:Nat):Int)),fun go=>?_,rfl,by simp only;omega,hn⟩
   unfold f122_l1
   rw [dT,cond_true,Bh,Gg _ _ _ hk,E9 (n:=n*d[k]) (by omega) (by omega),E9]
   rfl
  ·rintro ⟨n,_⟩ ⟨rfl,n1,hn⟩
   simp only [List.drop_length,Ft,Int.mul_one] at n1 hn ⊢
   refine ⟨n,fun go=>?_,hn⟩
   unfold f122_l1
   rw [dF];rfl
 ·rw [dF h]
  have:=(F2 d).1
  simp only [Bool.not_false,cond_true]
  congr 1;omega
theorem isR (t:List Int×List Int):f118 t=some (Fu t):=by
 unfold f118 Fu
 rw [goodR,sizeR]
 simp only [A9]
 cases decide (prd t.1>0) <;> rfl
def Kk (N k:Nat) (g:Nat→Int):List Int:=Ga N (fun i=>if i<k then g i else 0)
theorem F9 (N k:Nat) (g:Nat→Int):(Kk N k g).length=N:=Gb _ _
theorem Gk (N:Nat) (g:Nat→Int):List.replicate N 0=Kk N 0 g:=by
 rw [Ly];exact Ge _ _ _ (fun i hi=>by rw [iNo])
theorem Gl (N:Nat) (g:Nat→Int):Kk N N g=Ga N g:=Ge _ _ _ (fun i hi=>by rw [if_pos hi])
theorem Gu (N k:Nat) (g:Nat→Int) (v:Int) (hk:k<N) (hv:v=g k):(Kk N k g).set k v=Kk N (k+1) g:=by
 unfold Kk
 rw [Ke]
 refine Ge _ _ _ (fun i hi=>?_)
 by_cases h:i=k
 ·rw [if_pos h,iPo,h,hv]
 ·rw [if_neg h]
  by_cases h2:i<k
  ·rw [if_pos h2,iPo]
  ·rw [if_neg h2,iNo]
theorem newR (d:List Int) (v:Int) (h:0<prd d):f79 d v=some (d,List.replicate (prd d).toNat v):=by
 have hr:=F2 d
 have hl:=Gy h
 unfold f79
 rw [Bh (by simp;omega),sizeR]
 simp only [A9]
 rw [Bh]
 obtain ⟨N,hN⟩:∃ N:Nat,prd d=(N:Int):=⟨(prd d).toNat,by omega⟩
 rw [hN,Int.toNat_natCast,Gk N (fun _=>v)]
 have:=Fx (B:=fun go (x:Int×List Int)=>f79_l1 v go x.1 x.2) (fun k=>((k:Int),Kk N k (fun _=>v))) N (Ga N (fun _=>v)) ?_ ?_ (by omega)
 ·rw [show ((0:Int))=((0:Nat):Int) from rfl,this,Ly];rfl
 ·intro k hk go
  unfold f79_l1
  simp only [F9]
  rw [dT,cond_true,Bh,E9,Int.toNat_natCast,Gu N k _ _ hk rfl]
  rfl
 ·intro go
  unfold f79_l1
  simp only [F9]
  rw [dF,cond_false,Gl]
theorem sameR (a b:List Int) (h:a.length<4611686018427387904):f62 a b=some (decide (a=b)):=by
 unfold f62
 by_cases hl:a.length=b.length
 ·rw [nF]
  simp only [cond_false]
  have:=loop_any (B:=fun go x=>f62_l1 a b go x) (fun k=>(k:Int)) (fun k=>rd (0:Int) a (k:Int) != rd (0:Int) b (k:Int)) (Sum.inl ()) (Sum.inr ()) a.length ?_ ?_ ?_ (by omega)
  ·rw [show ((0:Int))=((0:Nat):Int) from rfl,this]
   simp only [A9]
   by_cases e:a=b
   ·subst e
    have:anyB a.length (fun k=>rd (0:Int) a (k:Int) != rd (0:Int) a (k:Int))=false:=anyB_false.2 (fun i hi=>by simp)
    rw [this,dT rfl];rfl
   ·have:anyB a.length (fun k=>rd (0:Int) a (k:Int) != rd (0:Int) b (k:Int))=true:=by
     cases hc:anyB a.length (fun k=>rd (0:Int) a (k:Int) != rd (0:Int) b (k:Int))
     ·exfalso;apply e
      have hc:=anyB_false.1 hc
      apply List.ext_getElem hl
      intro i h1 h2
      have:=hc i h1
      rw [Gg _ _ _ h1,Gg _ _ _ h2] at this
      simpa using this
     ·rfl
    rw [this,dF e];rfl
  ·intro k hk hp go
   unfold f62_l1
   rw [dT,cond_true,Bh,Bh,hp,cond_false,E9]
   rfl
  ·intro k hk hp go
   unfold f62_l1
   rw [dT,cond_true,Bh,Bh,hp]
   rfl
  ·intro go
   unfold f62_l1
   rw [dF];rfl
 ·rw [nT,dF (fun e=>hl (by rw [e]))];rfl
def dnto (L k:Nat) (g:Nat→Int):List Int:=Ga L (fun j=>if L-1-j<k then g (L-1-j) else 0)
theorem dnto_len (L k:Nat) (g:Nat→Int):(dnto L k g).length=L:=Gb _ _
theorem dnto_zero (L:Nat) (g:Nat→Int):List.replicate L 0=dnto L 0 g:=by
 rw [Ly];exact Ge _ _ _ (fun i hi=>by rw [iNo])
theorem dnto_full (L:Nat) (g:Nat→Int):dnto L L g=Ga L (fun j=>g (L-1-j)):=Ge _ _ _ (fun i hi=>by rw [iPo])
theorem dnto_set (L k:Nat) (g:Nat→Int) (v:Int) (hk:k<L) (hv:v=g k):(dnto L k g).set (L-1-k) v=dnto L (k+1) g:=by
 unfold dnto
 rw [Ke]
 refine Ge _ _ _ (fun i hi=>?_)
 by_cases h:i=L-1-k
 ·rw [if_pos h,iPo,hv];congr 1;omega
 ·rw [if_neg h]
  by_cases h2:L-1-i<k
  ·rw [if_pos h2,iPo]
  ·rw [if_neg h2,iNo]
def jBad (a b:List Int) (k:Nat):Bool:=Fy a k != Fy b k&&(Fy a k != 1&&Fy b k != 1)
def jMax (a b:List Int) (k:Nat):Int:=if Fy b k>Fy a k then Fy b k else Fy a k
def Lf (a b:List Int):Nat:=if b.length>a.length then b.length else a.length
def jL (a b:List Int):List Int:=Ga (Lf a b) (fun j=>jMax a b (Lf a b-1-j))
def jS (a b:List Int):Int×List Int:=
 if 0<prd a∧0<prd b then (bif anyB (Lf a b) (jBad a b) then (4,[]) else if 0<prd (jL a b) then (0,jL a b) else (2,[])) else (1,[])
theorem jLen_int (a b:List Int):(if (List.length b:Int)>(List.length a:Int) then (List.length b:Int) else (List.length a:Int))=(Lf a b:Int):=by
 unfold Lf;split <;> split <;> omega
theorem j5_ok (a b:List Int) (k:Nat):f198_j5 (Fy a k) (Fy b k)=some (bif jBad a b k then Sum.inr () else Sum.inl ()):=by
 unfold f198_j5 jBad
 cases (Fy a k != Fy b k) <;> cases (Fy a k != 1) <;> cases (Fy b k != 1) <;> rfl
theorem joinP (a b:List Int):f198 a b=some (jS a b):=by
 unfold f198 f198_j1 jS
 rw [Gn,Gn,jLen_int]
 simp only [A9]
 by_cases ha:0<prd a
 ·by_cases hb:0<prd b
  ·have la:=Gy ha
   have lb:=Gy hb
   have lj:Lf a b≤4:=by unfold Lf;split <;> omega
   rw [dT (show prd a>0 from ha),dT (show prd b>0 from hb),if_pos ⟨ha,hb⟩]
   simp only [Bool.not_true,cond_false,A9,Fl]
   rw [Bh,Int.toNat_natCast,dnto_zero _ (jMax a b)]
   have:=loop_any (B:=fun go (x:Int×List Int)=>f198_l4 a b go x.1 x.2) (fun k=>((k:Int),dnto (Lf a b) k (jMax a b))) (jBad a b) (Sum.inl ()) (Sum.inr (jL a b)) (Lf a b) ?_ ?_ ?_ (by omega)
   ·rw [show ((0:Nat):Int)=0 from rfl] at this
    rw [this]
    simp only [A9]
    cases anyB (Lf a b) (jBad a b)
    ·simp only [cond_false,F6]
     rw [Gn]
     by_cases hp:0<prd (jL a b)
     ·rw [dT (show prd (jL a b)>0 from hp),if_pos hp];rfl
     ·rw [dF (show ¬prd (jL a b)>0 from hp),if_neg hp];rfl
    ·rfl
   ·intro k hk hp go
    unfold f198_l4
    rw [jLen_int,Int.toNat_natCast,List.length_replicate,dT,cond_true,side_ok a k (by omega) (by omega),A9,side_ok b k (by omega) (by omega),A9,j5_ok,hp,A9]
    simp only [cond_false,Fl,dnto_len]
    rw [E9 (n:=(Lf a b:Int)-1) (by omega) (by omega),E9 (n:=(Lf a b:Int)-1-k) (by omega) (by omega),Bh,E9,show (Lf a b:Int)-1-k=((Lf a b-1-k:Nat):Int) by omega,Int.toNat_natCast,dnto_set _ _ (jMax a b) (if Fy b k>Fy a k then Fy b k else Fy a k) hk rfl]
    rfl
   ·intro k hk hp go
    unfold f198_l4
    rw [jLen_int,Int.toNat_natCast,List.length_replicate,dT,cond_true,side_ok a k (by omega) (by omega),A9,side_ok b k (by omega) (by omega),A9,j5_ok,hp,A9]
    rfl
   ·intro go
    unfold f198_l4
    rw [jLen_int,Int.toNat_natCast,List.length_replicate,dF,cond_false,dnto_full];rfl
  ·rw [dT (show prd a>0 from ha),dF (show ¬prd b>0 from hb),if_neg (fun h=>hb h.2)];rfl
 ·rw [dF (show ¬prd a>0 from ha),if_neg (fun h=>ha h.1)];rfl
theorem j12_ok (a:List Int) (k:Nat) (hl:a.length≤4):f136_j12 a ((k+1:Nat):Int)=some (Fy a k):=by
 unfold f136_j12
 by_cases h:k<a.length
 ·rw [dT,cond_true,E9,Bh,show (a.length:Int)-((k+1:Nat):Int)=((a.length-1-k:Nat):Int) by omega,Lh a k h]
 ·rw [dF,cond_false];unfold Fy;rw [if_neg h]
theorem j14_ok (a b:List Int) (k:Nat):f136_j14 (Fy a k) (Fy b k)=some (bif jBad a b k then Sum.inr () else Sum.inl ()):=j5_ok a b k
theorem j15_ok (a b:List Int) (k:Nat):f136_j15 (Fy a k) (Fy b k)=some (jMax a b k):=by
 unfold f136_j15 jMax
 by_cases h:Fy b k>Fy a k
 ·rw [dT h,if_pos h];rfl
 ·rw [dF h,if_neg h];rfl
theorem joinR (a b:List Int):f136 a b=some (jS a b):=by
 unfold f136 f136_j1 jS
 rw [goodR,goodR]
 simp only [A9]
 by_cases ha:0<prd a
 ·by_cases hb:0<prd b
  ·have la:=Gy ha
   have lb:=Gy hb
   have lj:Lf a b≤4:=by unfold Lf;split <;> omega
   have hj2:f136_j2 a b=some (Lf a b:Int):=by
    unfold f136_j2 Lf
    by_cases h:b.length>a.length
    ·rw [dT,if_pos h];rfl
    ·rw [dF,if_neg h];rfl
   rw [dT (show prd a>0 from ha),dT (show prd b>0 from hb),if_pos ⟨ha,hb⟩]
   simp only [Bool.not_true,cond_false,A9,Fl]
   rw [hj2,A9,Bh,Int.toNat_natCast,dnto_zero _ (jMax a b)]
   have:=loop_any (B:=fun go (x:Int×List Int)=>f136_l11 a b (Lf a b:Int) go x.1 x.2) (fun k=>(((k+1:Nat):Int),dnto (Lf a b) k (jMax a b))) (jBad a b) (Sum.inl ()) (Sum.inr (jL a b)) (Lf a b) ?_ ?_ ?_ (by omega)
   ·rw [show (((0+1:Nat)):Int)=1 from rfl] at this
    rw [this]
    simp only [A9]
    cases anyB (Lf a b) (jBad a b)
    ·simp only [cond_false,F6]
     rw [goodR]
     by_cases hp:0<prd (jL a b)
     ·rw [dT (show prd (jL a b)>0 from hp),if_pos hp];rfl
     ·rw [dF (show ¬prd (jL a b)>0 from hp),if_neg hp];rfl
    ·rfl
   ·intro k hk hp go
    unfold f136_l11
    rw [dT,cond_true,j12_ok a k la,A9,show f136_j13 b ((k+1:Nat):Int)=some (Fy b k) from j12_ok b k lb,A9,j14_ok,hp,A9]
    simp only [cond_false,Fl,dnto_len]
    rw [j15_ok,A9,E9 (n:=(Lf a b:Int)-((k+1:Nat):Int)) (by omega) (by omega),Bh,E9,show (Lf a b:Int)-((k+1:Nat):Int)=((Lf a b-1-k:Nat):Int) by omega,Int.toNat_natCast,dnto_set _ _ _ _ hk rfl]
    rfl
   ·intro k hk hp go
    unfold f136_l11
    rw [dT,cond_true,j12_ok a k la,A9,show f136_j13 b ((k+1:Nat):Int)=some (Fy b k) from j12_ok b k lb,A9,j14_ok,hp,A9]
    rfl
   ·intro go
    unfold f136_l11
    rw [dF,cond_false,dnto_full];rfl
  ·rw [dT (show prd a>0 from ha),dF (show ¬prd b>0 from hb),if_neg (fun h=>hb h.2)];rfl
 ·rw [dF (show ¬prd a>0 from ha),if_neg (fun h=>ha h.1)];rfl
theorem jL_side (a b:List Int) (k:Nat) (hk:k<Lf a b):Fy (jL a b) k=jMax a b k:=by
 have hl:(jL a b).length=Lf a b:=Gb _ _
 rw [← Lh _ k (by omega),hl]
 unfold jL
 rw [Kx _ _ _ _ (by omega)]
 congr 1;omega
theorem jS_joined {a b d:List Int} (h:jS a b=(0,d)):Joined a b d:=by
 unfold jS at h
 split at h
 ·next hg=>
  cases hc:anyB (Lf a b) (jBad a b)
  ·rw [hc,cond_false] at h
   split at h
   ·next hp=>
    obtain rfl:jL a b=d:=(Prod.mk.inj h).2
    have hl:(jL a b).length=Lf a b:=Gb _ _
    have hjl:Lf a b=max a.length b.length:=by unfold Lf;split <;> omega
    have hb:=anyB_false.1 hc
    refine ⟨hg.1,hg.2,hp,by omega,fun k hk=>?_,fun k hk=>?_⟩
    ·rw [jL_side a b k (by omega)];unfold jMax;split <;> omega
    ·have:=hb k (by omega)
     unfold jBad at this
     by_cases h1:Fy a k=Fy b k
     ·exact .inl h1
     ·by_cases h2:Fy a k=1
      ·exact .inr (.inl h2)
      ·by_cases h3:Fy b k=1
       ·exact .inr (.inr h3)
       ·rw [nT h1,nT h2,nT h3] at this;exact absurd this (by decide)
   ·exact absurd (Prod.mk.inj h).1 (by decide)
  ·rw [hc,cond_true] at h;exact absurd (Prod.mk.inj h).1 (by decide)
 ·exact absurd (Prod.mk.inj h).1 (by decide)
theorem list_side {d e:List Int} (hl:d.length=e.length) (h:∀ k,k<d.length→Fy d k=Fy e k):d=e:=by
 apply List.ext_getElem hl
 intro i h1 h2
 have:=h (d.length-1-i) (by omega)
 unfold Fy at this
 rw [iPo,iPo,getD_at _ _ (by omega),getD_at _ _ (by omega)] at this
 simp only [show d.length-1-(d.length-1-i)=i by omega,show e.length-1-(d.length-1-i)=i by omega] at this
 exact this
theorem jS_fits {d big:List Int}:jS d big=(0,big)↔Fits d big:=by
 constructor
 ·intro h
  exact (jS_joined h).fa
 ·intro h
  have hlen:=h.len
  have hjl:Lf d big=big.length:=by unfold Lf;split <;> omega
  have hs:∀ k,k<big.length→Fy d k=1∨Fy big k=Fy d k:=fun k hk=>by
   by_cases hk2:k<d.length
   ·have:=(Gv h.pd k).1
    by_cases h1:1<Fy d k
    ·exact .inr (h.eq k hk2 h1)
    ·exact .inl (by omega)
   ·left;unfold Fy;rw [if_neg hk2]
  have hany:anyB (Lf d big) (jBad d big)=false:=anyB_false.2 (fun i hi=>by
   unfold jBad
   rcases hs i (by omega) with e | e
   ·rw [nF e];simp
   ·rw [nF e.symm];rfl)
  have hL:jL d big=big:=list_side (by unfold jL;rw [Gb,hjl]) (fun k hk=>by
   have hk2:k<Lf d big:=by rw [show (jL d big).length=Lf d big from Gb _ _] at hk;exact hk
   rw [jL_side d big k hk2]
   unfold jMax
   have:=(Gv h.pb k).1
   rcases hs k (by omega) with e | e
   ·rw [e];split <;> omega
   ·rw [e];split <;> rfl)
  unfold jS
  rw [if_pos ⟨h.pd,h.pb⟩,hany,hL,cond_false,if_pos h.pb]
def plc (d:List Int) (v:Int):List Int:=Ga d.length (fun j=>rst d v (d.length-1-j)%Fy d (d.length-1-j))
theorem place_loop (d:List Int) (h:0<prd d) (v:Int) (v0:0≤v) (v1:v<prd d) :
  Fp (fun go (x:Int×Int×List Int)=>f203_l2 d go x.1 x.2.1 x.2.2) Fq (v,IntKind.i64.wrap ((d.length:Int)-1),List.replicate (Int.toNat (d.length:Int)) (0:Int))=some (plc d v):=by
 have hl:=Gy h
 have hr:=F2 d
 rw [E9,Int.toNat_natCast,dnto_zero _ (fun k=>rst d v k%Fy d k)]
 have:=Fx (B:=fun go (x:Int×Int×List Int)=>f203_l2 d go x.1 x.2.1 x.2.2) (fun k=>(rst d v k,(d.length:Int)-1-(k:Int),dnto d.length k (fun k=>rst d v k%Fy d k))) d.length (plc d v) ?_ ?_ (by omega)
 ·have e:((d.length:Int)-1-((0:Nat):Int))=(d.length:Int)-1:=by omega
  rw [e] at this
  exact this
 ·intro k hk go
  unfold f203_l2
  simp only [dnto_len]
  obtain ⟨r0,r1⟩:=rst_range h v v0 (by omega) k
  obtain ⟨s0,s1⟩:=Gv h k
  rw [dT,cond_true,show (d.length:Int)-1-(k:Int)=((d.length-1-k:Nat):Int) by omega,Lh d k hk,Bh,Bh,Bh,Bh,Bh]
  have q0:0≤rst d v k/Fy d k:=Int.ediv_nonneg r0 (by omega)
  have q1:rst d v k/Fy d k≤rst d v k:=Int.ediv_le_self _ r0
  rw [Int.tdiv_eq_ediv_of_nonneg r0,Int.tmod_eq_emod_of_nonneg r0,E9 (n:=rst d v k/Fy d k) (by omega) (by omega),E9,Int.toNat_natCast,dnto_set _ _ _ _ hk rfl]
  congr 1
  refine Prod.ext rfl (Prod.ext (by simp only;omega) rfl)
 ·intro go
  unfold f203_l2
  simp only
  rw [dF,cond_false,dnto_full];rfl
theorem place_loopR (d:List Int) (h:0<prd d) (v:Int) (v0:0≤v) (v1:v<prd d) :
  Fp (fun go (x:Int×Int×List Int)=>f127_l2 d go x.1 x.2.1 x.2.2) Fq (v,IntKind.i64.wrap ((d.length:Int)-1),List.replicate (Int.toNat (d.length:Int)) (0:Int))=some (plc d v):=place_loop d h v v0 v1
theorem placeP (d:List Int) (h:0<prd d) (v:Int) (v0:0≤v) (v1:v<prd d):f203 d v=some (true,plc d v):=by
 have hl:=Gy h
 unfold f203 f203_j1
 rw [dF,cond_false,PlB.size_ok,A9,dF,cond_false,A9,Fl,Bh,place_loop d h v v0 v1]
 rfl
theorem placeR (d:List Int) (h:0<prd d) (v:Int) (v0:0≤v) (v1:v<prd d):f127 d v=some (true,plc d v):=by
 have hl:=Gy h
 unfold f127 f127_j1
 rw [goodR,A9,dT (show prd d>0 from h),Bool.not_true,cond_false,dF,cond_false,sizeR,A9,dF,cond_false,A9,Fl,Bh]
 rw [place_loopR d h v v0 v1]
 rfl
theorem plc_len (d:List Int) (v:Int):(plc d v).length=d.length:=Gb _ _
theorem plc_rd (d:List Int) (v:Int) (k:Nat) (hk:k<d.length):rd (0:Int) (plc d v) ((d.length-1-k:Nat):Int)=rst d v k%Fy d k:=by
 unfold plc
 rw [Kx _ _ _ _ (by omega),show d.length-1-(d.length-1-k)=k by omega]
theorem fromR {d big:List Int} (h:Fits d big) (v:Int) (v0:0≤v) (v1:v<prd big):f137 d big v=some (accS d big v d.length,true):=by
 have hl:=Gy h.pd
 have hb:=Gy h.pb
 have hr:=F2 big
 have hrd:=F2 d
 have hlen:=h.len
 unfold f137 f137_j1
 rw [joinR,jS_fits.2 h,A9]
 simp only
 rw [nF rfl,cond_false,sameR _ _ (by omega),A9,dT rfl,Bool.not_true,cond_false,A9,Fl,placeR big h.pb v v0 v1,A9]
 simp only [Bool.not_true,cond_false]
 have key:=Le (B:=fun go (x:Int×Int)=>f137_l4 d (true,plc big v) go x.1 x.2)
  (fun i x=>x.2=(i:Int)∧0≤x.1∧x.1*Kp d (d.length-i)+accS d big v (d.length-i)=accS d big v d.length) (fun z=>z=accS d big v d.length) d.length ((0:Int),(0:Int))
  ⟨rfl,by decide,by rw [Int.zero_mul,Int.zero_add,Nat.sub_zero]⟩ ?_ ?_ (by omega)
 ·obtain ⟨z,e,rfl⟩:=key
  rw [e];rfl
 ·rintro i hi ⟨n,_⟩ ⟨rfl,n0,hn⟩
  simp only at n0 hn ⊢
  obtain ⟨t,ht⟩:∃ t,t=d.length-1-i:=⟨_,rfl⟩
  rw [show d.length-i=t+1 by omega,Kv d t (by omega)] at hn
  simp only [accS] at hn
  obtain ⟨s0,s1⟩:=Gv h.pd t
  have hst:=L0 h.pd t (by omega)
  obtain ⟨a0,a1⟩:=K7 h v v0 (by omega) t (by omega)
  obtain ⟨b0,b1⟩:=K7 h v v0 (by omega) d.length (Nat.le_refl _)
  rw [strd_all,← (Gw h.pd).1] at b1
  obtain ⟨r0,r1⟩:=rst_range h.pb v v0 (by omega) t
  obtain ⟨k,hk⟩:∃ k:Int,k=if Fy d t>1 then rst big v t%Fy big t else 0:=⟨_,rfl⟩
  have hks:(if Fy d t>1 then rst big v t%Fy big t*Kp d t else 0)=k*Kp d t:=by
   rw [hk];split
   ·rfl
   ·rw [Int.zero_mul]
  have hk0:0≤k∧k≤4096:=by
   rw [hk];split
   ·have:=Gv h.pb t
    have m0:=Int.emod_nonneg (rst big v t) (show Fy big t≠0 by omega)
    have m1:=Int.emod_lt_of_pos (rst big v t) (show 0<Fy big t by omega)
    omega
   ·omega
  rw [hks,← Int.mul_assoc] at hn
  have hn2:(n*Fy d t+k)*Kp d t+accS d big v t=accS d big v d.length:=by rw [Int.add_mul];omega
  have p0:0≤n*Fy d t:=Int.mul_nonneg n0 (by omega)
  have p1:(n*Fy d t+k)*1≤(n*Fy d t+k)*Kp d t:=Int.mul_le_mul_of_nonneg_left hst (by omega)
  refine ⟨(n*Fy d t+k,((i+1:Nat):Int)),fun go=>?_,rfl,by simp only;omega,by simp only;rw [show d.length-(i+1)=t by omega];exact hn2⟩
  have ei:rd (0:Int) d (i:Int)=Fy d t:=by
   have:=Lh d t (by omega)
   rw [show d.length-1-t=i by omega] at this;exact this
  have ew:IntKind.i64.wrap (IntKind.i64.wrap ((List.length (plc big v):Int)-(List.length d:Int))+(i:Int))=((big.length-1-t:Nat):Int):=by
   rw [plc_len,E9 (n:=(big.length:Int)-d.length) (by omega) (by omega),E9];omega
  have hj5:f137_j5 d (true,plc big v) (i:Int)=some k:=by
   unfold f137_j5
   simp only
   rw [Bh,ei,ew,plc_rd big v t (by omega),hk]
   by_cases h1:Fy d t=1
   ·rw [bT h1,iNo];rfl
   ·rw [bF h1,iPo];rfl
  unfold f137_l4
  simp only
  rw [dT,cond_true,ew,Bh (by rw [plc_len];omega),hj5,A9,Bh,ei,E9 (n:=n*Fy d t) (by omega) (by omega),E9 (n:=n*Fy d t+k) (by omega) (by omega),E9]
  rfl
 ·rintro ⟨n,_⟩ ⟨rfl,n0,hn⟩
  simp only [Nat.sub_self,Lk,accS,Int.mul_one,Int.add_zero] at n0 hn ⊢
  refine ⟨n,fun go=>?_,hn⟩
  unfold f137_l4
  rw [dF,cond_false]
end Go.Proofs.Sh
namespace Go.Proofs.Dots
open Go.AM Go.Proofs.PlW
theorem lf1 {X Z:Type} (B:(X→Option Z)→X→Option Z) (x:X):Fp B Fq x=B (Fp B 18446744073709551615) x:=rfl
theorem lf2 {X Z:Type} (B:(X→Option Z)→X→Option Z) (x:X):Fp B 18446744073709551615 x=B (Fp B 18446744073709551614) x:=rfl
theorem lf3 {X Z:Type} (B:(X→Option Z)→X→Option Z) (x:X):Fp B 18446744073709551614 x=B (Fp B 18446744073709551613) x:=rfl
theorem lf4 {X Z:Type} (B:(X→Option Z)→X→Option Z) (x:X):Fp B 18446744073709551613 x=B (Fp B 18446744073709551612) x:=rfl
theorem lf5 {X Z:Type} (B:(X→Option Z)→X→Option Z) (x:X):Fp B 18446744073709551612 x=B (Fp B 18446744073709551611) x:=rfl
def W0 (A:Int):Int:=A%18446744073709551616
def W1 (A:Int):Int:=A/18446744073709551616%18446744073709551616
def W2 (A:Int):Int:=A/18446744073709551616/18446744073709551616%18446744073709551616
def W3 (A:Int):Int:=A/18446744073709551616/18446744073709551616/18446744073709551616%18446744073709551616
theorem W1_eq (A:Int):W1 A=W0 (A/18446744073709551616):=rfl
theorem W2_eq (A:Int):W2 A=W1 (A/18446744073709551616):=rfl
theorem W3_eq (A:Int):W3 A=W2 (A/18446744073709551616):=rfl
theorem W_range (A:Int):(0≤W0 A∧W0 A<18446744073709551616)∧(0≤W1 A∧W1 A<18446744073709551616)∧(0≤W2 A∧W2 A<18446744073709551616)∧(0≤W3 A∧W3 A<18446744073709551616):=by
 have w:∀ n:Int,0≤n%18446744073709551616∧n%18446744073709551616<18446744073709551616:=fun n=>by omega
 exact ⟨w _,w _,w _,w _⟩
theorem sm (s q k:Int):(s%18446744073709551616+q%18446744073709551616+k)%18446744073709551616=(s+q+k)%18446744073709551616:=by omega
theorem sd (s q k:Int):(s+q+k)/18446744073709551616=s/18446744073709551616+q/18446744073709551616+(s%18446744073709551616+q%18446744073709551616+k)/18446744073709551616:=by omega
theorem mm (s q k:Int):(s%18446744073709551616-q%18446744073709551616-k)%18446744073709551616=(s-q-k)%18446744073709551616:=by omega
theorem md (s q k:Int):(s-q-k)/18446744073709551616=s/18446744073709551616-q/18446744073709551616 - -((s%18446744073709551616-q%18446744073709551616-k)/18446744073709551616):=by omega
theorem lt_digit (s q:Int):s<q↔s/18446744073709551616<q/18446744073709551616∨(s/18446744073709551616=q/18446744073709551616∧s%18446744073709551616<q%18446744073709551616):=by omega
theorem carry_step {Y:Type} (x y c:Int) (x0:0≤x) (x1:x<18446744073709551616) (y0:0≤y) (y1:y<18446744073709551616) (c0:0≤c) (c1:c≤1) (k:Int→Int→Option Y) :
  (bif decide (IntKind.u64.wrap (x+y)<x) then k 1 (IntKind.u64.wrap (IntKind.u64.wrap (x+y)+c)) else
   bif decide (IntKind.u64.wrap (IntKind.u64.wrap (x+y)+c)<IntKind.u64.wrap (x+y)) then k 1 (IntKind.u64.wrap (IntKind.u64.wrap (x+y)+c)) else k 0 (IntKind.u64.wrap (IntKind.u64.wrap (x+y)+c))) =
  k ((x+y+c)/18446744073709551616) ((x+y+c)%18446744073709551616):=by
 simp only [wu]
 have e:((x+y)%18446744073709551616+c)%18446744073709551616=(x+y+c)%18446744073709551616:=by omega
 rw [e]
 by_cases h1:(x+y)%18446744073709551616<x
 ·rw [show decide ((x+y)%18446744073709551616<x)=true by simpa using h1,show (x+y+c)/18446744073709551616=1 by omega];rfl
 ·rw [show decide ((x+y)%18446744073709551616<x)=false by simpa using h1]
  by_cases h2:(x+y+c)%18446744073709551616<(x+y)%18446744073709551616
  ·rw [show decide ((x+y+c)%18446744073709551616<(x+y)%18446744073709551616)=true by simpa using h2,show (x+y+c)/18446744073709551616=1 by omega];rfl
  ·rw [show decide ((x+y+c)%18446744073709551616<(x+y)%18446744073709551616)=false by simpa using h2,show (x+y+c)/18446744073709551616=0 by omega];rfl
theorem Md {Y:Type} (x y c:Int) (x0:0≤x) (x1:x<18446744073709551616) (y0:0≤y) (y1:y<18446744073709551616) (c0:0≤c) (c1:c≤1) (k:Int→Int→Option Y) :
  (bif decide (x<y) then k 1 (IntKind.u64.wrap (IntKind.u64.wrap (x-y)-c)) else
   bif decide (IntKind.u64.wrap (x-y)<c) then k 1 (IntKind.u64.wrap (IntKind.u64.wrap (x-y)-c)) else k 0 (IntKind.u64.wrap (IntKind.u64.wrap (x-y)-c))) =
  k (-((x-y-c)/18446744073709551616)) ((x-y-c)%18446744073709551616):=by
 simp only [wu]
 have e:((x-y)%18446744073709551616-c)%18446744073709551616=(x-y-c)%18446744073709551616:=by omega
 rw [e]
 by_cases h1:x<y
 ·rw [show decide (x<y)=true by simpa using h1,show -((x-y-c)/18446744073709551616)=1 by omega];rfl
 ·rw [show decide (x<y)=false by simpa using h1]
  by_cases h2:(x-y)%18446744073709551616<c
  ·rw [show decide ((x-y)%18446744073709551616<c)=true by simpa using h2,show -((x-y-c)/18446744073709551616)=1 by omega];rfl
  ·rw [show decide ((x-y)%18446744073709551616<c)=false by simpa using h2,show -((x-y-c)/18446744073709551616)=0 by omega];rfl
theorem pick0 {Y:Type} (a b c d:Option Y):pickF (0:Int) [a,b,c,d]=a:=rfl
theorem pick1 {Y:Type} (a b c d:Option Y):pickF (1:Int) [a,b,c,d]=b:=rfl
theorem pick2 {Y:Type} (a b c d:Option Y):pickF (2:Int) [a,b,c,d]=c:=rfl
theorem pick3 {Y:Type} (a b c d:Option Y):pickF (3:Int) [a,b,c,d]=d:=rfl
theorem plus_w (a0 a1 a2 a3 b0 b1 b2 b3:Int) (ha:(0≤a0∧a0<18446744073709551616)∧(0≤a1∧a1<18446744073709551616)∧(0≤a2∧a2<18446744073709551616)∧(0≤a3∧a3<18446744073709551616))
  (hb:(0≤b0∧b0<18446744073709551616)∧(0≤b1∧b1<18446744073709551616)∧(0≤b2∧b2<18446744073709551616)∧(0≤b3∧b3<18446744073709551616)) :
  ∃ c1 c2 c3:Int,c1=(a0+b0+0)/18446744073709551616∧c2=(a1+b1+c1)/18446744073709551616∧c3=(a2+b2+c2)/18446744073709551616∧
   f138 a0 a1 a2 a3 b0 b1 b2 b3=some ((a0+b0+0)%18446744073709551616,(a1+b1+c1)%18446744073709551616,(a2+b2+c2)%18446744073709551616,(a3+b3+c3)%18446744073709551616):=by
 obtain ⟨⟨p0,q0⟩,⟨p1,q1⟩,⟨p2,q2⟩,⟨p3,q3⟩⟩:=ha
 obtain ⟨⟨r0,s0⟩,⟨r1,s1⟩,⟨r2,s2⟩,⟨r3,s3⟩⟩:=hb
 refine ⟨_,_,_,rfl,rfl,rfl,?_⟩
 unfold f138
 rw [lf1]
 simp only [f138_l1]
 rw [show decide ((0:Int)<4)=true from rfl]
 simp only [cond_true]
 rw [Bh (by decide),pick0,show IntKind.i64.wrap ((0:Int)+1)=1 from rfl,carry_step a0 b0 0 p0 q0 r0 s0 (by omega) (by omega) (fun c v=>Fp _ 18446744073709551615 (c,1,v,0,0,0)),lf2]
 simp only [f138_l1]
 rw [show decide ((1:Int)<4)=true from rfl]
 simp only [cond_true]
 rw [Bh (by decide),pick1,show IntKind.i64.wrap ((1:Int)+1)=2 from rfl,carry_step a1 b1 _ p1 q1 r1 s1 (by omega) (by omega) (fun c v=>Fp _ 18446744073709551614 (c,2,_,v,0,0)),lf3]
 simp only [f138_l1]
 rw [show decide ((2:Int)<4)=true from rfl]
 simp only [cond_true]
 rw [Bh (by decide),pick2,show IntKind.i64.wrap ((2:Int)+1)=3 from rfl,carry_step a2 b2 _ p2 q2 r2 s2 (by omega) (by omega) (fun c v=>Fp _ 18446744073709551613 (c,3,_,_,v,0)),lf4]
 simp only [f138_l1]
 rw [show decide ((3:Int)<4)=true from rfl]
 simp only [cond_true]
 rw [Bh (by decide),pick3,show IntKind.i64.wrap ((3:Int)+1)=4 from rfl,carry_step a3 b3 _ p3 q3 r3 s3 (by omega) (by omega) (fun c v=>Fp _ 18446744073709551612 (c,4,_,_,_,v)),lf5]
 simp only [f138_l1]
 rw [show decide ((4:Int)<4)=false from rfl]
 rfl
theorem plusN_ok (A B:Int):f138 (W0 A) (W1 A) (W2 A) (W3 A) (W0 B) (W1 B) (W2 B) (W3 B)=some (W0 (A+B),W1 (A+B),W2 (A+B),W3 (A+B)):=by
 obtain ⟨c1,c2,c3,h1,h2,h3,e⟩:=plus_w _ _ _ _ _ _ _ _ (W_range A) (W_range B)
 rw [e]
 have d1:(A+B)/18446744073709551616=A/18446744073709551616+B/18446744073709551616+c1:=by
  rw [h1];have:=sd A B 0;rwa [Int.add_zero] at this
 have d2:(A+B)/18446744073709551616/18446744073709551616=A/18446744073709551616/18446744073709551616+B/18446744073709551616/18446744073709551616+c2:=by
  rw [d1,sd,h2];rfl
 have d3:(A+B)/18446744073709551616/18446744073709551616/18446744073709551616=A/18446744073709551616/18446744073709551616/18446744073709551616+B/18446744073709551616/18446744073709551616/18446744073709551616+c3:=by
  rw [d2,sd,h3];rfl
 have e0:(W0 A+W0 B+0)%18446744073709551616=W0 (A+B):=by
  have:=sm A B 0;rw [Int.add_zero] at this ⊢;rw [Int.add_zero] at this;exact this
 have e1:(W1 A+W1 B+c1)%18446744073709551616=W1 (A+B):=by
  unfold W1;rw [d1];exact sm _ _ _
 have e2:(W2 A+W2 B+c2)%18446744073709551616=W2 (A+B):=by
  unfold W2;rw [d2];exact sm _ _ _
 have e3:(W3 A+W3 B+c3)%18446744073709551616=W3 (A+B):=by
  unfold W3;rw [d3];exact sm _ _ _
 rw [e0,e1,e2,e3]
theorem minus_w (a0 a1 a2 a3 b0 b1 b2 b3:Int) (ha:(0≤a0∧a0<18446744073709551616)∧(0≤a1∧a1<18446744073709551616)∧(0≤a2∧a2<18446744073709551616)∧(0≤a3∧a3<18446744073709551616))
  (hb:(0≤b0∧b0<18446744073709551616)∧(0≤b1∧b1<18446744073709551616)∧(0≤b2∧b2<18446744073709551616)∧(0≤b3∧b3<18446744073709551616)) :
  ∃ c1 c2 c3:Int,c1=-((a0-b0-0)/18446744073709551616)∧c2=-((a1-b1-c1)/18446744073709551616)∧c3=-((a2-b2-c2)/18446744073709551616)∧
   f140 a0 a1 a2 a3 b0 b1 b2 b3=some ((a0-b0-0)%18446744073709551616,(a1-b1-c1)%18446744073709551616,(a2-b2-c2)%18446744073709551616,(a3-b3-c3)%18446744073709551616):=by
 obtain ⟨⟨p0,q0⟩,⟨p1,q1⟩,⟨p2,q2⟩,⟨p3,q3⟩⟩:=ha
 obtain ⟨⟨r0,s0⟩,⟨r1,s1⟩,⟨r2,s2⟩,⟨r3,s3⟩⟩:=hb
 refine ⟨_,_,_,rfl,rfl,rfl,?_⟩
 unfold f140
 rw [lf1]
 simp only [f140_l1]
 rw [show decide ((0:Int)<4)=true from rfl]
 simp only [cond_true]
 rw [Bh (by decide),pick0,show IntKind.i64.wrap ((0:Int)+1)=1 from rfl,Md a0 b0 0 p0 q0 r0 s0 (by omega) (by omega) (fun c v=>Fp _ 18446744073709551615 (c,1,v,0,0,0)),lf2]
 simp only [f140_l1]
 rw [show decide ((1:Int)<4)=true from rfl]
 simp only [cond_true]
 rw [Bh (by decide),pick1,show IntKind.i64.wrap ((1:Int)+1)=2 from rfl,Md a1 b1 _ p1 q1 r1 s1 (by omega) (by omega) (fun c v=>Fp _ 18446744073709551614 (c,2,_,v,0,0)),lf3]
 simp only [f140_l1]
 rw [show decide ((2:Int)<4)=true from rfl]
 simp only [cond_true]
 rw [Bh (by decide),pick2,show IntKind.i64.wrap ((2:Int)+1)=3 from rfl,Md a2 b2 _ p2 q2 r2 s2 (by omega) (by omega) (fun c v=>Fp _ 18446744073709551613 (c,3,_,_,v,0)),lf4]
 simp only [f140_l1]
 rw [show decide ((3:Int)<4)=true from rfl]
 simp only [cond_true]
 rw [Bh (by decide),pick3,show IntKind.i64.wrap ((3:Int)+1)=4 from rfl,Md a3 b3 _ p3 q3 r3 s3 (by omega) (by omega) (fun c v=>Fp _ 18446744073709551612 (c,4,_,_,_,v)),lf5]
 simp only [f140_l1]
 rw [show decide ((4:Int)<4)=false from rfl]
 rfl
theorem minus_ok (A B:Int):f140 (W0 A) (W1 A) (W2 A) (W3 A) (W0 B) (W1 B) (W2 B) (W3 B)=some (W0 (A-B),W1 (A-B),W2 (A-B),W3 (A-B)):=by
 obtain ⟨c1,c2,c3,h1,h2,h3,e⟩:=minus_w _ _ _ _ _ _ _ _ (W_range A) (W_range B)
 rw [e]
 have d1:(A-B)/18446744073709551616=A/18446744073709551616-B/18446744073709551616-c1:=by
  rw [h1];have:=md A B 0;rwa [Int.sub_zero] at this
 have d2:(A-B)/18446744073709551616/18446744073709551616=A/18446744073709551616/18446744073709551616-B/18446744073709551616/18446744073709551616-c2:=by
  rw [d1,md,h2];rfl
 have d3:(A-B)/18446744073709551616/18446744073709551616/18446744073709551616=A/18446744073709551616/18446744073709551616/18446744073709551616-B/18446744073709551616/18446744073709551616/18446744073709551616-c3:=by
  rw [d2,md,h3];rfl
 have e0:(W0 A-W0 B-0)%18446744073709551616=W0 (A-B):=by
  have:=mm A B 0;rw [Int.sub_zero] at this ⊢;rw [Int.sub_zero] at this;exact this
 have e1:(W1 A-W1 B-c1)%18446744073709551616=W1 (A-B):=by
  unfold W1;rw [d1];exact mm _ _ _
 have e2:(W2 A-W2 B-c2)%18446744073709551616=W2 (A-B):=by
  unfold W2;rw [d2];exact mm _ _ _
 have e3:(W3 A-W3 B-c3)%18446744073709551616=W3 (A-B):=by
  unfold W3;rw [d3];exact mm _ _ _
 rw [e0,e1,e2,e3]
theorem less_w (a0 a1 a2 a3 b0 b1 b2 b3:Int):f139 a0 a1 a2 a3 b0 b1 b2 b3=some (decide (a3<b3∨(a3=b3∧(a2<b2∨(a2=b2∧(a1<b1∨(a1=b1∧a0<b0))))))):=by
 have s3:∀ go,f139_l1 a0 a1 a2 a3 b0 b1 b2 b3 go 3=if a3=b3 then go (2) else some (Sum.inl (decide (a3<b3))):=fun go=>by
  unfold f139_l1
  rw [show decide ((3:Int)≥0)=true from rfl]
  simp only [cond_true]
  rw [Bh (by decide),pick3,show IntKind.i64.wrap ((3:Int)-1)=2 from rfl]
  by_cases h:a3=b3
  ·rw [show (a3 != b3)=false by simpa using h,if_pos h];rfl
  ·rw [show (a3 != b3)=true by simpa using h,if_neg h];rfl
 have s2:∀ go,f139_l1 a0 a1 a2 a3 b0 b1 b2 b3 go 2=if a2=b2 then go (1) else some (Sum.inl (decide (a2<b2))):=fun go=>by
  unfold f139_l1
  rw [show decide ((2:Int)≥0)=true from rfl]
  simp only [cond_true]
  rw [Bh (by decide),pick2,show IntKind.i64.wrap ((2:Int)-1)=1 from rfl]
  by_cases h:a2=b2
  ·rw [show (a2 != b2)=false by simpa using h,if_pos h];rfl
  ·rw [show (a2 != b2)=true by simpa using h,if_neg h];rfl
 have s1:∀ go,f139_l1 a0 a1 a2 a3 b0 b1 b2 b3 go 1=if a1=b1 then go (0) else some (Sum.inl (decide (a1<b1))):=fun go=>by
  unfold f139_l1
  rw [show decide ((1:Int)≥0)=true from rfl]
  simp only [cond_true]
  rw [Bh (by decide),pick1,show IntKind.i64.wrap ((1:Int)-1)=0 from rfl]
  by_cases h:a1=b1
  ·rw [show (a1 != b1)=false by simpa using h,if_pos h];rfl
  ·rw [show (a1 != b1)=true by simpa using h,if_neg h];rfl
 have s0:∀ go,f139_l1 a0 a1 a2 a3 b0 b1 b2 b3 go 0=if a0=b0 then go (-1) else some (Sum.inl (decide (a0<b0))):=fun go=>by
  unfold f139_l1
  rw [show decide ((0:Int)≥0)=true from rfl]
  simp only [cond_true]
  rw [Bh (by decide),pick0,show IntKind.i64.wrap ((0:Int)-1)=-1 from rfl]
  by_cases h:a0=b0
  ·rw [show (a0 != b0)=false by simpa using h,if_pos h];rfl
  ·rw [show (a0 != b0)=true by simpa using h,if_neg h];rfl
 have s4:∀ go,f139_l1 a0 a1 a2 a3 b0 b1 b2 b3 go (-1)=some (Sum.inr ()):=fun go=>by
  unfold f139_l1
  rw [show decide ((-1:Int)≥0)=false from rfl]
  rfl
 have hl:Fp (fun go x=>f139_l1 a0 a1 a2 a3 b0 b1 b2 b3 go x) Fq 3=if a3=b3 then (if a2=b2 then (if a1=b1 then (if a0=b0 then some (Sum.inr ()) else some (Sum.inl (decide (a0<b0)))) else some (Sum.inl (decide (a1<b1)))) else some (Sum.inl (decide (a2<b2)))) else some (Sum.inl (decide (a3<b3))):=by
  rw [lf1,s3,lf2,s2,lf3,s1,lf4,s0,lf5,s4]
 unfold f139
 rw [hl]
 by_cases h3:a3=b3
 ·by_cases h2:a2=b2
  ·by_cases h1:a1=b1
   ·by_cases h0:a0=b0
    ·rw [if_pos h3,if_pos h2,if_pos h1,if_pos h0]
     simp only [A9,F6,Option.some.injEq]
     simp [h0,h1,h2,h3]
    ·rw [if_pos h3,if_pos h2,if_pos h1,if_neg h0]
     simp only [A9,Fl,Option.some.injEq]
     simp [h1,h2,h3]
   ·rw [if_pos h3,if_pos h2,if_neg h1]
    simp only [A9,Fl,Option.some.injEq]
    simp [h1,h2,h3]
  ·rw [if_pos h3,if_neg h2]
   simp only [A9,Fl,Option.some.injEq]
   simp [h2,h3]
 ·rw [if_neg h3]
  simp only [A9,Fl,Option.some.injEq]
  simp [h3]
def four (A:Int):Prop:=0≤A/18446744073709551616/18446744073709551616/18446744073709551616∧A/18446744073709551616/18446744073709551616/18446744073709551616<18446744073709551616
theorem four_of {A:Int} (h0:0≤A) (h1:A≤1000000000000000000000000000000000000000000000):four A:=by
 have h2:0≤A/18446744073709551616:=by omega
 have h3:A/18446744073709551616≤100000000000000000000000000:=by omega
 generalize A/18446744073709551616=s at *
 have h4:0≤s/18446744073709551616:=by omega
 have h5:s/18446744073709551616≤100000000:=by omega
 unfold four
 generalize hs:s/18446744073709551616=t at *
 omega
theorem less_ok (A B:Int) (ha:four A) (hb:four B):f139 (W0 A) (W1 A) (W2 A) (W3 A) (W0 B) (W1 B) (W2 B) (W3 B)=some (decide (A<B)):=by
 rw [less_w]
 congr 1
 rw [decide_eq_decide]
 unfold four at ha hb
 rw [lt_digit A B,lt_digit (A/18446744073709551616) (B/18446744073709551616),lt_digit (A/18446744073709551616/18446744073709551616) (B/18446744073709551616/18446744073709551616)]
 unfold W0 W1 W2 W3
 generalize ha3:A/18446744073709551616/18446744073709551616/18446744073709551616=a3 at *
 generalize hb3:B/18446744073709551616/18446744073709551616/18446744073709551616=b3 at *
 rw [show a3%18446744073709551616=a3 by omega,show b3%18446744073709551616=b3 by omega]
 have k2:a3=b3→(A/18446744073709551616/18446744073709551616=B/18446744073709551616/18446744073709551616↔A/18446744073709551616/18446744073709551616%18446744073709551616=B/18446744073709551616/18446744073709551616%18446744073709551616):=fun h=>by
  subst ha3;rw [← hb3] at h
  generalize A/18446744073709551616/18446744073709551616=s at *
  generalize B/18446744073709551616/18446744073709551616=t at *
  omega
 have k1:A/18446744073709551616/18446744073709551616=B/18446744073709551616/18446744073709551616→(A/18446744073709551616=B/18446744073709551616↔A/18446744073709551616%18446744073709551616=B/18446744073709551616%18446744073709551616):=fun h=>by
  generalize A/18446744073709551616=s at *
  generalize B/18446744073709551616=t at *
  omega
 have k0:A/18446744073709551616/18446744073709551616=B/18446744073709551616/18446744073709551616→a3=b3:=fun h=>by rw [← ha3,← hb3,h]
 have k00:A/18446744073709551616=B/18446744073709551616→A/18446744073709551616/18446744073709551616=B/18446744073709551616/18446744073709551616:=fun h=>by rw [h]
 generalize A/18446744073709551616/18446744073709551616%18446744073709551616=x2 at *
 generalize B/18446744073709551616/18446744073709551616%18446744073709551616=y2 at *
 generalize A/18446744073709551616%18446744073709551616=x1 at *
 generalize B/18446744073709551616%18446744073709551616=y1 at *
 generalize (A%18446744073709551616<B%18446744073709551616)=p0 at *
 generalize A/18446744073709551616/18446744073709551616=x22 at *
 generalize B/18446744073709551616/18446744073709551616=y22 at *
 generalize A/18446744073709551616=x11 at *
 generalize B/18446744073709551616=y11 at *
 constructor
 ·rintro (h | ⟨rfl,h | ⟨rfl,h | ⟨rfl,h⟩⟩⟩)
  ·exact .inl (.inl (.inl h))
  ·exact .inl (.inl (.inr ⟨rfl,h⟩))
  ·exact .inl (.inr ⟨(k2 rfl).2 rfl,h⟩)
  ·exact .inr ⟨(k1 ((k2 rfl).2 rfl)).2 rfl,h⟩
 ·rintro (((h | ⟨h',h⟩) | ⟨h',h⟩) | ⟨h',h⟩)
  ·exact .inl h
  ·exact .inr ⟨h',.inl h⟩
  ·exact .inr ⟨k0 h',.inr ⟨(k2 (k0 h')).1 h',.inl h⟩⟩
  ·have h2:=k00 h'
   exact .inr ⟨k0 h2,.inr ⟨(k2 (k0 h2)).1 h2,.inr ⟨(k1 h2).1 h',h⟩⟩⟩
theorem refSize_ok (v:Int) (h0 : -9223372036854775808≤v) (h1:v<9223372036854775808):f85 v=some (if v<0 then -v else v):=by
 unfold f85
 by_cases h:v<0
 ·rw [show decide (v<0)=true by simpa using h,if_pos h]
  simp only [cond_true,Option.some.injEq]
  rw [E9 (n:=v+1) (by omega) (by omega),E9,wu,wu]
  omega
 ·rw [show decide (v<0)=false by simpa using h,if_neg h]
  simp only [cond_false,wu,Option.some.injEq]
  omega
theorem pickA {Y:Type} (a b:Option Y):pickF (0:Int) [a,b]=a:=rfl
theorem pickB {Y:Type} (a b:Option Y):pickF (1:Int) [a,b]=b:=rfl
theorem small (n:Int) (h0:0≤n) (h1:n<18446744073709551616):W0 n=n∧W1 n=0∧W2 n=0∧W3 n=0:=by
 have e:n/18446744073709551616=0:=by omega
 refine ⟨by unfold W0;omega,by unfold W1;rw [e];rfl,by unfold W2;rw [e];rfl,by unfold W3;rw [e];rfl⟩
theorem two (s p:Int) (h0:0≤s) (h1:s<18446744073709551616) (g0:0≤p) (g1:p<18446744073709551616):W0 (s+18446744073709551616*p)=s∧W1 (s+18446744073709551616*p)=p∧W2 (s+18446744073709551616*p)=0∧W3 (s+18446744073709551616*p)=0:=by
 have e:(s+18446744073709551616*p)/18446744073709551616=p:=by omega
 obtain ⟨k0,k1,k2,k3⟩:=small p g0 g1
 refine ⟨by unfold W0;omega,?_,?_,?_⟩
 ·rw [W1_eq,e];exact k0
 ·rw [W2_eq,e];exact k1
 ·rw [W3_eq,e];exact k2
theorem times_step (x y k:Int) (s:Int) (h0:0≤x) (h1:x<18446744073709551616) (A:Int) :
  f138 (W0 A) (W1 A) (W2 A) (W3 A) (x*4294967296%18446744073709551616) (x/4294967296) 0 0=some (W0 (A+4294967296*x),W1 (A+4294967296*x),W2 (A+4294967296*x),W3 (A+4294967296*x)):=by
 have h:=plusN_ok A (4294967296*x)
 obtain ⟨t0,t1,t2,t3⟩:=two (x*4294967296%18446744073709551616) (x/4294967296) (by omega) (by omega) (by omega) (by omega)
 have e:x*4294967296%18446744073709551616+18446744073709551616*(x/4294967296)=4294967296*x:=by omega
 rw [e] at t0 t1 t2 t3
 rw [t0,t1,t2,t3] at h
 exact h
theorem times_loop (x y:Int) (h0:0≤x) (h1:x≤9223372036854775808) (g0:0≤y) (g1:y≤9223372036854775808) :
  Fp (fun go (z:Int×Int×Int×Int×Int)=>f149_l1 x y go z.1 z.2.1 z.2.2.1 z.2.2.2.1 z.2.2.2.2) Fq ((0:Int),(IntKind.u64.wrap ((Fv IntKind.u64 (fun p q=>p&&& q) x (4294967295:Int))*(Fv IntKind.u64 (fun p q=>p&&& q) y (4294967295:Int)))),(IntKind.u64.wrap ((Int.fdiv x (2 ^ min (Int.toNat (32:Int)) (IntKind.bits IntKind.u64)))*(Int.fdiv y (2 ^ min (Int.toNat (32:Int)) (IntKind.bits IntKind.u64))))),(0:Int),(0:Int)) =
   some (W0 (x*y),W1 (x*y),W2 (x*y),W3 (x*y)):=by
 have x1:=Int.mul_ediv_add_emod x 4294967296
 have y1:=Int.mul_ediv_add_emod y 4294967296
 have x2:x<18446744073709551616:=by omega
 have y2:y<18446744073709551616:=by omega
 obtain ⟨p0,p1⟩:=J9 (x/4294967296) (y/4294967296) (by omega) (by omega) (by omega) (by omega)
 obtain ⟨q0,q1⟩:=J9 (x/4294967296) (y%4294967296) (by omega) (by omega) (by omega) (by omega)
 obtain ⟨r0,r1⟩:=J9 (x%4294967296) (y/4294967296) (by omega) (by omega) (by omega) (by omega)
 obtain ⟨s0,s1⟩:=J9 (x%4294967296) (y%4294967296) (by omega) (by omega) (by omega) (by omega)
 have hxy:x*y=x%4294967296*(y%4294967296)+18446744073709551616*(x/4294967296*(y/4294967296))+4294967296*(x%4294967296*(y/4294967296))+4294967296*(x/4294967296*(y%4294967296)):=by
  conv=>lhs;rw [← x1,← y1,Int.add_mul,Int.mul_add,Int.mul_add]
  have e1:4294967296*(x/4294967296)*(4294967296*(y/4294967296))=18446744073709551616*(x/4294967296*(y/4294967296)):=by
   rw [show (18446744073709551616:Int)=4294967296*4294967296 from rfl];ac_rfl
  have e2:4294967296*(x/4294967296)*(y%4294967296)=4294967296*(x/4294967296*(y%4294967296)):=Int.mul_assoc _ _ _
  have e3:x%4294967296*(4294967296*(y/4294967296))=4294967296*(x%4294967296*(y/4294967296)):=Int.mul_left_comm _ _ _
  rw [e1,e2,e3];omega
 have w0:∀ n:Int,0≤n→n≤18446744065119617025→IntKind.u64.wrap n=n:=fun n h0 h1=>by rw [wu];omega
 have sh:((2:Int) ^ min (Int.toNat (32:Int)) (IntKind.bits IntKind.u64))=4294967296:=rfl
 have st0:∀ go a b c d,f149_l1 x y go 0 a b c d=D4 (f138 a b c d (x%4294967296*(y/4294967296)*4294967296%18446744073709551616) (x%4294967296*(y/4294967296)/4294967296) 0 0) fun r9=>go (1,r9.1,r9.2.1,r9.2.2.1,r9.2.2.2):=fun go a b c d=>by
  unfold f149_l1
  rw [show decide ((0:Int)<2)=true from rfl]
  simp only [cond_true]
  rw [Bh (by decide),pickA,show IntKind.i64.wrap ((0:Int)+1)=1 from rfl]
  simp only [sh32u,and32 x h0 x2,and32 y g0 y2,w0 _ r0 r1,wu];rw [sh]
 have st1:∀ go a b c d,f149_l1 x y go 1 a b c d=D4 (f138 a b c d (x/4294967296*(y%4294967296)*4294967296%18446744073709551616) (x/4294967296*(y%4294967296)/4294967296) 0 0) fun r9=>go (2,r9.1,r9.2.1,r9.2.2.1,r9.2.2.2):=fun go a b c d=>by
  unfold f149_l1
  rw [show decide ((1:Int)<2)=true from rfl]
  simp only [cond_true]
  rw [Bh (by decide),pickB,show IntKind.i64.wrap ((1:Int)+1)=2 from rfl]
  simp only [sh32u,and32 x h0 x2,and32 y g0 y2,w0 _ q0 q1,wu];rw [sh]
 have st2:∀ go a b c d,f149_l1 x y go 2 a b c d=some (a,b,c,d):=fun go a b c d=>by
  unfold f149_l1
  rw [show decide ((2:Int)<2)=false from rfl]
  rfl
 obtain ⟨t0,t1,t2,t3⟩:=two (x%4294967296*(y%4294967296)) (x/4294967296*(y/4294967296)) s0 (by omega) p0 (by omega)
 rw [and32 x h0 (by omega),and32 y g0 (by omega),sh32u,sh32u,w0 _ s0 s1,w0 _ p0 p1,lf1]
 simp only
 rw [st0]
 have f1:=times_step (x%4294967296*(y/4294967296)) 0 0 0 r0 (by omega) (x%4294967296*(y%4294967296)+18446744073709551616*(x/4294967296*(y/4294967296)))
 rw [t0,t1,t2,t3] at f1
 rw [f1]
 simp only [A9]
 rw [lf2]
 simp only
 rw [st1,times_step (x/4294967296*(y%4294967296)) 0 0 0 q0 (by omega)]
 simp only [A9]
 rw [lf3]
 simp only
 rw [st2,← hxy]
theorem times_ok (a b:Int) (a0 : -9223372036854775808≤a) (a1:a<9223372036854775808) (b0 : -9223372036854775808≤b) (b1:b<9223372036854775808) :
  ∃ (s:Bool) (P:Int),f149 a b=some (s,W0 P,W1 P,W2 P,W3 P)∧0≤P∧P≤85070591730234615865843651857942052864∧(if s then -P else P)=a*b:=by
 have key:∀ x y:Int,0≤x→x≤9223372036854775808→0≤y→y≤9223372036854775808→0≤x*y∧x*y≤85070591730234615865843651857942052864:=fun x y h0 h1 g0 g1=>⟨Int.mul_nonneg h0 g0,Int.mul_le_mul h1 g1 g0 (by decide)⟩
 unfold f149
 rw [refSize_ok a a0 a1,refSize_ok b b0 b1]
 simp only [A9]
 by_cases ha:a<0 <;> by_cases hb:b<0
 ·rw [if_pos ha,if_pos hb,times_loop _ _ (by omega) (by omega) (by omega) (by omega)]
  obtain ⟨k0,k1⟩:=key (-a) (-b) (by omega) (by omega) (by omega) (by omega)
  refine ⟨false,-a * -b,?_,k0,k1,by rw [Int.neg_mul_neg];rfl⟩
  simp only [A9]
  rw [show (!(decide (a<0)==decide (b<0)))=false by simp [ha,hb]]
 ·rw [if_pos ha,if_neg hb,times_loop _ _ (by omega) (by omega) (by omega) (by omega)]
  obtain ⟨k0,k1⟩:=key (-a) b (by omega) (by omega) (by omega) (by omega)
  refine ⟨true,-a*b,?_,k0,k1,by rw [if_pos rfl,Int.neg_mul,Int.neg_neg]⟩
  simp only [A9]
  rw [show (!(decide (a<0)==decide (b<0)))=true by simp [ha,hb]]
 ·rw [if_neg ha,if_pos hb,times_loop _ _ (by omega) (by omega) (by omega) (by omega)]
  obtain ⟨k0,k1⟩:=key a (-b) (by omega) (by omega) (by omega) (by omega)
  refine ⟨true,a * -b,?_,k0,k1,by rw [if_pos rfl,Int.mul_neg,Int.neg_neg]⟩
  simp only [A9]
  rw [show (!(decide (a<0)==decide (b<0)))=true by simp [ha,hb]]
 ·rw [if_neg ha,if_neg hb,times_loop _ _ (by omega) (by omega) (by omega) (by omega)]
  obtain ⟨k0,k1⟩:=key a b (by omega) (by omega) (by omega) (by omega)
  refine ⟨false,a*b,?_,k0,k1,rfl⟩
  simp only [A9]
  rw [show (!(decide (a<0)==decide (b<0)))=false by simp [ha,hb]]
theorem signed_ok (s t:Bool) (A B:Int) (a0:0≤A) (a1:A≤100000000000000000000000000000000000000000000) (b0:0≤B) (b1:B≤100000000000000000000000000000000000000000000) :
  ∃ (u:Bool) (C:Int),f83 s (W0 A) (W1 A) (W2 A) (W3 A) t (W0 B) (W1 B) (W2 B) (W3 B)=some (u,W0 C,W1 C,W2 C,W3 C)∧0≤C∧C≤A+B∧(if u then -C else C)=(if s then -A else A)+(if t then -B else B):=by
 unfold f83
 by_cases h:s=t
 ·subst h
  rw [show (s==s)=true by simp]
  simp only [cond_true]
  rw [plusN_ok]
  refine ⟨s,A+B,rfl,by omega,by omega,?_⟩
  cases s
  ·rfl
  ·simp only [if_true];omega
 ·rw [show (s==t)=false by simpa using h,less_ok A B (four_of a0 (by omega)) (four_of b0 (by omega))]
  simp only [cond_false,A9]
  by_cases hl:A<B
  ·rw [show decide (A<B)=true by simpa using hl]
   simp only [cond_true]
   rw [minus_ok]
   refine ⟨t,B-A,rfl,by omega,by omega,?_⟩
   cases s <;> cases t <;> simp at h ⊢ <;> omega
  ·rw [show decide (A<B)=false by simpa using hl]
   simp only [cond_false]
   rw [minus_ok]
   refine ⟨s,A-B,rfl,by omega,by omega,?_⟩
   cases s <;> cases t <;> simp at h ⊢ <;> omega
def Gt (q N:Nat):Nat:=N/2 ^ (64*q)%2 ^ 64
theorem word_lt (q N:Nat):Gt q N<18446744073709551616:=Nat.mod_lt _ (by decide)
theorem Ko (q N j:Nat):(Gt q N).testBit j=(decide (j<64)&&N.testBit (j+64*q)):=by
 unfold Gt;rw [Nat.testBit_mod_two_pow,Nat.testBit_div_two_pow]
theorem Gp (D m q:Nat):Gt q (D%2 ^ (m+1))=if q=m/64∧D.testBit m=true then Gt q (D%2 ^ m)||| 2 ^ (m%64) else Gt q (D%2 ^ m):=by
 apply Nat.eq_of_testBit_eq
 intro j
 by_cases h:q=m/64∧D.testBit m=true
 ·rw [if_pos h,Nat.testBit_or,Ko,Ko,Nat.testBit_two_pow,Nat.testBit_mod_two_pow,Nat.testBit_mod_two_pow]
  by_cases hj:m%64=j
  ·have e:j+64*q=m:=by omega
   have h64:j<64:=by omega
   rw [e,h.2]
   simp [hj,h64]
  ·by_cases h64:j<64
   ·have hn:j+64*q≠m:=by omega
    have e:decide (j+64*q<m+1)=decide (j+64*q<m):=by rw [decide_eq_decide];omega
    simp [e,h64,hj]
   ·simp [h64,hj]
 ·rw [if_neg h,Ko,Ko,Nat.testBit_mod_two_pow,Nat.testBit_mod_two_pow]
  by_cases h64:j<64
  ·by_cases he:j+64*q=m
   ·have hb:D.testBit m=false:=by
     cases hd:D.testBit m
     ·rfl
     ·exact absurd ⟨by omega,hd⟩ h
    rw [he,hb]
    simp
   ·have e:decide (j+64*q<m+1)=decide (j+64*q<m):=by rw [decide_eq_decide];omega
    rw [e]
  ·simp [h64]
theorem W_word (N:Nat):W0 (N:Int)=(Gt 0 N:Int)∧W1 (N:Int)=(Gt 1 N:Int)∧W2 (N:Int)=(Gt 2 N:Int)∧W3 (N:Int)=(Gt 3 N:Int):=by
 have d1:N/2 ^ (64*1)=N/18446744073709551616:=rfl
 have d2:N/2 ^ (64*2)=N/18446744073709551616/18446744073709551616:=by rw [Nat.div_div_eq_div_mul]
 have d3:N/2 ^ (64*3)=N/18446744073709551616/18446744073709551616/18446744073709551616:=by rw [Nat.div_div_eq_div_mul,Nat.div_div_eq_div_mul]
 have m:(2:Nat) ^ 64=18446744073709551616:=rfl
 have m0:N/2 ^ (64*0)=N:=Nat.div_one N
 unfold Gt
 rw [d1,d2,d3,m0,m]
 unfold W0 W1 W2 W3
 refine ⟨?_,?_,?_,?_⟩ <;> simp
theorem bit_word (q N r:Nat) (hr:r<64):Fv IntKind.u64 (fun p q=>p&&& q) (Int.fdiv (Gt q N:Int) (2 ^ r)) 1=if N.testBit (r+64*q)=true then 1 else 0:=by
 rw [Int.fdiv_eq_ediv_of_nonneg _ (Int.le_of_lt (Int.pow_pos (by decide)))]
 have e:((Gt q N:Int)/2 ^ r)=((Gt q N/2 ^ r:Nat):Int):=by simp
 have hl:=word_lt q N
 have hd:=Nat.div_le_self (Gt q N) (2 ^ r)
 have hb:=Ko q N r
 rw [Nat.testBit_eq_decide_div_mod_eq] at hb
 rw [show decide (r<64)=true by simpa using hr,Bool.true_and] at hb
 rw [← hb,e]
 generalize Gt q N/2 ^ r=x at *
 rw [and1 _ (by omega) (by omega)]
 by_cases h:x%2=1
 ·rw [if_pos (by simpa using h)];omega
 ·rw [if_neg (by simpa using h)];omega
theorem idx (i:Nat) (hi:i<256):IntKind.i64.wrap (Int.tdiv (i:Int) 64)=((i/64:Nat):Int)∧IntKind.u64.wrap (Int.tmod (i:Int) 64)=((i%64:Nat):Int)∧
  min (Int.toNat ((i%64:Nat):Int)) (IntKind.bits IntKind.u64)=i%64:=by
 refine ⟨?_,?_,?_⟩
 ·rw [Int.tdiv_eq_ediv_of_nonneg (by omega),E9];omega
 ·rw [Int.tmod_eq_emod_of_nonneg (by omega),wu];omega
 ·rw [show IntKind.bits IntKind.u64=64 from rfl];omega
theorem bit_ok (N i:Nat) (hi:i<256):f183 (W0 N) (W1 N) (W2 N) (W3 N) (i:Int)=some (if N.testBit i=true then 1 else 0):=by
 obtain ⟨e0,e1,e2,e3⟩:=W_word N
 obtain ⟨t1,t2,t3⟩:=idx i hi
 unfold f183
 rw [t1,t2,t3,e0,e1,e2,e3,Bh,Bh,Bh,Bh,Bh]
 rw [bit_word 0 N _ (by omega),bit_word 1 N _ (by omega),bit_word 2 N _ (by omega),bit_word 3 N _ (by omega)]
 have h:i/64=0∨i/64=1∨i/64=2∨i/64=3:=by omega
 rcases h with h | h | h | h
 ·rw [h,show i%64+64*0=i by omega];exact pick0 _ _ _ _
 ·rw [h,show i%64+64*1=i by omega];exact pick1 _ _ _ _
 ·rw [h,show i%64+64*2=i by omega];exact pick2 _ _ _ _
 ·rw [h,show i%64+64*3=i by omega];exact pick3 _ _ _ _
theorem or_word (q C r:Nat) (hr:r<64):Fv IntKind.u64 (fun p q=>p||| q) (Gt q C:Int) (IntKind.u64.wrap (1*2 ^ r))=((Gt q C||| 2 ^ r:Nat):Int):=by
 have hp:(2:Nat) ^ r<2 ^ 64:=Nat.pow_lt_pow_right (by decide) hr
 rw [show (2:Nat) ^ 64=18446744073709551616 from rfl] at hp
 have e:(1*2 ^ r:Int)=((2 ^ r:Nat):Int):=by simp
 have hl:=word_lt q C
 rw [e]
 generalize 2 ^ r=x at *
 rw [wu,show (x:Int)%18446744073709551616=(x:Int) by omega,or_nat _ _ (by omega) (by omega) (by omega) (by omega)]
 rfl
theorem halve_loop (N:Nat) (hN:N<2 ^ 256) :
  Fp (fun go (x:Int×Int×Int×Int×Int)=>f148_l1 (W0 N) (W1 N) (W2 N) (W3 N) 32 go x.1 x.2.1 x.2.2.1 x.2.2.2.1 x.2.2.2.2) Fq (32,(0:Int),(0:Int),(0:Int),(0:Int)) =
   some ((Gt 0 (N/4294967296):Int),(Gt 1 (N/4294967296):Int),(Gt 2 (N/4294967296):Int),(Gt 3 (N/4294967296):Int)):=by
 have hD:∀ m,(N/4294967296).testBit m=N.testBit (m+32):=fun m=>Nat.testBit_div_two_pow (n:=32) N m
 have hD2:N/4294967296%2 ^ 224=N/4294967296:=by
  apply Nat.mod_eq_of_lt
  rw [Nat.div_lt_iff_lt_mul (by decide)]
  exact hN
 generalize hDD:N/4294967296=D at *
 have H:∀ x:Int×Int×Int×Int×Int,(∃ m:Nat,m≤224∧x=(((m+32:Nat):Int),(Gt 0 (D%2 ^ m):Int),(Gt 1 (D%2 ^ m):Int),(Gt 2 (D%2 ^ m):Int),(Gt 3 (D%2 ^ m):Int)))→
   (∃ z,(∀ go,f148_l1 (W0 N) (W1 N) (W2 N) (W3 N) 32 go x.1 x.2.1 x.2.2.1 x.2.2.2.1 x.2.2.2.2=some z)∧z=((Gt 0 D:Int),(Gt 1 D:Int),(Gt 2 D:Int),(Gt 3 D:Int)))∨
   (∃ y:Int×Int×Int×Int×Int,(∀ go,f148_l1 (W0 N) (W1 N) (W2 N) (W3 N) 32 go x.1 x.2.1 x.2.2.1 x.2.2.2.1 x.2.2.2.2=go y)∧
    (∃ m:Nat,m≤224∧y=(((m+32:Nat):Int),(Gt 0 (D%2 ^ m):Int),(Gt 1 (D%2 ^ m):Int),(Gt 2 (D%2 ^ m):Int),(Gt 3 (D%2 ^ m):Int)))∧((256:Int)-y.1).toNat<((256:Int)-x.1).toNat):=by
  rintro _ ⟨m,hm,rfl⟩
  by_cases hlt:m<224
  ·right
   refine ⟨(((m+1+32:Nat):Int),(Gt 0 (D%2 ^ (m+1)):Int),(Gt 1 (D%2 ^ (m+1)):Int),(Gt 2 (D%2 ^ (m+1)):Int),(Gt 3 (D%2 ^ (m+1)):Int)),fun go=>?_,⟨m+1,hlt,rfl⟩,by simp only;omega⟩
   unfold f148_l1
   simp only
   rw [show decide (((m+32:Nat):Int)<256)=true by simp;omega]
   simp only [cond_true]
   rw [bit_ok N (m+32) (by omega)]
   simp only [A9]
   rw [← hD]
   have hi:IntKind.i64.wrap (((m+32:Nat):Int)+1)=((m+1+32:Nat):Int):=by rw [E9];omega
   have hs:IntKind.i64.wrap (((m+32:Nat):Int)-32)=(m:Int):=by rw [E9];omega
   obtain ⟨t1,t2,t3⟩:=idx m (by omega)
   by_cases hb:D.testBit m=true
   ·rw [if_pos hb,show ((1:Int)==1)=true from rfl]
    simp only [cond_true]
    rw [hi,hs,t1,t2,t3,Bh,Bh,Bh,Bh,Bh]
    rw [or_word 0 _ _ (by omega),or_word 1 _ _ (by omega),or_word 2 _ _ (by omega),or_word 3 _ _ (by omega)]
    have h:m/64=0∨m/64=1∨m/64=2∨m/64=3:=by omega
    rcases h with h | h | h | h
    ·have k0:=Gp D m 0;have k1:=Gp D m 1;have k2:=Gp D m 2;have k3:=Gp D m 3
     rw [if_pos ⟨by omega,hb⟩] at k0
     rw [iNo] at k1 k2 k3
     rw [k0,k1,k2,k3,h]
     exact pick0 _ _ _ _
    ·have k0:=Gp D m 0;have k1:=Gp D m 1;have k2:=Gp D m 2;have k3:=Gp D m 3
     rw [if_pos ⟨by omega,hb⟩] at k1
     rw [iNo] at k0 k2 k3
     rw [k0,k1,k2,k3,h]
     exact pick1 _ _ _ _
    ·have k0:=Gp D m 0;have k1:=Gp D m 1;have k2:=Gp D m 2;have k3:=Gp D m 3
     rw [if_pos ⟨by omega,hb⟩] at k2
     rw [iNo] at k0 k1 k3
     rw [k0,k1,k2,k3,h]
     exact pick2 _ _ _ _
    ·have k0:=Gp D m 0;have k1:=Gp D m 1;have k2:=Gp D m 2;have k3:=Gp D m 3
     rw [if_pos ⟨by omega,hb⟩] at k3
     rw [iNo] at k0 k1 k2
     rw [k0,k1,k2,k3,h]
     exact pick3 _ _ _ _
   ·rw [if_neg hb,show ((0:Int)==1)=false from rfl]
    simp only [cond_false]
    have k:∀ q,Gt q (D%2 ^ (m+1))=Gt q (D%2 ^ m):=fun q=>by rw [Gp,if_neg (fun h=>hb h.2)]
    rw [hi,k,k,k,k]
  ·left
   have:m=224:=by omega
   subst this
   refine ⟨_,fun go=>?_,rfl⟩
   unfold f148_l1
   simp only
   rw [show decide ((((224+32:Nat)):Int)<256)=false from rfl,hD2]
   rfl
 have z0:∀ q,Gt q (D%2 ^ 0)=0:=fun q=>by
  rw [Nat.pow_zero,Nat.mod_one];unfold Gt;rw [Nat.zero_div]
 obtain ⟨z,e,rfl⟩:=Gd (B:=fun go (x:Int×Int×Int×Int×Int)=>f148_l1 (W0 N) (W1 N) (W2 N) (W3 N) 32 go x.1 x.2.1 x.2.2.1 x.2.2.2.1 x.2.2.2.2) _ (fun x=>((256:Int)-x.1).toNat) _ H
  (32,(0:Int),(0:Int),(0:Int),(0:Int)) ⟨0,by decide,by rw [z0,z0,z0,z0];rfl⟩ (by decide)
 exact e
theorem low_bits (N m:Nat):N%2 ^ (m+1)=0↔N%2 ^ m=0∧N.testBit m=false:=by
 rw [Nat.testBit_eq_decide_div_mod_eq,Nat.mod_pow_succ]
 have hp:0<2 ^ m:=Nat.two_pow_pos m
 have h2:N/2 ^ m%2<2:=Nat.mod_lt _ (by decide)
 generalize N/2 ^ m%2=b at *
 generalize N%2 ^ m=a at *
 have hb:b=0∨b=1:=by omega
 rcases hb with rfl | rfl
 ·simp
 ·simp
  try omega
theorem more_loop (N:Nat) (o:Bool) :
  Fp (fun go (x:Bool×Int)=>f148_l3 (W0 N) (W1 N) (W2 N) (W3 N) 32 go x.1 x.2) Fq (o,0)=some (o||!(decide (N%2147483648=0))):=by
 have H:∀ x:Bool×Int,(∃ m:Nat,m≤31∧x=((o||!(decide (N%2 ^ m=0))),(m:Int)))→
   (∃ z,(∀ go,f148_l3 (W0 N) (W1 N) (W2 N) (W3 N) 32 go x.1 x.2=some z)∧z=(o||!(decide (N%2147483648=0))))∨
   (∃ y:Bool×Int,(∀ go,f148_l3 (W0 N) (W1 N) (W2 N) (W3 N) 32 go x.1 x.2=go y)∧
    (∃ m:Nat,m≤31∧y=((o||!(decide (N%2 ^ m=0))),(m:Int)))∧((31:Int)-y.2).toNat<((31:Int)-x.2).toNat):=by
  rintro _ ⟨m,hm,rfl⟩
  have w31:IntKind.i64.wrap ((32:Int)-1)=31:=rfl
  by_cases hlt:m<31
  ·right
   refine ⟨((o||!(decide (N%2 ^ (m+1)=0))),((m+1:Nat):Int)),fun go=>?_,⟨m+1,hlt,rfl⟩,by simp only;omega⟩
   unfold f148_l3
   simp only
   rw [w31,show decide ((m:Int)<31)=true by simp;omega]
   simp only [cond_true]
   rw [show IntKind.i64.wrap ((m:Int)+1)=((m+1:Nat):Int) by rw [E9];omega]
   have lb:=low_bits N m
   by_cases h:(o||!(decide (N%2 ^ m=0)))=true
   ·rw [h]
    simp only [cond_true]
    have:(o||!(decide (N%2 ^ (m+1)=0)))=true:=by
     cases o
     ·simp only [Bool.false_or,Bool.not_eq_true',decide_eq_false_iff_not] at h ⊢
      exact fun h2=>h (lb.1 h2).1
     ·rfl
    rw [this]
   ·have hf:(o||!(decide (N%2 ^ m=0)))=false:=by simpa using h
    rw [hf]
    simp only [cond_false]
    rw [bit_ok N m (by omega)]
    simp only [A9]
    have ho:o=false:=by cases o <;> simp at hf ⊢
    have hz:N%2 ^ m=0:=by subst ho;simpa using hf
    subst ho
    cases hb:N.testBit m
    ·have:N%2 ^ (m+1)=0:=lb.2 ⟨hz,hb⟩
     rw [this]
     rfl
    ·have:N%2 ^ (m+1)≠0:=fun h2=>by have:=(lb.1 h2).2;rw [hb] at this;exact Bool.noConfusion this
     rw [show decide (N%2 ^ (m+1)=0)=false by simpa using this]
     rfl
  ·left
   have:m=31:=by omega
   subst this
   refine ⟨_,fun go=>?_,rfl⟩
   unfold f148_l3
   simp only
   rw [w31,show decide (((31:Nat):Int)<31)=false from rfl]
   rfl
 obtain ⟨z,e,rfl⟩:=Gd (B:=fun go (x:Bool×Int)=>f148_l3 (W0 N) (W1 N) (W2 N) (W3 N) 32 go x.1 x.2) _ (fun x=>((31:Int)-x.2).toNat) _ H
  (o,0) ⟨0,by decide,by rw [Nat.pow_zero,Nat.mod_one];simp⟩ (by simp)
 exact e
theorem rhe_neg (S:Int):rhe (-S)=-rhe S:=by
 unfold rhe
 split <;> split <;> omega
theorem halved_ok (s:Bool) (A:Int) (h0:0≤A) (h1:A≤100000000000000000000000000000000000000000000) :
  f148 s (W0 A) (W1 A) (W2 A) (W3 A) 32=some (s,W0 (rhe A),W1 (rhe A),W2 (rhe A),W3 (rhe A)):=by
 obtain ⟨N,rfl⟩:=Int.eq_ofNat_of_zero_le h0
 have hN:N<2 ^ 256:=by
  have:(2:Nat) ^ 256=115792089237316195423570985008687907853269984665640564039457584007913129639936:=by decide
  omega
 unfold f148
 rw [halve_loop N hN]
 simp only [A9]
 obtain ⟨e0,e1,e2,e3⟩:=W_word (N/4294967296)
 rw [← e0,← e1,← e2,← e3]
 have hd:((N/4294967296:Nat):Int)=(N:Int)/4294967296:=by omega
 rw [hd]
 have hj:f148_j2 (W0 N) (W1 N) (W2 N) (W3 N) 32=some (if N.testBit 31=true then Sum.inl () else Sum.inr ()):=by
  unfold f148_j2
  rw [show ((32:Int)==0)=false from rfl]
  simp only [cond_false]
  have:=bit_ok N 31 (by decide)
  rw [show IntKind.i64.wrap ((32:Int)-1)=((31:Nat):Int) from rfl,this]
  simp only [A9]
  cases N.testBit 31 <;> rfl
 rw [hj]
 have hb:N.testBit 31=decide (N/2147483648%2=1):=Nat.testBit_eq_decide_div_mod_eq
 by_cases hbit:N.testBit 31=true
 ·rw [if_pos hbit]
  rw [hb] at hbit
  have hbit:N/2147483648%2=1:=by simpa using hbit
  simp only [A9,Fl]
  rw [more_loop]
  simp only [A9]
  have w0:W0 ((N:Int)/4294967296)=(N:Int)/4294967296%18446744073709551616:=rfl
  have ha:Fv IntKind.u64 (fun p q=>p&&& q) (W0 ((N:Int)/4294967296)) 1=(N:Int)/4294967296%2:=by
   rw [and1 _ (by rw [w0];omega) (by rw [w0];omega),w0];omega
  rw [ha]
  by_cases hm:((N:Int)/4294967296%2==1||!(decide (N%2147483648=0)))=true
  ·rw [hm]
   simp only [cond_true]
   have h1:W0 1=1∧W1 1=0∧W2 1=0∧W3 1=0:=small 1 (by decide) (by decide)
   have hp:=plusN_ok ((N:Int)/4294967296) 1
   rw [h1.1,h1.2.1,h1.2.2.1,h1.2.2.2] at hp
   rw [hp]
   have hr:rhe (N:Int)=(N:Int)/4294967296+1:=by
    unfold rhe
    rw [if_pos]
    simp only [Bool.or_eq_true,beq_iff_eq,Bool.not_eq_true',decide_eq_false_iff_not] at hm
    omega
   rw [hr]
   rfl
  ·rw [show ((N:Int)/4294967296%2==1||!(decide (N%2147483648=0)))=false by simpa using hm]
   simp only [cond_false]
   have hr:rhe (N:Int)=(N:Int)/4294967296:=by
    unfold rhe
    rw [if_neg]
    simp only [Bool.or_eq_true,beq_iff_eq,Bool.not_eq_true',decide_eq_false_iff_not] at hm
    omega
   rw [hr]
 ·rw [if_neg hbit]
  rw [hb] at hbit
  have hbit:¬(N/2147483648%2=1):=by simpa using hbit
  simp only [A9,F6]
  have hr:rhe (N:Int)=(N:Int)/4294967296:=by
   unfold rhe
   rw [if_neg]
   omega
  rw [hr]
theorem or_zero (a b:Int) (h0:0≤a) (h1:a<18446744073709551616) (g0:0≤b) (g1:b<18446744073709551616) :
  ∃ n:Nat,Fv IntKind.u64 (fun p q=>p||| q) a b=(n:Int)∧n<18446744073709551616∧(n=0↔a=0∧b=0):=by
 refine ⟨a.toNat||| b.toNat,or_nat a b h0 h1 g0 g1,?_,?_⟩
 ·exact Nat.or_lt_two_pow (n:=64) (by omega) (by omega)
 ·rw [Nat.or_eq_zero_iff];omega
theorem heldN_ok (s:Bool) (R:Int) (h0:0≤R) (h1:R≤100000000000000000000000000000000000000000000) :
  f129 s (W0 R) (W1 R) (W2 R) (W3 R)=some (sat (if s then -R else R)):=by
 obtain ⟨⟨r0,s0⟩,⟨r1,s1⟩,⟨r2,s2⟩,⟨r3,s3⟩⟩:=W_range R
 have hj:f129_j3 (W0 R) (W1 R) (W2 R) (W3 R)=some (decide (R≥9223372036854775808)):=by
  unfold f129_j3
  obtain ⟨n,e,hn,hz⟩:=or_zero (W1 R) (W2 R) r1 s1 r2 s2
  obtain ⟨p,e',hp,hz'⟩:=or_zero (n:Int) (W3 R) (by omega) (by omega) r3 s3
  rw [e,e']
  have w:W0 R=R%18446744073709551616:=rfl
  have w1:W1 R=R/18446744073709551616%18446744073709551616:=rfl
  have w2:W2 R=R/18446744073709551616/18446744073709551616%18446744073709551616:=rfl
  by_cases hp0:p=0
  ·subst hp0
   rw [show (((0:Nat):Int) != 0)=false from rfl]
   simp only [cond_false,Option.some.injEq]
   rw [decide_eq_decide]
   have hn0:(n:Int)=0:=(hz'.1 rfl).1
   have hq:=hz.1 (by omega)
   omega
  ·rw [show ((p:Int) != 0)=true by simp;omega]
   simp only [cond_true,Option.some.injEq]
   symm
   rw [decide_eq_true_iff]
   by_cases hR:R<18446744073709551616
   ·exfalso
    obtain ⟨k0,k1,k2,k3⟩:=small R h0 hR
    have hn0:n=0:=hz.2 ⟨k1,k2⟩
    exact hp0 (hz'.2 ⟨by omega,k3⟩)
   ·omega
 unfold f129 f129_j2
 rw [hj]
 simp only [A9]
 by_cases hR:R≥9223372036854775808
 ·rw [show decide (R≥9223372036854775808)=true by simpa using hR]
  simp only [cond_true]
  cases s
  ·simp only [cond_false,A9,F6,Option.some.injEq,sat]
   simp only [Bool.false_eq_true,if_false]
   rw [if_pos hR]
  ·simp only [cond_true,A9,F6,Option.some.injEq,sat]
   simp only [if_true]
   rw [iNo]
   split <;> omega
 ·rw [show decide (R≥9223372036854775808)=false by simpa using hR]
  simp only [cond_false]
  obtain ⟨k0,k1,k2,k3⟩:=small R h0 (by omega)
  rw [k0]
  cases s
  ·simp only [cond_false,A9,Fl,Option.some.injEq,sat]
   simp only [Bool.false_eq_true,if_false]
   rw [if_neg hR,iNo,E9]
  ·simp only [cond_true,A9,Fl,Option.some.injEq,sat]
   simp only [if_true]
   rw [iNo,iNo,E9 (n:=R) (by omega) (by omega),E9]
   omega
theorem rhe_range (A:Int) (h0:0≤A) (h1:A≤10000000000000000000000000000000000000000000):0≤rhe A∧rhe A≤100000000000000000000000000000000000000000000:=by
 unfold rhe;split <;> omega
end Go.Proofs.Dots
namespace Go.Proofs.Num
open Go.AM Go.Proofs.PlW Go.Proofs.Dots
def Nm (v:Int) (x:Bool×Int×Int×Int×Int):Prop:=∃ A:Int,0≤A∧x=(x.1,W0 A,W1 A,W2 A,W3 A)∧v=if x.1 then -A else A
def Sm (v:Int):Prop:=-10000000000000000000000000000000000000000000≤v∧v≤10000000000000000000000000000000000000000000
theorem nm_abs {v:Int} {s:Bool} {A:Int} (h:v=if s then -A else A):v=-A∧s=true∨v=A∧s=false:=by cases s <;> simp_all
theorem w_zero:W0 0=0∧W1 0=0∧W2 0=0∧W3 0=0:=small 0 (by decide) (by decide)
theorem nm_zero:Nm 0 (false,0,0,0,0):=⟨0,Int.le_refl _,by obtain ⟨a,b,c,d⟩:=w_zero;rw [a,b,c,d],rfl⟩
theorem from_ok (n:Int) (h0 : -9223372036854775808≤n) (h1:n<9223372036854775808):∃ x,f48 n=some x∧Nm n (x.1,x.2,0,0,0):=by
 unfold f48
 rw [refSize_ok n h0 h1]
 refine ⟨(decide (n<0),if n<0 then -n else n),rfl,if n<0 then -n else n,by split <;> omega,?_,?_⟩
 ·obtain ⟨a,b,c,d⟩:=small (if n<0 then -n else n) (by split <;> omega) (by split <;> omega)
  rw [a,b,c,d]
 ·simp only
  by_cases h:n<0
  ·rw [dT h,if_pos h];simp
  ·rw [dF h,if_neg h];simp
theorem turned_ok {v:Int} {x:Bool×Int×Int×Int×Int} (h:Nm v x):∃ z,f150 x.1 x.2.1 x.2.2.1 x.2.2.2.1 x.2.2.2.2=some z∧Nm (-v) z:=by
 obtain ⟨A,h0,h1,h2⟩:=h
 rw [h1]
 refine ⟨_,rfl,A,h0,rfl,?_⟩
 rcases nm_abs h2 with ⟨e,s⟩ | ⟨e,s⟩ <;> rw [e,s] <;> simp
theorem plus_nm {a b:Int} {x y:Bool×Int×Int×Int×Int} (ha:Nm a x) (hb:Nm b y) (sa:Sm a) (sb:Sm b) :
  ∃ z,f83 x.1 x.2.1 x.2.2.1 x.2.2.2.1 x.2.2.2.2 y.1 y.2.1 y.2.2.1 y.2.2.2.1 y.2.2.2.2=some z∧Nm (a+b) z:=by
 obtain ⟨A,a0,a1,a2⟩:=ha
 obtain ⟨B,b0,b1,b2⟩:=hb
 unfold Sm at sa sb
 have la:A≤10000000000000000000000000000000000000000000:=by rcases nm_abs a2 with ⟨e,s⟩ | ⟨e,s⟩ <;> omega
 have lb:B≤10000000000000000000000000000000000000000000:=by rcases nm_abs b2 with ⟨e,s⟩ | ⟨e,s⟩ <;> omega
 obtain ⟨u,C,e,c0,c1,c2⟩:=signed_ok x.1 y.1 A B a0 (by omega) b0 (by omega)
 rw [a1,b1]
 simp only
 exact ⟨_,e,C,c0,rfl,by rw [a2,b2];exact c2.symm⟩
theorem Ma {a:Int} {x:Bool×Int×Int×Int×Int} (ha:Nm a x) (sa:Sm a):f129 x.1 x.2.1 x.2.2.1 x.2.2.2.1 x.2.2.2.2=some (sat a):=by
 obtain ⟨A,a0,a1,a2⟩:=ha
 unfold Sm at sa
 have la:A≤10000000000000000000000000000000000000000000:=by rcases nm_abs a2 with ⟨e,s⟩ | ⟨e,s⟩ <;> omega
 rw [a1,a2]
 exact heldN_ok x.1 A a0 (by omega)
theorem sm_rhe {a:Int} (h : -1000000000000000000000000000000000000000000≤a∧a≤1000000000000000000000000000000000000000000):Sm (rhe a):=by
 unfold Sm rhe;split <;> omega
theorem halved_nm {a:Int} {x:Bool×Int×Int×Int×Int} (ha:Nm a x) (sa:Sm a):∃ z,f148 x.1 x.2.1 x.2.2.1 x.2.2.2.1 x.2.2.2.2 32=some z∧Nm (rhe a) z:=by
 obtain ⟨A,a0,a1,a2⟩:=ha
 unfold Sm at sa
 have la:A≤10000000000000000000000000000000000000000000:=by rcases nm_abs a2 with ⟨e,s⟩ | ⟨e,s⟩ <;> omega
 rw [a1]
 refine ⟨_,halved_ok x.1 A a0 (by omega),rhe A,(rhe_range A a0 la).1,rfl,?_⟩
 rcases nm_abs a2 with ⟨e,s⟩ | ⟨e,s⟩
 ·rw [e,s];simp [rhe_neg]
 ·rw [e,s];simp
theorem times_nm (a b:Int) (a0 : -9223372036854775808≤a) (a1:a<9223372036854775808) (b0 : -9223372036854775808≤b) (b1:b<9223372036854775808) :
  ∃ z,f149 a b=some z∧Nm (a*b) z:=by
 obtain ⟨s,P,e,p0,p1,p2⟩:=times_ok a b a0 a1 b0 b1
 exact ⟨_,e,P,p0,rfl,p2.symm⟩
theorem rAdd (a b:Int) (a0 : -9223372036854775808≤a) (a1:a<9223372036854775808) (b0 : -9223372036854775808≤b) (b1:b<9223372036854775808):f92 a b=some (sat (a+b)):=by
 unfold f92
 obtain ⟨x,ex,hx⟩:=from_ok a a0 a1
 obtain ⟨y,ey,hy⟩:=from_ok b b0 b1
 rw [ex,ey]
 simp only [A9]
 obtain ⟨z,ez,hz⟩:=plus_nm hx hy (by unfold Sm;omega) (by unfold Sm;omega)
 simp only at ez
 rw [ez]
 simp only [A9]
 rw [Ma hz (by unfold Sm;omega)]
 rfl
theorem rSub (a b:Int) (a0 : -9223372036854775808≤a) (a1:a<9223372036854775808) (b0 : -9223372036854775808≤b) (b1:b<9223372036854775808):f94 a b=some (sat (a-b)):=by
 unfold f94
 obtain ⟨x,ex,hx⟩:=from_ok a a0 a1
 obtain ⟨y,ey,hy⟩:=from_ok b b0 b1
 rw [ex,ey]
 simp only [A9]
 obtain ⟨t,et,ht⟩:=turned_ok hy
 simp only at et
 rw [et]
 simp only [A9]
 obtain ⟨z,ez,hz⟩:=plus_nm hx ht (by unfold Sm;omega) (by unfold Sm;omega)
 simp only at ez
 rw [ez]
 simp only [A9]
 rw [Ma hz (by unfold Sm;omega)]
 rfl
theorem rNeg (a:Int) (a0 : -9223372036854775808≤a) (a1:a<9223372036854775808):f235 a=some (sat (-a)):=by
 unfold f235
 rw [rSub 0 a (by omega) (by omega) a0 a1,Int.zero_sub];rfl
theorem prod_sm {a b:Int} (a0 : -9223372036854775808≤a) (a1:a<9223372036854775808) (b0 : -9223372036854775808≤b) (b1:b<9223372036854775808) :
  -85070591730234615865843651857942052864≤a*b∧a*b≤85070591730234615865843651857942052864:=prodBnd a b a0 a1 b0 b1
theorem rMul (a b:Int) (a0 : -9223372036854775808≤a) (a1:a<9223372036854775808) (b0 : -9223372036854775808≤b) (b1:b<9223372036854775808):f93 a b=some (sat (rhe (a*b))):=by
 unfold f93
 obtain ⟨p0,p1⟩:=prod_sm a0 a1 b0 b1
 obtain ⟨x,ex,hx⟩:=times_nm a b a0 a1 b0 b1
 rw [ex]
 simp only [A9]
 obtain ⟨y,ey,hy⟩:=halved_nm hx (by unfold Sm;omega)
 rw [ey]
 simp only [A9]
 rw [Ma hy (sm_rhe (by omega))]
 rfl
theorem word_or (C i q:Nat):Gt q (C||| 2 ^ i)=if q=i/64 then Gt q C||| 2 ^ (i%64) else Gt q C:=by
 apply Nat.eq_of_testBit_eq
 intro j
 by_cases h:q=i/64
 ·rw [if_pos h,Nat.testBit_or,Ko,Ko,Nat.testBit_or,Nat.testBit_two_pow,Nat.testBit_two_pow]
  by_cases h64:j<64
  ·have e:decide (i=j+64*q)=decide (i%64=j):=by rw [decide_eq_decide];omega
   rw [e];simp [h64]
  ·have:¬i%64=j:=by omega
   simp [h64,this]
 ·rw [if_neg h,Ko,Ko,Nat.testBit_or,Nat.testBit_two_pow]
  by_cases h64:j<64
  ·have:¬i=j+64*q:=by omega
   simp [h64,this]
  ·simp [h64]
theorem pick_or {Y:Type} (C i:Nat) (hi:i<256) (k:Int→Int→Int→Int→Option Y) :
    (Ey (0≤(IntKind.i64.wrap (Int.tdiv (i:Int) (64:Int)))∧(IntKind.i64.wrap (Int.tdiv (i:Int) (64:Int)))<(4:Int))<|
      pickF (IntKind.i64.wrap (Int.tdiv (i:Int) (64:Int)))
        [(Ey (0≤(IntKind.u64.wrap (Int.tmod (i:Int) (64:Int))))<|k (Fv IntKind.u64 (fun p q=>p||| q) (Gt 0 C:Int) (IntKind.u64.wrap ((1:Int)*2 ^ min (Int.toNat (IntKind.u64.wrap (Int.tmod (i:Int) (64:Int)))) (IntKind.bits IntKind.u64)))) (Gt 1 C) (Gt 2 C) (Gt 3 C)),
         (Ey (0≤(IntKind.u64.wrap (Int.tmod (i:Int) (64:Int))))<|k (Gt 0 C) (Fv IntKind.u64 (fun p q=>p||| q) (Gt 1 C:Int) (IntKind.u64.wrap ((1:Int)*2 ^ min (Int.toNat (IntKind.u64.wrap (Int.tmod (i:Int) (64:Int)))) (IntKind.bits IntKind.u64)))) (Gt 2 C) (Gt 3 C)),
         (Ey (0≤(IntKind.u64.wrap (Int.tmod (i:Int) (64:Int))))<|k (Gt 0 C) (Gt 1 C) (Fv IntKind.u64 (fun p q=>p||| q) (Gt 2 C:Int) (IntKind.u64.wrap ((1:Int)*2 ^ min (Int.toNat (IntKind.u64.wrap (Int.tmod (i:Int) (64:Int)))) (IntKind.bits IntKind.u64)))) (Gt 3 C)),
         (Ey (0≤(IntKind.u64.wrap (Int.tmod (i:Int) (64:Int))))<|k (Gt 0 C) (Gt 1 C) (Gt 2 C) (Fv IntKind.u64 (fun p q=>p||| q) (Gt 3 C:Int) (IntKind.u64.wrap ((1:Int)*2 ^ min (Int.toNat (IntKind.u64.wrap (Int.tmod (i:Int) (64:Int)))) (IntKind.bits IntKind.u64)))))]) =
    k (Gt 0 (C||| 2 ^ i)) (Gt 1 (C||| 2 ^ i)) (Gt 2 (C||| 2 ^ i)) (Gt 3 (C||| 2 ^ i)):=by
  obtain ⟨t1,t2,t3⟩:=idx i hi
  rw [t1,t2,t3,Bh,Bh,Bh,Bh,Bh]
  rw [or_word 0 _ _ (by omega),or_word 1 _ _ (by omega),or_word 2 _ _ (by omega),or_word 3 _ _ (by omega)]
  rw [word_or,word_or,word_or,word_or]
  have h:i/64=0∨i/64=1∨i/64=2∨i/64=3:=by omega
  rcases h with h | h | h | h <;> rw [h] <;> rfl
def top (D j:Nat):Nat:=D/2 ^ j*2 ^ j
theorem div_step (D i:Nat):D/2 ^ i=2*(D/2 ^ (i+1))+(if D.testBit i=true then 1 else 0):=by
 rw [Nat.testBit_eq_decide_div_mod_eq,Nat.pow_succ,← Nat.div_div_eq_div_mul]
 generalize D/2 ^ i=x
 by_cases h:x%2=1
 ·simp [h];omega
 ·simp [h];omega
theorem or_add (a i:Nat):a*2 ^ (i+1)||| 2 ^ i=a*2 ^ (i+1)+2 ^ i:=by
 have:=Nat.two_pow_add_eq_or_of_lt (i:=i+1) (b:=2 ^ i) (Nat.pow_lt_pow_right (by decide) (by omega)) a
 rw [Nat.mul_comm a,this]
theorem top_step (D i:Nat):top D i=if D.testBit i=true then top D (i+1)||| 2 ^ i else top D (i+1):=by
 unfold top
 rw [div_step D i]
 split
 ·rw [or_add,Nat.pow_succ,Nat.add_mul,Nat.one_mul,Nat.mul_comm 2,Nat.mul_assoc,Nat.mul_comm (2 ^ i) 2]
 ·rw [Nat.add_zero,Nat.pow_succ,Nat.mul_comm 2,Nat.mul_assoc,Nat.mul_comm (2 ^ i) 2]
theorem words_zero:(((0:Int)),(0:Int),(0:Int),(0:Int))=((Gt 0 0:Int),(Gt 1 0:Int),(Gt 2 0:Int),(Gt 3 0:Int)):=by
 have:∀ q,Gt q 0=0:=fun q=>by unfold Gt;rw [Nat.zero_div]
 rw [this,this,this,this];rfl
theorem shift_loop (N:Nat) (hN:N<2 ^ 224) :
  Fp (fun go (x:Int×Int×Int×Int×Int)=>f242_l1 (W0 N) (W1 N) (W2 N) (W3 N) 32 go x.1 x.2.1 x.2.2.1 x.2.2.2.1 x.2.2.2.2) Fq ((255:Int),(0:Int),(0:Int),(0:Int),(0:Int)) =
   some ((Gt 0 (N*2 ^ 32):Int),(Gt 1 (N*2 ^ 32):Int),(Gt 2 (N*2 ^ 32):Int),(Gt 3 (N*2 ^ 32):Int)):=by
 have hD:N*2 ^ 32<2 ^ 256:=by
  have:(2:Nat) ^ 256=2 ^ 224*2 ^ 32:=by decide
  rw [this];exact Nat.mul_lt_mul_of_pos_right hN (by decide)
 have hb:∀ i,32≤i→(N*2 ^ 32).testBit i=N.testBit (i-32):=fun i hi=>by
  rw [Nat.testBit_mul_two_pow];simp [hi]
 have h256:top (N*2 ^ 32) 256=0:=by unfold top;rw [Nat.div_eq_of_lt hD,Nat.zero_mul]
 have h32:top (N*2 ^ 32) 32=N*2 ^ 32:=by unfold top;rw [Nat.mul_div_cancel _ (by decide)]
 generalize hDD:N*2 ^ 32=D at *
 have:=Fx (B:=fun go (x:Int×Int×Int×Int×Int)=>f242_l1 (W0 N) (W1 N) (W2 N) (W3 N) 32 go x.1 x.2.1 x.2.2.1 x.2.2.2.1 x.2.2.2.2)
  (fun k=>((255:Int)-(k:Int),(Gt 0 (top D (256-k)):Int),(Gt 1 (top D (256-k)):Int),(Gt 2 (top D (256-k)):Int),(Gt 3 (top D (256-k)):Int))) 224
  ((Gt 0 D:Int),(Gt 1 D:Int),(Gt 2 D:Int),(Gt 3 D:Int)) ?_ ?_ (by decide)
 ·simp only [Nat.sub_zero,h256] at this
  rw [← words_zero] at this
  exact this
 ·intro k hk go
  obtain ⟨i,hi⟩:∃ i,i=255-k:=⟨_,rfl⟩
  unfold f242_l1
  simp only
  rw [show (255:Int)-(k:Int)=(i:Int) by omega,show 256-k=i+1 by omega,show 256-(k+1)=i by omega,dT (show (i:Int)≥32 by omega)]
  simp only [cond_true]
  rw [show IntKind.i64.wrap ((i:Int)-32)=((i-32:Nat):Int) by rw [E9];omega,bit_ok N (i-32) (by omega)]
  simp only [A9]
  rw [← hb i (by omega),show IntKind.i64.wrap ((i:Int)-1)=(255:Int)-((k+1:Nat):Int) by rw [E9];omega]
  rw [top_step D i]
  by_cases ht:D.testBit i=true
  ·rw [if_pos ht,if_pos ht,bT rfl]
   simp only [cond_true]
   exact pick_or (top D (i+1)) i (by omega) (fun a b c d=>go (_,a,b,c,d))
  ·rw [if_neg ht,if_neg ht,bF (by decide)]
   rfl
 ·intro go
  unfold f242_l1
  simp only
  rw [dF (by decide)]
  rw [show 256-224=32 from rfl,h32]
  rfl
theorem shifted_nm {a : Int} {x : Bool × Int × Int × Int × Int} (ha : Nm a x) (sa : -100000000000000000000 ≤ a ∧ a ≤ 100000000000000000000) : ∃ z, f242 x.1 x.2.1 x.2.2.1 x.2.2.2.1 x.2.2.2.2 32 = some z ∧ Nm (a * 4294967296) z := by
  obtain ⟨A, a0, a1, a2⟩ := ha
  have la : A ≤ 100000000000000000000 := by rcases nm_abs a2 with ⟨e, s⟩ | ⟨e, s⟩ <;> omega
  obtain ⟨N, rfl⟩ := Int.eq_ofNat_of_zero_le a0
  rw [a1]
  unfold f242
  simp only
  rw [shift_loop N (by have : (2 : Nat) ^ 224 = 26959946667150639794667015087019630673637144422540572481103610249216 := by decide
                       omega)]
  simp only [A9]
  obtain ⟨e0, e1, e2, e3⟩ := W_word (N * 2 ^ 32)
  rw [← e0, ← e1, ← e2, ← e3]
  refine ⟨_, rfl, ((N * 2 ^ 32 : Nat) : Int), by omega, rfl, ?_⟩
  have hc : ((N * 2 ^ 32 : Nat) : Int) = (N : Int) * 4294967296 := by
    rw [show (2 : Nat) ^ 32 = 4294967296 from rfl]; omega
  rw [hc]
  rcases nm_abs a2 with ⟨e, s⟩ | ⟨e, s⟩ <;> rw [e, s] <;> simp [Int.neg_mul]
theorem long_step (N i d:Nat) (hd:0<d):∃ b,b=(if N.testBit i=true then 1 else 0)∧
  (N/2 ^ i)%d=(if 2*(N/2 ^ (i+1)%d)+b≥d then 2*(N/2 ^ (i+1)%d)+b-d else 2*(N/2 ^ (i+1)%d)+b)∧
  (N/2 ^ i)/d*2 ^ i=(if 2*(N/2 ^ (i+1)%d)+b≥d then (N/2 ^ (i+1)/d*2 ^ (i+1))||| 2 ^ i else N/2 ^ (i+1)/d*2 ^ (i+1)):=by
 refine ⟨_,rfl,?_⟩
 rw [div_step N i]
 generalize hb:(if N.testBit i=true then 1 else 0)=b
 have b1:b≤1:=by rw [← hb];split <;> omega
 generalize N/2 ^ (i+1)=M
 have hM:d*(M/d)+M%d=M:=Nat.div_add_mod M d
 have hr:M%d<d:=Nat.mod_lt _ hd
 generalize M%d=r at *
 generalize M/d=q at *
 have hq:2*M+b=d*(2*q)+(2*r+b):=by
  rw [← hM]
  have:d*(2*q)=2*(d*q):=by rw [Nat.mul_left_comm]
  omega
 rw [hq,Nat.mul_add_mod,Nat.mul_add_div hd]
 by_cases h:2*r+b≥d
 ·rw [if_pos h,if_pos h]
  have e:2*r+b=d+(2*r+b-d):=by omega
  have l:2*r+b-d<d:=by omega
  refine ⟨?_,?_⟩
  ·rw [e,Nat.add_mod_left,Nat.mod_eq_of_lt l];omega
  ·have:(2*r+b)/d=1:=by rw [e,Nat.add_div_left _ hd,Nat.div_eq_of_lt l]
   rw [this,or_add,Nat.pow_succ,Nat.add_mul,Nat.one_mul,Nat.mul_comm 2 q,Nat.mul_assoc,Nat.mul_comm 2 (2 ^ i)]
 ·rw [if_neg h,if_neg h]
  refine ⟨Nat.mod_eq_of_lt (by omega),?_⟩
  rw [Nat.div_eq_of_lt (by omega),Nat.add_zero,Nat.pow_succ,Nat.mul_comm 2 q,Nat.mul_assoc,Nat.mul_comm 2 (2 ^ i)]
theorem or_one (x b:Int) (h0:0≤x) (h1:x<9223372036854775808) (hb:b=0∨b=1):Fv IntKind.u64 (fun p q=>p||| q) (x*2) b=x*2+b:=by
 rw [or_nat _ _ (by omega) (by omega) (by omega) (by omega)]
 have:=Nat.two_pow_add_eq_or_of_lt (i:=1) (b:=b.toNat) (by omega) x.toNat
 rw [show (x*2).toNat=2 ^ 1*x.toNat by omega,← this]
 omega
theorem divide_loop (N d:Nat) (hN:N<2 ^ 256) (hd:0<d) (hd2:d≤9223372036854775808) :
  Fp (fun go (x:Int×Int×Int×Int×Int×Int)=>f130_l3 (W0 N) (W1 N) (W2 N) (W3 N) d go x.1 x.2.1 x.2.2.1 x.2.2.2.1 x.2.2.2.2.1 x.2.2.2.2.2) Fq ((0:Int),(255:Int),(0:Int),(0:Int),(0:Int),(0:Int)) =
   some (((N%d:Nat):Int),(Gt 0 (N/d):Int),(Gt 1 (N/d):Int),(Gt 2 (N/d):Int),(Gt 3 (N/d):Int)):=by
 have:=Fx (B:=fun go (x:Int×Int×Int×Int×Int×Int)=>f130_l3 (W0 N) (W1 N) (W2 N) (W3 N) d go x.1 x.2.1 x.2.2.1 x.2.2.2.1 x.2.2.2.2.1 x.2.2.2.2.2)
  (fun k=>(((N/2 ^ (256-k)%d:Nat):Int),(255:Int)-(k:Int),(Gt 0 (N/2 ^ (256-k)/d*2 ^ (256-k)):Int),(Gt 1 (N/2 ^ (256-k)/d*2 ^ (256-k)):Int),(Gt 2 (N/2 ^ (256-k)/d*2 ^ (256-k)):Int),(Gt 3 (N/2 ^ (256-k)/d*2 ^ (256-k)):Int))) 256
  (((N%d:Nat):Int),(Gt 0 (N/d):Int),(Gt 1 (N/d):Int),(Gt 2 (N/d):Int),(Gt 3 (N/d):Int)) ?_ ?_ (by decide)
 ·simp only [Nat.sub_zero,Nat.div_eq_of_lt hN,Nat.zero_mod,Nat.zero_div,Nat.zero_mul] at this
  rw [← words_zero] at this
  exact this
 ·intro k hk go
  obtain ⟨i,hi⟩:∃ i,i=255-k:=⟨_,rfl⟩
  unfold f130_l3
  simp only
  rw [show (255:Int)-(k:Int)=(i:Int) by omega,show 256-k=i+1 by omega,show 256-(k+1)=i by omega,dT (show (i:Int)≥0 by omega)]
  simp only [cond_true]
  rw [bit_ok N i (by omega)]
  simp only [A9]
  obtain ⟨b,hb,e1,e2⟩:=long_step N i d hd
  rw [e1,e2]
  have hr:N/2 ^ (i+1)%d<d:=Nat.mod_lt _ hd
  generalize N/2 ^ (i+1)%d=r at *
  generalize N/2 ^ (i+1)/d*2 ^ (i+1)=Q at *
  have hbb:(if N.testBit i=true then (1:Int) else 0)=(b:Int):=by rw [hb];split <;> rfl
  rw [hbb]
  have b1:b=0∨b=1:=by rw [hb];split <;> omega
  have hsh:IntKind.u64.wrap ((r:Int)*2 ^ min (Int.toNat (1:Int)) (IntKind.bits IntKind.u64))=(r:Int)*2:=by
   rw [show ((2:Int) ^ min (Int.toNat (1:Int)) (IntKind.bits IntKind.u64))=2 from rfl,wu];omega
  have hor:=or_one (r:Int) (b:Int) (by omega) (by omega) (by omega)
  have hj:f130_j4 (d:Int) (r:Int) (b:Int)=some (decide ((r:Int)*2+b≥d)):=by
   unfold f130_j4
   rw [show Int.fdiv (r:Int) (2 ^ min (Int.toNat (63:Int)) (IntKind.bits IntKind.u64))=(r:Int)/9223372036854775808 by
    rw [show ((2:Int) ^ min (Int.toNat (63:Int)) (IntKind.bits IntKind.u64))=9223372036854775808 from rfl];exact Int.fdiv_eq_ediv_of_nonneg _ (by decide)]
   rw [bF (by omega),hsh,hor]
   rfl
  rw [hj]
  simp only [A9]
  rw [hsh,hor,show IntKind.i64.wrap ((i:Int)-1)=(255:Int)-((k+1:Nat):Int) by rw [E9];omega]
  by_cases h:2*r+b≥d
  ·rw [dT,if_pos h,if_pos h]
   simp only [cond_true]
   have hw:IntKind.u64.wrap ((r:Int)*2+(b:Int)-(d:Int))=((2*r+b-d:Nat):Int):=by rw [wu];omega
   rw [hw]
   exact pick_or Q i (by omega) (fun x y c e=>go (_,_,x,y,c,e))
  ·rw [dF,if_neg h,if_neg h]
   simp only [cond_false]
   rw [show (r:Int)*2+(b:Int)=((2*r+b:Nat):Int) by omega]
 ·intro go
  unfold f130_l3
  simp only
  rw [dF (by decide)]
  simp only [cond_false,Nat.sub_self,Nat.pow_zero,Nat.div_one,Nat.mul_one]
def rdn (N d:Int):Int:=N/d+if 2*(N%d)>d∨(2*(N%d)=d∧N/d%2=1) then 1 else 0
def rdI (a n:Int):Int:=if (a<0)=(n<0) then rdn a.natAbs n.natAbs else -rdn a.natAbs n.natAbs
theorem rdn_nonneg {N d:Int} (h0:0≤N) (hd:0<d):0≤rdn N d:=by
 unfold rdn
 have:=Int.ediv_nonneg h0 (show 0≤d by omega)
 split <;> omega
theorem rdn_le {N d:Int} (h0:0≤N) (hd:0<d):rdn N d≤N+1:=by
 unfold rdn
 have h:=Int.ediv_le_self d h0
 split <;> omega
theorem rdn_zero {d:Int} (hd:0<d):rdn 0 d=0:=by
 unfold rdn
 rw [Int.zero_ediv,Int.zero_emod,iNo];rfl
theorem divided_nm {a:Int} {x:Bool×Int×Int×Int×Int} (ha:Nm a x) (sa : -1000000000000000000000000000000000000000000≤a∧a≤1000000000000000000000000000000000000000000) (n:Int) (n0 : -9223372036854775808≤n) (n1:n<9223372036854775808) (hn:n≠0) :
  ∃ z,f130 x.1 x.2.1 x.2.2.1 x.2.2.2.1 x.2.2.2.2 n=some z∧Nm (rdI a n) z∧Sm (rdI a n):=by
 obtain ⟨A,a0,a1,a2⟩:=ha
 have la:A≤1000000000000000000000000000000000000000000:=by rcases nm_abs a2 with ⟨e,s⟩ | ⟨e,s⟩ <;> omega
 have hA:(a.natAbs:Int)=A:=by rcases nm_abs a2 with ⟨e,s⟩ | ⟨e,s⟩ <;> omega
 obtain ⟨N,rfl⟩:=Int.eq_ofNat_of_zero_le a0
 have hN:N<2 ^ 256:=by
  have:(2:Nat) ^ 256=115792089237316195423570985008687907853269984665640564039457584007913129639936:=by decide
  omega
 rw [a1]
 unfold f130
 simp only
 rw [refSize_ok n n0 n1]
 have hdd:(if n<0 then -n else n)=((n.natAbs:Nat):Int):=by split <;> omega
 rw [hdd]
 have hd0:0<n.natAbs:=by omega
 have hd1:n.natAbs≤9223372036854775808:=by omega
 have hrI:rdI a n=if (a<0)=(n<0) then rdn (N:Int) (n.natAbs:Int) else -rdn (N:Int) (n.natAbs:Int):=by unfold rdI;rw [hA]
 generalize n.natAbs=d at *
 simp only [A9]
 rw [divide_loop N d hN hd0 hd1]
 simp only [A9]
 have hr:N%d<d:=Nat.mod_lt _ hd0
 have hw0:(Gt 0 (N/d):Int)=((N/d:Nat):Int)%18446744073709551616:=by rw [← (W_word (N/d)).1];rfl
 have hj:f130_j5 (d:Int) (((N%d:Nat):Int),(Gt 0 (N/d):Int),(Gt 1 (N/d):Int),(Gt 2 (N/d):Int),(Gt 3 (N/d):Int)) =
   some (decide (2*((N:Int)%d)>d∨(2*((N:Int)%d)=d∧(N:Int)/d%2=1))):=by
  have e1:((N%d:Nat):Int)=(N:Int)%d:=by simp
  have e2:((N/d:Nat):Int)=(N:Int)/d:=by simp
  rw [e2] at hw0
  have hlt:(N:Int)%d<d:=by rw [← e1];omega
  have hge:0≤(N:Int)%d:=by rw [← e1];omega
  unfold f130_j5
  simp only
  rw [e1]
  generalize (N:Int)%d=r at *
  rw [show IntKind.u64.wrap ((d:Int)-r)=d-r by rw [wu];omega]
  by_cases h1:r>d-r
  ·rw [dT h1,dT];rfl
  ·rw [dF h1]
   simp only [cond_false]
   by_cases h2:r=d-r
   ·rw [bT h2]
    simp only [cond_true]
    rw [hw0,and1 _ (by omega) (by omega),Option.some.injEq,Bool.eq_iff_iff,beq_iff_eq,decide_eq_true_iff]
    omega
   ·rw [bF h2,dF];rfl
 rw [hj]
 simp only [A9]
 obtain ⟨e0,e1,e2,e3⟩:=W_word (N/d)
 rw [← e0,← e1,← e2,← e3]
 have ed:((N/d:Nat):Int)=(N:Int)/d:=by simp
 rw [ed]
 have hnn:=rdn_nonneg (N:=(N:Int)) (d:=d) (by omega) (by omega)
 have hle:=rdn_le (N:=(N:Int)) (d:=d) (by omega) (by omega)
 have hz:a=0→rdn (N:Int) d=0:=fun h=>by rw [show (N:Int)=0 by omega];exact rdn_zero (by omega)
 have sgn:∀ (R:Int),R=rdn (N:Int) d→Nm (rdI a n) (!(x.1==decide (n<0)),W0 R,W1 R,W2 R,W3 R):=fun R hR=>by
  refine ⟨R,by omega,rfl,?_⟩
  rw [hrI,← hR]
  simp only
  rcases nm_abs a2 with ⟨e,s⟩ | ⟨e,s⟩
  ·rw [s]
   by_cases h0:a=0
   ·have:=hz h0
    rw [← hR] at this
    rw [this];simp
   ·have:a<0:=by omega
    by_cases hn0:n<0 <;> simp [this,hn0]
  ·rw [s]
   have:¬a<0:=by omega
   by_cases hn0:n<0 <;> simp [this,hn0]
 have sm:Sm (rdI a n):=by
  unfold Sm;rw [hrI];split <;> omega
 by_cases h:2*((N:Int)%d)>d∨(2*((N:Int)%d)=d∧(N:Int)/d%2=1)
 ·rw [dT h]
  simp only [cond_true]
  obtain ⟨o0,o1,o2,o3⟩:=small 1 (by decide) (by decide)
  have hp:=Dots.plusN_ok ((N:Int)/d) 1
  rw [o0,o1,o2,o3] at hp
  rw [hp]
  exact ⟨_,rfl,sgn _ (by unfold rdn;rw [if_pos h]),sm⟩
 ·rw [dF h]
  simp only [cond_false]
  exact ⟨_,rfl,sgn _ (by unfold rdn;rw [if_neg h,Int.add_zero]),sm⟩
theorem rDiv (a b:Int) (a0 : -9223372036854775808≤a) (a1:a<9223372036854775808) (b0 : -9223372036854775808≤b) (b1:b<9223372036854775808) (hb:b≠0) :
  f233 a b=some (sat (rdI (a*4294967296) b)):=by
 unfold f233
 rw [bF hb]
 simp only [cond_false]
 obtain ⟨x,ex,hx⟩:=from_ok a a0 a1
 rw [ex]
 simp only [A9]
 obtain ⟨y,ey,hy⟩:=shifted_nm hx (by omega)
 simp only at ey
 rw [ey]
 simp only [A9]
 obtain ⟨z,ez,hz,hs⟩:=divided_nm hy (by omega) b b0 b1 hb
 rw [ez]
 simp only [A9]
 rw [Ma hz hs]
 rfl
theorem rOf8:f234 8=some 34359738368:=by kernel_rfl
theorem rOf2:f234 2=some 8589934592:=by kernel_rfl
end Go.Proofs.Num
namespace Go.Proofs.Div
open Go.AM Go.Proofs.PlW
theorem sh16u (x:Int):Int.fdiv x (2 ^ min (Int.toNat (16:Int)) (IntKind.bits IntKind.u64))=x/65536:=by
 rw [show ((2:Int) ^ min (Int.toNat (16:Int)) (IntKind.bits IntKind.u64))=65536 from rfl]
 exact Int.fdiv_eq_ediv_of_nonneg _ (by decide)
theorem sh8u (x:Int):Int.fdiv x (2 ^ min (Int.toNat (8:Int)) (IntKind.bits IntKind.u64))=x/256:=by
 rw [show ((2:Int) ^ min (Int.toNat (8:Int)) (IntKind.bits IntKind.u64))=256 from rfl]
 exact Int.fdiv_eq_ediv_of_nonneg _ (by decide)
def Near (x n y:Nat):Prop:=x*2 ^ n≤y∧y<(x+1)*2 ^ n
theorem near_shift {x n y:Nat} (h:Near x n y) (k:Nat):Near (x/2 ^ k) (n+k) y:=by
 obtain ⟨h0,h1⟩:=h
 have p:0<2 ^ k:=Nat.pow_pos (by decide)
 have q:0<2 ^ n:=Nat.pow_pos (by decide)
 constructor
 ·rw [Nat.pow_add,Nat.mul_comm (2 ^ n),← Nat.mul_assoc]
  exact Nat.le_trans (Nat.mul_le_mul_right _ (Nat.div_mul_le_self x (2 ^ k))) h0
 ·rw [Nat.pow_add,Nat.mul_comm (2 ^ n),← Nat.mul_assoc]
  have:x+1≤(x/2 ^ k+1)*2 ^ k:=by
   have:=Nat.lt_mul_of_div_lt (Nat.lt_succ_self (x/2 ^ k)) p
   exact this
  exact Nat.lt_of_lt_of_le h1 (Nat.mul_le_mul_right _ this)
def tabOk (x:Nat):Bool:=match (bt f236_s1 (x:Int)) with
 | .ofNat t=>decide (1≤t)&&decide (t≤8)&&decide (2 ^ (t-1)≤x)&&decide (x+1≤2 ^ t)
 | .negSucc _=>false
theorem tab_all:(List.range 256).all (fun x=>x==0||tabOk x)=true:=by kernel_rfl
theorem tab_ok (x:Nat) (h0:0<x) (h1:x<256):∃ t:Nat,bt f236_s1 (x:Int)=(t:Int)∧1≤t∧t≤8∧2 ^ (t-1)≤x∧x+1≤2 ^ t:=by
 have:=List.all_eq_true.1 tab_all x (List.mem_range.2 h1)
 rw [show (x==0)=false by simp;omega,Bool.false_or] at this
 unfold tabOk at this
 split at this
 ·next t ht=>
  simp only [Bool.and_eq_true,decide_eq_true_eq] at this
  exact ⟨t,ht,this.1.1.1,this.1.1.2,this.1.2,this.2⟩
 ·exact absurd this (by decide)
theorem clz_ok (y:Nat) (h0:0<y) (h1:y<18446744073709551616):∃ s:Nat,s≤63∧f216 (y:Int)=some (s:Int)∧9223372036854775808≤y*2 ^ s∧y*2 ^ s<18446744073709551616:=by
 have n0:Near y 0 y:=by unfold Near;omega
 have j1:∃ x n:Nat,f236_j1 (y:Int)=some ((x:Int),(n:Int))∧0<x∧x<4294967296∧n≤32∧Near x n y:=by
  unfold f236_j1
  rw [sh32u]
  by_cases c:y≥4294967296
  ·rw [dT]
   exact ⟨y/2 ^ 32,32,by simp only [cond_true];rw [show (2:Nat) ^ 32=4294967296 from rfl];congr 2,by omega,by omega,by decide,by have:=near_shift n0 32;simpa using this⟩
  ·rw [dF]
   exact ⟨y,0,rfl,h0,by omega,by decide,n0⟩
 obtain ⟨x1,n1,e1,x1p,x1l,n1l,N1⟩:=j1
 have j2:∃ x n:Nat,f236_j2 ((x1:Int),(n1:Int))=some ((x:Int),(n:Int))∧0<x∧x<65536∧n≤48∧Near x n y:=by
  unfold f236_j2
  rw [sh16u]
  by_cases c:x1≥65536
  ·rw [dT (by simp only;omega)]
   refine ⟨x1/2 ^ 16,n1+16,?_,by omega,by omega,by omega,near_shift N1 16⟩
   simp only [cond_true];rw [E9,show (2:Nat) ^ 16=65536 from rfl];congr 2
  ·rw [dF (by simp only;omega)]
   exact ⟨x1,n1,rfl,x1p,by omega,by omega,N1⟩
 obtain ⟨x2,n2,e2,x2p,x2l,n2l,N2⟩:=j2
 have j3:∃ x n:Nat,f236_j3 ((x2:Int),(n2:Int))=some ((x:Int),(n:Int))∧0<x∧x<256∧n≤56∧Near x n y:=by
  unfold f236_j3
  rw [sh8u]
  by_cases c:x2≥256
  ·rw [dT (by simp only;omega)]
   refine ⟨x2/2 ^ 8,n2+8,?_,by omega,by omega,by omega,near_shift N2 8⟩
   simp only [cond_true];rw [E9,show (2:Nat) ^ 8=256 from rfl];congr 2
  ·rw [dF (by simp only;omega)]
   exact ⟨x2,n2,rfl,x2p,by omega,by omega,N2⟩
 obtain ⟨x3,n3,e3,x3p,x3l,n3l,N3⟩:=j3
 obtain ⟨t,et,t0,t1,p0,p1⟩:=tab_ok x3 x3p x3l
 have hw8:IntKind.u8.wrap (x3:Int)=(x3:Int):=by
  simp [IntKind.wrap,IntKind.signed,IntKind.bits];omega
 unfold f216 f236
 rw [e1]
 simp only [A9]
 rw [e2]
 simp only [A9]
 rw [e3]
 simp only [A9]
 rw [hw8,Bh (by rw [show (ByteArray.size f236_s1)=256 by kernel_rfl];omega),et]
 simp only [A9]
 rw [E9 (n:=(t:Int)) (by omega) (by omega),E9 (n:=(n3:Int)+(t:Int)) (by omega) (by omega),E9]
 have hL:n3+t≤64:=by
  have hlow:2 ^ (t-1)*2 ^ n3≤y:=Nat.le_trans (Nat.mul_le_mul_right _ p0) N3.1
  rw [← Nat.pow_add] at hlow
  have:2 ^ (t-1+n3)<2 ^ 64:=by
   rw [show (2:Nat) ^ 64=18446744073709551616 from rfl];omega
  have:=(Nat.pow_lt_pow_iff_right (by decide:1<2)).1 this
  omega
 refine ⟨64-(n3+t),by omega,by congr 1;omega,?_,?_⟩
 ·have hlow:2 ^ (t-1)*2 ^ n3≤y:=Nat.le_trans (Nat.mul_le_mul_right _ p0) N3.1
  have:=Nat.mul_le_mul_right (2 ^ (64-(n3+t))) hlow
  rw [← Nat.pow_add,← Nat.pow_add,show t-1+n3+(64-(n3+t))=63 by omega] at this
  exact this
 ·have hhi:y<2 ^ t*2 ^ n3:=Nat.lt_of_lt_of_le N3.2 (Nat.mul_le_mul_right _ p1)
  have:=(Nat.mul_lt_mul_right (Nat.pow_pos (by decide:0<2) (n:=64-(n3+t)))).2 hhi
  rw [← Nat.pow_add,← Nat.pow_add,show t+n3+(64-(n3+t))=64 by omega] at this
  exact this
structure Dig (Y a b u d q r:Int):Prop where
 eq:q*a+r=u
 r0:0≤r
 r1:r<4294967296
 q0:0≤q
 q1:q≤4294967297
 ge:(u*4294967296+d)/Y≤q
theorem dig_stop {Y a b u d q r:Int} (hY:Y=a*4294967296+b) (h0:0<Y) (D:Dig Y a b u d q r) (hc:q*b≤4294967296*r+d):q=(u*4294967296+d)/Y:=by
 have e:q*Y=q*a*4294967296+q*b:=by rw [hY,Int.mul_add,Int.mul_assoc]
 have h:=D.eq
 have:q≤(u*4294967296+d)/Y:=Int.le_ediv_of_mul_le h0 (by rw [e];omega)
 have:=D.ge
 omega
theorem dig_dec {Y a b u d q r:Int} (hY:Y=a*4294967296+b) (h0:0<Y) (hu:u<Y) (hd:d<4294967296) (D:Dig Y a b u d q r) (hc:q≥4294967296∨q*b>4294967296*r+d):(u*4294967296+d)/Y≤q-1:=by
 have e:q*Y=q*a*4294967296+q*b:=by rw [hY,Int.mul_add,Int.mul_assoc]
 have h:=D.eq
 have:(u*4294967296+d)/Y<q:=by
  rcases hc with c | c
  ·have:(u*4294967296+d)/Y<4294967296:=Int.ediv_lt_of_lt_mul h0 (by omega)
   omega
  ·exact Int.ediv_lt_of_lt_mul h0 (by rw [e];omega)
 omega
theorem dig_brk {Y a b u d q r:Int} (hY:Y=a*4294967296+b) (h0:0<Y) (b0:0≤b) (b1:b<4294967296) (hd:0≤d) (D:Dig Y a b u d q r) (hg:(u*4294967296+d)/Y≤q-1) (hr:r+a≥4294967296):q-1=(u*4294967296+d)/Y:=by
 have h:=D.eq
 have hq:=D.q1
 have e:(q-1)*Y=(q-1)*a*4294967296+(q-1)*b:=by rw [hY,Int.mul_add,Int.mul_assoc]
 have e2:(q-1)*a=q*a-a:=by rw [Int.sub_mul,Int.one_mul]
 by_cases hq0:q-1<0
 ·have:0≤q-1∨q=0:=by have:=D.q0;omega
  rcases this with h | h
  ·omega
  ·exfalso
   subst h
   have hge:0≤(u*4294967296+d)/Y:=Int.ediv_nonneg (by have:=D.r0;omega) (by omega)
   omega
 ·have hb:(q-1)*b≤4294967296*4294967295:=Int.mul_le_mul (by omega) (by omega) b0 (by decide)
  have:q-1≤(u*4294967296+d)/Y:=Int.le_ediv_of_mul_le h0 (by rw [e,e2];omega)
  omega
theorem dig_init {Y a b u d:Int} (hY:Y=a*4294967296+b) (a0:2147483648≤a) (a1:a<4294967296) (b0:0≤b) (b1:b<4294967296) (u0:0≤u) (hu:u<Y) (hd:d<4294967296):Dig Y a b u d (u/a) (u%a):=by
 have e:=Int.mul_ediv_add_emod u a
 have m0:=Int.emod_nonneg u (show a≠0 by omega)
 have m1:=Int.emod_lt_of_pos u (show 0<a by omega)
 have q0:0≤u/a:=Int.ediv_nonneg u0 (by omega)
 have q1:u/a<4294967298:=Int.ediv_lt_of_lt_mul (by omega) (by omega)
 refine ⟨by rw [Int.mul_comm];exact e,m0,by omega,q0,by omega,?_⟩
 have:(u*4294967296+d)/Y<u/a+1:=by
  refine Int.ediv_lt_of_lt_mul (by omega) ?_
  have h1:u<a*(u/a+1):=by rw [Int.mul_add,Int.mul_one];omega
  have h2:(u/a+1)*Y=a*(u/a+1)*4294967296+(u/a+1)*b:=by rw [hY,Int.mul_add,Int.mul_comm a (u/a+1),Int.mul_assoc]
  have h3:0≤(u/a+1)*b:=Int.mul_nonneg (by omega) b0
  rw [h2];omega
 omega
theorem dig_next {Y a b u d q r:Int} (a0:0≤a) (D:Dig Y a b u d q r) (hg:(u*4294967296+d)/Y≤q-1) (hr:r+a<4294967296) (h0:0≤(u*4294967296+d)/Y):Dig Y a b u d (q-1) (r+a):=by
 have h:=D.eq
 have e2:(q-1)*a=q*a-a:=by rw [Int.sub_mul,Int.one_mul]
 exact ⟨by omega,by have:=D.r0;omega,hr,by omega,by have:=D.q1;omega,hg⟩
theorem loop3 (lo y s:Int) (Y a b u d:Int) (eY:IntKind.u64.wrap (y*2 ^ min (Int.toNat (IntKind.u64.wrap s)) (IntKind.bits IntKind.u64))=Y)
  (ed:IntKind.u64.wrap (lo*2 ^ min (Int.toNat (IntKind.u64.wrap s)) (IntKind.bits IntKind.u64))/4294967296=d)
  (ha:a=Y/4294967296) (hb:b=Y%4294967296) (Y0:9223372036854775808≤Y) (Y1:Y<18446744073709551616) (u0:0≤u) (hu:u<Y) (d0:0≤d) (d1:d<4294967296) :
  Fp (fun go (x:Int×Int)=>f189_l3 lo y s go x.1 x.2) Fq (u/a,u%a)=some ((u*4294967296+d)/Y):=by
 have hY:Y=a*4294967296+b:=by omega
 have Q0:0≤(u*4294967296+d)/Y:=Int.ediv_nonneg (by omega) (by omega)
 have H:∀ x:Int×Int,Dig Y a b u d x.1 x.2→
   (∃ z,(∀ go,f189_l3 lo y s go x.1 x.2=some z)∧z=(u*4294967296+d)/Y)∨(∃ x':Int×Int,(∀ go,f189_l3 lo y s go x.1 x.2=go x')∧Dig Y a b u d x'.1 x'.2∧x'.1.toNat<x.1.toNat):=by
  rintro ⟨q,r⟩ D
  simp only at D ⊢
  have dq0:=D.q0
  have dq1:=D.q1
  have dr0:=D.r0
  have dr1:=D.r1
  have hj:f189_j4 lo y s q r=some (bif decide (q≥4294967296∨q*b>4294967296*r+d) then Sum.inl () else Sum.inr ()):=by
   unfold f189_j4
   rw [eY,sh32u,ed,and32 _ (by omega) (by omega),← hb]
   by_cases c:q≥4294967296
   ·rw [dT c,dT (Or.inl c)];rfl
   ·rw [dF c]
    simp only [cond_false]
    have hqb:q*b≤4294967295*4294967295:=Int.mul_le_mul (by omega) (by omega) (by omega) (by decide)
    have hqb0:0≤q*b:=Int.mul_nonneg dq0 (by omega)
    rw [show IntKind.u64.wrap (q*b)=q*b by rw [wu];omega,show IntKind.u64.wrap (IntKind.u64.wrap (4294967296*r)+d)=4294967296*r+d by rw [wu,wu];omega]
    by_cases c2:q*b>4294967296*r+d
    ·rw [dT c2,dT (Or.inr c2)];rfl
    ·rw [dF c2,dF];rfl
  by_cases c:q≥4294967296∨q*b>4294967296*r+d
  ·have hg:=dig_dec hY (by omega) hu d1 D c
   have wr:IntKind.u64.wrap (r+Y/4294967296)=r+a:=by rw [wu,← ha];omega
   have wq:IntKind.u64.wrap (q-1)=q-1:=by rw [wu];omega
   by_cases c2:r+a≥4294967296
   ·left
    refine ⟨q-1,fun go=>?_,dig_brk hY (by omega) (by omega) (by omega) d0 D hg c2⟩
    unfold f189_l3
    rw [hj,dT c]
    simp only [cond_true,A9,Fl]
    rw [eY,sh32u,wr,dT c2,wq];rfl
   ·right
    refine ⟨(q-1,r+a),fun go=>?_,dig_next (by omega) D hg (by omega) Q0,by simp only;omega⟩
    unfold f189_l3
    rw [hj,dT c]
    simp only [cond_true,A9,Fl]
    rw [eY,sh32u,wr,dF c2,wq];rfl
  ·left
   refine ⟨q,fun go=>?_,dig_stop hY (by omega) D (by omega)⟩
   unfold f189_l3
   rw [hj,dF c];rfl
 obtain ⟨z,e,rfl⟩:=Gd (B:=fun go (x:Int×Int)=>f189_l3 lo y s go x.1 x.2) (fun x=>Dig Y a b u d x.1 x.2) (fun x=>x.1.toNat) (fun z=>z=(u*4294967296+d)/Y) H (u/a,u%a)
  (dig_init hY (by omega) (by omega) (by omega) (by omega) u0 hu d1) (by
   have:=(dig_init (d:=d) hY (by omega) (by omega) (by omega) (by omega) u0 hu d1).q1
   simp only;omega)
 exact e
theorem loop7 (lo y s:Int) (Y a b u d:Int) (eY:IntKind.u64.wrap (y*2 ^ min (Int.toNat (IntKind.u64.wrap s)) (IntKind.bits IntKind.u64))=Y)
  (ed:Fv IntKind.u64 (fun p q=>p&&& q) (IntKind.u64.wrap (lo*2 ^ min (Int.toNat (IntKind.u64.wrap s)) (IntKind.bits IntKind.u64))) 4294967295=d)
  (ha:a=Y/4294967296) (hb:b=Y%4294967296) (Y0:9223372036854775808≤Y) (Y1:Y<18446744073709551616) (u0:0≤u) (hu:u<Y) (d0:0≤d) (d1:d<4294967296) :
  Fp (fun go (x:Int×Int)=>f189_l7 lo y s go x.1 x.2) Fq (u%a,u/a)=some ((u*4294967296+d)/Y):=by
 have hY:Y=a*4294967296+b:=by omega
 have Q0:0≤(u*4294967296+d)/Y:=Int.ediv_nonneg (by omega) (by omega)
 have H:∀ x:Int×Int,Dig Y a b u d x.2 x.1→
   (∃ z,(∀ go,f189_l7 lo y s go x.1 x.2=some z)∧z=(u*4294967296+d)/Y)∨(∃ x':Int×Int,(∀ go,f189_l7 lo y s go x.1 x.2=go x')∧Dig Y a b u d x'.2 x'.1∧x'.2.toNat<x.2.toNat):=by
  rintro ⟨r,q⟩ D
  simp only at D ⊢
  have dq0:=D.q0
  have dq1:=D.q1
  have dr0:=D.r0
  have dr1:=D.r1
  have hj:f189_j8 lo y s r q=some (bif decide (q≥4294967296∨q*b>4294967296*r+d) then Sum.inl () else Sum.inr ()):=by
   unfold f189_j8
   rw [eY,ed,and32 _ (by omega) (by omega),← hb]
   by_cases c:q≥4294967296
   ·rw [dT c,dT (Or.inl c)];rfl
   ·rw [dF c]
    simp only [cond_false]
    have hqb:q*b≤4294967295*4294967295:=Int.mul_le_mul (by omega) (by omega) (by omega) (by decide)
    have hqb0:0≤q*b:=Int.mul_nonneg dq0 (by omega)
    rw [show IntKind.u64.wrap (q*b)=q*b by rw [wu];omega,show IntKind.u64.wrap (IntKind.u64.wrap (4294967296*r)+d)=4294967296*r+d by rw [wu,wu];omega]
    by_cases c2:q*b>4294967296*r+d
    ·rw [dT c2,dT (Or.inr c2)];rfl
    ·rw [dF c2,dF];rfl
  by_cases c:q≥4294967296∨q*b>4294967296*r+d
  ·have hg:=dig_dec hY (by omega) hu d1 D c
   have wr:IntKind.u64.wrap (r+Y/4294967296)=r+a:=by rw [wu,← ha];omega
   have wq:IntKind.u64.wrap (q-1)=q-1:=by rw [wu];omega
   by_cases c2:r+a≥4294967296
   ·left
    refine ⟨q-1,fun go=>?_,dig_brk hY (by omega) (by omega) (by omega) d0 D hg c2⟩
    unfold f189_l7
    rw [hj,dT c]
    simp only [cond_true,A9,Fl]
    rw [eY,sh32u,wr,dT c2,wq];rfl
   ·right
    refine ⟨(r+a,q-1),fun go=>?_,dig_next (by omega) D hg (by omega) Q0,by simp only;omega⟩
    unfold f189_l7
    rw [hj,dT c]
    simp only [cond_true,A9,Fl]
    rw [eY,sh32u,wr,dF c2,wq];rfl
  ·left
   refine ⟨q,fun go=>?_,dig_stop hY (by omega) D (by omega)⟩
   unfold f189_l7
   rw [hj,dF c];rfl
 obtain ⟨z,e,rfl⟩:=Gd (B:=fun go (x:Int×Int)=>f189_l7 lo y s go x.1 x.2) (fun x=>Dig Y a b u d x.2 x.1) (fun x=>x.2.toNat) (fun z=>z=(u*4294967296+d)/Y) H (u%a,u/a)
  (dig_init hY (by omega) (by omega) (by omega) (by omega) u0 hu d1) (by
   have:=(dig_init (d:=d) hY (by omega) (by omega) (by omega) (by omega) u0 hu d1).q1
   simp only;omega)
 exact e
theorem div64 (hi lo y : Int) (h0 : 0 ≤ hi) (h1 : hi < y) (l0 : 0 ≤ lo) (l1 : lo < 18446744073709551616) (y1 : y < 18446744073709551616) :
    f189 hi lo y = some ((hi * 18446744073709551616 + lo) / y, (hi * 18446744073709551616 + lo) % y) := by
  unfold f189
  rw [bF (show ¬ y = 0 by omega), dF (show ¬ y ≤ hi by omega)]
  simp only [cond_false]
  by_cases hz : hi = 0
  · subst hz
    rw [bT rfl]
    simp only [cond_true]
    rw [Bh, Bh, Int.tdiv_eq_ediv_of_nonneg l0, Int.tmod_eq_emod_of_nonneg l0, Int.zero_mul, Int.zero_add]
    have := Int.ediv_nonneg l0 (show 0 ≤ y by omega)
    have := Int.ediv_le_self y l0
    rw [show IntKind.u64.wrap (lo / y) = lo / y by rw [wu]; omega]
  rw [bF hz]
  simp only [cond_false]
  obtain ⟨yn, rfl⟩ := Int.eq_ofNat_of_zero_le (show 0 ≤ y by omega)
  obtain ⟨s, s63, es, p0, p1⟩ := clz_ok yn (by omega) (by omega)
  rw [es]
  simp only [A9]
  have ws : IntKind.u64.wrap (s : Int) = s := by rw [wu]; omega
  have ws2 : IntKind.u64.wrap ((64 : Int) - s) = ((64 - s : Nat) : Int) := by rw [wu]; omega
  have b64 : IntKind.bits IntKind.u64 = 64 := rfl
  obtain ⟨P, hP⟩ : ∃ P : Nat, P = 2 ^ s := ⟨_, rfl⟩
  obtain ⟨R, hR⟩ : ∃ R : Nat, R = 2 ^ (64 - s) := ⟨_, rfl⟩
  have hPR : P * R = 18446744073709551616 := by
    rw [hP, hR, ← Nat.pow_add, show s + (64 - s) = 64 by omega]
  have P1 : 1 ≤ P := by rw [hP]; exact Nat.one_le_two_pow
  have R1 : 1 ≤ R := by rw [hR]; exact Nat.one_le_two_pow
  have eP : (2 : Int) ^ min (Int.toNat (s : Int)) (IntKind.bits IntKind.u64) = (P : Int) := by
    rw [Int.toNat_natCast, b64, show min s 64 = s by omega, hP]; simp
  have eR : (2 : Int) ^ min (Int.toNat (((64 - s : Nat) : Int))) (IntKind.bits IntKind.u64) = (R : Int) := by
    rw [Int.toNat_natCast, b64, show min (64 - s) 64 = 64 - s by omega, hR]; simp
  have hYn : (yn : Int) * P = ((yn * 2 ^ s : Nat) : Int) := by rw [← hP]; simp
  have Y0 : 9223372036854775808 ≤ (yn : Int) * P := by rw [hYn]; omega
  have Y1 : (yn : Int) * P < 18446744073709551616 := by rw [hYn]; omega
  have eY : IntKind.u64.wrap ((yn : Int) * P) = (yn : Int) * P := by
    rw [wu]; omega
  have lR : Int.fdiv lo (R : Int) = lo / R := Int.fdiv_eq_ediv_of_nonneg _ (by omega)
  have lo1 : lo / R < P := Int.ediv_lt_of_lt_mul (by omega) (by have : ((P * R : Nat) : Int) = (P : Int) * R := by simp
                                                                rw [← this, hPR]; exact l1)
  have lo0 : 0 ≤ lo / R := Int.ediv_nonneg l0 (by omega)
  have hiP : hi * P + P ≤ (yn : Int) * P := by
    have : (hi + 1) * P ≤ (yn : Int) * P := Int.mul_le_mul_of_nonneg_right (by omega) (by omega)
    rw [Int.add_mul, Int.one_mul] at this; exact this
  have hiP0 : 0 ≤ hi * P := Int.mul_nonneg h0 (by omega)
  have eU : Fv IntKind.u64 (fun p q => p ||| q) (IntKind.u64.wrap (hi * P)) (lo / R) = hi * P + lo / R := by
    rw [show IntKind.u64.wrap (hi * P) = hi * P by rw [wu]; omega, or_nat _ _ hiP0 (by omega) lo0 (by omega)]
    have := Nat.two_pow_add_eq_or_of_lt (i := s) (b := (lo / R).toNat) (by rw [← hP]; omega) hi.toNat
    rw [← hP] at this
    have e : (hi * P).toNat = P * hi.toNat := by
      obtain ⟨h, rfl⟩ := Int.eq_ofNat_of_zero_le h0
      rw [Int.toNat_natCast, Nat.mul_comm, ← Int.toNat_natCast (h * P)]; simp
    rw [e, ← this]
    have e2 : ((P * hi.toNat : Nat) : Int) = hi * P := by rw [← e]; omega
    omega
  have hsplit : lo * P = lo / R * 18446744073709551616 + lo * P % 18446744073709551616 := by
    have : lo * P / 18446744073709551616 = lo / R := by
      have hc : (18446744073709551616 : Int) = (R : Int) * P := by
        have : ((P * R : Nat) : Int) = (R : Int) * P := by rw [Nat.mul_comm]; simp
        rw [← this, hPR]; rfl
      rw [hc]; exact Int.mul_ediv_mul_of_pos_left lo R (by omega)
    have e := Int.mul_ediv_add_emod (lo * P) 18446744073709551616
    rw [this] at e; omega
  have eL : IntKind.u64.wrap (lo * P) = lo * P % 18446744073709551616 := by rw [wu]
  have hNY : (hi * 18446744073709551616 + lo) * P = (hi * P + lo / R) * 18446744073709551616 + lo * P % 18446744073709551616 := by
    have e1 : (hi * 18446744073709551616 + lo) * P = hi * P * 18446744073709551616 + lo * P := by
      rw [Int.add_mul, Int.mul_assoc, Int.mul_comm 18446744073709551616, ← Int.mul_assoc]
    omega
  have hdivP : (hi * 18446744073709551616 + lo) * P / ((yn : Int) * P) = (hi * 18446744073709551616 + lo) / yn := Int.mul_ediv_mul_of_pos_left _ _ (by omega)
  have hmodP : (hi * 18446744073709551616 + lo) * P % ((yn : Int) * P) = (hi * 18446744073709551616 + lo) % yn * P := by
    rw [Int.mul_comm _ (P : Int), Int.mul_comm (yn : Int), Int.mul_emod_mul_of_pos _ _ (by omega), Int.mul_comm]
  have hN0 : 0 ≤ (hi * 18446744073709551616 + lo) % yn := Int.emod_nonneg _ (by omega)
  have eP2 : ∀ x : Int, Int.fdiv x (P : Int) = x / P := fun x => Int.fdiv_eq_ediv_of_nonneg _ (by omega)
  simp only [ws, ws2, eP, eR, lR, sh32u, eP2]
  have l3 := loop3 lo yn s
  have l7 := loop7 lo yn s
  simp only [ws, eP] at l3 l7
  rw [eU, eY, eL]
  rw [eY, eL] at l3 l7
  rw [← hdivP]
  have hm : (hi * 18446744073709551616 + lo) % (yn : Int) = (hi * 18446744073709551616 + lo) * P % ((yn : Int) * P) / P := by
    rw [hmodP, Int.mul_ediv_cancel _ (by omega)]
  rw [hm, hNY]
  have hun1 : 0 ≤ lo * P % 18446744073709551616 := Int.emod_nonneg _ (by decide)
  have hun2 : lo * P % 18446744073709551616 < 18446744073709551616 := Int.emod_lt_of_pos _ (by decide)
  generalize lo * P % 18446744073709551616 = W at *
  have hu0 : 0 ≤ hi * P + lo / R := by omega
  have hu1 : hi * P + lo / R < (yn : Int) * P := by omega
  generalize hi * P + lo / R = u at *
  generalize (yn : Int) * P = Y at *
  clear hsplit hNY hdivP hmodP hm hiP hiP0
  have a0 : 0 < Y / 4294967296 := by omega
  have dq0 : 0 ≤ u / (Y / 4294967296) := Int.ediv_nonneg hu0 (by omega)
  have dgi := dig_init (Y := Y) (a := Y / 4294967296) (b := Y % 4294967296) (u := u) (d := W / 4294967296) (by omega) (by omega) (by omega) (by omega) (by omega) hu0 hu1 (by omega)
  have dq1 := dgi.q1
  rw [Int.tdiv_eq_ediv_of_nonneg hu0, show IntKind.u64.wrap (u / (Y / 4294967296)) = u / (Y / 4294967296) by rw [wu]; omega]
  have em := dgi.eq
  have hm0 := dgi.r0
  have hm1 := dgi.r1
  have er : IntKind.u64.wrap (u - IntKind.u64.wrap (u / (Y / 4294967296) * (Y / 4294967296))) = u % (Y / 4294967296) := by
    rw [wu, wu]; omega
  rw [er, Bh, Bh, Bh, Bh, Bh]
  rw [l3 Y (Y / 4294967296) (Y % 4294967296) u (W / 4294967296) rfl rfl rfl rfl Y0 Y1 hu0 hu1 (by omega) (by omega)]
  simp only [A9]
  rw [Bh]
  have c1 : 0 ≤ (u * 4294967296 + W / 4294967296) / Y := Int.ediv_nonneg (by omega) (by omega)
  have c2 : (u * 4294967296 + W / 4294967296) / Y < 4294967296 := Int.ediv_lt_of_lt_mul (by omega) (by omega)
  have k1 := Int.mul_ediv_add_emod (u * 4294967296 + W / 4294967296) Y
  have k2 := Int.emod_nonneg (u * 4294967296 + W / 4294967296) (show Y ≠ 0 by omega)
  have k3 := Int.emod_lt_of_pos (u * 4294967296 + W / 4294967296) (show 0 < Y by omega)
  rw [Int.mul_comm Y] at k1
  have ev : IntKind.u64.wrap (IntKind.u64.wrap (IntKind.u64.wrap (u * 4294967296) + W / 4294967296) - IntKind.u64.wrap ((u * 4294967296 + W / 4294967296) / Y * Y)) = (u * 4294967296 + W / 4294967296) % Y := by
    simp only [wu]
    generalize (u * 4294967296 + W / 4294967296) / Y * Y = T at *
    omega
  rw [ev]
  generalize (u * 4294967296 + W / 4294967296) % Y = v at *
  generalize hq : (u * 4294967296 + W / 4294967296) / Y = q at *
  have dgj := dig_init (Y := Y) (a := Y / 4294967296) (b := Y % 4294967296) (u := v) (d := W % 4294967296) (by omega) (by omega) (by omega) (by omega) (by omega) k2 k3 (by omega)
  have f1 := dgj.q1
  have f0 := dgj.q0
  have fm := dgj.eq
  have fm0 := dgj.r0
  have fm1 := dgj.r1
  rw [Int.tdiv_eq_ediv_of_nonneg k2, show IntKind.u64.wrap (v / (Y / 4294967296)) = v / (Y / 4294967296) by rw [wu]; omega]
  have er2 : IntKind.u64.wrap (v - IntKind.u64.wrap (v / (Y / 4294967296) * (Y / 4294967296))) = v % (Y / 4294967296) := by
    rw [wu, wu]; omega
  rw [er2, l7 Y (Y / 4294967296) (Y % 4294967296) v (W % 4294967296) rfl (by rw [and32 _ (by omega) (by omega)]) rfl rfl Y0 Y1 k2 k3 (by omega) (by omega)]
  simp only [A9]
  rw [Bh, and32 _ (by omega) (by omega)]
  have g1 : 0 ≤ (v * 4294967296 + W % 4294967296) / Y := Int.ediv_nonneg (by omega) (by omega)
  have g2 : (v * 4294967296 + W % 4294967296) / Y < 4294967296 := Int.ediv_lt_of_lt_mul (by omega) (by omega)
  have j1 := Int.mul_ediv_add_emod (v * 4294967296 + W % 4294967296) Y
  have j2 := Int.emod_nonneg (v * 4294967296 + W % 4294967296) (show Y ≠ 0 by omega)
  have j3 := Int.emod_lt_of_pos (v * 4294967296 + W % 4294967296) (show 0 < Y by omega)
  rw [Int.mul_comm Y] at j1
  have ew : IntKind.u64.wrap (IntKind.u64.wrap (IntKind.u64.wrap (v * 4294967296) + W % 4294967296) - IntKind.u64.wrap ((v * 4294967296 + W % 4294967296) / Y * Y)) = (v * 4294967296 + W % 4294967296) % Y := by
    simp only [wu]
    generalize (v * 4294967296 + W % 4294967296) / Y * Y = T at *
    omega
  rw [ew]
  generalize (v * 4294967296 + W % 4294967296) % Y = w at *
  generalize (v * 4294967296 + W % 4294967296) / Y = p at *
  have hall : u * 18446744073709551616 + W = w + (q * 4294967296 + p) * Y := by
    rw [Int.add_mul, Int.mul_assoc, Int.mul_comm 4294967296 Y, ← Int.mul_assoc]
    generalize q * Y = T at *
    generalize p * Y = S at *
    omega
  rw [hall, Int.add_mul_ediv_right _ _ (by omega), Int.add_mul_emod_self_right, Int.ediv_eq_zero_of_lt j2 j3, Int.emod_eq_of_lt j2 j3, Int.zero_add]
  rw [show IntKind.u64.wrap (IntKind.u64.wrap (q * 4294967296) + p) = q * 4294967296 + p by rw [wu, wu]; omega]
end Go.Proofs.Div
namespace Go.Proofs.PlV
open Go.AM Go.Proofs.PlB Go.Proofs.PlW Go.Proofs.PlT
def pair (V:Int):Int×Int:=(V/18446744073709551616,V%18446744073709551616)
def far (V:Int):Prop:=-85070591730234615865843651857942052864≤V∧V≤85070591730234615865843651857942052864
theorem of_ok (v:Int) (h0 : -9223372036854775808≤v) (h1:v<9223372036854775808):f45 v=some (pair v):=by
 unfold f45 pair
 rw [sh63i,wu]
 congr 2
 omega
theorem add_w (A B:Int) (ha:far A) (hb:far B) (hs:far (A+B)):f44 (pair A) (pair B)=some (pair (A+B)):=by
 obtain ⟨a0,a1⟩:=ha
 obtain ⟨b0,b1⟩:=hb
 obtain ⟨s0,s1⟩:=hs
 unfold f44 pair
 simp only
 rw [add_ok _ _ _ (by omega) (by omega) (by decide) (by decide)]
 simp only [A9,wu]
 rw [add_ok _ _ _ (by omega) (by omega) (by omega) (by omega)]
 simp only [A9,Option.some.injEq,Prod.mk.injEq]
 refine ⟨?_,by omega⟩
 rw [wi_mod,← wi_mod]
 rw [show (A/18446744073709551616%18446744073709551616+B/18446744073709551616%18446744073709551616+(A%18446744073709551616+B%18446744073709551616+0)/18446744073709551616)%18446744073709551616=(A+B)/18446744073709551616%18446744073709551616 by omega]
 rw [wi_mod,E9]
theorem neg_w (A:Int) (ha:far A):f191 (pair A)=some (pair (-A)):=by
 obtain ⟨a0,a1⟩:=ha
 unfold f191 f217 pair
 simp only
 rw [sub_ok _ _ _ (by omega) (by omega) (by omega) (by omega) (by omega) (by omega)]
 simp only [A9,wu]
 rw [sub_ok _ _ _ (by omega) (by omega) (by omega) (by omega) (by split <;> omega) (by split <;> omega)]
 simp only [A9,Option.some.injEq,Prod.mk.injEq]
 refine ⟨?_,by omega⟩
 rw [wi_mod]
 rw [← wi_mod]
 have e:((0:Int)%18446744073709551616-A/18446744073709551616%18446744073709551616-(if (0:Int)<A%18446744073709551616+0 then 1 else 0))%18446744073709551616=-A/18446744073709551616%18446744073709551616:=by
  split <;> omega
 rw [e,wi_mod,E9]
theorem fix_ok (V:Int) (hv:far V):f190 (pair V)=some (sat V):=by
 obtain ⟨a0,a1⟩:=hv
 unfold f190 f190_j2 f190_j3 pair sat
 simp only
 by_cases h1:V/18446744073709551616>0
 ·rw [show decide (V/18446744073709551616>0)=true by simpa using h1,iPo]
  rfl
 ·rw [show decide (V/18446744073709551616>0)=false by simpa using h1]
  simp only [cond_false]
  by_cases h2:V/18446744073709551616=0
  ·rw [show (V/18446744073709551616==0)=true by simpa using h2]
   simp only [cond_true,A9]
   rw [show decide (V/18446744073709551616 < -1)=false by simp;omega,show (V/18446744073709551616==-1)=false by simp;omega]
   by_cases h3:V%18446744073709551616≥9223372036854775808
   ·rw [show decide (V%18446744073709551616≥9223372036854775808)=true by simpa using h3,iPo]
    rfl
   ·rw [show decide (V%18446744073709551616≥9223372036854775808)=false by simpa using h3,iNo,iNo]
    simp only [cond_false,A9,Fl,Option.some.injEq]
    rw [E9]
    omega
  ·rw [show (V/18446744073709551616==0)=false by simpa using h2]
   simp only [cond_false,A9]
   by_cases h3:V/18446744073709551616 < -1
   ·rw [show decide (V/18446744073709551616 < -1)=true by simpa using h3,iNo,iPo]
    rfl
   ·rw [show decide (V/18446744073709551616 < -1)=false by simpa using h3,show (V/18446744073709551616==-1)=true by simp;omega]
    simp only [cond_false,cond_true]
    by_cases h4:V%18446744073709551616<9223372036854775808
    ·rw [show decide (V%18446744073709551616<9223372036854775808)=true by simpa using h4,iNo,iPo]
     rfl
    ·rw [show decide (V%18446744073709551616<9223372036854775808)=false by simpa using h4,iNo,iNo]
     simp only [cond_false,A9,Fl,Option.some.injEq]
     rw [wi]
     split <;> omega
end Go.Proofs.PlV
namespace Go.Proofs.Div
open Go.AM Go.Proofs.PlW Go.Proofs.Num Go.Proofs.PlV
theorem rdI_eq (a n:Int):rdI a n=if (!(decide (a<0)==decide (n<0))) then -rdn a.natAbs n.natAbs else rdn a.natAbs n.natAbs:=by
 unfold rdI
 by_cases h1:a<0 <;> by_cases h2:n<0 <;> simp [h1,h2]
theorem round_j (d q r:Int) (d0:0<d) (d1:d≤9223372036854775808) (r0:0≤r) (r1:r<d) (q0:0≤q) (q1:q<18446744073709551616) :
  f145_j3 d (q,r)=some (decide (2*r>d∨(2*r=d∧q%2=1))):=by
 unfold f145_j3
 simp only
 rw [show IntKind.u64.wrap (d-r)=d-r by rw [wu];omega]
 by_cases h1:r>d-r
 ·rw [dT h1,dT];rfl
 ·rw [dF h1]
  simp only [cond_false]
  by_cases h2:r=d-r
  ·rw [bT h2]
   simp only [cond_true]
   rw [and1 _ q0 q1,Option.some.injEq,Bool.eq_iff_iff,beq_iff_eq,decide_eq_true_iff]
   omega
  ·rw [bF h2,dF];rfl
theorem two_steps (A d:Int) (A0:0≤A) (A1:A≤42535295865117307932921825928971026432) (d0:0<d) (d1:d≤9223372036854775808) :
  0≤A/18446744073709551616/d∧A/18446744073709551616/d≤A/18446744073709551616∧0≤A/18446744073709551616%d∧A/18446744073709551616%d<d∧
  0≤(A/18446744073709551616%d*18446744073709551616+A%18446744073709551616)/d∧(A/18446744073709551616%d*18446744073709551616+A%18446744073709551616)/d<18446744073709551616∧
  A/d=A/18446744073709551616/d*18446744073709551616+(A/18446744073709551616%d*18446744073709551616+A%18446744073709551616)/d∧
  A%d=(A/18446744073709551616%d*18446744073709551616+A%18446744073709551616)%d:=by
 have m0:=Int.emod_nonneg (A/18446744073709551616) (show d≠0 by omega)
 have m1:=Int.emod_lt_of_pos (A/18446744073709551616) d0
 have me:=Int.mul_ediv_add_emod (A/18446744073709551616) d
 have t0:0≤A/18446744073709551616/d:=Int.ediv_nonneg (by omega) (by omega)
 have t1:A/18446744073709551616/d≤A/18446744073709551616:=Int.ediv_le_self d (by omega)
 have q0:0≤(A/18446744073709551616%d*18446744073709551616+A%18446744073709551616)/d:=Int.ediv_nonneg (by omega) (by omega)
 have q1:(A/18446744073709551616%d*18446744073709551616+A%18446744073709551616)/d<18446744073709551616:=Int.ediv_lt_of_lt_mul d0 (by omega)
 have hA:A=(A/18446744073709551616%d*18446744073709551616+A%18446744073709551616)+A/18446744073709551616/d*18446744073709551616*d:=by
  rw [Int.mul_assoc,Int.mul_comm 18446744073709551616 d,← Int.mul_assoc,Int.mul_comm (A/18446744073709551616/d) d]
  generalize d*(A/18446744073709551616/d)=T at *
  omega
 have hq:A/d=A/18446744073709551616/d*18446744073709551616+(A/18446744073709551616%d*18446744073709551616+A%18446744073709551616)/d:=by
  conv=>lhs;rw [hA]
  rw [Int.add_mul_ediv_right _ _ (by omega),Int.add_comm]
 have hr:A%d=(A/18446744073709551616%d*18446744073709551616+A%18446744073709551616)%d:=by
  conv=>lhs;rw [hA]
  rw [Int.add_mul_emod_self_right]
 exact ⟨t0,t1,m0,m1,q0,q1,hq,hr⟩
theorem round_w (A d t q b:Int) (t0:0≤t) (t1:t≤9223372036854775808) (q0:0≤q) (q1:q<18446744073709551616) (hb:0≤b) (hb1:b≤1) :
  ((t+(q+b)/18446744073709551616)%18446744073709551616,(q+b)%18446744073709551616)=((t*18446744073709551616+q+b)/18446744073709551616,(t*18446744073709551616+q+b)%18446744073709551616):=by
 refine Prod.ext ?_ ?_ <;> simp only <;> omega
theorem mag_ok (V:Int) (v0 : -42535295865117307932921825928971026432≤V) (v1:V≤42535295865117307932921825928971026432) :
  f187 (pair V)=some ((V.natAbs:Int)/18446744073709551616,(V.natAbs:Int)%18446744073709551616,decide (V<0)):=by
 unfold f187
 rw [show ((pair V).1,(pair V).2)=pair V from rfl]
 by_cases h:V<0
 ·rw [dT (show (pair V).1<0 by unfold pair;simp only;omega),neg_w V (by unfold far;omega),dT h]
  simp only [cond_true,A9]
  have:(V.natAbs:Int)=-V:=by omega
  rw [this]
  unfold pair
  simp only
  rw [show IntKind.u64.wrap (-V/18446744073709551616)=-V/18446744073709551616 by rw [wu];omega]
 ·rw [dF (show ¬(pair V).1<0 by unfold pair;simp only;omega),dF h]
  have:(V.natAbs:Int)=V:=by omega
  rw [this]
  unfold pair
  simp only [cond_false]
  rw [show IntKind.u64.wrap (V/18446744073709551616)=V/18446744073709551616 by rw [wu];omega]
theorem over_ok (V n:Int) (v0 : -42535295865117307932921825928971026432≤V) (v1:V≤42535295865117307932921825928971026432) (n0 : -9223372036854775808≤n) (n1:n<9223372036854775808) (hn:n≠0) :
  f145 (pair V) n=some (sat (rdI V n)):=by
 unfold f145
 rw [bF hn]
 simp only [cond_false]
 rw [show ((pair V).1,(pair V).2)=pair V from rfl,mag_ok V v0 v1]
 simp only [A9]
 rw [PlW.size_ok n n0 n1]
 simp only [A9]
 have hdd:(if n<0 then -n else n)=((n.natAbs:Nat):Int):=by split <;> omega
 rw [hdd,rdI_eq]
 have A0:0≤(V.natAbs:Int):=by omega
 have A1:(V.natAbs:Int)≤42535295865117307932921825928971026432:=by omega
 have d0:0<(n.natAbs:Int):=by omega
 have d1:(n.natAbs:Int)≤9223372036854775808:=by omega
 generalize (V.natAbs:Int)=A at *
 generalize (n.natAbs:Int)=d at *
 clear hdd v0 v1 n0 n1 hn
 obtain ⟨t0,t1,m0,m1,q0,q1,hq,hr⟩:=two_steps A d A0 A1 d0 d1
 rw [Bh,Bh,Int.tmod_eq_emod_of_nonneg (by omega)]
 have hdv:=div64 _ (A%18446744073709551616) _ m0 m1 (by omega) (by omega) (by omega)
 rw [← hr] at hdv
 have r0:=Int.emod_nonneg A (show d≠0 by omega)
 have r1:=Int.emod_lt_of_pos A d0
 clear hr
 have hR:rdn A d=A/d+if 2*(A%d)>d∨(2*(A%d)=d∧A/d%2=1) then 1 else 0:=rfl
 have hRl:=rdn_le A0 d0
 have hR0:=rdn_nonneg A0 d0
 generalize (A/18446744073709551616%d*18446744073709551616+A%18446744073709551616)/d=q at *
 generalize A%d=r at *
 rw [hdv]
 simp only [A9]
 have hj:=round_j d q _ d0 d1 r0 r1 q0 q1
 have hwt:IntKind.u64.wrap (Int.tdiv (A/18446744073709551616) d)=A/18446744073709551616/d:=by
  rw [Int.tdiv_eq_ediv_of_nonneg (by omega),wu];omega
 have t2:A/18446744073709551616/d≤9223372036854775808:=by omega
 generalize A/18446744073709551616/d=t at *
 have hpar:A/d%2=q%2:=by rw [hq];omega
 rw [hpar,hq] at hR
 have hj2:f145_j2 (A/18446744073709551616,A%18446744073709551616,decide (V<0)) d (q,r)=some (rdn A d/18446744073709551616,rdn A d%18446744073709551616):=by
  unfold f145_j2
  rw [hj]
  simp only [A9]
  by_cases c:2*(r)>d∨(2*(r)=d∧q%2=1)
  ·rw [dT c]
   rw [if_pos c] at hR
   simp only [cond_true]
   rw [add_ok _ _ _ (by omega) (by omega) (by omega) (by omega),hwt]
   simp only [A9,Int.add_zero]
   rw [wu,hR,round_w A d t q 1 t0 t2 q0 q1 (by decide) (by decide)]
  ·rw [dF c]
   rw [if_neg c] at hR
   simp only [cond_false]
   have:=round_w A d t q 0 t0 t2 q0 q1 (by decide) (by decide)
   rw [hwt,hR,← this,Int.add_zero]
   refine congrArg some (Prod.ext ?_ ?_) <;> simp only <;> omega
 rw [hj2]
 simp only [A9]
 generalize rdn A d=R at *
 clear hj hj2 hR hq hwt hpar m0 m1 q0 q1 t0 t1 t2 r0 r1
 rw [if_neg (show ¬(9223372036854775807:Int)<R/18446744073709551616 by omega),E9]
 rw [show ((R/18446744073709551616,R%18446744073709551616):Int×Int)=pair R from rfl]
 cases hs:(!(decide (V<0)==decide (n<0)))
 ·simp only [cond_false]
  rw [PlV.fix_ok R (by unfold far;omega)]
  simp only [A9,Bool.false_eq_true,if_false]
 ·simp only [cond_true]
  rw [neg_w R (by unfold far;omega)]
  simp only [A9]
  rw [show ((pair (-R)).1,(pair (-R)).2)=pair (-R) from rfl,PlV.fix_ok (-R) (by unfold far;omega)]
  simp only [A9,if_true]
theorem fdiv_j (d q r:Int) (d0:0<d) (d1:d≤9223372036854775808) (r0:0≤r) (r1:r<d) (q0:0≤q) (q1:q<18446744073709551616) :
  f185_j3 d (q,r)=some (decide (2*r>d∨(2*r=d∧q%2=1))):=round_j d q r d0 d1 r0 r1 q0 q1
theorem fdiv_j2 (d q r R:Int) (d0:0<d) (d1:d≤9223372036854775808) (r0:0≤r) (r1:r<d) (q0:0≤q) (q1:q<18446744073709551616)
  (hR:R=q+if 2*r>d∨(2*r=d∧q%2=1) then 1 else 0):f185_j2 d (q,r)=some (R%18446744073709551616,R/18446744073709551616):=by
 unfold f185_j2
 rw [fdiv_j d q r d0 d1 r0 r1 q0 q1,A9]
 by_cases c:2*r>d∨(2*r=d∧q%2=1)
 ·rw [if_pos c] at hR
  rw [dT c,cond_true,add_ok _ _ _ (by omega) (by omega) (by omega) (by omega),A9,hR,Int.add_zero]
 ·rw [if_neg c] at hR
  rw [dF c,cond_false,hR]
  refine congrArg some (Prod.ext ?_ ?_) <;> simp only <;> omega
theorem fdiv_end (x y a b d q r R:Int) (s:Bool) (d0:0<d) (d1:d≤9223372036854775808) (r0:0≤r) (r1:r<d) (q0:0≤q) (q1:q<18446744073709551616)
  (hR:R=q+if 2*r>d∨(2*r=d∧q%2=1) then 1 else 0) (hdv:f189 x y d=some (q,r)) :
  (D4 (f189 x y d) fun r4=>D4 (f185_j2 d r4) fun z7=>D4 (f144 z7.2 z7.1 s) fun r10=>some r10)=some (sat (if s=true then -R else R)):=by
 have R0:0≤R:=by rw [hR];split <;> omega
 have R1:R≤85070591730234615865843651857942052864:=by rw [hR];split <;> omega
 rw [hdv,A9,fdiv_j2 d q r R d0 d1 r0 r1 q0 q1 hR,A9,PlS.held_ok R s R0 R1,A9]
theorem fdiv_ok (a b:Int) (a0 : -9223372036854775808≤a) (a1:a<9223372036854775808) (b0 : -9223372036854775808≤b) (b1:b<9223372036854775808) (hb:b≠0) :
  f185 a b=some (sat (rdI (a*4294967296) b)):=by
 unfold f185
 rw [bF hb]
 simp only [cond_false]
 rw [PlS.sizeF_ok a a0 a1,PlS.sizeF_ok b b0 b1]
 simp only [A9]
 have e1:(if a<0 then -a else a)=((a.natAbs:Nat):Int):=by split <;> omega
 have e2:(if b<0 then -b else b)=((b.natAbs:Nat):Int):=by split <;> omega
 rw [e1,e2,rdI_eq,sh32u]
 have e3:(((a*4294967296).natAbs:Nat):Int)=(a.natAbs:Int)*4294967296:=by omega
 rw [e3,show decide (a*4294967296<0)=decide (a<0) by rw [decide_eq_decide];omega]
 have A0:0≤(a.natAbs:Int):=by omega
 have A1:(a.natAbs:Int)≤9223372036854775808:=by omega
 have d0:0<(b.natAbs:Int):=by omega
 have d1:(b.natAbs:Int)≤9223372036854775808:=by omega
 generalize (!(decide (a<0)==decide (b<0)))=s at *
 generalize (a.natAbs:Int)=A at *
 generalize (b.natAbs:Int)=d at *
 have hR:rdn (A*4294967296) d=A*4294967296/d+if 2*(A*4294967296%d)>d∨(2*(A*4294967296%d)=d∧A*4294967296/d%2=1) then 1 else 0:=rfl
 have hRl:=rdn_le (N:=A*4294967296) (by omega) d0
 by_cases h:A/4294967296≥d
 ·rw [dT h]
  simp only [cond_true]
  have hk:=PlS.held_ok 18446744073709551616 s (by decide) (by decide)
  rw [show (18446744073709551616:Int)/18446744073709551616=1 from rfl,show (18446744073709551616:Int)%18446744073709551616=0 from rfl] at hk
  rw [hk]
  simp only [A9]
  have hge:18446744073709551616≤A*4294967296/d:=Int.le_ediv_of_mul_le d0 (by omega)
  have hRg:18446744073709551616≤rdn (A*4294967296) d:=by rw [hR];split <;> omega
  congr 1
  cases s
  ·simp only [Bool.false_eq_true,if_false];unfold sat;rw [iPo,iPo]
  ·simp only [if_true];unfold sat;rw [if_neg (show ¬(-18446744073709551616:Int)≥9223372036854775808 by decide),if_pos (show (-18446744073709551616:Int) < -9223372036854775808 by decide),iNo,iPo]
 ·rw [dF h]
  simp only [cond_false]
  have hlo:IntKind.u64.wrap (A*2 ^ min (Int.toNat (32:Int)) (IntKind.bits IntKind.u64))=A*4294967296%18446744073709551616:=by
   rw [show ((2:Int) ^ min (Int.toNat (32:Int)) (IntKind.bits IntKind.u64))=4294967296 from rfl,wu]
  have hdv:=div64 (A/4294967296) (A*4294967296%18446744073709551616) d (by omega) (by omega) (by omega) (by omega) (by omega)
  rw [show A/4294967296*18446744073709551616+A*4294967296%18446744073709551616=A*4294967296 by omega] at hdv
  have q0:0≤A*4294967296/d:=Int.ediv_nonneg (by omega) (by omega)
  have q1:A*4294967296/d<18446744073709551616:=Int.ediv_lt_of_lt_mul d0 (by omega)
  have r0:=Int.emod_nonneg (A*4294967296) (show d≠0 by omega)
  have r1:=Int.emod_lt_of_pos (A*4294967296) d0
  rw [hlo]
  exact fdiv_end _ _ a b d _ _ _ s d0 d1 r0 r1 q0 q1 hR hdv
end Go.Proofs.Div
namespace Go.Proofs.PlR
open Go.AM Go.Proofs.PlB Go.Proofs.PlW Go.Proofs.PlT Go.Proofs.PlS
abbrev Tn:=List Int×List Int
theorem prd_one (n:Int) (h0:1≤n) (h1:n≤4096):prd [n]=n:=by
 simp only [prd,pgo,List.length_cons,List.length_nil,Int.one_mul]
 rw [iNo,iNo]
theorem prd_nil:prd []=1:=rfl
theorem sat_range (x:Int) : -9223372036854775808≤sat x∧sat x<9223372036854775808:=by unfold sat;split <;> (try split) <;> omega
theorem tab_inI (n:Nat) (g:Nat→Int) (h:∀ i,i<n→-9223372036854775808≤g i∧g i<9223372036854775808):inI (Ga n g):=fun x hx=>by
 unfold Ga at hx
 obtain ⟨i,hi,rfl⟩:=List.mem_map.1 hx
 exact h i (List.mem_range.1 hi)
end Go.Proofs.PlR

