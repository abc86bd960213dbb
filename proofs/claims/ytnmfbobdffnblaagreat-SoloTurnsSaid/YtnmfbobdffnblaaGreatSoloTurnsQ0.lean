import Derived.Test.YtnmfbobdffnblaaGreatSoloTurnsS9
set_option linter.unusedVariables false
set_option linter.unusedSimpArgs false
set_option maxRecDepth 100000
set_option linter.unusedSectionVars false

namespace Go.AM
theorem Aa {X Y:Type} (x:X) (f:X→Option Y):Ac (some x) f=f x:=rfl
theorem Ai {A B Y:Type} (a:A) (f:A→Option Y) (g:B→Option Y):Ak (.inl a) f g=f a:=rfl
theorem As {A B Y:Type} (b:B) (f:A→Option Y) (g:B→Option Y):Ak (.inr b) f g=g b:=rfl
theorem Ab {Y:Type} {p:Prop} [Decidable p] {r:Option Y} (h:p:=by omega):Ad p r=r:=if_pos h
theorem Bj {X Z:Type} (B:(X→Option Z)→X→Option Z) (n:Nat) (x:X):Ag B (n+1) x=B (Ag B n) x:=rfl
theorem loop_inv {X Z:Type} {B:(X→Option Z)→X→Option Z} (I:X→Prop) (μ:X→Nat) (Q:Z→Prop)
  (h:∀ x,I x→(∃ z,(∀ go,B go x=some z)∧Q z)∨(∃ y,(∀ go,B go x=go y)∧I y∧μ y<μ x)) :
  ∀ (n:Nat) (x:X),I x→μ x<n→∃ z,Ag B n x=some z∧Q z
 | 0,x,_,hm=>absurd hm (Nat.not_lt_zero _)
 | n+1,x,hi,hm=>by
  rw [Bj]
  rcases h x hi with ⟨z,h1,h2⟩ | ⟨y,h1,h2,h3⟩
  ·exact ⟨z,h1 _,h2⟩
  ·rw [h1];exact loop_inv I μ Q h n y h2 (by omega)
theorem Bf {X Z:Type} {B:(X→Option Z)→X→Option Z} (I:X→Prop) (μ:X→Nat) (Q:Z→Prop)
  (h:∀ x,I x→(∃ z,(∀ go,B go x=some z)∧Q z)∨(∃ y,(∀ go,B go x=go y)∧I y∧μ y<μ x)) (x:X) (hi:I x) (hm:μ x<18446744073709551616) :
  ∃ z,Ag B Ah x=some z∧Q z:=loop_inv I μ Q h Ah x hi hm
theorem Ae {n:Int} (h1 : -9223372036854775808≤n:=by omega) (h2:n<9223372036854775808:=by omega):IntKind.i64.wrap n=n:=by
 simp only [IntKind.wrap,IntKind.signed,IntKind.bits]
 have:n%2 ^ 64=if 0≤n then n else n+18446744073709551616:=by
  split <;> omega
 simp only [this]
 split <;> split <;> simp_all <;> omega
theorem Bi {α:Type} (z:α) (xs:List α) (i:Nat) (h:i<xs.length):rd z xs (i:Int)=xs[i]:=by
 simp [rd,h]
end Go.AM
namespace Go.Proofs.PlB
open Go.AM
theorem clone_d (d:List Int) (h:d.length≤17592186044416):f47 d=some d:=by
 unfold f47 nilF
 cases d with
 | nil=>rfl
 | cons x r=>
  simp only
  rw [Ab (by simp at h ⊢;omega)]
  rfl
def pgo:Int→List Int→Int
 | n,[]=>n
 | n,x::r=>if x<1∨x>4096∨n*x>4096 then 0 else pgo (n*x) r
def prd (d:List Int):Int:=if d.length>4 then 0 else pgo 1 d
theorem drop_cons {α:Type} (d:List α) (k:Nat) (h:k<d.length):d.drop k=d[k]::d.drop (k+1):=by
 rw [List.drop_eq_getElem_cons h]
theorem product_ok (d:List Int):f106 d=some (prd d):=by
 unfold f106 prd
 by_cases h4:d.length>4
 ·rw [show decide ((List.length d:Int)>4)=true by simp;omega,if_pos h4];rfl
 ·rw [show decide ((List.length d:Int)>4)=false by simp;omega,if_neg h4]
  simp only [cond_false]
  have H:∀ x:Int×Int,(∃ k:Nat,x.2=(k:Int)∧k≤d.length∧1≤x.1∧x.1≤4096∧pgo x.1 (d.drop k)=pgo 1 d)→
    (∃ z,(∀ go,f106_l3 d go x.1 x.2=some z)∧((z=Sum.inl ()∧pgo 1 d=0)∨z=Sum.inr (pgo 1 d)))∨
    (∃ y:Int×Int,(∀ go,f106_l3 d go x.1 x.2=go y)∧(∃ k:Nat,y.2=(k:Int)∧k≤d.length∧1≤y.1∧y.1≤4096∧pgo y.1 (d.drop k)=pgo 1 d)∧((d.length:Int)-y.2).toNat<((d.length:Int)-x.2).toNat):=by
   rintro ⟨n,_⟩ ⟨k,rfl,hk,hn1,hn2,hp⟩
   simp only at hn1 hn2 hp ⊢
   by_cases hlt:k<d.length
   ·rw [drop_cons d k hlt] at hp
    simp only [pgo] at hp
    have hrd:rd (0:Int) d (k:Int)=d[k]:=Bi _ _ _ hlt
    by_cases c1:d[k]<1
    ·left
     rw [if_pos (.inl c1)] at hp
     refine ⟨Sum.inl (),fun go=>?_,.inl ⟨rfl,hp.symm⟩⟩
     simp only [f106_l3,f106_j4,hrd]
     rw [show decide ((k:Int)<(d.length:Int))=true by simpa using hlt,show decide (d[k]<(1:Int))=true by simpa using c1]
     simp only [cond_true]
     rw [Ab]
     rfl
    ·by_cases c2:d[k]>4096
     ·left
      rw [if_pos (.inr (.inl c2))] at hp
      refine ⟨Sum.inl (),fun go=>?_,.inl ⟨rfl,hp.symm⟩⟩
      simp only [f106_l3,f106_j4,hrd]
      rw [show decide ((k:Int)<(d.length:Int))=true by simpa using hlt,show decide (d[k]<(1:Int))=false by simpa using c1,show decide (d[k]>(4096:Int))=true by simpa using c2]
      simp only [cond_true,cond_false]
      rw [Ab]
      rfl
     ·have hb1:n*d[k]≤4096*4096:=Int.mul_le_mul hn2 (by omega) (by omega) (by omega)
      have hb0:1*1≤n*d[k]:=Int.mul_le_mul hn1 (by omega) (by omega) (by omega)
      have hw:IntKind.i64.wrap (n*d[k])=n*d[k]:=Ae (by omega) (by omega)
      by_cases c3:n*d[k]>4096
      ·left
       rw [if_pos (.inr (.inr c3))] at hp
       refine ⟨Sum.inl (),fun go=>?_,.inl ⟨rfl,hp.symm⟩⟩
       simp only [f106_l3,f106_j4,hrd,hw]
       rw [show decide ((k:Int)<(d.length:Int))=true by simpa using hlt,show decide (d[k]<(1:Int))=false by simpa using c1,show decide (d[k]>(4096:Int))=false by simpa using c2,show decide (n*d[k]>(4096:Int))=true by simpa using c3]
       simp only [cond_true,cond_false]
       rw [Ab]
       rfl
      ·right
       rw [iNo] at hp
       refine ⟨(n*d[k],((k+1:Nat):Int)),fun go=>?_,⟨k+1,rfl,hlt,by simp only;omega,by simp only;omega,hp⟩,by simp only;omega⟩
       simp only [f106_l3,f106_j4,hrd,hw]
       rw [show decide ((k:Int)<(d.length:Int))=true by simpa using hlt,show decide (d[k]<(1:Int))=false by simpa using c1,show decide (d[k]>(4096:Int))=false by simpa using c2,show decide (n*d[k]>(4096:Int))=false by simpa using c3]
       simp only [cond_true,cond_false]
       rw [Ab,Ae]
       rfl
   ·left
    have:k=d.length:=by omega
    subst this
    simp only [List.drop_length,pgo] at hp
    refine ⟨Sum.inr n,fun go=>?_,.inr (by rw [hp])⟩
    simp only [f106_l3]
    rw [show decide ((d.length:Int)<(d.length:Int))=false by simp]
    rfl
  obtain ⟨z,e,hz⟩:=Bf (B:=fun go (x:Int×Int)=>f106_l3 d go x.1 x.2) _ (fun x=>((d.length:Int)-x.2).toNat) _ H ((1:Int),(0:Int)) ⟨0,rfl,Nat.zero_le _,by decide,by decide,rfl⟩ (by simp;omega)
  rw [e]
  simp only [Aa]
  rcases hz with ⟨rfl,h0⟩ | rfl
  ·simp only [Ai,h0]
  ·simp only [As]
theorem Ay (d:List Int):f67 d=some (decide (prd d>0)):=by
 unfold f67
 simp only [product_ok,Aa]
theorem size_ok (d:List Int):f116 d=some (prd d):=by
 unfold f116
 simp only [product_ok,Aa]
def Am (t:List Int×List Int):Bool:=decide (prd t.1>0)&&((t.2.length:Int)==prd t.1)
theorem At (t:List Int×List Int):f119 t=some (Am t):=by
 unfold f119 Am
 simp only [Ay,size_ok,Aa]
 cases decide (prd t.1>0) <;> rfl
end Go.Proofs.PlB
namespace Go.Proofs.PlW
open Go.AM
theorem wu (n:Int):IntKind.u64.wrap n=n%18446744073709551616:=by
 simp [IntKind.wrap,IntKind.signed,IntKind.bits]
theorem wi (n:Int):IntKind.i64.wrap n=if n%18446744073709551616≥9223372036854775808 then n%18446744073709551616-18446744073709551616 else n%18446744073709551616:=by
 simp [IntKind.wrap,IntKind.signed,IntKind.bits]
theorem wu_wi (n:Int):IntKind.u64.wrap (IntKind.i64.wrap n)=n%18446744073709551616:=by
 rw [wu,wi];split <;> omega
theorem wi_mod (n:Int):IntKind.i64.wrap (n%18446744073709551616)=IntKind.i64.wrap n:=by
 rw [wi,wi,Int.emod_emod_of_dvd _ (Int.dvd_refl _)]
theorem sh32u (x:Int):Int.fdiv x (2 ^ min (Int.toNat (32:Int)) (IntKind.bits IntKind.u64))=x/4294967296:=by
 rw [show ((2:Int) ^ min (Int.toNat (32:Int)) (IntKind.bits IntKind.u64))=4294967296 from rfl]
 exact Int.fdiv_eq_ediv_of_nonneg _ (by decide)
theorem sh32i (x:Int):Int.fdiv x (2 ^ min (Int.toNat (32:Int)) (IntKind.bits IntKind.i64))=x/4294967296:=by
 rw [show ((2:Int) ^ min (Int.toNat (32:Int)) (IntKind.bits IntKind.i64))=4294967296 from rfl]
 exact Int.fdiv_eq_ediv_of_nonneg _ (by decide)
theorem sh63i (x:Int):Int.fdiv x (2 ^ min (Int.toNat (63:Int)) (IntKind.bits IntKind.i64))=x/9223372036854775808:=by
 rw [show ((2:Int) ^ min (Int.toNat (63:Int)) (IntKind.bits IntKind.i64))=9223372036854775808 from rfl]
 exact Int.fdiv_eq_ediv_of_nonneg _ (by decide)
theorem bits_nat (f:BitVec 64→BitVec 64→BitVec 64) (a b:Int):Af IntKind.u64 f a b=((f (BitVec.ofInt 64 a) (BitVec.ofInt 64 b)).toNat:Int):=by
 have h:Af IntKind.u64 f a b=IntKind.u64.wrap (((f (BitVec.ofInt 64 a) (BitVec.ofInt 64 b)).toNat:Nat):Int):=rfl
 rw [h,wu]
 have:=(f (BitVec.ofInt 64 a) (BitVec.ofInt 64 b)).isLt
 omega
theorem ofInt_nat (a:Int) (h0:0≤a) (h1:a<18446744073709551616):(BitVec.ofInt 64 a).toNat=a.toNat:=by
 rw [BitVec.toNat_ofInt]
 have:a%((2 ^ 64:Nat):Int)=a:=Int.emod_eq_of_lt h0 (by simpa using h1)
 rw [this]
theorem and_nat (a b:Int) (h0:0≤a) (h1:a<18446744073709551616) (g0:0≤b) (g1:b<18446744073709551616) :
  Af IntKind.u64 (fun p q=>p&&& q) a b=((a.toNat&&& b.toNat:Nat):Int):=by
 refine (bits_nat (fun p q=>p&&& q) a b).trans ?_
 rw [BitVec.toNat_and,ofInt_nat a h0 h1,ofInt_nat b g0 g1]
theorem or_nat (a b:Int) (h0:0≤a) (h1:a<18446744073709551616) (g0:0≤b) (g1:b<18446744073709551616) :
  Af IntKind.u64 (fun p q=>p||| q) a b=((a.toNat||| b.toNat:Nat):Int):=by
 refine (bits_nat (fun p q=>p||| q) a b).trans ?_
 rw [BitVec.toNat_or,ofInt_nat a h0 h1,ofInt_nat b g0 g1]
theorem and32 (x:Int) (h0:0≤x) (h1:x<18446744073709551616):Af IntKind.u64 (fun p q=>p&&& q) x 4294967295=x%4294967296:=by
 rw [and_nat x _ h0 h1 (by decide) (by decide)]
 have:=Nat.and_two_pow_sub_one_eq_mod x.toNat 32
 rw [show (4294967295:Int).toNat=2 ^ 32-1 from rfl,this]
 omega
theorem and1 (x:Int) (h0:0≤x) (h1:x<18446744073709551616):Af IntKind.u64 (fun p q=>p&&& q) x 1=x%2:=by
 rw [and_nat x _ h0 h1 (by decide) (by decide)]
 have:=Nat.and_two_pow_sub_one_eq_mod x.toNat 1
 rw [show (1:Int).toNat=2 ^ 1-1 from rfl,this]
 omega
theorem or32 (a b:Int) (h0:0≤a) (h1:a<4294967296) (g0:0≤b) (g1:b<4294967296):Af IntKind.u64 (fun p q=>p||| q) (a*4294967296) b=a*4294967296+b:=by
 rw [or_nat _ _ (by omega) (by omega) (by omega) (by omega)]
 have:=Nat.two_pow_add_eq_or_of_lt (i:=32) (b:=b.toNat) (by omega) a.toNat
 rw [show (a*4294967296).toNat=2 ^ 32*a.toNat by omega,← this]
 omega
theorem add_ok (x y c:Int) (h0:0≤x) (h1:0≤y) (h2:0≤c) (h3:c≤1):Es x y c=some ((x+y+c)%18446744073709551616,(x+y+c)/18446744073709551616):=by
 unfold Es
 rw [show Nat.ble c.toNat 1=true by rw [Nat.ble_eq];omega]
 simp only [Option.some.injEq,Prod.mk.injEq,Int.ofNat_eq_natCast]
 constructor <;> omega
theorem sub_ok (x y c:Int) (h0:0≤x) (h0':x<18446744073709551616) (h1:0≤y) (h1':y<18446744073709551616) (h2:0≤c) (h3:c≤1) :
  sub64 x y c=some ((x-y-c)%18446744073709551616,if x<y+c then 1 else 0):=by
 unfold sub64
 rw [show Nat.ble c.toNat 1=true by rw [Nat.ble_eq];omega]
 simp only [Option.some.injEq,Prod.mk.injEq,Int.ofNat_eq_natCast]
 constructor
 ·omega
 ·by_cases h:x<y+c
  ·rw [if_pos h,iPo]
  ·rw [if_neg h,iNo]
theorem size_ok (v:Int) (h0 : -9223372036854775808≤v) (h1:v<9223372036854775808):f82 v=some (if v<0 then -v else v):=by
 unfold f82
 by_cases h:v<0
 ·rw [show decide (v<0)=true by simpa using h,if_pos h]
  simp only [cond_true,wu,Option.some.injEq]
  omega
 ·rw [show decide (v<0)=false by simpa using h,if_neg h]
  simp only [cond_false,wu,Option.some.injEq]
  omega
theorem mul_bound (a b:Int) (h0:0≤a) (h1:a≤4294967295) (g0:0≤b) (g1:b≤4294967295):0≤a*b∧a*b≤18446744065119617025:=
 ⟨Int.mul_nonneg h0 g0,Int.mul_le_mul h1 g1 g0 (by decide)⟩
theorem mul64_ok (x y:Int) (h0:0≤x) (h1:x<18446744073709551616) (g0:0≤y) (g1:y<18446744073709551616) :
  f50 x y=some (x*y/18446744073709551616,x*y%18446744073709551616):=by
 unfold f50
 have x1:=Int.mul_ediv_add_emod x 4294967296
 have y1:=Int.mul_ediv_add_emod y 4294967296
 simp only [sh32u,and32 x h0 h1,and32 y g0 g1,wu]
 rw [and32 _ (by omega) (by omega)]
 generalize hx1:x/4294967296=a at *
 generalize hx0:x%4294967296=b at *
 generalize hy1:y/4294967296=c at *
 generalize hy0:y%4294967296=d at *
 obtain ⟨p0,p1⟩:=mul_bound a c (by omega) (by omega) (by omega) (by omega)
 obtain ⟨q0,q1⟩:=mul_bound a d (by omega) (by omega) (by omega) (by omega)
 obtain ⟨r0,r1⟩:=mul_bound b c (by omega) (by omega) (by omega) (by omega)
 obtain ⟨s0,s1⟩:=mul_bound b d (by omega) (by omega) (by omega) (by omega)
 have hxy:x*y=18446744073709551616*(a*c)+4294967296*(a*d)+4294967296*(b*c)+b*d:=by
  rw [← x1,← y1,Int.add_mul,Int.mul_add,Int.mul_add]
  have e1:4294967296*a*(4294967296*c)=18446744073709551616*(a*c):=by
   rw [show (18446744073709551616:Int)=4294967296*4294967296 from rfl];ac_rfl
  have e2:4294967296*a*d=4294967296*(a*d):=Int.mul_assoc _ _ _
  have e3:b*(4294967296*c)=4294967296*(b*c):=Int.mul_left_comm _ _ _
  rw [e1,e2,e3];omega
 rw [hxy]
 generalize a*c=P at *
 generalize a*d=Q at *
 generalize b*c=R at *
 generalize b*d=S at *
 have w0:∀ n:Int,0≤n→n<18446744073709551616→n%18446744073709551616=n:=fun n h0 h1=>Int.emod_eq_of_lt h0 h1
 rw [w0 P (by omega) (by omega),w0 Q (by omega) (by omega),w0 R (by omega) (by omega),w0 S (by omega) (by omega)]
 rw [w0 (Q+S/4294967296) (by omega) (by omega)]
 rw [w0 ((Q+S/4294967296)%4294967296+R) (by omega) (by omega)]
 rw [w0 (P+(Q+S/4294967296)/4294967296) (by omega) (by omega)]
 rw [w0 (P+(Q+S/4294967296)/4294967296+((Q+S/4294967296)%4294967296+R)/4294967296) (by omega) (by omega)]
 have hh:(18446744073709551616*P+4294967296*Q+4294967296*R+S)/18446744073709551616=P+(Q+S/4294967296)/4294967296+((Q+S/4294967296)%4294967296+R)/4294967296:=by omega
 rw [hh]
theorem prod_ok (a b:Int) (a0 : -9223372036854775808≤a) (a1:a<9223372036854775808) (b0 : -9223372036854775808≤b) (b1:b<9223372036854775808) :
  f219 a b=some (a*b/18446744073709551616,a*b%18446744073709551616):=by
 unfold f219
 rw [size_ok a a0 a1,size_ok b b0 b1]
 simp only [Aa]
 have key:∀ x y:Int,0≤x→x≤9223372036854775808→0≤y→y≤9223372036854775808→0≤x*y∧x*y≤85070591730234615865843651857942052864:=fun x y h0 h1 g0 g1=>⟨Int.mul_nonneg h0 g0,Int.mul_le_mul h1 g1 g0 (by decide)⟩
 have pos:∀ q:Int,0≤q→q≤85070591730234615865843651857942052864→IntKind.i64.wrap (q/18446744073709551616)=q/18446744073709551616:=fun q h0 h1=>Ae (by omega) (by omega)
 have neg:∀ q:Int,0≤q→q≤85070591730234615865843651857942052864→f85 (q/18446744073709551616,q%18446744073709551616)=some (-q/18446744073709551616,-q%18446744073709551616):=fun q h0 h1=>by
  unfold f85 f125
  simp only
  rw [sub_ok _ _ _ (by omega) (by omega) (by omega) (by omega) (by omega) (by omega)]
  simp only [Aa,wu]
  rw [sub_ok _ _ _ (by omega) (by omega) (by omega) (by omega) (by split <;> omega) (by split <;> omega)]
  simp only [Aa,Option.some.injEq,Prod.mk.injEq]
  constructor
  ·rw [wi];split <;> split <;> omega
  ·omega
 by_cases ha:a<0 <;> by_cases hb:b<0
 ·rw [show (decide (a<0)==decide (b<0))=true by simp [ha,hb],if_pos ha,if_pos hb]
  obtain ⟨k0,k1⟩:=key (-a) (-b) (by omega) (by omega) (by omega) (by omega)
  rw [mul64_ok _ _ (by omega) (by omega) (by omega) (by omega)]
  simp only [Aa,Bool.not_true,cond_false]
  rw [Int.neg_mul_neg] at *
  rw [pos _ k0 k1]
 ·rw [show (decide (a<0)==decide (b<0))=false by simp [ha,hb],if_pos ha,if_neg hb]
  obtain ⟨k0,k1⟩:=key (-a) b (by omega) (by omega) (by omega) (by omega)
  rw [mul64_ok _ _ (by omega) (by omega) (by omega) (by omega)]
  simp only [Aa,Bool.not_false,cond_true]
  rw [pos _ k0 k1,neg _ k0 k1]
  simp only [Aa,Int.neg_mul,Int.neg_neg]
 ·rw [show (decide (a<0)==decide (b<0))=false by simp [ha,hb],if_neg ha,if_pos hb]
  obtain ⟨k0,k1⟩:=key a (-b) (by omega) (by omega) (by omega) (by omega)
  rw [mul64_ok _ _ (by omega) (by omega) (by omega) (by omega)]
  simp only [Aa,Bool.not_false,cond_true]
  rw [pos _ k0 k1,neg _ k0 k1]
  simp only [Aa,Int.mul_neg,Int.neg_neg]
 ·rw [show (decide (a<0)==decide (b<0))=true by simp [ha,hb],if_neg ha,if_neg hb]
  obtain ⟨k0,k1⟩:=key a b (by omega) (by omega) (by omega) (by omega)
  rw [mul64_ok _ _ (by omega) (by omega) (by omega) (by omega)]
  simp only [Aa,Bool.not_true,cond_false]
  rw [pos _ k0 k1]
theorem prod_bound (a b:Int) (a0 : -9223372036854775808≤a) (a1:a<9223372036854775808) (b0 : -9223372036854775808≤b) (b1:b<9223372036854775808) :
  -85070591730234615865843651857942052864≤a*b∧a*b≤85070591730234615865843651857942052864:=by
 have key:∀ x y:Int,0≤x→x≤9223372036854775808→0≤y→y≤9223372036854775808→0≤x*y∧x*y≤85070591730234615865843651857942052864:=fun x y h0 h1 g0 g1=>⟨Int.mul_nonneg h0 g0,Int.mul_le_mul h1 g1 g0 (by decide)⟩
 by_cases ha:a<0 <;> by_cases hb:b<0
 ·have:=key (-a) (-b) (by omega) (by omega) (by omega) (by omega)
  rw [Int.neg_mul_neg] at this;omega
 ·have:=key (-a) b (by omega) (by omega) (by omega) (by omega)
  rw [Int.neg_mul] at this;omega
 ·have:=key a (-b) (by omega) (by omega) (by omega) (by omega)
  rw [Int.mul_neg] at this;omega
 ·have:=key a b (by omega) (by omega) (by omega) (by omega)
  omega
theorem dd (S:Int):S/340282366920938463463374607431768211456=S/18446744073709551616/18446744073709551616:=by omega
theorem sum_div (S p:Int):(S+p)/18446744073709551616=S/18446744073709551616+p/18446744073709551616+(S%18446744073709551616+p%18446744073709551616)/18446744073709551616:=by omega
theorem sum_div3 (s q k:Int):(s+q+k)/18446744073709551616=s/18446744073709551616+q/18446744073709551616+(s%18446744073709551616+q%18446744073709551616+k)/18446744073709551616:=by omega
theorem plus_ok (S a b:Int) (s0 : -1000000000000000000000000000000000000000000000≤S) (s1:S≤1000000000000000000000000000000000000000000000)
  (a0 : -9223372036854775808≤a) (a1:a<9223372036854775808) (b0 : -9223372036854775808≤b) (b1:b<9223372036854775808) :
  f192 (S/340282366920938463463374607431768211456) (IntKind.i64.wrap (S/18446744073709551616)) (S%18446744073709551616) a b =
   some ((S+a*b)/340282366920938463463374607431768211456,IntKind.i64.wrap ((S+a*b)/18446744073709551616),(S+a*b)%18446744073709551616):=by
 obtain ⟨p0,p1⟩:=prod_bound a b a0 a1 b0 b1
 unfold f192
 rw [prod_ok a b a0 a1 b0 b1]
 generalize a*b=p at *
 simp only [Aa]
 rw [add_ok _ _ _ (by omega) (by omega) (by omega) (by omega)]
 simp only [Aa,wu_wi]
 rw [wu,add_ok _ _ _ (by omega) (by omega) (by omega) (by omega)]
 simp only [Aa,sh63i,Option.some.injEq,Prod.mk.injEq,Int.add_zero]
 have hk0:0≤(S%18446744073709551616+p%18446744073709551616)/18446744073709551616:=by omega
 have hk1:(S%18446744073709551616+p%18446744073709551616)/18446744073709551616≤1:=by omega
 have hlo:(S%18446744073709551616+p%18446744073709551616)%18446744073709551616=(S+p)%18446744073709551616:=by omega
 have hs0 : -100000000000000000000000000≤S/18446744073709551616:=by omega
 have hs1:S/18446744073709551616≤100000000000000000000000000:=by omega
 have hq0 : -4611686018427387905≤p/18446744073709551616:=by omega
 have hq1:p/18446744073709551616≤4611686018427387905:=by omega
 rw [dd S,dd (S+p),sum_div S p,hlo]
 generalize (S%18446744073709551616+p%18446744073709551616)/18446744073709551616=k at *
 generalize S/18446744073709551616=s at *
 generalize p/18446744073709551616=q at *
 have hc0:0≤(s%18446744073709551616+q%18446744073709551616+k)/18446744073709551616:=by omega
 have hc1:(s%18446744073709551616+q%18446744073709551616+k)/18446744073709551616≤1:=by omega
 have hq:q/9223372036854775808=q/18446744073709551616:=by omega
 have hqr : -1≤q/18446744073709551616∧q/18446744073709551616≤0:=by omega
 have hsr : -100000000≤s/18446744073709551616∧s/18446744073709551616≤100000000:=by omega
 refine ⟨?_,?_,rfl⟩
 ·rw [sum_div3 s q k,hq]
  generalize (s%18446744073709551616+q%18446744073709551616+k)/18446744073709551616=c2 at *
  rw [Ae (n:=c2) (by omega) (by omega),Ae (n:=q/18446744073709551616+c2) (by omega) (by omega),Ae]
  omega
 ·rw [wi_mod,← wi_mod,← wi_mod (s+q+k)]
  congr 1
  omega
def rhe (S:Int):Int:=if S%4294967296>2147483648∨(S%4294967296=2147483648∧S/4294967296%2=1) then S/4294967296+1 else S/4294967296
def sat (x:Int):Int:=if x≥9223372036854775808 then 9223372036854775807 else if x < -9223372036854775808 then -9223372036854775808 else x
theorem fix_ok (R:Int) (h0 : -1000000000000000000000000000000000000≤R) (h1:R≤1000000000000000000000000000000000000):f84 (R/18446744073709551616,R%18446744073709551616)=some (sat R):=by
 unfold f84 f84_j2 f84_j3 sat
 simp only
 by_cases c1:R/18446744073709551616>0
 ·rw [show decide (R/18446744073709551616>0)=true by simpa using c1]
  simp only [cond_true,Aa,As]
  rw [iPo]
 ·rw [show decide (R/18446744073709551616>0)=false by simpa using c1]
  simp only [cond_false]
  by_cases c2:R/18446744073709551616=0
  ·rw [show (R/18446744073709551616==0)=true by simpa using c2]
   simp only [cond_true,Aa]
   by_cases c3:R%18446744073709551616≥9223372036854775808
   ·rw [show decide (R%18446744073709551616≥9223372036854775808)=true by simpa using c3]
    simp only [cond_true,Aa,As]
    rw [iPo]
   ·rw [show decide (R%18446744073709551616≥9223372036854775808)=false by simpa using c3]
    simp only [cond_false]
    rw [show decide (R/18446744073709551616 < -1)=false by simp;omega,show (R/18446744073709551616==-1)=false by simp;omega]
    simp only [cond_false,Aa,Ai]
    rw [iNo,iNo,Ae]
    congr 1;omega
  ·rw [show (R/18446744073709551616==0)=false by simpa using c2]
   simp only [cond_false,Aa]
   by_cases c4:R/18446744073709551616 < -1
   ·rw [show decide (R/18446744073709551616 < -1)=true by simpa using c4]
    simp only [cond_true,Aa,As]
    rw [iNo,iPo]
   ·rw [show decide (R/18446744073709551616 < -1)=false by simpa using c4,show (R/18446744073709551616==-1)=true by simp;omega]
    simp only [cond_false,cond_true]
    by_cases c5:R%18446744073709551616<9223372036854775808
    ·rw [show decide (R%18446744073709551616<9223372036854775808)=true by simpa using c5]
     simp only [cond_true,Aa,As]
     rw [iNo,iPo]
    ·rw [show decide (R%18446744073709551616<9223372036854775808)=false by simpa using c5]
     simp only [cond_false,Aa,Ai]
     rw [iNo,iNo,wi]
     congr 1
     split <;> omega
theorem down_ok (S:Int):f226 (S/18446744073709551616,S%18446744073709551616) 32 =
  some (S/18446744073709551616/4294967296,S/4294967296%18446744073709551616,S%4294967296*4294967296,0):=by
 unfold f226
 rw [show decide ((32:Int)≥64)=false from rfl]
 simp only [cond_false]
 rw [Ab (by decide),Ab (by decide),Ab (by decide),Ab (by decide)]
 simp only [sh32i,sh32u]
 rw [show ((2:Int) ^ min (Int.toNat (IntKind.i64.wrap ((64:Int)-32))) (IntKind.bits IntKind.u64))=4294967296 from rfl]
 simp only [wu,Option.some.injEq,Prod.mk.injEq,and_true,true_and]
 refine ⟨?_,by omega⟩
 have e:S/18446744073709551616%18446744073709551616*4294967296%18446744073709551616=S/18446744073709551616%4294967296*4294967296:=by omega
 rw [e,or32 _ _ (by omega) (by omega) (by omega) (by omega)]
 omega
theorem shift_ok (S:Int) (h0 : -170141183460469231731687303715884105728≤S) (h1:S<170141183460469231731687303715884105728) :
  f220 (S/18446744073709551616,S%18446744073709551616) 32=some (rhe S/18446744073709551616,rhe S%18446744073709551616):=by
 unfold f220
 rw [show f220_j1 32=some (Sum.inl ()) from rfl]
 simp only [Aa,Ai,down_ok]
 have hup:∀ q:Int,f31 (q/18446744073709551616,q%18446744073709551616) (0,1)=some (IntKind.i64.wrap ((q+1)/18446744073709551616),(q+1)%18446744073709551616):=fun q=>by
  unfold f31
  simp only
  rw [add_ok _ _ _ (by omega) (by omega) (by omega) (by omega)]
  simp only [Aa,wu]
  rw [add_ok _ _ _ (by omega) (by omega) (by omega) (by omega)]
  simp only [Aa,Option.some.injEq,Prod.mk.injEq]
  constructor
  ·rw [wi_mod,← wi_mod,← wi_mod ((q+1)/18446744073709551616)]
   congr 1
   omega
  ·omega
 have e1:S/18446744073709551616/4294967296=S/4294967296/18446744073709551616:=by omega
 rw [e1]
 have hr:rhe S=S/4294967296+1∨rhe S=S/4294967296:=by unfold rhe;split <;> simp
 have up:f220_j2 (S/4294967296/18446744073709551616,S/4294967296%18446744073709551616,S%4294967296*4294967296,0) =
   some (decide (S%4294967296>2147483648∨(S%4294967296=2147483648∧S/4294967296%2=1))):=by
  unfold f220_j2
  simp only
  by_cases c1:S%4294967296>2147483648
  ·rw [show decide (S%4294967296*4294967296>9223372036854775808)=true by simp;omega]
   simp [c1]
  ·rw [show decide (S%4294967296*4294967296>9223372036854775808)=false by simp;omega]
   simp only [cond_false]
   by_cases c2:S%4294967296=2147483648
   ·rw [show (S%4294967296*4294967296==9223372036854775808)=true by simp;omega]
    simp only [cond_true]
    rw [show decide ((0:Int)>0)=false from rfl,and1 _ (by omega) (by omega)]
    simp only [cond_false,Option.some.injEq]
    rw [show S/4294967296%18446744073709551616%2=S/4294967296%2 by omega]
    simp [c2]
    rfl
   ·rw [show (S%4294967296*4294967296==9223372036854775808)=false by simp;omega]
    simp [c1,c2]
 rw [up]
 simp only [Aa]
 by_cases c:S%4294967296>2147483648∨(S%4294967296=2147483648∧S/4294967296%2=1)
 ·rw [show decide _=true from decide_eq_true c]
  have hrr:rhe S=S/4294967296+1:=by unfold rhe;rw [if_pos c]
  rw [show f32 1=some (0,1) from rfl]
  simp only [cond_true,Aa,hup]
  rw [hrr,Ae]
 ·rw [show decide _=false from decide_eq_false c]
  have hrr:rhe S=S/4294967296:=by unfold rhe;rw [if_neg c]
  simp only [cond_false]
  rw [hrr]
theorem accFix_ok (S:Int) (s0 : -1000000000000000000000000000000000000000000000≤S) (s1:S≤1000000000000000000000000000000000000000000000) :
  ∃ x y z,f193 (S/340282366920938463463374607431768211456) (IntKind.i64.wrap (S/18446744073709551616)) (S%18446744073709551616) 32=some (sat (rhe S),x,y,z):=by
 have hrb:S/4294967296≤rhe S∧rhe S≤S/4294967296+1:=by unfold rhe;split <;> omega
 unfold f193
 rw [sh63i]
 by_cases c : -170141183460469231731687303715884105728≤S∧S<170141183460469231731687303715884105728
 ·obtain ⟨c0,c1⟩:=c
  have hw:IntKind.i64.wrap (S/18446744073709551616)=S/18446744073709551616:=Ae (by omega) (by omega)
  rw [hw,show (S/340282366920938463463374607431768211456==S/18446744073709551616/9223372036854775808)=true by simp;omega]
  simp only [cond_true,shift_ok S c0 c1,Aa]
  rw [fix_ok _ (by omega) (by omega)]
  exact ⟨_,_,_,rfl⟩
 ·have hne:¬S/340282366920938463463374607431768211456=IntKind.i64.wrap (S/18446744073709551616)/9223372036854775808:=by
   rw [wi];split <;> omega
  rw [show (S/340282366920938463463374607431768211456==IntKind.i64.wrap (S/18446744073709551616)/9223372036854775808)=false by simpa using hne]
  simp only [cond_false]
  by_cases c2:S/340282366920938463463374607431768211456<0
  ·rw [show decide (S/340282366920938463463374607431768211456<0)=true by simpa using c2]
   refine ⟨S/340282366920938463463374607431768211456,IntKind.i64.wrap (S/18446744073709551616),S%18446744073709551616,?_⟩
   simp only [cond_true]
   congr 2
   unfold sat
   rw [iNo,iPo]
  ·rw [show decide (S/340282366920938463463374607431768211456<0)=false by simpa using c2]
   refine ⟨S/340282366920938463463374607431768211456,IntKind.i64.wrap (S/18446744073709551616),S%18446744073709551616,?_⟩
   simp only [cond_false]
   congr 2
   unfold sat
   rw [iPo]
def inI (l:List Int):Prop:=∀ x ∈ l,-9223372036854775808≤x∧x<9223372036854775808
end Go.Proofs.PlW
namespace Go.Proofs.PlT
open Go.AM Go.Proofs.PlB Go.Proofs.PlW
theorem pgo_range:∀ (d:List Int) (n:Int),0≤n→n≤4096→0≤pgo n d∧pgo n d≤4096
 | [],n,h0,h1=>⟨h0,h1⟩
 | x::r,n,h0,h1=>by
  simp only [pgo]
  split
  ·omega
  ·have:0≤n*x:=Int.mul_nonneg h0 (by omega)
   exact pgo_range r _ this (by omega)
theorem Av (d:List Int):0≤prd d∧prd d≤4096:=by
 unfold prd
 split
 ·omega
 ·exact pgo_range d 1 (by omega) (by omega)
theorem Dy {d:List Int} (h:0<prd d):d.length≤4:=by
 unfold prd at h
 split at h <;> omega
theorem over_rep (v:Int) (n c m:Nat) (h:c+m≤n):over (List.replicate c v++List.replicate (n-c) 0) (c:Int) (List.replicate m v)=List.replicate (c+m) v++List.replicate (n-(c+m)) 0:=by
 unfold over
 simp only [Int.toNat_natCast,List.length_replicate]
 rw [List.take_append_of_le_length (by simp),List.take_of_length_le (by simp),List.drop_append,List.drop_of_length_le (by simp),List.nil_append,List.length_replicate,List.drop_replicate,List.replicate_append_replicate]
 congr 2
 omega
theorem repeat_ok (v:Int) (n:Nat) (h:n≤4096):f115 [v] (n:Int)=some (List.replicate n v):=by
 unfold f115
 rw [show decide ((n:Int)<0)=false by simp]
 simp only [cond_false,f139]
 rw [mul64_ok _ _ (by rw [wu];omega) (by rw [wu];omega) (by rw [wu];omega) (by rw [wu];omega)]
 simp only [Aa,wu,List.length_cons,List.length_nil]
 have e1:(((0+1:Nat):Int)%18446744073709551616*((n:Int)%18446744073709551616))=n:=by
  rw [show (((0+1:Nat):Int)%18446744073709551616)=1 from rfl,Int.one_mul];omega
 rw [e1,show (n:Int)/18446744073709551616=0 by omega,show (n:Int)%18446744073709551616=n by omega]
 have hj:f115_j1 ((0:Int),(n:Int))=some ():=by
  unfold f115_j1
  simp only
  rw [show decide ((0:Int)>0)=false from rfl,show decide ((n:Int)>9223372036854775807)=false by simp;omega]
  rfl
 rw [hj,Ae]
 simp only [Aa,Int.toNat_natCast,List.length_replicate]
 rw [Ab]
 have e2:List.take (n-(0:Int).toNat) [v]=List.replicate (min n 1) v:=by
  cases n with
  | zero=>rfl
  | succ n=>rw [show min (n+1) 1=1 by omega];simp
 rw [show (0:Int).toNat=0 from rfl] at *
 rw [e2]
 have H:∀ x:Int×List Int,(∃ c:Nat,x=((c:Int),List.replicate c v++List.replicate (n-c) 0)∧c≤n∧(1≤n→1≤c))→
   (∃ z,(∀ go,f115_l2 go x.1 x.2=some z)∧z=List.replicate n v)∨
   (∃ y:Int×List Int,(∀ go,f115_l2 go x.1 x.2=go y)∧(∃ c:Nat,y=((c:Int),List.replicate c v++List.replicate (n-c) 0)∧c≤n∧(1≤n→1≤c))∧((n:Int)-y.1).toNat<((n:Int)-x.1).toNat):=by
  rintro _ ⟨c,rfl,hc,h1⟩
  have hlen:(List.replicate c v++List.replicate (n-c) (0:Int)).length=n:=by simp;omega
  by_cases hlt:c<n
  ·right
   have ht:List.take ((n:Int).toNat-(c:Int).toNat) (List.drop (0:Int).toNat (List.take (c:Int).toNat (List.replicate c v++List.replicate (n-c) (0:Int))))=List.replicate (min (n-c) c) v:=by
    simp only [Int.toNat_natCast,show (0:Int).toNat=0 from rfl,List.drop_zero]
    rw [List.take_append_of_le_length (by simp),List.take_replicate,List.take_replicate]
    congr 1;omega
   refine ⟨(((c+min (n-c) c:Nat):Int),_),fun go=>?_,⟨c+min (n-c) c,rfl,by omega,by omega⟩,by simp only;omega⟩
   simp only [f115_l2,hlen]
   rw [show decide ((c:Int)<(n:Int))=true by simpa using hlt]
   simp only [cond_true]
   rw [Ab,Ab,ht,List.length_replicate,Ae,over_rep v n c _ (by omega)]
   rfl
  ·left
   have:c=n:=by omega
   subst this
   refine ⟨_,fun go=>?_,rfl⟩
   simp only [f115_l2,hlen]
   rw [show decide ((c:Int)<(c:Int))=false by simp]
   simp
 have e3:(((List.replicate (min n 1) v).length:Int),over (List.replicate n (0:Int)) 0 (List.replicate (min n 1) v))=(((min n 1:Nat):Int),List.replicate (min n 1) v++List.replicate (n-min n 1) 0):=by
  have:=over_rep v n 0 (min n 1) (by omega)
  simp only [List.replicate_zero,List.nil_append,Nat.sub_zero,Nat.zero_add] at this
  rw [List.length_replicate]
  exact Prod.ext rfl this
 rw [e3]
 obtain ⟨z,e,rfl⟩:=Bf (B:=fun go (x:Int×List Int)=>f115_l2 go x.1 x.2) _ (fun x=>((n:Int)-x.1).toNat) _ H _ ⟨min n 1,rfl,by omega,by omega⟩ (by simp only;omega)
 rw [e]
 rfl
theorem new_ok (d:List Int) (v:Int):f75 d v=some (if 0<prd d then (0,d,List.replicate (prd d).toNat v) else (1,[],[])):=by
 unfold f75
 rw [Ay]
 simp only [Aa]
 by_cases h:0<prd d
 ·have hl:=Dy h
  have hr:=Av d
  rw [show decide (prd d>0)=true by simpa using h,if_pos h,clone_d d (by omega),PlB.size_ok]
  simp only [Bool.not_true,cond_false,Aa]
  rw [show prd d=(((prd d).toNat:Nat):Int) by omega,repeat_ok v _ (by omega)]
  simp only [Aa,Int.toNat_natCast]
 ·rw [show decide (prd d>0)=false by simpa using h,if_neg h]
  rfl
theorem prd_two (n m:Int):prd [n,m]=if n<1∨n>4096∨m<1∨m>4096∨n*m>4096 then 0 else n*m:=by
 simp only [prd,pgo,List.length_cons,List.length_nil,Int.one_mul]
 rw [iNo]
 by_cases h1:n<1∨n>4096∨n>4096
 ·rw [if_pos h1,iPo]
 ·rw [if_neg h1]
  by_cases h2:m<1∨m>4096∨n*m>4096
  ·rw [if_pos h2,iPo]
  ·rw [if_neg h2,iNo]
end Go.Proofs.PlT
namespace Go.AM
open Go.Proofs.PlT
theorem dT {p:Prop} [Decidable p] (h:p:=by omega):decide p=true:=decide_eq_true h
theorem dF {p:Prop} [Decidable p] (h:¬p:=by omega):decide p=false:=decide_eq_false h
theorem bT {a b:Int} (h:a=b):(a==b)=true:=by simpa using h
theorem bF {a b:Int} (h:¬a=b):(a==b)=false:=by simpa using h
theorem nT {a b:Int} (h:¬a=b:=by omega):(a != b)=true:=by simpa using h
theorem nF {a b:Int} (h:a=b:=by omega):(a != b)=false:=by simpa using h
theorem loop_for_aux {X Z:Type} {B:(X→Option Z)→X→Option Z} (s:Nat→X) (n:Nat) (z:Z)
  (hs:∀ k,k<n→∀ go,B go (s k)=go (s (k+1))) (he:∀ go,B go (s n)=some z) :
  ∀ m k,k≤n→n<m+k→Ag B m (s k)=some z
 | 0,k,h1,h2=>absurd h1 (by omega)
 | m+1,k,h1,h2=>by
  rw [Bj]
  by_cases h:k<n
  ·rw [hs k h];exact loop_for_aux s n z hs he m (k+1) h (by omega)
  ·rw [show k=n by omega];exact he _
theorem Ba {X Z:Type} {B:(X→Option Z)→X→Option Z} (s:Nat→X) (n:Nat) (z:Z)
  (hs:∀ k,k<n→∀ go,B go (s k)=go (s (k+1))) (he:∀ go,B go (s n)=some z) (hn:n<18446744073709551616) :
  Ag B Ah (s 0)=some z:=loop_for_aux s n z hs he Ah 0 (Nat.zero_le _) (by show n<18446744073709551616+0;omega)
def firstB (P:Nat→Bool):Nat→Nat→Option Nat
 | k,0=>none
 | k,n+1=>if P k then some k else firstB P (k+1) n
theorem loop_find_aux {X Z:Type} {B:(X→Option Z)→X→Option Z} (s:Nat→X) (P:Nat→Bool) (zx:Nat→Z) (z:Z) (n:Nat)
  (hs:∀ k,k<n→P k=false→∀ go,B go (s k)=go (s (k+1))) (hx:∀ k,k<n→P k=true→∀ go,B go (s k)=some (zx k)) (he:∀ go,B go (s n)=some z) :
  ∀ r m k,k+r=n→r<m→Ag B m (s k)=some (match firstB P k r with | some i=>zx i | none=>z)
 | 0,0,k,h1,h2=>absurd h2 (by omega)
 | 0,m+1,k,h1,h2=>by rw [Bj,show k=n by omega];exact he _
 | r+1,0,k,h1,h2=>absurd h2 (by omega)
 | r+1,m+1,k,h1,h2=>by
  rw [Bj]
  unfold firstB
  cases h:P k
  ·rw [hs k (by omega) h];exact loop_find_aux s P zx z n hs hx he r m (k+1) (by omega) (by omega)
  ·rw [hx k (by omega) h];rfl
theorem loop_find {X Z:Type} {B:(X→Option Z)→X→Option Z} (s:Nat→X) (P:Nat→Bool) (zx:Nat→Z) (z:Z) (n:Nat)
  (hs:∀ k,k<n→P k=false→∀ go,B go (s k)=go (s (k+1))) (hx:∀ k,k<n→P k=true→∀ go,B go (s k)=some (zx k)) (he:∀ go,B go (s n)=some z) (hn:n<18446744073709551616) :
  Ag B Ah (s 0)=some (match firstB P 0 n with | some i=>zx i | none=>z):=loop_find_aux s P zx z n hs hx he n Ah 0 (by omega) (by show n<18446744073709551616;omega)
theorem firstB_none (P:Nat→Bool):∀ n k,(firstB P k n=none↔∀ i,k≤i→i<k+n→P i=false)
 | 0,k=>by simp only [firstB,true_iff];intro i h1 h2;omega
 | n+1,k=>by
  unfold firstB
  by_cases h:P k=true
  ·simp only [h,if_true]
   constructor
   ·intro h';exact absurd h' (by simp)
   ·intro h';have:=h' k (Nat.le_refl _) (by omega);rw [h] at this;exact absurd this (by decide)
  ·rw [if_neg h,firstB_none P n (k+1)]
   constructor
   ·intro h' i h1 h2
    by_cases hk:i=k
    ·subst hk;simpa using h
    ·exact h' i (by omega) (by omega)
   ·intro h' i h1 h2;exact h' i (by omega) (by omega)
def anyB (n:Nat) (P:Nat→Bool):Bool:=(firstB P 0 n).isSome
theorem anyB_false {n:Nat} {P:Nat→Bool}:anyB n P=false↔∀ i,i<n→P i=false:=by
 unfold anyB
 rw [Option.isSome_eq_false_iff,Option.isNone_iff_eq_none,firstB_none]
 constructor
 ·intro h i hi;exact h i (Nat.zero_le _) (by omega)
 ·intro h i _ hi;exact h i (by omega)
theorem loop_any {X Z:Type} {B:(X→Option Z)→X→Option Z} (s:Nat→X) (P:Nat→Bool) (zx z:Z) (n:Nat)
  (hs:∀ k,k<n→P k=false→∀ go,B go (s k)=go (s (k+1))) (hx:∀ k,k<n→P k=true→∀ go,B go (s k)=some zx) (he:∀ go,B go (s n)=some z) (hn:n<18446744073709551616) :
  Ag B Ah (s 0)=some (bif anyB n P then zx else z):=by
 rw [loop_find s P (fun _=>zx) z n hs hx he hn]
 unfold anyB
 cases firstB P 0 n <;> rfl
theorem loop_rel_aux {X Z:Type} {B:(X→Option Z)→X→Option Z} (R:Nat→X→Prop) (Q:Z→Prop) (n:Nat)
  (hs:∀ k,k<n→∀ x,R k x→∃ y,(∀ go,B go x=go y)∧R (k+1) y) (he:∀ x,R n x→∃ z,(∀ go,B go x=some z)∧Q z) :
  ∀ m k x,k≤n→n<m+k→R k x→∃ z,Ag B m x=some z∧Q z
 | 0,k,x,h1,h2,_=>absurd h1 (by omega)
 | m+1,k,x,h1,h2,hr=>by
  rw [Bj]
  by_cases h:k<n
  ·obtain ⟨y,e,hy⟩:=hs k h x hr
   rw [e];exact loop_rel_aux R Q n hs he m (k+1) y h (by omega) hy
  ·rw [show k=n by omega] at hr
   obtain ⟨z,e,hz⟩:=he x hr
   exact ⟨z,e _,hz⟩
theorem Ds {X Z:Type} {B:(X→Option Z)→X→Option Z} (R:Nat→X→Prop) (Q:Z→Prop) (n:Nat) (x:X) (h0:R 0 x)
  (hs:∀ k,k<n→∀ x,R k x→∃ y,(∀ go,B go x=go y)∧R (k+1) y) (he:∀ x,R n x→∃ z,(∀ go,B go x=some z)∧Q z) (hn:n<18446744073709551616) :
  ∃ z,Ag B Ah x=some z∧Q z:=loop_rel_aux R Q n hs he Ah 0 x (Nat.zero_le _) (by show n<18446744073709551616+0;omega) h0
end Go.AM
namespace Go.Proofs.PlB
open Go.AM
theorem clone_v (d:List Int) (h:d.length≤17592186044416):f24 d=some d:=by
 unfold f24 nilF
 cases d with
 | nil=>rfl
 | cons x r=>
  simp only
  rw [Ab (by simp at h ⊢;omega)]
  rfl
theorem copy_t (t:List Int×List Int) (h1:t.1.length≤17592186044416) (h2:t.2.length≤17592186044416):f118 t=some t:=by
 unfold f118
 simp only [clone_d _ h1,clone_v _ h2,Aa]
end Go.Proofs.PlB
namespace Go.Proofs.PlS
open Go.AM Go.Proofs.PlB Go.Proofs.PlW Go.Proofs.PlT
def Ao {α:Type} (n:Nat) (g:Nat→α):List α:=(List.range n).map g
theorem Ap {α:Type} (n:Nat) (g:Nat→α):(Ao n g).length=n:=by simp [Ao]
theorem tab_get {α:Type} (n:Nat) (g:Nat→α) (i:Nat) (h:i<(Ao n g).length):(Ao n g)[i]=g i:=by simp [Ao]
theorem Au {α:Type} (n:Nat) (g f:Nat→α) (h:∀ i,i<n→g i=f i):Ao n g=Ao n f:=by
 unfold Ao;exact List.map_congr_left (fun i hi=>h i (List.mem_range.1 hi))
theorem Dd {α:Type} (n:Nat) (g:Nat→α) (j:Nat) (v:α):(Ao n g).set j v=Ao n (fun i=>if i=j then v else g i):=by
 apply List.ext_getElem
 ·simp [Ao]
 ·intro i h1 h2
  rw [List.getElem_set,tab_get _ _ _ h2]
  by_cases h:j=i
  ·rw [if_pos h,if_pos h.symm]
  ·rw [if_neg h,if_neg (Ne.symm h),tab_get]
theorem Ej {α:Type} (n:Nat) (v:α):List.replicate n v=Ao n (fun _=>v):=by
 apply List.ext_getElem
 ·simp [Ao]
 ·intro i h1 h2;simp [Ao]
theorem Di {α:Type} (z:α) (n:Nat) (g:Nat→α) (i:Nat) (h:i<n):rd z (Ao n g) (i:Int)=g i:=by
 rw [Bi _ _ _ (by rw [Ap];exact h),tab_get]
def Bh:List Int→Int
 | []=>1
 | x::r=>x*Bh r
theorem pgo_prod:∀ (d:List Int) (n:Int),1≤n→0<pgo n d→pgo n d=n*Bh d∧∀ x ∈ d,1≤x∧x≤4096
 | [],n,h,hp=>⟨by simp [pgo,Bh],fun x hx=>by simp at hx⟩
 | x::r,n,h,hp=>by
  simp only [pgo] at hp ⊢
  by_cases hb:x<1∨x>4096∨n*x>4096
  ·rw [if_pos hb] at hp;exact absurd hp (by decide)
  ·rw [if_neg hb] at hp ⊢
   have h1:1*1≤n*x:=Int.mul_le_mul h (by omega) (by omega) (by omega)
   obtain ⟨e,m⟩:=pgo_prod r (n*x) (by omega) hp
   refine ⟨by rw [e,Bh,Int.mul_assoc],fun y hy=>?_⟩
   rcases List.mem_cons.1 hy with rfl | hy
   ·omega
   ·exact m y hy
theorem B5 {d:List Int} (h:0<prd d):prd d=Bh d∧(∀ x ∈ d,1≤x∧x≤4096)∧d.length≤4:=by
 have hl:=Dy h
 have e:prd d=pgo 1 d:=by unfold prd;rw [iNo]
 rw [e] at h ⊢
 obtain ⟨a,b⟩:=pgo_prod d 1 (by omega) h
 exact ⟨by rw [a,Int.one_mul],b,hl⟩
theorem getD_at (d:List Int) (i:Nat) (h:i<d.length):d.getD i 0=d[i]:=by simp [List.getD,h]
def Aj (d:List Int) (k:Nat):Int:=if k<d.length then d.getD (d.length-1-k) 0 else 1
theorem side_rd (d:List Int) (k:Nat) (h:k<d.length):rd (0:Int) d ((d.length-1-k:Nat):Int)=Aj d k:=by
 unfold Aj
 rw [if_pos h,Bi _ _ _ (by omega),getD_at _ _ (by omega)]
theorem Df {d:List Int} (h:0<prd d) (k:Nat):1≤Aj d k∧Aj d k≤4096:=by
 obtain ⟨_,b,_⟩:=B5 h
 unfold Aj
 split
 ·rw [getD_at _ _ (by omega)]
  exact b _ (List.getElem_mem _)
 ·omega
def strd (d:List Int) (k:Nat):Int:=Bh (d.drop (d.length-k))
theorem strd_zero (d:List Int):strd d 0=1:=by unfold strd;simp [Bh]
theorem strd_all (d:List Int):strd d d.length=Bh d:=by unfold strd;simp
theorem strd_succ (d:List Int) (k:Nat) (h:k<d.length):strd d (k+1)=Aj d k*strd d k:=by
 unfold strd Aj
 rw [if_pos h,getD_at _ _ (by omega)]
 rw [List.drop_eq_getElem_cons (show d.length-(k+1)<d.length by omega),Bh,show d.length-(k+1)+1=d.length-k by omega]
 congr 2
 omega
theorem strd_pos {d:List Int} (h:0<prd d):∀ k,k≤d.length→1≤strd d k
 | 0,_=>by rw [strd_zero];omega
 | k+1,hk=>by
  rw [strd_succ d k hk]
  have:=strd_pos h k (by omega)
  have hs:=(Df h k).1
  have:1*1≤Aj d k*strd d k:=Int.mul_le_mul hs this (by omega) (by omega)
  omega
theorem strd_mono {d:List Int} (h:0<prd d):∀ n k,k+n=d.length→strd d k≤Bh d
 | 0,k,hk=>by rw [show k=d.length by omega,strd_all];omega
 | n+1,k,hk=>by
  have:=strd_mono h n (k+1) (by omega)
  rw [strd_succ d k (by omega)] at this
  have hs:=(Df h k).1
  have hp:=strd_pos h k (by omega)
  have:1*strd d k≤Aj d k*strd d k:=Int.mul_le_mul_of_nonneg_right hs (by omega)
  omega
theorem strd_le {d:List Int} (h:0<prd d) (k:Nat) (hk:k≤d.length):strd d k≤prd d:=by
 rw [(B5 h).1];exact strd_mono h (d.length-k) k (by omega)
def strL (d:List Int):List Int:=Ao d.length (fun i=>strd d (d.length-1-i))
theorem strides (d:List Int) (h:0<prd d):f214 d=some (strL d):=by
 obtain ⟨_,_,hl⟩:=B5 h
 have hr:=Av d
 unfold f214
 rw [Ay,show decide (prd d>0)=true by simpa using h]
 simp only [Aa,Bool.not_true,cond_false]
 rw [Ab]
 have H:∀ x:Int×Int×List Int,(∃ k:Nat,k≤d.length∧x=(strd d k,(d.length:Int)-1-k,Ao d.length (fun i=>if d.length-1-i<k then strd d (d.length-1-i) else 0)))→
   (∃ z,(∀ go,f214_l1 d go x.1 x.2.1 x.2.2=some z)∧z=strL d)∨
   (∃ y:Int×Int×List Int,(∀ go,f214_l1 d go x.1 x.2.1 x.2.2=go y)∧(∃ k:Nat,k≤d.length∧y=(strd d k,(d.length:Int)-1-k,Ao d.length (fun i=>if d.length-1-i<k then strd d (d.length-1-i) else 0)))∧(y.2.1+1).toNat<(x.2.1+1).toNat):=by
  rintro _ ⟨k,hk,rfl⟩
  by_cases hlt:k<d.length
  ·right
   refine ⟨(strd d (k+1),(d.length:Int)-1-((k+1:Nat):Int),Ao d.length (fun i=>if d.length-1-i<k+1 then strd d (d.length-1-i) else 0)),fun go=>?_,⟨k+1,hlt,rfl⟩,by simp only;omega⟩
   unfold f214_l1
   simp only [Ap]
   rw [show decide ((d.length:Int)-1-(k:Int)≥0)=true by simp;omega]
   simp only [cond_true]
   rw [Ab,Ab]
   rw [show (d.length:Int)-1-(k:Int)=((d.length-1-k:Nat):Int) by omega,side_rd d k hlt,Int.toNat_natCast,Dd]
   have hs:=strd_succ d k hlt
   have hb1:=strd_pos h (k+1) hlt
   have hb2:=strd_le h (k+1) hlt
   rw [Int.mul_comm,← hs,Ae (n:=strd d (k+1)) (by omega) (by omega),Ae]
   congr 1
   refine Prod.ext rfl (Prod.ext (by simp only;omega) (Au _ _ _ (fun i hi=>?_)))
   by_cases he:i=d.length-1-k
   ·rw [if_pos he,iPo,show d.length-1-i=k by omega]
   ·rw [if_neg he]
    by_cases h2:d.length-1-i<k
    ·rw [if_pos h2,iPo]
    ·rw [if_neg h2,iNo]
  ·left
   have:k=d.length:=by omega
   subst this
   refine ⟨_,fun go=>?_,rfl⟩
   unfold f214_l1
   simp only
   rw [show decide ((d.length:Int)-1-(d.length:Int)≥0)=false by simp;omega]
   simp only [cond_false,Option.some.injEq]
   exact Au _ _ _ (fun i hi=>by rw [iPo])
 have e0:((1:Int),IntKind.i64.wrap ((d.length:Int)-1),List.replicate (Int.toNat (d.length:Int)) (0:Int))=(strd d 0,(d.length:Int)-1-((0:Nat):Int),Ao d.length (fun i=>if d.length-1-i<0 then strd d (d.length-1-i) else 0)):=by
  rw [strd_zero,Ae,Int.toNat_natCast,Ej]
  refine Prod.ext rfl (Prod.ext (by simp) (Au _ _ _ (fun i hi=>by rw [iNo])))
 rw [e0]
 obtain ⟨z,e,rfl⟩:=Bf (B:=fun go (x:Int×Int×List Int)=>f214_l1 d go x.1 x.2.1 x.2.2) _ (fun x=>(x.2.1+1).toNat) _ H _ ⟨0,Nat.zero_le _,rfl⟩ (by simp only;omega)
 rw [e]
 rfl
theorem side_ok (d:List Int) (k:Nat) (hl:d.length≤4096) (hk:k≤4096):f213 d (k:Int)=some (Aj d k):=by
 unfold f213
 by_cases h:k<d.length
 ·rw [show decide ((k:Int)≥(d.length:Int))=false by simp;omega]
  simp only [cond_false]
  rw [Ae (n:=(d.length:Int)-1) (by omega) (by omega),Ae,Ab,show (d.length:Int)-1-(k:Int)=((d.length-1-k:Nat):Int) by omega,side_rd d k h]
 ·rw [show decide ((k:Int)≥(d.length:Int))=true by simp;omega]
  simp only [cond_true]
  unfold Aj
  rw [if_neg h]
structure Joined (a b d:List Int):Prop where
 pa:0<prd a
 pb:0<prd b
 pd:0<prd d
 len:d.length=max a.length b.length
 le:∀ k,k<d.length→Aj d k=max (Aj a k) (Aj b k)
 ok:∀ k,k<d.length→Aj a k=Aj b k∨Aj a k=1∨Aj b k=1
def rst (big:List Int) (v:Int):Nat→Int
 | 0=>v
 | k+1=>rst big v k/Aj big k
def accS (d big:List Int) (v:Int):Nat→Int
 | 0=>0
 | k+1=>accS d big v k+(if Aj d k>1 then rst big v k%Aj big k*strd d k else 0)
def spX (d big:List Int) (v:Nat):Int:=accS d big v d.length
structure Fits (d big:List Int):Prop where
 pd:0<prd d
 pb:0<prd big
 len:d.length≤big.length
 eq:∀ k,k<d.length→1<Aj d k→Aj big k=Aj d k
theorem rst_range {big:List Int} (h:0<prd big) (v:Int) (v0:0≤v) (v1:v≤4096):∀ k,0≤rst big v k∧rst big v k≤4096
 | 0=>⟨v0,v1⟩
 | k+1=>by
  obtain ⟨a,b⟩:=rst_range h v v0 v1 k
  have hs:=(Df h k).1
  simp only [rst]
  exact ⟨Int.ediv_nonneg a (by omega),Int.le_trans (Int.ediv_le_self _ a) b⟩
theorem acc_range {d big:List Int} (h:Fits d big) (v:Int) (v0:0≤v) (v1:v≤4096):∀ k,k≤d.length→0≤accS d big v k∧accS d big v k<strd d k
 | 0,_=>by simp only [accS,strd_zero];omega
 | k+1,hk=>by
  obtain ⟨a,b⟩:=acc_range h v v0 v1 k (by omega)
  have hp:=strd_pos h.pd k (by omega)
  have hs:=(Df h.pd k).1
  rw [strd_succ d k hk]
  simp only [accS]
  by_cases h1:Aj d k>1
  ·rw [if_pos h1,h.eq k hk h1]
   have m0:=Int.emod_nonneg (rst big v k) (show Aj d k≠0 by omega)
   have m1:=Int.emod_lt_of_pos (rst big v k) (show 0<Aj d k by omega)
   have p0:0≤rst big v k%Aj d k*strd d k:=Int.mul_nonneg m0 (by omega)
   have p1:rst big v k%Aj d k*strd d k≤(Aj d k-1)*strd d k:=Int.mul_le_mul_of_nonneg_right (by omega) (by omega)
   rw [Int.sub_mul,Int.one_mul] at p1
   omega
  ·rw [if_neg h1,show Aj d k=1 by omega]
   omega
theorem Dx {d big:List Int} (h:Fits d big) (v:Nat) (hv:v≤4096):0≤spX d big v∧spX d big v<prd d:=by
 have:=acc_range h (v:Int) (by omega) (by omega) d.length (Nat.le_refl _)
 rw [strd_all,← (B5 h.pd).1] at this
 exact this
theorem inner {d big:List Int} (h:Fits d big) (l:List Int) (v:Nat) (hv:v<l.length) (hv2:v≤4096) (h0:l.set v 0=l) :
  Ag (fun go (x:Int×Int×List Int)=>f180_l12 d big (strL d) v go x.1 x.2.1 x.2.2) Ah ((v:Int),IntKind.i64.wrap ((big.length:Int)-1),l)=some (l.set v (spX d big v)):=by
 have hd4:=(B5 h.pd).2.2
 have hb4:=(B5 h.pb).2.2
 have hle:=h.len
 have hr:=Av d
 have H:∀ x:Int×Int×List Int,(∃ k:Nat,k≤d.length∧x=(rst big v k,(big.length:Int)-1-k,l.set v (accS d big v k)))→
   (∃ z,(∀ go,f180_l12 d big (strL d) v go x.1 x.2.1 x.2.2=some z)∧z=l.set v (spX d big v))∨
   (∃ y:Int×Int×List Int,(∀ go,f180_l12 d big (strL d) v go x.1 x.2.1 x.2.2=go y)∧(∃ k:Nat,k≤d.length∧y=(rst big v k,(big.length:Int)-1-k,l.set v (accS d big v k)))∧(y.2.1+1).toNat<(x.2.1+1).toNat):=by
  rintro _ ⟨k,hk,rfl⟩
  unfold f180_l12
  simp only
  have hw:IntKind.i64.wrap ((big.length:Int)-(d.length:Int))=(big.length:Int)-(d.length:Int):=Ae (by omega) (by omega)
  rw [hw]
  by_cases hlt:k<d.length
  ·right
   refine ⟨(rst big v (k+1),(big.length:Int)-1-((k+1:Nat):Int),l.set v (accS d big v (k+1))),fun go=>?_,⟨k+1,hlt,rfl⟩,by simp only;omega⟩
   rw [show decide ((big.length:Int)-1-(k:Int)≥(big.length:Int)-(d.length:Int))=true by simp;omega]
   simp only [cond_true]
   have ib:(big.length:Int)-1-(k:Int)=((big.length-1-k:Nat):Int):=by omega
   have id:IntKind.i64.wrap (((big.length-1-k:Nat):Int)-((big.length:Int)-(d.length:Int)))=((d.length-1-k:Nat):Int):=by
    rw [Ae];omega
   obtain ⟨r0,r1⟩:=rst_range h.pb (v:Int) (by omega) (by omega) k
   obtain ⟨a0,a1⟩:=acc_range h (v:Int) (by omega) (by omega) k (by omega)
   obtain ⟨b0,b1⟩:=acc_range h (v:Int) (by omega) (by omega) (k+1) hlt
   have sl:=strd_le h.pd k (by omega)
   have sl1:=strd_le h.pd (k+1) hlt
   have sb:=Df h.pb k
   have hj:f180_j13 d big (strL d) v (rst big v k) ((big.length-1-k:Nat):Int) (l.set v (accS d big v k))=some (l.set v (accS d big v (k+1))):=by
    unfold f180_j13
    rw [hw,id,Ab,side_rd d k hlt]
    by_cases h1:Aj d k>1
    ·rw [show decide (Aj d k>1)=true by simpa using h1]
     simp only [cond_true,List.length_set]
     rw [side_rd big k (by omega),Ab,Ab,Ab,Ab (by unfold strL;rw [Ap];omega),Ab]
     rw [Int.toNat_natCast,Bi _ _ _ (by simpa using hv),List.getElem_set_self,List.set_set]
     unfold strL
     rw [Di _ _ _ _ (by omega),show d.length-1-(d.length-1-k)=k by omega,Int.tmod_eq_emod_of_nonneg r0]
     have e:accS d big v (k+1)=accS d big v k+rst big v k%Aj big k*strd d k:=by simp only [accS];rw [if_pos h1]
     rw [e] at b0 b1 ⊢
     have m0:=Int.emod_nonneg (rst big v k) (show Aj big k≠0 by omega)
     have sp:=strd_pos h.pd k (by omega)
     have p0:0≤rst big v k%Aj big k*strd d k:=Int.mul_nonneg m0 (by omega)
     generalize rst big v k%Aj big k*strd d k=P at *
     rw [Ae (n:=P) (by omega) (by omega),Ae]
    ·rw [show decide (Aj d k>1)=false by simpa using h1]
     simp only [cond_false,accS]
     rw [if_neg h1,Int.add_zero]
   rw [ib,hj]
   simp only [Aa]
   rw [Ab,side_rd big k (by omega),Ab,Int.tdiv_eq_ediv_of_nonneg r0]
   have q0:=Int.ediv_nonneg r0 (show 0≤Aj big k by omega)
   have q1:=Int.ediv_le_self (Aj big k) r0
   rw [Ae (n:=rst big v k/Aj big k) (by omega) (by omega),Ae]
   congr 1
   exact Prod.ext rfl (Prod.ext (by simp only;omega) rfl)
  ·left
   have:k=d.length:=by omega
   subst this
   refine ⟨_,fun go=>?_,rfl⟩
   rw [show decide ((big.length:Int)-1-(d.length:Int)≥(big.length:Int)-(d.length:Int))=false by simp;omega]
   rfl
 have e0:((v:Int),IntKind.i64.wrap ((big.length:Int)-1),l)=(rst big v 0,(big.length:Int)-1-((0:Nat):Int),l.set v (accS d big v 0)):=by
  rw [Ae]
  refine Prod.ext rfl (Prod.ext (by simp) ?_)
  simp only [accS]
  exact h0.symm
 rw [e0]
 obtain ⟨z,e,rfl⟩:=Bf (B:=fun go (x:Int×Int×List Int)=>f180_l12 d big (strL d) v go x.1 x.2.1 x.2.2) _ (fun x=>(x.2.1+1).toNat) _ H _ ⟨0,Nat.zero_le _,rfl⟩ (by simp only;omega)
 exact e
theorem Dw {d big:List Int} (h:Fits d big):f180 d big=some (Ao (prd big).toNat (spX d big)):=by
 have hb:=Av big
 unfold f180
 rw [strides d h.pd,PlB.size_ok]
 simp only [Aa]
 rw [Ab]
 obtain ⟨N,hN⟩:∃ N:Nat,prd big=(N:Int):=⟨(prd big).toNat,by omega⟩
 rw [hN,Int.toNat_natCast]
 have H:∀ x:Int×List Int,(∃ k:Nat,k≤N∧x=((k:Int),Ao N (fun i=>if i<k then spX d big i else 0)))→
   (∃ z,(∀ go,f180_l9 d big (strL d) (N:Int) go x.1 x.2=some z)∧z=Ao N (spX d big))∨
   (∃ y:Int×List Int,(∀ go,f180_l9 d big (strL d) (N:Int) go x.1 x.2=go y)∧(∃ k:Nat,k≤N∧y=((k:Int),Ao N (fun i=>if i<k then spX d big i else 0)))∧((N:Int)-y.1).toNat<((N:Int)-x.1).toNat):=by
  rintro _ ⟨k,hk,rfl⟩
  unfold f180_l9
  simp only [Int.toNat_natCast,List.length_replicate]
  by_cases hlt:k<N
  ·right
   refine ⟨(((k+1:Nat):Int),Ao N (fun i=>if i<k+1 then spX d big i else 0)),fun go=>?_,⟨k+1,hlt,rfl⟩,by simp only;omega⟩
   rw [show decide ((k:Int)<(N:Int))=true by simpa using hlt]
   simp only [cond_true]
   rw [inner h _ k (by rw [Ap];exact hlt) (by omega) (by
    rw [Dd]
    refine Au _ _ _ (fun i hi=>?_)
    by_cases hik:i=k
    ·rw [if_pos hik,iNo]
    ·rw [if_neg hik])]
   simp only [Aa]
   rw [Ae,Dd]
   congr 1
   refine Prod.ext rfl (Au _ _ _ (fun i hi=>?_))
   by_cases hik:i=k
   ·rw [if_pos hik,iPo,hik]
   ·rw [if_neg hik]
    by_cases h2:i<k
    ·rw [if_pos h2,iPo]
    ·rw [if_neg h2,iNo]
  ·left
   have:k=N:=by omega
   subst this
   refine ⟨_,fun go=>?_,rfl⟩
   rw [show decide ((k:Int)<(k:Int))=false by simp]
   simp only [cond_false,Option.some.injEq]
   exact Au _ _ _ (fun i hi=>by rw [if_pos hi])
 have e0:((0:Int),List.replicate N (0:Int))=(((0:Nat):Int),Ao N (fun i=>if i<0 then spX d big i else 0)):=by
  rw [Ej]
  exact Prod.ext rfl (Au _ _ _ (fun i hi=>by rw [iNo]))
 rw [e0]
 obtain ⟨z,e,rfl⟩:=Bf (B:=fun go (x:Int×List Int)=>f180_l9 d big (strL d) (N:Int) go x.1 x.2) _ (fun x=>((N:Int)-x.1).toNat) _ H _ ⟨0,Nat.zero_le _,rfl⟩ (by simp only;omega)
 rw [e]
 rfl
theorem Joined.fa {a b d:List Int} (h:Joined a b d):Fits a d:=⟨h.pa,h.pd,by have:=h.len;omega,fun k hk h1=>by
 have hl:=h.len
 have e:=h.le k (by omega)
 have o:=h.ok k (by omega)
 have pb:=(Df h.pb k).1
 omega⟩
theorem Joined.fb {a b d:List Int} (h:Joined a b d):Fits b d:=⟨h.pb,h.pd,by have:=h.len;omega,fun k hk h1=>by
 have hl:=h.len
 have e:=h.le k (by omega)
 have o:=h.ok k (by omega)
 have pa:=(Df h.pa k).1
 omega⟩
def addV (a b:Int):Int:=sat (a+b)
theorem addF_ok (a b:Int) (a0 : -9223372036854775808≤a) (a1:a<9223372036854775808) (b0 : -9223372036854775808≤b) (b1:b<9223372036854775808):f33 a b=some (addV a b):=by
 unfold f33 addV sat
 have hw:IntKind.i64.wrap (a+b)=if a+b≥9223372036854775808 then a+b-18446744073709551616 else if a+b < -9223372036854775808 then a+b+18446744073709551616 else a+b:=by
  rw [wi]
  split <;> split <;> (try split) <;> omega
 have hj:f33_j1 a b=some (if (a<0↔b<0)∧¬(IntKind.i64.wrap (a+b)<0↔a<0) then Sum.inl () else Sum.inr ()):=by
  unfold f33_j1
  by_cases ha:a<0 <;> by_cases hb:b<0
  ·rw [show (!(decide (a<0)==decide (b<0)))=false by simp [ha,hb]]
   by_cases hc:IntKind.i64.wrap (a+b)<0
   ·rw [show (decide (IntKind.i64.wrap (a+b)<0)==decide (a<0))=true by simp [ha,hc],if_neg (by simp [ha,hc])];rfl
   ·rw [show (decide (IntKind.i64.wrap (a+b)<0)==decide (a<0))=false by simp [ha,hc],if_pos (by simp [ha,hb,hc])];rfl
  ·rw [show (!(decide (a<0)==decide (b<0)))=true by simp [ha,hb],if_neg (by simp [ha,hb])];rfl
  ·rw [show (!(decide (a<0)==decide (b<0)))=true by simp [ha,hb],if_neg (by simp [ha,hb])];rfl
  ·rw [show (!(decide (a<0)==decide (b<0)))=false by simp [ha,hb]]
   by_cases hc:IntKind.i64.wrap (a+b)<0
   ·rw [show (decide (IntKind.i64.wrap (a+b)<0)==decide (a<0))=false by simp [ha,hc],if_pos (by simp [ha,hb,hc])];rfl
   ·rw [show (decide (IntKind.i64.wrap (a+b)<0)==decide (a<0))=true by simp [ha,hc],if_neg (by simp [ha,hc])];rfl
 rw [hj]
 simp only [Aa]
 by_cases hc:(a<0↔b<0)∧¬(IntKind.i64.wrap (a+b)<0↔a<0)
 ·rw [if_pos hc]
  simp only [Ai]
  rw [hw] at hc
  by_cases ha:a<0
  ·rw [show decide (a<0)=true by simpa using ha]
   simp only [cond_true,Option.some.injEq]
   split at hc <;> (try split at hc) <;> omega
  ·rw [show decide (a<0)=false by simpa using ha]
   simp only [cond_false,Option.some.injEq]
   split at hc <;> (try split at hc) <;> omega
 ·rw [if_neg hc]
  simp only [As,Option.some.injEq]
  rw [hw] at hc ⊢
  split at hc <;> (try split at hc) <;> omega
theorem inI_get {l:List Int} (h:inI l) (i:Nat) (hi:i<l.length) : -9223372036854775808≤rd (0:Int) l (i:Int)∧rd (0:Int) l (i:Int)<9223372036854775808:=by
 rw [Bi _ _ _ hi]
 exact h _ (List.getElem_mem hi)
theorem rhe_minus (S:Int):rhe (-S)=-rhe S:=by
 unfold rhe
 split <;> split <;> omega
def El (a b:Int):Int:=sat (rhe (a*b))
theorem sizeF_ok (v:Int) (h0 : -9223372036854775808≤v) (h1:v<9223372036854775808):f51 v=some (if v<0 then -v else v):=by
 unfold f51
 by_cases h:v<0
 ·rw [show decide (v<0)=true by simpa using h,if_pos h]
  simp only [cond_true,wu,Option.some.injEq]
  omega
 ·rw [show decide (v<0)=false by simpa using h,if_neg h]
  simp only [cond_false,wu,Option.some.injEq]
  omega
theorem held_ok (R:Int) (s:Bool) (h0:0≤R) (h1:R≤85070591730234615865843651857942052864):f52 (R/18446744073709551616) (R%18446744073709551616) s=some (sat (if s then -R else R)):=by
 unfold f52 f52_j1
 cases s
 ·simp only [cond_false,Aa,Bool.false_eq_true,if_false]
  unfold sat
  by_cases h2:R/18446744073709551616>0
  ·rw [show decide (R/18446744073709551616>0)=true by simpa using h2,iPo];rfl
  ·rw [show decide (R/18446744073709551616>0)=false by simpa using h2]
   by_cases h3:R%18446744073709551616≥9223372036854775808
   ·rw [show decide (R%18446744073709551616≥9223372036854775808)=true by simpa using h3,iPo];rfl
   ·rw [show decide (R%18446744073709551616≥9223372036854775808)=false by simpa using h3,iNo,iNo]
    simp only [cond_false,Option.some.injEq]
    rw [Ae]
    omega
 ·simp only [cond_true,if_true]
  unfold sat
  by_cases h2:R/18446744073709551616>0
  ·rw [show decide (R/18446744073709551616>0)=true by simpa using h2,iNo,iPo];rfl
  ·rw [show decide (R/18446744073709551616>0)=false by simpa using h2]
   by_cases h3:R%18446744073709551616≥9223372036854775808
   ·rw [show decide (R%18446744073709551616≥9223372036854775808)=true by simpa using h3,iNo]
    simp only [cond_false,Aa,cond_true,Option.some.injEq]
    split <;> omega
   ·rw [show decide (R%18446744073709551616≥9223372036854775808)=false by simpa using h3,iNo,iNo]
    simp only [cond_false,Aa,Option.some.injEq]
    rw [Ae (n:=R%18446744073709551616) (by omega) (by omega),Ae]
    omega
theorem roundF_ok (P:Int) (h0:0≤P) (h1:P≤85070591730234615865843651857942052864) :
  ∃ x y:Int,f34_j2 (P/18446744073709551616,P%18446744073709551616)=some (x,y)∧y=rhe P/18446744073709551616∧x=rhe P%18446744073709551616:=by
 have hor:Af IntKind.u64 (fun p q=>p||| q) (IntKind.u64.wrap (P/18446744073709551616*2 ^ min (Int.toNat (32:Int)) (IntKind.bits IntKind.u64))) (P%18446744073709551616/4294967296)=P/4294967296%18446744073709551616:=by
  rw [show ((2:Int) ^ min (Int.toNat (32:Int)) (IntKind.bits IntKind.u64))=4294967296 from rfl,wu,show P/18446744073709551616*4294967296%18446744073709551616=P/18446744073709551616%4294967296*4294967296 by omega,or32 _ _ (by omega) (by omega) (by omega) (by omega)]
  omega
 have hand:Af IntKind.u64 (fun p q=>p&&& q) (P%18446744073709551616) 4294967295=P%4294967296:=by rw [and32 _ (by omega) (by omega)];omega
 have hodd:Af IntKind.u64 (fun p q=>p&&& q) (P/4294967296%18446744073709551616) 1=P/4294967296%2:=by rw [and1 _ (by omega) (by omega)];omega
 have hj3:f34_j3 (P/18446744073709551616,P%18446744073709551616)=some (decide (P%4294967296>2147483648∨(P%4294967296=2147483648∧P/4294967296%2=1))):=by
  unfold f34_j3
  simp only
  rw [hand,sh32u,hor,hodd]
  by_cases c1:P%4294967296>2147483648
  ·rw [show decide (P%4294967296>2147483648)=true by simpa using c1]
   simp only [cond_true,Option.some.injEq]
   symm;rw [decide_eq_true_iff];exact .inl c1
  ·rw [show decide (P%4294967296>2147483648)=false by simpa using c1]
   simp only [cond_false]
   by_cases c2:P%4294967296=2147483648
   ·rw [show (P%4294967296==2147483648)=true by simpa using c2]
    simp only [cond_true,Option.some.injEq]
    rw [Bool.eq_iff_iff,beq_iff_eq,decide_eq_true_iff]
    omega
   ·rw [show (P%4294967296==2147483648)=false by simpa using c2]
    simp only [cond_false,Option.some.injEq]
    symm;rw [decide_eq_false_iff_not];omega
 unfold f34_j2
 rw [hj3]
 simp only [Aa]
 rw [sh32u,sh32u,hor]
 by_cases c:P%4294967296>2147483648∨(P%4294967296=2147483648∧P/4294967296%2=1)
 ·have hr:rhe P=P/4294967296+1:=by unfold rhe;rw [if_pos c]
  rw [show decide (P%4294967296>2147483648∨(P%4294967296=2147483648∧P/4294967296%2=1))=true by rw [decide_eq_true_iff];exact c]
  simp only [cond_true]
  rw [add_ok _ _ _ (by omega) (by omega) (by omega) (by omega)]
  simp only [Aa,wu]
  refine ⟨_,_,rfl,?_,?_⟩
  ·rw [hr];omega
  ·rw [hr];omega
 ·have hr:rhe P=P/4294967296:=by unfold rhe;rw [if_neg c]
  rw [show decide (P%4294967296>2147483648∨(P%4294967296=2147483648∧P/4294967296%2=1))=false by rw [decide_eq_false_iff_not];exact c]
  simp only [cond_false]
  refine ⟨_,_,rfl,?_,?_⟩
  ·rw [hr];omega
  ·rw [hr]
theorem mulF_ok (a b:Int) (a0 : -9223372036854775808≤a) (a1:a<9223372036854775808) (b0 : -9223372036854775808≤b) (b1:b<9223372036854775808):f34 a b=some (El a b):=by
 have key:∀ x y:Int,0≤x→x≤9223372036854775808→0≤y→y≤9223372036854775808→0≤x*y∧x*y≤85070591730234615865843651857942052864:=fun x y h0 h1 g0 g1=>⟨Int.mul_nonneg h0 g0,Int.mul_le_mul h1 g1 g0 (by decide)⟩
 have fin:∀ (x y:Int) (s:Bool),0≤x→x≤9223372036854775808→0≤y→y≤9223372036854775808→(if s then -(x*y) else x*y)=a*b→
   (Ac (f50 x y) fun r3=>Ac (f34_j2 r3) fun z6=>Ac (f52 z6.2 z6.1 s) fun r9=>some r9)=some (El a b):=fun x y s x0 x1 y0 y1 hs=>by
  obtain ⟨k0,k1⟩:=key x y x0 x1 y0 y1
  rw [mul64_ok _ _ (by omega) (by omega) (by omega) (by omega)]
  simp only [Aa]
  obtain ⟨p,q,e,hq,hp⟩:=roundF_ok (x*y) k0 k1
  rw [e]
  simp only [Aa]
  have hr:0≤rhe (x*y)∧rhe (x*y)≤85070591730234615865843651857942052864:=by unfold rhe;split <;> omega
  rw [hq,hp,held_ok _ _ hr.1 hr.2]
  simp only [Aa,El]
  rw [← hs]
  cases s
  ·rfl
  ·simp only [if_true];rw [rhe_minus]
 unfold f34
 rw [sizeF_ok a a0 a1,sizeF_ok b b0 b1]
 simp only [Aa]
 by_cases ha:a<0 <;> by_cases hb:b<0
 ·rw [if_pos ha,if_pos hb,show (!(decide (a<0)==decide (b<0)))=false by simp [ha,hb]]
  exact fin (-a) (-b) false (by omega) (by omega) (by omega) (by omega) (by rw [Int.neg_mul_neg];rfl)
 ·rw [if_pos ha,if_neg hb,show (!(decide (a<0)==decide (b<0)))=true by simp [ha,hb]]
  exact fin (-a) b true (by omega) (by omega) (by omega) (by omega) (by rw [Int.neg_mul,Int.neg_neg];rfl)
 ·rw [if_neg ha,if_pos hb,show (!(decide (a<0)==decide (b<0)))=true by simp [ha,hb]]
  exact fin a (-b) true (by omega) (by omega) (by omega) (by omega) (by rw [Int.mul_neg,Int.neg_neg];rfl)
 ·rw [if_neg ha,if_neg hb,show (!(decide (a<0)==decide (b<0)))=false by simp [ha,hb]]
  exact fin a b false (by omega) (by omega) (by omega) (by omega) rfl
theorem Aq {t:List Int×List Int} (h:Am t=true):0<prd t.1∧(t.2.length:Int)=prd t.1∧t.1.length≤4∧t.2.length≤4096:=by
 unfold Am at h
 simp at h
 have:=Av t.1
 exact ⟨h.1,h.2,Dy h.1,by omega⟩
theorem scale_ok (a:List Int×List Int) (k:Int) (ia:inI a.2) (k0 : -9223372036854775808≤k) (k1:k<9223372036854775808) :
  f144 a k=some (if Am a=true then (0,a.1,Ao a.2.length (fun i=>El (rd (0:Int) a.2 i) k)) else (1,[],[])):=by
 unfold f144
 rw [show (a.1,a.2)=a from rfl,At]
 simp only [Aa]
 by_cases hg:Am a=true
 ·obtain ⟨_,_,l1,l2⟩:=Aq hg
  rw [hg,if_pos rfl]
  simp only [Bool.not_true,cond_false]
  rw [copy_t a (by omega) (by omega)]
  simp only [Aa]
  have H:∀ x:Int×List Int,(∃ j:Nat,j≤a.2.length∧x=((j:Int),Ao a.2.length (fun i=>if i<j then El (rd (0:Int) a.2 i) k else rd (0:Int) a.2 i)))→
    (∃ z,(∀ go,f144_l1 k a go x.1 x.2=some z)∧z=Ao a.2.length (fun i=>El (rd (0:Int) a.2 i) k))∨
    (∃ y:Int×List Int,(∀ go,f144_l1 k a go x.1 x.2=go y)∧(∃ j:Nat,j≤a.2.length∧y=((j:Int),Ao a.2.length (fun i=>if i<j then El (rd (0:Int) a.2 i) k else rd (0:Int) a.2 i)))∧((a.2.length:Int)-y.1).toNat<((a.2.length:Int)-x.1).toNat):=by
   rintro _ ⟨j,hj,rfl⟩
   unfold f144_l1
   simp only [Ap]
   by_cases hlt:j<a.2.length
   ·right
    refine ⟨(((j+1:Nat):Int),Ao a.2.length (fun i=>if i<j+1 then El (rd (0:Int) a.2 i) k else rd (0:Int) a.2 i)),fun go=>?_,⟨j+1,hlt,rfl⟩,by simp only;omega⟩
    rw [show decide ((j:Int)<(a.2.length:Int))=true by simpa using hlt]
    simp only [cond_true]
    have q:=inI_get ia j hlt
    rw [Ab,Di _ _ _ _ hlt,if_neg (Nat.lt_irrefl j),mulF_ok _ _ q.1 q.2 k0 k1]
    simp only [Aa]
    rw [Ab,Ae,Int.toNat_natCast,Dd]
    congr 1
    refine Prod.ext rfl (Au _ _ _ (fun i hi=>?_))
    by_cases hik:i=j
    ·rw [if_pos hik,iPo,hik]
    ·rw [if_neg hik]
     by_cases h2:i<j
     ·rw [if_pos h2,iPo]
     ·rw [if_neg h2,iNo]
   ·left
    have:j=a.2.length:=by omega
    subst this
    refine ⟨_,fun go=>?_,rfl⟩
    rw [show decide ((a.2.length:Int)<(a.2.length:Int))=false by simp]
    simp only [cond_false,Option.some.injEq]
    exact Au _ _ _ (fun i hi=>by rw [if_pos hi])
  have e0:((0:Int),a.2)=(((0:Nat):Int),Ao a.2.length (fun i=>if i<0 then El (rd (0:Int) a.2 i) k else rd (0:Int) a.2 i)):=by
   refine Prod.ext rfl ?_
   apply List.ext_getElem
   ·rw [Ap]
   ·intro i h1 h2
    rw [tab_get,iNo,Bi _ _ _ h1]
  rw [e0]
  obtain ⟨z,e,rfl⟩:=Bf (B:=fun go (x:Int×List Int)=>f144_l1 k a go x.1 x.2) _ (fun x=>((a.2.length:Int)-x.1).toNat) _ H _ ⟨0,Nat.zero_le _,rfl⟩ (by simp only;omega)
  rw [e]
  rfl
 ·have hf:Am a=false:=by simpa using hg
  rw [hf]
  rfl
def subV (a b:Int):Int:=sat (a-b)
theorem subF_ok (a b:Int) (a0 : -9223372036854775808≤a) (a1:a<9223372036854775808) (b0 : -9223372036854775808≤b) (b1:b<9223372036854775808):f36 a b=some (subV a b):=by
 unfold f36 subV sat
 have hw:IntKind.i64.wrap (a-b)=if a-b≥9223372036854775808 then a-b-18446744073709551616 else if a-b < -9223372036854775808 then a-b+18446744073709551616 else a-b:=by
  rw [wi]
  split <;> split <;> (try split) <;> omega
 have hj:f36_j1 a b=some (if ¬(a<0↔b<0)∧¬(IntKind.i64.wrap (a-b)<0↔a<0) then Sum.inl () else Sum.inr ()):=by
  unfold f36_j1
  by_cases ha:a<0 <;> by_cases hb:b<0 <;> by_cases hc:IntKind.i64.wrap (a-b)<0 <;> simp [ha,hb,hc]
 rw [hj]
 simp only [Aa]
 by_cases hc:¬(a<0↔b<0)∧¬(IntKind.i64.wrap (a-b)<0↔a<0)
 ·rw [if_pos hc]
  simp only [Ai]
  rw [hw] at hc
  by_cases ha:a<0
  ·rw [show decide (a<0)=true by simpa using ha]
   simp only [cond_true,Option.some.injEq]
   split at hc <;> (try split at hc) <;> omega
  ·rw [show decide (a<0)=false by simpa using ha]
   simp only [cond_false,Option.some.injEq]
   split at hc <;> (try split at hc) <;> omega
 ·rw [if_neg hc]
  simp only [As,Option.some.injEq]
  rw [hw] at hc ⊢
  split at hc <;> (try split at hc) <;> omega
theorem add_of (a b:List Int×List Int) (d:List Int) (ia:inI a.2) (ib:inI b.2) (hga:Am a=true) (hgb:Am b=true) (hj:f179 a.1 b.1=some (0,d)) (hd:Joined a.1 b.1 d) :
  f123 a b=some (0,d,Ao (prd d).toNat (fun i=>addV (rd (0:Int) a.2 (spX a.1 d i)) (rd (0:Int) b.2 (spX b.1 d i)))):=by
 have hg:Am a=true∧Am b=true:=⟨hga,hgb⟩
 unfold f123
 have hj2:f153_33_j2 (a.1,a.2) (b.1,b.2)=some (Sum.inl ()):=by
  unfold f153_33_j2 f153_33_j3
  rw [show (a.1,a.2)=a from rfl,show (b.1,b.2)=b from rfl,At,At,hga,hgb]
  rfl
 unfold f153_33
 rw [hj2]
 simp only [Aa,Ai]
 rw [hj]
 simp only [Aa]
 rw [show ((0:Int) != 0)=false from rfl]
 simp only [cond_false]
 rw [new_ok,if_pos hd.pd,Dw hd.fa,Dw hd.fb]
 simp only [Aa]
 have hr:=Av d
 obtain ⟨N,hN⟩:∃ N:Nat,prd d=(N:Int):=⟨(prd d).toNat,by omega⟩
 rw [hN,Int.toNat_natCast]
 have ga:(a.2.length:Int)=prd a.1:=by have:=hg.1;unfold Am at this;simp at this;exact this.2
 have gb:(b.2.length:Int)=prd b.1:=by have:=hg.2;unfold Am at this;simp at this;exact this.2
 have H:∀ x:Int×List Int,(∃ k:Nat,k≤N∧x=((k:Int),Ao N (fun i=>if i<k then addV (rd (0:Int) a.2 (spX a.1 d i)) (rd (0:Int) b.2 (spX b.1 d i)) else 0)))→
   (∃ z,(∀ go,f153_33_l4 (a.1,a.2) (b.1,b.2) (0,d,List.replicate N 0) (Ao N (spX a.1 d)) (Ao N (spX b.1 d)) go x.1 x.2=some z)∧z=Ao N (fun i=>addV (rd (0:Int) a.2 (spX a.1 d i)) (rd (0:Int) b.2 (spX b.1 d i))))∨
   (∃ y:Int×List Int,(∀ go,f153_33_l4 (a.1,a.2) (b.1,b.2) (0,d,List.replicate N 0) (Ao N (spX a.1 d)) (Ao N (spX b.1 d)) go x.1 x.2=go y)∧(∃ k:Nat,k≤N∧y=((k:Int),Ao N (fun i=>if i<k then addV (rd (0:Int) a.2 (spX a.1 d i)) (rd (0:Int) b.2 (spX b.1 d i)) else 0)))∧((N:Int)-y.1).toNat<((N:Int)-x.1).toNat):=by
  rintro _ ⟨k,hk,rfl⟩
  unfold f153_33_l4
  simp only [List.length_replicate,Ap]
  by_cases hlt:k<N
  ·right
   refine ⟨(((k+1:Nat):Int),Ao N (fun i=>if i<k+1 then addV (rd (0:Int) a.2 (spX a.1 d i)) (rd (0:Int) b.2 (spX b.1 d i)) else 0)),fun go=>?_,⟨k+1,hlt,rfl⟩,by simp only;omega⟩
   rw [show decide ((k:Int)<(N:Int))=true by simpa using hlt]
   simp only [cond_true]
   obtain ⟨x0,x1⟩:=Dx hd.fa k (by omega)
   obtain ⟨y0,y1⟩:=Dx hd.fb k (by omega)
   rw [Di _ _ _ _ hlt,Di _ _ _ _ hlt,Ab,Ab,Ab,Ab]
   obtain ⟨xn,hxn⟩:=Int.eq_ofNat_of_zero_le x0
   obtain ⟨yn,hyn⟩:=Int.eq_ofNat_of_zero_le y0
   have qa:=inI_get ia xn (by omega)
   have qb:=inI_get ib yn (by omega)
   rw [← hxn] at qa
   rw [← hyn] at qb
   rw [addF_ok _ _ qa.1 qa.2 qb.1 qb.2]
   simp only [Aa]
   rw [Ab,Ae,Int.toNat_natCast,Dd]
   congr 1
   refine Prod.ext rfl (Au _ _ _ (fun i hi=>?_))
   by_cases hik:i=k
   ·rw [if_pos hik,iPo,hik]
   ·rw [if_neg hik]
    by_cases h2:i<k
    ·rw [if_pos h2,iPo]
    ·rw [if_neg h2,iNo]
  ·left
   have:k=N:=by omega
   subst this
   refine ⟨_,fun go=>?_,rfl⟩
   rw [show decide ((k:Int)<(k:Int))=false by simp]
   simp only [cond_false,Option.some.injEq]
   exact Au _ _ _ (fun i hi=>by rw [if_pos hi])
 have e0:((0:Int),List.replicate N (0:Int))=(((0:Nat):Int),Ao N (fun i=>if i<0 then addV (rd (0:Int) a.2 (spX a.1 d i)) (rd (0:Int) b.2 (spX b.1 d i)) else 0)):=by
  rw [Ej]
  exact Prod.ext rfl (Au _ _ _ (fun i hi=>by rw [iNo]))
 rw [e0]
 obtain ⟨z,e,rfl⟩:=Bf (B:=fun go (x:Int×List Int)=>f153_33_l4 (a.1,a.2) (b.1,b.2) (0,d,List.replicate N 0) (Ao N (spX a.1 d)) (Ao N (spX b.1 d)) go x.1 x.2) _ (fun x=>((N:Int)-x.1).toNat) _ H _ ⟨0,Nat.zero_le _,rfl⟩ (by simp only;omega)
 rw [e]
 rfl
theorem sub_of (a b:List Int×List Int) (d:List Int) (ia:inI a.2) (ib:inI b.2) (hga:Am a=true) (hgb:Am b=true) (hj:f179 a.1 b.1=some (0,d)) (hd:Joined a.1 b.1 d) :
  f206 a b=some (0,d,Ao (prd d).toNat (fun i=>subV (rd (0:Int) a.2 (spX a.1 d i)) (rd (0:Int) b.2 (spX b.1 d i)))):=by
 have hg:Am a=true∧Am b=true:=⟨hga,hgb⟩
 unfold f206
 have hj2:f153_36_j2 (a.1,a.2) (b.1,b.2)=some (Sum.inl ()):=by
  unfold f153_36_j2 f153_36_j3
  rw [show (a.1,a.2)=a from rfl,show (b.1,b.2)=b from rfl,At,At,hga,hgb]
  rfl
 unfold f153_36
 rw [hj2]
 simp only [Aa,Ai]
 rw [hj]
 simp only [Aa]
 rw [show ((0:Int) != 0)=false from rfl]
 simp only [cond_false]
 rw [new_ok,if_pos hd.pd,Dw hd.fa,Dw hd.fb]
 simp only [Aa]
 have hr:=Av d
 obtain ⟨N,hN⟩:∃ N:Nat,prd d=(N:Int):=⟨(prd d).toNat,by omega⟩
 rw [hN,Int.toNat_natCast]
 have ga:(a.2.length:Int)=prd a.1:=by have:=hg.1;unfold Am at this;simp at this;exact this.2
 have gb:(b.2.length:Int)=prd b.1:=by have:=hg.2;unfold Am at this;simp at this;exact this.2
 have H:∀ x:Int×List Int,(∃ k:Nat,k≤N∧x=((k:Int),Ao N (fun i=>if i<k then subV (rd (0:Int) a.2 (spX a.1 d i)) (rd (0:Int) b.2 (spX b.1 d i)) else 0)))→
   (∃ z,(∀ go,f153_36_l4 (a.1,a.2) (b.1,b.2) (0,d,List.replicate N 0) (Ao N (spX a.1 d)) (Ao N (spX b.1 d)) go x.1 x.2=some z)∧z=Ao N (fun i=>subV (rd (0:Int) a.2 (spX a.1 d i)) (rd (0:Int) b.2 (spX b.1 d i))))∨
   (∃ y:Int×List Int,(∀ go,f153_36_l4 (a.1,a.2) (b.1,b.2) (0,d,List.replicate N 0) (Ao N (spX a.1 d)) (Ao N (spX b.1 d)) go x.1 x.2=go y)∧(∃ k:Nat,k≤N∧y=((k:Int),Ao N (fun i=>if i<k then subV (rd (0:Int) a.2 (spX a.1 d i)) (rd (0:Int) b.2 (spX b.1 d i)) else 0)))∧((N:Int)-y.1).toNat<((N:Int)-x.1).toNat):=by
  rintro _ ⟨k,hk,rfl⟩
  unfold f153_36_l4
  simp only [List.length_replicate,Ap]
  by_cases hlt:k<N
  ·right
   refine ⟨(((k+1:Nat):Int),Ao N (fun i=>if i<k+1 then subV (rd (0:Int) a.2 (spX a.1 d i)) (rd (0:Int) b.2 (spX b.1 d i)) else 0)),fun go=>?_,⟨k+1,hlt,rfl⟩,by simp only;omega⟩
   rw [show decide ((k:Int)<(N:Int))=true by simpa using hlt]
   simp only [cond_true]
   obtain ⟨x0,x1⟩:=Dx hd.fa k (by omega)
   obtain ⟨y0,y1⟩:=Dx hd.fb k (by omega)
   rw [Di _ _ _ _ hlt,Di _ _ _ _ hlt,Ab,Ab,Ab,Ab]
   obtain ⟨xn,hxn⟩:=Int.eq_ofNat_of_zero_le x0
   obtain ⟨yn,hyn⟩:=Int.eq_ofNat_of_zero_le y0
   have qa:=inI_get ia xn (by omega)
   have qb:=inI_get ib yn (by omega)
   rw [← hxn] at qa
   rw [← hyn] at qb
   rw [subF_ok _ _ qa.1 qa.2 qb.1 qb.2]
   simp only [Aa]
   rw [Ab,Ae,Int.toNat_natCast,Dd]
   congr 1
   refine Prod.ext rfl (Au _ _ _ (fun i hi=>?_))
   by_cases hik:i=k
   ·rw [if_pos hik,iPo,hik]
   ·rw [if_neg hik]
    by_cases h2:i<k
    ·rw [if_pos h2,iPo]
    ·rw [if_neg h2,iNo]
  ·left
   have:k=N:=by omega
   subst this
   refine ⟨_,fun go=>?_,rfl⟩
   rw [show decide ((k:Int)<(k:Int))=false by simp]
   simp only [cond_false,Option.some.injEq]
   exact Au _ _ _ (fun i hi=>by rw [if_pos hi])
 have e0:((0:Int),List.replicate N (0:Int))=(((0:Nat):Int),Ao N (fun i=>if i<0 then subV (rd (0:Int) a.2 (spX a.1 d i)) (rd (0:Int) b.2 (spX b.1 d i)) else 0)):=by
  rw [Ej]
  exact Prod.ext rfl (Au _ _ _ (fun i hi=>by rw [iNo]))
 rw [e0]
 obtain ⟨z,e,rfl⟩:=Bf (B:=fun go (x:Int×List Int)=>f153_36_l4 (a.1,a.2) (b.1,b.2) (0,d,List.replicate N 0) (Ao N (spX a.1 d)) (Ao N (spX b.1 d)) go x.1 x.2) _ (fun x=>((N:Int)-x.1).toNat) _ H _ ⟨0,Nat.zero_le _,rfl⟩ (by simp only;omega)
 rw [e]
 rfl
theorem mul_of (a b:List Int×List Int) (d:List Int) (ia:inI a.2) (ib:inI b.2) (hga:Am a=true) (hgb:Am b=true) (hj:f179 a.1 b.1=some (0,d)) (hd:Joined a.1 b.1 d) :
  f142 a b=some (0,d,Ao (prd d).toNat (fun i=>El (rd (0:Int) a.2 (spX a.1 d i)) (rd (0:Int) b.2 (spX b.1 d i)))):=by
 have hg:Am a=true∧Am b=true:=⟨hga,hgb⟩
 unfold f142
 have hj2:f153_34_j2 (a.1,a.2) (b.1,b.2)=some (Sum.inl ()):=by
  unfold f153_34_j2 f153_34_j3
  rw [show (a.1,a.2)=a from rfl,show (b.1,b.2)=b from rfl,At,At,hga,hgb]
  rfl
 unfold f153_34
 rw [hj2]
 simp only [Aa,Ai]
 rw [hj]
 simp only [Aa]
 rw [show ((0:Int) != 0)=false from rfl]
 simp only [cond_false]
 rw [new_ok,if_pos hd.pd,Dw hd.fa,Dw hd.fb]
 simp only [Aa]
 have hr:=Av d
 obtain ⟨N,hN⟩:∃ N:Nat,prd d=(N:Int):=⟨(prd d).toNat,by omega⟩
 rw [hN,Int.toNat_natCast]
 have ga:(a.2.length:Int)=prd a.1:=by have:=hg.1;unfold Am at this;simp at this;exact this.2
 have gb:(b.2.length:Int)=prd b.1:=by have:=hg.2;unfold Am at this;simp at this;exact this.2
 have H:∀ x:Int×List Int,(∃ k:Nat,k≤N∧x=((k:Int),Ao N (fun i=>if i<k then El (rd (0:Int) a.2 (spX a.1 d i)) (rd (0:Int) b.2 (spX b.1 d i)) else 0)))→
   (∃ z,(∀ go,f153_34_l4 (a.1,a.2) (b.1,b.2) (0,d,List.replicate N 0) (Ao N (spX a.1 d)) (Ao N (spX b.1 d)) go x.1 x.2=some z)∧z=Ao N (fun i=>El (rd (0:Int) a.2 (spX a.1 d i)) (rd (0:Int) b.2 (spX b.1 d i))))∨
   (∃ y:Int×List Int,(∀ go,f153_34_l4 (a.1,a.2) (b.1,b.2) (0,d,List.replicate N 0) (Ao N (spX a.1 d)) (Ao N (spX b.1 d)) go x.1 x.2=go y)∧(∃ k:Nat,k≤N∧y=((k:Int),Ao N (fun i=>if i<k then El (rd (0:Int) a.2 (spX a.1 d i)) (rd (0:Int) b.2 (spX b.1 d i)) else 0)))∧((N:Int)-y.1).toNat<((N:Int)-x.1).toNat):=by
  rintro _ ⟨k,hk,rfl⟩
  unfold f153_34_l4
  simp only [List.length_replicate,Ap]
  by_cases hlt:k<N
  ·right
   refine ⟨(((k+1:Nat):Int),Ao N (fun i=>if i<k+1 then El (rd (0:Int) a.2 (spX a.1 d i)) (rd (0:Int) b.2 (spX b.1 d i)) else 0)),fun go=>?_,⟨k+1,hlt,rfl⟩,by simp only;omega⟩
   rw [show decide ((k:Int)<(N:Int))=true by simpa using hlt]
   simp only [cond_true]
   obtain ⟨x0,x1⟩:=Dx hd.fa k (by omega)
   obtain ⟨y0,y1⟩:=Dx hd.fb k (by omega)
   rw [Di _ _ _ _ hlt,Di _ _ _ _ hlt,Ab,Ab,Ab,Ab]
   obtain ⟨xn,hxn⟩:=Int.eq_ofNat_of_zero_le x0
   obtain ⟨yn,hyn⟩:=Int.eq_ofNat_of_zero_le y0
   have qa:=inI_get ia xn (by omega)
   have qb:=inI_get ib yn (by omega)
   rw [← hxn] at qa
   rw [← hyn] at qb
   rw [mulF_ok _ _ qa.1 qa.2 qb.1 qb.2]
   simp only [Aa]
   rw [Ab,Ae,Int.toNat_natCast,Dd]
   congr 1
   refine Prod.ext rfl (Au _ _ _ (fun i hi=>?_))
   by_cases hik:i=k
   ·rw [if_pos hik,iPo,hik]
   ·rw [if_neg hik]
    by_cases h2:i<k
    ·rw [if_pos h2,iPo]
    ·rw [if_neg h2,iNo]
  ·left
   have:k=N:=by omega
   subst this
   refine ⟨_,fun go=>?_,rfl⟩
   rw [show decide ((k:Int)<(k:Int))=false by simp]
   simp only [cond_false,Option.some.injEq]
   exact Au _ _ _ (fun i hi=>by rw [if_pos hi])
 have e0:((0:Int),List.replicate N (0:Int))=(((0:Nat):Int),Ao N (fun i=>if i<0 then El (rd (0:Int) a.2 (spX a.1 d i)) (rd (0:Int) b.2 (spX b.1 d i)) else 0)):=by
  rw [Ej]
  exact Prod.ext rfl (Au _ _ _ (fun i hi=>by rw [iNo]))
 rw [e0]
 obtain ⟨z,e,rfl⟩:=Bf (B:=fun go (x:Int×List Int)=>f153_34_l4 (a.1,a.2) (b.1,b.2) (0,d,List.replicate N 0) (Ao N (spX a.1 d)) (Ao N (spX b.1 d)) go x.1 x.2) _ (fun x=>((N:Int)-x.1).toNat) _ H _ ⟨0,Nat.zero_le _,rfl⟩ (by simp only;omega)
 rw [e]
 rfl
end Go.Proofs.PlS
namespace Go.Proofs.Sh
open Go.AM Go.Proofs.PlB Go.Proofs.PlW Go.Proofs.PlT Go.Proofs.PlS
theorem Ec:∀ d:List Int,(∀ x ∈ d,1≤x)→1≤Bh d
 | [],_=>by simp [Bh]
 | x::r,h=>by
  have h1:=h x (by simp)
  have h2:=Ec r (fun y hy=>h y (by simp [hy]))
  have:1*1≤x*Bh r:=Int.mul_le_mul h1 h2 (by omega) (by omega)
  simp only [Bh];omega
def upto (N k:Nat) (g:Nat→Int):List Int:=Ao N (fun i=>if i<k then g i else 0)
theorem De (N k:Nat) (g:Nat→Int):(upto N k g).length=N:=Ap _ _
theorem upto_zero (N:Nat) (g:Nat→Int):List.replicate N 0=upto N 0 g:=by
 rw [Ej];exact Au _ _ _ (fun i hi=>by rw [iNo])
theorem upto_full (N:Nat) (g:Nat→Int):upto N N g=Ao N g:=Au _ _ _ (fun i hi=>by rw [if_pos hi])
theorem upto_set (N k:Nat) (g:Nat→Int) (v:Int) (hk:k<N) (hv:v=g k):(upto N k g).set k v=upto N (k+1) g:=by
 unfold upto
 rw [Dd]
 refine Au _ _ _ (fun i hi=>?_)
 by_cases h:i=k
 ·rw [if_pos h,iPo,h,hv]
 ·rw [if_neg h]
  by_cases h2:i<k
  ·rw [if_pos h2,iPo]
  ·rw [if_neg h2,iNo]
theorem sameR (a b:List Int) (h:a.length<4611686018427387904):f88 a b=some (decide (a=b)):=by
 unfold f88
 by_cases hl:a.length=b.length
 ·rw [nF]
  simp only [cond_false]
  have:=loop_any (B:=fun go x=>f88_l1 a b go x) (fun k=>(k:Int)) (fun k=>rd (0:Int) a (k:Int) != rd (0:Int) b (k:Int)) (Sum.inl ()) (Sum.inr ()) a.length ?_ ?_ ?_ (by omega)
  ·rw [show ((0:Int))=((0:Nat):Int) from rfl,this]
   simp only [Aa]
   by_cases e:a=b
   ·subst e
    have:anyB a.length (fun k=>rd (0:Int) a (k:Int) != rd (0:Int) a (k:Int))=false:=anyB_false.2 (fun i hi=>by simp)
    rw [this,dT rfl];rfl
   ·have:anyB a.length (fun k=>rd (0:Int) a (k:Int) != rd (0:Int) b (k:Int))=true:=by
     cases hc:anyB a.length (fun k=>rd (0:Int) a (k:Int) != rd (0:Int) b (k:Int))
     ·exfalso;apply e
      have hc:=anyB_false.1 hc
      apply List.ext_getElem hl
      intro i h1 h2
      have:=hc i h1
      rw [Bi _ _ _ h1,Bi _ _ _ h2] at this
      simpa using this
     ·rfl
    rw [this,dF e];rfl
  ·intro k hk hp go
   unfold f88_l1
   rw [dT,cond_true,Ab,Ab,hp,cond_false,Ae]
   rfl
  ·intro k hk hp go
   unfold f88_l1
   rw [dT,cond_true,Ab,Ab,hp]
   rfl
  ·intro go
   unfold f88_l1
   rw [dF];rfl
 ·rw [nT,dF (fun e=>hl (by rw [e]))];rfl
def dnto (L k:Nat) (g:Nat→Int):List Int:=Ao L (fun j=>if L-1-j<k then g (L-1-j) else 0)
theorem dnto_len (L k:Nat) (g:Nat→Int):(dnto L k g).length=L:=Ap _ _
theorem dnto_zero (L:Nat) (g:Nat→Int):List.replicate L 0=dnto L 0 g:=by
 rw [Ej];exact Au _ _ _ (fun i hi=>by rw [iNo])
theorem dnto_full (L:Nat) (g:Nat→Int):dnto L L g=Ao L (fun j=>g (L-1-j)):=Au _ _ _ (fun i hi=>by rw [iPo])
theorem dnto_set (L k:Nat) (g:Nat→Int) (v:Int) (hk:k<L) (hv:v=g k):(dnto L k g).set (L-1-k) v=dnto L (k+1) g:=by
 unfold dnto
 rw [Dd]
 refine Au _ _ _ (fun i hi=>?_)
 by_cases h:i=L-1-k
 ·rw [if_pos h,iPo,hv];congr 1;omega
 ·rw [if_neg h]
  by_cases h2:L-1-i<k
  ·rw [if_pos h2,iPo]
  ·rw [if_neg h2,iNo]
def jBad (a b:List Int) (k:Nat):Bool:=Aj a k != Aj b k&&(Aj a k != 1&&Aj b k != 1)
def jMax (a b:List Int) (k:Nat):Int:=if Aj b k>Aj a k then Aj b k else Aj a k
def jLen (a b:List Int):Nat:=if b.length>a.length then b.length else a.length
def jL (a b:List Int):List Int:=Ao (jLen a b) (fun j=>jMax a b (jLen a b-1-j))
def jS (a b:List Int):Int×List Int:=
 if 0<prd a∧0<prd b then (bif anyB (jLen a b) (jBad a b) then (4,[]) else if 0<prd (jL a b) then (0,jL a b) else (2,[])) else (1,[])
theorem jLen_int (a b:List Int):(if (List.length b:Int)>(List.length a:Int) then (List.length b:Int) else (List.length a:Int))=(jLen a b:Int):=by
 unfold jLen;split <;> split <;> omega
theorem j5_ok (a b:List Int) (k:Nat):f179_j5 (Aj a k) (Aj b k)=some (bif jBad a b k then Sum.inr () else Sum.inl ()):=by
 unfold f179_j5 jBad
 cases (Aj a k != Aj b k) <;> cases (Aj a k != 1) <;> cases (Aj b k != 1) <;> rfl
theorem joinP (a b:List Int):f179 a b=some (jS a b):=by
 unfold f179 f179_j1 jS
 rw [Ay,Ay,jLen_int]
 simp only [Aa]
 by_cases ha:0<prd a
 ·by_cases hb:0<prd b
  ·have la:=Dy ha
   have lb:=Dy hb
   have lj:jLen a b≤4:=by unfold jLen;split <;> omega
   rw [dT (show prd a>0 from ha),dT (show prd b>0 from hb),if_pos ⟨ha,hb⟩]
   simp only [Bool.not_true,cond_false,Aa,Ai]
   rw [Ab,Int.toNat_natCast,dnto_zero _ (jMax a b)]
   have:=loop_any (B:=fun go (x:Int×List Int)=>f179_l4 a b go x.1 x.2) (fun k=>((k:Int),dnto (jLen a b) k (jMax a b))) (jBad a b) (Sum.inl ()) (Sum.inr (jL a b)) (jLen a b) ?_ ?_ ?_ (by omega)
   ·rw [show ((0:Nat):Int)=0 from rfl] at this
    rw [this]
    simp only [Aa]
    cases anyB (jLen a b) (jBad a b)
    ·simp only [cond_false,As]
     rw [Ay]
     by_cases hp:0<prd (jL a b)
     ·rw [dT (show prd (jL a b)>0 from hp),if_pos hp];rfl
     ·rw [dF (show ¬prd (jL a b)>0 from hp),if_neg hp];rfl
    ·rfl
   ·intro k hk hp go
    unfold f179_l4
    rw [jLen_int,Int.toNat_natCast,List.length_replicate,dT,cond_true,side_ok a k (by omega) (by omega),Aa,side_ok b k (by omega) (by omega),Aa,j5_ok,hp,Aa]
    simp only [cond_false,Ai,dnto_len]
    rw [Ae (n:=(jLen a b:Int)-1) (by omega) (by omega),Ae (n:=(jLen a b:Int)-1-k) (by omega) (by omega),Ab,Ae,show (jLen a b:Int)-1-k=((jLen a b-1-k:Nat):Int) by omega,Int.toNat_natCast,dnto_set _ _ (jMax a b) (if Aj b k>Aj a k then Aj b k else Aj a k) hk rfl]
    rfl
   ·intro k hk hp go
    unfold f179_l4
    rw [jLen_int,Int.toNat_natCast,List.length_replicate,dT,cond_true,side_ok a k (by omega) (by omega),Aa,side_ok b k (by omega) (by omega),Aa,j5_ok,hp,Aa]
    rfl
   ·intro go
    unfold f179_l4
    rw [jLen_int,Int.toNat_natCast,List.length_replicate,dF,cond_false,dnto_full];rfl
  ·rw [dT (show prd a>0 from ha),dF (show ¬prd b>0 from hb),if_neg (fun h=>hb h.2)];rfl
 ·rw [dF (show ¬prd a>0 from ha),if_neg (fun h=>ha h.1)];rfl
theorem jL_side (a b:List Int) (k:Nat) (hk:k<jLen a b):Aj (jL a b) k=jMax a b k:=by
 have hl:(jL a b).length=jLen a b:=Ap _ _
 rw [← side_rd _ k (by omega),hl]
 unfold jL
 rw [Di _ _ _ _ (by omega)]
 congr 1;omega
theorem jS_joined {a b d:List Int} (h:jS a b=(0,d)):Joined a b d:=by
 unfold jS at h
 split at h
 ·next hg=>
  cases hc:anyB (jLen a b) (jBad a b)
  ·rw [hc,cond_false] at h
   split at h
   ·next hp=>
    obtain rfl:jL a b=d:=(Prod.mk.inj h).2
    have hl:(jL a b).length=jLen a b:=Ap _ _
    have hjl:jLen a b=max a.length b.length:=by unfold jLen;split <;> omega
    have hb:=anyB_false.1 hc
    refine ⟨hg.1,hg.2,hp,by omega,fun k hk=>?_,fun k hk=>?_⟩
    ·rw [jL_side a b k (by omega)];unfold jMax;split <;> omega
    ·have:=hb k (by omega)
     unfold jBad at this
     by_cases h1:Aj a k=Aj b k
     ·exact .inl h1
     ·by_cases h2:Aj a k=1
      ·exact .inr (.inl h2)
      ·by_cases h3:Aj b k=1
       ·exact .inr (.inr h3)
       ·rw [nT h1,nT h2,nT h3] at this;exact absurd this (by decide)
   ·exact absurd (Prod.mk.inj h).1 (by decide)
  ·rw [hc,cond_true] at h;exact absurd (Prod.mk.inj h).1 (by decide)
 ·exact absurd (Prod.mk.inj h).1 (by decide)
theorem list_side {d e:List Int} (hl:d.length=e.length) (h:∀ k,k<d.length→Aj d k=Aj e k):d=e:=by
 apply List.ext_getElem hl
 intro i h1 h2
 have:=h (d.length-1-i) (by omega)
 unfold Aj at this
 rw [iPo,iPo,getD_at _ _ (by omega),getD_at _ _ (by omega)] at this
 simp only [show d.length-1-(d.length-1-i)=i by omega,show e.length-1-(d.length-1-i)=i by omega] at this
 exact this
theorem jS_fits {d big:List Int}:jS d big=(0,big)↔Fits d big:=by
 constructor
 ·intro h
  exact (jS_joined h).fa
 ·intro h
  have hlen:=h.len
  have hjl:jLen d big=big.length:=by unfold jLen;split <;> omega
  have hs:∀ k,k<big.length→Aj d k=1∨Aj big k=Aj d k:=fun k hk=>by
   by_cases hk2:k<d.length
   ·have:=(Df h.pd k).1
    by_cases h1:1<Aj d k
    ·exact .inr (h.eq k hk2 h1)
    ·exact .inl (by omega)
   ·left;unfold Aj;rw [if_neg hk2]
  have hany:anyB (jLen d big) (jBad d big)=false:=anyB_false.2 (fun i hi=>by
   unfold jBad
   rcases hs i (by omega) with e | e
   ·rw [nF e];simp
   ·rw [nF e.symm];rfl)
  have hL:jL d big=big:=list_side (by unfold jL;rw [Ap,hjl]) (fun k hk=>by
   have hk2:k<jLen d big:=by rw [show (jL d big).length=jLen d big from Ap _ _] at hk;exact hk
   rw [jL_side d big k hk2]
   unfold jMax
   have:=(Df h.pb k).1
   rcases hs k (by omega) with e | e
   ·rw [e];split <;> omega
   ·rw [e];split <;> rfl)
  unfold jS
  rw [if_pos ⟨h.pd,h.pb⟩,hany,hL,cond_false,if_pos h.pb]
def plc (d:List Int) (v:Int):List Int:=Ao d.length (fun j=>rst d v (d.length-1-j)%Aj d (d.length-1-j))
theorem place_loop (d:List Int) (h:0<prd d) (v:Int) (v0:0≤v) (v1:v<prd d) :
  Ag (fun go (x:Int×Int×List Int)=>f184_l2 d go x.1 x.2.1 x.2.2) Ah (v,IntKind.i64.wrap ((d.length:Int)-1),List.replicate (Int.toNat (d.length:Int)) (0:Int))=some (plc d v):=by
 have hl:=Dy h
 have hr:=Av d
 rw [Ae,Int.toNat_natCast,dnto_zero _ (fun k=>rst d v k%Aj d k)]
 have:=Ba (B:=fun go (x:Int×Int×List Int)=>f184_l2 d go x.1 x.2.1 x.2.2) (fun k=>(rst d v k,(d.length:Int)-1-(k:Int),dnto d.length k (fun k=>rst d v k%Aj d k))) d.length (plc d v) ?_ ?_ (by omega)
 ·have e:((d.length:Int)-1-((0:Nat):Int))=(d.length:Int)-1:=by omega
  rw [e] at this
  exact this
 ·intro k hk go
  unfold f184_l2
  simp only [dnto_len]
  obtain ⟨r0,r1⟩:=rst_range h v v0 (by omega) k
  obtain ⟨s0,s1⟩:=Df h k
  rw [dT,cond_true,show (d.length:Int)-1-(k:Int)=((d.length-1-k:Nat):Int) by omega,side_rd d k hk,Ab,Ab,Ab,Ab,Ab]
  have q0:0≤rst d v k/Aj d k:=Int.ediv_nonneg r0 (by omega)
  have q1:rst d v k/Aj d k≤rst d v k:=Int.ediv_le_self _ r0
  rw [Int.tdiv_eq_ediv_of_nonneg r0,Int.tmod_eq_emod_of_nonneg r0,Ae (n:=rst d v k/Aj d k) (by omega) (by omega),Ae,Int.toNat_natCast,dnto_set _ _ _ _ hk rfl]
  congr 1
  refine Prod.ext rfl (Prod.ext (by simp only;omega) rfl)
 ·intro go
  unfold f184_l2
  simp only
  rw [dF,cond_false,dnto_full];rfl
theorem placeP (d:List Int) (h:0<prd d) (v:Int) (v0:0≤v) (v1:v<prd d):f184 d v=some (true,plc d v):=by
 have hl:=Dy h
 unfold f184 f184_j1
 rw [dF,cond_false,PlB.size_ok,Aa,dF,cond_false,Aa,Ai,Ab,place_loop d h v v0 v1]
 rfl
theorem plc_len (d:List Int) (v:Int):(plc d v).length=d.length:=Ap _ _
end Go.Proofs.Sh
namespace Go.Proofs.Dots
open Go.AM Go.Proofs.PlW
def W0 (A:Int):Int:=A%18446744073709551616
def W1 (A:Int):Int:=A/18446744073709551616%18446744073709551616
def W2 (A:Int):Int:=A/18446744073709551616/18446744073709551616%18446744073709551616
def W3 (A:Int):Int:=A/18446744073709551616/18446744073709551616/18446744073709551616%18446744073709551616
theorem W1_eq (A:Int):W1 A=W0 (A/18446744073709551616):=rfl
theorem W2_eq (A:Int):W2 A=W1 (A/18446744073709551616):=rfl
theorem W3_eq (A:Int):W3 A=W2 (A/18446744073709551616):=rfl
theorem md (s q k:Int):(s-q-k)/18446744073709551616=s/18446744073709551616-q/18446744073709551616 - -((s%18446744073709551616-q%18446744073709551616-k)/18446744073709551616):=by omega
theorem small (n:Int) (h0:0≤n) (h1:n<18446744073709551616):W0 n=n∧W1 n=0∧W2 n=0∧W3 n=0:=by
 have e:n/18446744073709551616=0:=by omega
 refine ⟨by unfold W0;omega,by unfold W1;rw [e];rfl,by unfold W2;rw [e];rfl,by unfold W3;rw [e];rfl⟩
theorem two (s p:Int) (h0:0≤s) (h1:s<18446744073709551616) (g0:0≤p) (g1:p<18446744073709551616):W0 (s+18446744073709551616*p)=s∧W1 (s+18446744073709551616*p)=p∧W2 (s+18446744073709551616*p)=0∧W3 (s+18446744073709551616*p)=0:=by
 have e:(s+18446744073709551616*p)/18446744073709551616=p:=by omega
 obtain ⟨k0,k1,k2,k3⟩:=small p g0 g1
 refine ⟨by unfold W0;omega,?_,?_,?_⟩
 ·rw [W1_eq,e];exact k0
 ·rw [W2_eq,e];exact k1
 ·rw [W3_eq,e];exact k2
end Go.Proofs.Dots
namespace Go.Proofs.Num
open Go.AM Go.Proofs.PlW Go.Proofs.Dots
def top (D j:Nat):Nat:=D/2 ^ j*2 ^ j
def rdn (N d:Int):Int:=N/d+if 2*(N%d)>d∨(2*(N%d)=d∧N/d%2=1) then 1 else 0
def rdI (a n:Int):Int:=if (a<0)=(n<0) then rdn a.natAbs n.natAbs else -rdn a.natAbs n.natAbs
theorem rdn_nonneg {N d:Int} (h0:0≤N) (hd:0<d):0≤rdn N d:=by
 unfold rdn
 have:=Int.ediv_nonneg h0 (show 0≤d by omega)
 split <;> omega
theorem rdn_le {N d:Int} (h0:0≤N) (hd:0<d):rdn N d≤N+1:=by
 unfold rdn
 have h:=Int.ediv_le_self d h0
 split <;> omega
end Go.Proofs.Num
namespace Go.Proofs.Div
open Go.AM Go.Proofs.PlW
theorem sh16u (x:Int):Int.fdiv x (2 ^ min (Int.toNat (16:Int)) (IntKind.bits IntKind.u64))=x/65536:=by
 rw [show ((2:Int) ^ min (Int.toNat (16:Int)) (IntKind.bits IntKind.u64))=65536 from rfl]
 exact Int.fdiv_eq_ediv_of_nonneg _ (by decide)
theorem sh8u (x:Int):Int.fdiv x (2 ^ min (Int.toNat (8:Int)) (IntKind.bits IntKind.u64))=x/256:=by
 rw [show ((2:Int) ^ min (Int.toNat (8:Int)) (IntKind.bits IntKind.u64))=256 from rfl]
 exact Int.fdiv_eq_ediv_of_nonneg _ (by decide)
def Near (x n y:Nat):Prop:=x*2 ^ n≤y∧y<(x+1)*2 ^ n
theorem near_shift {x n y:Nat} (h:Near x n y) (k:Nat):Near (x/2 ^ k) (n+k) y:=by
 obtain ⟨h0,h1⟩:=h
 have p:0<2 ^ k:=Nat.pow_pos (by decide)
 have q:0<2 ^ n:=Nat.pow_pos (by decide)
 constructor
 ·rw [Nat.pow_add,Nat.mul_comm (2 ^ n),← Nat.mul_assoc]
  exact Nat.le_trans (Nat.mul_le_mul_right _ (Nat.div_mul_le_self x (2 ^ k))) h0
 ·rw [Nat.pow_add,Nat.mul_comm (2 ^ n),← Nat.mul_assoc]
  have:x+1≤(x/2 ^ k+1)*2 ^ k:=by
   have:=Nat.lt_mul_of_div_lt (Nat.lt_succ_self (x/2 ^ k)) p
   exact this
  exact Nat.lt_of_lt_of_le h1 (Nat.mul_le_mul_right _ this)
def tabOk (x:Nat):Bool:=match (bt f154_s1 (x:Int)) with
 | .ofNat t=>decide (1≤t)&&decide (t≤8)&&decide (2 ^ (t-1)≤x)&&decide (x+1≤2 ^ t)
 | .negSucc _=>false
theorem tab_all:(List.range 256).all (fun x=>x==0||tabOk x)=true:=by kernel_rfl
theorem tab_ok (x:Nat) (h0:0<x) (h1:x<256):∃ t:Nat,bt f154_s1 (x:Int)=(t:Int)∧1≤t∧t≤8∧2 ^ (t-1)≤x∧x+1≤2 ^ t:=by
 have:=List.all_eq_true.1 tab_all x (List.mem_range.2 h1)
 rw [show (x==0)=false by simp;omega,Bool.false_or] at this
 unfold tabOk at this
 split at this
 ·next t ht=>
  simp only [Bool.and_eq_true,decide_eq_true_eq] at this
  exact ⟨t,ht,this.1.1.1,this.1.1.2,this.1.2,this.2⟩
 ·exact absurd this (by decide)
theorem clz_ok (y:Nat) (h0:0<y) (h1:y<18446744073709551616):∃ s:Nat,s≤63∧f124 (y:Int)=some (s:Int)∧9223372036854775808≤y*2 ^ s∧y*2 ^ s<18446744073709551616:=by
 have n0:Near y 0 y:=by unfold Near;omega
 have j1:∃ x n:Nat,f154_j1 (y:Int)=some ((x:Int),(n:Int))∧0<x∧x<4294967296∧n≤32∧Near x n y:=by
  unfold f154_j1
  rw [sh32u]
  by_cases c:y≥4294967296
  ·rw [dT]
   exact ⟨y/2 ^ 32,32,by simp only [cond_true];rw [show (2:Nat) ^ 32=4294967296 from rfl];congr 2,by omega,by omega,by decide,by have:=near_shift n0 32;simpa using this⟩
  ·rw [dF]
   exact ⟨y,0,rfl,h0,by omega,by decide,n0⟩
 obtain ⟨x1,n1,e1,x1p,x1l,n1l,N1⟩:=j1
 have j2:∃ x n:Nat,f154_j2 ((x1:Int),(n1:Int))=some ((x:Int),(n:Int))∧0<x∧x<65536∧n≤48∧Near x n y:=by
  unfold f154_j2
  rw [sh16u]
  by_cases c:x1≥65536
  ·rw [dT (by simp only;omega)]
   refine ⟨x1/2 ^ 16,n1+16,?_,by omega,by omega,by omega,near_shift N1 16⟩
   simp only [cond_true];rw [Ae,show (2:Nat) ^ 16=65536 from rfl];congr 2
  ·rw [dF (by simp only;omega)]
   exact ⟨x1,n1,rfl,x1p,by omega,by omega,N1⟩
 obtain ⟨x2,n2,e2,x2p,x2l,n2l,N2⟩:=j2
 have j3:∃ x n:Nat,f154_j3 ((x2:Int),(n2:Int))=some ((x:Int),(n:Int))∧0<x∧x<256∧n≤56∧Near x n y:=by
  unfold f154_j3
  rw [sh8u]
  by_cases c:x2≥256
  ·rw [dT (by simp only;omega)]
   refine ⟨x2/2 ^ 8,n2+8,?_,by omega,by omega,by omega,near_shift N2 8⟩
   simp only [cond_true];rw [Ae,show (2:Nat) ^ 8=256 from rfl];congr 2
  ·rw [dF (by simp only;omega)]
   exact ⟨x2,n2,rfl,x2p,by omega,by omega,N2⟩
 obtain ⟨x3,n3,e3,x3p,x3l,n3l,N3⟩:=j3
 obtain ⟨t,et,t0,t1,p0,p1⟩:=tab_ok x3 x3p x3l
 have hw8:IntKind.u8.wrap (x3:Int)=(x3:Int):=by
  simp [IntKind.wrap,IntKind.signed,IntKind.bits];omega
 unfold f124 f154
 rw [e1]
 simp only [Aa]
 rw [e2]
 simp only [Aa]
 rw [e3]
 simp only [Aa]
 rw [hw8,Ab (by rw [show (ByteArray.size f154_s1)=256 by kernel_rfl];omega),et]
 simp only [Aa]
 rw [Ae (n:=(t:Int)) (by omega) (by omega),Ae (n:=(n3:Int)+(t:Int)) (by omega) (by omega),Ae]
 have hL:n3+t≤64:=by
  have hlow:2 ^ (t-1)*2 ^ n3≤y:=Nat.le_trans (Nat.mul_le_mul_right _ p0) N3.1
  rw [← Nat.pow_add] at hlow
  have:2 ^ (t-1+n3)<2 ^ 64:=by
   rw [show (2:Nat) ^ 64=18446744073709551616 from rfl];omega
  have:=(Nat.pow_lt_pow_iff_right (by decide:1<2)).1 this
  omega
 refine ⟨64-(n3+t),by omega,by congr 1;omega,?_,?_⟩
 ·have hlow:2 ^ (t-1)*2 ^ n3≤y:=Nat.le_trans (Nat.mul_le_mul_right _ p0) N3.1
  have:=Nat.mul_le_mul_right (2 ^ (64-(n3+t))) hlow
  rw [← Nat.pow_add,← Nat.pow_add,show t-1+n3+(64-(n3+t))=63 by omega] at this
  exact this
 ·have hhi:y<2 ^ t*2 ^ n3:=Nat.lt_of_lt_of_le N3.2 (Nat.mul_le_mul_right _ p1)
  have:=(Nat.mul_lt_mul_right (Nat.pow_pos (by decide:0<2) (n:=64-(n3+t)))).2 hhi
  rw [← Nat.pow_add,← Nat.pow_add,show t+n3+(64-(n3+t))=64 by omega] at this
  exact this
structure Dig (Y a b u d q r:Int):Prop where
 eq:q*a+r=u
 r0:0≤r
 r1:r<4294967296
 q0:0≤q
 q1:q≤4294967297
 ge:(u*4294967296+d)/Y≤q
theorem dig_stop {Y a b u d q r:Int} (hY:Y=a*4294967296+b) (h0:0<Y) (D:Dig Y a b u d q r) (hc:q*b≤4294967296*r+d):q=(u*4294967296+d)/Y:=by
 have e:q*Y=q*a*4294967296+q*b:=by rw [hY,Int.mul_add,Int.mul_assoc]
 have h:=D.eq
 have:q≤(u*4294967296+d)/Y:=Int.le_ediv_of_mul_le h0 (by rw [e];omega)
 have:=D.ge
 omega
theorem dig_dec {Y a b u d q r:Int} (hY:Y=a*4294967296+b) (h0:0<Y) (hu:u<Y) (hd:d<4294967296) (D:Dig Y a b u d q r) (hc:q≥4294967296∨q*b>4294967296*r+d):(u*4294967296+d)/Y≤q-1:=by
 have e:q*Y=q*a*4294967296+q*b:=by rw [hY,Int.mul_add,Int.mul_assoc]
 have h:=D.eq
 have:(u*4294967296+d)/Y<q:=by
  rcases hc with c | c
  ·have:(u*4294967296+d)/Y<4294967296:=Int.ediv_lt_of_lt_mul h0 (by omega)
   omega
  ·exact Int.ediv_lt_of_lt_mul h0 (by rw [e];omega)
 omega
theorem dig_brk {Y a b u d q r:Int} (hY:Y=a*4294967296+b) (h0:0<Y) (b0:0≤b) (b1:b<4294967296) (hd:0≤d) (D:Dig Y a b u d q r) (hg:(u*4294967296+d)/Y≤q-1) (hr:r+a≥4294967296):q-1=(u*4294967296+d)/Y:=by
 have h:=D.eq
 have hq:=D.q1
 have e:(q-1)*Y=(q-1)*a*4294967296+(q-1)*b:=by rw [hY,Int.mul_add,Int.mul_assoc]
 have e2:(q-1)*a=q*a-a:=by rw [Int.sub_mul,Int.one_mul]
 by_cases hq0:q-1<0
 ·have:0≤q-1∨q=0:=by have:=D.q0;omega
  rcases this with h | h
  ·omega
  ·exfalso
   subst h
   have hge:0≤(u*4294967296+d)/Y:=Int.ediv_nonneg (by have:=D.r0;omega) (by omega)
   omega
 ·have hb:(q-1)*b≤4294967296*4294967295:=Int.mul_le_mul (by omega) (by omega) b0 (by decide)
  have:q-1≤(u*4294967296+d)/Y:=Int.le_ediv_of_mul_le h0 (by rw [e,e2];omega)
  omega
theorem dig_init {Y a b u d:Int} (hY:Y=a*4294967296+b) (a0:2147483648≤a) (a1:a<4294967296) (b0:0≤b) (b1:b<4294967296) (u0:0≤u) (hu:u<Y) (hd:d<4294967296):Dig Y a b u d (u/a) (u%a):=by
 have e:=Int.mul_ediv_add_emod u a
 have m0:=Int.emod_nonneg u (show a≠0 by omega)
 have m1:=Int.emod_lt_of_pos u (show 0<a by omega)
 have q0:0≤u/a:=Int.ediv_nonneg u0 (by omega)
 have q1:u/a<4294967298:=Int.ediv_lt_of_lt_mul (by omega) (by omega)
 refine ⟨by rw [Int.mul_comm];exact e,m0,by omega,q0,by omega,?_⟩
 have:(u*4294967296+d)/Y<u/a+1:=by
  refine Int.ediv_lt_of_lt_mul (by omega) ?_
  have h1:u<a*(u/a+1):=by rw [Int.mul_add,Int.mul_one];omega
  have h2:(u/a+1)*Y=a*(u/a+1)*4294967296+(u/a+1)*b:=by rw [hY,Int.mul_add,Int.mul_comm a (u/a+1),Int.mul_assoc]
  have h3:0≤(u/a+1)*b:=Int.mul_nonneg (by omega) b0
  rw [h2];omega
 omega
theorem dig_next {Y a b u d q r:Int} (a0:0≤a) (D:Dig Y a b u d q r) (hg:(u*4294967296+d)/Y≤q-1) (hr:r+a<4294967296) (h0:0≤(u*4294967296+d)/Y):Dig Y a b u d (q-1) (r+a):=by
 have h:=D.eq
 have e2:(q-1)*a=q*a-a:=by rw [Int.sub_mul,Int.one_mul]
 exact ⟨by omega,by have:=D.r0;omega,hr,by omega,by have:=D.q1;omega,hg⟩
theorem loop3 (lo y s:Int) (Y a b u d:Int) (eY:IntKind.u64.wrap (y*2 ^ min (Int.toNat (IntKind.u64.wrap s)) (IntKind.bits IntKind.u64))=Y)
  (ed:IntKind.u64.wrap (lo*2 ^ min (Int.toNat (IntKind.u64.wrap s)) (IntKind.bits IntKind.u64))/4294967296=d)
  (ha:a=Y/4294967296) (hb:b=Y%4294967296) (Y0:9223372036854775808≤Y) (Y1:Y<18446744073709551616) (u0:0≤u) (hu:u<Y) (d0:0≤d) (d1:d<4294967296) :
  Ag (fun go (x:Int×Int)=>f83_l3 lo y s go x.1 x.2) Ah (u/a,u%a)=some ((u*4294967296+d)/Y):=by
 have hY:Y=a*4294967296+b:=by omega
 have Q0:0≤(u*4294967296+d)/Y:=Int.ediv_nonneg (by omega) (by omega)
 have H:∀ x:Int×Int,Dig Y a b u d x.1 x.2→
   (∃ z,(∀ go,f83_l3 lo y s go x.1 x.2=some z)∧z=(u*4294967296+d)/Y)∨(∃ x':Int×Int,(∀ go,f83_l3 lo y s go x.1 x.2=go x')∧Dig Y a b u d x'.1 x'.2∧x'.1.toNat<x.1.toNat):=by
  rintro ⟨q,r⟩ D
  simp only at D ⊢
  have dq0:=D.q0
  have dq1:=D.q1
  have dr0:=D.r0
  have dr1:=D.r1
  have hj:f83_j4 lo y s q r=some (bif decide (q≥4294967296∨q*b>4294967296*r+d) then Sum.inl () else Sum.inr ()):=by
   unfold f83_j4
   rw [eY,sh32u,ed,and32 _ (by omega) (by omega),← hb]
   by_cases c:q≥4294967296
   ·rw [dT c,dT (Or.inl c)];rfl
   ·rw [dF c]
    simp only [cond_false]
    have hqb:q*b≤4294967295*4294967295:=Int.mul_le_mul (by omega) (by omega) (by omega) (by decide)
    have hqb0:0≤q*b:=Int.mul_nonneg dq0 (by omega)
    rw [show IntKind.u64.wrap (q*b)=q*b by rw [wu];omega,show IntKind.u64.wrap (IntKind.u64.wrap (4294967296*r)+d)=4294967296*r+d by rw [wu,wu];omega]
    by_cases c2:q*b>4294967296*r+d
    ·rw [dT c2,dT (Or.inr c2)];rfl
    ·rw [dF c2,dF];rfl
  by_cases c:q≥4294967296∨q*b>4294967296*r+d
  ·have hg:=dig_dec hY (by omega) hu d1 D c
   have wr:IntKind.u64.wrap (r+Y/4294967296)=r+a:=by rw [wu,← ha];omega
   have wq:IntKind.u64.wrap (q-1)=q-1:=by rw [wu];omega
   by_cases c2:r+a≥4294967296
   ·left
    refine ⟨q-1,fun go=>?_,dig_brk hY (by omega) (by omega) (by omega) d0 D hg c2⟩
    unfold f83_l3
    rw [hj,dT c]
    simp only [cond_true,Aa,Ai]
    rw [eY,sh32u,wr,dT c2,wq];rfl
   ·right
    refine ⟨(q-1,r+a),fun go=>?_,dig_next (by omega) D hg (by omega) Q0,by simp only;omega⟩
    unfold f83_l3
    rw [hj,dT c]
    simp only [cond_true,Aa,Ai]
    rw [eY,sh32u,wr,dF c2,wq];rfl
  ·left
   refine ⟨q,fun go=>?_,dig_stop hY (by omega) D (by omega)⟩
   unfold f83_l3
   rw [hj,dF c];rfl
 obtain ⟨z,e,rfl⟩:=Bf (B:=fun go (x:Int×Int)=>f83_l3 lo y s go x.1 x.2) (fun x=>Dig Y a b u d x.1 x.2) (fun x=>x.1.toNat) (fun z=>z=(u*4294967296+d)/Y) H (u/a,u%a)
  (dig_init hY (by omega) (by omega) (by omega) (by omega) u0 hu d1) (by
   have:=(dig_init (d:=d) hY (by omega) (by omega) (by omega) (by omega) u0 hu d1).q1
   simp only;omega)
 exact e
theorem loop7 (lo y s:Int) (Y a b u d:Int) (eY:IntKind.u64.wrap (y*2 ^ min (Int.toNat (IntKind.u64.wrap s)) (IntKind.bits IntKind.u64))=Y)
  (ed:Af IntKind.u64 (fun p q=>p&&& q) (IntKind.u64.wrap (lo*2 ^ min (Int.toNat (IntKind.u64.wrap s)) (IntKind.bits IntKind.u64))) 4294967295=d)
  (ha:a=Y/4294967296) (hb:b=Y%4294967296) (Y0:9223372036854775808≤Y) (Y1:Y<18446744073709551616) (u0:0≤u) (hu:u<Y) (d0:0≤d) (d1:d<4294967296) :
  Ag (fun go (x:Int×Int)=>f83_l7 lo y s go x.1 x.2) Ah (u%a,u/a)=some ((u*4294967296+d)/Y):=by
 have hY:Y=a*4294967296+b:=by omega
 have Q0:0≤(u*4294967296+d)/Y:=Int.ediv_nonneg (by omega) (by omega)
 have H:∀ x:Int×Int,Dig Y a b u d x.2 x.1→
   (∃ z,(∀ go,f83_l7 lo y s go x.1 x.2=some z)∧z=(u*4294967296+d)/Y)∨(∃ x':Int×Int,(∀ go,f83_l7 lo y s go x.1 x.2=go x')∧Dig Y a b u d x'.2 x'.1∧x'.2.toNat<x.2.toNat):=by
  rintro ⟨r,q⟩ D
  simp only at D ⊢
  have dq0:=D.q0
  have dq1:=D.q1
  have dr0:=D.r0
  have dr1:=D.r1
  have hj:f83_j8 lo y s r q=some (bif decide (q≥4294967296∨q*b>4294967296*r+d) then Sum.inl () else Sum.inr ()):=by
   unfold f83_j8
   rw [eY,ed,and32 _ (by omega) (by omega),← hb]
   by_cases c:q≥4294967296
   ·rw [dT c,dT (Or.inl c)];rfl
   ·rw [dF c]
    simp only [cond_false]
    have hqb:q*b≤4294967295*4294967295:=Int.mul_le_mul (by omega) (by omega) (by omega) (by decide)
    have hqb0:0≤q*b:=Int.mul_nonneg dq0 (by omega)
    rw [show IntKind.u64.wrap (q*b)=q*b by rw [wu];omega,show IntKind.u64.wrap (IntKind.u64.wrap (4294967296*r)+d)=4294967296*r+d by rw [wu,wu];omega]
    by_cases c2:q*b>4294967296*r+d
    ·rw [dT c2,dT (Or.inr c2)];rfl
    ·rw [dF c2,dF];rfl
  by_cases c:q≥4294967296∨q*b>4294967296*r+d
  ·have hg:=dig_dec hY (by omega) hu d1 D c
   have wr:IntKind.u64.wrap (r+Y/4294967296)=r+a:=by rw [wu,← ha];omega
   have wq:IntKind.u64.wrap (q-1)=q-1:=by rw [wu];omega
   by_cases c2:r+a≥4294967296
   ·left
    refine ⟨q-1,fun go=>?_,dig_brk hY (by omega) (by omega) (by omega) d0 D hg c2⟩
    unfold f83_l7
    rw [hj,dT c]
    simp only [cond_true,Aa,Ai]
    rw [eY,sh32u,wr,dT c2,wq];rfl
   ·right
    refine ⟨(r+a,q-1),fun go=>?_,dig_next (by omega) D hg (by omega) Q0,by simp only;omega⟩
    unfold f83_l7
    rw [hj,dT c]
    simp only [cond_true,Aa,Ai]
    rw [eY,sh32u,wr,dF c2,wq];rfl
  ·left
   refine ⟨q,fun go=>?_,dig_stop hY (by omega) D (by omega)⟩
   unfold f83_l7
   rw [hj,dF c];rfl
 obtain ⟨z,e,rfl⟩:=Bf (B:=fun go (x:Int×Int)=>f83_l7 lo y s go x.1 x.2) (fun x=>Dig Y a b u d x.2 x.1) (fun x=>x.2.toNat) (fun z=>z=(u*4294967296+d)/Y) H (u%a,u/a)
  (dig_init hY (by omega) (by omega) (by omega) (by omega) u0 hu d1) (by
   have:=(dig_init (d:=d) hY (by omega) (by omega) (by omega) (by omega) u0 hu d1).q1
   simp only;omega)
 exact e
theorem div64 (hi lo y : Int) (h0 : 0 ≤ hi) (h1 : hi < y) (l0 : 0 ≤ lo) (l1 : lo < 18446744073709551616) (y1 : y < 18446744073709551616) :
    f83 hi lo y = some ((hi * 18446744073709551616 + lo) / y, (hi * 18446744073709551616 + lo) % y) := by
  unfold f83
  rw [bF (show ¬ y = 0 by omega), dF (show ¬ y ≤ hi by omega)]
  simp only [cond_false]
  by_cases hz : hi = 0
  · subst hz
    rw [bT rfl]
    simp only [cond_true]
    rw [Ab, Ab, Int.tdiv_eq_ediv_of_nonneg l0, Int.tmod_eq_emod_of_nonneg l0, Int.zero_mul, Int.zero_add]
    have := Int.ediv_nonneg l0 (show 0 ≤ y by omega)
    have := Int.ediv_le_self y l0
    rw [show IntKind.u64.wrap (lo / y) = lo / y by rw [wu]; omega]
  rw [bF hz]
  simp only [cond_false]
  obtain ⟨yn, rfl⟩ := Int.eq_ofNat_of_zero_le (show 0 ≤ y by omega)
  obtain ⟨s, s63, es, p0, p1⟩ := clz_ok yn (by omega) (by omega)
  rw [es]
  simp only [Aa]
  have ws : IntKind.u64.wrap (s : Int) = s := by rw [wu]; omega
  have ws2 : IntKind.u64.wrap ((64 : Int) - s) = ((64 - s : Nat) : Int) := by rw [wu]; omega
  have b64 : IntKind.bits IntKind.u64 = 64 := rfl
  obtain ⟨P, hP⟩ : ∃ P : Nat, P = 2 ^ s := ⟨_, rfl⟩
  obtain ⟨R, hR⟩ : ∃ R : Nat, R = 2 ^ (64 - s) := ⟨_, rfl⟩
  have hPR : P * R = 18446744073709551616 := by
    rw [hP, hR, ← Nat.pow_add, show s + (64 - s) = 64 by omega]
  have P1 : 1 ≤ P := by rw [hP]; exact Nat.one_le_two_pow
  have R1 : 1 ≤ R := by rw [hR]; exact Nat.one_le_two_pow
  have eP : (2 : Int) ^ min (Int.toNat (s : Int)) (IntKind.bits IntKind.u64) = (P : Int) := by
    rw [Int.toNat_natCast, b64, show min s 64 = s by omega, hP]; simp
  have eR : (2 : Int) ^ min (Int.toNat (((64 - s : Nat) : Int))) (IntKind.bits IntKind.u64) = (R : Int) := by
    rw [Int.toNat_natCast, b64, show min (64 - s) 64 = 64 - s by omega, hR]; simp
  have hYn : (yn : Int) * P = ((yn * 2 ^ s : Nat) : Int) := by rw [← hP]; simp
  have Y0 : 9223372036854775808 ≤ (yn : Int) * P := by rw [hYn]; omega
  have Y1 : (yn : Int) * P < 18446744073709551616 := by rw [hYn]; omega
  have eY : IntKind.u64.wrap ((yn : Int) * P) = (yn : Int) * P := by
    rw [wu]; omega
  have lR : Int.fdiv lo (R : Int) = lo / R := Int.fdiv_eq_ediv_of_nonneg _ (by omega)
  have lo1 : lo / R < P := Int.ediv_lt_of_lt_mul (by omega) (by have : ((P * R : Nat) : Int) = (P : Int) * R := by simp
                                                                rw [← this, hPR]; exact l1)
  have lo0 : 0 ≤ lo / R := Int.ediv_nonneg l0 (by omega)
  have hiP : hi * P + P ≤ (yn : Int) * P := by
    have : (hi + 1) * P ≤ (yn : Int) * P := Int.mul_le_mul_of_nonneg_right (by omega) (by omega)
    rw [Int.add_mul, Int.one_mul] at this; exact this
  have hiP0 : 0 ≤ hi * P := Int.mul_nonneg h0 (by omega)
  have eU : Af IntKind.u64 (fun p q => p ||| q) (IntKind.u64.wrap (hi * P)) (lo / R) = hi * P + lo / R := by
    rw [show IntKind.u64.wrap (hi * P) = hi * P by rw [wu]; omega, or_nat _ _ hiP0 (by omega) lo0 (by omega)]
    have := Nat.two_pow_add_eq_or_of_lt (i := s) (b := (lo / R).toNat) (by rw [← hP]; omega) hi.toNat
    rw [← hP] at this
    have e : (hi * P).toNat = P * hi.toNat := by
      obtain ⟨h, rfl⟩ := Int.eq_ofNat_of_zero_le h0
      rw [Int.toNat_natCast, Nat.mul_comm, ← Int.toNat_natCast (h * P)]; simp
    rw [e, ← this]
    have e2 : ((P * hi.toNat : Nat) : Int) = hi * P := by rw [← e]; omega
    omega
  have hsplit : lo * P = lo / R * 18446744073709551616 + lo * P % 18446744073709551616 := by
    have : lo * P / 18446744073709551616 = lo / R := by
      have hc : (18446744073709551616 : Int) = (R : Int) * P := by
        have : ((P * R : Nat) : Int) = (R : Int) * P := by rw [Nat.mul_comm]; simp
        rw [← this, hPR]; rfl
      rw [hc]; exact Int.mul_ediv_mul_of_pos_left lo R (by omega)
    have e := Int.mul_ediv_add_emod (lo * P) 18446744073709551616
    rw [this] at e; omega
  have eL : IntKind.u64.wrap (lo * P) = lo * P % 18446744073709551616 := by rw [wu]
  have hNY : (hi * 18446744073709551616 + lo) * P = (hi * P + lo / R) * 18446744073709551616 + lo * P % 18446744073709551616 := by
    have e1 : (hi * 18446744073709551616 + lo) * P = hi * P * 18446744073709551616 + lo * P := by
      rw [Int.add_mul, Int.mul_assoc, Int.mul_comm 18446744073709551616, ← Int.mul_assoc]
    omega
  have hdivP : (hi * 18446744073709551616 + lo) * P / ((yn : Int) * P) = (hi * 18446744073709551616 + lo) / yn := Int.mul_ediv_mul_of_pos_left _ _ (by omega)
  have hmodP : (hi * 18446744073709551616 + lo) * P % ((yn : Int) * P) = (hi * 18446744073709551616 + lo) % yn * P := by
    rw [Int.mul_comm _ (P : Int), Int.mul_comm (yn : Int), Int.mul_emod_mul_of_pos _ _ (by omega), Int.mul_comm]
  have hN0 : 0 ≤ (hi * 18446744073709551616 + lo) % yn := Int.emod_nonneg _ (by omega)
  have eP2 : ∀ x : Int, Int.fdiv x (P : Int) = x / P := fun x => Int.fdiv_eq_ediv_of_nonneg _ (by omega)
  simp only [ws, ws2, eP, eR, lR, sh32u, eP2]
  have l3 := loop3 lo yn s
  have l7 := loop7 lo yn s
  simp only [ws, eP] at l3 l7
  rw [eU, eY, eL]
  rw [eY, eL] at l3 l7
  rw [← hdivP]
  have hm : (hi * 18446744073709551616 + lo) % (yn : Int) = (hi * 18446744073709551616 + lo) * P % ((yn : Int) * P) / P := by
    rw [hmodP, Int.mul_ediv_cancel _ (by omega)]
  rw [hm, hNY]
  have hun1 : 0 ≤ lo * P % 18446744073709551616 := Int.emod_nonneg _ (by decide)
  have hun2 : lo * P % 18446744073709551616 < 18446744073709551616 := Int.emod_lt_of_pos _ (by decide)
  generalize lo * P % 18446744073709551616 = W at *
  have hu0 : 0 ≤ hi * P + lo / R := by omega
  have hu1 : hi * P + lo / R < (yn : Int) * P := by omega
  generalize hi * P + lo / R = u at *
  generalize (yn : Int) * P = Y at *
  clear hsplit hNY hdivP hmodP hm hiP hiP0
  have a0 : 0 < Y / 4294967296 := by omega
  have dq0 : 0 ≤ u / (Y / 4294967296) := Int.ediv_nonneg hu0 (by omega)
  have dgi := dig_init (Y := Y) (a := Y / 4294967296) (b := Y % 4294967296) (u := u) (d := W / 4294967296) (by omega) (by omega) (by omega) (by omega) (by omega) hu0 hu1 (by omega)
  have dq1 := dgi.q1
  rw [Int.tdiv_eq_ediv_of_nonneg hu0, show IntKind.u64.wrap (u / (Y / 4294967296)) = u / (Y / 4294967296) by rw [wu]; omega]
  have em := dgi.eq
  have hm0 := dgi.r0
  have hm1 := dgi.r1
  have er : IntKind.u64.wrap (u - IntKind.u64.wrap (u / (Y / 4294967296) * (Y / 4294967296))) = u % (Y / 4294967296) := by
    rw [wu, wu]; omega
  rw [er, Ab, Ab, Ab, Ab, Ab]
  rw [l3 Y (Y / 4294967296) (Y % 4294967296) u (W / 4294967296) rfl rfl rfl rfl Y0 Y1 hu0 hu1 (by omega) (by omega)]
  simp only [Aa]
  rw [Ab]
  have c1 : 0 ≤ (u * 4294967296 + W / 4294967296) / Y := Int.ediv_nonneg (by omega) (by omega)
  have c2 : (u * 4294967296 + W / 4294967296) / Y < 4294967296 := Int.ediv_lt_of_lt_mul (by omega) (by omega)
  have k1 := Int.mul_ediv_add_emod (u * 4294967296 + W / 4294967296) Y
  have k2 := Int.emod_nonneg (u * 4294967296 + W / 4294967296) (show Y ≠ 0 by omega)
  have k3 := Int.emod_lt_of_pos (u * 4294967296 + W / 4294967296) (show 0 < Y by omega)
  rw [Int.mul_comm Y] at k1
  have ev : IntKind.u64.wrap (IntKind.u64.wrap (IntKind.u64.wrap (u * 4294967296) + W / 4294967296) - IntKind.u64.wrap ((u * 4294967296 + W / 4294967296) / Y * Y)) = (u * 4294967296 + W / 4294967296) % Y := by
    simp only [wu]
    generalize (u * 4294967296 + W / 4294967296) / Y * Y = T at *
    omega
  rw [ev]
  generalize (u * 4294967296 + W / 4294967296) % Y = v at *
  generalize hq : (u * 4294967296 + W / 4294967296) / Y = q at *
  have dgj := dig_init (Y := Y) (a := Y / 4294967296) (b := Y % 4294967296) (u := v) (d := W % 4294967296) (by omega) (by omega) (by omega) (by omega) (by omega) k2 k3 (by omega)
  have f1 := dgj.q1
  have f0 := dgj.q0
  have fm := dgj.eq
  have fm0 := dgj.r0
  have fm1 := dgj.r1
  rw [Int.tdiv_eq_ediv_of_nonneg k2, show IntKind.u64.wrap (v / (Y / 4294967296)) = v / (Y / 4294967296) by rw [wu]; omega]
  have er2 : IntKind.u64.wrap (v - IntKind.u64.wrap (v / (Y / 4294967296) * (Y / 4294967296))) = v % (Y / 4294967296) := by
    rw [wu, wu]; omega
  rw [er2, l7 Y (Y / 4294967296) (Y % 4294967296) v (W % 4294967296) rfl (by rw [and32 _ (by omega) (by omega)]) rfl rfl Y0 Y1 k2 k3 (by omega) (by omega)]
  simp only [Aa]
  rw [Ab, and32 _ (by omega) (by omega)]
  have g1 : 0 ≤ (v * 4294967296 + W % 4294967296) / Y := Int.ediv_nonneg (by omega) (by omega)
  have g2 : (v * 4294967296 + W % 4294967296) / Y < 4294967296 := Int.ediv_lt_of_lt_mul (by omega) (by omega)
  have j1 := Int.mul_ediv_add_emod (v * 4294967296 + W % 4294967296) Y
  have j2 := Int.emod_nonneg (v * 4294967296 + W % 4294967296) (show Y ≠ 0 by omega)
  have j3 := Int.emod_lt_of_pos (v * 4294967296 + W % 4294967296) (show 0 < Y by omega)
  rw [Int.mul_comm Y] at j1
  have ew : IntKind.u64.wrap (IntKind.u64.wrap (IntKind.u64.wrap (v * 4294967296) + W % 4294967296) - IntKind.u64.wrap ((v * 4294967296 + W % 4294967296) / Y * Y)) = (v * 4294967296 + W % 4294967296) % Y := by
    simp only [wu]
    generalize (v * 4294967296 + W % 4294967296) / Y * Y = T at *
    omega
  rw [ew]
  generalize (v * 4294967296 + W % 4294967296) % Y = w at *
  generalize (v * 4294967296 + W % 4294967296) / Y = p at *
  have hall : u * 18446744073709551616 + W = w + (q * 4294967296 + p) * Y := by
    rw [Int.add_mul, Int.mul_assoc, Int.mul_comm 4294967296 Y, ← Int.mul_assoc]
    generalize q * Y = T at *
    generalize p * Y = S at *
    omega
  rw [hall, Int.add_mul_ediv_right _ _ (by omega), Int.add_mul_emod_self_right, Int.ediv_eq_zero_of_lt j2 j3, Int.emod_eq_of_lt j2 j3, Int.zero_add]
  rw [show IntKind.u64.wrap (IntKind.u64.wrap (q * 4294967296) + p) = q * 4294967296 + p by rw [wu, wu]; omega]
end Go.Proofs.Div
namespace Go.Proofs.PlV
open Go.AM Go.Proofs.PlB Go.Proofs.PlW Go.Proofs.PlT
def pair (V:Int):Int×Int:=(V/18446744073709551616,V%18446744073709551616)
def far (V:Int):Prop:=-85070591730234615865843651857942052864≤V∧V≤85070591730234615865843651857942052864
theorem of_ok (v:Int) (h0 : -9223372036854775808≤v) (h1:v<9223372036854775808):f32 v=some (pair v):=by
 unfold f32 pair
 rw [sh63i,wu]
 congr 2
 omega
theorem add_w (A B:Int) (ha:far A) (hb:far B) (hs:far (A+B)):f31 (pair A) (pair B)=some (pair (A+B)):=by
 obtain ⟨a0,a1⟩:=ha
 obtain ⟨b0,b1⟩:=hb
 obtain ⟨s0,s1⟩:=hs
 unfold f31 pair
 simp only
 rw [add_ok _ _ _ (by omega) (by omega) (by decide) (by decide)]
 simp only [Aa,wu]
 rw [add_ok _ _ _ (by omega) (by omega) (by omega) (by omega)]
 simp only [Aa,Option.some.injEq,Prod.mk.injEq]
 refine ⟨?_,by omega⟩
 rw [wi_mod,← wi_mod]
 rw [show (A/18446744073709551616%18446744073709551616+B/18446744073709551616%18446744073709551616+(A%18446744073709551616+B%18446744073709551616+0)/18446744073709551616)%18446744073709551616=(A+B)/18446744073709551616%18446744073709551616 by omega]
 rw [wi_mod,Ae]
theorem neg_w (A:Int) (ha:far A):f85 (pair A)=some (pair (-A)):=by
 obtain ⟨a0,a1⟩:=ha
 unfold f85 f125 pair
 simp only
 rw [sub_ok _ _ _ (by omega) (by omega) (by omega) (by omega) (by omega) (by omega)]
 simp only [Aa,wu]
 rw [sub_ok _ _ _ (by omega) (by omega) (by omega) (by omega) (by split <;> omega) (by split <;> omega)]
 simp only [Aa,Option.some.injEq,Prod.mk.injEq]
 refine ⟨?_,by omega⟩
 rw [wi_mod]
 rw [← wi_mod]
 have e:((0:Int)%18446744073709551616-A/18446744073709551616%18446744073709551616-(if (0:Int)<A%18446744073709551616+0 then 1 else 0))%18446744073709551616=-A/18446744073709551616%18446744073709551616:=by
  split <;> omega
 rw [e,wi_mod,Ae]
theorem fix_ok (V:Int) (hv:far V):f84 (pair V)=some (sat V):=by
 obtain ⟨a0,a1⟩:=hv
 unfold f84 f84_j2 f84_j3 pair sat
 simp only
 by_cases h1:V/18446744073709551616>0
 ·rw [show decide (V/18446744073709551616>0)=true by simpa using h1,iPo]
  rfl
 ·rw [show decide (V/18446744073709551616>0)=false by simpa using h1]
  simp only [cond_false]
  by_cases h2:V/18446744073709551616=0
  ·rw [show (V/18446744073709551616==0)=true by simpa using h2]
   simp only [cond_true,Aa]
   rw [show decide (V/18446744073709551616 < -1)=false by simp;omega,show (V/18446744073709551616==-1)=false by simp;omega]
   by_cases h3:V%18446744073709551616≥9223372036854775808
   ·rw [show decide (V%18446744073709551616≥9223372036854775808)=true by simpa using h3,iPo]
    rfl
   ·rw [show decide (V%18446744073709551616≥9223372036854775808)=false by simpa using h3,iNo,iNo]
    simp only [cond_false,Aa,Ai,Option.some.injEq]
    rw [Ae]
    omega
  ·rw [show (V/18446744073709551616==0)=false by simpa using h2]
   simp only [cond_false,Aa]
   by_cases h3:V/18446744073709551616 < -1
   ·rw [show decide (V/18446744073709551616 < -1)=true by simpa using h3,iNo,iPo]
    rfl
   ·rw [show decide (V/18446744073709551616 < -1)=false by simpa using h3,show (V/18446744073709551616==-1)=true by simp;omega]
    simp only [cond_false,cond_true]
    by_cases h4:V%18446744073709551616<9223372036854775808
    ·rw [show decide (V%18446744073709551616<9223372036854775808)=true by simpa using h4,iNo,iPo]
     rfl
    ·rw [show decide (V%18446744073709551616<9223372036854775808)=false by simpa using h4,iNo,iNo]
     simp only [cond_false,Aa,Ai,Option.some.injEq]
     rw [wi]
     split <;> omega
end Go.Proofs.PlV
namespace Go.Proofs.Div
open Go.AM Go.Proofs.PlW Go.Proofs.Num Go.Proofs.PlV
theorem rdI_eq (a n:Int):rdI a n=if (!(decide (a<0)==decide (n<0))) then -rdn a.natAbs n.natAbs else rdn a.natAbs n.natAbs:=by
 unfold rdI
 by_cases h1:a<0 <;> by_cases h2:n<0 <;> simp [h1,h2]
theorem round_j (d q r:Int) (d0:0<d) (d1:d≤9223372036854775808) (r0:0≤r) (r1:r<d) (q0:0≤q) (q1:q<18446744073709551616) :
  f53_j3 d (q,r)=some (decide (2*r>d∨(2*r=d∧q%2=1))):=by
 unfold f53_j3
 simp only
 rw [show IntKind.u64.wrap (d-r)=d-r by rw [wu];omega]
 by_cases h1:r>d-r
 ·rw [dT h1,dT];rfl
 ·rw [dF h1]
  simp only [cond_false]
  by_cases h2:r=d-r
  ·rw [bT h2]
   simp only [cond_true]
   rw [and1 _ q0 q1,Option.some.injEq,Bool.eq_iff_iff,beq_iff_eq,decide_eq_true_iff]
   omega
  ·rw [bF h2,dF];rfl
theorem two_steps (A d:Int) (A0:0≤A) (A1:A≤42535295865117307932921825928971026432) (d0:0<d) (d1:d≤9223372036854775808) :
  0≤A/18446744073709551616/d∧A/18446744073709551616/d≤A/18446744073709551616∧0≤A/18446744073709551616%d∧A/18446744073709551616%d<d∧
  0≤(A/18446744073709551616%d*18446744073709551616+A%18446744073709551616)/d∧(A/18446744073709551616%d*18446744073709551616+A%18446744073709551616)/d<18446744073709551616∧
  A/d=A/18446744073709551616/d*18446744073709551616+(A/18446744073709551616%d*18446744073709551616+A%18446744073709551616)/d∧
  A%d=(A/18446744073709551616%d*18446744073709551616+A%18446744073709551616)%d:=by
 have m0:=Int.emod_nonneg (A/18446744073709551616) (show d≠0 by omega)
 have m1:=Int.emod_lt_of_pos (A/18446744073709551616) d0
 have me:=Int.mul_ediv_add_emod (A/18446744073709551616) d
 have t0:0≤A/18446744073709551616/d:=Int.ediv_nonneg (by omega) (by omega)
 have t1:A/18446744073709551616/d≤A/18446744073709551616:=Int.ediv_le_self d (by omega)
 have q0:0≤(A/18446744073709551616%d*18446744073709551616+A%18446744073709551616)/d:=Int.ediv_nonneg (by omega) (by omega)
 have q1:(A/18446744073709551616%d*18446744073709551616+A%18446744073709551616)/d<18446744073709551616:=Int.ediv_lt_of_lt_mul d0 (by omega)
 have hA:A=(A/18446744073709551616%d*18446744073709551616+A%18446744073709551616)+A/18446744073709551616/d*18446744073709551616*d:=by
  rw [Int.mul_assoc,Int.mul_comm 18446744073709551616 d,← Int.mul_assoc,Int.mul_comm (A/18446744073709551616/d) d]
  generalize d*(A/18446744073709551616/d)=T at *
  omega
 have hq:A/d=A/18446744073709551616/d*18446744073709551616+(A/18446744073709551616%d*18446744073709551616+A%18446744073709551616)/d:=by
  conv=>lhs;rw [hA]
  rw [Int.add_mul_ediv_right _ _ (by omega),Int.add_comm]
 have hr:A%d=(A/18446744073709551616%d*18446744073709551616+A%18446744073709551616)%d:=by
  conv=>lhs;rw [hA]
  rw [Int.add_mul_emod_self_right]
 exact ⟨t0,t1,m0,m1,q0,q1,hq,hr⟩
theorem round_w (A d t q b:Int) (t0:0≤t) (t1:t≤9223372036854775808) (q0:0≤q) (q1:q<18446744073709551616) (hb:0≤b) (hb1:b≤1) :
  ((t+(q+b)/18446744073709551616)%18446744073709551616,(q+b)%18446744073709551616)=((t*18446744073709551616+q+b)/18446744073709551616,(t*18446744073709551616+q+b)%18446744073709551616):=by
 refine Prod.ext ?_ ?_ <;> simp only <;> omega
theorem mag_ok (V:Int) (v0 : -42535295865117307932921825928971026432≤V) (v1:V≤42535295865117307932921825928971026432) :
  f81 (pair V)=some ((V.natAbs:Int)/18446744073709551616,(V.natAbs:Int)%18446744073709551616,decide (V<0)):=by
 unfold f81
 rw [show ((pair V).1,(pair V).2)=pair V from rfl]
 by_cases h:V<0
 ·rw [dT (show (pair V).1<0 by unfold pair;simp only;omega),neg_w V (by unfold far;omega),dT h]
  simp only [cond_true,Aa]
  have:(V.natAbs:Int)=-V:=by omega
  rw [this]
  unfold pair
  simp only
  rw [show IntKind.u64.wrap (-V/18446744073709551616)=-V/18446744073709551616 by rw [wu];omega]
 ·rw [dF (show ¬(pair V).1<0 by unfold pair;simp only;omega),dF h]
  have:(V.natAbs:Int)=V:=by omega
  rw [this]
  unfold pair
  simp only [cond_false]
  rw [show IntKind.u64.wrap (V/18446744073709551616)=V/18446744073709551616 by rw [wu];omega]
theorem over_ok (V n:Int) (v0 : -42535295865117307932921825928971026432≤V) (v1:V≤42535295865117307932921825928971026432) (n0 : -9223372036854775808≤n) (n1:n<9223372036854775808) (hn:n≠0) :
  f53 (pair V) n=some (sat (rdI V n)):=by
 unfold f53
 rw [bF hn]
 simp only [cond_false]
 rw [show ((pair V).1,(pair V).2)=pair V from rfl,mag_ok V v0 v1]
 simp only [Aa]
 rw [PlW.size_ok n n0 n1]
 simp only [Aa]
 have hdd:(if n<0 then -n else n)=((n.natAbs:Nat):Int):=by split <;> omega
 rw [hdd,rdI_eq]
 have A0:0≤(V.natAbs:Int):=by omega
 have A1:(V.natAbs:Int)≤42535295865117307932921825928971026432:=by omega
 have d0:0<(n.natAbs:Int):=by omega
 have d1:(n.natAbs:Int)≤9223372036854775808:=by omega
 generalize (V.natAbs:Int)=A at *
 generalize (n.natAbs:Int)=d at *
 clear hdd v0 v1 n0 n1 hn
 obtain ⟨t0,t1,m0,m1,q0,q1,hq,hr⟩:=two_steps A d A0 A1 d0 d1
 rw [Ab,Ab,Int.tmod_eq_emod_of_nonneg (by omega)]
 have hdv:=div64 _ (A%18446744073709551616) _ m0 m1 (by omega) (by omega) (by omega)
 rw [← hr] at hdv
 have r0:=Int.emod_nonneg A (show d≠0 by omega)
 have r1:=Int.emod_lt_of_pos A d0
 clear hr
 have hR:rdn A d=A/d+if 2*(A%d)>d∨(2*(A%d)=d∧A/d%2=1) then 1 else 0:=rfl
 have hRl:=rdn_le A0 d0
 have hR0:=rdn_nonneg A0 d0
 generalize (A/18446744073709551616%d*18446744073709551616+A%18446744073709551616)/d=q at *
 generalize A%d=r at *
 rw [hdv]
 simp only [Aa]
 have hj:=round_j d q _ d0 d1 r0 r1 q0 q1
 have hwt:IntKind.u64.wrap (Int.tdiv (A/18446744073709551616) d)=A/18446744073709551616/d:=by
  rw [Int.tdiv_eq_ediv_of_nonneg (by omega),wu];omega
 have t2:A/18446744073709551616/d≤9223372036854775808:=by omega
 generalize A/18446744073709551616/d=t at *
 have hpar:A/d%2=q%2:=by rw [hq];omega
 rw [hpar,hq] at hR
 have hj2:f53_j2 (A/18446744073709551616,A%18446744073709551616,decide (V<0)) d (q,r)=some (rdn A d/18446744073709551616,rdn A d%18446744073709551616):=by
  unfold f53_j2
  rw [hj]
  simp only [Aa]
  by_cases c:2*(r)>d∨(2*(r)=d∧q%2=1)
  ·rw [dT c]
   rw [if_pos c] at hR
   simp only [cond_true]
   rw [add_ok _ _ _ (by omega) (by omega) (by omega) (by omega),hwt]
   simp only [Aa,Int.add_zero]
   rw [wu,hR,round_w A d t q 1 t0 t2 q0 q1 (by decide) (by decide)]
  ·rw [dF c]
   rw [if_neg c] at hR
   simp only [cond_false]
   have:=round_w A d t q 0 t0 t2 q0 q1 (by decide) (by decide)
   rw [hwt,hR,← this,Int.add_zero]
   refine congrArg some (Prod.ext ?_ ?_) <;> simp only <;> omega
 rw [hj2]
 simp only [Aa]
 generalize rdn A d=R at *
 clear hj hj2 hR hq hwt hpar m0 m1 q0 q1 t0 t1 t2 r0 r1
 rw [if_neg (show ¬(9223372036854775807:Int)<R/18446744073709551616 by omega),Ae]
 rw [show ((R/18446744073709551616,R%18446744073709551616):Int×Int)=pair R from rfl]
 cases hs:(!(decide (V<0)==decide (n<0)))
 ·simp only [cond_false]
  rw [PlV.fix_ok R (by unfold far;omega)]
  simp only [Aa,Bool.false_eq_true,if_false]
 ·simp only [cond_true]
  rw [neg_w R (by unfold far;omega)]
  simp only [Aa]
  rw [show ((pair (-R)).1,(pair (-R)).2)=pair (-R) from rfl,PlV.fix_ok (-R) (by unfold far;omega)]
  simp only [Aa,if_true]
theorem fdiv_j (d q r:Int) (d0:0<d) (d1:d≤9223372036854775808) (r0:0≤r) (r1:r<d) (q0:0≤q) (q1:q<18446744073709551616) :
  f79_j3 d (q,r)=some (decide (2*r>d∨(2*r=d∧q%2=1))):=round_j d q r d0 d1 r0 r1 q0 q1
theorem fdiv_j2 (d q r R:Int) (d0:0<d) (d1:d≤9223372036854775808) (r0:0≤r) (r1:r<d) (q0:0≤q) (q1:q<18446744073709551616)
  (hR:R=q+if 2*r>d∨(2*r=d∧q%2=1) then 1 else 0):f79_j2 d (q,r)=some (R%18446744073709551616,R/18446744073709551616):=by
 unfold f79_j2
 rw [fdiv_j d q r d0 d1 r0 r1 q0 q1,Aa]
 by_cases c:2*r>d∨(2*r=d∧q%2=1)
 ·rw [if_pos c] at hR
  rw [dT c,cond_true,add_ok _ _ _ (by omega) (by omega) (by omega) (by omega),Aa,hR,Int.add_zero]
 ·rw [if_neg c] at hR
  rw [dF c,cond_false,hR]
  refine congrArg some (Prod.ext ?_ ?_) <;> simp only <;> omega
theorem fdiv_end (x y a b d q r R:Int) (s:Bool) (d0:0<d) (d1:d≤9223372036854775808) (r0:0≤r) (r1:r<d) (q0:0≤q) (q1:q<18446744073709551616)
  (hR:R=q+if 2*r>d∨(2*r=d∧q%2=1) then 1 else 0) (hdv:f83 x y d=some (q,r)) :
  (Ac (f83 x y d) fun r4=>Ac (f79_j2 d r4) fun z7=>Ac (f52 z7.2 z7.1 s) fun r10=>some r10)=some (sat (if s=true then -R else R)):=by
 have R0:0≤R:=by rw [hR];split <;> omega
 have R1:R≤85070591730234615865843651857942052864:=by rw [hR];split <;> omega
 rw [hdv,Aa,fdiv_j2 d q r R d0 d1 r0 r1 q0 q1 hR,Aa,PlS.held_ok R s R0 R1,Aa]
theorem fdiv_ok (a b:Int) (a0 : -9223372036854775808≤a) (a1:a<9223372036854775808) (b0 : -9223372036854775808≤b) (b1:b<9223372036854775808) (hb:b≠0) :
  f79 a b=some (sat (rdI (a*4294967296) b)):=by
 unfold f79
 rw [bF hb]
 simp only [cond_false]
 rw [PlS.sizeF_ok a a0 a1,PlS.sizeF_ok b b0 b1]
 simp only [Aa]
 have e1:(if a<0 then -a else a)=((a.natAbs:Nat):Int):=by split <;> omega
 have e2:(if b<0 then -b else b)=((b.natAbs:Nat):Int):=by split <;> omega
 rw [e1,e2,rdI_eq,sh32u]
 have e3:(((a*4294967296).natAbs:Nat):Int)=(a.natAbs:Int)*4294967296:=by omega
 rw [e3,show decide (a*4294967296<0)=decide (a<0) by rw [decide_eq_decide];omega]
 have A0:0≤(a.natAbs:Int):=by omega
 have A1:(a.natAbs:Int)≤9223372036854775808:=by omega
 have d0:0<(b.natAbs:Int):=by omega
 have d1:(b.natAbs:Int)≤9223372036854775808:=by omega
 generalize (!(decide (a<0)==decide (b<0)))=s at *
 generalize (a.natAbs:Int)=A at *
 generalize (b.natAbs:Int)=d at *
 have hR:rdn (A*4294967296) d=A*4294967296/d+if 2*(A*4294967296%d)>d∨(2*(A*4294967296%d)=d∧A*4294967296/d%2=1) then 1 else 0:=rfl
 have hRl:=rdn_le (N:=A*4294967296) (by omega) d0
 by_cases h:A/4294967296≥d
 ·rw [dT h]
  simp only [cond_true]
  have hk:=PlS.held_ok 18446744073709551616 s (by decide) (by decide)
  rw [show (18446744073709551616:Int)/18446744073709551616=1 from rfl,show (18446744073709551616:Int)%18446744073709551616=0 from rfl] at hk
  rw [hk]
  simp only [Aa]
  have hge:18446744073709551616≤A*4294967296/d:=Int.le_ediv_of_mul_le d0 (by omega)
  have hRg:18446744073709551616≤rdn (A*4294967296) d:=by rw [hR];split <;> omega
  congr 1
  cases s
  ·simp only [Bool.false_eq_true,if_false];unfold sat;rw [iPo,iPo]
  ·simp only [if_true];unfold sat;rw [if_neg (show ¬(-18446744073709551616:Int)≥9223372036854775808 by decide),if_pos (show (-18446744073709551616:Int) < -9223372036854775808 by decide),iNo,iPo]
 ·rw [dF h]
  simp only [cond_false]
  have hlo:IntKind.u64.wrap (A*2 ^ min (Int.toNat (32:Int)) (IntKind.bits IntKind.u64))=A*4294967296%18446744073709551616:=by
   rw [show ((2:Int) ^ min (Int.toNat (32:Int)) (IntKind.bits IntKind.u64))=4294967296 from rfl,wu]
  have hdv:=div64 (A/4294967296) (A*4294967296%18446744073709551616) d (by omega) (by omega) (by omega) (by omega) (by omega)
  rw [show A/4294967296*18446744073709551616+A*4294967296%18446744073709551616=A*4294967296 by omega] at hdv
  have q0:0≤A*4294967296/d:=Int.ediv_nonneg (by omega) (by omega)
  have q1:A*4294967296/d<18446744073709551616:=Int.ediv_lt_of_lt_mul d0 (by omega)
  have r0:=Int.emod_nonneg (A*4294967296) (show d≠0 by omega)
  have r1:=Int.emod_lt_of_pos (A*4294967296) d0
  rw [hlo]
  exact fdiv_end _ _ a b d _ _ _ s d0 d1 r0 r1 q0 q1 hR hdv
end Go.Proofs.Div
namespace Go.Proofs.PlR
open Go.AM Go.Proofs.PlB Go.Proofs.PlW Go.Proofs.PlT Go.Proofs.PlS
abbrev Tn:=List Int×List Int
theorem prd_nil:prd []=1:=rfl
theorem sat_range (x:Int) : -9223372036854775808≤sat x∧sat x<9223372036854775808:=by unfold sat;split <;> (try split) <;> omega
theorem tab_inI (n:Nat) (g:Nat→Int) (h:∀ i,i<n→-9223372036854775808≤g i∧g i<9223372036854775808):inI (Ao n g):=fun x hx=>by
 unfold Ao at hx
 obtain ⟨i,hi,rfl⟩:=List.mem_map.1 hx
 exact h i (List.mem_range.1 hi)
end Go.Proofs.PlR
namespace Go.Proofs.PlV
open Go.AM Go.Proofs.PlB Go.Proofs.PlW Go.Proofs.PlT
def cl (n:Nat):Bool:=(f124 (n:Int)==some 56&&(decide (128≤(n:Int)*1)&&decide ((n:Int)*1≤255)))||(f124 (n:Int)==some 57&&(decide (128≤(n:Int)*2)&&decide ((n:Int)*2≤255)))||(f124 (n:Int)==some 58&&(decide (128≤(n:Int)*4)&&decide ((n:Int)*4≤255)))||(f124 (n:Int)==some 59&&(decide (128≤(n:Int)*8)&&decide ((n:Int)*8≤255)))||(f124 (n:Int)==some 60&&(decide (128≤(n:Int)*16)&&decide ((n:Int)*16≤255)))||(f124 (n:Int)==some 61&&(decide (128≤(n:Int)*32)&&decide ((n:Int)*32≤255)))||(f124 (n:Int)==some 62&&(decide (128≤(n:Int)*64)&&decide ((n:Int)*64≤255)))||(f124 (n:Int)==some 63&&(decide (128≤(n:Int)*128)&&decide ((n:Int)*128≤255)))
theorem cl_all:(List.range 201).all (fun n=>n==0||cl n)=true:=by kernel_rfl
theorem clz_ok (n:Nat) (h1:n<201) (h0:1≤n):(f124 (n:Int)=some 56∧128≤(n:Int)*1∧(n:Int)*1≤255)∨(f124 (n:Int)=some 57∧128≤(n:Int)*2∧(n:Int)*2≤255)∨(f124 (n:Int)=some 58∧128≤(n:Int)*4∧(n:Int)*4≤255)∨(f124 (n:Int)=some 59∧128≤(n:Int)*8∧(n:Int)*8≤255)∨(f124 (n:Int)=some 60∧128≤(n:Int)*16∧(n:Int)*16≤255)∨(f124 (n:Int)=some 61∧128≤(n:Int)*32∧(n:Int)*32≤255)∨(f124 (n:Int)=some 62∧128≤(n:Int)*64∧(n:Int)*64≤255)∨(f124 (n:Int)=some 63∧128≤(n:Int)*128∧(n:Int)*128≤255):=by
 have h:=List.all_eq_true.1 cl_all n (List.mem_range.2 h1)
 rw [Bool.or_eq_true] at h
 rcases h with h | h
 ·simp at h;omega
 ·simpa only [cl,Bool.or_eq_true,Bool.and_eq_true,beq_iff_eq,decide_eq_true_eq,or_assoc] using h
end Go.Proofs.PlV
namespace Go.Proofs.PlR
open Go.AM Go.Proofs.PlB Go.Proofs.PlW Go.Proofs.PlT Go.Proofs.PlS Go.Proofs.PlV
def sumL:List Int→Int
 | []=>0
 | x::r=>x+sumL r
theorem sumL_app:∀ a b:List Int,sumL (a++b)=sumL a+sumL b
 | [],b=>by simp [sumL]
 | x::r,b=>by simp only [List.cons_append,sumL,sumL_app r b];omega
theorem sumL_bound (b:Int) (hb:0≤b):∀ l:List Int,(∀ x ∈ l,-b≤x∧x≤b)→-(l.length*b)≤sumL l∧sumL l≤l.length*b
 | [],_=>by simp [sumL]
 | x::r,h=>by
  have h1:=h x (by simp)
  have h2:=sumL_bound b hb r (fun y hy=>h y (by simp [hy]))
  simp only [sumL,List.length_cons,Int.natCast_add,Int.natCast_one,Int.add_mul,Int.one_mul]
  omega
theorem far_sum (l:List Int) (il:inI l) (hl:l.length≤4096):far (sumL l):=by
 have h:=sumL_bound 9223372036854775808 (by decide) l (fun x hx=>by have:=il x hx;omega)
 unfold far;omega
theorem total_ok (l:List Int) (il:inI l) (hl:l.length≤4096):f223 l=some (pair (sumL l)):=by
 unfold f223
 have H:∀ x:Int×Int×Int,(∃ k:Nat,k≤l.length∧x=((k:Int),(pair (sumL (l.take k))).1,(pair (sumL (l.take k))).2))→
   (∃ z,(∀ go,f223_l1 l go x.1 x.2.1 x.2.2=some z)∧z=pair (sumL l))∨
   (∃ y:Int×Int×Int,(∀ go,f223_l1 l go x.1 x.2.1 x.2.2=go y)∧(∃ k:Nat,k≤l.length∧y=((k:Int),(pair (sumL (l.take k))).1,(pair (sumL (l.take k))).2))∧((l.length:Int)-y.1).toNat<((l.length:Int)-x.1).toNat):=by
  rintro _ ⟨k,hk,rfl⟩
  unfold f223_l1
  simp only
  by_cases h:k<l.length
  ·right
   refine ⟨(((k+1:Nat):Int),(pair (sumL (l.take (k+1)))).1,(pair (sumL (l.take (k+1)))).2),fun go=>?_,⟨k+1,h,rfl⟩,by simp only;omega⟩
   rw [show decide ((k:Int)<(l.length:Int))=true by simpa using h]
   simp only [cond_true]
   have hr:=il l[k] (List.getElem_mem h)
   rw [Ab,Bi _ _ _ h,of_ok _ hr.1 hr.2]
   simp only [Aa]
   have e:sumL (l.take (k+1))=sumL (l.take k)+l[k]:=by
    rw [List.take_succ_eq_append_getElem h,sumL_app]
    simp [sumL]
   have far1:far (sumL (l.take k)):=far_sum _ (fun x hx=>il x (List.mem_of_mem_take hx)) (by simp;omega)
   have far2:far (sumL (l.take (k+1))):=far_sum _ (fun x hx=>il x (List.mem_of_mem_take hx)) (by simp;omega)
   rw [e] at far2 ⊢
   rw [show ((pair (sumL (l.take k))).1,(pair (sumL (l.take k))).2)=pair (sumL (l.take k)) from rfl,show ((pair l[k]).1,(pair l[k]).2)=pair l[k] from rfl,add_w _ _ far1 (by unfold far;omega) far2]
   simp only [Aa]
   rw [Ae]
   rfl
  ·left
   have:k=l.length:=by omega
   subst this
   refine ⟨_,fun go=>?_,rfl⟩
   rw [show decide ((l.length:Int)<(l.length:Int))=false by simp]
   rw [List.take_length]
   rfl
 obtain ⟨z,e,rfl⟩:=Bf (B:=fun go (x:Int×Int×Int)=>f223_l1 l go x.1 x.2.1 x.2.2) _ (fun x=>((l.length:Int)-x.1).toNat) _ H ((0:Int),(0:Int),(0:Int)) ⟨0,Nat.zero_le _,by simp [pair,sumL]⟩ (by simp;omega)
 rw [e]
 rfl
theorem single_ok (v:Int):f209 v 0=some (0,[],[v]):=by
 unfold f209
 rw [show ((0:Int) != 0)=false from rfl]
 simp only [cond_false]
 rw [new_ok,prd_nil,if_pos (by decide)]
 rfl
abbrev Nd:=Int×Int×Int×Int×(List Int)×(List Int)
def nd (l:List Nd) (i:Nat):Tn:=(rd (Ty.z (.p (.int .i64) (.p (.int .i64) (.p (.int .i64) (.p (.int .i64) (.p (.sl (.int .i64)) (.sl (.int .i64)))))))) l (i:Int)).2.2.2.2
theorem nd_app (l m:List Nd) (i:Nat) (h:i<l.length):nd (l++m) i=nd l i:=by
 unfold nd
 rw [Bi _ _ _ h,Bi _ _ _ (by simp;omega),List.getElem_append_left h]
theorem nd_last (l:List Nd) (n:Nd):nd (l++[n]) l.length=n.2.2.2.2:=by
 unfold nd
 rw [Bi _ _ _ (by simp)]
 simp
theorem push_ok (l:List Nd) (n:Nd) (h:l.length<512):f137 l n=some ((l.length:Int),l++[n]):=by
 unfold f137
 rw [Ab (by simp;omega)]
 simp only [Aa,List.length_append,List.length_cons,List.length_nil]
 rw [Ae]
 simp
theorem leaf_ok (l:List Nd) (a:Tn) (h:l.length<512) (hg:Am a=true):f107 l a=some ((l.length:Int),0,l++[(1,-1,-1,0,a.1,a.2)]):=by
 obtain ⟨_,_,l1,l2⟩:=Aq hg
 unfold f107
 rw [show decide ((List.length l:Int)≥(512:Int))=false by simp;omega,show (a.1,a.2)=a from rfl,At,hg]
 simp only [cond_false,Aa,Bool.not_true]
 rw [copy_t a (by omega) (by omega)]
 simp only [Aa]
 rw [push_ok _ _ h]
 rfl
end Go.Proofs.PlR
namespace Go.Proofs.Op
open Go.AM Go.Proofs.PlB Go.Proofs.PlW Go.Proofs.PlT Go.Proofs.PlS Go.Proofs.Sh Go.Proofs.Num Go.Proofs.Div
abbrev Tn:=List Int×List Int
abbrev InR (x:Int):Prop:=-9223372036854775808≤x∧x<9223372036854775808
theorem Bt (x:Int):InR (sat x):=PlR.sat_range x
theorem inI_tab {n:Nat} {g:Nat→Int} (h:∀ i,i<n→InR (g i)):inI (Ao n g):=PlR.tab_inI n g h
theorem Dr {l:List Int} (h:inI l) (i:Nat) (hi:i<l.length):InR (rd (0:Int) l (i:Int)):=inI_get h i hi
def Ep (f:Int→Int→Int) (a b:Tn):Int×Tn:=
 if Am a=true∧Am b=true then
  (if (jS a.1 b.1).1=0 then (0,(jS a.1 b.1).2,Ao (prd (jS a.1 b.1).2).toNat (fun i=>f (rd (0:Int) a.2 (spX a.1 (jS a.1 b.1).2 i)) (rd (0:Int) b.2 (spX b.1 (jS a.1 b.1).2 i)))) else ((jS a.1 b.1).1,[],[]))
 else (1,[],[])
theorem jS_zero {a b:List Int} (h:(jS a b).1=0):Joined a b (jS a b).2:=jS_joined (d:=(jS a b).2) (Prod.ext h rfl)
theorem addP (a b:Tn) (ia:inI a.2) (ib:inI b.2):f123 a b=some (Ep addV a b):=by
 unfold Ep
 by_cases hg:Am a=true∧Am b=true
 ·rw [if_pos hg]
  by_cases hj:(jS a.1 b.1).1=0
  ·rw [if_pos hj]
   exact add_of a b _ ia ib hg.1 hg.2 (by rw [joinP,← hj]) (jS_zero hj)
  ·rw [if_neg hj]
   unfold f123 f153_33 f153_33_j2 f153_33_j3
   rw [show ((a.1,a.2):Tn)=a from rfl,show ((b.1,b.2):Tn)=b from rfl,At,At,hg.1,hg.2,joinP]
   simp only [Aa,Bool.not_true,cond_false,Ai]
   rw [nT hj];rfl
 ·rw [if_neg hg]
  unfold f123 f153_33 f153_33_j2 f153_33_j3
  rw [show ((a.1,a.2):Tn)=a from rfl,show ((b.1,b.2):Tn)=b from rfl,At,At]
  cases h1:Am a <;> cases h2:Am b <;> simp_all <;> rfl
theorem subP (a b:Tn) (ia:inI a.2) (ib:inI b.2):f206 a b=some (Ep subV a b):=by
 unfold Ep
 by_cases hg:Am a=true∧Am b=true
 ·rw [if_pos hg]
  by_cases hj:(jS a.1 b.1).1=0
  ·rw [if_pos hj]
   exact sub_of a b _ ia ib hg.1 hg.2 (by rw [joinP,← hj]) (jS_zero hj)
  ·rw [if_neg hj]
   unfold f206 f153_36 f153_36_j2 f153_36_j3
   rw [show ((a.1,a.2):Tn)=a from rfl,show ((b.1,b.2):Tn)=b from rfl,At,At,hg.1,hg.2,joinP]
   simp only [Aa,Bool.not_true,cond_false,Ai]
   rw [nT hj];rfl
 ·rw [if_neg hg]
  unfold f206 f153_36 f153_36_j2 f153_36_j3
  rw [show ((a.1,a.2):Tn)=a from rfl,show ((b.1,b.2):Tn)=b from rfl,At,At]
  cases h1:Am a <;> cases h2:Am b <;> simp_all <;> rfl
theorem mulP (a b:Tn) (ia:inI a.2) (ib:inI b.2):f142 a b=some (Ep El a b):=by
 unfold Ep
 by_cases hg:Am a=true∧Am b=true
 ·rw [if_pos hg]
  by_cases hj:(jS a.1 b.1).1=0
  ·rw [if_pos hj]
   exact mul_of a b _ ia ib hg.1 hg.2 (by rw [joinP,← hj]) (jS_zero hj)
  ·rw [if_neg hj]
   unfold f142 f153_34 f153_34_j2 f153_34_j3
   rw [show ((a.1,a.2):Tn)=a from rfl,show ((b.1,b.2):Tn)=b from rfl,At,At,hg.1,hg.2,joinP]
   simp only [Aa,Bool.not_true,cond_false,Ai]
   rw [nT hj];rfl
 ·rw [if_neg hg]
  unfold f142 f153_34 f153_34_j2 f153_34_j3
  rw [show ((a.1,a.2):Tn)=a from rfl,show ((b.1,b.2):Tn)=b from rfl,At,At]
  cases h1:Am a <;> cases h2:Am b <;> simp_all <;> rfl
def scaleS (a:Tn) (k:Int):Int×Tn:=if Am a=true then (0,a.1,Ao a.2.length (fun i=>El (rd (0:Int) a.2 i) k)) else (1,[],[])
theorem scaleP (a:Tn) (k:Int) (ia:inI a.2) (hk:InR k):f144 a k=some (scaleS a k):=scale_ok a k ia hk.1 hk.2
theorem sum_sm (l:List Int) (il:inI l) (hl:l.length≤4096) : -37778931862957161709568≤PlR.sumL l∧PlR.sumL l≤37778931862957161709568:=by
 have:=PlR.sumL_bound 9223372036854775808 (by decide) l (fun v hv=>by have:=il v hv;omega)
 omega
theorem allP (a:Tn) (ia:inI a.2) (hg:Am a=true):f210 a=some (sat (PlR.sumL a.2),0):=by
 obtain ⟨_,_,_,hl⟩:=Aq hg
 unfold f210
 rw [show ((a.1,a.2):Tn)=a from rfl,At,hg,Aa,Bool.not_true,cond_false,PlR.total_ok a.2 ia hl,Aa]
 rw [show ((PlV.pair (PlR.sumL a.2)).1,(PlV.pair (PlR.sumL a.2)).2)=PlV.pair (PlR.sumL a.2) from rfl,PlV.fix_ok _ (PlR.far_sum a.2 ia hl)]
 rfl
theorem meanP (a:Tn) (ia:inI a.2) (hg:Am a=true):f211 a=some (sat (rdI (PlR.sumL a.2) a.2.length),0):=by
 obtain ⟨hp,hl1,_,hl⟩:=Aq hg
 have:=sum_sm a.2 ia hl
 unfold f211
 rw [show ((a.1,a.2):Tn)=a from rfl,At,hg,Aa,Bool.not_true,cond_false,PlR.total_ok a.2 ia hl,Aa]
 rw [show ((PlV.pair (PlR.sumL a.2)).1,(PlV.pair (PlR.sumL a.2)).2)=PlV.pair (PlR.sumL a.2) from rfl,over_ok _ _ (by omega) (by omega) (by omega) (by omega) (by omega)]
 rfl
def bendV (kind x:Int):Int:=
 if kind=1 then (if x<0 then 0 else x)
 else if kind=2 then (if x>0 then x else sat (rdI (x*4294967296) 34359738368))
 else if kind=3 then (if x>4294967296 then 4294967296 else if x < -4294967296 then -4294967296 else x)
 else if kind=4 then (if x<0 then sat (-x) else x)
 else (if sat (sat (rdI (x*4294967296) 8589934592)+2147483648)<0 then 0 else if sat (sat (rdI (x*4294967296) 8589934592)+2147483648)>4294967296 then 4294967296 else sat (sat (rdI (x*4294967296) 8589934592)+2147483648))
theorem bendV_in (kind x:Int) (hx:InR x):InR (bendV kind x):=by
 have h1:=Bt (rdI (x*4294967296) 34359738368)
 have h2:=Bt (-x)
 have h3:=Bt (sat (rdI (x*4294967296) 8589934592)+2147483648)
 unfold bendV InR at *
 split
 ·split <;> omega
 ·split
  ·split <;> omega
  ·split
   ·split <;> (try split) <;> omega
   ·split
    ·split <;> omega
    ·split <;> (try split) <;> omega
theorem pOf8:f230 8=some 34359738368:=by kernel_rfl
theorem pOf2:f230 2=some 8589934592:=by kernel_rfl
theorem negP (x:Int) (hx:InR x) (h:x<0):f232 x=some (sat (-x)):=by
 unfold InR at hx
 unfold f232 sat
 by_cases c:x=-9223372036854775808
 ·rw [bT c,iPo];rfl
 ·rw [bF c,iNo,iNo,cond_false,Ae]
  congr 1;omega
theorem withinP (y lo hi:Int) (h:lo≤hi):f231 y lo hi=some (if y>hi then hi else if y<lo then lo else y):=by
 unfold f231
 congr 1
 split <;> (try split) <;> (try split) <;> (try split) <;> omega
theorem bendP (kind x:Int) (k0:1≤kind) (k5:kind≤5) (hx:InR x):f224 kind x=some (bendV kind x,0):=by
 have s1:=Bt (rdI (x*4294967296) 8589934592)
 unfold f224 bendV
 by_cases k1:kind=1
 ·rw [bT k1,if_pos k1,cond_true]
 rw [bF k1,if_neg k1,cond_false]
 by_cases k2:kind=2
 ·rw [bT k2,if_pos k2,cond_true]
  by_cases h:x>0
  ·rw [dT h,if_pos h];rfl
  ·rw [dF h,if_neg h,cond_false,pOf8,Aa,fdiv_ok x _ hx.1 hx.2 (by decide) (by decide) (by decide)];rfl
 rw [bF k2,if_neg k2,cond_false]
 by_cases k3:kind=3
 ·rw [bT k3,if_pos k3,cond_true,withinP _ _ _ (by decide)];rfl
 rw [bF k3,if_neg k3,cond_false]
 by_cases k4:kind=4
 ·rw [bT k4,if_pos k4,cond_true]
  by_cases h:x<0
  ·rw [dT h,if_pos h,cond_true,negP x hx h];rfl
  ·rw [dF h,if_neg h];rfl
 rw [bF k4,if_neg k4,cond_false,bT (by omega),cond_true,pOf2,Aa,fdiv_ok x _ hx.1 hx.2 (by decide) (by decide) (by decide),Aa,addF_ok _ _ s1.1 s1.2 (by decide) (by decide),Aa,withinP _ _ _ (by decide),Aa]
 unfold addV
 generalize sat (sat (rdI (x*4294967296) 8589934592)+2147483648)=y
 congr 2
 split <;> (try split) <;> (try split) <;> omega
def bentS (kind:Int) (t:Tn):Int×Tn:=if 1≤kind∧kind≤5∧Am t=true then (0,t.1,Ao t.2.length (fun i=>bendV kind (rd (0:Int) t.2 i))) else (1,[],[])
theorem bentP (kind:Int) (t:Tn) (it:inI t.2):f212 kind t=some (bentS kind t):=by
 unfold f212 bentS f212_j2 f212_j3 f186
 rw [show ((t.1,t.2):Tn)=t from rfl,At]
 by_cases h:1≤kind∧kind≤5∧Am t=true
 ·obtain ⟨hp,hl,l1,l2⟩:=Aq h.2.2
  rw [if_pos h,dT,cond_true,Aa,dT (show kind≤5 by omega),h.2.2]
  simp only [Aa,Bool.not_true,cond_false,Ai]
  rw [copy_t t (by omega) (by omega),Aa]
  have:=Ba (B:=fun go (x:Int×List Int)=>f212_l4 kind t go x.1 x.2) (fun j=>((j:Int),Ao t.2.length (fun i=>if i<j then bendV kind (rd (0:Int) t.2 i) else rd (0:Int) t.2 i))) t.2.length (Ao t.2.length (fun i=>bendV kind (rd (0:Int) t.2 i))) ?_ ?_ (by omega)
  ·have e0:Ao t.2.length (fun i=>if i<0 then bendV kind (rd (0:Int) t.2 i) else rd (0:Int) t.2 i)=t.2:=by
    apply List.ext_getElem (Ap _ _)
    intro i h1 h2
    rw [tab_get,iNo,Bi _ _ _ h2]
   rw [show ((0:Nat):Int)=0 from rfl,e0] at this
   rw [this];rfl
  ·intro j hj go
   unfold f212_l4
   simp only [Ap]
   rw [dT,cond_true,Ab,bendP _ _ h.1 h.2.1 (Dr it j hj),Aa,Ab,Ae,Int.toNat_natCast,Dd]
   congr 1
   refine Prod.ext rfl (Au _ _ _ (fun i hi=>?_))
   by_cases hik:i=j
   ·rw [if_pos hik,iPo,hik]
   ·rw [if_neg hik]
    by_cases h2:i<j
    ·rw [if_pos h2,iPo]
    ·rw [if_neg h2,iNo]
  ·intro go
   unfold f212_l4
   simp only
   rw [dF,cond_false]
   congr 1
   exact Au _ _ _ (fun i hi=>by rw [if_pos hi])
 ·rw [if_neg h]
  by_cases h1:kind≥1
  ·rw [dT h1,cond_true,Aa]
   by_cases h2:kind≤5
   ·rw [dT h2,Bool.not_true,cond_false,Aa,show Am t=false by cases ht:Am t;rfl;exact absurd ⟨by omega,by omega,ht⟩ h];rfl
   ·rw [dF h2];rfl
  ·rw [dF h1];rfl
def reshS (a:Tn) (d:List Int):Int×Tn:=if Am a=true∧0<prd d then (if prd d=a.2.length then (0,d,a.2) else (4,[],[])) else (1,[],[])
theorem reshP (a:Tn) (d:List Int):f151 a d=some (reshS a d):=by
 unfold f151 reshS f151_j2 f151_j3
 rw [show ((a.1,a.2):Tn)=a from rfl,At,Ay,PlB.size_ok]
 by_cases h:Am a=true∧0<prd d
 ·obtain ⟨_,_,_,l2⟩:=Aq h.1
  have:=Dy h.2
  rw [if_pos h,h.1,dT (show prd d>0 from h.2)]
  simp only [Aa,Bool.not_true,cond_false]
  by_cases h2:prd d=a.2.length
  ·rw [if_pos h2,nF h2,cond_false,Aa,Ai,clone_d d (by omega),Aa,clone_v a.2 (by omega)];rfl
  ·rw [if_neg h2,nT h2];rfl
 ·rw [if_neg h]
  cases h1:Am a
  ·rfl
  ·rw [dF (fun h3=>h ⟨h1,h3⟩)];rfl
theorem sameP (a b:List Int) (h:a.length<4611686018427387904):f120 a b=some (decide (a=b)):=by
 unfold f120
 rw [show f140 a b=f88 a b from rfl,sameR a b h];rfl
def foldSt (sp:Nat→Int) (V:List Int) (N:Nat):Nat→List Int
 | 0=>List.replicate N 0
 | k+1=>(foldSt sp V N k).set (sp k).toNat (addV (rd (0:Int) (foldSt sp V N k) (sp k)) (rd (0:Int) V (k:Int)))
theorem fold_len (sp:Nat→Int) (V:List Int) (N:Nat):∀ k,(foldSt sp V N k).length=N
 | 0=>by simp [foldSt]
 | k+1=>by simp only [foldSt,List.length_set];exact fold_len sp V N k
theorem inI_set {l:List Int} (h:inI l) (i:Nat) (v:Int) (hv:InR v):inI (l.set i v):=fun x hx=>by
 rcases List.mem_or_eq_of_mem_set hx with h1 | h1
 ·exact h x h1
 ·rw [h1];exact hv
theorem inI_rep (n:Nat) (v:Int) (hv:InR v):inI (List.replicate n v):=fun x hx=>by
 rw [(List.mem_replicate.1 hx).2];exact hv
theorem fold_inI (sp:Nat→Int) (V:List Int) (N:Nat):∀ k,inI (foldSt sp V N k)
 | 0=>inI_rep _ _ (by decide)
 | k+1=>by simp only [foldSt];exact inI_set (fold_inI sp V N k) _ _ (Bt _)
def foldS (a:Tn) (d:List Int):Int×Tn:=
 if Am a=true∧0<prd d then (if jS d a.1=(0,a.1) then (0,d,foldSt (spX d a.1) a.2 (prd d).toNat a.2.length) else (4,[],[])) else (1,[],[])
theorem fold_j (r:Int×List Int) (d:List Int) (h:r.2.length<4611686018427387904) :
  (bif (r.1 != (0:Int)) then some true else Ac (some (decide (r.2=d))) fun r18=>some (!r18))=some (!decide (r=(0,d))):=by
 by_cases h1:r.1=0
 ·rw [nF h1,cond_false,Aa]
  by_cases h2:r.2=d
  ·rw [dT h2,dT (show r=(0,d) from Prod.ext h1 h2)]
  ·rw [dF h2,dF (show ¬r=(0,d) from fun h=>h2 (by rw [h]))]
 ·rw [nT h1,dF (show ¬r=(0,d) from fun h=>h1 (by rw [h]))];rfl
theorem jS_len (a b:List Int) (ha:a.length≤4) (hb:b.length≤4):(jS a b).2.length≤4:=by
 have h1:jLen a b≤4:=by unfold jLen;split <;> omega
 have h2:(jL a b).length≤4:=by unfold jL;rw [Ap];exact h1
 unfold jS
 split
 ·cases anyB (jLen a b) (jBad a b)
  ·simp only [cond_false];split
   ·exact h2
   ·exact Nat.zero_le _
  ·exact Nat.zero_le _
 ·exact Nat.zero_le _
theorem foldP (a:Tn) (d:List Int) (ia:inI a.2):f141 a d=some (foldS a d):=by
 unfold f141 foldS f141_j2 f141_j3
 rw [show ((a.1,a.2):Tn)=a from rfl,At,Ay]
 by_cases h:Am a=true∧0<prd d
 ·obtain ⟨hp,hl,l1,l2⟩:=Aq h.1
  have ld:=Dy h.2
  have hr:=Av d
  rw [if_pos h,h.1,dT (show prd d>0 from h.2),joinP]
  simp only [Aa,Bool.not_true,cond_false,Ai]
  have hj:f141_j6 a (jS d a.1)=some (!decide (jS d a.1=(0,a.1))):=by
   unfold f141_j6
   have:=jS_len d a.1 ld l1
   rw [sameP _ _ (by omega)]
   exact fold_j _ _ (by omega)
  unfold f141_j5
  rw [hj,Aa]
  by_cases h2:jS d a.1=(0,a.1)
  ·have F:=jS_fits.1 h2
   rw [if_pos h2,dT h2,Bool.not_true,cond_false,Aa,Ai,new_ok,if_pos h.2,Aa,Dw F,Aa]
   simp only
   rw [show (prd a.1).toNat=a.2.length by omega]
   have:=Ba (B:=fun go (x:Int×List Int)=>f141_l7 a (Ao a.2.length (spX d a.1)) go x.1 x.2) (fun k=>((k:Int),foldSt (spX d a.1) a.2 (prd d).toNat k)) a.2.length (foldSt (spX d a.1) a.2 (prd d).toNat a.2.length) ?_ ?_ (by omega)
   ·rw [show ((0:Nat):Int)=0 from rfl] at this
    rw [show List.replicate (prd d).toNat 0=foldSt (spX d a.1) a.2 (prd d).toNat 0 from rfl,this];rfl
   ·intro k hk go
    unfold f141_l7
    simp only [fold_len,Ap]
    obtain ⟨s0,s1⟩:=Dx F k (by omega)
    obtain ⟨sn,hsn⟩:=Int.eq_ofNat_of_zero_le s0
    have q1:=Dr (fold_inI (spX d a.1) a.2 (prd d).toNat k) sn (by rw [fold_len];omega)
    rw [← hsn] at q1
    have q2:=Dr ia k hk
    rw [dT,cond_true,Di _ _ _ _ hk,Ab,Ab,Ab,Ab,addF_ok _ _ q1.1 q1.2 q2.1 q2.2,Aa,Ab,Ae]
    rfl
   ·intro go
    unfold f141_l7
    simp only
    rw [dF,cond_false]
  ·rw [if_neg h2,dF h2];rfl
 ·rw [if_neg h]
  cases h1:Am a
  ·rfl
  ·rw [dF (fun h3=>h ⟨h1,h3⟩)];rfl
def slopeV (kind x:Int):Int:=
 if kind=1 then (if x>0 then 4294967296 else 0)
 else if kind=2 then (if x>0 then 4294967296 else 536870912)
 else if kind=3 then (if x > -4294967296∧x<4294967296 then 4294967296 else 0)
 else if kind=4 then (if x>0 then 4294967296 else if x<0 then -4294967296 else 0)
 else (if x > -4294967296∧x<4294967296 then 2147483648 else 0)
theorem slope_in (kind x:Int):InR (slopeV kind x):=by
 unfold slopeV InR
 repeat' split
 all_goals omega
theorem oneP (b:Bool) (x y:Int):f217 b x y=some (if b=true then x else y):=by cases b <;> rfl
theorem slopeP (kind x:Int) (k0:1≤kind) (k5:kind≤5):f187 kind x=some (slopeV kind x,0):=by
 unfold f187 slopeV
 have hj:f187_j1 x=some (decide (x > -4294967296∧x<4294967296)):=by
  unfold f187_j1
  by_cases h:x > -4294967296
  ·rw [dT h,cond_true];congr 1;rw [decide_eq_decide];omega
  ·rw [dF h,dF (show ¬(x > -4294967296∧x<4294967296) from fun hh=>h hh.1)];rfl
 rw [hj]
 simp only [Aa,oneP,decide_eq_true_eq]
 by_cases k1:kind=1
 ·rw [bT k1,if_pos k1];rfl
 rw [bF k1,if_neg k1,cond_false]
 by_cases k2:kind=2
 ·rw [bT k2,if_pos k2];rfl
 rw [bF k2,if_neg k2,cond_false]
 by_cases k3:kind=3
 ·rw [bT k3,if_pos k3];rfl
 rw [bF k3,if_neg k3,cond_false]
 by_cases k4:kind=4
 ·rw [bT k4,if_pos k4,cond_true]
  unfold f218
  by_cases h:x<0
  ·rw [dT h,iNo,if_pos h];rfl
  ·rw [dF h,cond_false]
   by_cases h1:x>0
   ·rw [dT h1,if_pos h1];rfl
   ·rw [dF h1,if_neg h1,if_neg h];rfl
 rw [bF k4,if_neg k4,cond_false,bT (by omega)];rfl
def unbentS (kind:Int) (t g:Tn):Int×Tn:=
 if 1≤kind∧kind≤5∧Am t=true∧Am g=true then (if t.1=g.1 then (0,t.1,Ao t.2.length (fun i=>El (rd (0:Int) g.2 i) (slopeV kind (rd (0:Int) t.2 i)))) else (4,[],[])) else (1,[],[])
theorem unbentP (kind:Int) (t g:Tn) (ig:inI g.2):f148 kind t g=some (unbentS kind t g):=by
 unfold f148 unbentS f148_j2 f148_j3 f186
 rw [show ((t.1,t.2):Tn)=t from rfl,show ((g.1,g.2):Tn)=g from rfl,At,At]
 by_cases h:1≤kind∧kind≤5∧Am t=true∧Am g=true
 ·obtain ⟨hp,hl,l1,l2⟩:=Aq h.2.2.1
  obtain ⟨gp,gl,m1,m2⟩:=Aq h.2.2.2
  rw [if_pos h,dT (show kind≥1 by omega),cond_true,Aa,dT (show kind≤5 by omega),h.2.2.1,h.2.2.2,sameP _ _ (by omega)]
  simp only [Aa,Bool.not_true,cond_false]
  by_cases h2:t.1=g.1
  ·have hlen:g.2.length=t.2.length:=by rw [h2] at hl;omega
   rw [if_pos h2,dT h2,Bool.not_true,cond_false,Aa,Ai,copy_t g (by omega) (by omega),Aa]
   have:=Ba (B:=fun go (x:Int×List Int)=>f148_l4 kind t g go x.1 x.2) (fun j=>((j:Int),Ao t.2.length (fun i=>if i<j then El (rd (0:Int) g.2 i) (slopeV kind (rd (0:Int) t.2 i)) else rd (0:Int) g.2 i))) t.2.length (Ao t.2.length (fun i=>El (rd (0:Int) g.2 i) (slopeV kind (rd (0:Int) t.2 i)))) ?_ ?_ (by omega)
   ·have e0:Ao t.2.length (fun i=>if i<0 then El (rd (0:Int) g.2 i) (slopeV kind (rd (0:Int) t.2 i)) else rd (0:Int) g.2 i)=g.2:=by
     apply List.ext_getElem (by rw [Ap,hlen])
     intro i h1 h2
     rw [tab_get,iNo,Bi _ _ _ h2]
    rw [show ((0:Nat):Int)=0 from rfl,e0] at this
    rw [this,Aa,h2]
   ·intro j hj go
    unfold f148_l4
    simp only [Ap]
    have q:=Dr ig j (by omega)
    have s:=slope_in kind (rd (0:Int) t.2 j)
    rw [dT,cond_true,Ab,slopeP _ _ h.1 h.2.1,Aa,Ab,mulF_ok _ _ q.1 q.2 s.1 s.2,Aa,Ab,Ae,Int.toNat_natCast,Dd]
    congr 1
    refine Prod.ext rfl (Au _ _ _ (fun i hi=>?_))
    by_cases hik:i=j
    ·rw [if_pos hik,iPo,hik]
    ·rw [if_neg hik]
     by_cases h2:i<j
     ·rw [if_pos h2,iPo]
     ·rw [if_neg h2,iNo]
   ·intro go
    unfold f148_l4
    simp only
    rw [dF,cond_false]
    congr 1
    exact Au _ _ _ (fun i hi=>by rw [if_pos hi])
  ·rw [if_neg h2,dF h2];rfl
 ·rw [if_neg h]
  by_cases h1:kind≥1
  ·rw [dT h1,cond_true,Aa]
   by_cases h2:kind≤5
   ·rw [dT h2]
    cases ht:Am t
    ·rfl
    ·cases hgg:Am g
     ·rfl
     ·exact absurd ⟨h1,h2,ht,hgg⟩ h
   ·rw [dF h2];rfl
  ·rw [dF h1];rfl
end Go.Proofs.Op
namespace Go.Proofs.Cv
open Go.AM Go.Proofs.PlB Go.Proofs.PlW Go.Proofs.PlT Go.Proofs.PlS Go.Proofs.Sh Go.Proofs.Num Go.Proofs.Div Go.Proofs.Op
def sg (F:Nat→Int):Nat→Int
 | 0=>0
 | k+1=>sg F k+F k
theorem sg_congr {F G:Nat→Int}:∀ n,(∀ k,k<n→F k=G k)→sg F n=sg G n
 | 0,_=>rfl
 | n+1,h=>by simp only [sg];rw [sg_congr n (fun k hk=>h k (by omega)),h n (by omega)]
def Pb (x:Int):Prop:=-85070591730234615865843651857942052864≤x∧x≤85070591730234615865843651857942052864
theorem pb_mul {a b:Int} (ha:InR a) (hb:InR b):Pb (a*b):=prod_bound a b ha.1 ha.2 hb.1 hb.2
theorem sg_bd (F:Nat→Int):∀ n,(∀ k,k<n→Pb (F k))→-(n*85070591730234615865843651857942052864)≤sg F n∧sg F n≤n*85070591730234615865843651857942052864
 | 0,_=>by simp [sg]
 | n+1,h=>by
  have:=sg_bd F n (fun k hk=>h k (by omega))
  have h2:=h n (by omega)
  unfold Pb at h2
  simp only [sg]
  constructor <;> omega
theorem sg_sm (F:Nat→Int) (n:Nat) (hn:n≤4096) (h:∀ k,k<n→Pb (F k)) : -1000000000000000000000000000000000000000000≤sg F n∧sg F n≤1000000000000000000000000000000000000000000:=by
 have:=sg_bd F n h
 omega
def acc (S:Int):Int×Int×Int:=(S/340282366920938463463374607431768211456,IntKind.i64.wrap (S/18446744073709551616),S%18446744073709551616)
theorem acc_zero:acc 0=(0,0,0):=by
 unfold acc
 rw [show (0:Int)/340282366920938463463374607431768211456=0 by omega,show (0:Int)/18446744073709551616=0 by omega,show (0:Int)%18446744073709551616=0 by omega,Ae]
theorem acc_plus (S a b:Int) (hs : -1000000000000000000000000000000000000000000≤S∧S≤1000000000000000000000000000000000000000000) (ha:InR a) (hb:InR b) :
  f192 (acc S).1 (acc S).2.1 (acc S).2.2 a b=some (acc (S+a*b)):=plus_ok S a b (by omega) (by omega) ha.1 ha.2 hb.1 hb.2
theorem acc_fix (S:Int) (hs : -1000000000000000000000000000000000000000000≤S∧S≤1000000000000000000000000000000000000000000) :
  ∃ z,f193 (acc S).1 (acc S).2.1 (acc S).2.2 32=some (sat (rhe S),z):=by
 obtain ⟨x,y,z,e⟩:=accFix_ok S (by omega) (by omega)
 exact ⟨_,e⟩
theorem progdot {B:(Int×Int×Int×Int→Option (Int×Int×Int))→Int×Int×Int×Int→Option (Int×Int×Int)} (F:Nat→Int) (m n:Nat) (a b:Nat→Int) (hmn:m+n≤4096)
  (hF:∀ k,k<n→F (m+k)=a k*b k) (ha:∀ k,k<n→InR (a k)) (hb:∀ k,k<n→InR (b k)) (hp:∀ t,t<m+n→Pb (F t))
  (hs:∀ k,k<n→∀ z go,B go ((k:Int),z)=Ac (f192 z.1 z.2.1 z.2.2 (a k) (b k)) fun q=>go (((k+1:Nat):Int),q))
  (he:∀ z go,B go ((n:Int),z)=some z):Ag B Ah ((0:Int),acc (sg F m))=some (acc (sg F (m+n))):=by
 refine Ba (B:=B) (fun k=>((k:Int),acc (sg F (m+k)))) n (acc (sg F (m+n))) ?_ ?_ (by omega)
 ·intro k hk go
  rw [hs k hk,acc_plus _ _ _ (sg_sm F (m+k) (by omega) (fun t ht=>hp t (by omega))) (ha k hk) (hb k hk),Aa,← hF k hk]
  rfl
 ·intro go;exact he _ go
theorem wnat {n:Nat} (h:n<1000000000):IntKind.i64.wrap (n:Int)=(n:Int):=Ae (by omega) (by omega)
theorem wmul (a b:Nat) (h:a*b<1000000000):IntKind.i64.wrap ((a:Int)*b)=((a*b:Nat):Int):=by rw [← Int.natCast_mul];exact wnat h
theorem wadd (a b:Nat) (h:a+b<1000000000):IntKind.i64.wrap ((a:Int)+b)=((a+b:Nat):Int):=by rw [← Int.natCast_add];exact wnat h
theorem Bp (a:Nat) (h:a<100000000:=by omega):IntKind.i64.wrap ((a:Int)+1)=((a+1:Nat):Int):=wadd a 1 (by omega)
theorem ixA (x L n s y:Nat) (h:x*L+n*s+y<1000000):IntKind.i64.wrap (IntKind.i64.wrap (IntKind.i64.wrap ((x:Int)*L)+IntKind.i64.wrap ((n:Int)*s))+y)=((x*L+n*s+y:Nat):Int):=by
 rw [wmul x L (by omega),wmul n s (by omega),wadd _ _ (by omega),wadd _ _ (by omega)]
theorem ixM (i c x:Nat) (h:i*c+x<1000000):IntKind.i64.wrap (IntKind.i64.wrap ((i:Int)*c)+x)=((i*c+x:Nat):Int):=by
 rw [wmul i c (by omega),wadd _ _ (by omega)]
theorem ixK (i c x w y:Nat) (hw:1≤w) (h:(i*c+x)*w+y<1000000):IntKind.i64.wrap (IntKind.i64.wrap (IntKind.i64.wrap (IntKind.i64.wrap ((i:Int)*c)+x)*w)+y)=(((i*c+x)*w+y:Nat):Int):=by
 have:i*c+x≤(i*c+x)*w:=Nat.le_mul_of_pos_right _ hw
 rw [ixM i c x (by omega),wmul _ _ (by omega),wadd _ _ (by omega)]
theorem rdIn {l:List Int} (h:inI l) {i:Nat} (hi:i<l.length):InR (rd (0:Int) l (i:Int)):=Dr h i hi
theorem in_mat {x y c L:Nat} (hx:x<c) (hy:y<L):x*L+y<c*L:=by
 have:(x+1)*L≤c*L:=Nat.mul_le_mul_right _ hx
 rw [Nat.add_mul,Nat.one_mul] at this
 omega
theorem div_mat {x y L:Nat} (hy:y<L):(x*L+y)/L=x∧(x*L+y)%L=y:=by
 have h0:0<L:=by omega
 constructor
 ·rw [Nat.mul_comm,Nat.mul_add_div h0,Nat.div_eq_of_lt hy,Nat.add_zero]
 ·rw [Nat.mul_comm,Nat.mul_add_mod,Nat.mod_eq_of_lt hy]
def Ar (L w s:Nat):Nat:=(L-w)/s+1
def rowF (A K:List Int) (c L w s i n t:Nat):Int:=rd (0:Int) A ((t/w*L+n*s+t%w:Nat):Int)*rd (0:Int) K ((i*(c*w)+t:Nat):Int)
def rowV (A K:List Int) (c L w s q:Nat):Int:=sat (rhe (sg (rowF A K c L w s (q/Ar L w s) (q%Ar L w s)) (c*w)))
theorem step_in {L w s n y:Nat} (hw:w≤L) (hn:n<Ar L w s) (hy:y<w) (hs:1≤s):n*s+y<L:=by
 unfold Ar at hn
 have h1:n≤(L-w)/s:=by omega
 have h2:n*s≤(L-w)/s*s:=Nat.mul_le_mul_right _ h1
 have h3:(L-w)/s*s≤L-w:=Nat.div_mul_le_self _ _
 omega
theorem prod3 {o c w:Int} (h:0<prd [o,c,w]):1≤o∧1≤c∧1≤w∧prd [o,c,w]=o*(c*w):=by
 obtain ⟨e,h1,_⟩:=B5 h
 refine ⟨(h1 o (by simp)).1,(h1 c (by simp)).1,(h1 w (by simp)).1,?_⟩
 rw [e];simp [Bh]
theorem prod2 {c L:Int} (h:0<prd [c,L]):1≤c∧1≤L∧prd [c,L]=c*L:=by
 obtain ⟨e,h1,_⟩:=B5 h
 refine ⟨(h1 c (by simp)).1,(h1 L (by simp)).1,?_⟩
 rw [e];simp [Bh]
section
variable (A K:List Int) (c L o w s:Nat) (c1:1≤c) (w1:1≤w) (hA:A.length=c*L) (hK:K.length=o*(c*w)) (bA:c*L≤4096) (bK:o*(c*w)≤4096) (hw:w≤L) (s1:1≤s) (s64:s≤64) (iA:inI A) (iK:inI K)
include c1 w1 hA hK bA bK hw s1 s64 iA iK
theorem row_a {n x y:Nat} (hn:n<Ar L w s) (hx:x<c) (hy:y<w):x*L+n*s+y<A.length:=by
 have h1:=step_in hw hn hy s1
 have h2:=in_mat (c:=c) hx h1
 rw [hA];omega
theorem row_k {i x y:Nat} (hi:i<o) (hx:x<c) (hy:y<w):(i*c+x)*w+y<K.length∧(i*c+x)*w+y=i*(c*w)+(x*w+y):=by
 have e:(i*c+x)*w+y=i*(c*w)+(x*w+y):=by rw [Nat.add_mul,Nat.mul_assoc];omega
 refine ⟨?_,e⟩
 rw [e,hK]
 exact in_mat hi (in_mat hx hy)
theorem row_f {i n x y:Nat} (hy:y<w):rowF A K c L w s i n (x*w+y)=rd (0:Int) A ((x*L+n*s+y:Nat):Int)*rd (0:Int) K (((i*c+x)*w+y:Nat):Int):=by
 unfold rowF
 obtain ⟨d1,d2⟩:=div_mat (x:=x) hy
 have e:(i*c+x)*w+y=i*(c*w)+(x*w+y):=by rw [Nat.add_mul,Nat.mul_assoc];omega
 rw [d1,d2,e]
theorem row_p {i n t:Nat} (hi:i<o) (hn:n<Ar L w s) (ht:t<c*w):Pb (rowF A K c L w s i n t):=by
 have hx:t/w<c:=Nat.div_lt_of_lt_mul (by rw [Nat.mul_comm];exact ht)
 have hy:t%w<w:=Nat.mod_lt _ w1
 have e:t/w*w+t%w=t:=by rw [Nat.mul_comm];exact Nat.div_add_mod t w
 have:=row_f A K c L o w s c1 w1 hA hK bA bK hw s1 s64 iA iK (i:=i) (n:=n) (x:=t/w) hy
 rw [e] at this
 rw [this]
 exact pb_mul (rdIn iA (row_a A K c L o w s c1 w1 hA hK bA bK hw s1 s64 iA iK hn hx hy)) (rdIn iK (row_k A K c L o w s c1 w1 hA hK bA bK hw s1 s64 iA iK hi hx hy).1)
theorem row_cw (ho:1≤o):c*w≤4096:=Nat.le_trans (Nat.le_mul_of_pos_left _ ho) bK
theorem row_sumP (q:Nat) (hq:q<o*Ar L w s) :
  Ag (fun go (x:Int×Int×Int×Int)=>f207_l17 ([(c:Int),(L:Int)],A) ([(o:Int),(c:Int),(w:Int)],K) s (Ar L w s:Int) (q:Int) go x.1 x.2.1 x.2.2.1 x.2.2.2) Ah ((0:Int),(0:Int),(0:Int),(0:Int))
   = some (acc (sg (rowF A K c L w s (q/Ar L w s) (q%Ar L w s)) (c*w))):=by
 have m1:1≤Ar L w s:=Nat.le_add_left 1 _
 have ho:1≤o:=Nat.pos_of_ne_zero (fun h=>by rw [h,Nat.zero_mul] at hq;exact absurd hq (Nat.not_lt_zero _))
 have hcw:=row_cw A K c L o w s c1 w1 hA hK bA bK hw s1 s64 iA iK ho
 have hi:q/Ar L w s<o:=Nat.div_lt_of_lt_mul (by rw [Nat.mul_comm];exact hq)
 have hn:q%Ar L w s<Ar L w s:=Nat.mod_lt _ m1
 have eI:IntKind.i64.wrap (Int.tdiv (q:Int) (Ar L w s:Int))=((q/Ar L w s:Nat):Int):=by
  rw [Int.tdiv_eq_ediv_of_nonneg (by omega),← Int.natCast_ediv]
  have:q/Ar L w s≤q:=Nat.div_le_self _ _
  have hl:Ar L w s≤4097:=by unfold Ar;have:=Nat.div_le_self (L-w) s;have:L≤c*L:=Nat.le_mul_of_pos_left _ c1;omega
  have:o≤o*(c*w):=Nat.le_mul_of_pos_right _ (Nat.mul_pos c1 w1)
  exact wnat (by omega)
 have eN:Int.tmod (q:Int) (Ar L w s:Int)=((q%Ar L w s:Nat):Int):=by
  rw [Int.tmod_eq_emod_of_nonneg (by omega),← Int.natCast_emod]
 generalize q/Ar L w s=i at *
 generalize q%Ar L w s=n at *
 have h:=Ba (B:=fun go (x:Int×Int×Int×Int)=>f207_l17 ([(c:Int),(L:Int)],A) ([(o:Int),(c:Int),(w:Int)],K) s (Ar L w s:Int) (q:Int) go x.1 x.2.1 x.2.2.1 x.2.2.2)
  (fun x=>((x:Int),acc (sg (rowF A K c L w s i n) (x*w)))) c (acc (sg (rowF A K c L w s i n) (c*w))) ?_ ?_ (by have:c≤c*w:=Nat.le_mul_of_pos_right _ w1;omega)
 ·rw [Nat.zero_mul] at h
  have e0:acc (sg (rowF A K c L w s i n) 0)=((0:Int),(0:Int),(0:Int)):=acc_zero
  rw [e0] at h
  exact h
 ·intro x hx go
  have hc:c≤c*w:=Nat.le_mul_of_pos_right _ w1
  unfold f207_l17
  simp only
  rw [show rd (0:Int) [(c:Int),(L:Int)] 0=(c:Int) from rfl,dT,cond_true]
  have hxw:x*w+w≤c*w:=by have:=Nat.mul_le_mul_right w (show x+1≤c from hx);rw [Nat.add_mul,Nat.one_mul] at this;exact this
  have inner:=progdot (B:=fun go (z:Int×Int×Int×Int)=>f207_l18 ([(c:Int),(L:Int)],A) ([(o:Int),(c:Int),(w:Int)],K) s (Ar L w s:Int) (q:Int) (x:Int) go z.1 z.2.1 z.2.2.1 z.2.2.2)
   (rowF A K c L w s i n) (x*w) w (fun y=>rd (0:Int) A ((x*L+n*s+y:Nat):Int)) (fun y=>rd (0:Int) K (((i*c+x)*w+y:Nat):Int)) (by omega)
   (fun y hy=>row_f A K c L o w s c1 w1 hA hK bA bK hw s1 s64 iA iK hy)
   (fun y hy=>rdIn iA (row_a A K c L o w s c1 w1 hA hK bA bK hw s1 s64 iA iK hn hx hy)) (fun y hy=>rdIn iK (row_k A K c L o w s c1 w1 hA hK bA bK hw s1 s64 iA iK hi hx hy).1)
   (fun t ht=>row_p A K c L o w s c1 w1 hA hK bA bK hw s1 s64 iA iK hi hn (by omega)) ?_ ?_
  ·have e:sg (rowF A K c L w s i n) (x*w+w)=sg (rowF A K c L w s i n) ((x+1)*w):=by rw [Nat.add_mul,Nat.one_mul]
   rw [e] at inner
   have inner':Ag (fun go (z:Int×Int×Int×Int)=>f207_l18 ([(c:Int),(L:Int)],A) ([(o:Int),(c:Int),(w:Int)],K) s (Ar L w s:Int) (q:Int) (x:Int) go z.1 z.2.1 z.2.2.1 z.2.2.2) Ah ((0:Int),(acc (sg (rowF A K c L w s i n) (x*w))).1,(acc (sg (rowF A K c L w s i n) (x*w))).2.1,(acc (sg (rowF A K c L w s i n) (x*w))).2.2)=_:=inner
   rw [inner',Aa,Bp x]
  ·intro y hy z go
   have ha:=row_a A K c L o w s c1 w1 hA hK bA bK hw s1 s64 iA iK hn hx hy
   have hk:=(row_k A K c L o w s c1 w1 hA hK bA bK hw s1 s64 iA iK hi hx hy).1
   unfold f207_l18
   simp only
   rw [show rd (0:Int) [(o:Int),(c:Int),(w:Int)] 2=(w:Int) from rfl,show rd (0:Int) [(c:Int),(L:Int)] 1=(L:Int) from rfl,show rd (0:Int) [(c:Int),(L:Int)] 0=(c:Int) from rfl,dT,cond_true,eI,eN,
    ixA x L n s y (by omega),ixK i c x w y w1 (by omega),Ab,Ab,Bp y]
  ·intro z go
   unfold f207_l18
   simp only
   rw [show rd (0:Int) [(o:Int),(c:Int),(w:Int)] 2=(w:Int) from rfl,dF,cond_false]
 ·intro go
  unfold f207_l17
  simp only
  rw [show rd (0:Int) [(c:Int),(L:Int)] 0=(c:Int) from rfl,dF,cond_false]
end
theorem win_eq (L w s:Nat) (hw:w≤L) (hl:L≤100000):IntKind.i64.wrap (IntKind.i64.wrap (Int.tdiv (IntKind.i64.wrap ((L:Int)-(w:Int))) (s:Int))+1)=(Ar L w s:Int):=by
 have e:(L:Int)-(w:Int)=((L-w:Nat):Int):=by omega
 have:=Nat.div_le_self (L-w) s
 rw [e,wnat (by omega),Int.tdiv_eq_ediv_of_nonneg (by omega),← Int.natCast_ediv,wnat (by omega),Bp _]
 rfl
theorem winP (L w s:Nat) (hw:w≤L) (hl:L≤100000) (s1:1≤s):f190 (L:Int) (w:Int) (s:Int)=some (Ar L w s:Int):=by
 unfold f190
 rw [dF,cond_false,Ab,win_eq L w s hw hl]
theorem win_none (L w s:Int) (hw:w>L):f190 L w s=some 0:=by
 unfold f190
 rw [dT hw];rfl
theorem of_ok (d:List Int):f191 d=some (if 0<prd d then (0,d,List.replicate (prd d).toNat 0) else (2,[],[])):=by
 unfold f191
 rw [new_ok]
 by_cases h:0<prd d
 ·rw [if_pos h,if_pos h,Aa,nF rfl];rfl
 ·rw [if_neg h,if_neg h,Aa,nT (by decide:¬(1:Int)=0)];rfl
section
variable (A K:List Int) (c L o w s:Nat) (c1:1≤c) (w1:1≤w) (hA:A.length=c*L) (hK:K.length=o*(c*w)) (bA:c*L≤4096) (bK:o*(c*w)≤4096) (hw:w≤L) (s1:1≤s) (s64:s≤64) (iA:inI A) (iK:inI K) (o1:1≤o)
include c1 w1 hA hK bA bK hw s1 s64 iA iK o1
theorem row_loopP (n0:0<prd [(o:Int),(Ar L w s:Int)]) :
  Ag (fun go (x:Int×List Int)=>f207_l14 ([(c:Int),(L:Int)],A) ([(o:Int),(c:Int),(w:Int)],K) s (Ar L w s:Int) (0,[(o:Int),(Ar L w s:Int)],List.replicate (o*Ar L w s) 0) go x.1 x.2) Ah ((0:Int),List.replicate (o*Ar L w s) 0)=some (Ao (o*Ar L w s) (rowV A K c L w s)):=by
 have hp:=(prod2 n0).2.2
 have hr:=Av [(o:Int),(Ar L w s:Int)]
 have hN:((o*Ar L w s:Nat):Int)≤4096:=by rw [Int.natCast_mul];omega
 rw [upto_zero _ (rowV A K c L w s)]
 have h:=Ba (B:=fun go (x:Int×List Int)=>f207_l14 ([(c:Int),(L:Int)],A) ([(o:Int),(c:Int),(w:Int)],K) s (Ar L w s:Int) (0,[(o:Int),(Ar L w s:Int)],upto (o*Ar L w s) 0 (rowV A K c L w s)) go x.1 x.2) (fun q=>((q:Int),upto (o*Ar L w s) q (rowV A K c L w s))) (o*Ar L w s) (Ao (o*Ar L w s) (rowV A K c L w s)) ?_ ?_ (by omega)
 ·exact h
 ·intro q hq go
  unfold f207_l14
  simp only [De]
  have m1:1≤Ar L w s:=Nat.le_add_left 1 _
  have m0:(Ar L w s:Int)≠0:=by omega
  have hcw:=row_cw A K c L o w s c1 w1 hA hK bA bK hw s1 s64 iA iK o1
  have hi:q/Ar L w s<o:=Nat.div_lt_of_lt_mul (by rw [Nat.mul_comm];exact hq)
  have hn:q%Ar L w s<Ar L w s:=Nat.mod_lt _ (Nat.le_add_left 1 _)
  obtain ⟨z,ez⟩:=acc_fix (sg (rowF A K c L w s (q/Ar L w s) (q%Ar L w s)) (c*w)) (sg_sm _ _ hcw (fun t ht=>row_p A K c L o w s c1 w1 hA hK bA bK hw s1 s64 iA iK hi hn ht))
  rw [dT,cond_true,Ab m0,Ab m0,row_sumP A K c L o w s c1 w1 hA hK bA bK hw s1 s64 iA iK q hq,Aa,ez,Aa,Ab,Bp q,Int.toNat_natCast]
  have:=upto_set (o*Ar L w s) q (rowV A K c L w s) _ hq (rfl:sat (rhe (sg (rowF A K c L w s (q/Ar L w s) (q%Ar L w s)) (c*w)))=rowV A K c L w s q)
  simp only
  rw [this]
 ·intro go
  unfold f207_l14
  simp only [De]
  rw [dF,cond_false,upto_full]
end
abbrev rowFit (a k:Tn):Prop:=a.1.length=2∧k.1.length=3∧rd (0:Int) k.1 1=rd (0:Int) a.1 0∧rd (0:Int) k.1 2≤rd (0:Int) a.1 1
abbrev rowAsk (a k:Tn) (step:Int):Prop:=Am a=true∧Am k=true∧1≤step∧step≤64
def rowS (a k:Tn) (step:Int):Int×Tn:=
 if rowAsk a k step then
  if rowFit a k then
   if 0<prd [rd (0:Int) k.1 0,(Ar (rd (0:Int) a.1 1).toNat (rd (0:Int) k.1 2).toNat step.toNat:Int)] then
    (0,[rd (0:Int) k.1 0,(Ar (rd (0:Int) a.1 1).toNat (rd (0:Int) k.1 2).toNat step.toNat:Int)],
     Ao ((rd (0:Int) k.1 0).toNat*Ar (rd (0:Int) a.1 1).toNat (rd (0:Int) k.1 2).toNat step.toNat) (rowV a.2 k.2 (rd (0:Int) a.1 0).toNat (rd (0:Int) a.1 1).toNat (rd (0:Int) k.1 2).toNat step.toNat))
   else (2,[],[])
  else (4,[],[])
 else (1,[],[])
theorem two_of {d:List Int} (h:d.length=2):d=[rd (0:Int) d 0,rd (0:Int) d 1]:=by
 match d,h with
 | [x,y],_=>rfl
theorem three_of {d:List Int} (h:d.length=3):d=[rd (0:Int) d 0,rd (0:Int) d 1,rd (0:Int) d 2]:=by
 match d,h with
 | [x,y,z],_=>rfl
theorem Em {a:Tn} (ha:Am a=true) (h:a.1.length=2):∃ c L:Nat,a=([(c:Int),(L:Int)],a.2)∧1≤c∧1≤L∧a.2.length=c*L∧c*L≤4096:=by
 obtain ⟨hp,hl,_,l2⟩:=Aq ha
 have e:=two_of h
 rw [e] at hp hl
 obtain ⟨h1,h2,h3⟩:=prod2 hp
 obtain ⟨c,hc⟩:=Int.eq_ofNat_of_zero_le (show 0≤rd (0:Int) a.1 0 by omega)
 obtain ⟨L,hL⟩:=Int.eq_ofNat_of_zero_le (show 0≤rd (0:Int) a.1 1 by omega)
 rw [h3,hc,hL,← Int.natCast_mul] at hl
 exact ⟨c,L,Prod.ext (by rw [← hc,← hL];exact e) rfl,by omega,by omega,by omega,by omega⟩
theorem ker_nat {a:Tn} (ha:Am a=true) (h:a.1.length=3):∃ o c w:Nat,a=([(o:Int),(c:Int),(w:Int)],a.2)∧1≤o∧1≤c∧1≤w∧a.2.length=o*(c*w)∧o*(c*w)≤4096:=by
 obtain ⟨hp,hl,_,l2⟩:=Aq ha
 have e:=three_of h
 rw [e] at hp hl
 obtain ⟨h1,h2,h3,h4⟩:=prod3 hp
 obtain ⟨o,ho⟩:=Int.eq_ofNat_of_zero_le (show 0≤rd (0:Int) a.1 0 by omega)
 obtain ⟨c,hc⟩:=Int.eq_ofNat_of_zero_le (show 0≤rd (0:Int) a.1 1 by omega)
 obtain ⟨w,hw⟩:=Int.eq_ofNat_of_zero_le (show 0≤rd (0:Int) a.1 2 by omega)
 rw [h4,ho,hc,hw,← Int.natCast_mul,← Int.natCast_mul] at hl
 exact ⟨o,c,w,Prod.ext (by rw [← ho,← hc,← hw];exact e) rfl,by omega,by omega,by omega,by omega,by omega⟩
theorem row_j5 (a k:Tn):f207_j5 a k=some (!(decide (rowFit a k))):=by
 unfold f207_j5
 by_cases h1:a.1.length=2
 ·rw [nF,cond_false]
  by_cases h2:k.1.length=3
  ·rw [nF,cond_false,Ab,Ab]
   by_cases h3:rd (0:Int) k.1 1=rd (0:Int) a.1 0
   ·rw [nF h3,cond_false,Ab,Ab]
    by_cases h4:rd (0:Int) k.1 2≤rd (0:Int) a.1 1
    ·rw [dF,dT (show rowFit a k from ⟨h1,h2,h3,h4⟩)];rfl
    ·rw [dT,dF (show ¬rowFit a k from fun h=>h4 h.2.2.2)];rfl
   ·rw [nT h3,dF (show ¬rowFit a k from fun h=>h3 h.2.2.1)];rfl
  ·rw [nT,dF (show ¬rowFit a k from fun h=>h2 h.2.1)];rfl
 ·rw [nT,dF (show ¬rowFit a k from fun h=>h1 h.1)];rfl
theorem row_j4 (a k:Tn) (step:Int):f207_j4 a k step=some (!(decide (rowAsk a k step))):=by
 unfold f207_j4 f188
 have e1:f119 (a.1,a.2)=some (Am a):=At a
 have e2:f119 (k.1,k.2)=some (Am k):=At k
 generalize hd:decide (rowAsk a k step)=d
 rw [e1,Aa]
 by_cases ha:Am a=true
 ·rw [ha,Bool.not_true,cond_false,e2,Aa]
  by_cases hk:Am k=true
  ·rw [hk,Bool.not_true,cond_false]
   by_cases h1:step≥1
   ·rw [dT h1,cond_true]
    by_cases h2:step≤64
    ·rw [dT h2];rw [dT (show rowAsk a k step from ⟨ha,hk,h1,h2⟩)] at hd;rw [← hd];rfl
    ·rw [dF h2];rw [dF (show ¬rowAsk a k step from fun h=>h2 h.2.2.2)] at hd;rw [← hd];rfl
   ·rw [dF h1];rw [dF (show ¬rowAsk a k step from fun h=>h1 h.2.2.1)] at hd;rw [← hd];rfl
  ·rw [show Am k=false by simpa using hk];rw [dF (show ¬rowAsk a k step from fun h=>hk h.2.1)] at hd;rw [← hd];rfl
 ·rw [show Am a=false by simpa using ha];rw [dF (show ¬rowAsk a k step from fun h=>ha h.1)] at hd;rw [← hd];rfl
theorem rowP (a k:Tn) (step:Int) (ia:inI a.2) (ik:inI k.2):f207 a k step=some (rowS a k step):=by
 unfold f207 f207_j3 rowS
 rw [row_j4,Aa]
 by_cases h:rowAsk a k step
 ·rw [dT h,if_pos h,Bool.not_true,cond_false,row_j5,Aa]
  by_cases f:rowFit a k
  ·rw [dT f,if_pos f,Bool.not_true,cond_false,Aa,Ai]
   obtain ⟨ga,gk,t1,t64⟩:=h
   obtain ⟨f1,f2,f3,f4⟩:=f
   obtain ⟨c,L,ea,c1,L1,la,ba⟩:=Em ga f1
   obtain ⟨o,c',w,ek,o1,_,w1,lk,bk⟩:=ker_nat gk f2
   obtain ⟨s,rfl⟩:=Int.eq_ofNat_of_zero_le (show 0≤step by omega)
   generalize a.2=A at *
   generalize k.2=K at *
   subst ea ek
   have fc:(c':Int)=(c:Int):=f3
   have fc':c'=c:=by omega
   subst fc'
   have fw:(w:Int)≤(L:Int):=f4
   have s1:1≤s:=by omega
   have s64:s≤64:=by omega
   have hL:L≤4096:=Nat.le_trans (Nat.le_mul_of_pos_left _ c1) ba
   rw [Ab (by simp),Ab (by simp),Ab (by simp)]
   have eW:f190 (rd (0:Int) [(c':Int),(L:Int)] 1) (rd (0:Int) [(o:Int),(c':Int),(w:Int)] 2) (s:Int)=some (Ar L w s:Int):=winP L w s (by omega) (by omega) s1
   rw [eW,Aa,Ab (by simp),of_ok,Aa]
   show _=some (if 0<prd [(o:Int),(Ar L w s:Int)] then (0,[(o:Int),(Ar L w s:Int)],Ao (o*Ar L w s) (rowV A K c' L w s)) else (2,[],[]))
   rw [show rd (0:Int) [(o:Int),(c':Int),(w:Int)] 0=(o:Int) from rfl]
   by_cases n0:0<prd [(o:Int),(Ar L w s:Int)]
   ·have hp:=(prod2 n0).2.2
    have eN:(prd [(o:Int),(Ar L w s:Int)]).toNat=o*Ar L w s:=by rw [hp,← Int.natCast_mul,Int.toNat_natCast]
    rw [if_pos n0,if_pos n0,eN,nF rfl,cond_false]
    simp only
    rw [row_loopP A K c' L o w s c1 w1 la lk ba bk (by omega) s1 s64 ia ik o1 n0,Aa]
   ·rw [if_neg n0,if_neg n0,nT (by decide:¬(2:Int)=0)];rfl
  ·rw [dF f,if_neg f];rfl
 ·rw [dF h,if_neg h];rfl
end Go.Proofs.Cv
namespace Go.Proofs.PlM
open Go.AM Go.Proofs.PlB Go.Proofs.PlW Go.Proofs.PlT
structure Mat (n m:Int):Prop where
 n1:1≤n
 n2:n≤4096
 m1:1≤m
 m2:m≤4096
 p:n*m≤4096
theorem Mat.prd {n m:Int} (h:Mat n m):prd [n,m]=n*m:=by
 obtain ⟨h1,h2,h3,h4,h5⟩:=h
 rw [prd_two,iNo]
theorem Mat.pos {n m:Int} (h:Mat n m):0<n*m:=Int.mul_pos (by have:=h.n1;omega) (by have:=h.m1;omega)
theorem Mat.of {n m:Int} (h:0<PlB.prd [n,m]):Mat n m:=by
 rw [prd_two] at h
 split at h
 ·omega
 ·rename_i h';exact ⟨by omega,by omega,by omega,by omega,by omega⟩
end Go.Proofs.PlM
namespace Go.Proofs.PlN
open Go.AM Go.Proofs.PlB Go.Proofs.PlW Go.Proofs.PlT Go.Proofs.PlM
end Go.Proofs.PlN
namespace Go.Proofs.Matm
open Go.AM Go.Proofs.PlB Go.Proofs.PlW Go.Proofs.PlT Go.Proofs.PlM Go.Proofs.PlN
end Go.Proofs.Matm
namespace Go.Proofs.Cv
open Go.AM Go.Proofs.PlB Go.Proofs.PlW Go.Proofs.PlT Go.Proofs.PlS Go.Proofs.Sh Go.Proofs.Num Go.Proofs.Div Go.Proofs.Op
section
variable (A B:List Int) (n k c:Nat) (n1:1≤n) (k1:1≤k) (c1:1≤c) (hA:A.length=n*k) (hB:B.length=k*c) (bA:n*k≤4096) (bB:k*c≤4096) (iA:inI A) (iB:inI B)
include n1 k1 c1 hA hB bA bB iA iB
end
end Go.Proofs.Cv
namespace Go.Proofs.Op
open Go.AM Go.Proofs.PlB Go.Proofs.PlW Go.Proofs.PlT Go.Proofs.PlS Go.Proofs.Sh Go.Proofs.Num Go.Proofs.Div Go.Proofs.PlR
def addT (a b:Tn):Tn:=(a.1,Ao a.2.length (fun i=>addV (rd (0:Int) a.2 i) (rd (0:Int) b.2 i)))
theorem tgood_of {t:Tn} (h:0<prd t.1) (hl:(t.2.length:Int)=prd t.1):Am t=true:=by
 unfold Am;rw [dT (show prd t.1>0 from h),bT hl];rfl
def gn (l:List Nd) (i:Nat):Nd:=rd (Ty.z (.p (.int .i64) (.p (.int .i64) (.p (.int .i64) (.p (.int .i64) (.p (.sl (.int .i64)) (.sl (.int .i64)))))))) l (i:Int)
def Dv (t:Tn):Prop:=Am t=true∧inI t.2
def vl (l:List Nd) (n:Int):Tn:=if 0≤n∧n<l.length then nd l n.toNat else ([],[])
theorem hasP (l:List Nd) (n:Int):f117 l n=some (decide (0≤n∧n<l.length),l):=by
 unfold f117
 by_cases h:n≥0
 ·rw [dT h,cond_true]
  congr 2
  rw [decide_eq_decide];omega
 ·rw [dF h,cond_false,dF (show ¬(0≤n∧n<l.length) from fun hh=>h hh.1)]
theorem atP (l:List Nd) (i:Nat) (h:i<l.length) (hg:Dv (nd l i)):f76 l (i:Int)=some ((gn l i).1,(gn l i).2.1,(gn l i).2.2.1,(gn l i).2.2.2.1,true,(nd l i).1,(nd l i).2,l):=by
 obtain ⟨_,_,l1,l2⟩:=Aq hg.1
 unfold f76
 rw [hasP,Aa,dT]
 simp only [Bool.not_true,cond_false]
 rw [Ab]
 show Ac (f118 (nd l i)) _=_
 rw [copy_t _ (by omega) (by omega),Aa]
 rfl
theorem atP_none (l:List Nd) (n:Int) (h:¬(0≤n∧n<l.length)):f76 l n=some (0,0,0,0,false,[],[],l):=by
 unfold f76
 rw [hasP,Aa,dF h]
 rfl
theorem valueP (l:List Nd) (n:Int) (hg:∀ i,i<l.length→Dv (nd l i)):f46 l n=some (decide (0≤n∧n<l.length),(vl l n).1,(vl l n).2,l):=by
 unfold f46 vl
 by_cases h:0≤n∧n<l.length
 ·obtain ⟨i,rfl⟩:=Int.eq_ofNat_of_zero_le h.1
  rw [atP l i (by omega) (hg i (by omega)),Aa,if_pos h,dT h,Int.toNat_natCast]
 ·rw [atP_none l n h,Aa,if_neg h,dF h]
abbrev Z2:Tn:=Ty.z (.p (.sl (.int .i64)) (.sl (.int .i64)))
def giveS (st:List Tn×List Bool) (n:Int) (g:Tn):List Tn×List Bool:=
 if n<0 then st else (st.1.set n.toNat (addT (rd Z2 st.1 n) g),st.2.set n.toNat true)
def zer (l:List Nd) (i:Nat):Tn:=((nd l i).1,List.replicate (prd (nd l i).1).toNat 0)
def D2 (l:List Nd) (k:Nat):List Tn:=(List.range k).map (zer l)
theorem Da (l:List Nd) (k:Nat):(D2 l k).length=k:=by simp [D2]
theorem glist_succ (l:List Nd) (k:Nat):D2 l (k+1)=D2 l k++[zer l k]:=by simp [D2,List.range_succ]
def swp (l:List Nd) (GA GB:Nat→Tn→Tn) (root:Nat):Nat→List Tn×List Bool
 | 0=>(D2 l root++[((nd l root).1,[4294967296])],(List.replicate (root+1) false).set root true)
 | k+1=>if rd false (swp l GA GB root k).2 ((root-k:Nat):Int)=true then
   giveS (giveS (swp l GA GB root k) (gn l (root-k)).2.1 (GA (root-k) (rd Z2 (swp l GA GB root k).1 ((root-k:Nat):Int)))) (gn l (root-k)).2.2.1 (GB (root-k) (rd Z2 (swp l GA GB root k).1 ((root-k:Nat):Int)))
  else swp l GA GB root k
structure Keeps (l:List Nd) (root:Nat) (st:List Tn×List Bool):Prop where
 l1:st.1.length=root+1
 l2:st.2.length=root+1
 ok:∀ i,i≤root→Dv (rd Z2 st.1 (i:Int))∧(rd Z2 st.1 (i:Int)).1=(nd l i).1
theorem rd_set {α:Type} (z:α) (xs:List α) (i j:Nat) (v:α) (hj:j<xs.length):rd z (xs.set i v) (j:Int)=if i=j then v else rd z xs (j:Int):=by
 rw [Bi _ _ _ (by rw [List.length_set];exact hj),List.getElem_set]
 split
 ·rfl
 ·rw [Bi _ _ _ hj]
theorem rd_app {α:Type} (z:α) (l:List α) (v:α) (i:Nat) (h:i<l.length):rd z (l++[v]) (i:Int)=rd z l (i:Int):=by
 rw [Bi _ _ _ (by rw [List.length_append];simp;omega),Bi _ _ _ h,List.getElem_append_left h]
theorem rd_last {α:Type} (z:α) (l:List α) (v:α):rd z (l++[v]) (l.length:Int)=v:=by
 rw [Bi _ _ _ (by rw [List.length_append];simp),List.getElem_append_right (Nat.le_refl _)]
 simp
theorem glist_rd (l:List Nd) (k i:Nat) (h:i<k):rd Z2 (D2 l k) (i:Int)=zer l i:=by
 rw [Bi _ _ _ (by rw [Da];exact h)];simp [D2]
theorem zer_good (l:List Nd) (i:Nat) (h:Dv (nd l i)):Dv (zer l i):=by
 obtain ⟨p,_,_,_⟩:=Aq h.1
 have:=Av (nd l i).1
 refine ⟨tgood_of p ?_,inI_rep _ _ (by decide)⟩
 unfold zer;simp only [List.length_replicate];omega
theorem keeps0 (l:List Nd) (GA GB:Nat→Tn→Tn) (root:Nat) (hr:root<l.length) (hg:∀ i,i<l.length→Dv (nd l i)) (h1:prd (nd l root).1=1):Keeps l root (swp l GA GB root 0):=by
 refine ⟨by simp [swp,Da],by simp [swp],fun i hi=>?_⟩
 simp only [swp]
 by_cases h:i<root
 ·rw [rd_app _ _ _ _ (by rw [Da];exact h),glist_rd _ _ _ h]
  exact ⟨zer_good l i (hg i (by omega)),rfl⟩
 ·obtain rfl:i=root:=by omega
  have e:=rd_last Z2 (D2 l i) ((nd l i).1,[4294967296])
  rw [Da] at e
  rw [e]
  exact ⟨⟨tgood_of (by simp only;omega) (by simp only [List.length_cons,List.length_nil];omega),fun x hx=>by rw [List.mem_singleton.1 hx];decide⟩,rfl⟩
def sw1 (l:List Nd):Nat→Int×List Nd×List Tn×Int×List Int×List Int
 | 0=>(0,l,[],0,[],[])
 | k+1=>(((k+1:Nat):Int),l,D2 l k++[Z2],(k:Int),(zer l k).1,(zer l k).2)
theorem set_last {α:Type} (l:List α) (v w:α):(l++[v]).set l.length w=l++[w]:=by
 rw [List.set_append_right _ _ (Nat.le_refl _)];simp
end Go.Proofs.Op
namespace Go.Proofs.Cv
open Go.AM Go.Proofs.PlB Go.Proofs.PlW Go.Proofs.PlT Go.Proofs.PlS Go.Proofs.Sh Go.Proofs.Num Go.Proofs.Div Go.Proofs.Op
def hor (d p:List Int):Nat→Int
 | 0=>0
 | k+1=>hor d p k*rd (0:Int) d (k:Int)+rd (0:Int) p (k:Int)
theorem prodL_app:∀ a b:List Int,Bh (a++b)=Bh a*Bh b
 | [],b=>by simp [Bh]
 | x::a,b=>by simp only [List.cons_append,Bh];rw [prodL_app a b,Int.mul_assoc]
theorem prodL_take {d:List Int} (k:Nat) (h:k<d.length):Bh (d.take (k+1))=Bh (d.take k)*rd (0:Int) d (k:Int):=by
 rw [List.take_succ_eq_append_getElem h,prodL_app,Bi _ _ _ h]
 simp [Bh]
theorem prodL_le {d:List Int} (hd:∀ x ∈ d,1≤x) (k:Nat):1≤Bh (d.take k)∧Bh (d.take k)≤Bh d:=by
 have h1:=Ec (d.take k) (fun x hx=>hd x (List.mem_of_mem_take hx))
 have h2:=Ec (d.drop k) (fun x hx=>hd x (List.mem_of_mem_drop hx))
 refine ⟨h1,?_⟩
 have e:Bh d=Bh (d.take k)*Bh (d.drop k):=by rw [← prodL_app,List.take_append_drop]
 rw [e]
 have:=Int.mul_le_mul_of_nonneg_left h2 (show 0≤Bh (d.take k) by omega)
 omega
structure Within (d p:List Int):Prop where
 len:p.length=d.length
 lo:∀ k,k<d.length→0≤rd (0:Int) p (k:Int)
 hi:∀ k,k<d.length→rd (0:Int) p (k:Int)<rd (0:Int) d (k:Int)
theorem sg_add (F:Nat→Int) (a:Nat):∀ b,sg F (a+b)=sg F a+sg (fun y=>F (a+y)) b
 | 0=>by simp [sg]
 | b+1=>by
  rw [← Nat.add_assoc]
  simp only [sg]
  rw [sg_add F a b];omega
theorem sg_split (F:Nat→Int) (b:Nat):∀ a,sg F (a*b)=sg (fun x=>sg (fun y=>F (x*b+y)) b) a
 | 0=>by simp [sg]
 | a+1=>by
  rw [Nat.add_mul,Nat.one_mul,sg_add,sg_split F b a]
  rfl
theorem sg_zero (F:Nat→Int):∀ n,(∀ k,k<n→F k=0)→sg F n=0
 | 0,_=>rfl
 | n+1,h=>by simp only [sg];rw [sg_zero F n (fun k hk=>h k (by omega)),h n (by omega)];rfl
theorem sg_one (F:Nat→Int) (a:Nat):∀ n,a<n→(∀ k,k<n→k≠a→F k=0)→sg F n=F a
 | 0,h,_=>absurd h (by omega)
 | n+1,h,hz=>by
  simp only [sg]
  by_cases e:n=a
  ·subst e
   rw [sg_zero F n (fun k hk=>hz k (by omega) (by omega)),Int.zero_add]
  ·rw [sg_one F a n (by omega) (fun k hk=>hz k (by omega)),hz n (by omega) e,Int.add_zero]
def goes (D st i:Nat):Nat:=i/(st*D)*st+i%st
def ixs (D st v k:Nat):Nat:=(v/st*D+k)*st+v%st
theorem goes_at (D st x k l:Nat) (hk:k<D) (hl:l<st):goes D st (x*(D*st)+(k*st+l))=x*st+l:=by
 have h0:k*st+l<D*st:=in_mat hk hl
 unfold goes
 rw [Nat.mul_comm st D,(div_mat (x:=x) h0).1]
 have e:x*(D*st)+(k*st+l)=(x*D+k)*st+l:=by rw [Nat.add_mul,Nat.mul_assoc];omega
 rw [e,(div_mat (x:=x*D+k) hl).2]
theorem sums_eq (V:Nat→Int) (H D st v:Nat) (hst:0<st) (hv:v<H*st) :
  sg (fun i=>if goes D st i=v then V i else 0) (H*(D*st))=sg (fun k=>V (ixs D st v k)) D:=by
 have hR:v/st<H:=Nat.div_lt_of_lt_mul (by rw [Nat.mul_comm];exact hv)
 have hl0:v%st<st:=Nat.mod_lt _ hst
 have hv2:v/st*st+v%st=v:=by rw [Nat.mul_comm];exact Nat.div_add_mod v st
 rw [sg_split]
 rw [sg_one _ (v/st) H hR (fun x hx hne=>sg_zero _ _ (fun y hy=>by
  have h0:0<D*st:=by omega
  have hk:y/st<D:=Nat.div_lt_of_lt_mul (by rw [Nat.mul_comm];exact hy)
  have hl:y%st<st:=Nat.mod_lt _ hst
  have ey:y/st*st+y%st=y:=by rw [Nat.mul_comm];exact Nat.div_add_mod y st
  have g:=goes_at D st x (y/st) (y%st) hk hl
  rw [ey] at g
  rw [g,if_neg]
  intro e
  have:=(div_mat (x:=x) hl).1
  rw [e] at this
  exact hne this.symm))]
 rw [sg_split]
 refine sg_congr D (fun k hk=>?_)
 rw [sg_one _ (v%st) st hl0 (fun l hl hne=>by
  rw [goes_at D st _ k l hk hl,if_neg]
  intro e
  exact hne (by omega)),goes_at D st _ k _ hk hl0,if_pos hv2]
 unfold ixs
 congr 1
 rw [Nat.add_mul,Nat.mul_assoc];omega
theorem pgo_of:∀ (d:List Int) (n:Int),1≤n→(∀ x ∈ d,1≤x∧x≤4096)→n*Bh d≤4096→pgo n d=n*Bh d
 | [],n,_,_,_=>by simp [pgo,Bh]
 | x::d,n,hn,h,hp=>by
  have hx:=h x (by simp)
  have hd:∀ y ∈ d,1≤y∧y≤4096:=fun y hy=>h y (by simp [hy])
  have p1:=Ec d (fun y hy=>(hd y hy).1)
  simp only [Bh] at hp ⊢
  have e:n*(x*Bh d)=n*x*Bh d:=by rw [Int.mul_assoc]
  have nx:1≤n*x:=by have:=Int.mul_le_mul hn hx.1 (by omega) (by omega);omega
  have le:n*x≤n*x*Bh d:=by have:=Int.mul_le_mul_of_nonneg_left p1 (show 0≤n*x by omega);omega
  rw [e] at hp ⊢
  have:=pgo_of d (n*x) nx hd hp
  simp only [pgo]
  rw [iNo,this]
def cutD (d:List Int) (j:Nat):List Int:=d.take j++d.drop (j+1)
structure Cut (d:List Int) (j H D st:Nat):Prop where
 hj:j<d.length
 pos:0<prd d
 H1:1≤H
 D1:1≤D
 s1:1≤st
 eH:Bh (d.take j)=(H:Int)
 eD:rd (0:Int) d (j:Int)=(D:Int)
 eS:Bh (d.drop (j+1))=(st:Int)
 eN:prd d=((H*(D*st):Nat):Int)
 le:H*(D*st)≤4096
 leM:H*st≤4096
 posM:0<prd (cutD d j)
 eM:prd (cutD d j)=((H*st:Nat):Int)
theorem cut_of {d:List Int} {j:Nat} (h:0<prd d) (hj:j<d.length):∃ H D st:Nat,Cut d j H D st:=by
 obtain ⟨e,h1,h2⟩:=B5 h
 have hr:=Av d
 have pH:=Ec (d.take j) (fun x hx=>(h1 x (List.mem_of_mem_take hx)).1)
 have pS:=Ec (d.drop (j+1)) (fun x hx=>(h1 x (List.mem_of_mem_drop hx)).1)
 have pD:1≤rd (0:Int) d (j:Int):=by rw [Bi _ _ _ hj];exact (h1 _ (List.getElem_mem hj)).1
 obtain ⟨H,eH⟩:=Int.eq_ofNat_of_zero_le (show 0≤Bh (d.take j) by omega)
 obtain ⟨D,eD⟩:=Int.eq_ofNat_of_zero_le (show 0≤rd (0:Int) d (j:Int) by omega)
 obtain ⟨st,eS⟩:=Int.eq_ofNat_of_zero_le (show 0≤Bh (d.drop (j+1)) by omega)
 have eN:prd d=((H*(D*st):Nat):Int):=by
  rw [e,Int.natCast_mul,Int.natCast_mul,← eH,← eD,← eS]
  have:Bh d=Bh (d.take j)*Bh (d.drop j):=by rw [← prodL_app,List.take_append_drop]
  rw [this,List.drop_eq_getElem_cons hj]
  simp only [Bh]
  rw [Bi _ _ _ hj]
 have le:H*(D*st)≤4096:=by omega
 have D1:1≤D:=by omega
 have leM:H*st≤4096:=Nat.le_trans (Nat.mul_le_mul_left _ (Nat.le_mul_of_pos_left _ D1)) le
 have eM:prd (cutD d j)=((H*st:Nat):Int):=by
  have ep:Bh (cutD d j)=((H*st:Nat):Int):=by unfold cutD;rw [prodL_app,eH,eS,Int.natCast_mul]
  have hl:(cutD d j).length≤4:=by unfold cutD;rw [List.length_append,List.length_take,List.length_drop];omega
  unfold prd
  rw [iNo,pgo_of _ 1 (by omega) (fun x hx=>by
   unfold cutD at hx
   rcases List.mem_append.1 hx with hx | hx
   ·exact h1 x (List.mem_of_mem_take hx)
   ·exact h1 x (List.mem_of_mem_drop hx)) (by rw [ep];omega),ep,Int.one_mul]
 have H1:1≤H:=by omega
 have s1:1≤st:=by omega
 have hp:1≤H*st:=Nat.mul_pos H1 s1
 exact ⟨H,D,st,hj,h,H1,D1,s1,eH,eD,eS,eN,le,leM,by omega,eM⟩
def Bd (S:Int):Prop:=-1000000000000000000000000000000000000000000≤S∧S≤1000000000000000000000000000000000000000000
theorem progif {B:(Int×Int×Int×Int→Option (Int×Int×Int))→Int×Int×Int×Int→Option (Int×Int×Int)} (S0:Int) (F:Nat→Int) (n:Nat) (hn:n≤100000)
  (hb:∀ k,k≤n→Bd (S0+sg F k)) (hs:∀ k,k<n→∀ S,Bd S→∀ go,B go ((k:Int),acc S)=go (((k+1:Nat):Int),acc (S+F k)))
  (he:∀ z go,B go ((n:Int),z)=some z):Ag B Ah ((0:Int),acc S0)=some (acc (S0+sg F n)):=by
 have h:=Ba (B:=B) (fun k=>((k:Int),acc (S0+sg F k))) n (acc (S0+sg F n)) ?_ ?_ (by omega)
 ·simp only [sg] at h
  rw [Int.add_zero] at h
  exact h
 ·intro k hk go
  rw [hs k hk _ (hb k (by omega)),Int.add_assoc]
  rfl
 ·intro go;exact he _ go
theorem sg_bd2 (F:Nat→Int) (P:Int):∀ n,(∀ k,k<n→-P≤F k∧F k≤P)→-(n*P)≤sg F n∧sg F n≤n*P
 | 0,_=>by simp [sg]
 | n+1,h=>by
  have:=sg_bd2 F P n (fun k hk=>h k (by omega))
  have h2:=h n (by omega)
  have e:((n+1:Nat):Int)*P=(n:Int)*P+P:=by rw [Int.natCast_add,Int.add_mul];simp
  rw [e]
  simp only [sg]
  constructor <;> omega
def inT (G K:List Int) (c w m x i j y:Nat):Int:=rd (0:Int) G ((i*m+j:Nat):Int)*rd (0:Int) K (((i*c+x)*w+y:Nat):Int)
def inF (G K:List Int) (c w m s x l i y:Nat):Int:=if y≤l∧(l-y)%s=0∧(l-y)/s<m then inT G K c w m x i ((l-y)/s) y else 0
section
variable (G K:List Int) (o c w m s x l:Nat) (c1:1≤c) (w1:1≤w) (hG:G.length=o*m) (hK:K.length=o*(c*w)) (bG:o*m≤4096) (bK:o*(c*w)≤4096) (s1:1≤s) (s64:s≤64) (iG:inI G) (iK:inI K) (hx:x<c) (hl:l<4096)
include c1 w1 hG hK bG bK s1 s64 iG iK hx hl
theorem in_g {i j:Nat} (hi:i<o) (hj:j<m):i*m+j<G.length:=by rw [hG];exact in_mat hi hj
theorem in_k {i y:Nat} (hi:i<o) (hy:y<w):(i*c+x)*w+y<K.length:=by
 have e:(i*c+x)*w+y=i*(c*w)+(x*w+y):=by rw [Nat.add_mul,Nat.mul_assoc];omega
 rw [e,hK];exact in_mat hi (in_mat hx hy)
theorem in_pb {i y:Nat} (hi:i<o) (hy:y<w):Pb (inF G K c w m s x l i y):=by
 unfold inF
 by_cases h:y≤l∧(l-y)%s=0∧(l-y)/s<m
 ·rw [if_pos h]
  exact pb_mul (rdIn iG (in_g G K o c w m s x l c1 w1 hG hK bG bK s1 s64 iG iK hx hl hi h.2.2)) (rdIn iK (in_k G K o c w m s x l c1 w1 hG hK bG bK s1 s64 iG iK hx hl hi hy))
 ·rw [if_neg h];unfold Pb;omega
theorem in_ow:o*w≤4096:=Nat.le_trans (Nat.mul_le_mul_left _ (Nat.le_mul_of_pos_left _ c1)) bK
theorem in_bd (i k:Nat) (hi:i<o) (hk:k≤w):Bd (sg (fun i=>sg (inF G K c w m s x l i) w) i+sg (inF G K c w m s x l i) k):=by
 have h1:=sg_bd2 (fun i=>sg (inF G K c w m s x l i) w) (w*85070591730234615865843651857942052864) i (fun a ha=>sg_bd _ w (fun y hy=>in_pb G K o c w m s x l c1 w1 hG hK bG bK s1 s64 iG iK hx hl (by omega) hy))
 have h2:=sg_bd (inF G K c w m s x l i) k (fun y hy=>in_pb G K o c w m s x l c1 w1 hG hK bG bK s1 s64 iG iK hx hl hi (by omega))
 have h3:=in_ow G K o c w m s x l c1 w1 hG hK bG bK s1 s64 iG iK hx hl
 have h4:(i+1)*w≤o*w:=Nat.mul_le_mul_right _ hi
 rw [Nat.add_mul,Nat.one_mul] at h4
 rw [← Int.mul_assoc,← Int.natCast_mul] at h1
 generalize i*w=iw at *
 unfold Bd
 constructor <;> omega
theorem in_innerP (L:Int) (q:Int) (eL:Int.tmod q L=(l:Int)) (eX:IntKind.i64.wrap (Int.tdiv q L)=(x:Int)) (i:Nat) (hi:i<o) (S0:Int) (hS:S0=sg (fun i=>sg (inF G K c w m s x l i) w) i) :
  Ag (fun go (z:Int×Int×Int×Int)=>f149_l44 ([(o:Int),(m:Int)],G) ([(o:Int),(c:Int),(w:Int)],K) s L q (i:Int) go z.1 z.2.1 z.2.2.1 z.2.2.2) Ah ((0:Int),acc S0)=some (acc (S0+sg (inF G K c w m s x l i) w)):=by
 have h3:=in_ow G K o c w m s x l c1 w1 hG hK bG bK s1 s64 iG iK hx hl
 have hw4:w≤4096:=Nat.le_trans (Nat.le_mul_of_pos_left _ (show 1≤o by omega)) h3
 have e1:IntKind.i64.wrap ((l:Int)+1)=((l+1:Nat):Int):=Bp l (by omega)
 obtain ⟨n,hn⟩:∃ n:Nat,n=if l+1<w then l+1 else w:=⟨_,rfl⟩
 have eM:(if ((l+1:Nat):Int)<(w:Int) then ((l+1:Nat):Int) else (w:Int))=(n:Int):=by
  rw [hn];by_cases h:l+1<w
  ·rw [if_pos h,iPo]
  ·rw [if_neg h,iNo]
 have nw:n≤w:=by rw [hn];split <;> omega
 have nl:n≤l+1:=by rw [hn];split <;> omega
 have eS:sg (inF G K c w m s x l i) w=sg (inF G K c w m s x l i) n:=by
  obtain ⟨r,hr⟩:∃ r,w=n+r:=⟨w-n,by omega⟩
  have e2:=sg_add (inF G K c w m s x l i) n r
  rw [sg_zero (fun y=>inF G K c w m s x l i (n+y)) r (fun y hy=>by
   unfold inF
   refine if_neg (fun h=>?_)
   have h1:=h.1
   have:l+1<w→n=l+1:=fun hh=>by rw [hn,if_pos hh]
   have:¬l+1<w→n=w:=fun hh=>by rw [hn,if_neg hh]
   omega),Int.add_zero] at e2
  rw [← hr] at e2
  exact e2
 rw [eS]
 refine progif (B:=fun go (z:Int×Int×Int×Int)=>f149_l44 ([(o:Int),(m:Int)],G) ([(o:Int),(c:Int),(w:Int)],K) s L q (i:Int) go z.1 z.2.1 z.2.2.1 z.2.2.2) S0 (inF G K c w m s x l i) n (by omega)
  (fun k hk=>by rw [hS];exact in_bd G K o c w m s x l c1 w1 hG hK bG bK s1 s64 iG iK hx hl i k hi (by omega)) ?_ ?_
 ·intro y hy S hSb go
  have hyl:y≤l:=by omega
  have hyw:y<w:=by omega
  have ed:IntKind.i64.wrap ((l:Int)-(y:Int))=((l-y:Nat):Int):=by rw [show (l:Int)-(y:Int)=((l-y:Nat):Int) by omega,wnat (by omega)]
  have em:Int.tmod ((l-y:Nat):Int) (s:Int)=(((l-y)%s:Nat):Int):=by rw [Int.tmod_eq_emod_of_nonneg (Int.natCast_nonneg _),← Int.natCast_emod]
  have eq:IntKind.i64.wrap (Int.tdiv ((l-y:Nat):Int) (s:Int))=(((l-y)/s:Nat):Int):=by
   have:(l-y)/s≤l-y:=Nat.div_le_self _ _
   rw [Int.tdiv_eq_ediv_of_nonneg (Int.natCast_nonneg _),← Int.natCast_ediv,wnat (by omega)]
  have hj:f149_j45 ([(o:Int),(m:Int)],G) s L q (y:Int)=some (decide ((l-y)%s=0∧(l-y)/s<m)):=by
   unfold f149_j45
   rw [eL,ed,em,eq,Ab]
   by_cases h1:(l-y)%s=0
   ·rw [bT (show (((l-y)%s:Nat):Int)=0 by omega),cond_true]
    show some (decide ((((l-y)/s:Nat):Int)<(m:Int)))=_
    congr 1
    rw [decide_eq_decide]
    constructor
    ·intro h;exact ⟨h1,by omega⟩
    ·intro h;have:=h.2;omega
   ·rw [bF (show ¬(((l-y)%s:Nat):Int)=0 by omega),cond_false,dF (fun h=>h1 h.1)]
  have e5:inF G K c w m s x l i y=if y≤l∧(l-y)%s=0∧(l-y)/s<m then inT G K c w m x i ((l-y)/s) y else 0:=rfl
  generalize (l-y)/s=jj at *
  unfold f149_l44
  simp only
  rw [eL,e1,show rd (0:Int) [(o:Int),(c:Int),(w:Int)] 2=(w:Int) from rfl,eM,dT,cond_true,Ab,hj,Aa]
  by_cases h:(l-y)%s=0∧jj<m
  ·have hg:=in_g G K o c w m s x l c1 w1 hG hK bG bK s1 s64 iG iK hx hl hi h.2
   have hk:=in_k G K o c w m s x l c1 w1 hG hK bG bK s1 s64 iG iK hx hl hi hyw
   rw [dT h,cond_true,show rd (0:Int) [(o:Int),(m:Int)] 1=(m:Int) from rfl,show rd (0:Int) [(o:Int),(c:Int),(w:Int)] 1=(c:Int) from rfl,ed,eq,eX,ixM i m jj (by omega),ixK i c x w y w1 (by omega),Ab,Ab,
    acc_plus S _ _ hSb (rdIn iG hg) (rdIn iK hk),Aa,Bp y]
   rw [e5,if_pos ⟨hyl,h⟩];rfl
  ·rw [dF h,cond_false,Bp y]
   rw [e5,if_neg (fun hh=>h hh.2),Int.add_zero]
 ·intro z go
  unfold f149_l44
  simp only
  rw [eL,e1,show rd (0:Int) [(o:Int),(c:Int),(w:Int)] 2=(w:Int) from rfl,eM,dF,cond_false]
end
def kerF (G A:List Int) (m L s i x y t:Nat):Int:=rd (0:Int) G ((i*m+t:Nat):Int)*rd (0:Int) A ((x*L+t*s+y:Nat):Int)
def kerV (G A:List Int) (c L w s q:Nat):Int:=sat (rhe (sg (kerF G A (Ar L w s) L s (q/(c*w)) (q/w%c) (q%w)) (Ar L w s)))
section
variable (G A:List Int) (o c L w s:Nat) (o1:1≤o) (c1:1≤c) (w1:1≤w) (hG:G.length=o*Ar L w s) (hA:A.length=c*L) (bG:o*Ar L w s≤4096) (bA:c*L≤4096) (hw:w≤L) (s1:1≤s) (s64:s≤64) (iG:inI G) (iA:inI A)
include o1 c1 w1 hG hA bG bA hw s1 s64 iG iA
theorem ker_g {i t:Nat} (hi:i<o) (ht:t<Ar L w s):i*Ar L w s+t<G.length:=by rw [hG];exact in_mat hi ht
theorem ker_a {x y t:Nat} (hx:x<c) (hy:y<w) (ht:t<Ar L w s):x*L+t*s+y<A.length:=by
 have h1:=step_in hw ht hy s1
 have h2:=in_mat (c:=c) hx h1
 rw [hA];omega
theorem ker_m:Ar L w s≤4096:=Nat.le_trans (Nat.le_mul_of_pos_left _ o1) bG
theorem ker_p {i x y:Nat} (hi:i<o) (hx:x<c) (hy:y<w) (t:Nat) (ht:t<Ar L w s):Pb (kerF G A (Ar L w s) L s i x y t):=
 pb_mul (rdIn iG (ker_g G A o c L w s o1 c1 w1 hG hA bG bA hw s1 s64 iG iA hi ht)) (rdIn iA (ker_a G A o c L w s o1 c1 w1 hG hA bG bA hw s1 s64 iG iA hx hy ht))
theorem ker_parts {q:Nat} (hq:q<o*(c*w)):q/(c*w)<o∧q/w%c<c∧q%w<w:=by
 have h0:0<c*w:=Nat.mul_pos c1 w1
 exact ⟨Nat.div_lt_of_lt_mul (by rw [Nat.mul_comm];exact hq),Nat.mod_lt _ c1,Nat.mod_lt _ w1⟩
theorem ker_sumP (q:Nat) (hq:q<o*(c*w)) (bq:o*(c*w)≤4096) :
  Ag (fun go (x:Int×Int×Int×Int)=>f152_l9 ([(o:Int),(Ar L w s:Int)],G) ([(c:Int),(L:Int)],A) s w (q:Int) go x.1 x.2.1 x.2.2.1 x.2.2.2) Ah ((0:Int),(0:Int),(0:Int),(0:Int))
   = some (acc (sg (kerF G A (Ar L w s) L s (q/(c*w)) (q/w%c) (q%w)) (Ar L w s))):=by
 obtain ⟨hi,hx,hy⟩:=ker_parts G A o c L w s o1 c1 w1 hG hA bG bA hw s1 s64 iG iA hq
 have hm:=ker_m G A o c L w s o1 c1 w1 hG hA bG bA hw s1 s64 iG iA
 have hcw:c*w≤4096:=Nat.le_trans (Nat.le_mul_of_pos_left _ o1) bq
 have eW:IntKind.i64.wrap ((c:Int)*(w:Int))=((c*w:Nat):Int):=wmul c w (by omega)
 have eI:IntKind.i64.wrap (Int.tdiv (q:Int) ((c*w:Nat):Int))=((q/(c*w):Nat):Int):=by
  have:q/(c*w)≤q:=Nat.div_le_self _ _
  rw [Int.tdiv_eq_ediv_of_nonneg (by omega),← Int.natCast_ediv,wnat (by omega)]
 have eX:Int.tmod (IntKind.i64.wrap (Int.tdiv (q:Int) (w:Int))) (c:Int)=((q/w%c:Nat):Int):=by
  have:q/w≤q:=Nat.div_le_self _ _
  rw [Int.tdiv_eq_ediv_of_nonneg (by omega),← Int.natCast_ediv,wnat (by omega),Int.tmod_eq_emod_of_nonneg (Int.natCast_nonneg _),← Int.natCast_emod]
 have eY:Int.tmod (q:Int) (w:Int)=((q%w:Nat):Int):=by
  rw [Int.tmod_eq_emod_of_nonneg (by omega),← Int.natCast_emod]
 generalize q/(c*w)=i at *
 generalize q/w%c=x at *
 generalize q%w=y at *
 have h:=progdot (B:=fun go (z:Int×Int×Int×Int)=>f152_l9 ([(o:Int),(Ar L w s:Int)],G) ([(c:Int),(L:Int)],A) s w (q:Int) go z.1 z.2.1 z.2.2.1 z.2.2.2)
  (kerF G A (Ar L w s) L s i x y) 0 (Ar L w s) (fun t=>rd (0:Int) G ((i*Ar L w s+t:Nat):Int)) (fun t=>rd (0:Int) A ((x*L+t*s+y:Nat):Int)) (by omega) (fun t ht=>by rw [Nat.zero_add];rfl)
  (fun t ht=>rdIn iG (ker_g G A o c L w s o1 c1 w1 hG hA bG bA hw s1 s64 iG iA hi ht)) (fun t ht=>rdIn iA (ker_a G A o c L w s o1 c1 w1 hG hA bG bA hw s1 s64 iG iA hx hy ht))
  (fun t ht=>ker_p G A o c L w s o1 c1 w1 hG hA bG bA hw s1 s64 iG iA hi hx hy t (by omega)) ?_ ?_
 ·rw [Nat.zero_add] at h
  have e0:acc (sg (kerF G A (Ar L w s) L s i x y) 0)=((0:Int),(0:Int),(0:Int)):=acc_zero
  rw [e0] at h
  exact h
 ·intro t ht z go
  have hg:=ker_g G A o c L w s o1 c1 w1 hG hA bG bA hw s1 s64 iG iA hi ht
  have ha:=ker_a G A o c L w s o1 c1 w1 hG hA bG bA hw s1 s64 iG iA hx hy ht
  unfold f152_l9
  simp only
  rw [show rd (0:Int) [(o:Int),(Ar L w s:Int)] 1=(Ar L w s:Int) from rfl,show rd (0:Int) [(c:Int),(L:Int)] 0=(c:Int) from rfl,show rd (0:Int) [(c:Int),(L:Int)] 1=(L:Int) from rfl,dT,cond_true,eW,eI,eX,eY,
   ixM i (Ar L w s) t (by omega),ixA x L t s y (by omega),Ab,Ab,Bp t]
 ·intro z go
  unfold f152_l9
  simp only
  rw [show rd (0:Int) [(o:Int),(Ar L w s:Int)] 1=(Ar L w s:Int) from rfl,dF,cond_false]
end
section
variable (G A:List Int) (o c L w s:Nat) (o1:1≤o) (c1:1≤c) (w1:1≤w) (hG:G.length=o*Ar L w s) (hA:A.length=c*L) (bG:o*Ar L w s≤4096) (bA:c*L≤4096) (hw:w≤L) (s1:1≤s) (s64:s≤64) (iG:inI G) (iA:inI A) (bq:o*(c*w)≤4096)
include o1 c1 w1 hG hA bG bA hw s1 s64 iG iA bq
theorem ker_loopP (r:List Int) :
  Ag (fun go (x:Int×List Int)=>f152_l8 ([(o:Int),(Ar L w s:Int)],G) ([(c:Int),(L:Int)],A) s w (0,r,List.replicate (o*(c*w)) 0) go x.1 x.2) Ah ((0:Int),List.replicate (o*(c*w)) 0)=some (Ao (o*(c*w)) (kerV G A c L w s)):=by
 have hm:=ker_m G A o c L w s o1 c1 w1 hG hA bG bA hw s1 s64 iG iA
 have hcw:c*w≤4096:=Nat.le_trans (Nat.le_mul_of_pos_left _ o1) bq
 have hcw0:1≤c*w:=Nat.mul_pos c1 w1
 rw [upto_zero _ (kerV G A c L w s)]
 have h:=Ba (B:=fun go (x:Int×List Int)=>f152_l8 ([(o:Int),(Ar L w s:Int)],G) ([(c:Int),(L:Int)],A) s w (0,r,upto (o*(c*w)) 0 (kerV G A c L w s)) go x.1 x.2) (fun q=>((q:Int),upto (o*(c*w)) q (kerV G A c L w s))) (o*(c*w)) (Ao (o*(c*w)) (kerV G A c L w s)) ?_ ?_ (by omega)
 ·exact h
 ·intro q hq go
  obtain ⟨hi,hx,hy⟩:=ker_parts G A o c L w s o1 c1 w1 hG hA bG bA hw s1 s64 iG iA hq
  obtain ⟨z,ez⟩:=acc_fix (sg (kerF G A (Ar L w s) L s (q/(c*w)) (q/w%c) (q%w)) (Ar L w s)) (sg_sm _ _ hm (fun t ht=>ker_p G A o c L w s o1 c1 w1 hG hA bG bA hw s1 s64 iG iA hi hx hy t ht))
  unfold f152_l8
  simp only [De]
  rw [show rd (0:Int) [(c:Int),(L:Int)] 0=(c:Int) from rfl,wmul c w (by omega),dT,cond_true,Ab,Ab,Ab,Ab,
   ker_sumP G A o c L w s o1 c1 w1 hG hA bG bA hw s1 s64 iG iA q hq bq,Aa,ez,Aa,Ab,Bp q,Int.toNat_natCast]
  have:=upto_set (o*(c*w)) q (kerV G A c L w s) _ hq (rfl:sat (rhe (sg (kerF G A (Ar L w s) L s (q/(c*w)) (q/w%c) (q%w)) (Ar L w s)))=kerV G A c L w s q)
  simp only
  rw [this]
 ·intro go
  unfold f152_l8
  simp only [De]
  rw [dF,cond_false,upto_full]
end
abbrev D7 (g a:Tn) (s w:Int):Prop:=Am g=true∧Am a=true∧1≤s∧s≤64∧1≤w∧w≤4096
abbrev kerFit (g a:Tn) (s w:Int):Prop:=g.1.length=2∧a.1.length=2∧w≤rd (0:Int) a.1 1∧rd (0:Int) g.1 1=(Ar (rd (0:Int) a.1 1).toNat w.toNat s.toNat:Int)
def kerS (g a:Tn) (s w:Int):Int×Tn:=
 if D7 g a s w then
  if kerFit g a s w then
   if 0<prd [rd (0:Int) g.1 0,rd (0:Int) a.1 0,w] then
    (0,[rd (0:Int) g.1 0,rd (0:Int) a.1 0,w],Ao ((rd (0:Int) g.1 0).toNat*((rd (0:Int) a.1 0).toNat*w.toNat)) (kerV g.2 a.2 (rd (0:Int) a.1 0).toNat (rd (0:Int) a.1 1).toNat w.toNat s.toNat))
   else (2,[],[])
  else (4,[],[])
 else (1,[],[])
theorem ker_j4 (g a:Tn) (s w:Int):f152_j4 g a s w=some (!(decide (D7 g a s w))):=by
 unfold f152_j4 f188 f189
 have e1:f119 (g.1,g.2)=some (Am g):=At g
 have e2:f119 (a.1,a.2)=some (Am a):=At a
 generalize hd:decide (D7 g a s w)=d
 rw [e1,Aa]
 by_cases hg:Am g=true
 ·rw [hg,Bool.not_true,cond_false,e2,Aa]
  by_cases ha:Am a=true
  ·rw [ha,Bool.not_true,cond_false]
   by_cases h1:s≥1
   ·rw [dT h1,cond_true,Aa]
    by_cases h2:s≤64
    ·rw [dT h2,Bool.not_true,cond_false]
     by_cases h3:w≥1
     ·rw [dT h3,cond_true]
      by_cases h4:w≤4096
      ·rw [dT h4];rw [dT (show D7 g a s w from ⟨hg,ha,h1,h2,h3,h4⟩)] at hd;rw [← hd];rfl
      ·rw [dF h4];rw [dF (show ¬D7 g a s w from fun h=>h4 h.2.2.2.2.2)] at hd;rw [← hd];rfl
     ·rw [dF h3];rw [dF (show ¬D7 g a s w from fun h=>h3 h.2.2.2.2.1)] at hd;rw [← hd];rfl
    ·rw [dF h2];rw [dF (show ¬D7 g a s w from fun h=>h2 h.2.2.2.1)] at hd;rw [← hd];rfl
   ·rw [dF h1];rw [dF (show ¬D7 g a s w from fun h=>h1 h.2.2.1)] at hd;rw [← hd];rfl
  ·rw [show Am a=false by simpa using ha];rw [dF (show ¬D7 g a s w from fun h=>ha h.2.1)] at hd;rw [← hd];rfl
 ·rw [show Am g=false by simpa using hg];rw [dF (show ¬D7 g a s w from fun h=>hg h.1)] at hd;rw [← hd];rfl
theorem ker_win (a:Tn) (s w:Int) (ha:Am a=true) (h2:a.1.length=2) (s1:1≤s) (w1:1≤w) (h:w≤rd (0:Int) a.1 1) :
  IntKind.i64.wrap (IntKind.i64.wrap (Int.tdiv (IntKind.i64.wrap (rd (0:Int) a.1 1-w)) s)+1)=(Ar (rd (0:Int) a.1 1).toNat w.toNat s.toNat:Int)∧f190 (rd (0:Int) a.1 1) w s=some (Ar (rd (0:Int) a.1 1).toNat w.toNat s.toNat:Int):=by
 obtain ⟨c,L,ea,c1,L1,la,ba⟩:=Em ha h2
 have hL:L≤4096:=Nat.le_trans (Nat.le_mul_of_pos_left _ c1) ba
 have e:rd (0:Int) a.1 1=(L:Int):=by rw [ea];rfl
 obtain ⟨w',rfl⟩:=Int.eq_ofNat_of_zero_le (show 0≤w by omega)
 obtain ⟨s',rfl⟩:=Int.eq_ofNat_of_zero_le (show 0≤s by omega)
 rw [e] at h ⊢
 exact ⟨win_eq L w' s' (by omega) (by omega),winP L w' s' (by omega) (by omega) (by omega)⟩
theorem ker_j5 (g a:Tn) (s w:Int) (h:D7 g a s w):f152_j5 g a s w=some (!(decide (kerFit g a s w))):=by
 obtain ⟨hg,ha,s1,s64,w1,w4⟩:=h
 unfold f152_j5
 by_cases h1:g.1.length=2
 ·rw [nF,cond_false]
  by_cases h2:a.1.length=2
  ·rw [nF,cond_false,Ab,Ab]
   by_cases h3:w≤rd (0:Int) a.1 1
   ·rw [(ker_win a s w ha h2 s1 w1 h3).2,Aa]
    by_cases h4:(Ar (rd (0:Int) a.1 1).toNat w.toNat s.toNat:Int)=rd (0:Int) g.1 1
    ·rw [nF h4,dT (show kerFit g a s w from ⟨h1,h2,h3,h4.symm⟩)];rfl
    ·rw [nT h4,dF (show ¬kerFit g a s w from fun h=>h4 h.2.2.2.symm)];rfl
   ·obtain ⟨c,L,eg,c1,L1,_,_⟩:=Em hg h1
    have e:rd (0:Int) g.1 1=(L:Int):=by rw [eg];rfl
    rw [win_none _ _ _ (by omega),Aa,nT,dF (show ¬kerFit g a s w from fun h=>h3 h.2.2.1)];rfl
  ·rw [nT,dF (show ¬kerFit g a s w from fun h=>h2 h.2.1)];rfl
 ·rw [nT,dF (show ¬kerFit g a s w from fun h=>h1 h.1)];rfl
theorem kerP (g a:Tn) (s w:Int) (ig:inI g.2) (ia:inI a.2):f152 g a s w=some (kerS g a s w):=by
 unfold f152 f152_j3 kerS
 rw [ker_j4,Aa]
 by_cases h:D7 g a s w
 ·rw [dT h,if_pos h,Bool.not_true,cond_false,ker_j5 g a s w h,Aa]
  by_cases f:kerFit g a s w
  ·rw [dT f,if_pos f,Bool.not_true,cond_false,Aa,Ai]
   obtain ⟨gg,ga,t1,t64,w1,w4⟩:=h
   obtain ⟨f1,f2,f3,f4⟩:=f
   obtain ⟨o,m,eg,o1,m1,lg,bg⟩:=Em gg f1
   obtain ⟨c,L,ea,c1,L1,la,ba⟩:=Em ga f2
   obtain ⟨s,rfl⟩:=Int.eq_ofNat_of_zero_le (show 0≤s by omega)
   obtain ⟨w,rfl⟩:=Int.eq_ofNat_of_zero_le (show 0≤w by omega)
   generalize g.2=G at *
   generalize a.2=A at *
   subst eg ea
   have fw:(w:Int)≤(L:Int):=f3
   have fm:(m:Int)=(Ar L w s:Int):=f4
   have fm':m=Ar L w s:=by omega
   subst fm'
   rw [Ab (by simp),Ab (by simp),Ab (by simp),Ab (by simp),show rd (0:Int) [(o:Int),(Ar L w s:Int)] 0=(o:Int) from rfl,show rd (0:Int) [(c:Int),(L:Int)] 0=(c:Int) from rfl,of_ok,Aa]
   show _=some (if 0<prd [(o:Int),(c:Int),(w:Int)] then (0,[(o:Int),(c:Int),(w:Int)],Ao (o*(c*w)) (kerV G A c L w s)) else (2,[],[]))
   by_cases n0:0<prd [(o:Int),(c:Int),(w:Int)]
   ·have hp:=(prod3 n0).2.2.2
    have hr:=Av [(o:Int),(c:Int),(w:Int)]
    have eN:(prd [(o:Int),(c:Int),(w:Int)]).toNat=o*(c*w):=by rw [hp,← Int.natCast_mul,← Int.natCast_mul,Int.toNat_natCast]
    rw [if_pos n0,if_pos n0,eN,nF rfl,cond_false]
    simp only
    rw [ker_loopP G A o c L w s o1 c1 (by omega) lg la bg ba (by omega) (by omega) (by omega) ig ia (by omega),Aa]
   ·rw [if_neg n0,if_neg n0,nT (by decide:¬(2:Int)=0)];rfl
  ·rw [dF f,if_neg f];rfl
 ·rw [dF h,if_neg h];rfl
end Go.Proofs.Cv

