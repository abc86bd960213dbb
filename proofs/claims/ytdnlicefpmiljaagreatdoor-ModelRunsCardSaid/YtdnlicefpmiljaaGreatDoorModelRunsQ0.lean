import Derived.Test.YtdnlicefpmiljaaGreatDoorModelRunsS7
set_option linter.unusedVariables false
set_option linter.unusedSimpArgs false
set_option maxRecDepth 100000

namespace Go.AM
theorem Bh {X Y:Type} (x:X) (f:X→Option Y):Ey (some x) f=f x:=rfl
theorem Fu {A B Y:Type} (a:A) (f:A→Option Y) (g:B→Option Y):Fx (.inl a) f g=f a:=rfl
theorem F4 {A B Y:Type} (b:B) (f:A→Option Y) (g:B→Option Y):Fx (.inr b) f g=g b:=rfl
theorem D4 {Y:Type} {p:Prop} [Decidable p] {r:Option Y} (h:p:=by omega):E9 p r=r:=if_pos h
theorem G7 {X Z:Type} (B:(X→Option Z)→X→Option Z) (n:Nat) (x:X):Fq B (n+1) x=B (Fq B n) x:=rfl
theorem loop_inv {X Z:Type} {B:(X→Option Z)→X→Option Z} (I:X→Prop) (μ:X→Nat) (Q:Z→Prop)
  (h:∀ x,I x→(∃ z,(∀ go,B go x=some z)∧Q z)∨(∃ y,(∀ go,B go x=go y)∧I y∧μ y<μ x)) :
  ∀ (n:Nat) (x:X),I x→μ x<n→∃ z,Fq B n x=some z∧Q z
 | 0,x,_,hm=>absurd hm (Nat.not_lt_zero _)
 | n+1,x,hi,hm=>by
  rw [G7]
  rcases h x hi with ⟨z,h1,h2⟩ | ⟨y,h1,h2,h3⟩
  ·exact ⟨z,h1 _,h2⟩
  ·rw [h1];exact loop_inv I μ Q h n y h2 (by omega)
theorem Gd {X Z:Type} {B:(X→Option Z)→X→Option Z} (I:X→Prop) (μ:X→Nat) (Q:Z→Prop)
  (h:∀ x,I x→(∃ z,(∀ go,B go x=some z)∧Q z)∨(∃ y,(∀ go,B go x=go y)∧I y∧μ y<μ x)) (x:X) (hi:I x) (hm:μ x<18446744073709551616) :
  ∃ z,Fq B Fv x=some z∧Q z:=loop_inv I μ Q h Fv x hi hm
theorem Fl {n:Int} (h1 : -9223372036854775808≤n:=by omega) (h2:n<9223372036854775808:=by omega):IntKind.i64.wrap n=n:=by
 simp only [IntKind.wrap,IntKind.signed,IntKind.bits]
 have:n%2 ^ 64=if 0≤n then n else n+18446744073709551616:=by
  split <;> omega
 simp only [this]
 split <;> split <;> simp_all <;> omega
theorem Gj {α:Type} (z:α) (xs:List α) (i:Nat) (h:i<xs.length):rd z xs (i:Int)=xs[i]:=by
 simp [rd,h]
end Go.AM
namespace Go.Proofs.PlB
open Go.AM
theorem clone_d (d:List Int) (h:d.length≤17592186044416):f61 d=some d:=by
 unfold f61 nilF
 cases d with
 | nil=>rfl
 | cons x r=>
  simp only
  rw [D4 (by simp at h ⊢;omega)]
  rfl
def pgo:Int→List Int→Int
 | n,[]=>n
 | n,x::r=>if x<1∨x>4096∨n*x>4096 then 0 else pgo (n*x) r
def prd (d:List Int):Int:=if d.length>4 then 0 else pgo 1 d
theorem drop_cons {α:Type} (d:List α) (k:Nat) (h:k<d.length):d.drop k=d[k]::d.drop (k+1):=by
 rw [List.drop_eq_getElem_cons h]
theorem product_ok (d:List Int):f89 d=some (prd d):=by
 unfold f89 prd
 by_cases h4:d.length>4
 ·rw [show decide ((List.length d:Int)>4)=true by simp;omega,if_pos h4];rfl
 ·rw [show decide ((List.length d:Int)>4)=false by simp;omega,if_neg h4]
  simp only [cond_false]
  have H:∀ x:Int×Int,(∃ k:Nat,x.2=(k:Int)∧k≤d.length∧1≤x.1∧x.1≤4096∧pgo x.1 (d.drop k)=pgo 1 d)→
    (∃ z,(∀ go,f89_l3 d go x.1 x.2=some z)∧((z=Sum.inl ()∧pgo 1 d=0)∨z=Sum.inr (pgo 1 d)))∨
    (∃ y:Int×Int,(∀ go,f89_l3 d go x.1 x.2=go y)∧(∃ k:Nat,y.2=(k:Int)∧k≤d.length∧1≤y.1∧y.1≤4096∧pgo y.1 (d.drop k)=pgo 1 d)∧((d.length:Int)-y.2).toNat<((d.length:Int)-x.2).toNat):=by
   rintro ⟨n,_⟩ ⟨k,rfl,hk,hn1,hn2,hp⟩
   simp only at hn1 hn2 hp ⊢
   by_cases hlt:k<d.length
   ·rw [drop_cons d k hlt] at hp
    simp only [pgo] at hp
    have hrd:rd (0:Int) d (k:Int)=d[k]:=Gj _ _ _ hlt
    by_cases c1:d[k]<1
    ·left
     rw [if_pos (.inl c1)] at hp
     refine ⟨Sum.inl (),fun go=>?_,.inl ⟨rfl,hp.symm⟩⟩
     simp only [f89_l3,f89_j4,hrd]
     rw [show decide ((k:Int)<(d.length:Int))=true by simpa using hlt,show decide (d[k]<(1:Int))=true by simpa using c1]
     simp only [cond_true]
     rw [D4]
     rfl
    ·by_cases c2:d[k]>4096
     ·left
      rw [if_pos (.inr (.inl c2))] at hp
      refine ⟨Sum.inl (),fun go=>?_,.inl ⟨rfl,hp.symm⟩⟩
      simp only [f89_l3,f89_j4,hrd]
      rw [show decide ((k:Int)<(d.length:Int))=true by simpa using hlt,show decide (d[k]<(1:Int))=false by simpa using c1,show decide (d[k]>(4096:Int))=true by simpa using c2]
      simp only [cond_true,cond_false]
      rw [D4]
      rfl
     ·have hb1:n*d[k]≤4096*4096:=Int.mul_le_mul hn2 (by omega) (by omega) (by omega)
      have hb0:1*1≤n*d[k]:=Int.mul_le_mul hn1 (by omega) (by omega) (by omega)
      have hw:IntKind.i64.wrap (n*d[k])=n*d[k]:=Fl (by omega) (by omega)
      by_cases c3:n*d[k]>4096
      ·left
       rw [if_pos (.inr (.inr c3))] at hp
       refine ⟨Sum.inl (),fun go=>?_,.inl ⟨rfl,hp.symm⟩⟩
       simp only [f89_l3,f89_j4,hrd,hw]
       rw [show decide ((k:Int)<(d.length:Int))=true by simpa using hlt,show decide (d[k]<(1:Int))=false by simpa using c1,show decide (d[k]>(4096:Int))=false by simpa using c2,show decide (n*d[k]>(4096:Int))=true by simpa using c3]
       simp only [cond_true,cond_false]
       rw [D4]
       rfl
      ·right
       rw [iNo] at hp
       refine ⟨(n*d[k],((k+1:Nat):Int)),fun go=>?_,⟨k+1,rfl,hlt,by simp only;omega,by simp only;omega,hp⟩,by simp only;omega⟩
       simp only [f89_l3,f89_j4,hrd,hw]
       rw [show decide ((k:Int)<(d.length:Int))=true by simpa using hlt,show decide (d[k]<(1:Int))=false by simpa using c1,show decide (d[k]>(4096:Int))=false by simpa using c2,show decide (n*d[k]>(4096:Int))=false by simpa using c3]
       simp only [cond_true,cond_false]
       rw [D4,Fl]
       rfl
   ·left
    have:k=d.length:=by omega
    subst this
    simp only [List.drop_length,pgo] at hp
    refine ⟨Sum.inr n,fun go=>?_,.inr (by rw [hp])⟩
    simp only [f89_l3]
    rw [show decide ((d.length:Int)<(d.length:Int))=false by simp]
    rfl
  obtain ⟨z,e,hz⟩:=Gd (B:=fun go (x:Int×Int)=>f89_l3 d go x.1 x.2) _ (fun x=>((d.length:Int)-x.2).toNat) _ H ((1:Int),(0:Int)) ⟨0,rfl,Nat.zero_le _,by decide,by decide,rfl⟩ (by simp;omega)
  rw [e]
  simp only [Bh]
  rcases hz with ⟨rfl,h0⟩ | rfl
  ·simp only [Fu,h0]
  ·simp only [F4]
theorem Gw (d:List Int):f65 d=some (decide (prd d>0)):=by
 unfold f65
 simp only [product_ok,Bh]
theorem size_ok (d:List Int):f117 d=some (prd d):=by
 unfold f117
 simp only [product_ok,Bh]
def Fz (t:List Int×List Int):Bool:=decide (prd t.1>0)&&((t.2.length:Int)==prd t.1)
theorem Gv (t:List Int×List Int):f91 t=some (Fz t):=by
 unfold f91 Fz
 simp only [Gw,size_ok,Bh]
 cases decide (prd t.1>0) <;> rfl
theorem same_ok (a:List Int) (h:a.length<4611686018427387904):f13 a a=some true:=by
 unfold f13
 rw [show ((a.length:Int) != (a.length:Int))=false by simp]
 simp only [cond_false]
 have H:∀ x:Int,(∃ k:Nat,x=(k:Int)∧k≤a.length)→(∃ z,(∀ go,f13_l1 a a go x=some z)∧z=Sum.inr ())∨
   (∃ y:Int,(∀ go,f13_l1 a a go x=go y)∧(∃ k:Nat,y=(k:Int)∧k≤a.length)∧((a.length:Int)-y).toNat<((a.length:Int)-x).toNat):=by
  rintro _ ⟨k,rfl,hk⟩
  by_cases hlt:k<a.length
  ·right
   refine ⟨((k+1:Nat):Int),fun go=>?_,⟨k+1,rfl,hlt⟩,by omega⟩
   simp only [f13_l1]
   rw [show decide ((k:Int)<(a.length:Int))=true by simpa using hlt]
   simp only [cond_true]
   rw [D4,D4,Fl]
   simp
  ·left
   refine ⟨_,fun go=>?_,rfl⟩
   simp only [f13_l1]
   rw [show decide ((k:Int)<(a.length:Int))=false by simp;omega]
   rfl
 obtain ⟨z,e,rfl⟩:=Gd (B:=fun go x=>f13_l1 a a go x) _ (fun x=>((a.length:Int)-x).toNat) _ H 0 ⟨0,rfl,Nat.zero_le _⟩ (by simp;omega)
 rw [e]
 rfl
end Go.Proofs.PlB
namespace Go.Proofs.PlW
open Go.AM
theorem wu (n:Int):IntKind.u64.wrap n=n%18446744073709551616:=by
 simp [IntKind.wrap,IntKind.signed,IntKind.bits]
theorem wi (n:Int):IntKind.i64.wrap n=if n%18446744073709551616≥9223372036854775808 then n%18446744073709551616-18446744073709551616 else n%18446744073709551616:=by
 simp [IntKind.wrap,IntKind.signed,IntKind.bits]
theorem wu_wi (n:Int):IntKind.u64.wrap (IntKind.i64.wrap n)=n%18446744073709551616:=by
 rw [wu,wi];split <;> omega
theorem wi_mod (n:Int):IntKind.i64.wrap (n%18446744073709551616)=IntKind.i64.wrap n:=by
 rw [wi,wi,Int.emod_emod_of_dvd _ (Int.dvd_refl _)]
theorem sh32u (x:Int):Int.fdiv x (2 ^ min (Int.toNat (32:Int)) (IntKind.bits IntKind.u64))=x/4294967296:=by
 rw [show ((2:Int) ^ min (Int.toNat (32:Int)) (IntKind.bits IntKind.u64))=4294967296 from rfl]
 exact Int.fdiv_eq_ediv_of_nonneg _ (by decide)
theorem sh32i (x:Int):Int.fdiv x (2 ^ min (Int.toNat (32:Int)) (IntKind.bits IntKind.i64))=x/4294967296:=by
 rw [show ((2:Int) ^ min (Int.toNat (32:Int)) (IntKind.bits IntKind.i64))=4294967296 from rfl]
 exact Int.fdiv_eq_ediv_of_nonneg _ (by decide)
theorem sh63i (x:Int):Int.fdiv x (2 ^ min (Int.toNat (63:Int)) (IntKind.bits IntKind.i64))=x/9223372036854775808:=by
 rw [show ((2:Int) ^ min (Int.toNat (63:Int)) (IntKind.bits IntKind.i64))=9223372036854775808 from rfl]
 exact Int.fdiv_eq_ediv_of_nonneg _ (by decide)
theorem bitsNat (f:BitVec 64→BitVec 64→BitVec 64) (a b:Int):Ft IntKind.u64 f a b=((f (BitVec.ofInt 64 a) (BitVec.ofInt 64 b)).toNat:Int):=by
 have h:Ft IntKind.u64 f a b=IntKind.u64.wrap (((f (BitVec.ofInt 64 a) (BitVec.ofInt 64 b)).toNat:Nat):Int):=rfl
 rw [h,wu]
 have:=(f (BitVec.ofInt 64 a) (BitVec.ofInt 64 b)).isLt
 omega
theorem ofInt_nat (a:Int) (h0:0≤a) (h1:a<18446744073709551616):(BitVec.ofInt 64 a).toNat=a.toNat:=by
 rw [BitVec.toNat_ofInt]
 have:a%((2 ^ 64:Nat):Int)=a:=Int.emod_eq_of_lt h0 (by simpa using h1)
 rw [this]
theorem and_nat (a b:Int) (h0:0≤a) (h1:a<18446744073709551616) (g0:0≤b) (g1:b<18446744073709551616) :
  Ft IntKind.u64 (fun p q=>p&&& q) a b=((a.toNat&&& b.toNat:Nat):Int):=by
 refine (bitsNat (fun p q=>p&&& q) a b).trans ?_
 rw [BitVec.toNat_and,ofInt_nat a h0 h1,ofInt_nat b g0 g1]
theorem or_nat (a b:Int) (h0:0≤a) (h1:a<18446744073709551616) (g0:0≤b) (g1:b<18446744073709551616) :
  Ft IntKind.u64 (fun p q=>p||| q) a b=((a.toNat||| b.toNat:Nat):Int):=by
 refine (bitsNat (fun p q=>p||| q) a b).trans ?_
 rw [BitVec.toNat_or,ofInt_nat a h0 h1,ofInt_nat b g0 g1]
theorem and32 (x:Int) (h0:0≤x) (h1:x<18446744073709551616):Ft IntKind.u64 (fun p q=>p&&& q) x 4294967295=x%4294967296:=by
 rw [and_nat x _ h0 h1 (by decide) (by decide)]
 have:=Nat.and_two_pow_sub_one_eq_mod x.toNat 32
 rw [show (4294967295:Int).toNat=2 ^ 32-1 from rfl,this]
 omega
theorem and1 (x:Int) (h0:0≤x) (h1:x<18446744073709551616):Ft IntKind.u64 (fun p q=>p&&& q) x 1=x%2:=by
 rw [and_nat x _ h0 h1 (by decide) (by decide)]
 have:=Nat.and_two_pow_sub_one_eq_mod x.toNat 1
 rw [show (1:Int).toNat=2 ^ 1-1 from rfl,this]
 omega
theorem or32 (a b:Int) (h0:0≤a) (h1:a<4294967296) (g0:0≤b) (g1:b<4294967296):Ft IntKind.u64 (fun p q=>p||| q) (a*4294967296) b=a*4294967296+b:=by
 rw [or_nat _ _ (by omega) (by omega) (by omega) (by omega)]
 have:=Nat.two_pow_add_eq_or_of_lt (i:=32) (b:=b.toNat) (by omega) a.toNat
 rw [show (a*4294967296).toNat=2 ^ 32*a.toNat by omega,← this]
 omega
theorem add_ok (x y c:Int) (h0:0≤x) (h1:0≤y) (h2:0≤c) (h3:c≤1):K3 x y c=some ((x+y+c)%18446744073709551616,(x+y+c)/18446744073709551616):=by
 unfold K3
 rw [show Nat.ble c.toNat 1=true by rw [Nat.ble_eq];omega]
 simp only [Option.some.injEq,Prod.mk.injEq,Int.ofNat_eq_natCast]
 constructor <;> omega
theorem sub_ok (x y c:Int) (h0:0≤x) (h0':x<18446744073709551616) (h1:0≤y) (h1':y<18446744073709551616) (h2:0≤c) (h3:c≤1) :
  sub64 x y c=some ((x-y-c)%18446744073709551616,if x<y+c then 1 else 0):=by
 unfold sub64
 rw [show Nat.ble c.toNat 1=true by rw [Nat.ble_eq];omega]
 simp only [Option.some.injEq,Prod.mk.injEq,Int.ofNat_eq_natCast]
 constructor
 ·omega
 ·by_cases h:x<y+c
  ·rw [if_pos h,iPo]
  ·rw [if_neg h,iNo]
theorem size_ok (v:Int) (h0 : -9223372036854775808≤v) (h1:v<9223372036854775808):f210 v=some (if v<0 then -v else v):=by
 unfold f210
 by_cases h:v<0
 ·rw [show decide (v<0)=true by simpa using h,if_pos h]
  simp only [cond_true,wu,Option.some.injEq]
  omega
 ·rw [show decide (v<0)=false by simpa using h,if_neg h]
  simp only [cond_false,wu,Option.some.injEq]
  omega
theorem Jt (a b:Int) (h0:0≤a) (h1:a≤4294967295) (g0:0≤b) (g1:b≤4294967295):0≤a*b∧a*b≤18446744065119617025:=
 ⟨Int.mul_nonneg h0 g0,Int.mul_le_mul h1 g1 g0 (by decide)⟩
theorem mul64_ok (x y:Int) (h0:0≤x) (h1:x<18446744073709551616) (g0:0≤y) (g1:y<18446744073709551616) :
  f197 x y=some (x*y/18446744073709551616,x*y%18446744073709551616):=by
 unfold f197
 have x1:=Int.mul_ediv_add_emod x 4294967296
 have y1:=Int.mul_ediv_add_emod y 4294967296
 simp only [sh32u,and32 x h0 h1,and32 y g0 g1,wu]
 rw [and32 _ (by omega) (by omega)]
 generalize hx1:x/4294967296=a at *
 generalize hx0:x%4294967296=b at *
 generalize hy1:y/4294967296=c at *
 generalize hy0:y%4294967296=d at *
 obtain ⟨p0,p1⟩:=Jt a c (by omega) (by omega) (by omega) (by omega)
 obtain ⟨q0,q1⟩:=Jt a d (by omega) (by omega) (by omega) (by omega)
 obtain ⟨r0,r1⟩:=Jt b c (by omega) (by omega) (by omega) (by omega)
 obtain ⟨s0,s1⟩:=Jt b d (by omega) (by omega) (by omega) (by omega)
 have hxy:x*y=18446744073709551616*(a*c)+4294967296*(a*d)+4294967296*(b*c)+b*d:=by
  rw [← x1,← y1,Int.add_mul,Int.mul_add,Int.mul_add]
  have e1:4294967296*a*(4294967296*c)=18446744073709551616*(a*c):=by
   rw [show (18446744073709551616:Int)=4294967296*4294967296 from rfl];ac_rfl
  have e2:4294967296*a*d=4294967296*(a*d):=Int.mul_assoc _ _ _
  have e3:b*(4294967296*c)=4294967296*(b*c):=Int.mul_left_comm _ _ _
  rw [e1,e2,e3];omega
 rw [hxy]
 generalize a*c=P at *
 generalize a*d=Q at *
 generalize b*c=R at *
 generalize b*d=S at *
 have w0:∀ n:Int,0≤n→n<18446744073709551616→n%18446744073709551616=n:=fun n h0 h1=>Int.emod_eq_of_lt h0 h1
 rw [w0 P (by omega) (by omega),w0 Q (by omega) (by omega),w0 R (by omega) (by omega),w0 S (by omega) (by omega)]
 rw [w0 (Q+S/4294967296) (by omega) (by omega)]
 rw [w0 ((Q+S/4294967296)%4294967296+R) (by omega) (by omega)]
 rw [w0 (P+(Q+S/4294967296)/4294967296) (by omega) (by omega)]
 rw [w0 (P+(Q+S/4294967296)/4294967296+((Q+S/4294967296)%4294967296+R)/4294967296) (by omega) (by omega)]
 have hh:(18446744073709551616*P+4294967296*Q+4294967296*R+S)/18446744073709551616=P+(Q+S/4294967296)/4294967296+((Q+S/4294967296)%4294967296+R)/4294967296:=by omega
 rw [hh]
theorem prod_ok (a b:Int) (a0 : -9223372036854775808≤a) (a1:a<9223372036854775808) (b0 : -9223372036854775808≤b) (b1:b<9223372036854775808) :
  f202 a b=some (a*b/18446744073709551616,a*b%18446744073709551616):=by
 unfold f202
 rw [size_ok a a0 a1,size_ok b b0 b1]
 simp only [Bh]
 have key:∀ x y:Int,0≤x→x≤9223372036854775808→0≤y→y≤9223372036854775808→0≤x*y∧x*y≤85070591730234615865843651857942052864:=fun x y h0 h1 g0 g1=>⟨Int.mul_nonneg h0 g0,Int.mul_le_mul h1 g1 g0 (by decide)⟩
 have pos:∀ q:Int,0≤q→q≤85070591730234615865843651857942052864→IntKind.i64.wrap (q/18446744073709551616)=q/18446744073709551616:=fun q h0 h1=>Fl (by omega) (by omega)
 have neg:∀ q:Int,0≤q→q≤85070591730234615865843651857942052864→f212 (q/18446744073709551616,q%18446744073709551616)=some (-q/18446744073709551616,-q%18446744073709551616):=fun q h0 h1=>by
  unfold f212 f227
  simp only
  rw [sub_ok _ _ _ (by omega) (by omega) (by omega) (by omega) (by omega) (by omega)]
  simp only [Bh,wu]
  rw [sub_ok _ _ _ (by omega) (by omega) (by omega) (by omega) (by split <;> omega) (by split <;> omega)]
  simp only [Bh,Option.some.injEq,Prod.mk.injEq]
  constructor
  ·rw [wi];split <;> split <;> omega
  ·omega
 by_cases ha:a<0 <;> by_cases hb:b<0
 ·rw [show (decide (a<0)==decide (b<0))=true by simp [ha,hb],if_pos ha,if_pos hb]
  obtain ⟨k0,k1⟩:=key (-a) (-b) (by omega) (by omega) (by omega) (by omega)
  rw [mul64_ok _ _ (by omega) (by omega) (by omega) (by omega)]
  simp only [Bh,Bool.not_true,cond_false]
  rw [Int.neg_mul_neg] at *
  rw [pos _ k0 k1]
 ·rw [show (decide (a<0)==decide (b<0))=false by simp [ha,hb],if_pos ha,if_neg hb]
  obtain ⟨k0,k1⟩:=key (-a) b (by omega) (by omega) (by omega) (by omega)
  rw [mul64_ok _ _ (by omega) (by omega) (by omega) (by omega)]
  simp only [Bh,Bool.not_false,cond_true]
  rw [pos _ k0 k1,neg _ k0 k1]
  simp only [Bh,Int.neg_mul,Int.neg_neg]
 ·rw [show (decide (a<0)==decide (b<0))=false by simp [ha,hb],if_neg ha,if_pos hb]
  obtain ⟨k0,k1⟩:=key a (-b) (by omega) (by omega) (by omega) (by omega)
  rw [mul64_ok _ _ (by omega) (by omega) (by omega) (by omega)]
  simp only [Bh,Bool.not_false,cond_true]
  rw [pos _ k0 k1,neg _ k0 k1]
  simp only [Bh,Int.mul_neg,Int.neg_neg]
 ·rw [show (decide (a<0)==decide (b<0))=true by simp [ha,hb],if_neg ha,if_neg hb]
  obtain ⟨k0,k1⟩:=key a b (by omega) (by omega) (by omega) (by omega)
  rw [mul64_ok _ _ (by omega) (by omega) (by omega) (by omega)]
  simp only [Bh,Bool.not_true,cond_false]
  rw [pos _ k0 k1]
theorem prodBnd (a b:Int) (a0 : -9223372036854775808≤a) (a1:a<9223372036854775808) (b0 : -9223372036854775808≤b) (b1:b<9223372036854775808) :
  -85070591730234615865843651857942052864≤a*b∧a*b≤85070591730234615865843651857942052864:=by
 have key:∀ x y:Int,0≤x→x≤9223372036854775808→0≤y→y≤9223372036854775808→0≤x*y∧x*y≤85070591730234615865843651857942052864:=fun x y h0 h1 g0 g1=>⟨Int.mul_nonneg h0 g0,Int.mul_le_mul h1 g1 g0 (by decide)⟩
 by_cases ha:a<0 <;> by_cases hb:b<0
 ·have:=key (-a) (-b) (by omega) (by omega) (by omega) (by omega)
  rw [Int.neg_mul_neg] at this;omega
 ·have:=key (-a) b (by omega) (by omega) (by omega) (by omega)
  rw [Int.neg_mul] at this;omega
 ·have:=key a (-b) (by omega) (by omega) (by omega) (by omega)
  rw [Int.mul_neg] at this;omega
 ·have:=key a b (by omega) (by omega) (by omega) (by omega)
  omega
theorem dd (S:Int):S/340282366920938463463374607431768211456=S/18446744073709551616/18446744073709551616:=by omega
theorem sum_div (S p:Int):(S+p)/18446744073709551616=S/18446744073709551616+p/18446744073709551616+(S%18446744073709551616+p%18446744073709551616)/18446744073709551616:=by omega
theorem sum_div3 (s q k:Int):(s+q+k)/18446744073709551616=s/18446744073709551616+q/18446744073709551616+(s%18446744073709551616+q%18446744073709551616+k)/18446744073709551616:=by omega
theorem plus_ok (S a b:Int) (s0 : -1000000000000000000000000000000000000000000000≤S) (s1:S≤1000000000000000000000000000000000000000000000)
  (a0 : -9223372036854775808≤a) (a1:a<9223372036854775808) (b0 : -9223372036854775808≤b) (b1:b<9223372036854775808) :
  f176 (S/340282366920938463463374607431768211456) (IntKind.i64.wrap (S/18446744073709551616)) (S%18446744073709551616) a b =
   some ((S+a*b)/340282366920938463463374607431768211456,IntKind.i64.wrap ((S+a*b)/18446744073709551616),(S+a*b)%18446744073709551616):=by
 obtain ⟨p0,p1⟩:=prodBnd a b a0 a1 b0 b1
 unfold f176
 rw [prod_ok a b a0 a1 b0 b1]
 generalize a*b=p at *
 simp only [Bh]
 rw [add_ok _ _ _ (by omega) (by omega) (by omega) (by omega)]
 simp only [Bh,wu_wi]
 rw [wu,add_ok _ _ _ (by omega) (by omega) (by omega) (by omega)]
 simp only [Bh,sh63i,Option.some.injEq,Prod.mk.injEq,Int.add_zero]
 have hk0:0≤(S%18446744073709551616+p%18446744073709551616)/18446744073709551616:=by omega
 have hk1:(S%18446744073709551616+p%18446744073709551616)/18446744073709551616≤1:=by omega
 have hlo:(S%18446744073709551616+p%18446744073709551616)%18446744073709551616=(S+p)%18446744073709551616:=by omega
 have hs0 : -100000000000000000000000000≤S/18446744073709551616:=by omega
 have hs1:S/18446744073709551616≤100000000000000000000000000:=by omega
 have hq0 : -4611686018427387905≤p/18446744073709551616:=by omega
 have hq1:p/18446744073709551616≤4611686018427387905:=by omega
 rw [dd S,dd (S+p),sum_div S p,hlo]
 generalize (S%18446744073709551616+p%18446744073709551616)/18446744073709551616=k at *
 generalize S/18446744073709551616=s at *
 generalize p/18446744073709551616=q at *
 have hc0:0≤(s%18446744073709551616+q%18446744073709551616+k)/18446744073709551616:=by omega
 have hc1:(s%18446744073709551616+q%18446744073709551616+k)/18446744073709551616≤1:=by omega
 have hq:q/9223372036854775808=q/18446744073709551616:=by omega
 have hqr : -1≤q/18446744073709551616∧q/18446744073709551616≤0:=by omega
 have hsr : -100000000≤s/18446744073709551616∧s/18446744073709551616≤100000000:=by omega
 refine ⟨?_,?_,rfl⟩
 ·rw [sum_div3 s q k,hq]
  generalize (s%18446744073709551616+q%18446744073709551616+k)/18446744073709551616=c2 at *
  rw [Fl (n:=c2) (by omega) (by omega),Fl (n:=q/18446744073709551616+c2) (by omega) (by omega),Fl]
  omega
 ·rw [wi_mod,← wi_mod,← wi_mod (s+q+k)]
  congr 1
  omega
def rhe (S:Int):Int:=if S%4294967296>2147483648∨(S%4294967296=2147483648∧S/4294967296%2=1) then S/4294967296+1 else S/4294967296
def sat (x:Int):Int:=if x≥9223372036854775808 then 9223372036854775807 else if x < -9223372036854775808 then -9223372036854775808 else x
theorem fix_ok (R:Int) (h0 : -1000000000000000000000000000000000000≤R) (h1:R≤1000000000000000000000000000000000000):f182 (R/18446744073709551616,R%18446744073709551616)=some (sat R):=by
 unfold f182 f182_j2 f182_j3 sat
 simp only
 by_cases c1:R/18446744073709551616>0
 ·rw [show decide (R/18446744073709551616>0)=true by simpa using c1]
  simp only [cond_true,Bh,F4]
  rw [iPo]
 ·rw [show decide (R/18446744073709551616>0)=false by simpa using c1]
  simp only [cond_false]
  by_cases c2:R/18446744073709551616=0
  ·rw [show (R/18446744073709551616==0)=true by simpa using c2]
   simp only [cond_true,Bh]
   by_cases c3:R%18446744073709551616≥9223372036854775808
   ·rw [show decide (R%18446744073709551616≥9223372036854775808)=true by simpa using c3]
    simp only [cond_true,Bh,F4]
    rw [iPo]
   ·rw [show decide (R%18446744073709551616≥9223372036854775808)=false by simpa using c3]
    simp only [cond_false]
    rw [show decide (R/18446744073709551616 < -1)=false by simp;omega,show (R/18446744073709551616==-1)=false by simp;omega]
    simp only [cond_false,Bh,Fu]
    rw [iNo,iNo,Fl]
    congr 1;omega
  ·rw [show (R/18446744073709551616==0)=false by simpa using c2]
   simp only [cond_false,Bh]
   by_cases c4:R/18446744073709551616 < -1
   ·rw [show decide (R/18446744073709551616 < -1)=true by simpa using c4]
    simp only [cond_true,Bh,F4]
    rw [iNo,iPo]
   ·rw [show decide (R/18446744073709551616 < -1)=false by simpa using c4,show (R/18446744073709551616==-1)=true by simp;omega]
    simp only [cond_false,cond_true]
    by_cases c5:R%18446744073709551616<9223372036854775808
    ·rw [show decide (R%18446744073709551616<9223372036854775808)=true by simpa using c5]
     simp only [cond_true,Bh,F4]
     rw [iNo,iPo]
    ·rw [show decide (R%18446744073709551616<9223372036854775808)=false by simpa using c5]
     simp only [cond_false,Bh,Fu]
     rw [iNo,iNo,wi]
     congr 1
     split <;> omega
theorem down_ok (S:Int):f224 (S/18446744073709551616,S%18446744073709551616) 32 =
  some (S/18446744073709551616/4294967296,S/4294967296%18446744073709551616,S%4294967296*4294967296,0):=by
 unfold f224
 rw [show decide ((32:Int)≥64)=false from rfl]
 simp only [cond_false]
 rw [D4 (by decide),D4 (by decide),D4 (by decide),D4 (by decide)]
 simp only [sh32i,sh32u]
 rw [show ((2:Int) ^ min (Int.toNat (IntKind.i64.wrap ((64:Int)-32))) (IntKind.bits IntKind.u64))=4294967296 from rfl]
 simp only [wu,Option.some.injEq,Prod.mk.injEq,and_true,true_and]
 refine ⟨?_,by omega⟩
 have e:S/18446744073709551616%18446744073709551616*4294967296%18446744073709551616=S/18446744073709551616%4294967296*4294967296:=by omega
 rw [e,or32 _ _ (by omega) (by omega) (by omega) (by omega)]
 omega
theorem shift_ok (S:Int) (h0 : -170141183460469231731687303715884105728≤S) (h1:S<170141183460469231731687303715884105728) :
  f203 (S/18446744073709551616,S%18446744073709551616) 32=some (rhe S/18446744073709551616,rhe S%18446744073709551616):=by
 unfold f203
 rw [show f203_j1 32=some (Sum.inl ()) from rfl]
 simp only [Bh,Fu,down_ok]
 have hup:∀ q:Int,f180 (q/18446744073709551616,q%18446744073709551616) (0,1)=some (IntKind.i64.wrap ((q+1)/18446744073709551616),(q+1)%18446744073709551616):=fun q=>by
  unfold f180
  simp only
  rw [add_ok _ _ _ (by omega) (by omega) (by omega) (by omega)]
  simp only [Bh,wu]
  rw [add_ok _ _ _ (by omega) (by omega) (by omega) (by omega)]
  simp only [Bh,Option.some.injEq,Prod.mk.injEq]
  constructor
  ·rw [wi_mod,← wi_mod,← wi_mod ((q+1)/18446744073709551616)]
   congr 1
   omega
  ·omega
 have e1:S/18446744073709551616/4294967296=S/4294967296/18446744073709551616:=by omega
 rw [e1]
 have hr:rhe S=S/4294967296+1∨rhe S=S/4294967296:=by unfold rhe;split <;> simp
 have up:f203_j2 (S/4294967296/18446744073709551616,S/4294967296%18446744073709551616,S%4294967296*4294967296,0) =
   some (decide (S%4294967296>2147483648∨(S%4294967296=2147483648∧S/4294967296%2=1))):=by
  unfold f203_j2
  simp only
  by_cases c1:S%4294967296>2147483648
  ·rw [show decide (S%4294967296*4294967296>9223372036854775808)=true by simp;omega]
   simp [c1]
  ·rw [show decide (S%4294967296*4294967296>9223372036854775808)=false by simp;omega]
   simp only [cond_false]
   by_cases c2:S%4294967296=2147483648
   ·rw [show (S%4294967296*4294967296==9223372036854775808)=true by simp;omega]
    simp only [cond_true]
    rw [show decide ((0:Int)>0)=false from rfl,and1 _ (by omega) (by omega)]
    simp only [cond_false,Option.some.injEq]
    rw [show S/4294967296%18446744073709551616%2=S/4294967296%2 by omega]
    simp [c2]
    rfl
   ·rw [show (S%4294967296*4294967296==9223372036854775808)=false by simp;omega]
    simp [c1,c2]
 rw [up]
 simp only [Bh]
 by_cases c:S%4294967296>2147483648∨(S%4294967296=2147483648∧S/4294967296%2=1)
 ·rw [show decide _=true from decide_eq_true c]
  have hrr:rhe S=S/4294967296+1:=by unfold rhe;rw [if_pos c]
  rw [show f181 1=some (0,1) from rfl]
  simp only [cond_true,Bh,hup]
  rw [hrr,Fl]
 ·rw [show decide _=false from decide_eq_false c]
  have hrr:rhe S=S/4294967296:=by unfold rhe;rw [if_neg c]
  simp only [cond_false]
  rw [hrr]
theorem accFix_ok (S:Int) (s0 : -1000000000000000000000000000000000000000000000≤S) (s1:S≤1000000000000000000000000000000000000000000000) :
  ∃ x y z,f177 (S/340282366920938463463374607431768211456) (IntKind.i64.wrap (S/18446744073709551616)) (S%18446744073709551616) 32=some (sat (rhe S),x,y,z):=by
 have hrb:S/4294967296≤rhe S∧rhe S≤S/4294967296+1:=by unfold rhe;split <;> omega
 unfold f177
 rw [sh63i]
 by_cases c : -170141183460469231731687303715884105728≤S∧S<170141183460469231731687303715884105728
 ·obtain ⟨c0,c1⟩:=c
  have hw:IntKind.i64.wrap (S/18446744073709551616)=S/18446744073709551616:=Fl (by omega) (by omega)
  rw [hw,show (S/340282366920938463463374607431768211456==S/18446744073709551616/9223372036854775808)=true by simp;omega]
  simp only [cond_true,shift_ok S c0 c1,Bh]
  rw [fix_ok _ (by omega) (by omega)]
  exact ⟨_,_,_,rfl⟩
 ·have hne:¬S/340282366920938463463374607431768211456=IntKind.i64.wrap (S/18446744073709551616)/9223372036854775808:=by
   rw [wi];split <;> omega
  rw [show (S/340282366920938463463374607431768211456==IntKind.i64.wrap (S/18446744073709551616)/9223372036854775808)=false by simpa using hne]
  simp only [cond_false]
  by_cases c2:S/340282366920938463463374607431768211456<0
  ·rw [show decide (S/340282366920938463463374607431768211456<0)=true by simpa using c2]
   refine ⟨S/340282366920938463463374607431768211456,IntKind.i64.wrap (S/18446744073709551616),S%18446744073709551616,?_⟩
   simp only [cond_true]
   congr 2
   unfold sat
   rw [iNo,iPo]
  ·rw [show decide (S/340282366920938463463374607431768211456<0)=false by simpa using c2]
   refine ⟨S/340282366920938463463374607431768211456,IntKind.i64.wrap (S/18446744073709551616),S%18446744073709551616,?_⟩
   simp only [cond_false]
   congr 2
   unfold sat
   rw [iPo]
def inI (l:List Int):Prop:=∀ x ∈ l,-9223372036854775808≤x∧x<9223372036854775808
end Go.Proofs.PlW
namespace Go.Proofs.PlT
open Go.AM Go.Proofs.PlB Go.Proofs.PlW
theorem lf1 {X Z:Type} (B:(X→Option Z)→X→Option Z) (x:X):Fq B Fv x=B (Fq B 18446744073709551615) x:=rfl
theorem lf2 {X Z:Type} (B:(X→Option Z)→X→Option Z) (x:X):Fq B 18446744073709551615 x=B (Fq B 18446744073709551614) x:=rfl
theorem lf3 {X Z:Type} (B:(X→Option Z)→X→Option Z) (x:X):Fq B 18446744073709551614 x=B (Fq B 18446744073709551613) x:=rfl
theorem lf4 {X Z:Type} (B:(X→Option Z)→X→Option Z) (x:X):Fq B 18446744073709551613 x=B (Fq B 18446744073709551612) x:=rfl
theorem lf5 {X Z:Type} (B:(X→Option Z)→X→Option Z) (x:X):Fq B 18446744073709551612 x=B (Fq B 18446744073709551611) x:=rfl
theorem pgo_range:∀ (d:List Int) (n:Int),0≤n→n≤4096→0≤pgo n d∧pgo n d≤4096
 | [],n,h0,h1=>⟨h0,h1⟩
 | x::r,n,h0,h1=>by
  simp only [pgo]
  split
  ·omega
  ·have:0≤n*x:=Int.mul_nonneg h0 (by omega)
   exact pgo_range r _ this (by omega)
theorem F5 (d:List Int):0≤prd d∧prd d≤4096:=by
 unfold prd
 split
 ·omega
 ·exact pgo_range d 1 (by omega) (by omega)
theorem G3 {d:List Int} (h:0<prd d):d.length≤4:=by
 unfold prd at h
 split at h <;> omega
theorem over_rep (v:Int) (n c m:Nat) (h:c+m≤n):over (List.replicate c v++List.replicate (n-c) 0) (c:Int) (List.replicate m v)=List.replicate (c+m) v++List.replicate (n-(c+m)) 0:=by
 unfold over
 simp only [Int.toNat_natCast,List.length_replicate]
 rw [List.take_append_of_le_length (by simp),List.take_of_length_le (by simp),List.drop_append,List.drop_of_length_le (by simp),List.nil_append,List.length_replicate,List.drop_replicate,List.replicate_append_replicate]
 congr 2
 omega
theorem repeat_ok (v:Int) (n:Nat) (h:n≤4096):f201 [v] (n:Int)=some (List.replicate n v):=by
 unfold f201
 rw [show decide ((n:Int)<0)=false by simp]
 simp only [cond_false,f223]
 rw [mul64_ok _ _ (by rw [wu];omega) (by rw [wu];omega) (by rw [wu];omega) (by rw [wu];omega)]
 simp only [Bh,wu,List.length_cons,List.length_nil]
 have e1:(((0+1:Nat):Int)%18446744073709551616*((n:Int)%18446744073709551616))=n:=by
  rw [show (((0+1:Nat):Int)%18446744073709551616)=1 from rfl,Int.one_mul];omega
 rw [e1,show (n:Int)/18446744073709551616=0 by omega,show (n:Int)%18446744073709551616=n by omega]
 have hj:f201_j1 ((0:Int),(n:Int))=some ():=by
  unfold f201_j1
  simp only
  rw [show decide ((0:Int)>0)=false from rfl,show decide ((n:Int)>9223372036854775807)=false by simp;omega]
  rfl
 rw [hj,Fl]
 simp only [Bh,Int.toNat_natCast,List.length_replicate]
 rw [D4]
 have e2:List.take (n-(0:Int).toNat) [v]=List.replicate (min n 1) v:=by
  cases n with
  | zero=>rfl
  | succ n=>rw [show min (n+1) 1=1 by omega];simp
 rw [show (0:Int).toNat=0 from rfl] at *
 rw [e2]
 have H:∀ x:Int×List Int,(∃ c:Nat,x=((c:Int),List.replicate c v++List.replicate (n-c) 0)∧c≤n∧(1≤n→1≤c))→
   (∃ z,(∀ go,f201_l2 go x.1 x.2=some z)∧z=List.replicate n v)∨
   (∃ y:Int×List Int,(∀ go,f201_l2 go x.1 x.2=go y)∧(∃ c:Nat,y=((c:Int),List.replicate c v++List.replicate (n-c) 0)∧c≤n∧(1≤n→1≤c))∧((n:Int)-y.1).toNat<((n:Int)-x.1).toNat):=by
  rintro _ ⟨c,rfl,hc,h1⟩
  have hlen:(List.replicate c v++List.replicate (n-c) (0:Int)).length=n:=by simp;omega
  by_cases hlt:c<n
  ·right
   have ht:List.take ((n:Int).toNat-(c:Int).toNat) (List.drop (0:Int).toNat (List.take (c:Int).toNat (List.replicate c v++List.replicate (n-c) (0:Int))))=List.replicate (min (n-c) c) v:=by
    simp only [Int.toNat_natCast,show (0:Int).toNat=0 from rfl,List.drop_zero]
    rw [List.take_append_of_le_length (by simp),List.take_replicate,List.take_replicate]
    congr 1;omega
   refine ⟨(((c+min (n-c) c:Nat):Int),_),fun go=>?_,⟨c+min (n-c) c,rfl,by omega,by omega⟩,by simp only;omega⟩
   simp only [f201_l2,hlen]
   rw [show decide ((c:Int)<(n:Int))=true by simpa using hlt]
   simp only [cond_true]
   rw [D4,D4,ht,List.length_replicate,Fl,over_rep v n c _ (by omega)]
   rfl
  ·left
   have:c=n:=by omega
   subst this
   refine ⟨_,fun go=>?_,rfl⟩
   simp only [f201_l2,hlen]
   rw [show decide ((c:Int)<(c:Int))=false by simp]
   simp
 have e3:(((List.replicate (min n 1) v).length:Int),over (List.replicate n (0:Int)) 0 (List.replicate (min n 1) v))=(((min n 1:Nat):Int),List.replicate (min n 1) v++List.replicate (n-min n 1) 0):=by
  have:=over_rep v n 0 (min n 1) (by omega)
  simp only [List.replicate_zero,List.nil_append,Nat.sub_zero,Nat.zero_add] at this
  rw [List.length_replicate]
  exact Prod.ext rfl this
 rw [e3]
 obtain ⟨z,e,rfl⟩:=Gd (B:=fun go (x:Int×List Int)=>f201_l2 go x.1 x.2) _ (fun x=>((n:Int)-x.1).toNat) _ H _ ⟨min n 1,rfl,by omega,by omega⟩ (by simp only;omega)
 rw [e]
 rfl
theorem new_ok (d:List Int) (v:Int):f171 d v=some (if 0<prd d then (0,d,List.replicate (prd d).toNat v) else (1,[],[])):=by
 unfold f171
 rw [Gw]
 simp only [Bh]
 by_cases h:0<prd d
 ·have hl:=G3 h
  have hr:=F5 d
  rw [show decide (prd d>0)=true by simpa using h,if_pos h,clone_d d (by omega),PlB.size_ok]
  simp only [Bool.not_true,cond_false,Bh]
  rw [show prd d=(((prd d).toNat:Nat):Int) by omega,repeat_ok v _ (by omega)]
  simp only [Bh,Int.toNat_natCast]
 ·rw [show decide (prd d>0)=false by simpa using h,if_neg h]
  rfl
theorem prd_two (n m:Int):prd [n,m]=if n<1∨n>4096∨m<1∨m>4096∨n*m>4096 then 0 else n*m:=by
 simp only [prd,pgo,List.length_cons,List.length_nil,Int.one_mul]
 rw [iNo]
 by_cases h1:n<1∨n>4096∨n>4096
 ·rw [if_pos h1,iPo]
 ·rw [if_neg h1]
  by_cases h2:m<1∨m>4096∨n*m>4096
  ·rw [if_pos h2,iPo]
  ·rw [if_neg h2,iNo]
end Go.Proofs.PlT
namespace Go.AM
open Go.Proofs.PlT
theorem dT {p:Prop} [Decidable p] (h:p:=by omega):decide p=true:=decide_eq_true h
theorem dF {p:Prop} [Decidable p] (h:¬p:=by omega):decide p=false:=decide_eq_false h
theorem bT {a b:Int} (h:a=b):(a==b)=true:=by simpa using h
theorem bF {a b:Int} (h:¬a=b):(a==b)=false:=by simpa using h
theorem nT {a b:Int} (h:¬a=b:=by omega):(a != b)=true:=by simpa using h
theorem nF {a b:Int} (h:a=b:=by omega):(a != b)=false:=by simpa using h
theorem loop_for_aux {X Z:Type} {B:(X→Option Z)→X→Option Z} (s:Nat→X) (n:Nat) (z:Z)
  (hs:∀ k,k<n→∀ go,B go (s k)=go (s (k+1))) (he:∀ go,B go (s n)=some z) :
  ∀ m k,k≤n→n<m+k→Fq B m (s k)=some z
 | 0,k,h1,h2=>absurd h1 (by omega)
 | m+1,k,h1,h2=>by
  rw [G7]
  by_cases h:k<n
  ·rw [hs k h];exact loop_for_aux s n z hs he m (k+1) h (by omega)
  ·rw [show k=n by omega];exact he _
theorem F2 {X Z:Type} {B:(X→Option Z)→X→Option Z} (s:Nat→X) (n:Nat) (z:Z)
  (hs:∀ k,k<n→∀ go,B go (s k)=go (s (k+1))) (he:∀ go,B go (s n)=some z) (hn:n<18446744073709551616) :
  Fq B Fv (s 0)=some z:=loop_for_aux s n z hs he Fv 0 (Nat.zero_le _) (by show n<18446744073709551616+0;omega)
def Ks (P:Nat→Bool):Nat→Nat→Option Nat
 | k,0=>none
 | k,n+1=>if P k then some k else Ks P (k+1) n
theorem loop_find_aux {X Z:Type} {B:(X→Option Z)→X→Option Z} (s:Nat→X) (P:Nat→Bool) (zx:Nat→Z) (z:Z) (n:Nat)
  (hs:∀ k,k<n→P k=false→∀ go,B go (s k)=go (s (k+1))) (hx:∀ k,k<n→P k=true→∀ go,B go (s k)=some (zx k)) (he:∀ go,B go (s n)=some z) :
  ∀ r m k,k+r=n→r<m→Fq B m (s k)=some (match Ks P k r with | some i=>zx i | none=>z)
 | 0,0,k,h1,h2=>absurd h2 (by omega)
 | 0,m+1,k,h1,h2=>by rw [G7,show k=n by omega];exact he _
 | r+1,0,k,h1,h2=>absurd h2 (by omega)
 | r+1,m+1,k,h1,h2=>by
  rw [G7]
  unfold Ks
  cases h:P k
  ·rw [hs k (by omega) h];exact loop_find_aux s P zx z n hs hx he r m (k+1) (by omega) (by omega)
  ·rw [hx k (by omega) h];rfl
theorem loop_find {X Z:Type} {B:(X→Option Z)→X→Option Z} (s:Nat→X) (P:Nat→Bool) (zx:Nat→Z) (z:Z) (n:Nat)
  (hs:∀ k,k<n→P k=false→∀ go,B go (s k)=go (s (k+1))) (hx:∀ k,k<n→P k=true→∀ go,B go (s k)=some (zx k)) (he:∀ go,B go (s n)=some z) (hn:n<18446744073709551616) :
  Fq B Fv (s 0)=some (match Ks P 0 n with | some i=>zx i | none=>z):=loop_find_aux s P zx z n hs hx he n Fv 0 (by omega) (by show n<18446744073709551616;omega)
theorem firstB_none (P:Nat→Bool):∀ n k,(Ks P k n=none↔∀ i,k≤i→i<k+n→P i=false)
 | 0,k=>by simp only [Ks,true_iff];intro i h1 h2;omega
 | n+1,k=>by
  unfold Ks
  by_cases h:P k=true
  ·simp only [h,if_true]
   constructor
   ·intro h';exact absurd h' (by simp)
   ·intro h';have:=h' k (Nat.le_refl _) (by omega);rw [h] at this;exact absurd this (by decide)
  ·rw [if_neg h,firstB_none P n (k+1)]
   constructor
   ·intro h' i h1 h2
    by_cases hk:i=k
    ·subst hk;simpa using h
    ·exact h' i (by omega) (by omega)
   ·intro h' i h1 h2;exact h' i (by omega) (by omega)
def anyB (n:Nat) (P:Nat→Bool):Bool:=(Ks P 0 n).isSome
theorem J4 {n:Nat} {P:Nat→Bool}:anyB n P=false↔∀ i,i<n→P i=false:=by
 unfold anyB
 rw [Option.isSome_eq_false_iff,Option.isNone_iff_eq_none,firstB_none]
 constructor
 ·intro h i hi;exact h i (Nat.zero_le _) (by omega)
 ·intro h i _ hi;exact h i (by omega)
theorem loop_any {X Z:Type} {B:(X→Option Z)→X→Option Z} (s:Nat→X) (P:Nat→Bool) (zx z:Z) (n:Nat)
  (hs:∀ k,k<n→P k=false→∀ go,B go (s k)=go (s (k+1))) (hx:∀ k,k<n→P k=true→∀ go,B go (s k)=some zx) (he:∀ go,B go (s n)=some z) (hn:n<18446744073709551616) :
  Fq B Fv (s 0)=some (bif anyB n P then zx else z):=by
 rw [loop_find s P (fun _=>zx) z n hs hx he hn]
 unfold anyB
 cases Ks P 0 n <;> rfl
theorem loop_rel_aux {X Z:Type} {B:(X→Option Z)→X→Option Z} (R:Nat→X→Prop) (Q:Z→Prop) (n:Nat)
  (hs:∀ k,k<n→∀ x,R k x→∃ y,(∀ go,B go x=go y)∧R (k+1) y) (he:∀ x,R n x→∃ z,(∀ go,B go x=some z)∧Q z) :
  ∀ m k x,k≤n→n<m+k→R k x→∃ z,Fq B m x=some z∧Q z
 | 0,k,x,h1,h2,_=>absurd h1 (by omega)
 | m+1,k,x,h1,h2,hr=>by
  rw [G7]
  by_cases h:k<n
  ·obtain ⟨y,e,hy⟩:=hs k h x hr
   rw [e];exact loop_rel_aux R Q n hs he m (k+1) y h (by omega) hy
  ·rw [show k=n by omega] at hr
   obtain ⟨z,e,hz⟩:=he x hr
   exact ⟨z,e _,hz⟩
theorem loop_rel {X Z:Type} {B:(X→Option Z)→X→Option Z} (R:Nat→X→Prop) (Q:Z→Prop) (n:Nat) (x:X) (h0:R 0 x)
  (hs:∀ k,k<n→∀ x,R k x→∃ y,(∀ go,B go x=go y)∧R (k+1) y) (he:∀ x,R n x→∃ z,(∀ go,B go x=some z)∧Q z) (hn:n<18446744073709551616) :
  ∃ z,Fq B Fv x=some z∧Q z:=loop_rel_aux R Q n hs he Fv 0 x (Nat.zero_le _) (by show n<18446744073709551616+0;omega) h0
end Go.AM
namespace Go.Proofs.PlB
open Go.AM
theorem clone_v (d:List Int) (h:d.length≤17592186044416):f75 d=some d:=by
 unfold f75 nilF
 cases d with
 | nil=>rfl
 | cons x r=>
  simp only
  rw [D4 (by simp at h ⊢;omega)]
  rfl
theorem copy_t (t:List Int×List Int) (h1:t.1.length≤17592186044416) (h2:t.2.length≤17592186044416):f49 t=some t:=by
 unfold f49
 simp only [clone_d _ h1,clone_v _ h2,Bh]
end Go.Proofs.PlB
namespace Go.Proofs.PlS
open Go.AM Go.Proofs.PlB Go.Proofs.PlW Go.Proofs.PlT
def Gg {α:Type} (n:Nat) (g:Nat→α):List α:=(List.range n).map g
theorem Gn {α:Type} (n:Nat) (g:Nat→α):(Gg n g).length=n:=by simp [Gg]
theorem tab_get {α:Type} (n:Nat) (g:Nat→α) (i:Nat) (h:i<(Gg n g).length):(Gg n g)[i]=g i:=by simp [Gg]
theorem Gh {α:Type} (n:Nat) (g f:Nat→α) (h:∀ i,i<n→g i=f i):Gg n g=Gg n f:=by
 unfold Gg;exact List.map_congr_left (fun i hi=>h i (List.mem_range.1 hi))
theorem Kw {α:Type} (n:Nat) (g:Nat→α) (j:Nat) (v:α):(Gg n g).set j v=Gg n (fun i=>if i=j then v else g i):=by
 apply List.ext_getElem
 ·simp [Gg]
 ·intro i h1 h2
  rw [List.getElem_set,tab_get _ _ _ h2]
  by_cases h:j=i
  ·rw [if_pos h,if_pos h.symm]
  ·rw [if_neg h,if_neg (Ne.symm h),tab_get]
theorem tab_rep {α:Type} (n:Nat) (v:α):List.replicate n v=Gg n (fun _=>v):=by
 apply List.ext_getElem
 ·simp [Gg]
 ·intro i h1 h2;simp [Gg]
theorem rd_tab {α:Type} (z:α) (n:Nat) (g:Nat→α) (i:Nat) (h:i<n):rd z (Gg n g) (i:Int)=g i:=by
 rw [Gj _ _ _ (by rw [Gn];exact h),tab_get]
def Fp:List Int→Int
 | []=>1
 | x::r=>x*Fp r
theorem pgo_prod:∀ (d:List Int) (n:Int),1≤n→0<pgo n d→pgo n d=n*Fp d∧∀ x ∈ d,1≤x∧x≤4096
 | [],n,h,hp=>⟨by simp [pgo,Fp],fun x hx=>by simp at hx⟩
 | x::r,n,h,hp=>by
  simp only [pgo] at hp ⊢
  by_cases hb:x<1∨x>4096∨n*x>4096
  ·rw [if_pos hb] at hp;exact absurd hp (by decide)
  ·rw [if_neg hb] at hp ⊢
   have h1:1*1≤n*x:=Int.mul_le_mul h (by omega) (by omega) (by omega)
   obtain ⟨e,m⟩:=pgo_prod r (n*x) (by omega) hp
   refine ⟨by rw [e,Fp,Int.mul_assoc],fun y hy=>?_⟩
   rcases List.mem_cons.1 hy with rfl | hy
   ·omega
   ·exact m y hy
theorem Gs {d:List Int} (h:0<prd d):prd d=Fp d∧(∀ x ∈ d,1≤x∧x≤4096)∧d.length≤4:=by
 have hl:=G3 h
 have e:prd d=pgo 1 d:=by unfold prd;rw [iNo]
 rw [e] at h ⊢
 obtain ⟨a,b⟩:=pgo_prod d 1 (by omega) h
 exact ⟨by rw [a,Int.one_mul],b,hl⟩
theorem getD_at (d:List Int) (i:Nat) (h:i<d.length):d.getD i 0=d[i]:=by simp [List.getD,h]
def Fw (d:List Int) (k:Nat):Int:=if k<d.length then d.getD (d.length-1-k) 0 else 1
theorem Kf (d:List Int) (k:Nat) (h:k<d.length):rd (0:Int) d ((d.length-1-k:Nat):Int)=Fw d k:=by
 unfold Fw
 rw [if_pos h,Gj _ _ _ (by omega),getD_at _ _ (by omega)]
theorem Gp {d:List Int} (h:0<prd d) (k:Nat):1≤Fw d k∧Fw d k≤4096:=by
 obtain ⟨_,b,_⟩:=Gs h
 unfold Fw
 split
 ·rw [getD_at _ _ (by omega)]
  exact b _ (List.getElem_mem _)
 ·omega
def J0 (d:List Int) (k:Nat):Int:=Fp (d.drop (d.length-k))
theorem Kj (d:List Int):J0 d 0=1:=by unfold J0;simp [Fp]
theorem strd_all (d:List Int):J0 d d.length=Fp d:=by unfold J0;simp
theorem J5 (d:List Int) (k:Nat) (h:k<d.length):J0 d (k+1)=Fw d k*J0 d k:=by
 unfold J0 Fw
 rw [if_pos h,getD_at _ _ (by omega)]
 rw [List.drop_eq_getElem_cons (show d.length-(k+1)<d.length by omega),Fp,show d.length-(k+1)+1=d.length-k by omega]
 congr 2
 omega
theorem Kx {d:List Int} (h:0<prd d):∀ k,k≤d.length→1≤J0 d k
 | 0,_=>by rw [Kj];omega
 | k+1,hk=>by
  rw [J5 d k hk]
  have:=Kx h k (by omega)
  have hs:=(Gp h k).1
  have:1*1≤Fw d k*J0 d k:=Int.mul_le_mul hs this (by omega) (by omega)
  omega
theorem strd_mono {d:List Int} (h:0<prd d):∀ n k,k+n=d.length→J0 d k≤Fp d
 | 0,k,hk=>by rw [show k=d.length by omega,strd_all];omega
 | n+1,k,hk=>by
  have:=strd_mono h n (k+1) (by omega)
  rw [J5 d k (by omega)] at this
  have hs:=(Gp h k).1
  have hp:=Kx h k (by omega)
  have:1*J0 d k≤Fw d k*J0 d k:=Int.mul_le_mul_of_nonneg_right hs (by omega)
  omega
theorem strd_le {d:List Int} (h:0<prd d) (k:Nat) (hk:k≤d.length):J0 d k≤prd d:=by
 rw [(Gs h).1];exact strd_mono h (d.length-k) k (by omega)
def strL (d:List Int):List Int:=Gg d.length (fun i=>J0 d (d.length-1-i))
theorem strides (d:List Int) (h:0<prd d):f179 d=some (strL d):=by
 obtain ⟨_,_,hl⟩:=Gs h
 have hr:=F5 d
 unfold f179
 rw [Gw,show decide (prd d>0)=true by simpa using h]
 simp only [Bh,Bool.not_true,cond_false]
 rw [D4]
 have H:∀ x:Int×Int×List Int,(∃ k:Nat,k≤d.length∧x=(J0 d k,(d.length:Int)-1-k,Gg d.length (fun i=>if d.length-1-i<k then J0 d (d.length-1-i) else 0)))→
   (∃ z,(∀ go,f179_l1 d go x.1 x.2.1 x.2.2=some z)∧z=strL d)∨
   (∃ y:Int×Int×List Int,(∀ go,f179_l1 d go x.1 x.2.1 x.2.2=go y)∧(∃ k:Nat,k≤d.length∧y=(J0 d k,(d.length:Int)-1-k,Gg d.length (fun i=>if d.length-1-i<k then J0 d (d.length-1-i) else 0)))∧(y.2.1+1).toNat<(x.2.1+1).toNat):=by
  rintro _ ⟨k,hk,rfl⟩
  by_cases hlt:k<d.length
  ·right
   refine ⟨(J0 d (k+1),(d.length:Int)-1-((k+1:Nat):Int),Gg d.length (fun i=>if d.length-1-i<k+1 then J0 d (d.length-1-i) else 0)),fun go=>?_,⟨k+1,hlt,rfl⟩,by simp only;omega⟩
   unfold f179_l1
   simp only [Gn]
   rw [show decide ((d.length:Int)-1-(k:Int)≥0)=true by simp;omega]
   simp only [cond_true]
   rw [D4,D4]
   rw [show (d.length:Int)-1-(k:Int)=((d.length-1-k:Nat):Int) by omega,Kf d k hlt,Int.toNat_natCast,Kw]
   have hs:=J5 d k hlt
   have hb1:=Kx h (k+1) hlt
   have hb2:=strd_le h (k+1) hlt
   rw [Int.mul_comm,← hs,Fl (n:=J0 d (k+1)) (by omega) (by omega),Fl]
   congr 1
   refine Prod.ext rfl (Prod.ext (by simp only;omega) (Gh _ _ _ (fun i hi=>?_)))
   by_cases he:i=d.length-1-k
   ·rw [if_pos he,iPo,show d.length-1-i=k by omega]
   ·rw [if_neg he]
    by_cases h2:d.length-1-i<k
    ·rw [if_pos h2,iPo]
    ·rw [if_neg h2,iNo]
  ·left
   have:k=d.length:=by omega
   subst this
   refine ⟨_,fun go=>?_,rfl⟩
   unfold f179_l1
   simp only
   rw [show decide ((d.length:Int)-1-(d.length:Int)≥0)=false by simp;omega]
   simp only [cond_false,Option.some.injEq]
   exact Gh _ _ _ (fun i hi=>by rw [iPo])
 have e0:((1:Int),IntKind.i64.wrap ((d.length:Int)-1),List.replicate (Int.toNat (d.length:Int)) (0:Int))=(J0 d 0,(d.length:Int)-1-((0:Nat):Int),Gg d.length (fun i=>if d.length-1-i<0 then J0 d (d.length-1-i) else 0)):=by
  rw [Kj,Fl,Int.toNat_natCast,tab_rep]
  refine Prod.ext rfl (Prod.ext (by simp) (Gh _ _ _ (fun i hi=>by rw [iNo])))
 rw [e0]
 obtain ⟨z,e,rfl⟩:=Gd (B:=fun go (x:Int×Int×List Int)=>f179_l1 d go x.1 x.2.1 x.2.2) _ (fun x=>(x.2.1+1).toNat) _ H _ ⟨0,Nat.zero_le _,rfl⟩ (by simp only;omega)
 rw [e]
 rfl
theorem side_ok (d:List Int) (k:Nat) (hl:d.length≤4096) (hk:k≤4096):f222 d (k:Int)=some (Fw d k):=by
 unfold f222
 by_cases h:k<d.length
 ·rw [show decide ((k:Int)≥(d.length:Int))=false by simp;omega]
  simp only [cond_false]
  rw [Fl (n:=(d.length:Int)-1) (by omega) (by omega),Fl,D4,show (d.length:Int)-1-(k:Int)=((d.length-1-k:Nat):Int) by omega,Kf d k h]
 ·rw [show decide ((k:Int)≥(d.length:Int))=true by simp;omega]
  simp only [cond_true]
  unfold Fw
  rw [if_neg h]
structure Joined (a b d:List Int):Prop where
 pa:0<prd a
 pb:0<prd b
 pd:0<prd d
 len:d.length=max a.length b.length
 le:∀ k,k<d.length→Fw d k=max (Fw a k) (Fw b k)
 ok:∀ k,k<d.length→Fw a k=Fw b k∨Fw a k=1∨Fw b k=1
def rst (big:List Int) (v:Int):Nat→Int
 | 0=>v
 | k+1=>rst big v k/Fw big k
def accS (d big:List Int) (v:Int):Nat→Int
 | 0=>0
 | k+1=>accS d big v k+(if Fw d k>1 then rst big v k%Fw big k*J0 d k else 0)
def spX (d big:List Int) (v:Nat):Int:=accS d big v d.length
structure Fits (d big:List Int):Prop where
 pd:0<prd d
 pb:0<prd big
 len:d.length≤big.length
 eq:∀ k,k<d.length→1<Fw d k→Fw big k=Fw d k
theorem rst_range {big:List Int} (h:0<prd big) (v:Int) (v0:0≤v) (v1:v≤4096):∀ k,0≤rst big v k∧rst big v k≤4096
 | 0=>⟨v0,v1⟩
 | k+1=>by
  obtain ⟨a,b⟩:=rst_range h v v0 v1 k
  have hs:=(Gp h k).1
  simp only [rst]
  exact ⟨Int.ediv_nonneg a (by omega),Int.le_trans (Int.ediv_le_self _ a) b⟩
theorem Ka {d big:List Int} (h:Fits d big) (v:Int) (v0:0≤v) (v1:v≤4096):∀ k,k≤d.length→0≤accS d big v k∧accS d big v k<J0 d k
 | 0,_=>by simp only [accS,Kj];omega
 | k+1,hk=>by
  obtain ⟨a,b⟩:=Ka h v v0 v1 k (by omega)
  have hp:=Kx h.pd k (by omega)
  have hs:=(Gp h.pd k).1
  rw [J5 d k hk]
  simp only [accS]
  by_cases h1:Fw d k>1
  ·rw [if_pos h1,h.eq k hk h1]
   have m0:=Int.emod_nonneg (rst big v k) (show Fw d k≠0 by omega)
   have m1:=Int.emod_lt_of_pos (rst big v k) (show 0<Fw d k by omega)
   have p0:0≤rst big v k%Fw d k*J0 d k:=Int.mul_nonneg m0 (by omega)
   have p1:rst big v k%Fw d k*J0 d k≤(Fw d k-1)*J0 d k:=Int.mul_le_mul_of_nonneg_right (by omega) (by omega)
   rw [Int.sub_mul,Int.one_mul] at p1
   omega
  ·rw [if_neg h1,show Fw d k=1 by omega]
   omega
theorem Kk {d big:List Int} (h:Fits d big) (v:Nat) (hv:v≤4096):0≤spX d big v∧spX d big v<prd d:=by
 have:=Ka h (v:Int) (by omega) (by omega) d.length (Nat.le_refl _)
 rw [strd_all,← (Gs h.pd).1] at this
 exact this
theorem inner {d big:List Int} (h:Fits d big) (l:List Int) (v:Nat) (hv:v<l.length) (hv2:v≤4096) (h0:l.set v 0=l) :
  Fq (fun go (x:Int×Int×List Int)=>f196_l12 d big (strL d) v go x.1 x.2.1 x.2.2) Fv ((v:Int),IntKind.i64.wrap ((big.length:Int)-1),l)=some (l.set v (spX d big v)):=by
 have hd4:=(Gs h.pd).2.2
 have hb4:=(Gs h.pb).2.2
 have hle:=h.len
 have hr:=F5 d
 have H:∀ x:Int×Int×List Int,(∃ k:Nat,k≤d.length∧x=(rst big v k,(big.length:Int)-1-k,l.set v (accS d big v k)))→
   (∃ z,(∀ go,f196_l12 d big (strL d) v go x.1 x.2.1 x.2.2=some z)∧z=l.set v (spX d big v))∨
   (∃ y:Int×Int×List Int,(∀ go,f196_l12 d big (strL d) v go x.1 x.2.1 x.2.2=go y)∧(∃ k:Nat,k≤d.length∧y=(rst big v k,(big.length:Int)-1-k,l.set v (accS d big v k)))∧(y.2.1+1).toNat<(x.2.1+1).toNat):=by
  rintro _ ⟨k,hk,rfl⟩
  unfold f196_l12
  simp only
  have hw:IntKind.i64.wrap ((big.length:Int)-(d.length:Int))=(big.length:Int)-(d.length:Int):=Fl (by omega) (by omega)
  rw [hw]
  by_cases hlt:k<d.length
  ·right
   refine ⟨(rst big v (k+1),(big.length:Int)-1-((k+1:Nat):Int),l.set v (accS d big v (k+1))),fun go=>?_,⟨k+1,hlt,rfl⟩,by simp only;omega⟩
   rw [show decide ((big.length:Int)-1-(k:Int)≥(big.length:Int)-(d.length:Int))=true by simp;omega]
   simp only [cond_true]
   have ib:(big.length:Int)-1-(k:Int)=((big.length-1-k:Nat):Int):=by omega
   have id:IntKind.i64.wrap (((big.length-1-k:Nat):Int)-((big.length:Int)-(d.length:Int)))=((d.length-1-k:Nat):Int):=by
    rw [Fl];omega
   obtain ⟨r0,r1⟩:=rst_range h.pb (v:Int) (by omega) (by omega) k
   obtain ⟨a0,a1⟩:=Ka h (v:Int) (by omega) (by omega) k (by omega)
   obtain ⟨b0,b1⟩:=Ka h (v:Int) (by omega) (by omega) (k+1) hlt
   have sl:=strd_le h.pd k (by omega)
   have sl1:=strd_le h.pd (k+1) hlt
   have sb:=Gp h.pb k
   have hj:f196_j13 d big (strL d) v (rst big v k) ((big.length-1-k:Nat):Int) (l.set v (accS d big v k))=some (l.set v (accS d big v (k+1))):=by
    unfold f196_j13
    rw [hw,id,D4,Kf d k hlt]
    by_cases h1:Fw d k>1
    ·rw [show decide (Fw d k>1)=true by simpa using h1]
     simp only [cond_true,List.length_set]
     rw [Kf big k (by omega),D4,D4,D4,D4 (by unfold strL;rw [Gn];omega),D4]
     rw [Int.toNat_natCast,Gj _ _ _ (by simpa using hv),List.getElem_set_self,List.set_set]
     unfold strL
     rw [rd_tab _ _ _ _ (by omega),show d.length-1-(d.length-1-k)=k by omega,Int.tmod_eq_emod_of_nonneg r0]
     have e:accS d big v (k+1)=accS d big v k+rst big v k%Fw big k*J0 d k:=by simp only [accS];rw [if_pos h1]
     rw [e] at b0 b1 ⊢
     have m0:=Int.emod_nonneg (rst big v k) (show Fw big k≠0 by omega)
     have sp:=Kx h.pd k (by omega)
     have p0:0≤rst big v k%Fw big k*J0 d k:=Int.mul_nonneg m0 (by omega)
     generalize rst big v k%Fw big k*J0 d k=P at *
     rw [Fl (n:=P) (by omega) (by omega),Fl]
    ·rw [show decide (Fw d k>1)=false by simpa using h1]
     simp only [cond_false,accS]
     rw [if_neg h1,Int.add_zero]
   rw [ib,hj]
   simp only [Bh]
   rw [D4,Kf big k (by omega),D4,Int.tdiv_eq_ediv_of_nonneg r0]
   have q0:=Int.ediv_nonneg r0 (show 0≤Fw big k by omega)
   have q1:=Int.ediv_le_self (Fw big k) r0
   rw [Fl (n:=rst big v k/Fw big k) (by omega) (by omega),Fl]
   congr 1
   exact Prod.ext rfl (Prod.ext (by simp only;omega) rfl)
  ·left
   have:k=d.length:=by omega
   subst this
   refine ⟨_,fun go=>?_,rfl⟩
   rw [show decide ((big.length:Int)-1-(d.length:Int)≥(big.length:Int)-(d.length:Int))=false by simp;omega]
   rfl
 have e0:((v:Int),IntKind.i64.wrap ((big.length:Int)-1),l)=(rst big v 0,(big.length:Int)-1-((0:Nat):Int),l.set v (accS d big v 0)):=by
  rw [Fl]
  refine Prod.ext rfl (Prod.ext (by simp) ?_)
  simp only [accS]
  exact h0.symm
 rw [e0]
 obtain ⟨z,e,rfl⟩:=Gd (B:=fun go (x:Int×Int×List Int)=>f196_l12 d big (strL d) v go x.1 x.2.1 x.2.2) _ (fun x=>(x.2.1+1).toNat) _ H _ ⟨0,Nat.zero_le _,rfl⟩ (by simp only;omega)
 exact e
theorem spread_ok {d big:List Int} (h:Fits d big):f196 d big=some (Gg (prd big).toNat (spX d big)):=by
 have hb:=F5 big
 unfold f196
 rw [strides d h.pd,PlB.size_ok]
 simp only [Bh]
 rw [D4]
 obtain ⟨N,hN⟩:∃ N:Nat,prd big=(N:Int):=⟨(prd big).toNat,by omega⟩
 rw [hN,Int.toNat_natCast]
 have H:∀ x:Int×List Int,(∃ k:Nat,k≤N∧x=((k:Int),Gg N (fun i=>if i<k then spX d big i else 0)))→
   (∃ z,(∀ go,f196_l9 d big (strL d) (N:Int) go x.1 x.2=some z)∧z=Gg N (spX d big))∨
   (∃ y:Int×List Int,(∀ go,f196_l9 d big (strL d) (N:Int) go x.1 x.2=go y)∧(∃ k:Nat,k≤N∧y=((k:Int),Gg N (fun i=>if i<k then spX d big i else 0)))∧((N:Int)-y.1).toNat<((N:Int)-x.1).toNat):=by
  rintro _ ⟨k,hk,rfl⟩
  unfold f196_l9
  simp only [Int.toNat_natCast,List.length_replicate]
  by_cases hlt:k<N
  ·right
   refine ⟨(((k+1:Nat):Int),Gg N (fun i=>if i<k+1 then spX d big i else 0)),fun go=>?_,⟨k+1,hlt,rfl⟩,by simp only;omega⟩
   rw [show decide ((k:Int)<(N:Int))=true by simpa using hlt]
   simp only [cond_true]
   rw [inner h _ k (by rw [Gn];exact hlt) (by omega) (by
    rw [Kw]
    refine Gh _ _ _ (fun i hi=>?_)
    by_cases hik:i=k
    ·rw [if_pos hik,iNo]
    ·rw [if_neg hik])]
   simp only [Bh]
   rw [Fl,Kw]
   congr 1
   refine Prod.ext rfl (Gh _ _ _ (fun i hi=>?_))
   by_cases hik:i=k
   ·rw [if_pos hik,iPo,hik]
   ·rw [if_neg hik]
    by_cases h2:i<k
    ·rw [if_pos h2,iPo]
    ·rw [if_neg h2,iNo]
  ·left
   have:k=N:=by omega
   subst this
   refine ⟨_,fun go=>?_,rfl⟩
   rw [show decide ((k:Int)<(k:Int))=false by simp]
   simp only [cond_false,Option.some.injEq]
   exact Gh _ _ _ (fun i hi=>by rw [if_pos hi])
 have e0:((0:Int),List.replicate N (0:Int))=(((0:Nat):Int),Gg N (fun i=>if i<0 then spX d big i else 0)):=by
  rw [tab_rep]
  exact Prod.ext rfl (Gh _ _ _ (fun i hi=>by rw [iNo]))
 rw [e0]
 obtain ⟨z,e,rfl⟩:=Gd (B:=fun go (x:Int×List Int)=>f196_l9 d big (strL d) (N:Int) go x.1 x.2) _ (fun x=>((N:Int)-x.1).toNat) _ H _ ⟨0,Nat.zero_le _,rfl⟩ (by simp only;omega)
 rw [e]
 rfl
theorem Joined.fa {a b d:List Int} (h:Joined a b d):Fits a d:=⟨h.pa,h.pd,by have:=h.len;omega,fun k hk h1=>by
 have hl:=h.len
 have e:=h.le k (by omega)
 have o:=h.ok k (by omega)
 have pb:=(Gp h.pb k).1
 omega⟩
theorem Joined.fb {a b d:List Int} (h:Joined a b d):Fits b d:=⟨h.pb,h.pd,by have:=h.len;omega,fun k hk h1=>by
 have hl:=h.len
 have e:=h.le k (by omega)
 have o:=h.ok k (by omega)
 have pa:=(Gp h.pa k).1
 omega⟩
def addV (a b:Int):Int:=sat (a+b)
theorem addF_ok (a b:Int) (a0 : -9223372036854775808≤a) (a1:a<9223372036854775808) (b0 : -9223372036854775808≤b) (b1:b<9223372036854775808):f167 a b=some (addV a b):=by
 unfold f167 addV sat
 have hw:IntKind.i64.wrap (a+b)=if a+b≥9223372036854775808 then a+b-18446744073709551616 else if a+b < -9223372036854775808 then a+b+18446744073709551616 else a+b:=by
  rw [wi]
  split <;> split <;> (try split) <;> omega
 have hj:f167_j1 a b=some (if (a<0↔b<0)∧¬(IntKind.i64.wrap (a+b)<0↔a<0) then Sum.inl () else Sum.inr ()):=by
  unfold f167_j1
  by_cases ha:a<0 <;> by_cases hb:b<0
  ·rw [show (!(decide (a<0)==decide (b<0)))=false by simp [ha,hb]]
   by_cases hc:IntKind.i64.wrap (a+b)<0
   ·rw [show (decide (IntKind.i64.wrap (a+b)<0)==decide (a<0))=true by simp [ha,hc],if_neg (by simp [ha,hc])];rfl
   ·rw [show (decide (IntKind.i64.wrap (a+b)<0)==decide (a<0))=false by simp [ha,hc],if_pos (by simp [ha,hb,hc])];rfl
  ·rw [show (!(decide (a<0)==decide (b<0)))=true by simp [ha,hb],if_neg (by simp [ha,hb])];rfl
  ·rw [show (!(decide (a<0)==decide (b<0)))=true by simp [ha,hb],if_neg (by simp [ha,hb])];rfl
  ·rw [show (!(decide (a<0)==decide (b<0)))=false by simp [ha,hb]]
   by_cases hc:IntKind.i64.wrap (a+b)<0
   ·rw [show (decide (IntKind.i64.wrap (a+b)<0)==decide (a<0))=false by simp [ha,hc],if_pos (by simp [ha,hb,hc])];rfl
   ·rw [show (decide (IntKind.i64.wrap (a+b)<0)==decide (a<0))=true by simp [ha,hc],if_neg (by simp [ha,hc])];rfl
 rw [hj]
 simp only [Bh]
 by_cases hc:(a<0↔b<0)∧¬(IntKind.i64.wrap (a+b)<0↔a<0)
 ·rw [if_pos hc]
  simp only [Fu]
  rw [hw] at hc
  by_cases ha:a<0
  ·rw [show decide (a<0)=true by simpa using ha]
   simp only [cond_true,Option.some.injEq]
   split at hc <;> (try split at hc) <;> omega
  ·rw [show decide (a<0)=false by simpa using ha]
   simp only [cond_false,Option.some.injEq]
   split at hc <;> (try split at hc) <;> omega
 ·rw [if_neg hc]
  simp only [F4,Option.some.injEq]
  rw [hw] at hc ⊢
  split at hc <;> (try split at hc) <;> omega
theorem inI_get {l:List Int} (h:inI l) (i:Nat) (hi:i<l.length) : -9223372036854775808≤rd (0:Int) l (i:Int)∧rd (0:Int) l (i:Int)<9223372036854775808:=by
 rw [Gj _ _ _ hi]
 exact h _ (List.getElem_mem hi)
theorem rhe_minus (S:Int):rhe (-S)=-rhe S:=by
 unfold rhe
 split <;> split <;> omega
def mulX (a b:Int):Int:=sat (rhe (a*b))
theorem sizeF_ok (v:Int) (h0 : -9223372036854775808≤v) (h1:v<9223372036854775808):f198 v=some (if v<0 then -v else v):=by
 unfold f198
 by_cases h:v<0
 ·rw [show decide (v<0)=true by simpa using h,if_pos h]
  simp only [cond_true,wu,Option.some.injEq]
  omega
 ·rw [show decide (v<0)=false by simpa using h,if_neg h]
  simp only [cond_false,wu,Option.some.injEq]
  omega
theorem held_ok (R:Int) (s:Bool) (h0:0≤R) (h1:R≤85070591730234615865843651857942052864):f200 (R/18446744073709551616) (R%18446744073709551616) s=some (sat (if s then -R else R)):=by
 unfold f200 f200_j1
 cases s
 ·simp only [cond_false,Bh,Bool.false_eq_true,if_false]
  unfold sat
  by_cases h2:R/18446744073709551616>0
  ·rw [show decide (R/18446744073709551616>0)=true by simpa using h2,iPo];rfl
  ·rw [show decide (R/18446744073709551616>0)=false by simpa using h2]
   by_cases h3:R%18446744073709551616≥9223372036854775808
   ·rw [show decide (R%18446744073709551616≥9223372036854775808)=true by simpa using h3,iPo];rfl
   ·rw [show decide (R%18446744073709551616≥9223372036854775808)=false by simpa using h3,iNo,iNo]
    simp only [cond_false,Option.some.injEq]
    rw [Fl]
    omega
 ·simp only [cond_true,if_true]
  unfold sat
  by_cases h2:R/18446744073709551616>0
  ·rw [show decide (R/18446744073709551616>0)=true by simpa using h2,iNo,iPo];rfl
  ·rw [show decide (R/18446744073709551616>0)=false by simpa using h2]
   by_cases h3:R%18446744073709551616≥9223372036854775808
   ·rw [show decide (R%18446744073709551616≥9223372036854775808)=true by simpa using h3,iNo]
    simp only [cond_false,Bh,cond_true,Option.some.injEq]
    split <;> omega
   ·rw [show decide (R%18446744073709551616≥9223372036854775808)=false by simpa using h3,iNo,iNo]
    simp only [cond_false,Bh,Option.some.injEq]
    rw [Fl (n:=R%18446744073709551616) (by omega) (by omega),Fl]
    omega
theorem roundF_ok (P:Int) (h0:0≤P) (h1:P≤85070591730234615865843651857942052864) :
  ∃ x y:Int,f169_j2 (P/18446744073709551616,P%18446744073709551616)=some (x,y)∧y=rhe P/18446744073709551616∧x=rhe P%18446744073709551616:=by
 have hor:Ft IntKind.u64 (fun p q=>p||| q) (IntKind.u64.wrap (P/18446744073709551616*2 ^ min (Int.toNat (32:Int)) (IntKind.bits IntKind.u64))) (P%18446744073709551616/4294967296)=P/4294967296%18446744073709551616:=by
  rw [show ((2:Int) ^ min (Int.toNat (32:Int)) (IntKind.bits IntKind.u64))=4294967296 from rfl,wu,show P/18446744073709551616*4294967296%18446744073709551616=P/18446744073709551616%4294967296*4294967296 by omega,or32 _ _ (by omega) (by omega) (by omega) (by omega)]
  omega
 have hand:Ft IntKind.u64 (fun p q=>p&&& q) (P%18446744073709551616) 4294967295=P%4294967296:=by rw [and32 _ (by omega) (by omega)];omega
 have hodd:Ft IntKind.u64 (fun p q=>p&&& q) (P/4294967296%18446744073709551616) 1=P/4294967296%2:=by rw [and1 _ (by omega) (by omega)];omega
 have hj3:f169_j3 (P/18446744073709551616,P%18446744073709551616)=some (decide (P%4294967296>2147483648∨(P%4294967296=2147483648∧P/4294967296%2=1))):=by
  unfold f169_j3
  simp only
  rw [hand,sh32u,hor,hodd]
  by_cases c1:P%4294967296>2147483648
  ·rw [show decide (P%4294967296>2147483648)=true by simpa using c1]
   simp only [cond_true,Option.some.injEq]
   symm;rw [decide_eq_true_iff];exact .inl c1
  ·rw [show decide (P%4294967296>2147483648)=false by simpa using c1]
   simp only [cond_false]
   by_cases c2:P%4294967296=2147483648
   ·rw [show (P%4294967296==2147483648)=true by simpa using c2]
    simp only [cond_true,Option.some.injEq]
    rw [Bool.eq_iff_iff,beq_iff_eq,decide_eq_true_iff]
    omega
   ·rw [show (P%4294967296==2147483648)=false by simpa using c2]
    simp only [cond_false,Option.some.injEq]
    symm;rw [decide_eq_false_iff_not];omega
 unfold f169_j2
 rw [hj3]
 simp only [Bh]
 rw [sh32u,sh32u,hor]
 by_cases c:P%4294967296>2147483648∨(P%4294967296=2147483648∧P/4294967296%2=1)
 ·have hr:rhe P=P/4294967296+1:=by unfold rhe;rw [if_pos c]
  rw [show decide (P%4294967296>2147483648∨(P%4294967296=2147483648∧P/4294967296%2=1))=true by rw [decide_eq_true_iff];exact c]
  simp only [cond_true]
  rw [add_ok _ _ _ (by omega) (by omega) (by omega) (by omega)]
  simp only [Bh,wu]
  refine ⟨_,_,rfl,?_,?_⟩
  ·rw [hr];omega
  ·rw [hr];omega
 ·have hr:rhe P=P/4294967296:=by unfold rhe;rw [if_neg c]
  rw [show decide (P%4294967296>2147483648∨(P%4294967296=2147483648∧P/4294967296%2=1))=false by rw [decide_eq_false_iff_not];exact c]
  simp only [cond_false]
  refine ⟨_,_,rfl,?_,?_⟩
  ·rw [hr];omega
  ·rw [hr]
theorem mulF_ok (a b:Int) (a0 : -9223372036854775808≤a) (a1:a<9223372036854775808) (b0 : -9223372036854775808≤b) (b1:b<9223372036854775808):f169 a b=some (mulX a b):=by
 have key:∀ x y:Int,0≤x→x≤9223372036854775808→0≤y→y≤9223372036854775808→0≤x*y∧x*y≤85070591730234615865843651857942052864:=fun x y h0 h1 g0 g1=>⟨Int.mul_nonneg h0 g0,Int.mul_le_mul h1 g1 g0 (by decide)⟩
 have fin:∀ (x y:Int) (s:Bool),0≤x→x≤9223372036854775808→0≤y→y≤9223372036854775808→(if s then -(x*y) else x*y)=a*b→
   (Ey (f197 x y) fun r3=>Ey (f169_j2 r3) fun z6=>Ey (f200 z6.2 z6.1 s) fun r9=>some r9)=some (mulX a b):=fun x y s x0 x1 y0 y1 hs=>by
  obtain ⟨k0,k1⟩:=key x y x0 x1 y0 y1
  rw [mul64_ok _ _ (by omega) (by omega) (by omega) (by omega)]
  simp only [Bh]
  obtain ⟨p,q,e,hq,hp⟩:=roundF_ok (x*y) k0 k1
  rw [e]
  simp only [Bh]
  have hr:0≤rhe (x*y)∧rhe (x*y)≤85070591730234615865843651857942052864:=by unfold rhe;split <;> omega
  rw [hq,hp,held_ok _ _ hr.1 hr.2]
  simp only [Bh,mulX]
  rw [← hs]
  cases s
  ·rfl
  ·simp only [if_true];rw [rhe_minus]
 unfold f169
 rw [sizeF_ok a a0 a1,sizeF_ok b b0 b1]
 simp only [Bh]
 by_cases ha:a<0 <;> by_cases hb:b<0
 ·rw [if_pos ha,if_pos hb,show (!(decide (a<0)==decide (b<0)))=false by simp [ha,hb]]
  exact fin (-a) (-b) false (by omega) (by omega) (by omega) (by omega) (by rw [Int.neg_mul_neg];rfl)
 ·rw [if_pos ha,if_neg hb,show (!(decide (a<0)==decide (b<0)))=true by simp [ha,hb]]
  exact fin (-a) b true (by omega) (by omega) (by omega) (by omega) (by rw [Int.neg_mul,Int.neg_neg];rfl)
 ·rw [if_neg ha,if_pos hb,show (!(decide (a<0)==decide (b<0)))=true by simp [ha,hb]]
  exact fin a (-b) true (by omega) (by omega) (by omega) (by omega) (by rw [Int.mul_neg,Int.neg_neg];rfl)
 ·rw [if_neg ha,if_neg hb,show (!(decide (a<0)==decide (b<0)))=false by simp [ha,hb]]
  exact fin a b false (by omega) (by omega) (by omega) (by omega) rfl
theorem Ga {t:List Int×List Int} (h:Fz t=true):0<prd t.1∧(t.2.length:Int)=prd t.1∧t.1.length≤4∧t.2.length≤4096:=by
 unfold Fz at h
 simp at h
 have:=F5 t.1
 exact ⟨h.1,h.2,G3 h.1,by omega⟩
theorem add_of (a b:List Int×List Int) (d:List Int) (ia:inI a.2) (ib:inI b.2) (hga:Fz a=true) (hgb:Fz b=true) (hj:f195 a.1 b.1=some (0,d)) (hd:Joined a.1 b.1 d) :
  f138 a b=some (0,d,Gg (prd d).toNat (fun i=>addV (rd (0:Int) a.2 (spX a.1 d i)) (rd (0:Int) b.2 (spX b.1 d i)))):=by
 have hg:Fz a=true∧Fz b=true:=⟨hga,hgb⟩
 unfold f138
 have hj2:f166_167_j2 (a.1,a.2) (b.1,b.2)=some (Sum.inl ()):=by
  unfold f166_167_j2 f166_167_j3
  rw [show (a.1,a.2)=a from rfl,show (b.1,b.2)=b from rfl,Gv,Gv,hga,hgb]
  rfl
 unfold f166_167
 rw [hj2]
 simp only [Bh,Fu]
 rw [hj]
 simp only [Bh]
 rw [show ((0:Int) != 0)=false from rfl]
 simp only [cond_false]
 rw [new_ok,if_pos hd.pd,spread_ok hd.fa,spread_ok hd.fb]
 simp only [Bh]
 have hr:=F5 d
 obtain ⟨N,hN⟩:∃ N:Nat,prd d=(N:Int):=⟨(prd d).toNat,by omega⟩
 rw [hN,Int.toNat_natCast]
 have ga:(a.2.length:Int)=prd a.1:=by have:=hg.1;unfold Fz at this;simp at this;exact this.2
 have gb:(b.2.length:Int)=prd b.1:=by have:=hg.2;unfold Fz at this;simp at this;exact this.2
 have H:∀ x:Int×List Int,(∃ k:Nat,k≤N∧x=((k:Int),Gg N (fun i=>if i<k then addV (rd (0:Int) a.2 (spX a.1 d i)) (rd (0:Int) b.2 (spX b.1 d i)) else 0)))→
   (∃ z,(∀ go,f166_167_l4 (a.1,a.2) (b.1,b.2) (0,d,List.replicate N 0) (Gg N (spX a.1 d)) (Gg N (spX b.1 d)) go x.1 x.2=some z)∧z=Gg N (fun i=>addV (rd (0:Int) a.2 (spX a.1 d i)) (rd (0:Int) b.2 (spX b.1 d i))))∨
   (∃ y:Int×List Int,(∀ go,f166_167_l4 (a.1,a.2) (b.1,b.2) (0,d,List.replicate N 0) (Gg N (spX a.1 d)) (Gg N (spX b.1 d)) go x.1 x.2=go y)∧(∃ k:Nat,k≤N∧y=((k:Int),Gg N (fun i=>if i<k then addV (rd (0:Int) a.2 (spX a.1 d i)) (rd (0:Int) b.2 (spX b.1 d i)) else 0)))∧((N:Int)-y.1).toNat<((N:Int)-x.1).toNat):=by
  rintro _ ⟨k,hk,rfl⟩
  unfold f166_167_l4
  simp only [List.length_replicate,Gn]
  by_cases hlt:k<N
  ·right
   refine ⟨(((k+1:Nat):Int),Gg N (fun i=>if i<k+1 then addV (rd (0:Int) a.2 (spX a.1 d i)) (rd (0:Int) b.2 (spX b.1 d i)) else 0)),fun go=>?_,⟨k+1,hlt,rfl⟩,by simp only;omega⟩
   rw [show decide ((k:Int)<(N:Int))=true by simpa using hlt]
   simp only [cond_true]
   obtain ⟨x0,x1⟩:=Kk hd.fa k (by omega)
   obtain ⟨y0,y1⟩:=Kk hd.fb k (by omega)
   rw [rd_tab _ _ _ _ hlt,rd_tab _ _ _ _ hlt,D4,D4,D4,D4]
   obtain ⟨xn,hxn⟩:=Int.eq_ofNat_of_zero_le x0
   obtain ⟨yn,hyn⟩:=Int.eq_ofNat_of_zero_le y0
   have qa:=inI_get ia xn (by omega)
   have qb:=inI_get ib yn (by omega)
   rw [← hxn] at qa
   rw [← hyn] at qb
   rw [addF_ok _ _ qa.1 qa.2 qb.1 qb.2]
   simp only [Bh]
   rw [D4,Fl,Int.toNat_natCast,Kw]
   congr 1
   refine Prod.ext rfl (Gh _ _ _ (fun i hi=>?_))
   by_cases hik:i=k
   ·rw [if_pos hik,iPo,hik]
   ·rw [if_neg hik]
    by_cases h2:i<k
    ·rw [if_pos h2,iPo]
    ·rw [if_neg h2,iNo]
  ·left
   have:k=N:=by omega
   subst this
   refine ⟨_,fun go=>?_,rfl⟩
   rw [show decide ((k:Int)<(k:Int))=false by simp]
   simp only [cond_false,Option.some.injEq]
   exact Gh _ _ _ (fun i hi=>by rw [if_pos hi])
 have e0:((0:Int),List.replicate N (0:Int))=(((0:Nat):Int),Gg N (fun i=>if i<0 then addV (rd (0:Int) a.2 (spX a.1 d i)) (rd (0:Int) b.2 (spX b.1 d i)) else 0)):=by
  rw [tab_rep]
  exact Prod.ext rfl (Gh _ _ _ (fun i hi=>by rw [iNo]))
 rw [e0]
 obtain ⟨z,e,rfl⟩:=Gd (B:=fun go (x:Int×List Int)=>f166_167_l4 (a.1,a.2) (b.1,b.2) (0,d,List.replicate N 0) (Gg N (spX a.1 d)) (Gg N (spX b.1 d)) go x.1 x.2) _ (fun x=>((N:Int)-x.1).toNat) _ H _ ⟨0,Nat.zero_le _,rfl⟩ (by simp only;omega)
 rw [e]
 rfl
theorem mul_of (a b:List Int×List Int) (d:List Int) (ia:inI a.2) (ib:inI b.2) (hga:Fz a=true) (hgb:Fz b=true) (hj:f195 a.1 b.1=some (0,d)) (hd:Joined a.1 b.1 d) :
  f140 a b=some (0,d,Gg (prd d).toNat (fun i=>mulX (rd (0:Int) a.2 (spX a.1 d i)) (rd (0:Int) b.2 (spX b.1 d i)))):=by
 have hg:Fz a=true∧Fz b=true:=⟨hga,hgb⟩
 unfold f140
 have hj2:f166_169_j2 (a.1,a.2) (b.1,b.2)=some (Sum.inl ()):=by
  unfold f166_169_j2 f166_169_j3
  rw [show (a.1,a.2)=a from rfl,show (b.1,b.2)=b from rfl,Gv,Gv,hga,hgb]
  rfl
 unfold f166_169
 rw [hj2]
 simp only [Bh,Fu]
 rw [hj]
 simp only [Bh]
 rw [show ((0:Int) != 0)=false from rfl]
 simp only [cond_false]
 rw [new_ok,if_pos hd.pd,spread_ok hd.fa,spread_ok hd.fb]
 simp only [Bh]
 have hr:=F5 d
 obtain ⟨N,hN⟩:∃ N:Nat,prd d=(N:Int):=⟨(prd d).toNat,by omega⟩
 rw [hN,Int.toNat_natCast]
 have ga:(a.2.length:Int)=prd a.1:=by have:=hg.1;unfold Fz at this;simp at this;exact this.2
 have gb:(b.2.length:Int)=prd b.1:=by have:=hg.2;unfold Fz at this;simp at this;exact this.2
 have H:∀ x:Int×List Int,(∃ k:Nat,k≤N∧x=((k:Int),Gg N (fun i=>if i<k then mulX (rd (0:Int) a.2 (spX a.1 d i)) (rd (0:Int) b.2 (spX b.1 d i)) else 0)))→
   (∃ z,(∀ go,f166_169_l4 (a.1,a.2) (b.1,b.2) (0,d,List.replicate N 0) (Gg N (spX a.1 d)) (Gg N (spX b.1 d)) go x.1 x.2=some z)∧z=Gg N (fun i=>mulX (rd (0:Int) a.2 (spX a.1 d i)) (rd (0:Int) b.2 (spX b.1 d i))))∨
   (∃ y:Int×List Int,(∀ go,f166_169_l4 (a.1,a.2) (b.1,b.2) (0,d,List.replicate N 0) (Gg N (spX a.1 d)) (Gg N (spX b.1 d)) go x.1 x.2=go y)∧(∃ k:Nat,k≤N∧y=((k:Int),Gg N (fun i=>if i<k then mulX (rd (0:Int) a.2 (spX a.1 d i)) (rd (0:Int) b.2 (spX b.1 d i)) else 0)))∧((N:Int)-y.1).toNat<((N:Int)-x.1).toNat):=by
  rintro _ ⟨k,hk,rfl⟩
  unfold f166_169_l4
  simp only [List.length_replicate,Gn]
  by_cases hlt:k<N
  ·right
   refine ⟨(((k+1:Nat):Int),Gg N (fun i=>if i<k+1 then mulX (rd (0:Int) a.2 (spX a.1 d i)) (rd (0:Int) b.2 (spX b.1 d i)) else 0)),fun go=>?_,⟨k+1,hlt,rfl⟩,by simp only;omega⟩
   rw [show decide ((k:Int)<(N:Int))=true by simpa using hlt]
   simp only [cond_true]
   obtain ⟨x0,x1⟩:=Kk hd.fa k (by omega)
   obtain ⟨y0,y1⟩:=Kk hd.fb k (by omega)
   rw [rd_tab _ _ _ _ hlt,rd_tab _ _ _ _ hlt,D4,D4,D4,D4]
   obtain ⟨xn,hxn⟩:=Int.eq_ofNat_of_zero_le x0
   obtain ⟨yn,hyn⟩:=Int.eq_ofNat_of_zero_le y0
   have qa:=inI_get ia xn (by omega)
   have qb:=inI_get ib yn (by omega)
   rw [← hxn] at qa
   rw [← hyn] at qb
   rw [mulF_ok _ _ qa.1 qa.2 qb.1 qb.2]
   simp only [Bh]
   rw [D4,Fl,Int.toNat_natCast,Kw]
   congr 1
   refine Prod.ext rfl (Gh _ _ _ (fun i hi=>?_))
   by_cases hik:i=k
   ·rw [if_pos hik,iPo,hik]
   ·rw [if_neg hik]
    by_cases h2:i<k
    ·rw [if_pos h2,iPo]
    ·rw [if_neg h2,iNo]
  ·left
   have:k=N:=by omega
   subst this
   refine ⟨_,fun go=>?_,rfl⟩
   rw [show decide ((k:Int)<(k:Int))=false by simp]
   simp only [cond_false,Option.some.injEq]
   exact Gh _ _ _ (fun i hi=>by rw [if_pos hi])
 have e0:((0:Int),List.replicate N (0:Int))=(((0:Nat):Int),Gg N (fun i=>if i<0 then mulX (rd (0:Int) a.2 (spX a.1 d i)) (rd (0:Int) b.2 (spX b.1 d i)) else 0)):=by
  rw [tab_rep]
  exact Prod.ext rfl (Gh _ _ _ (fun i hi=>by rw [iNo]))
 rw [e0]
 obtain ⟨z,e,rfl⟩:=Gd (B:=fun go (x:Int×List Int)=>f166_169_l4 (a.1,a.2) (b.1,b.2) (0,d,List.replicate N 0) (Gg N (spX a.1 d)) (Gg N (spX b.1 d)) go x.1 x.2) _ (fun x=>((N:Int)-x.1).toNat) _ H _ ⟨0,Nat.zero_le _,rfl⟩ (by simp only;omega)
 rw [e]
 rfl
end Go.Proofs.PlS
namespace Go.Proofs.Sh
open Go.AM Go.Proofs.PlB Go.Proofs.PlW Go.Proofs.PlT Go.Proofs.PlS
theorem goodR (d:List Int):f76 d=some (decide (prd d>0)):=by
 unfold f76 prd
 by_cases h4:d.length>4
 ·rw [dT,if_pos h4];rfl
 ·rw [dF,if_neg h4]
  simp only [cond_false]
  have H:∀ x:Int×Int,(∃ k:Nat,x.2=(k:Int)∧k≤d.length∧1≤x.1∧x.1≤4096∧pgo x.1 (d.drop k)=pgo 1 d)→
    (∃ z,(∀ go,f76_l3 d go x.1 x.2=some z)∧((z=Sum.inl ()∧pgo 1 d=0)∨(z=Sum.inr ()∧1≤pgo 1 d)))∨
    (∃ y:Int×Int,(∀ go,f76_l3 d go x.1 x.2=go y)∧(∃ k:Nat,y.2=(k:Int)∧k≤d.length∧1≤y.1∧y.1≤4096∧pgo y.1 (d.drop k)=pgo 1 d)∧((d.length:Int)-y.2).toNat<((d.length:Int)-x.2).toNat):=by
   rintro ⟨n,_⟩ ⟨k,rfl,hk,hn1,hn2,hp⟩
   simp only at hn1 hn2 hp ⊢
   by_cases hlt:k<d.length
   ·rw [drop_cons d k hlt] at hp
    simp only [pgo] at hp
    have hrd:rd (0:Int) d (k:Int)=d[k]:=Gj _ _ _ hlt
    unfold f76_l3 f76_j4
    rw [dT (show (k:Int)<(d.length:Int) by omega)]
    simp only [cond_true,hrd]
    by_cases c:d[k]<1∨d[k]>4096
    ·left
     rw [iPo] at hp
     refine ⟨Sum.inl (),fun go=>?_,.inl ⟨rfl,hp.symm⟩⟩
     by_cases c1:d[k]<1
     ·rw [D4,dT c1];rfl
     ·rw [D4,dF c1,D4,dT (show d[k]>4096 by omega)];rfl
    ·have hb1:n*d[k]≤4096*4096:=Int.mul_le_mul hn2 (by omega) (by omega) (by omega)
     have hb0:1*1≤n*d[k]:=Int.mul_le_mul hn1 (by omega) (by omega) (by omega)
     have hw:IntKind.i64.wrap (n*d[k])=n*d[k]:=Fl (by omega) (by omega)
     rw [D4,dF (show ¬d[k]<1 by omega),D4,dF (show ¬d[k]>4096 by omega)]
     simp only [cond_false,Bh,Fu,hw]
     by_cases c3:n*d[k]>4096
     ·left
      rw [if_pos (.inr (.inr c3))] at hp
      refine ⟨Sum.inl (),fun go=>?_,.inl ⟨rfl,hp.symm⟩⟩
      rw [D4,dT c3];rfl
     ·right
      rw [iNo] at hp
      refine ⟨(n*d[k],((k+1:Nat):Int)),fun go=>?_,⟨k+1,rfl,hlt,by simp only;omega,by simp only;omega,hp⟩,by simp only;omega⟩
      rw [D4,dF c3,Fl];rfl
   ·left
    have:k=d.length:=by omega
    subst this
    simp only [List.drop_length,pgo] at hp
    refine ⟨Sum.inr (),fun go=>?_,.inr ⟨rfl,by omega⟩⟩
    unfold f76_l3
    rw [dF];rfl
  obtain ⟨z,e,hz⟩:=Gd (B:=fun go (x:Int×Int)=>f76_l3 d go x.1 x.2) _ (fun x=>((d.length:Int)-x.2).toNat) _ H ((1:Int),(0:Int)) ⟨0,rfl,Nat.zero_le _,by decide,by decide,rfl⟩ (by simp;omega)
  rw [e]
  rcases hz with ⟨rfl,h0⟩ | ⟨rfl,h0⟩
  ·rw [h0];rfl
  ·rw [dT (show pgo 1 d>0 by omega)];rfl
theorem Gu:∀ d:List Int,(∀ x ∈ d,1≤x)→1≤Fp d
 | [],_=>by simp [Fp]
 | x::r,h=>by
  have h1:=h x (by simp)
  have h2:=Gu r (fun y hy=>h y (by simp [hy]))
  have:1*1≤x*Fp r:=Int.mul_le_mul h1 h2 (by omega) (by omega)
  simp only [Fp];omega
theorem sizeR (d:List Int):f50 d=some (prd d):=by
 unfold f50
 rw [goodR]
 simp only [Bh]
 by_cases h:prd d>0
 ·rw [dT h]
  simp only [Bool.not_true,cond_false]
  obtain ⟨he,hm,hl⟩:=Gs h
  have hr:=F5 d
  have key:=loop_rel (B:=fun go (x:Int×Int)=>f50_l1 d go x.1 x.2)
   (fun k x=>x.2=(k:Int)∧1≤x.1∧x.1*Fp (d.drop k)=prd d) (fun z=>z=prd d) d.length ((1:Int),(0:Int)) ⟨rfl,by decide,by rw [List.drop_zero,Int.one_mul,he]⟩ ?_ ?_ (by omega)
  ·obtain ⟨z,e,rfl⟩:=key
   rw [e,Bh]
  ·rintro k hk ⟨n,_⟩ ⟨rfl,n1,hn⟩
   simp only at n1 hn ⊢
   rw [drop_cons d k hk] at hn
   simp only [Fp] at hn
   rw [← Int.mul_assoc] at hn
   have hp:=Gu (d.drop (k+1)) (fun y hy=>(hm y (List.mem_of_mem_drop hy)).1)
   have hx:=hm d[k] (List.getElem_mem hk)
   have h1:1*1≤n*d[k]:=Int.mul_le_mul n1 hx.1 (by omega) (by omega)
   have h2:n*d[k]*1≤n*d[k]*Fp (d.drop (k+1)):=Int.mul_le_mul_of_nonneg_left hp (by omega)
   refine ⟨(n*d[k],((k+1:Nat):Int)),fun go=>?_,rfl,by simp only;omega,hn⟩
   unfold f50_l1
   rw [dT,cond_true,D4,Gj _ _ _ hk,Fl (n:=n*d[k]) (by omega) (by omega),Fl]
   rfl
  ·rintro ⟨n,_⟩ ⟨rfl,n1,hn⟩
   simp only [List.drop_length,Fp,Int.mul_one] at n1 hn ⊢
   refine ⟨n,fun go=>?_,hn⟩
   unfold f50_l1
   rw [dF];rfl
 ·rw [dF h]
  have:=(F5 d).1
  simp only [Bool.not_false,cond_true]
  congr 1;omega
theorem isR (t:List Int×List Int):f51 t=some (Fz t):=by
 unfold f51 Fz
 rw [goodR,sizeR]
 simp only [Bh]
 cases decide (prd t.1>0) <;> rfl
def upto (N k:Nat) (g:Nat→Int):List Int:=Gg N (fun i=>if i<k then g i else 0)
theorem Gr (N k:Nat) (g:Nat→Int):(upto N k g).length=N:=Gn _ _
theorem Jh (N:Nat) (g:Nat→Int):List.replicate N 0=upto N 0 g:=by
 rw [tab_rep];exact Gh _ _ _ (fun i hi=>by rw [iNo])
theorem Ji (N:Nat) (g:Nat→Int):upto N N g=Gg N g:=Gh _ _ _ (fun i hi=>by rw [if_pos hi])
theorem Jz (N k:Nat) (g:Nat→Int) (v:Int) (hk:k<N) (hv:v=g k):(upto N k g).set k v=upto N (k+1) g:=by
 unfold upto
 rw [Kw]
 refine Gh _ _ _ (fun i hi=>?_)
 by_cases h:i=k
 ·rw [if_pos h,iPo,h,hv]
 ·rw [if_neg h]
  by_cases h2:i<k
  ·rw [if_pos h2,iPo]
  ·rw [if_neg h2,iNo]
theorem newR (d:List Int) (v:Int) (h:0<prd d):f28 d v=some (d,List.replicate (prd d).toNat v):=by
 have hr:=F5 d
 have hl:=G3 h
 unfold f28
 rw [D4 (by simp;omega),sizeR]
 simp only [Bh]
 rw [D4]
 obtain ⟨N,hN⟩:∃ N:Nat,prd d=(N:Int):=⟨(prd d).toNat,by omega⟩
 rw [hN,Int.toNat_natCast,Jh N (fun _=>v)]
 have:=F2 (B:=fun go (x:Int×List Int)=>f28_l1 v go x.1 x.2) (fun k=>((k:Int),upto N k (fun _=>v))) N (Gg N (fun _=>v)) ?_ ?_ (by omega)
 ·rw [show ((0:Int))=((0:Nat):Int) from rfl,this,tab_rep];rfl
 ·intro k hk go
  unfold f28_l1
  simp only [Gr]
  rw [dT,cond_true,D4,Fl,Int.toNat_natCast,Jz N k _ _ hk rfl]
  rfl
 ·intro go
  unfold f28_l1
  simp only [Gr]
  rw [dF,cond_false,Ji]
theorem sameR (a b:List Int) (h:a.length<4611686018427387904):f13 a b=some (decide (a=b)):=by
 unfold f13
 by_cases hl:a.length=b.length
 ·rw [nF]
  simp only [cond_false]
  have:=loop_any (B:=fun go x=>f13_l1 a b go x) (fun k=>(k:Int)) (fun k=>rd (0:Int) a (k:Int) != rd (0:Int) b (k:Int)) (Sum.inl ()) (Sum.inr ()) a.length ?_ ?_ ?_ (by omega)
  ·rw [show ((0:Int))=((0:Nat):Int) from rfl,this]
   simp only [Bh]
   by_cases e:a=b
   ·subst e
    have:anyB a.length (fun k=>rd (0:Int) a (k:Int) != rd (0:Int) a (k:Int))=false:=J4.2 (fun i hi=>by simp)
    rw [this,dT rfl];rfl
   ·have:anyB a.length (fun k=>rd (0:Int) a (k:Int) != rd (0:Int) b (k:Int))=true:=by
     cases hc:anyB a.length (fun k=>rd (0:Int) a (k:Int) != rd (0:Int) b (k:Int))
     ·exfalso;apply e
      have hc:=J4.1 hc
      apply List.ext_getElem hl
      intro i h1 h2
      have:=hc i h1
      rw [Gj _ _ _ h1,Gj _ _ _ h2] at this
      simpa using this
     ·rfl
    rw [this,dF e];rfl
  ·intro k hk hp go
   unfold f13_l1
   rw [dT,cond_true,D4,D4,hp,cond_false,Fl]
   rfl
  ·intro k hk hp go
   unfold f13_l1
   rw [dT,cond_true,D4,D4,hp]
   rfl
  ·intro go
   unfold f13_l1
   rw [dF];rfl
 ·rw [nT,dF (fun e=>hl (by rw [e]))];rfl
theorem alikeR (a b:List Int×List Int) (h1:a.1.length<4611686018427387904) (h2:a.2.length<4611686018427387904):f24 a b=some (decide (a=b)):=by
 unfold f24 f24_j1
 rw [sameR _ _ h1]
 simp only [Bh]
 by_cases e1:a.1=b.1
 ·rw [dT e1]
  simp only [Bool.not_true,cond_false]
  by_cases hl:a.2.length=b.2.length
  ·rw [nF]
   simp only [cond_false,Bh,Fu]
   have:=loop_any (B:=fun go x=>f24_l2 a b go x) (fun k=>(k:Int)) (fun k=>rd (0:Int) a.2 (k:Int) != rd (0:Int) b.2 (k:Int)) (Sum.inl ()) (Sum.inr ()) a.2.length ?_ ?_ ?_ (by omega)
   ·rw [show ((0:Int))=((0:Nat):Int) from rfl,this]
    simp only [Bh]
    by_cases e:a.2=b.2
    ·rw [e]
     have:anyB b.2.length (fun k=>rd (0:Int) b.2 (k:Int) != rd (0:Int) b.2 (k:Int))=false:=J4.2 (fun i hi=>by simp)
     rw [this,dT (Prod.ext e1 e)];rfl
    ·have:anyB a.2.length (fun k=>rd (0:Int) a.2 (k:Int) != rd (0:Int) b.2 (k:Int))=true:=by
      cases hc:anyB a.2.length (fun k=>rd (0:Int) a.2 (k:Int) != rd (0:Int) b.2 (k:Int))
      ·exfalso;apply e
       have hc:=J4.1 hc
       apply List.ext_getElem hl
       intro i h1 h2
       have:=hc i h1
       rw [Gj _ _ _ h1,Gj _ _ _ h2] at this
       simpa using this
      ·rfl
     rw [this,dF (fun h=>e (by rw [h]))];rfl
   ·intro k hk hp go
    unfold f24_l2
    rw [dT,cond_true,D4,D4,hp,cond_false,Fl]
    rfl
   ·intro k hk hp go
    unfold f24_l2
    rw [dT,cond_true,D4,D4,hp]
    rfl
   ·intro go
    unfold f24_l2
    rw [dF];rfl
  ·rw [nT,dF (fun h=>hl (by rw [h]))];rfl
 ·rw [dF e1,dF (fun h=>e1 (by rw [h]))];rfl
def dnto (L k:Nat) (g:Nat→Int):List Int:=Gg L (fun j=>if L-1-j<k then g (L-1-j) else 0)
theorem dnto_len (L k:Nat) (g:Nat→Int):(dnto L k g).length=L:=Gn _ _
theorem dnto_zero (L:Nat) (g:Nat→Int):List.replicate L 0=dnto L 0 g:=by
 rw [tab_rep];exact Gh _ _ _ (fun i hi=>by rw [iNo])
theorem dnto_full (L:Nat) (g:Nat→Int):dnto L L g=Gg L (fun j=>g (L-1-j)):=Gh _ _ _ (fun i hi=>by rw [iPo])
theorem dnto_set (L k:Nat) (g:Nat→Int) (v:Int) (hk:k<L) (hv:v=g k):(dnto L k g).set (L-1-k) v=dnto L (k+1) g:=by
 unfold dnto
 rw [Kw]
 refine Gh _ _ _ (fun i hi=>?_)
 by_cases h:i=L-1-k
 ·rw [if_pos h,iPo,hv];congr 1;omega
 ·rw [if_neg h]
  by_cases h2:L-1-i<k
  ·rw [if_pos h2,iPo]
  ·rw [if_neg h2,iNo]
def jBad (a b:List Int) (k:Nat):Bool:=Fw a k != Fw b k&&(Fw a k != 1&&Fw b k != 1)
def jMax (a b:List Int) (k:Nat):Int:=if Fw b k>Fw a k then Fw b k else Fw a k
def Kp (a b:List Int):Nat:=if b.length>a.length then b.length else a.length
def jL (a b:List Int):List Int:=Gg (Kp a b) (fun j=>jMax a b (Kp a b-1-j))
def jS (a b:List Int):Int×List Int:=
 if 0<prd a∧0<prd b then (bif anyB (Kp a b) (jBad a b) then (4,[]) else if 0<prd (jL a b) then (0,jL a b) else (2,[])) else (1,[])
theorem jLen_int (a b:List Int):(if (List.length b:Int)>(List.length a:Int) then (List.length b:Int) else (List.length a:Int))=(Kp a b:Int):=by
 unfold Kp;split <;> split <;> omega
theorem j5_ok (a b:List Int) (k:Nat):f195_j5 (Fw a k) (Fw b k)=some (bif jBad a b k then Sum.inr () else Sum.inl ()):=by
 unfold f195_j5 jBad
 cases (Fw a k != Fw b k) <;> cases (Fw a k != 1) <;> cases (Fw b k != 1) <;> rfl
theorem joinP (a b:List Int):f195 a b=some (jS a b):=by
 unfold f195 f195_j1 jS
 rw [Gw,Gw,jLen_int]
 simp only [Bh]
 by_cases ha:0<prd a
 ·by_cases hb:0<prd b
  ·have la:=G3 ha
   have lb:=G3 hb
   have lj:Kp a b≤4:=by unfold Kp;split <;> omega
   rw [dT (show prd a>0 from ha),dT (show prd b>0 from hb),if_pos ⟨ha,hb⟩]
   simp only [Bool.not_true,cond_false,Bh,Fu]
   rw [D4,Int.toNat_natCast,dnto_zero _ (jMax a b)]
   have:=loop_any (B:=fun go (x:Int×List Int)=>f195_l4 a b go x.1 x.2) (fun k=>((k:Int),dnto (Kp a b) k (jMax a b))) (jBad a b) (Sum.inl ()) (Sum.inr (jL a b)) (Kp a b) ?_ ?_ ?_ (by omega)
   ·rw [show ((0:Nat):Int)=0 from rfl] at this
    rw [this]
    simp only [Bh]
    cases anyB (Kp a b) (jBad a b)
    ·simp only [cond_false,F4]
     rw [Gw]
     by_cases hp:0<prd (jL a b)
     ·rw [dT (show prd (jL a b)>0 from hp),if_pos hp];rfl
     ·rw [dF (show ¬prd (jL a b)>0 from hp),if_neg hp];rfl
    ·rfl
   ·intro k hk hp go
    unfold f195_l4
    rw [jLen_int,Int.toNat_natCast,List.length_replicate,dT,cond_true,side_ok a k (by omega) (by omega),Bh,side_ok b k (by omega) (by omega),Bh,j5_ok,hp,Bh]
    simp only [cond_false,Fu,dnto_len]
    rw [Fl (n:=(Kp a b:Int)-1) (by omega) (by omega),Fl (n:=(Kp a b:Int)-1-k) (by omega) (by omega),D4,Fl,show (Kp a b:Int)-1-k=((Kp a b-1-k:Nat):Int) by omega,Int.toNat_natCast,dnto_set _ _ (jMax a b) (if Fw b k>Fw a k then Fw b k else Fw a k) hk rfl]
    rfl
   ·intro k hk hp go
    unfold f195_l4
    rw [jLen_int,Int.toNat_natCast,List.length_replicate,dT,cond_true,side_ok a k (by omega) (by omega),Bh,side_ok b k (by omega) (by omega),Bh,j5_ok,hp,Bh]
    rfl
   ·intro go
    unfold f195_l4
    rw [jLen_int,Int.toNat_natCast,List.length_replicate,dF,cond_false,dnto_full];rfl
  ·rw [dT (show prd a>0 from ha),dF (show ¬prd b>0 from hb),if_neg (fun h=>hb h.2)];rfl
 ·rw [dF (show ¬prd a>0 from ha),if_neg (fun h=>ha h.1)];rfl
theorem j12_ok (a:List Int) (k:Nat) (hl:a.length≤4):f53_j12 a ((k+1:Nat):Int)=some (Fw a k):=by
 unfold f53_j12
 by_cases h:k<a.length
 ·rw [dT,cond_true,Fl,D4,show (a.length:Int)-((k+1:Nat):Int)=((a.length-1-k:Nat):Int) by omega,Kf a k h]
 ·rw [dF,cond_false];unfold Fw;rw [if_neg h]
theorem j14_ok (a b:List Int) (k:Nat):f53_j14 (Fw a k) (Fw b k)=some (bif jBad a b k then Sum.inr () else Sum.inl ()):=j5_ok a b k
theorem j15_ok (a b:List Int) (k:Nat):f53_j15 (Fw a k) (Fw b k)=some (jMax a b k):=by
 unfold f53_j15 jMax
 by_cases h:Fw b k>Fw a k
 ·rw [dT h,if_pos h];rfl
 ·rw [dF h,if_neg h];rfl
theorem joinR (a b:List Int):f53 a b=some (jS a b):=by
 unfold f53 f53_j1 jS
 rw [goodR,goodR]
 simp only [Bh]
 by_cases ha:0<prd a
 ·by_cases hb:0<prd b
  ·have la:=G3 ha
   have lb:=G3 hb
   have lj:Kp a b≤4:=by unfold Kp;split <;> omega
   have hj2:f53_j2 a b=some (Kp a b:Int):=by
    unfold f53_j2 Kp
    by_cases h:b.length>a.length
    ·rw [dT,if_pos h];rfl
    ·rw [dF,if_neg h];rfl
   rw [dT (show prd a>0 from ha),dT (show prd b>0 from hb),if_pos ⟨ha,hb⟩]
   simp only [Bool.not_true,cond_false,Bh,Fu]
   rw [hj2,Bh,D4,Int.toNat_natCast,dnto_zero _ (jMax a b)]
   have:=loop_any (B:=fun go (x:Int×List Int)=>f53_l11 a b (Kp a b:Int) go x.1 x.2) (fun k=>(((k+1:Nat):Int),dnto (Kp a b) k (jMax a b))) (jBad a b) (Sum.inl ()) (Sum.inr (jL a b)) (Kp a b) ?_ ?_ ?_ (by omega)
   ·rw [show (((0+1:Nat)):Int)=1 from rfl] at this
    rw [this]
    simp only [Bh]
    cases anyB (Kp a b) (jBad a b)
    ·simp only [cond_false,F4]
     rw [goodR]
     by_cases hp:0<prd (jL a b)
     ·rw [dT (show prd (jL a b)>0 from hp),if_pos hp];rfl
     ·rw [dF (show ¬prd (jL a b)>0 from hp),if_neg hp];rfl
    ·rfl
   ·intro k hk hp go
    unfold f53_l11
    rw [dT,cond_true,j12_ok a k la,Bh,show f53_j13 b ((k+1:Nat):Int)=some (Fw b k) from j12_ok b k lb,Bh,j14_ok,hp,Bh]
    simp only [cond_false,Fu,dnto_len]
    rw [j15_ok,Bh,Fl (n:=(Kp a b:Int)-((k+1:Nat):Int)) (by omega) (by omega),D4,Fl,show (Kp a b:Int)-((k+1:Nat):Int)=((Kp a b-1-k:Nat):Int) by omega,Int.toNat_natCast,dnto_set _ _ _ _ hk rfl]
    rfl
   ·intro k hk hp go
    unfold f53_l11
    rw [dT,cond_true,j12_ok a k la,Bh,show f53_j13 b ((k+1:Nat):Int)=some (Fw b k) from j12_ok b k lb,Bh,j14_ok,hp,Bh]
    rfl
   ·intro go
    unfold f53_l11
    rw [dF,cond_false,dnto_full];rfl
  ·rw [dT (show prd a>0 from ha),dF (show ¬prd b>0 from hb),if_neg (fun h=>hb h.2)];rfl
 ·rw [dF (show ¬prd a>0 from ha),if_neg (fun h=>ha h.1)];rfl
theorem jL_side (a b:List Int) (k:Nat) (hk:k<Kp a b):Fw (jL a b) k=jMax a b k:=by
 have hl:(jL a b).length=Kp a b:=Gn _ _
 rw [← Kf _ k (by omega),hl]
 unfold jL
 rw [rd_tab _ _ _ _ (by omega)]
 congr 1;omega
theorem jS_joined {a b d:List Int} (h:jS a b=(0,d)):Joined a b d:=by
 unfold jS at h
 split at h
 ·next hg=>
  cases hc:anyB (Kp a b) (jBad a b)
  ·rw [hc,cond_false] at h
   split at h
   ·next hp=>
    obtain rfl:jL a b=d:=(Prod.mk.inj h).2
    have hl:(jL a b).length=Kp a b:=Gn _ _
    have hjl:Kp a b=max a.length b.length:=by unfold Kp;split <;> omega
    have hb:=J4.1 hc
    refine ⟨hg.1,hg.2,hp,by omega,fun k hk=>?_,fun k hk=>?_⟩
    ·rw [jL_side a b k (by omega)];unfold jMax;split <;> omega
    ·have:=hb k (by omega)
     unfold jBad at this
     by_cases h1:Fw a k=Fw b k
     ·exact .inl h1
     ·by_cases h2:Fw a k=1
      ·exact .inr (.inl h2)
      ·by_cases h3:Fw b k=1
       ·exact .inr (.inr h3)
       ·rw [nT h1,nT h2,nT h3] at this;exact absurd this (by decide)
   ·exact absurd (Prod.mk.inj h).1 (by decide)
  ·rw [hc,cond_true] at h;exact absurd (Prod.mk.inj h).1 (by decide)
 ·exact absurd (Prod.mk.inj h).1 (by decide)
theorem list_side {d e:List Int} (hl:d.length=e.length) (h:∀ k,k<d.length→Fw d k=Fw e k):d=e:=by
 apply List.ext_getElem hl
 intro i h1 h2
 have:=h (d.length-1-i) (by omega)
 unfold Fw at this
 rw [iPo,iPo,getD_at _ _ (by omega),getD_at _ _ (by omega)] at this
 simp only [show d.length-1-(d.length-1-i)=i by omega,show e.length-1-(d.length-1-i)=i by omega] at this
 exact this
theorem jS_fits {d big:List Int}:jS d big=(0,big)↔Fits d big:=by
 constructor
 ·intro h
  exact (jS_joined h).fa
 ·intro h
  have hlen:=h.len
  have hjl:Kp d big=big.length:=by unfold Kp;split <;> omega
  have hs:∀ k,k<big.length→Fw d k=1∨Fw big k=Fw d k:=fun k hk=>by
   by_cases hk2:k<d.length
   ·have:=(Gp h.pd k).1
    by_cases h1:1<Fw d k
    ·exact .inr (h.eq k hk2 h1)
    ·exact .inl (by omega)
   ·left;unfold Fw;rw [if_neg hk2]
  have hany:anyB (Kp d big) (jBad d big)=false:=J4.2 (fun i hi=>by
   unfold jBad
   rcases hs i (by omega) with e | e
   ·rw [nF e];simp
   ·rw [nF e.symm];rfl)
  have hL:jL d big=big:=list_side (by unfold jL;rw [Gn,hjl]) (fun k hk=>by
   have hk2:k<Kp d big:=by rw [show (jL d big).length=Kp d big from Gn _ _] at hk;exact hk
   rw [jL_side d big k hk2]
   unfold jMax
   have:=(Gp h.pb k).1
   rcases hs k (by omega) with e | e
   ·rw [e];split <;> omega
   ·rw [e];split <;> rfl)
  unfold jS
  rw [if_pos ⟨h.pd,h.pb⟩,hany,hL,cond_false,if_pos h.pb]
def plc (d:List Int) (v:Int):List Int:=Gg d.length (fun j=>rst d v (d.length-1-j)%Fw d (d.length-1-j))
theorem place_loop (d:List Int) (h:0<prd d) (v:Int) (v0:0≤v) (v1:v<prd d) :
  Fq (fun go (x:Int×Int×List Int)=>f205_l2 d go x.1 x.2.1 x.2.2) Fv (v,IntKind.i64.wrap ((d.length:Int)-1),List.replicate (Int.toNat (d.length:Int)) (0:Int))=some (plc d v):=by
 have hl:=G3 h
 have hr:=F5 d
 rw [Fl,Int.toNat_natCast,dnto_zero _ (fun k=>rst d v k%Fw d k)]
 have:=F2 (B:=fun go (x:Int×Int×List Int)=>f205_l2 d go x.1 x.2.1 x.2.2) (fun k=>(rst d v k,(d.length:Int)-1-(k:Int),dnto d.length k (fun k=>rst d v k%Fw d k))) d.length (plc d v) ?_ ?_ (by omega)
 ·have e:((d.length:Int)-1-((0:Nat):Int))=(d.length:Int)-1:=by omega
  rw [e] at this
  exact this
 ·intro k hk go
  unfold f205_l2
  simp only [dnto_len]
  obtain ⟨r0,r1⟩:=rst_range h v v0 (by omega) k
  obtain ⟨s0,s1⟩:=Gp h k
  rw [dT,cond_true,show (d.length:Int)-1-(k:Int)=((d.length-1-k:Nat):Int) by omega,Kf d k hk,D4,D4,D4,D4,D4]
  have q0:0≤rst d v k/Fw d k:=Int.ediv_nonneg r0 (by omega)
  have q1:rst d v k/Fw d k≤rst d v k:=Int.ediv_le_self _ r0
  rw [Int.tdiv_eq_ediv_of_nonneg r0,Int.tmod_eq_emod_of_nonneg r0,Fl (n:=rst d v k/Fw d k) (by omega) (by omega),Fl,Int.toNat_natCast,dnto_set _ _ _ _ hk rfl]
  congr 1
  refine Prod.ext rfl (Prod.ext (by simp only;omega) rfl)
 ·intro go
  unfold f205_l2
  simp only
  rw [dF,cond_false,dnto_full];rfl
theorem place_loopR (d:List Int) (h:0<prd d) (v:Int) (v0:0≤v) (v1:v<prd d) :
  Fq (fun go (x:Int×Int×List Int)=>f80_l2 d go x.1 x.2.1 x.2.2) Fv (v,IntKind.i64.wrap ((d.length:Int)-1),List.replicate (Int.toNat (d.length:Int)) (0:Int))=some (plc d v):=place_loop d h v v0 v1
theorem placeR (d:List Int) (h:0<prd d) (v:Int) (v0:0≤v) (v1:v<prd d):f80 d v=some (true,plc d v):=by
 have hl:=G3 h
 unfold f80 f80_j1
 rw [goodR,Bh,dT (show prd d>0 from h),Bool.not_true,cond_false,dF,cond_false,sizeR,Bh,dF,cond_false,Bh,Fu,D4]
 rw [place_loopR d h v v0 v1]
 rfl
theorem plc_len (d:List Int) (v:Int):(plc d v).length=d.length:=Gn _ _
theorem plc_rd (d:List Int) (v:Int) (k:Nat) (hk:k<d.length):rd (0:Int) (plc d v) ((d.length-1-k:Nat):Int)=rst d v k%Fw d k:=by
 unfold plc
 rw [rd_tab _ _ _ _ (by omega),show d.length-1-(d.length-1-k)=k by omega]
theorem fromR {d big:List Int} (h:Fits d big) (v:Int) (v0:0≤v) (v1:v<prd big):f54 d big v=some (accS d big v d.length,true):=by
 have hl:=G3 h.pd
 have hb:=G3 h.pb
 have hr:=F5 big
 have hrd:=F5 d
 have hlen:=h.len
 unfold f54 f54_j1
 rw [joinR,jS_fits.2 h,Bh]
 simp only
 rw [nF rfl,cond_false,sameR _ _ (by omega),Bh,dT rfl,Bool.not_true,cond_false,Bh,Fu,placeR big h.pb v v0 v1,Bh]
 simp only [Bool.not_true,cond_false]
 have key:=loop_rel (B:=fun go (x:Int×Int)=>f54_l4 d (true,plc big v) go x.1 x.2)
  (fun i x=>x.2=(i:Int)∧0≤x.1∧x.1*J0 d (d.length-i)+accS d big v (d.length-i)=accS d big v d.length) (fun z=>z=accS d big v d.length) d.length ((0:Int),(0:Int))
  ⟨rfl,by decide,by rw [Int.zero_mul,Int.zero_add,Nat.sub_zero]⟩ ?_ ?_ (by omega)
 ·obtain ⟨z,e,rfl⟩:=key
  rw [e];rfl
 ·rintro i hi ⟨n,_⟩ ⟨rfl,n0,hn⟩
  simp only at n0 hn ⊢
  obtain ⟨t,ht⟩:∃ t,t=d.length-1-i:=⟨_,rfl⟩
  rw [show d.length-i=t+1 by omega,J5 d t (by omega)] at hn
  simp only [accS] at hn
  obtain ⟨s0,s1⟩:=Gp h.pd t
  have hst:=Kx h.pd t (by omega)
  obtain ⟨a0,a1⟩:=Ka h v v0 (by omega) t (by omega)
  obtain ⟨b0,b1⟩:=Ka h v v0 (by omega) d.length (Nat.le_refl _)
  rw [strd_all,← (Gs h.pd).1] at b1
  obtain ⟨r0,r1⟩:=rst_range h.pb v v0 (by omega) t
  obtain ⟨k,hk⟩:∃ k:Int,k=if Fw d t>1 then rst big v t%Fw big t else 0:=⟨_,rfl⟩
  have hks:(if Fw d t>1 then rst big v t%Fw big t*J0 d t else 0)=k*J0 d t:=by
   rw [hk];split
   ·rfl
   ·rw [Int.zero_mul]
  have hk0:0≤k∧k≤4096:=by
   rw [hk];split
   ·have:=Gp h.pb t
    have m0:=Int.emod_nonneg (rst big v t) (show Fw big t≠0 by omega)
    have m1:=Int.emod_lt_of_pos (rst big v t) (show 0<Fw big t by omega)
    omega
   ·omega
  rw [hks,← Int.mul_assoc] at hn
  have hn2:(n*Fw d t+k)*J0 d t+accS d big v t=accS d big v d.length:=by rw [Int.add_mul];omega
  have p0:0≤n*Fw d t:=Int.mul_nonneg n0 (by omega)
  have p1:(n*Fw d t+k)*1≤(n*Fw d t+k)*J0 d t:=Int.mul_le_mul_of_nonneg_left hst (by omega)
  refine ⟨(n*Fw d t+k,((i+1:Nat):Int)),fun go=>?_,rfl,by simp only;omega,by simp only;rw [show d.length-(i+1)=t by omega];exact hn2⟩
  have ei:rd (0:Int) d (i:Int)=Fw d t:=by
   have:=Kf d t (by omega)
   rw [show d.length-1-t=i by omega] at this;exact this
  have ew:IntKind.i64.wrap (IntKind.i64.wrap ((List.length (plc big v):Int)-(List.length d:Int))+(i:Int))=((big.length-1-t:Nat):Int):=by
   rw [plc_len,Fl (n:=(big.length:Int)-d.length) (by omega) (by omega),Fl];omega
  have hj5:f54_j5 d (true,plc big v) (i:Int)=some k:=by
   unfold f54_j5
   simp only
   rw [D4,ei,ew,plc_rd big v t (by omega),hk]
   by_cases h1:Fw d t=1
   ·rw [bT h1,iNo];rfl
   ·rw [bF h1,iPo];rfl
  unfold f54_l4
  simp only
  rw [dT,cond_true,ew,D4 (by rw [plc_len];omega),hj5,Bh,D4,ei,Fl (n:=n*Fw d t) (by omega) (by omega),Fl (n:=n*Fw d t+k) (by omega) (by omega),Fl]
  rfl
 ·rintro ⟨n,_⟩ ⟨rfl,n0,hn⟩
  simp only [Nat.sub_self,Kj,accS,Int.mul_one,Int.add_zero] at n0 hn ⊢
  refine ⟨n,fun go=>?_,hn⟩
  unfold f54_l4
  rw [dF,cond_false]
end Go.Proofs.Sh
namespace Go.Proofs.Dots
open Go.AM Go.Proofs.PlW
theorem lf1 {X Z:Type} (B:(X→Option Z)→X→Option Z) (x:X):Fq B Fv x=B (Fq B 18446744073709551615) x:=rfl
theorem lf2 {X Z:Type} (B:(X→Option Z)→X→Option Z) (x:X):Fq B 18446744073709551615 x=B (Fq B 18446744073709551614) x:=rfl
theorem lf3 {X Z:Type} (B:(X→Option Z)→X→Option Z) (x:X):Fq B 18446744073709551614 x=B (Fq B 18446744073709551613) x:=rfl
theorem lf4 {X Z:Type} (B:(X→Option Z)→X→Option Z) (x:X):Fq B 18446744073709551613 x=B (Fq B 18446744073709551612) x:=rfl
theorem lf5 {X Z:Type} (B:(X→Option Z)→X→Option Z) (x:X):Fq B 18446744073709551612 x=B (Fq B 18446744073709551611) x:=rfl
def W0 (A:Int):Int:=A%18446744073709551616
def W1 (A:Int):Int:=A/18446744073709551616%18446744073709551616
def W2 (A:Int):Int:=A/18446744073709551616/18446744073709551616%18446744073709551616
def W3 (A:Int):Int:=A/18446744073709551616/18446744073709551616/18446744073709551616%18446744073709551616
theorem W1_eq (A:Int):W1 A=W0 (A/18446744073709551616):=rfl
theorem W2_eq (A:Int):W2 A=W1 (A/18446744073709551616):=rfl
theorem W3_eq (A:Int):W3 A=W2 (A/18446744073709551616):=rfl
theorem W_range (A:Int):(0≤W0 A∧W0 A<18446744073709551616)∧(0≤W1 A∧W1 A<18446744073709551616)∧(0≤W2 A∧W2 A<18446744073709551616)∧(0≤W3 A∧W3 A<18446744073709551616):=by
 have w:∀ n:Int,0≤n%18446744073709551616∧n%18446744073709551616<18446744073709551616:=fun n=>by omega
 exact ⟨w _,w _,w _,w _⟩
theorem sm (s q k:Int):(s%18446744073709551616+q%18446744073709551616+k)%18446744073709551616=(s+q+k)%18446744073709551616:=by omega
theorem sd (s q k:Int):(s+q+k)/18446744073709551616=s/18446744073709551616+q/18446744073709551616+(s%18446744073709551616+q%18446744073709551616+k)/18446744073709551616:=by omega
theorem mm (s q k:Int):(s%18446744073709551616-q%18446744073709551616-k)%18446744073709551616=(s-q-k)%18446744073709551616:=by omega
theorem md (s q k:Int):(s-q-k)/18446744073709551616=s/18446744073709551616-q/18446744073709551616 - -((s%18446744073709551616-q%18446744073709551616-k)/18446744073709551616):=by omega
theorem lt_digit (s q:Int):s<q↔s/18446744073709551616<q/18446744073709551616∨(s/18446744073709551616=q/18446744073709551616∧s%18446744073709551616<q%18446744073709551616):=by omega
theorem carry_step {Y:Type} (x y c:Int) (x0:0≤x) (x1:x<18446744073709551616) (y0:0≤y) (y1:y<18446744073709551616) (c0:0≤c) (c1:c≤1) (k:Int→Int→Option Y) :
  (bif decide (IntKind.u64.wrap (x+y)<x) then k 1 (IntKind.u64.wrap (IntKind.u64.wrap (x+y)+c)) else
   bif decide (IntKind.u64.wrap (IntKind.u64.wrap (x+y)+c)<IntKind.u64.wrap (x+y)) then k 1 (IntKind.u64.wrap (IntKind.u64.wrap (x+y)+c)) else k 0 (IntKind.u64.wrap (IntKind.u64.wrap (x+y)+c))) =
  k ((x+y+c)/18446744073709551616) ((x+y+c)%18446744073709551616):=by
 simp only [wu]
 have e:((x+y)%18446744073709551616+c)%18446744073709551616=(x+y+c)%18446744073709551616:=by omega
 rw [e]
 by_cases h1:(x+y)%18446744073709551616<x
 ·rw [show decide ((x+y)%18446744073709551616<x)=true by simpa using h1,show (x+y+c)/18446744073709551616=1 by omega];rfl
 ·rw [show decide ((x+y)%18446744073709551616<x)=false by simpa using h1]
  by_cases h2:(x+y+c)%18446744073709551616<(x+y)%18446744073709551616
  ·rw [show decide ((x+y+c)%18446744073709551616<(x+y)%18446744073709551616)=true by simpa using h2,show (x+y+c)/18446744073709551616=1 by omega];rfl
  ·rw [show decide ((x+y+c)%18446744073709551616<(x+y)%18446744073709551616)=false by simpa using h2,show (x+y+c)/18446744073709551616=0 by omega];rfl
theorem K1 {Y:Type} (x y c:Int) (x0:0≤x) (x1:x<18446744073709551616) (y0:0≤y) (y1:y<18446744073709551616) (c0:0≤c) (c1:c≤1) (k:Int→Int→Option Y) :
  (bif decide (x<y) then k 1 (IntKind.u64.wrap (IntKind.u64.wrap (x-y)-c)) else
   bif decide (IntKind.u64.wrap (x-y)<c) then k 1 (IntKind.u64.wrap (IntKind.u64.wrap (x-y)-c)) else k 0 (IntKind.u64.wrap (IntKind.u64.wrap (x-y)-c))) =
  k (-((x-y-c)/18446744073709551616)) ((x-y-c)%18446744073709551616):=by
 simp only [wu]
 have e:((x-y)%18446744073709551616-c)%18446744073709551616=(x-y-c)%18446744073709551616:=by omega
 rw [e]
 by_cases h1:x<y
 ·rw [show decide (x<y)=true by simpa using h1,show -((x-y-c)/18446744073709551616)=1 by omega];rfl
 ·rw [show decide (x<y)=false by simpa using h1]
  by_cases h2:(x-y)%18446744073709551616<c
  ·rw [show decide ((x-y)%18446744073709551616<c)=true by simpa using h2,show -((x-y-c)/18446744073709551616)=1 by omega];rfl
  ·rw [show decide ((x-y)%18446744073709551616<c)=false by simpa using h2,show -((x-y-c)/18446744073709551616)=0 by omega];rfl
theorem pick0 {Y:Type} (a b c d:Option Y):pickF (0:Int) [a,b,c,d]=a:=rfl
theorem pick1 {Y:Type} (a b c d:Option Y):pickF (1:Int) [a,b,c,d]=b:=rfl
theorem pick2 {Y:Type} (a b c d:Option Y):pickF (2:Int) [a,b,c,d]=c:=rfl
theorem pick3 {Y:Type} (a b c d:Option Y):pickF (3:Int) [a,b,c,d]=d:=rfl
theorem plus_w (a0 a1 a2 a3 b0 b1 b2 b3:Int) (ha:(0≤a0∧a0<18446744073709551616)∧(0≤a1∧a1<18446744073709551616)∧(0≤a2∧a2<18446744073709551616)∧(0≤a3∧a3<18446744073709551616))
  (hb:(0≤b0∧b0<18446744073709551616)∧(0≤b1∧b1<18446744073709551616)∧(0≤b2∧b2<18446744073709551616)∧(0≤b3∧b3<18446744073709551616)) :
  ∃ c1 c2 c3:Int,c1=(a0+b0+0)/18446744073709551616∧c2=(a1+b1+c1)/18446744073709551616∧c3=(a2+b2+c2)/18446744073709551616∧
   f108 a0 a1 a2 a3 b0 b1 b2 b3=some ((a0+b0+0)%18446744073709551616,(a1+b1+c1)%18446744073709551616,(a2+b2+c2)%18446744073709551616,(a3+b3+c3)%18446744073709551616):=by
 obtain ⟨⟨p0,q0⟩,⟨p1,q1⟩,⟨p2,q2⟩,⟨p3,q3⟩⟩:=ha
 obtain ⟨⟨r0,s0⟩,⟨r1,s1⟩,⟨r2,s2⟩,⟨r3,s3⟩⟩:=hb
 refine ⟨_,_,_,rfl,rfl,rfl,?_⟩
 unfold f108
 rw [lf1]
 simp only [f108_l1]
 rw [show decide ((0:Int)<4)=true from rfl]
 simp only [cond_true]
 rw [D4 (by decide),pick0,show IntKind.i64.wrap ((0:Int)+1)=1 from rfl,carry_step a0 b0 0 p0 q0 r0 s0 (by omega) (by omega) (fun c v=>Fq _ 18446744073709551615 (c,1,v,0,0,0)),lf2]
 simp only [f108_l1]
 rw [show decide ((1:Int)<4)=true from rfl]
 simp only [cond_true]
 rw [D4 (by decide),pick1,show IntKind.i64.wrap ((1:Int)+1)=2 from rfl,carry_step a1 b1 _ p1 q1 r1 s1 (by omega) (by omega) (fun c v=>Fq _ 18446744073709551614 (c,2,_,v,0,0)),lf3]
 simp only [f108_l1]
 rw [show decide ((2:Int)<4)=true from rfl]
 simp only [cond_true]
 rw [D4 (by decide),pick2,show IntKind.i64.wrap ((2:Int)+1)=3 from rfl,carry_step a2 b2 _ p2 q2 r2 s2 (by omega) (by omega) (fun c v=>Fq _ 18446744073709551613 (c,3,_,_,v,0)),lf4]
 simp only [f108_l1]
 rw [show decide ((3:Int)<4)=true from rfl]
 simp only [cond_true]
 rw [D4 (by decide),pick3,show IntKind.i64.wrap ((3:Int)+1)=4 from rfl,carry_step a3 b3 _ p3 q3 r3 s3 (by omega) (by omega) (fun c v=>Fq _ 18446744073709551612 (c,4,_,_,_,v)),lf5]
 simp only [f108_l1]
 rw [show decide ((4:Int)<4)=false from rfl]
 rfl
theorem plusN_ok (A B:Int):f108 (W0 A) (W1 A) (W2 A) (W3 A) (W0 B) (W1 B) (W2 B) (W3 B)=some (W0 (A+B),W1 (A+B),W2 (A+B),W3 (A+B)):=by
 obtain ⟨c1,c2,c3,h1,h2,h3,e⟩:=plus_w _ _ _ _ _ _ _ _ (W_range A) (W_range B)
 rw [e]
 have d1:(A+B)/18446744073709551616=A/18446744073709551616+B/18446744073709551616+c1:=by
  rw [h1];have:=sd A B 0;rwa [Int.add_zero] at this
 have d2:(A+B)/18446744073709551616/18446744073709551616=A/18446744073709551616/18446744073709551616+B/18446744073709551616/18446744073709551616+c2:=by
  rw [d1,sd,h2];rfl
 have d3:(A+B)/18446744073709551616/18446744073709551616/18446744073709551616=A/18446744073709551616/18446744073709551616/18446744073709551616+B/18446744073709551616/18446744073709551616/18446744073709551616+c3:=by
  rw [d2,sd,h3];rfl
 have e0:(W0 A+W0 B+0)%18446744073709551616=W0 (A+B):=by
  have:=sm A B 0;rw [Int.add_zero] at this ⊢;rw [Int.add_zero] at this;exact this
 have e1:(W1 A+W1 B+c1)%18446744073709551616=W1 (A+B):=by
  unfold W1;rw [d1];exact sm _ _ _
 have e2:(W2 A+W2 B+c2)%18446744073709551616=W2 (A+B):=by
  unfold W2;rw [d2];exact sm _ _ _
 have e3:(W3 A+W3 B+c3)%18446744073709551616=W3 (A+B):=by
  unfold W3;rw [d3];exact sm _ _ _
 rw [e0,e1,e2,e3]
theorem minus_w (a0 a1 a2 a3 b0 b1 b2 b3:Int) (ha:(0≤a0∧a0<18446744073709551616)∧(0≤a1∧a1<18446744073709551616)∧(0≤a2∧a2<18446744073709551616)∧(0≤a3∧a3<18446744073709551616))
  (hb:(0≤b0∧b0<18446744073709551616)∧(0≤b1∧b1<18446744073709551616)∧(0≤b2∧b2<18446744073709551616)∧(0≤b3∧b3<18446744073709551616)) :
  ∃ c1 c2 c3:Int,c1=-((a0-b0-0)/18446744073709551616)∧c2=-((a1-b1-c1)/18446744073709551616)∧c3=-((a2-b2-c2)/18446744073709551616)∧
   f110 a0 a1 a2 a3 b0 b1 b2 b3=some ((a0-b0-0)%18446744073709551616,(a1-b1-c1)%18446744073709551616,(a2-b2-c2)%18446744073709551616,(a3-b3-c3)%18446744073709551616):=by
 obtain ⟨⟨p0,q0⟩,⟨p1,q1⟩,⟨p2,q2⟩,⟨p3,q3⟩⟩:=ha
 obtain ⟨⟨r0,s0⟩,⟨r1,s1⟩,⟨r2,s2⟩,⟨r3,s3⟩⟩:=hb
 refine ⟨_,_,_,rfl,rfl,rfl,?_⟩
 unfold f110
 rw [lf1]
 simp only [f110_l1]
 rw [show decide ((0:Int)<4)=true from rfl]
 simp only [cond_true]
 rw [D4 (by decide),pick0,show IntKind.i64.wrap ((0:Int)+1)=1 from rfl,K1 a0 b0 0 p0 q0 r0 s0 (by omega) (by omega) (fun c v=>Fq _ 18446744073709551615 (c,1,v,0,0,0)),lf2]
 simp only [f110_l1]
 rw [show decide ((1:Int)<4)=true from rfl]
 simp only [cond_true]
 rw [D4 (by decide),pick1,show IntKind.i64.wrap ((1:Int)+1)=2 from rfl,K1 a1 b1 _ p1 q1 r1 s1 (by omega) (by omega) (fun c v=>Fq _ 18446744073709551614 (c,2,_,v,0,0)),lf3]
 simp only [f110_l1]
 rw [show decide ((2:Int)<4)=true from rfl]
 simp only [cond_true]
 rw [D4 (by decide),pick2,show IntKind.i64.wrap ((2:Int)+1)=3 from rfl,K1 a2 b2 _ p2 q2 r2 s2 (by omega) (by omega) (fun c v=>Fq _ 18446744073709551613 (c,3,_,_,v,0)),lf4]
 simp only [f110_l1]
 rw [show decide ((3:Int)<4)=true from rfl]
 simp only [cond_true]
 rw [D4 (by decide),pick3,show IntKind.i64.wrap ((3:Int)+1)=4 from rfl,K1 a3 b3 _ p3 q3 r3 s3 (by omega) (by omega) (fun c v=>Fq _ 18446744073709551612 (c,4,_,_,_,v)),lf5]
 simp only [f110_l1]
 rw [show decide ((4:Int)<4)=false from rfl]
 rfl
theorem minus_ok (A B:Int):f110 (W0 A) (W1 A) (W2 A) (W3 A) (W0 B) (W1 B) (W2 B) (W3 B)=some (W0 (A-B),W1 (A-B),W2 (A-B),W3 (A-B)):=by
 obtain ⟨c1,c2,c3,h1,h2,h3,e⟩:=minus_w _ _ _ _ _ _ _ _ (W_range A) (W_range B)
 rw [e]
 have d1:(A-B)/18446744073709551616=A/18446744073709551616-B/18446744073709551616-c1:=by
  rw [h1];have:=md A B 0;rwa [Int.sub_zero] at this
 have d2:(A-B)/18446744073709551616/18446744073709551616=A/18446744073709551616/18446744073709551616-B/18446744073709551616/18446744073709551616-c2:=by
  rw [d1,md,h2];rfl
 have d3:(A-B)/18446744073709551616/18446744073709551616/18446744073709551616=A/18446744073709551616/18446744073709551616/18446744073709551616-B/18446744073709551616/18446744073709551616/18446744073709551616-c3:=by
  rw [d2,md,h3];rfl
 have e0:(W0 A-W0 B-0)%18446744073709551616=W0 (A-B):=by
  have:=mm A B 0;rw [Int.sub_zero] at this ⊢;rw [Int.sub_zero] at this;exact this
 have e1:(W1 A-W1 B-c1)%18446744073709551616=W1 (A-B):=by
  unfold W1;rw [d1];exact mm _ _ _
 have e2:(W2 A-W2 B-c2)%18446744073709551616=W2 (A-B):=by
  unfold W2;rw [d2];exact mm _ _ _
 have e3:(W3 A-W3 B-c3)%18446744073709551616=W3 (A-B):=by
  unfold W3;rw [d3];exact mm _ _ _
 rw [e0,e1,e2,e3]
theorem less_w (a0 a1 a2 a3 b0 b1 b2 b3:Int):f109 a0 a1 a2 a3 b0 b1 b2 b3=some (decide (a3<b3∨(a3=b3∧(a2<b2∨(a2=b2∧(a1<b1∨(a1=b1∧a0<b0))))))):=by
 have s3:∀ go,f109_l1 a0 a1 a2 a3 b0 b1 b2 b3 go 3=if a3=b3 then go (2) else some (Sum.inl (decide (a3<b3))):=fun go=>by
  unfold f109_l1
  rw [show decide ((3:Int)≥0)=true from rfl]
  simp only [cond_true]
  rw [D4 (by decide),pick3,show IntKind.i64.wrap ((3:Int)-1)=2 from rfl]
  by_cases h:a3=b3
  ·rw [show (a3 != b3)=false by simpa using h,if_pos h];rfl
  ·rw [show (a3 != b3)=true by simpa using h,if_neg h];rfl
 have s2:∀ go,f109_l1 a0 a1 a2 a3 b0 b1 b2 b3 go 2=if a2=b2 then go (1) else some (Sum.inl (decide (a2<b2))):=fun go=>by
  unfold f109_l1
  rw [show decide ((2:Int)≥0)=true from rfl]
  simp only [cond_true]
  rw [D4 (by decide),pick2,show IntKind.i64.wrap ((2:Int)-1)=1 from rfl]
  by_cases h:a2=b2
  ·rw [show (a2 != b2)=false by simpa using h,if_pos h];rfl
  ·rw [show (a2 != b2)=true by simpa using h,if_neg h];rfl
 have s1:∀ go,f109_l1 a0 a1 a2 a3 b0 b1 b2 b3 go 1=if a1=b1 then go (0) else some (Sum.inl (decide (a1<b1))):=fun go=>by
  unfold f109_l1
  rw [show decide ((1:Int)≥0)=true from rfl]
  simp only [cond_true]
  rw [D4 (by decide),pick1,show IntKind.i64.wrap ((1:Int)-1)=0 from rfl]
  by_cases h:a1=b1
  ·rw [show (a1 != b1)=false by simpa using h,if_pos h];rfl
  ·rw [show (a1 != b1)=true by simpa using h,if_neg h];rfl
 have s0:∀ go,f109_l1 a0 a1 a2 a3 b0 b1 b2 b3 go 0=if a0=b0 then go (-1) else some (Sum.inl (decide (a0<b0))):=fun go=>by
  unfold f109_l1
  rw [show decide ((0:Int)≥0)=true from rfl]
  simp only [cond_true]
  rw [D4 (by decide),pick0,show IntKind.i64.wrap ((0:Int)-1)=-1 from rfl]
  by_cases h:a0=b0
  ·rw [show (a0 != b0)=false by simpa using h,if_pos h];rfl
  ·rw [show (a0 != b0)=true by simpa using h,if_neg h];rfl
 have s4:∀ go,f109_l1 a0 a1 a2 a3 b0 b1 b2 b3 go (-1)=some (Sum.inr ()):=fun go=>by
  unfold f109_l1
  rw [show decide ((-1:Int)≥0)=false from rfl]
  rfl
 have hl:Fq (fun go x=>f109_l1 a0 a1 a2 a3 b0 b1 b2 b3 go x) Fv 3=if a3=b3 then (if a2=b2 then (if a1=b1 then (if a0=b0 then some (Sum.inr ()) else some (Sum.inl (decide (a0<b0)))) else some (Sum.inl (decide (a1<b1)))) else some (Sum.inl (decide (a2<b2)))) else some (Sum.inl (decide (a3<b3))):=by
  rw [lf1,s3,lf2,s2,lf3,s1,lf4,s0,lf5,s4]
 unfold f109
 rw [hl]
 by_cases h3:a3=b3
 ·by_cases h2:a2=b2
  ·by_cases h1:a1=b1
   ·by_cases h0:a0=b0
    ·rw [if_pos h3,if_pos h2,if_pos h1,if_pos h0]
     simp only [Bh,F4,Option.some.injEq]
     simp [h0,h1,h2,h3]
    ·rw [if_pos h3,if_pos h2,if_pos h1,if_neg h0]
     simp only [Bh,Fu,Option.some.injEq]
     simp [h1,h2,h3]
   ·rw [if_pos h3,if_pos h2,if_neg h1]
    simp only [Bh,Fu,Option.some.injEq]
    simp [h1,h2,h3]
  ·rw [if_pos h3,if_neg h2]
   simp only [Bh,Fu,Option.some.injEq]
   simp [h2,h3]
 ·rw [if_neg h3]
  simp only [Bh,Fu,Option.some.injEq]
  simp [h3]
def four (A:Int):Prop:=0≤A/18446744073709551616/18446744073709551616/18446744073709551616∧A/18446744073709551616/18446744073709551616/18446744073709551616<18446744073709551616
theorem four_of {A:Int} (h0:0≤A) (h1:A≤1000000000000000000000000000000000000000000000):four A:=by
 have h2:0≤A/18446744073709551616:=by omega
 have h3:A/18446744073709551616≤100000000000000000000000000:=by omega
 generalize A/18446744073709551616=s at *
 have h4:0≤s/18446744073709551616:=by omega
 have h5:s/18446744073709551616≤100000000:=by omega
 unfold four
 generalize hs:s/18446744073709551616=t at *
 omega
theorem less_ok (A B:Int) (ha:four A) (hb:four B):f109 (W0 A) (W1 A) (W2 A) (W3 A) (W0 B) (W1 B) (W2 B) (W3 B)=some (decide (A<B)):=by
 rw [less_w]
 congr 1
 rw [decide_eq_decide]
 unfold four at ha hb
 rw [lt_digit A B,lt_digit (A/18446744073709551616) (B/18446744073709551616),lt_digit (A/18446744073709551616/18446744073709551616) (B/18446744073709551616/18446744073709551616)]
 unfold W0 W1 W2 W3
 generalize ha3:A/18446744073709551616/18446744073709551616/18446744073709551616=a3 at *
 generalize hb3:B/18446744073709551616/18446744073709551616/18446744073709551616=b3 at *
 rw [show a3%18446744073709551616=a3 by omega,show b3%18446744073709551616=b3 by omega]
 have k2:a3=b3→(A/18446744073709551616/18446744073709551616=B/18446744073709551616/18446744073709551616↔A/18446744073709551616/18446744073709551616%18446744073709551616=B/18446744073709551616/18446744073709551616%18446744073709551616):=fun h=>by
  subst ha3;rw [← hb3] at h
  generalize A/18446744073709551616/18446744073709551616=s at *
  generalize B/18446744073709551616/18446744073709551616=t at *
  omega
 have k1:A/18446744073709551616/18446744073709551616=B/18446744073709551616/18446744073709551616→(A/18446744073709551616=B/18446744073709551616↔A/18446744073709551616%18446744073709551616=B/18446744073709551616%18446744073709551616):=fun h=>by
  generalize A/18446744073709551616=s at *
  generalize B/18446744073709551616=t at *
  omega
 have k0:A/18446744073709551616/18446744073709551616=B/18446744073709551616/18446744073709551616→a3=b3:=fun h=>by rw [← ha3,← hb3,h]
 have k00:A/18446744073709551616=B/18446744073709551616→A/18446744073709551616/18446744073709551616=B/18446744073709551616/18446744073709551616:=fun h=>by rw [h]
 generalize A/18446744073709551616/18446744073709551616%18446744073709551616=x2 at *
 generalize B/18446744073709551616/18446744073709551616%18446744073709551616=y2 at *
 generalize A/18446744073709551616%18446744073709551616=x1 at *
 generalize B/18446744073709551616%18446744073709551616=y1 at *
 generalize (A%18446744073709551616<B%18446744073709551616)=p0 at *
 generalize A/18446744073709551616/18446744073709551616=x22 at *
 generalize B/18446744073709551616/18446744073709551616=y22 at *
 generalize A/18446744073709551616=x11 at *
 generalize B/18446744073709551616=y11 at *
 constructor
 ·rintro (h | ⟨rfl,h | ⟨rfl,h | ⟨rfl,h⟩⟩⟩)
  ·exact .inl (.inl (.inl h))
  ·exact .inl (.inl (.inr ⟨rfl,h⟩))
  ·exact .inl (.inr ⟨(k2 rfl).2 rfl,h⟩)
  ·exact .inr ⟨(k1 ((k2 rfl).2 rfl)).2 rfl,h⟩
 ·rintro (((h | ⟨h',h⟩) | ⟨h',h⟩) | ⟨h',h⟩)
  ·exact .inl h
  ·exact .inr ⟨h',.inl h⟩
  ·exact .inr ⟨k0 h',.inr ⟨(k2 (k0 h')).1 h',.inl h⟩⟩
  ·have h2:=k00 h'
   exact .inr ⟨k0 h2,.inr ⟨(k2 (k0 h2)).1 h2,.inr ⟨(k1 h2).1 h',h⟩⟩⟩
theorem refSize_ok (v:Int) (h0 : -9223372036854775808≤v) (h1:v<9223372036854775808):f111 v=some (if v<0 then -v else v):=by
 unfold f111
 by_cases h:v<0
 ·rw [show decide (v<0)=true by simpa using h,if_pos h]
  simp only [cond_true,Option.some.injEq]
  rw [Fl (n:=v+1) (by omega) (by omega),Fl,wu,wu]
  omega
 ·rw [show decide (v<0)=false by simpa using h,if_neg h]
  simp only [cond_false,wu,Option.some.injEq]
  omega
theorem pickA {Y:Type} (a b:Option Y):pickF (0:Int) [a,b]=a:=rfl
theorem pickB {Y:Type} (a b:Option Y):pickF (1:Int) [a,b]=b:=rfl
theorem small (n:Int) (h0:0≤n) (h1:n<18446744073709551616):W0 n=n∧W1 n=0∧W2 n=0∧W3 n=0:=by
 have e:n/18446744073709551616=0:=by omega
 refine ⟨by unfold W0;omega,by unfold W1;rw [e];rfl,by unfold W2;rw [e];rfl,by unfold W3;rw [e];rfl⟩
theorem two (s p:Int) (h0:0≤s) (h1:s<18446744073709551616) (g0:0≤p) (g1:p<18446744073709551616):W0 (s+18446744073709551616*p)=s∧W1 (s+18446744073709551616*p)=p∧W2 (s+18446744073709551616*p)=0∧W3 (s+18446744073709551616*p)=0:=by
 have e:(s+18446744073709551616*p)/18446744073709551616=p:=by omega
 obtain ⟨k0,k1,k2,k3⟩:=small p g0 g1
 refine ⟨by unfold W0;omega,?_,?_,?_⟩
 ·rw [W1_eq,e];exact k0
 ·rw [W2_eq,e];exact k1
 ·rw [W3_eq,e];exact k2
theorem times_step (x y k:Int) (s:Int) (h0:0≤x) (h1:x<18446744073709551616) (A:Int) :
  f108 (W0 A) (W1 A) (W2 A) (W3 A) (x*4294967296%18446744073709551616) (x/4294967296) 0 0=some (W0 (A+4294967296*x),W1 (A+4294967296*x),W2 (A+4294967296*x),W3 (A+4294967296*x)):=by
 have h:=plusN_ok A (4294967296*x)
 obtain ⟨t0,t1,t2,t3⟩:=two (x*4294967296%18446744073709551616) (x/4294967296) (by omega) (by omega) (by omega) (by omega)
 have e:x*4294967296%18446744073709551616+18446744073709551616*(x/4294967296)=4294967296*x:=by omega
 rw [e] at t0 t1 t2 t3
 rw [t0,t1,t2,t3] at h
 exact h
theorem times_loop (x y:Int) (h0:0≤x) (h1:x≤9223372036854775808) (g0:0≤y) (g1:y≤9223372036854775808) :
  Fq (fun go (z:Int×Int×Int×Int×Int)=>f86_l1 x y go z.1 z.2.1 z.2.2.1 z.2.2.2.1 z.2.2.2.2) Fv ((0:Int),(IntKind.u64.wrap ((Ft IntKind.u64 (fun p q=>p&&& q) x (4294967295:Int))*(Ft IntKind.u64 (fun p q=>p&&& q) y (4294967295:Int)))),(IntKind.u64.wrap ((Int.fdiv x (2 ^ min (Int.toNat (32:Int)) (IntKind.bits IntKind.u64)))*(Int.fdiv y (2 ^ min (Int.toNat (32:Int)) (IntKind.bits IntKind.u64))))),(0:Int),(0:Int)) =
   some (W0 (x*y),W1 (x*y),W2 (x*y),W3 (x*y)):=by
 have x1:=Int.mul_ediv_add_emod x 4294967296
 have y1:=Int.mul_ediv_add_emod y 4294967296
 have x2:x<18446744073709551616:=by omega
 have y2:y<18446744073709551616:=by omega
 obtain ⟨p0,p1⟩:=Jt (x/4294967296) (y/4294967296) (by omega) (by omega) (by omega) (by omega)
 obtain ⟨q0,q1⟩:=Jt (x/4294967296) (y%4294967296) (by omega) (by omega) (by omega) (by omega)
 obtain ⟨r0,r1⟩:=Jt (x%4294967296) (y/4294967296) (by omega) (by omega) (by omega) (by omega)
 obtain ⟨s0,s1⟩:=Jt (x%4294967296) (y%4294967296) (by omega) (by omega) (by omega) (by omega)
 have hxy:x*y=x%4294967296*(y%4294967296)+18446744073709551616*(x/4294967296*(y/4294967296))+4294967296*(x%4294967296*(y/4294967296))+4294967296*(x/4294967296*(y%4294967296)):=by
  conv=>lhs;rw [← x1,← y1,Int.add_mul,Int.mul_add,Int.mul_add]
  have e1:4294967296*(x/4294967296)*(4294967296*(y/4294967296))=18446744073709551616*(x/4294967296*(y/4294967296)):=by
   rw [show (18446744073709551616:Int)=4294967296*4294967296 from rfl];ac_rfl
  have e2:4294967296*(x/4294967296)*(y%4294967296)=4294967296*(x/4294967296*(y%4294967296)):=Int.mul_assoc _ _ _
  have e3:x%4294967296*(4294967296*(y/4294967296))=4294967296*(x%4294967296*(y/4294967296)):=Int.mul_left_comm _ _ _
  rw [e1,e2,e3];omega
 have w0:∀ n:Int,0≤n→n≤18446744065119617025→IntKind.u64.wrap n=n:=fun n h0 h1=>by rw [wu];omega
 have sh:((2:Int) ^ min (Int.toNat (32:Int)) (IntKind.bits IntKind.u64))=4294967296:=rfl
 have st0:∀ go a b c d,f86_l1 x y go 0 a b c d=Ey (f108 a b c d (x%4294967296*(y/4294967296)*4294967296%18446744073709551616) (x%4294967296*(y/4294967296)/4294967296) 0 0) fun r9=>go (1,r9.1,r9.2.1,r9.2.2.1,r9.2.2.2):=fun go a b c d=>by
  unfold f86_l1
  rw [show decide ((0:Int)<2)=true from rfl]
  simp only [cond_true]
  rw [D4 (by decide),pickA,show IntKind.i64.wrap ((0:Int)+1)=1 from rfl]
  simp only [sh32u,and32 x h0 x2,and32 y g0 y2,w0 _ r0 r1,wu];rw [sh]
 have st1:∀ go a b c d,f86_l1 x y go 1 a b c d=Ey (f108 a b c d (x/4294967296*(y%4294967296)*4294967296%18446744073709551616) (x/4294967296*(y%4294967296)/4294967296) 0 0) fun r9=>go (2,r9.1,r9.2.1,r9.2.2.1,r9.2.2.2):=fun go a b c d=>by
  unfold f86_l1
  rw [show decide ((1:Int)<2)=true from rfl]
  simp only [cond_true]
  rw [D4 (by decide),pickB,show IntKind.i64.wrap ((1:Int)+1)=2 from rfl]
  simp only [sh32u,and32 x h0 x2,and32 y g0 y2,w0 _ q0 q1,wu];rw [sh]
 have st2:∀ go a b c d,f86_l1 x y go 2 a b c d=some (a,b,c,d):=fun go a b c d=>by
  unfold f86_l1
  rw [show decide ((2:Int)<2)=false from rfl]
  rfl
 obtain ⟨t0,t1,t2,t3⟩:=two (x%4294967296*(y%4294967296)) (x/4294967296*(y/4294967296)) s0 (by omega) p0 (by omega)
 rw [and32 x h0 (by omega),and32 y g0 (by omega),sh32u,sh32u,w0 _ s0 s1,w0 _ p0 p1,lf1]
 simp only
 rw [st0]
 have f1:=times_step (x%4294967296*(y/4294967296)) 0 0 0 r0 (by omega) (x%4294967296*(y%4294967296)+18446744073709551616*(x/4294967296*(y/4294967296)))
 rw [t0,t1,t2,t3] at f1
 rw [f1]
 simp only [Bh]
 rw [lf2]
 simp only
 rw [st1,times_step (x/4294967296*(y%4294967296)) 0 0 0 q0 (by omega)]
 simp only [Bh]
 rw [lf3]
 simp only
 rw [st2,← hxy]
theorem times_ok (a b:Int) (a0 : -9223372036854775808≤a) (a1:a<9223372036854775808) (b0 : -9223372036854775808≤b) (b1:b<9223372036854775808) :
  ∃ (s:Bool) (P:Int),f86 a b=some (s,W0 P,W1 P,W2 P,W3 P)∧0≤P∧P≤85070591730234615865843651857942052864∧(if s then -P else P)=a*b:=by
 have key:∀ x y:Int,0≤x→x≤9223372036854775808→0≤y→y≤9223372036854775808→0≤x*y∧x*y≤85070591730234615865843651857942052864:=fun x y h0 h1 g0 g1=>⟨Int.mul_nonneg h0 g0,Int.mul_le_mul h1 g1 g0 (by decide)⟩
 unfold f86
 rw [refSize_ok a a0 a1,refSize_ok b b0 b1]
 simp only [Bh]
 by_cases ha:a<0 <;> by_cases hb:b<0
 ·rw [if_pos ha,if_pos hb,times_loop _ _ (by omega) (by omega) (by omega) (by omega)]
  obtain ⟨k0,k1⟩:=key (-a) (-b) (by omega) (by omega) (by omega) (by omega)
  refine ⟨false,-a * -b,?_,k0,k1,by rw [Int.neg_mul_neg];rfl⟩
  simp only [Bh]
  rw [show (!(decide (a<0)==decide (b<0)))=false by simp [ha,hb]]
 ·rw [if_pos ha,if_neg hb,times_loop _ _ (by omega) (by omega) (by omega) (by omega)]
  obtain ⟨k0,k1⟩:=key (-a) b (by omega) (by omega) (by omega) (by omega)
  refine ⟨true,-a*b,?_,k0,k1,by rw [if_pos rfl,Int.neg_mul,Int.neg_neg]⟩
  simp only [Bh]
  rw [show (!(decide (a<0)==decide (b<0)))=true by simp [ha,hb]]
 ·rw [if_neg ha,if_pos hb,times_loop _ _ (by omega) (by omega) (by omega) (by omega)]
  obtain ⟨k0,k1⟩:=key a (-b) (by omega) (by omega) (by omega) (by omega)
  refine ⟨true,a * -b,?_,k0,k1,by rw [if_pos rfl,Int.mul_neg,Int.neg_neg]⟩
  simp only [Bh]
  rw [show (!(decide (a<0)==decide (b<0)))=true by simp [ha,hb]]
 ·rw [if_neg ha,if_neg hb,times_loop _ _ (by omega) (by omega) (by omega) (by omega)]
  obtain ⟨k0,k1⟩:=key a b (by omega) (by omega) (by omega) (by omega)
  refine ⟨false,a*b,?_,k0,k1,rfl⟩
  simp only [Bh]
  rw [show (!(decide (a<0)==decide (b<0)))=false by simp [ha,hb]]
theorem signed_ok (s t:Bool) (A B:Int) (a0:0≤A) (a1:A≤100000000000000000000000000000000000000000000) (b0:0≤B) (b1:B≤100000000000000000000000000000000000000000000) :
  ∃ (u:Bool) (C:Int),f82 s (W0 A) (W1 A) (W2 A) (W3 A) t (W0 B) (W1 B) (W2 B) (W3 B)=some (u,W0 C,W1 C,W2 C,W3 C)∧0≤C∧C≤A+B∧(if u then -C else C)=(if s then -A else A)+(if t then -B else B):=by
 unfold f82
 by_cases h:s=t
 ·subst h
  rw [show (s==s)=true by simp]
  simp only [cond_true]
  rw [plusN_ok]
  refine ⟨s,A+B,rfl,by omega,by omega,?_⟩
  cases s
  ·rfl
  ·simp only [if_true];omega
 ·rw [show (s==t)=false by simpa using h,less_ok A B (four_of a0 (by omega)) (four_of b0 (by omega))]
  simp only [cond_false,Bh]
  by_cases hl:A<B
  ·rw [show decide (A<B)=true by simpa using hl]
   simp only [cond_true]
   rw [minus_ok]
   refine ⟨t,B-A,rfl,by omega,by omega,?_⟩
   cases s <;> cases t <;> simp at h ⊢ <;> omega
  ·rw [show decide (A<B)=false by simpa using hl]
   simp only [cond_false]
   rw [minus_ok]
   refine ⟨s,A-B,rfl,by omega,by omega,?_⟩
   cases s <;> cases t <;> simp at h ⊢ <;> omega
def Gi (q N:Nat):Nat:=N/2 ^ (64*q)%2 ^ 64
theorem word_lt (q N:Nat):Gi q N<18446744073709551616:=Nat.mod_lt _ (by decide)
theorem Jy (q N j:Nat):(Gi q N).testBit j=(decide (j<64)&&N.testBit (j+64*q)):=by
 unfold Gi;rw [Nat.testBit_mod_two_pow,Nat.testBit_div_two_pow]
theorem Gc (D m q:Nat):Gi q (D%2 ^ (m+1))=if q=m/64∧D.testBit m=true then Gi q (D%2 ^ m)||| 2 ^ (m%64) else Gi q (D%2 ^ m):=by
 apply Nat.eq_of_testBit_eq
 intro j
 by_cases h:q=m/64∧D.testBit m=true
 ·rw [if_pos h,Nat.testBit_or,Jy,Jy,Nat.testBit_two_pow,Nat.testBit_mod_two_pow,Nat.testBit_mod_two_pow]
  by_cases hj:m%64=j
  ·have e:j+64*q=m:=by omega
   have h64:j<64:=by omega
   rw [e,h.2]
   simp [hj,h64]
  ·by_cases h64:j<64
   ·have hn:j+64*q≠m:=by omega
    have e:decide (j+64*q<m+1)=decide (j+64*q<m):=by rw [decide_eq_decide];omega
    simp [e,h64,hj]
   ·simp [h64,hj]
 ·rw [if_neg h,Jy,Jy,Nat.testBit_mod_two_pow,Nat.testBit_mod_two_pow]
  by_cases h64:j<64
  ·by_cases he:j+64*q=m
   ·have hb:D.testBit m=false:=by
     cases hd:D.testBit m
     ·rfl
     ·exact absurd ⟨by omega,hd⟩ h
    rw [he,hb]
    simp
   ·have e:decide (j+64*q<m+1)=decide (j+64*q<m):=by rw [decide_eq_decide];omega
    rw [e]
  ·simp [h64]
theorem W_word (N:Nat):W0 (N:Int)=(Gi 0 N:Int)∧W1 (N:Int)=(Gi 1 N:Int)∧W2 (N:Int)=(Gi 2 N:Int)∧W3 (N:Int)=(Gi 3 N:Int):=by
 have d1:N/2 ^ (64*1)=N/18446744073709551616:=rfl
 have d2:N/2 ^ (64*2)=N/18446744073709551616/18446744073709551616:=by rw [Nat.div_div_eq_div_mul]
 have d3:N/2 ^ (64*3)=N/18446744073709551616/18446744073709551616/18446744073709551616:=by rw [Nat.div_div_eq_div_mul,Nat.div_div_eq_div_mul]
 have m:(2:Nat) ^ 64=18446744073709551616:=rfl
 have m0:N/2 ^ (64*0)=N:=Nat.div_one N
 unfold Gi
 rw [d1,d2,d3,m0,m]
 unfold W0 W1 W2 W3
 refine ⟨?_,?_,?_,?_⟩ <;> simp
theorem bit_word (q N r:Nat) (hr:r<64):Ft IntKind.u64 (fun p q=>p&&& q) (Int.fdiv (Gi q N:Int) (2 ^ r)) 1=if N.testBit (r+64*q)=true then 1 else 0:=by
 rw [Int.fdiv_eq_ediv_of_nonneg _ (Int.le_of_lt (Int.pow_pos (by decide)))]
 have e:((Gi q N:Int)/2 ^ r)=((Gi q N/2 ^ r:Nat):Int):=by simp
 have hl:=word_lt q N
 have hd:=Nat.div_le_self (Gi q N) (2 ^ r)
 have hb:=Jy q N r
 rw [Nat.testBit_eq_decide_div_mod_eq] at hb
 rw [show decide (r<64)=true by simpa using hr,Bool.true_and] at hb
 rw [← hb,e]
 generalize Gi q N/2 ^ r=x at *
 rw [and1 _ (by omega) (by omega)]
 by_cases h:x%2=1
 ·rw [if_pos (by simpa using h)];omega
 ·rw [if_neg (by simpa using h)];omega
theorem idx (i:Nat) (hi:i<256):IntKind.i64.wrap (Int.tdiv (i:Int) 64)=((i/64:Nat):Int)∧IntKind.u64.wrap (Int.tmod (i:Int) 64)=((i%64:Nat):Int)∧
  min (Int.toNat ((i%64:Nat):Int)) (IntKind.bits IntKind.u64)=i%64:=by
 refine ⟨?_,?_,?_⟩
 ·rw [Int.tdiv_eq_ediv_of_nonneg (by omega),Fl];omega
 ·rw [Int.tmod_eq_emod_of_nonneg (by omega),wu];omega
 ·rw [show IntKind.bits IntKind.u64=64 from rfl];omega
theorem bit_ok (N i:Nat) (hi:i<256):f112 (W0 N) (W1 N) (W2 N) (W3 N) (i:Int)=some (if N.testBit i=true then 1 else 0):=by
 obtain ⟨e0,e1,e2,e3⟩:=W_word N
 obtain ⟨t1,t2,t3⟩:=idx i hi
 unfold f112
 rw [t1,t2,t3,e0,e1,e2,e3,D4,D4,D4,D4,D4]
 rw [bit_word 0 N _ (by omega),bit_word 1 N _ (by omega),bit_word 2 N _ (by omega),bit_word 3 N _ (by omega)]
 have h:i/64=0∨i/64=1∨i/64=2∨i/64=3:=by omega
 rcases h with h | h | h | h
 ·rw [h,show i%64+64*0=i by omega];exact pick0 _ _ _ _
 ·rw [h,show i%64+64*1=i by omega];exact pick1 _ _ _ _
 ·rw [h,show i%64+64*2=i by omega];exact pick2 _ _ _ _
 ·rw [h,show i%64+64*3=i by omega];exact pick3 _ _ _ _
theorem or_word (q C r:Nat) (hr:r<64):Ft IntKind.u64 (fun p q=>p||| q) (Gi q C:Int) (IntKind.u64.wrap (1*2 ^ r))=((Gi q C||| 2 ^ r:Nat):Int):=by
 have hp:(2:Nat) ^ r<2 ^ 64:=Nat.pow_lt_pow_right (by decide) hr
 rw [show (2:Nat) ^ 64=18446744073709551616 from rfl] at hp
 have e:(1*2 ^ r:Int)=((2 ^ r:Nat):Int):=by simp
 have hl:=word_lt q C
 rw [e]
 generalize 2 ^ r=x at *
 rw [wu,show (x:Int)%18446744073709551616=(x:Int) by omega,or_nat _ _ (by omega) (by omega) (by omega) (by omega)]
 rfl
theorem halve_loop (N:Nat) (hN:N<2 ^ 256) :
  Fq (fun go (x:Int×Int×Int×Int×Int)=>f85_l1 (W0 N) (W1 N) (W2 N) (W3 N) 32 go x.1 x.2.1 x.2.2.1 x.2.2.2.1 x.2.2.2.2) Fv (32,(0:Int),(0:Int),(0:Int),(0:Int)) =
   some ((Gi 0 (N/4294967296):Int),(Gi 1 (N/4294967296):Int),(Gi 2 (N/4294967296):Int),(Gi 3 (N/4294967296):Int)):=by
 have hD:∀ m,(N/4294967296).testBit m=N.testBit (m+32):=fun m=>Nat.testBit_div_two_pow (n:=32) N m
 have hD2:N/4294967296%2 ^ 224=N/4294967296:=by
  apply Nat.mod_eq_of_lt
  rw [Nat.div_lt_iff_lt_mul (by decide)]
  exact hN
 generalize hDD:N/4294967296=D at *
 have H:∀ x:Int×Int×Int×Int×Int,(∃ m:Nat,m≤224∧x=(((m+32:Nat):Int),(Gi 0 (D%2 ^ m):Int),(Gi 1 (D%2 ^ m):Int),(Gi 2 (D%2 ^ m):Int),(Gi 3 (D%2 ^ m):Int)))→
   (∃ z,(∀ go,f85_l1 (W0 N) (W1 N) (W2 N) (W3 N) 32 go x.1 x.2.1 x.2.2.1 x.2.2.2.1 x.2.2.2.2=some z)∧z=((Gi 0 D:Int),(Gi 1 D:Int),(Gi 2 D:Int),(Gi 3 D:Int)))∨
   (∃ y:Int×Int×Int×Int×Int,(∀ go,f85_l1 (W0 N) (W1 N) (W2 N) (W3 N) 32 go x.1 x.2.1 x.2.2.1 x.2.2.2.1 x.2.2.2.2=go y)∧
    (∃ m:Nat,m≤224∧y=(((m+32:Nat):Int),(Gi 0 (D%2 ^ m):Int),(Gi 1 (D%2 ^ m):Int),(Gi 2 (D%2 ^ m):Int),(Gi 3 (D%2 ^ m):Int)))∧((256:Int)-y.1).toNat<((256:Int)-x.1).toNat):=by
  rintro _ ⟨m,hm,rfl⟩
  by_cases hlt:m<224
  ·right
   refine ⟨(((m+1+32:Nat):Int),(Gi 0 (D%2 ^ (m+1)):Int),(Gi 1 (D%2 ^ (m+1)):Int),(Gi 2 (D%2 ^ (m+1)):Int),(Gi 3 (D%2 ^ (m+1)):Int)),fun go=>?_,⟨m+1,hlt,rfl⟩,by simp only;omega⟩
   unfold f85_l1
   simp only
   rw [show decide (((m+32:Nat):Int)<256)=true by simp;omega]
   simp only [cond_true]
   rw [bit_ok N (m+32) (by omega)]
   simp only [Bh]
   rw [← hD]
   have hi:IntKind.i64.wrap (((m+32:Nat):Int)+1)=((m+1+32:Nat):Int):=by rw [Fl];omega
   have hs:IntKind.i64.wrap (((m+32:Nat):Int)-32)=(m:Int):=by rw [Fl];omega
   obtain ⟨t1,t2,t3⟩:=idx m (by omega)
   by_cases hb:D.testBit m=true
   ·rw [if_pos hb,show ((1:Int)==1)=true from rfl]
    simp only [cond_true]
    rw [hi,hs,t1,t2,t3,D4,D4,D4,D4,D4]
    rw [or_word 0 _ _ (by omega),or_word 1 _ _ (by omega),or_word 2 _ _ (by omega),or_word 3 _ _ (by omega)]
    have h:m/64=0∨m/64=1∨m/64=2∨m/64=3:=by omega
    rcases h with h | h | h | h
    ·have k0:=Gc D m 0;have k1:=Gc D m 1;have k2:=Gc D m 2;have k3:=Gc D m 3
     rw [if_pos ⟨by omega,hb⟩] at k0
     rw [iNo] at k1 k2 k3
     rw [k0,k1,k2,k3,h]
     exact pick0 _ _ _ _
    ·have k0:=Gc D m 0;have k1:=Gc D m 1;have k2:=Gc D m 2;have k3:=Gc D m 3
     rw [if_pos ⟨by omega,hb⟩] at k1
     rw [iNo] at k0 k2 k3
     rw [k0,k1,k2,k3,h]
     exact pick1 _ _ _ _
    ·have k0:=Gc D m 0;have k1:=Gc D m 1;have k2:=Gc D m 2;have k3:=Gc D m 3
     rw [if_pos ⟨by omega,hb⟩] at k2
     rw [iNo] at k0 k1 k3
     rw [k0,k1,k2,k3,h]
     exact pick2 _ _ _ _
    ·have k0:=Gc D m 0;have k1:=Gc D m 1;have k2:=Gc D m 2;have k3:=Gc D m 3
     rw [if_pos ⟨by omega,hb⟩] at k3
     rw [iNo] at k0 k1 k2
     rw [k0,k1,k2,k3,h]
     exact pick3 _ _ _ _
   ·rw [if_neg hb,show ((0:Int)==1)=false from rfl]
    simp only [cond_false]
    have k:∀ q,Gi q (D%2 ^ (m+1))=Gi q (D%2 ^ m):=fun q=>by rw [Gc,if_neg (fun h=>hb h.2)]
    rw [hi,k,k,k,k]
  ·left
   have:m=224:=by omega
   subst this
   refine ⟨_,fun go=>?_,rfl⟩
   unfold f85_l1
   simp only
   rw [show decide ((((224+32:Nat)):Int)<256)=false from rfl,hD2]
   rfl
 have z0:∀ q,Gi q (D%2 ^ 0)=0:=fun q=>by
  rw [Nat.pow_zero,Nat.mod_one];unfold Gi;rw [Nat.zero_div]
 obtain ⟨z,e,rfl⟩:=Gd (B:=fun go (x:Int×Int×Int×Int×Int)=>f85_l1 (W0 N) (W1 N) (W2 N) (W3 N) 32 go x.1 x.2.1 x.2.2.1 x.2.2.2.1 x.2.2.2.2) _ (fun x=>((256:Int)-x.1).toNat) _ H
  (32,(0:Int),(0:Int),(0:Int),(0:Int)) ⟨0,by decide,by rw [z0,z0,z0,z0];rfl⟩ (by decide)
 exact e
theorem low_bits (N m:Nat):N%2 ^ (m+1)=0↔N%2 ^ m=0∧N.testBit m=false:=by
 rw [Nat.testBit_eq_decide_div_mod_eq,Nat.mod_pow_succ]
 have hp:0<2 ^ m:=Nat.two_pow_pos m
 have h2:N/2 ^ m%2<2:=Nat.mod_lt _ (by decide)
 generalize N/2 ^ m%2=b at *
 generalize N%2 ^ m=a at *
 have hb:b=0∨b=1:=by omega
 rcases hb with rfl | rfl
 ·simp
 ·simp
  try omega
theorem more_loop (N:Nat) (o:Bool) :
  Fq (fun go (x:Bool×Int)=>f85_l3 (W0 N) (W1 N) (W2 N) (W3 N) 32 go x.1 x.2) Fv (o,0)=some (o||!(decide (N%2147483648=0))):=by
 have H:∀ x:Bool×Int,(∃ m:Nat,m≤31∧x=((o||!(decide (N%2 ^ m=0))),(m:Int)))→
   (∃ z,(∀ go,f85_l3 (W0 N) (W1 N) (W2 N) (W3 N) 32 go x.1 x.2=some z)∧z=(o||!(decide (N%2147483648=0))))∨
   (∃ y:Bool×Int,(∀ go,f85_l3 (W0 N) (W1 N) (W2 N) (W3 N) 32 go x.1 x.2=go y)∧
    (∃ m:Nat,m≤31∧y=((o||!(decide (N%2 ^ m=0))),(m:Int)))∧((31:Int)-y.2).toNat<((31:Int)-x.2).toNat):=by
  rintro _ ⟨m,hm,rfl⟩
  have w31:IntKind.i64.wrap ((32:Int)-1)=31:=rfl
  by_cases hlt:m<31
  ·right
   refine ⟨((o||!(decide (N%2 ^ (m+1)=0))),((m+1:Nat):Int)),fun go=>?_,⟨m+1,hlt,rfl⟩,by simp only;omega⟩
   unfold f85_l3
   simp only
   rw [w31,show decide ((m:Int)<31)=true by simp;omega]
   simp only [cond_true]
   rw [show IntKind.i64.wrap ((m:Int)+1)=((m+1:Nat):Int) by rw [Fl];omega]
   have lb:=low_bits N m
   by_cases h:(o||!(decide (N%2 ^ m=0)))=true
   ·rw [h]
    simp only [cond_true]
    have:(o||!(decide (N%2 ^ (m+1)=0)))=true:=by
     cases o
     ·simp only [Bool.false_or,Bool.not_eq_true',decide_eq_false_iff_not] at h ⊢
      exact fun h2=>h (lb.1 h2).1
     ·rfl
    rw [this]
   ·have hf:(o||!(decide (N%2 ^ m=0)))=false:=by simpa using h
    rw [hf]
    simp only [cond_false]
    rw [bit_ok N m (by omega)]
    simp only [Bh]
    have ho:o=false:=by cases o <;> simp at hf ⊢
    have hz:N%2 ^ m=0:=by subst ho;simpa using hf
    subst ho
    cases hb:N.testBit m
    ·have:N%2 ^ (m+1)=0:=lb.2 ⟨hz,hb⟩
     rw [this]
     rfl
    ·have:N%2 ^ (m+1)≠0:=fun h2=>by have:=(lb.1 h2).2;rw [hb] at this;exact Bool.noConfusion this
     rw [show decide (N%2 ^ (m+1)=0)=false by simpa using this]
     rfl
  ·left
   have:m=31:=by omega
   subst this
   refine ⟨_,fun go=>?_,rfl⟩
   unfold f85_l3
   simp only
   rw [w31,show decide (((31:Nat):Int)<31)=false from rfl]
   rfl
 obtain ⟨z,e,rfl⟩:=Gd (B:=fun go (x:Bool×Int)=>f85_l3 (W0 N) (W1 N) (W2 N) (W3 N) 32 go x.1 x.2) _ (fun x=>((31:Int)-x.2).toNat) _ H
  (o,0) ⟨0,by decide,by rw [Nat.pow_zero,Nat.mod_one];simp⟩ (by simp)
 exact e
theorem rhe_neg (S:Int):rhe (-S)=-rhe S:=by
 unfold rhe
 split <;> split <;> omega
theorem halved_ok (s:Bool) (A:Int) (h0:0≤A) (h1:A≤100000000000000000000000000000000000000000000) :
  f85 s (W0 A) (W1 A) (W2 A) (W3 A) 32=some (s,W0 (rhe A),W1 (rhe A),W2 (rhe A),W3 (rhe A)):=by
 obtain ⟨N,rfl⟩:=Int.eq_ofNat_of_zero_le h0
 have hN:N<2 ^ 256:=by
  have:(2:Nat) ^ 256=115792089237316195423570985008687907853269984665640564039457584007913129639936:=by decide
  omega
 unfold f85
 rw [halve_loop N hN]
 simp only [Bh]
 obtain ⟨e0,e1,e2,e3⟩:=W_word (N/4294967296)
 rw [← e0,← e1,← e2,← e3]
 have hd:((N/4294967296:Nat):Int)=(N:Int)/4294967296:=by omega
 rw [hd]
 have hj:f85_j2 (W0 N) (W1 N) (W2 N) (W3 N) 32=some (if N.testBit 31=true then Sum.inl () else Sum.inr ()):=by
  unfold f85_j2
  rw [show ((32:Int)==0)=false from rfl]
  simp only [cond_false]
  have:=bit_ok N 31 (by decide)
  rw [show IntKind.i64.wrap ((32:Int)-1)=((31:Nat):Int) from rfl,this]
  simp only [Bh]
  cases N.testBit 31 <;> rfl
 rw [hj]
 have hb:N.testBit 31=decide (N/2147483648%2=1):=Nat.testBit_eq_decide_div_mod_eq
 by_cases hbit:N.testBit 31=true
 ·rw [if_pos hbit]
  rw [hb] at hbit
  have hbit:N/2147483648%2=1:=by simpa using hbit
  simp only [Bh,Fu]
  rw [more_loop]
  simp only [Bh]
  have w0:W0 ((N:Int)/4294967296)=(N:Int)/4294967296%18446744073709551616:=rfl
  have ha:Ft IntKind.u64 (fun p q=>p&&& q) (W0 ((N:Int)/4294967296)) 1=(N:Int)/4294967296%2:=by
   rw [and1 _ (by rw [w0];omega) (by rw [w0];omega),w0];omega
  rw [ha]
  by_cases hm:((N:Int)/4294967296%2==1||!(decide (N%2147483648=0)))=true
  ·rw [hm]
   simp only [cond_true]
   have h1:W0 1=1∧W1 1=0∧W2 1=0∧W3 1=0:=small 1 (by decide) (by decide)
   have hp:=plusN_ok ((N:Int)/4294967296) 1
   rw [h1.1,h1.2.1,h1.2.2.1,h1.2.2.2] at hp
   rw [hp]
   have hr:rhe (N:Int)=(N:Int)/4294967296+1:=by
    unfold rhe
    rw [if_pos]
    simp only [Bool.or_eq_true,beq_iff_eq,Bool.not_eq_true',decide_eq_false_iff_not] at hm
    omega
   rw [hr]
   rfl
  ·rw [show ((N:Int)/4294967296%2==1||!(decide (N%2147483648=0)))=false by simpa using hm]
   simp only [cond_false]
   have hr:rhe (N:Int)=(N:Int)/4294967296:=by
    unfold rhe
    rw [if_neg]
    simp only [Bool.or_eq_true,beq_iff_eq,Bool.not_eq_true',decide_eq_false_iff_not] at hm
    omega
   rw [hr]
 ·rw [if_neg hbit]
  rw [hb] at hbit
  have hbit:¬(N/2147483648%2=1):=by simpa using hbit
  simp only [Bh,F4]
  have hr:rhe (N:Int)=(N:Int)/4294967296:=by
   unfold rhe
   rw [if_neg]
   omega
  rw [hr]
theorem or_zero (a b:Int) (h0:0≤a) (h1:a<18446744073709551616) (g0:0≤b) (g1:b<18446744073709551616) :
  ∃ n:Nat,Ft IntKind.u64 (fun p q=>p||| q) a b=(n:Int)∧n<18446744073709551616∧(n=0↔a=0∧b=0):=by
 refine ⟨a.toNat||| b.toNat,or_nat a b h0 h1 g0 g1,?_,?_⟩
 ·exact Nat.or_lt_two_pow (n:=64) (by omega) (by omega)
 ·rw [Nat.or_eq_zero_iff];omega
theorem heldN_ok (s:Bool) (R:Int) (h0:0≤R) (h1:R≤100000000000000000000000000000000000000000000) :
  f81 s (W0 R) (W1 R) (W2 R) (W3 R)=some (sat (if s then -R else R)):=by
 obtain ⟨⟨r0,s0⟩,⟨r1,s1⟩,⟨r2,s2⟩,⟨r3,s3⟩⟩:=W_range R
 have hj:f81_j3 (W0 R) (W1 R) (W2 R) (W3 R)=some (decide (R≥9223372036854775808)):=by
  unfold f81_j3
  obtain ⟨n,e,hn,hz⟩:=or_zero (W1 R) (W2 R) r1 s1 r2 s2
  obtain ⟨p,e',hp,hz'⟩:=or_zero (n:Int) (W3 R) (by omega) (by omega) r3 s3
  rw [e,e']
  have w:W0 R=R%18446744073709551616:=rfl
  have w1:W1 R=R/18446744073709551616%18446744073709551616:=rfl
  have w2:W2 R=R/18446744073709551616/18446744073709551616%18446744073709551616:=rfl
  by_cases hp0:p=0
  ·subst hp0
   rw [show (((0:Nat):Int) != 0)=false from rfl]
   simp only [cond_false,Option.some.injEq]
   rw [decide_eq_decide]
   have hn0:(n:Int)=0:=(hz'.1 rfl).1
   have hq:=hz.1 (by omega)
   omega
  ·rw [show ((p:Int) != 0)=true by simp;omega]
   simp only [cond_true,Option.some.injEq]
   symm
   rw [decide_eq_true_iff]
   by_cases hR:R<18446744073709551616
   ·exfalso
    obtain ⟨k0,k1,k2,k3⟩:=small R h0 hR
    have hn0:n=0:=hz.2 ⟨k1,k2⟩
    exact hp0 (hz'.2 ⟨by omega,k3⟩)
   ·omega
 unfold f81 f81_j2
 rw [hj]
 simp only [Bh]
 by_cases hR:R≥9223372036854775808
 ·rw [show decide (R≥9223372036854775808)=true by simpa using hR]
  simp only [cond_true]
  cases s
  ·simp only [cond_false,Bh,F4,Option.some.injEq,sat]
   simp only [Bool.false_eq_true,if_false]
   rw [if_pos hR]
  ·simp only [cond_true,Bh,F4,Option.some.injEq,sat]
   simp only [if_true]
   rw [iNo]
   split <;> omega
 ·rw [show decide (R≥9223372036854775808)=false by simpa using hR]
  simp only [cond_false]
  obtain ⟨k0,k1,k2,k3⟩:=small R h0 (by omega)
  rw [k0]
  cases s
  ·simp only [cond_false,Bh,Fu,Option.some.injEq,sat]
   simp only [Bool.false_eq_true,if_false]
   rw [if_neg hR,iNo,Fl]
  ·simp only [cond_true,Bh,Fu,Option.some.injEq,sat]
   simp only [if_true]
   rw [iNo,iNo,Fl (n:=R) (by omega) (by omega),Fl]
   omega
theorem rhe_range (A:Int) (h0:0≤A) (h1:A≤10000000000000000000000000000000000000000000):0≤rhe A∧rhe A≤100000000000000000000000000000000000000000000:=by
 unfold rhe;split <;> omega
end Go.Proofs.Dots
namespace Go.Proofs.Num
open Go.AM Go.Proofs.PlW Go.Proofs.Dots
def Nm (v:Int) (x:Bool×Int×Int×Int×Int):Prop:=∃ A:Int,0≤A∧x=(x.1,W0 A,W1 A,W2 A,W3 A)∧v=if x.1 then -A else A
def Sm (v:Int):Prop:=-10000000000000000000000000000000000000000000≤v∧v≤10000000000000000000000000000000000000000000
theorem nm_abs {v:Int} {s:Bool} {A:Int} (h:v=if s then -A else A):v=-A∧s=true∨v=A∧s=false:=by cases s <;> simp_all
theorem w_zero:W0 0=0∧W1 0=0∧W2 0=0∧W3 0=0:=small 0 (by decide) (by decide)
theorem nm_zero:Nm 0 (false,0,0,0,0):=⟨0,Int.le_refl _,by obtain ⟨a,b,c,d⟩:=w_zero;rw [a,b,c,d],rfl⟩
theorem from_ok (n:Int) (h0 : -9223372036854775808≤n) (h1:n<9223372036854775808):∃ x,f83 n=some x∧Nm n (x.1,x.2,0,0,0):=by
 unfold f83
 rw [refSize_ok n h0 h1]
 refine ⟨(decide (n<0),if n<0 then -n else n),rfl,if n<0 then -n else n,by split <;> omega,?_,?_⟩
 ·obtain ⟨a,b,c,d⟩:=small (if n<0 then -n else n) (by split <;> omega) (by split <;> omega)
  rw [a,b,c,d]
 ·simp only
  by_cases h:n<0
  ·rw [dT h,if_pos h];simp
  ·rw [dF h,if_neg h];simp
theorem turned_ok {v:Int} {x:Bool×Int×Int×Int×Int} (h:Nm v x):∃ z,f84 x.1 x.2.1 x.2.2.1 x.2.2.2.1 x.2.2.2.2=some z∧Nm (-v) z:=by
 obtain ⟨A,h0,h1,h2⟩:=h
 rw [h1]
 refine ⟨_,rfl,A,h0,rfl,?_⟩
 rcases nm_abs h2 with ⟨e,s⟩ | ⟨e,s⟩ <;> rw [e,s] <;> simp
theorem plus_nm {a b:Int} {x y:Bool×Int×Int×Int×Int} (ha:Nm a x) (hb:Nm b y) (sa:Sm a) (sb:Sm b) :
  ∃ z,f82 x.1 x.2.1 x.2.2.1 x.2.2.2.1 x.2.2.2.2 y.1 y.2.1 y.2.2.1 y.2.2.2.1 y.2.2.2.2=some z∧Nm (a+b) z:=by
 obtain ⟨A,a0,a1,a2⟩:=ha
 obtain ⟨B,b0,b1,b2⟩:=hb
 unfold Sm at sa sb
 have la:A≤10000000000000000000000000000000000000000000:=by rcases nm_abs a2 with ⟨e,s⟩ | ⟨e,s⟩ <;> omega
 have lb:B≤10000000000000000000000000000000000000000000:=by rcases nm_abs b2 with ⟨e,s⟩ | ⟨e,s⟩ <;> omega
 obtain ⟨u,C,e,c0,c1,c2⟩:=signed_ok x.1 y.1 A B a0 (by omega) b0 (by omega)
 rw [a1,b1]
 simp only
 exact ⟨_,e,C,c0,rfl,by rw [a2,b2];exact c2.symm⟩
theorem held_nm {a:Int} {x:Bool×Int×Int×Int×Int} (ha:Nm a x) (sa:Sm a):f81 x.1 x.2.1 x.2.2.1 x.2.2.2.1 x.2.2.2.2=some (sat a):=by
 obtain ⟨A,a0,a1,a2⟩:=ha
 unfold Sm at sa
 have la:A≤10000000000000000000000000000000000000000000:=by rcases nm_abs a2 with ⟨e,s⟩ | ⟨e,s⟩ <;> omega
 rw [a1,a2]
 exact heldN_ok x.1 A a0 (by omega)
theorem sm_rhe {a:Int} (h : -1000000000000000000000000000000000000000000≤a∧a≤1000000000000000000000000000000000000000000):Sm (rhe a):=by
 unfold Sm rhe;split <;> omega
theorem halved_nm {a:Int} {x:Bool×Int×Int×Int×Int} (ha:Nm a x) (sa:Sm a):∃ z,f85 x.1 x.2.1 x.2.2.1 x.2.2.2.1 x.2.2.2.2 32=some z∧Nm (rhe a) z:=by
 obtain ⟨A,a0,a1,a2⟩:=ha
 unfold Sm at sa
 have la:A≤10000000000000000000000000000000000000000000:=by rcases nm_abs a2 with ⟨e,s⟩ | ⟨e,s⟩ <;> omega
 rw [a1]
 refine ⟨_,halved_ok x.1 A a0 (by omega),rhe A,(rhe_range A a0 la).1,rfl,?_⟩
 rcases nm_abs a2 with ⟨e,s⟩ | ⟨e,s⟩
 ·rw [e,s];simp [rhe_neg]
 ·rw [e,s];simp
theorem times_nm (a b:Int) (a0 : -9223372036854775808≤a) (a1:a<9223372036854775808) (b0 : -9223372036854775808≤b) (b1:b<9223372036854775808) :
  ∃ z,f86 a b=some z∧Nm (a*b) z:=by
 obtain ⟨s,P,e,p0,p1,p2⟩:=times_ok a b a0 a1 b0 b1
 exact ⟨_,e,P,p0,rfl,p2.symm⟩
theorem rAdd (a b:Int) (a0 : -9223372036854775808≤a) (a1:a<9223372036854775808) (b0 : -9223372036854775808≤b) (b1:b<9223372036854775808):f55 a b=some (sat (a+b)):=by
 unfold f55
 obtain ⟨x,ex,hx⟩:=from_ok a a0 a1
 obtain ⟨y,ey,hy⟩:=from_ok b b0 b1
 rw [ex,ey]
 simp only [Bh]
 obtain ⟨z,ez,hz⟩:=plus_nm hx hy (by unfold Sm;omega) (by unfold Sm;omega)
 simp only at ez
 rw [ez]
 simp only [Bh]
 rw [held_nm hz (by unfold Sm;omega)]
 rfl
theorem rSub (a b:Int) (a0 : -9223372036854775808≤a) (a1:a<9223372036854775808) (b0 : -9223372036854775808≤b) (b1:b<9223372036854775808):f56 a b=some (sat (a-b)):=by
 unfold f56
 obtain ⟨x,ex,hx⟩:=from_ok a a0 a1
 obtain ⟨y,ey,hy⟩:=from_ok b b0 b1
 rw [ex,ey]
 simp only [Bh]
 obtain ⟨t,et,ht⟩:=turned_ok hy
 simp only at et
 rw [et]
 simp only [Bh]
 obtain ⟨z,ez,hz⟩:=plus_nm hx ht (by unfold Sm;omega) (by unfold Sm;omega)
 simp only at ez
 rw [ez]
 simp only [Bh]
 rw [held_nm hz (by unfold Sm;omega)]
 rfl
theorem rNeg (a:Int) (a0 : -9223372036854775808≤a) (a1:a<9223372036854775808):f79 a=some (sat (-a)):=by
 unfold f79
 rw [rSub 0 a (by omega) (by omega) a0 a1,Int.zero_sub];rfl
theorem prod_sm {a b:Int} (a0 : -9223372036854775808≤a) (a1:a<9223372036854775808) (b0 : -9223372036854775808≤b) (b1:b<9223372036854775808) :
  -85070591730234615865843651857942052864≤a*b∧a*b≤85070591730234615865843651857942052864:=prodBnd a b a0 a1 b0 b1
theorem rMul (a b:Int) (a0 : -9223372036854775808≤a) (a1:a<9223372036854775808) (b0 : -9223372036854775808≤b) (b1:b<9223372036854775808):f57 a b=some (sat (rhe (a*b))):=by
 unfold f57
 obtain ⟨p0,p1⟩:=prod_sm a0 a1 b0 b1
 obtain ⟨x,ex,hx⟩:=times_nm a b a0 a1 b0 b1
 rw [ex]
 simp only [Bh]
 obtain ⟨y,ey,hy⟩:=halved_nm hx (by unfold Sm;omega)
 rw [ey]
 simp only [Bh]
 rw [held_nm hy (sm_rhe (by omega))]
 rfl
theorem word_or (C i q:Nat):Gi q (C||| 2 ^ i)=if q=i/64 then Gi q C||| 2 ^ (i%64) else Gi q C:=by
 apply Nat.eq_of_testBit_eq
 intro j
 by_cases h:q=i/64
 ·rw [if_pos h,Nat.testBit_or,Jy,Jy,Nat.testBit_or,Nat.testBit_two_pow,Nat.testBit_two_pow]
  by_cases h64:j<64
  ·have e:decide (i=j+64*q)=decide (i%64=j):=by rw [decide_eq_decide];omega
   rw [e];simp [h64]
  ·have:¬i%64=j:=by omega
   simp [h64,this]
 ·rw [if_neg h,Jy,Jy,Nat.testBit_or,Nat.testBit_two_pow]
  by_cases h64:j<64
  ·have:¬i=j+64*q:=by omega
   simp [h64,this]
  ·simp [h64]
theorem pick_or {Y:Type} (C i:Nat) (hi:i<256) (k:Int→Int→Int→Int→Option Y) :
    (E9 (0≤(IntKind.i64.wrap (Int.tdiv (i:Int) (64:Int)))∧(IntKind.i64.wrap (Int.tdiv (i:Int) (64:Int)))<(4:Int))<|
      pickF (IntKind.i64.wrap (Int.tdiv (i:Int) (64:Int)))
        [(E9 (0≤(IntKind.u64.wrap (Int.tmod (i:Int) (64:Int))))<|k (Ft IntKind.u64 (fun p q=>p||| q) (Gi 0 C:Int) (IntKind.u64.wrap ((1:Int)*2 ^ min (Int.toNat (IntKind.u64.wrap (Int.tmod (i:Int) (64:Int)))) (IntKind.bits IntKind.u64)))) (Gi 1 C) (Gi 2 C) (Gi 3 C)),
         (E9 (0≤(IntKind.u64.wrap (Int.tmod (i:Int) (64:Int))))<|k (Gi 0 C) (Ft IntKind.u64 (fun p q=>p||| q) (Gi 1 C:Int) (IntKind.u64.wrap ((1:Int)*2 ^ min (Int.toNat (IntKind.u64.wrap (Int.tmod (i:Int) (64:Int)))) (IntKind.bits IntKind.u64)))) (Gi 2 C) (Gi 3 C)),
         (E9 (0≤(IntKind.u64.wrap (Int.tmod (i:Int) (64:Int))))<|k (Gi 0 C) (Gi 1 C) (Ft IntKind.u64 (fun p q=>p||| q) (Gi 2 C:Int) (IntKind.u64.wrap ((1:Int)*2 ^ min (Int.toNat (IntKind.u64.wrap (Int.tmod (i:Int) (64:Int)))) (IntKind.bits IntKind.u64)))) (Gi 3 C)),
         (E9 (0≤(IntKind.u64.wrap (Int.tmod (i:Int) (64:Int))))<|k (Gi 0 C) (Gi 1 C) (Gi 2 C) (Ft IntKind.u64 (fun p q=>p||| q) (Gi 3 C:Int) (IntKind.u64.wrap ((1:Int)*2 ^ min (Int.toNat (IntKind.u64.wrap (Int.tmod (i:Int) (64:Int)))) (IntKind.bits IntKind.u64)))))]) =
    k (Gi 0 (C||| 2 ^ i)) (Gi 1 (C||| 2 ^ i)) (Gi 2 (C||| 2 ^ i)) (Gi 3 (C||| 2 ^ i)):=by
  obtain ⟨t1,t2,t3⟩:=idx i hi
  rw [t1,t2,t3,D4,D4,D4,D4,D4]
  rw [or_word 0 _ _ (by omega),or_word 1 _ _ (by omega),or_word 2 _ _ (by omega),or_word 3 _ _ (by omega)]
  rw [word_or,word_or,word_or,word_or]
  have h:i/64=0∨i/64=1∨i/64=2∨i/64=3:=by omega
  rcases h with h | h | h | h <;> rw [h] <;> rfl
def top (D j:Nat):Nat:=D/2 ^ j*2 ^ j
theorem div_step (D i:Nat):D/2 ^ i=2*(D/2 ^ (i+1))+(if D.testBit i=true then 1 else 0):=by
 rw [Nat.testBit_eq_decide_div_mod_eq,Nat.pow_succ,← Nat.div_div_eq_div_mul]
 generalize D/2 ^ i=x
 by_cases h:x%2=1
 ·simp [h];omega
 ·simp [h];omega
theorem or_add (a i:Nat):a*2 ^ (i+1)||| 2 ^ i=a*2 ^ (i+1)+2 ^ i:=by
 have:=Nat.two_pow_add_eq_or_of_lt (i:=i+1) (b:=2 ^ i) (Nat.pow_lt_pow_right (by decide) (by omega)) a
 rw [Nat.mul_comm a,this]
theorem top_step (D i:Nat):top D i=if D.testBit i=true then top D (i+1)||| 2 ^ i else top D (i+1):=by
 unfold top
 rw [div_step D i]
 split
 ·rw [or_add,Nat.pow_succ,Nat.add_mul,Nat.one_mul,Nat.mul_comm 2,Nat.mul_assoc,Nat.mul_comm (2 ^ i) 2]
 ·rw [Nat.add_zero,Nat.pow_succ,Nat.mul_comm 2,Nat.mul_assoc,Nat.mul_comm (2 ^ i) 2]
theorem words_zero:(((0:Int)),(0:Int),(0:Int),(0:Int))=((Gi 0 0:Int),(Gi 1 0:Int),(Gi 2 0:Int),(Gi 3 0:Int)):=by
 have:∀ q,Gi q 0=0:=fun q=>by unfold Gi;rw [Nat.zero_div]
 rw [this,this,this,this];rfl
theorem shift_loop (N:Nat) (hN:N<2 ^ 224) :
  Fq (fun go (x:Int×Int×Int×Int×Int)=>f107_l1 (W0 N) (W1 N) (W2 N) (W3 N) 32 go x.1 x.2.1 x.2.2.1 x.2.2.2.1 x.2.2.2.2) Fv ((255:Int),(0:Int),(0:Int),(0:Int),(0:Int)) =
   some ((Gi 0 (N*2 ^ 32):Int),(Gi 1 (N*2 ^ 32):Int),(Gi 2 (N*2 ^ 32):Int),(Gi 3 (N*2 ^ 32):Int)):=by
 have hD:N*2 ^ 32<2 ^ 256:=by
  have:(2:Nat) ^ 256=2 ^ 224*2 ^ 32:=by decide
  rw [this];exact Nat.mul_lt_mul_of_pos_right hN (by decide)
 have hb:∀ i,32≤i→(N*2 ^ 32).testBit i=N.testBit (i-32):=fun i hi=>by
  rw [Nat.testBit_mul_two_pow];simp [hi]
 have h256:top (N*2 ^ 32) 256=0:=by unfold top;rw [Nat.div_eq_of_lt hD,Nat.zero_mul]
 have h32:top (N*2 ^ 32) 32=N*2 ^ 32:=by unfold top;rw [Nat.mul_div_cancel _ (by decide)]
 generalize hDD:N*2 ^ 32=D at *
 have:=F2 (B:=fun go (x:Int×Int×Int×Int×Int)=>f107_l1 (W0 N) (W1 N) (W2 N) (W3 N) 32 go x.1 x.2.1 x.2.2.1 x.2.2.2.1 x.2.2.2.2)
  (fun k=>((255:Int)-(k:Int),(Gi 0 (top D (256-k)):Int),(Gi 1 (top D (256-k)):Int),(Gi 2 (top D (256-k)):Int),(Gi 3 (top D (256-k)):Int))) 224
  ((Gi 0 D:Int),(Gi 1 D:Int),(Gi 2 D:Int),(Gi 3 D:Int)) ?_ ?_ (by decide)
 ·simp only [Nat.sub_zero,h256] at this
  rw [← words_zero] at this
  exact this
 ·intro k hk go
  obtain ⟨i,hi⟩:∃ i,i=255-k:=⟨_,rfl⟩
  unfold f107_l1
  simp only
  rw [show (255:Int)-(k:Int)=(i:Int) by omega,show 256-k=i+1 by omega,show 256-(k+1)=i by omega,dT (show (i:Int)≥32 by omega)]
  simp only [cond_true]
  rw [show IntKind.i64.wrap ((i:Int)-32)=((i-32:Nat):Int) by rw [Fl];omega,bit_ok N (i-32) (by omega)]
  simp only [Bh]
  rw [← hb i (by omega),show IntKind.i64.wrap ((i:Int)-1)=(255:Int)-((k+1:Nat):Int) by rw [Fl];omega]
  rw [top_step D i]
  by_cases ht:D.testBit i=true
  ·rw [if_pos ht,if_pos ht,bT rfl]
   simp only [cond_true]
   exact pick_or (top D (i+1)) i (by omega) (fun a b c d=>go (_,a,b,c,d))
  ·rw [if_neg ht,if_neg ht,bF (by decide)]
   rfl
 ·intro go
  unfold f107_l1
  simp only
  rw [dF (by decide)]
  rw [show 256-224=32 from rfl,h32]
  rfl
theorem shifted_nm {a : Int} {x : Bool × Int × Int × Int × Int} (ha : Nm a x) (sa : -100000000000000000000 ≤ a ∧ a ≤ 100000000000000000000) : ∃ z, f107 x.1 x.2.1 x.2.2.1 x.2.2.2.1 x.2.2.2.2 32 = some z ∧ Nm (a * 4294967296) z := by
  obtain ⟨A, a0, a1, a2⟩ := ha
  have la : A ≤ 100000000000000000000 := by rcases nm_abs a2 with ⟨e, s⟩ | ⟨e, s⟩ <;> omega
  obtain ⟨N, rfl⟩ := Int.eq_ofNat_of_zero_le a0
  rw [a1]
  unfold f107
  simp only
  rw [shift_loop N (by have : (2 : Nat) ^ 224 = 26959946667150639794667015087019630673637144422540572481103610249216 := by decide
                       omega)]
  simp only [Bh]
  obtain ⟨e0, e1, e2, e3⟩ := W_word (N * 2 ^ 32)
  rw [← e0, ← e1, ← e2, ← e3]
  refine ⟨_, rfl, ((N * 2 ^ 32 : Nat) : Int), by omega, rfl, ?_⟩
  have hc : ((N * 2 ^ 32 : Nat) : Int) = (N : Int) * 4294967296 := by
    rw [show (2 : Nat) ^ 32 = 4294967296 from rfl]; omega
  rw [hc]
  rcases nm_abs a2 with ⟨e, s⟩ | ⟨e, s⟩ <;> rw [e, s] <;> simp [Int.neg_mul]
theorem long_step (N i d:Nat) (hd:0<d):∃ b,b=(if N.testBit i=true then 1 else 0)∧
  (N/2 ^ i)%d=(if 2*(N/2 ^ (i+1)%d)+b≥d then 2*(N/2 ^ (i+1)%d)+b-d else 2*(N/2 ^ (i+1)%d)+b)∧
  (N/2 ^ i)/d*2 ^ i=(if 2*(N/2 ^ (i+1)%d)+b≥d then (N/2 ^ (i+1)/d*2 ^ (i+1))||| 2 ^ i else N/2 ^ (i+1)/d*2 ^ (i+1)):=by
 refine ⟨_,rfl,?_⟩
 rw [div_step N i]
 generalize hb:(if N.testBit i=true then 1 else 0)=b
 have b1:b≤1:=by rw [← hb];split <;> omega
 generalize N/2 ^ (i+1)=M
 have hM:d*(M/d)+M%d=M:=Nat.div_add_mod M d
 have hr:M%d<d:=Nat.mod_lt _ hd
 generalize M%d=r at *
 generalize M/d=q at *
 have hq:2*M+b=d*(2*q)+(2*r+b):=by
  rw [← hM]
  have:d*(2*q)=2*(d*q):=by rw [Nat.mul_left_comm]
  omega
 rw [hq,Nat.mul_add_mod,Nat.mul_add_div hd]
 by_cases h:2*r+b≥d
 ·rw [if_pos h,if_pos h]
  have e:2*r+b=d+(2*r+b-d):=by omega
  have l:2*r+b-d<d:=by omega
  refine ⟨?_,?_⟩
  ·rw [e,Nat.add_mod_left,Nat.mod_eq_of_lt l];omega
  ·have:(2*r+b)/d=1:=by rw [e,Nat.add_div_left _ hd,Nat.div_eq_of_lt l]
   rw [this,or_add,Nat.pow_succ,Nat.add_mul,Nat.one_mul,Nat.mul_comm 2 q,Nat.mul_assoc,Nat.mul_comm 2 (2 ^ i)]
 ·rw [if_neg h,if_neg h]
  refine ⟨Nat.mod_eq_of_lt (by omega),?_⟩
  rw [Nat.div_eq_of_lt (by omega),Nat.add_zero,Nat.pow_succ,Nat.mul_comm 2 q,Nat.mul_assoc,Nat.mul_comm 2 (2 ^ i)]
theorem or_one (x b:Int) (h0:0≤x) (h1:x<9223372036854775808) (hb:b=0∨b=1):Ft IntKind.u64 (fun p q=>p||| q) (x*2) b=x*2+b:=by
 rw [or_nat _ _ (by omega) (by omega) (by omega) (by omega)]
 have:=Nat.two_pow_add_eq_or_of_lt (i:=1) (b:=b.toNat) (by omega) x.toNat
 rw [show (x*2).toNat=2 ^ 1*x.toNat by omega,← this]
 omega
theorem divide_loop (N d:Nat) (hN:N<2 ^ 256) (hd:0<d) (hd2:d≤9223372036854775808) :
  Fq (fun go (x:Int×Int×Int×Int×Int×Int)=>f106_l3 (W0 N) (W1 N) (W2 N) (W3 N) d go x.1 x.2.1 x.2.2.1 x.2.2.2.1 x.2.2.2.2.1 x.2.2.2.2.2) Fv ((0:Int),(255:Int),(0:Int),(0:Int),(0:Int),(0:Int)) =
   some (((N%d:Nat):Int),(Gi 0 (N/d):Int),(Gi 1 (N/d):Int),(Gi 2 (N/d):Int),(Gi 3 (N/d):Int)):=by
 have:=F2 (B:=fun go (x:Int×Int×Int×Int×Int×Int)=>f106_l3 (W0 N) (W1 N) (W2 N) (W3 N) d go x.1 x.2.1 x.2.2.1 x.2.2.2.1 x.2.2.2.2.1 x.2.2.2.2.2)
  (fun k=>(((N/2 ^ (256-k)%d:Nat):Int),(255:Int)-(k:Int),(Gi 0 (N/2 ^ (256-k)/d*2 ^ (256-k)):Int),(Gi 1 (N/2 ^ (256-k)/d*2 ^ (256-k)):Int),(Gi 2 (N/2 ^ (256-k)/d*2 ^ (256-k)):Int),(Gi 3 (N/2 ^ (256-k)/d*2 ^ (256-k)):Int))) 256
  (((N%d:Nat):Int),(Gi 0 (N/d):Int),(Gi 1 (N/d):Int),(Gi 2 (N/d):Int),(Gi 3 (N/d):Int)) ?_ ?_ (by decide)
 ·simp only [Nat.sub_zero,Nat.div_eq_of_lt hN,Nat.zero_mod,Nat.zero_div,Nat.zero_mul] at this
  rw [← words_zero] at this
  exact this
 ·intro k hk go
  obtain ⟨i,hi⟩:∃ i,i=255-k:=⟨_,rfl⟩
  unfold f106_l3
  simp only
  rw [show (255:Int)-(k:Int)=(i:Int) by omega,show 256-k=i+1 by omega,show 256-(k+1)=i by omega,dT (show (i:Int)≥0 by omega)]
  simp only [cond_true]
  rw [bit_ok N i (by omega)]
  simp only [Bh]
  obtain ⟨b,hb,e1,e2⟩:=long_step N i d hd
  rw [e1,e2]
  have hr:N/2 ^ (i+1)%d<d:=Nat.mod_lt _ hd
  generalize N/2 ^ (i+1)%d=r at *
  generalize N/2 ^ (i+1)/d*2 ^ (i+1)=Q at *
  have hbb:(if N.testBit i=true then (1:Int) else 0)=(b:Int):=by rw [hb];split <;> rfl
  rw [hbb]
  have b1:b=0∨b=1:=by rw [hb];split <;> omega
  have hsh:IntKind.u64.wrap ((r:Int)*2 ^ min (Int.toNat (1:Int)) (IntKind.bits IntKind.u64))=(r:Int)*2:=by
   rw [show ((2:Int) ^ min (Int.toNat (1:Int)) (IntKind.bits IntKind.u64))=2 from rfl,wu];omega
  have hor:=or_one (r:Int) (b:Int) (by omega) (by omega) (by omega)
  have hj:f106_j4 (d:Int) (r:Int) (b:Int)=some (decide ((r:Int)*2+b≥d)):=by
   unfold f106_j4
   rw [show Int.fdiv (r:Int) (2 ^ min (Int.toNat (63:Int)) (IntKind.bits IntKind.u64))=(r:Int)/9223372036854775808 by
    rw [show ((2:Int) ^ min (Int.toNat (63:Int)) (IntKind.bits IntKind.u64))=9223372036854775808 from rfl];exact Int.fdiv_eq_ediv_of_nonneg _ (by decide)]
   rw [bF (by omega),hsh,hor]
   rfl
  rw [hj]
  simp only [Bh]
  rw [hsh,hor,show IntKind.i64.wrap ((i:Int)-1)=(255:Int)-((k+1:Nat):Int) by rw [Fl];omega]
  by_cases h:2*r+b≥d
  ·rw [dT,if_pos h,if_pos h]
   simp only [cond_true]
   have hw:IntKind.u64.wrap ((r:Int)*2+(b:Int)-(d:Int))=((2*r+b-d:Nat):Int):=by rw [wu];omega
   rw [hw]
   exact pick_or Q i (by omega) (fun x y c e=>go (_,_,x,y,c,e))
  ·rw [dF,if_neg h,if_neg h]
   simp only [cond_false]
   rw [show (r:Int)*2+(b:Int)=((2*r+b:Nat):Int) by omega]
 ·intro go
  unfold f106_l3
  simp only
  rw [dF (by decide)]
  simp only [cond_false,Nat.sub_self,Nat.pow_zero,Nat.div_one,Nat.mul_one]
def rdn (N d:Int):Int:=N/d+if 2*(N%d)>d∨(2*(N%d)=d∧N/d%2=1) then 1 else 0
def rdI (a n:Int):Int:=if (a<0)=(n<0) then rdn a.natAbs n.natAbs else -rdn a.natAbs n.natAbs
theorem rdn_nonneg {N d:Int} (h0:0≤N) (hd:0<d):0≤rdn N d:=by
 unfold rdn
 have:=Int.ediv_nonneg h0 (show 0≤d by omega)
 split <;> omega
theorem rdn_le {N d:Int} (h0:0≤N) (hd:0<d):rdn N d≤N+1:=by
 unfold rdn
 have h:=Int.ediv_le_self d h0
 split <;> omega
theorem rdn_zero {d:Int} (hd:0<d):rdn 0 d=0:=by
 unfold rdn
 rw [Int.zero_ediv,Int.zero_emod,iNo];rfl
theorem divided_nm {a:Int} {x:Bool×Int×Int×Int×Int} (ha:Nm a x) (sa : -1000000000000000000000000000000000000000000≤a∧a≤1000000000000000000000000000000000000000000) (n:Int) (n0 : -9223372036854775808≤n) (n1:n<9223372036854775808) (hn:n≠0) :
  ∃ z,f106 x.1 x.2.1 x.2.2.1 x.2.2.2.1 x.2.2.2.2 n=some z∧Nm (rdI a n) z∧Sm (rdI a n):=by
 obtain ⟨A,a0,a1,a2⟩:=ha
 have la:A≤1000000000000000000000000000000000000000000:=by rcases nm_abs a2 with ⟨e,s⟩ | ⟨e,s⟩ <;> omega
 have hA:(a.natAbs:Int)=A:=by rcases nm_abs a2 with ⟨e,s⟩ | ⟨e,s⟩ <;> omega
 obtain ⟨N,rfl⟩:=Int.eq_ofNat_of_zero_le a0
 have hN:N<2 ^ 256:=by
  have:(2:Nat) ^ 256=115792089237316195423570985008687907853269984665640564039457584007913129639936:=by decide
  omega
 rw [a1]
 unfold f106
 simp only
 rw [refSize_ok n n0 n1]
 have hdd:(if n<0 then -n else n)=((n.natAbs:Nat):Int):=by split <;> omega
 rw [hdd]
 have hd0:0<n.natAbs:=by omega
 have hd1:n.natAbs≤9223372036854775808:=by omega
 have hrI:rdI a n=if (a<0)=(n<0) then rdn (N:Int) (n.natAbs:Int) else -rdn (N:Int) (n.natAbs:Int):=by unfold rdI;rw [hA]
 generalize n.natAbs=d at *
 simp only [Bh]
 rw [divide_loop N d hN hd0 hd1]
 simp only [Bh]
 have hr:N%d<d:=Nat.mod_lt _ hd0
 have hw0:(Gi 0 (N/d):Int)=((N/d:Nat):Int)%18446744073709551616:=by rw [← (W_word (N/d)).1];rfl
 have hj:f106_j5 (d:Int) (((N%d:Nat):Int),(Gi 0 (N/d):Int),(Gi 1 (N/d):Int),(Gi 2 (N/d):Int),(Gi 3 (N/d):Int)) =
   some (decide (2*((N:Int)%d)>d∨(2*((N:Int)%d)=d∧(N:Int)/d%2=1))):=by
  have e1:((N%d:Nat):Int)=(N:Int)%d:=by simp
  have e2:((N/d:Nat):Int)=(N:Int)/d:=by simp
  rw [e2] at hw0
  have hlt:(N:Int)%d<d:=by rw [← e1];omega
  have hge:0≤(N:Int)%d:=by rw [← e1];omega
  unfold f106_j5
  simp only
  rw [e1]
  generalize (N:Int)%d=r at *
  rw [show IntKind.u64.wrap ((d:Int)-r)=d-r by rw [wu];omega]
  by_cases h1:r>d-r
  ·rw [dT h1,dT];rfl
  ·rw [dF h1]
   simp only [cond_false]
   by_cases h2:r=d-r
   ·rw [bT h2]
    simp only [cond_true]
    rw [hw0,and1 _ (by omega) (by omega),Option.some.injEq,Bool.eq_iff_iff,beq_iff_eq,decide_eq_true_iff]
    omega
   ·rw [bF h2,dF];rfl
 rw [hj]
 simp only [Bh]
 obtain ⟨e0,e1,e2,e3⟩:=W_word (N/d)
 rw [← e0,← e1,← e2,← e3]
 have ed:((N/d:Nat):Int)=(N:Int)/d:=by simp
 rw [ed]
 have hnn:=rdn_nonneg (N:=(N:Int)) (d:=d) (by omega) (by omega)
 have hle:=rdn_le (N:=(N:Int)) (d:=d) (by omega) (by omega)
 have hz:a=0→rdn (N:Int) d=0:=fun h=>by rw [show (N:Int)=0 by omega];exact rdn_zero (by omega)
 have sgn:∀ (R:Int),R=rdn (N:Int) d→Nm (rdI a n) (!(x.1==decide (n<0)),W0 R,W1 R,W2 R,W3 R):=fun R hR=>by
  refine ⟨R,by omega,rfl,?_⟩
  rw [hrI,← hR]
  simp only
  rcases nm_abs a2 with ⟨e,s⟩ | ⟨e,s⟩
  ·rw [s]
   by_cases h0:a=0
   ·have:=hz h0
    rw [← hR] at this
    rw [this];simp
   ·have:a<0:=by omega
    by_cases hn0:n<0 <;> simp [this,hn0]
  ·rw [s]
   have:¬a<0:=by omega
   by_cases hn0:n<0 <;> simp [this,hn0]
 have sm:Sm (rdI a n):=by
  unfold Sm;rw [hrI];split <;> omega
 by_cases h:2*((N:Int)%d)>d∨(2*((N:Int)%d)=d∧(N:Int)/d%2=1)
 ·rw [dT h]
  simp only [cond_true]
  obtain ⟨o0,o1,o2,o3⟩:=small 1 (by decide) (by decide)
  have hp:=Dots.plusN_ok ((N:Int)/d) 1
  rw [o0,o1,o2,o3] at hp
  rw [hp]
  exact ⟨_,rfl,sgn _ (by unfold rdn;rw [if_pos h]),sm⟩
 ·rw [dF h]
  simp only [cond_false]
  exact ⟨_,rfl,sgn _ (by unfold rdn;rw [if_neg h,Int.add_zero]),sm⟩
theorem rDiv (a b:Int) (a0 : -9223372036854775808≤a) (a1:a<9223372036854775808) (b0 : -9223372036854775808≤b) (b1:b<9223372036854775808) (hb:b≠0) :
  f77 a b=some (sat (rdI (a*4294967296) b)):=by
 unfold f77
 rw [bF hb]
 simp only [cond_false]
 obtain ⟨x,ex,hx⟩:=from_ok a a0 a1
 rw [ex]
 simp only [Bh]
 obtain ⟨y,ey,hy⟩:=shifted_nm hx (by omega)
 simp only at ey
 rw [ey]
 simp only [Bh]
 obtain ⟨z,ez,hz,hs⟩:=divided_nm hy (by omega) b b0 b1 hb
 rw [ez]
 simp only [Bh]
 rw [held_nm hz hs]
 rfl
theorem rOf8:f78 8=some 34359738368:=by kernel_rfl
theorem rOf2:f78 2=some 8589934592:=by kernel_rfl
end Go.Proofs.Num
namespace Go.Proofs.Div
open Go.AM Go.Proofs.PlW
theorem sh16u (x:Int):Int.fdiv x (2 ^ min (Int.toNat (16:Int)) (IntKind.bits IntKind.u64))=x/65536:=by
 rw [show ((2:Int) ^ min (Int.toNat (16:Int)) (IntKind.bits IntKind.u64))=65536 from rfl]
 exact Int.fdiv_eq_ediv_of_nonneg _ (by decide)
theorem sh8u (x:Int):Int.fdiv x (2 ^ min (Int.toNat (8:Int)) (IntKind.bits IntKind.u64))=x/256:=by
 rw [show ((2:Int) ^ min (Int.toNat (8:Int)) (IntKind.bits IntKind.u64))=256 from rfl]
 exact Int.fdiv_eq_ediv_of_nonneg _ (by decide)
def Near (x n y:Nat):Prop:=x*2 ^ n≤y∧y<(x+1)*2 ^ n
theorem near_shift {x n y:Nat} (h:Near x n y) (k:Nat):Near (x/2 ^ k) (n+k) y:=by
 obtain ⟨h0,h1⟩:=h
 have p:0<2 ^ k:=Nat.pow_pos (by decide)
 have q:0<2 ^ n:=Nat.pow_pos (by decide)
 constructor
 ·rw [Nat.pow_add,Nat.mul_comm (2 ^ n),← Nat.mul_assoc]
  exact Nat.le_trans (Nat.mul_le_mul_right _ (Nat.div_mul_le_self x (2 ^ k))) h0
 ·rw [Nat.pow_add,Nat.mul_comm (2 ^ n),← Nat.mul_assoc]
  have:x+1≤(x/2 ^ k+1)*2 ^ k:=by
   have:=Nat.lt_mul_of_div_lt (Nat.lt_succ_self (x/2 ^ k)) p
   exact this
  exact Nat.lt_of_lt_of_le h1 (Nat.mul_le_mul_right _ this)
def tabOk (x:Nat):Bool:=match (bt f162_s1 (x:Int)) with
 | .ofNat t=>decide (1≤t)&&decide (t≤8)&&decide (2 ^ (t-1)≤x)&&decide (x+1≤2 ^ t)
 | .negSucc _=>false
theorem tab_all:(List.range 256).all (fun x=>x==0||tabOk x)=true:=by kernel_rfl
theorem tab_ok (x:Nat) (h0:0<x) (h1:x<256):∃ t:Nat,bt f162_s1 (x:Int)=(t:Int)∧1≤t∧t≤8∧2 ^ (t-1)≤x∧x+1≤2 ^ t:=by
 have:=List.all_eq_true.1 tab_all x (List.mem_range.2 h1)
 rw [show (x==0)=false by simp;omega,Bool.false_or] at this
 unfold tabOk at this
 split at this
 ·next t ht=>
  simp only [Bool.and_eq_true,decide_eq_true_eq] at this
  exact ⟨t,ht,this.1.1.1,this.1.1.2,this.1.2,this.2⟩
 ·exact absurd this (by decide)
theorem clz_ok (y:Nat) (h0:0<y) (h1:y<18446744073709551616):∃ s:Nat,s≤63∧f226 (y:Int)=some (s:Int)∧9223372036854775808≤y*2 ^ s∧y*2 ^ s<18446744073709551616:=by
 have n0:Near y 0 y:=by unfold Near;omega
 have j1:∃ x n:Nat,f162_j1 (y:Int)=some ((x:Int),(n:Int))∧0<x∧x<4294967296∧n≤32∧Near x n y:=by
  unfold f162_j1
  rw [sh32u]
  by_cases c:y≥4294967296
  ·rw [dT]
   exact ⟨y/2 ^ 32,32,by simp only [cond_true];rw [show (2:Nat) ^ 32=4294967296 from rfl];congr 2,by omega,by omega,by decide,by have:=near_shift n0 32;simpa using this⟩
  ·rw [dF]
   exact ⟨y,0,rfl,h0,by omega,by decide,n0⟩
 obtain ⟨x1,n1,e1,x1p,x1l,n1l,N1⟩:=j1
 have j2:∃ x n:Nat,f162_j2 ((x1:Int),(n1:Int))=some ((x:Int),(n:Int))∧0<x∧x<65536∧n≤48∧Near x n y:=by
  unfold f162_j2
  rw [sh16u]
  by_cases c:x1≥65536
  ·rw [dT (by simp only;omega)]
   refine ⟨x1/2 ^ 16,n1+16,?_,by omega,by omega,by omega,near_shift N1 16⟩
   simp only [cond_true];rw [Fl,show (2:Nat) ^ 16=65536 from rfl];congr 2
  ·rw [dF (by simp only;omega)]
   exact ⟨x1,n1,rfl,x1p,by omega,by omega,N1⟩
 obtain ⟨x2,n2,e2,x2p,x2l,n2l,N2⟩:=j2
 have j3:∃ x n:Nat,f162_j3 ((x2:Int),(n2:Int))=some ((x:Int),(n:Int))∧0<x∧x<256∧n≤56∧Near x n y:=by
  unfold f162_j3
  rw [sh8u]
  by_cases c:x2≥256
  ·rw [dT (by simp only;omega)]
   refine ⟨x2/2 ^ 8,n2+8,?_,by omega,by omega,by omega,near_shift N2 8⟩
   simp only [cond_true];rw [Fl,show (2:Nat) ^ 8=256 from rfl];congr 2
  ·rw [dF (by simp only;omega)]
   exact ⟨x2,n2,rfl,x2p,by omega,by omega,N2⟩
 obtain ⟨x3,n3,e3,x3p,x3l,n3l,N3⟩:=j3
 obtain ⟨t,et,t0,t1,p0,p1⟩:=tab_ok x3 x3p x3l
 have hw8:IntKind.u8.wrap (x3:Int)=(x3:Int):=by
  simp [IntKind.wrap,IntKind.signed,IntKind.bits];omega
 unfold f226 f162
 rw [e1]
 simp only [Bh]
 rw [e2]
 simp only [Bh]
 rw [e3]
 simp only [Bh]
 rw [hw8,D4 (by rw [show (ByteArray.size f162_s1)=256 by kernel_rfl];omega),et]
 simp only [Bh]
 rw [Fl (n:=(t:Int)) (by omega) (by omega),Fl (n:=(n3:Int)+(t:Int)) (by omega) (by omega),Fl]
 have hL:n3+t≤64:=by
  have hlow:2 ^ (t-1)*2 ^ n3≤y:=Nat.le_trans (Nat.mul_le_mul_right _ p0) N3.1
  rw [← Nat.pow_add] at hlow
  have:2 ^ (t-1+n3)<2 ^ 64:=by
   rw [show (2:Nat) ^ 64=18446744073709551616 from rfl];omega
  have:=(Nat.pow_lt_pow_iff_right (by decide:1<2)).1 this
  omega
 refine ⟨64-(n3+t),by omega,by congr 1;omega,?_,?_⟩
 ·have hlow:2 ^ (t-1)*2 ^ n3≤y:=Nat.le_trans (Nat.mul_le_mul_right _ p0) N3.1
  have:=Nat.mul_le_mul_right (2 ^ (64-(n3+t))) hlow
  rw [← Nat.pow_add,← Nat.pow_add,show t-1+n3+(64-(n3+t))=63 by omega] at this
  exact this
 ·have hhi:y<2 ^ t*2 ^ n3:=Nat.lt_of_lt_of_le N3.2 (Nat.mul_le_mul_right _ p1)
  have:=(Nat.mul_lt_mul_right (Nat.pow_pos (by decide:0<2) (n:=64-(n3+t)))).2 hhi
  rw [← Nat.pow_add,← Nat.pow_add,show t+n3+(64-(n3+t))=64 by omega] at this
  exact this
structure Dig (Y a b u d q r:Int):Prop where
 eq:q*a+r=u
 r0:0≤r
 r1:r<4294967296
 q0:0≤q
 q1:q≤4294967297
 ge:(u*4294967296+d)/Y≤q
theorem dig_stop {Y a b u d q r:Int} (hY:Y=a*4294967296+b) (h0:0<Y) (D:Dig Y a b u d q r) (hc:q*b≤4294967296*r+d):q=(u*4294967296+d)/Y:=by
 have e:q*Y=q*a*4294967296+q*b:=by rw [hY,Int.mul_add,Int.mul_assoc]
 have h:=D.eq
 have:q≤(u*4294967296+d)/Y:=Int.le_ediv_of_mul_le h0 (by rw [e];omega)
 have:=D.ge
 omega
theorem dig_dec {Y a b u d q r:Int} (hY:Y=a*4294967296+b) (h0:0<Y) (hu:u<Y) (hd:d<4294967296) (D:Dig Y a b u d q r) (hc:q≥4294967296∨q*b>4294967296*r+d):(u*4294967296+d)/Y≤q-1:=by
 have e:q*Y=q*a*4294967296+q*b:=by rw [hY,Int.mul_add,Int.mul_assoc]
 have h:=D.eq
 have:(u*4294967296+d)/Y<q:=by
  rcases hc with c | c
  ·have:(u*4294967296+d)/Y<4294967296:=Int.ediv_lt_of_lt_mul h0 (by omega)
   omega
  ·exact Int.ediv_lt_of_lt_mul h0 (by rw [e];omega)
 omega
theorem dig_brk {Y a b u d q r:Int} (hY:Y=a*4294967296+b) (h0:0<Y) (b0:0≤b) (b1:b<4294967296) (hd:0≤d) (D:Dig Y a b u d q r) (hg:(u*4294967296+d)/Y≤q-1) (hr:r+a≥4294967296):q-1=(u*4294967296+d)/Y:=by
 have h:=D.eq
 have hq:=D.q1
 have e:(q-1)*Y=(q-1)*a*4294967296+(q-1)*b:=by rw [hY,Int.mul_add,Int.mul_assoc]
 have e2:(q-1)*a=q*a-a:=by rw [Int.sub_mul,Int.one_mul]
 by_cases hq0:q-1<0
 ·have:0≤q-1∨q=0:=by have:=D.q0;omega
  rcases this with h | h
  ·omega
  ·exfalso
   subst h
   have hge:0≤(u*4294967296+d)/Y:=Int.ediv_nonneg (by have:=D.r0;omega) (by omega)
   omega
 ·have hb:(q-1)*b≤4294967296*4294967295:=Int.mul_le_mul (by omega) (by omega) b0 (by decide)
  have:q-1≤(u*4294967296+d)/Y:=Int.le_ediv_of_mul_le h0 (by rw [e,e2];omega)
  omega
theorem dig_init {Y a b u d:Int} (hY:Y=a*4294967296+b) (a0:2147483648≤a) (a1:a<4294967296) (b0:0≤b) (b1:b<4294967296) (u0:0≤u) (hu:u<Y) (hd:d<4294967296):Dig Y a b u d (u/a) (u%a):=by
 have e:=Int.mul_ediv_add_emod u a
 have m0:=Int.emod_nonneg u (show a≠0 by omega)
 have m1:=Int.emod_lt_of_pos u (show 0<a by omega)
 have q0:0≤u/a:=Int.ediv_nonneg u0 (by omega)
 have q1:u/a<4294967298:=Int.ediv_lt_of_lt_mul (by omega) (by omega)
 refine ⟨by rw [Int.mul_comm];exact e,m0,by omega,q0,by omega,?_⟩
 have:(u*4294967296+d)/Y<u/a+1:=by
  refine Int.ediv_lt_of_lt_mul (by omega) ?_
  have h1:u<a*(u/a+1):=by rw [Int.mul_add,Int.mul_one];omega
  have h2:(u/a+1)*Y=a*(u/a+1)*4294967296+(u/a+1)*b:=by rw [hY,Int.mul_add,Int.mul_comm a (u/a+1),Int.mul_assoc]
  have h3:0≤(u/a+1)*b:=Int.mul_nonneg (by omega) b0
  rw [h2];omega
 omega
theorem dig_next {Y a b u d q r:Int} (a0:0≤a) (D:Dig Y a b u d q r) (hg:(u*4294967296+d)/Y≤q-1) (hr:r+a<4294967296) (h0:0≤(u*4294967296+d)/Y):Dig Y a b u d (q-1) (r+a):=by
 have h:=D.eq
 have e2:(q-1)*a=q*a-a:=by rw [Int.sub_mul,Int.one_mul]
 exact ⟨by omega,by have:=D.r0;omega,hr,by omega,by have:=D.q1;omega,hg⟩
theorem loop3 (lo y s:Int) (Y a b u d:Int) (eY:IntKind.u64.wrap (y*2 ^ min (Int.toNat (IntKind.u64.wrap s)) (IntKind.bits IntKind.u64))=Y)
  (ed:IntKind.u64.wrap (lo*2 ^ min (Int.toNat (IntKind.u64.wrap s)) (IntKind.bits IntKind.u64))/4294967296=d)
  (ha:a=Y/4294967296) (hb:b=Y%4294967296) (Y0:9223372036854775808≤Y) (Y1:Y<18446744073709551616) (u0:0≤u) (hu:u<Y) (d0:0≤d) (d1:d<4294967296) :
  Fq (fun go (x:Int×Int)=>f211_l3 lo y s go x.1 x.2) Fv (u/a,u%a)=some ((u*4294967296+d)/Y):=by
 have hY:Y=a*4294967296+b:=by omega
 have Q0:0≤(u*4294967296+d)/Y:=Int.ediv_nonneg (by omega) (by omega)
 have H:∀ x:Int×Int,Dig Y a b u d x.1 x.2→
   (∃ z,(∀ go,f211_l3 lo y s go x.1 x.2=some z)∧z=(u*4294967296+d)/Y)∨(∃ x':Int×Int,(∀ go,f211_l3 lo y s go x.1 x.2=go x')∧Dig Y a b u d x'.1 x'.2∧x'.1.toNat<x.1.toNat):=by
  rintro ⟨q,r⟩ D
  simp only at D ⊢
  have dq0:=D.q0
  have dq1:=D.q1
  have dr0:=D.r0
  have dr1:=D.r1
  have hj:f211_j4 lo y s q r=some (bif decide (q≥4294967296∨q*b>4294967296*r+d) then Sum.inl () else Sum.inr ()):=by
   unfold f211_j4
   rw [eY,sh32u,ed,and32 _ (by omega) (by omega),← hb]
   by_cases c:q≥4294967296
   ·rw [dT c,dT (Or.inl c)];rfl
   ·rw [dF c]
    simp only [cond_false]
    have hqb:q*b≤4294967295*4294967295:=Int.mul_le_mul (by omega) (by omega) (by omega) (by decide)
    have hqb0:0≤q*b:=Int.mul_nonneg dq0 (by omega)
    rw [show IntKind.u64.wrap (q*b)=q*b by rw [wu];omega,show IntKind.u64.wrap (IntKind.u64.wrap (4294967296*r)+d)=4294967296*r+d by rw [wu,wu];omega]
    by_cases c2:q*b>4294967296*r+d
    ·rw [dT c2,dT (Or.inr c2)];rfl
    ·rw [dF c2,dF];rfl
  by_cases c:q≥4294967296∨q*b>4294967296*r+d
  ·have hg:=dig_dec hY (by omega) hu d1 D c
   have wr:IntKind.u64.wrap (r+Y/4294967296)=r+a:=by rw [wu,← ha];omega
   have wq:IntKind.u64.wrap (q-1)=q-1:=by rw [wu];omega
   by_cases c2:r+a≥4294967296
   ·left
    refine ⟨q-1,fun go=>?_,dig_brk hY (by omega) (by omega) (by omega) d0 D hg c2⟩
    unfold f211_l3
    rw [hj,dT c]
    simp only [cond_true,Bh,Fu]
    rw [eY,sh32u,wr,dT c2,wq];rfl
   ·right
    refine ⟨(q-1,r+a),fun go=>?_,dig_next (by omega) D hg (by omega) Q0,by simp only;omega⟩
    unfold f211_l3
    rw [hj,dT c]
    simp only [cond_true,Bh,Fu]
    rw [eY,sh32u,wr,dF c2,wq];rfl
  ·left
   refine ⟨q,fun go=>?_,dig_stop hY (by omega) D (by omega)⟩
   unfold f211_l3
   rw [hj,dF c];rfl
 obtain ⟨z,e,rfl⟩:=Gd (B:=fun go (x:Int×Int)=>f211_l3 lo y s go x.1 x.2) (fun x=>Dig Y a b u d x.1 x.2) (fun x=>x.1.toNat) (fun z=>z=(u*4294967296+d)/Y) H (u/a,u%a)
  (dig_init hY (by omega) (by omega) (by omega) (by omega) u0 hu d1) (by
   have:=(dig_init (d:=d) hY (by omega) (by omega) (by omega) (by omega) u0 hu d1).q1
   simp only;omega)
 exact e
theorem loop7 (lo y s:Int) (Y a b u d:Int) (eY:IntKind.u64.wrap (y*2 ^ min (Int.toNat (IntKind.u64.wrap s)) (IntKind.bits IntKind.u64))=Y)
  (ed:Ft IntKind.u64 (fun p q=>p&&& q) (IntKind.u64.wrap (lo*2 ^ min (Int.toNat (IntKind.u64.wrap s)) (IntKind.bits IntKind.u64))) 4294967295=d)
  (ha:a=Y/4294967296) (hb:b=Y%4294967296) (Y0:9223372036854775808≤Y) (Y1:Y<18446744073709551616) (u0:0≤u) (hu:u<Y) (d0:0≤d) (d1:d<4294967296) :
  Fq (fun go (x:Int×Int)=>f211_l7 lo y s go x.1 x.2) Fv (u%a,u/a)=some ((u*4294967296+d)/Y):=by
 have hY:Y=a*4294967296+b:=by omega
 have Q0:0≤(u*4294967296+d)/Y:=Int.ediv_nonneg (by omega) (by omega)
 have H:∀ x:Int×Int,Dig Y a b u d x.2 x.1→
   (∃ z,(∀ go,f211_l7 lo y s go x.1 x.2=some z)∧z=(u*4294967296+d)/Y)∨(∃ x':Int×Int,(∀ go,f211_l7 lo y s go x.1 x.2=go x')∧Dig Y a b u d x'.2 x'.1∧x'.2.toNat<x.2.toNat):=by
  rintro ⟨r,q⟩ D
  simp only at D ⊢
  have dq0:=D.q0
  have dq1:=D.q1
  have dr0:=D.r0
  have dr1:=D.r1
  have hj:f211_j8 lo y s r q=some (bif decide (q≥4294967296∨q*b>4294967296*r+d) then Sum.inl () else Sum.inr ()):=by
   unfold f211_j8
   rw [eY,ed,and32 _ (by omega) (by omega),← hb]
   by_cases c:q≥4294967296
   ·rw [dT c,dT (Or.inl c)];rfl
   ·rw [dF c]
    simp only [cond_false]
    have hqb:q*b≤4294967295*4294967295:=Int.mul_le_mul (by omega) (by omega) (by omega) (by decide)
    have hqb0:0≤q*b:=Int.mul_nonneg dq0 (by omega)
    rw [show IntKind.u64.wrap (q*b)=q*b by rw [wu];omega,show IntKind.u64.wrap (IntKind.u64.wrap (4294967296*r)+d)=4294967296*r+d by rw [wu,wu];omega]
    by_cases c2:q*b>4294967296*r+d
    ·rw [dT c2,dT (Or.inr c2)];rfl
    ·rw [dF c2,dF];rfl
  by_cases c:q≥4294967296∨q*b>4294967296*r+d
  ·have hg:=dig_dec hY (by omega) hu d1 D c
   have wr:IntKind.u64.wrap (r+Y/4294967296)=r+a:=by rw [wu,← ha];omega
   have wq:IntKind.u64.wrap (q-1)=q-1:=by rw [wu];omega
   by_cases c2:r+a≥4294967296
   ·left
    refine ⟨q-1,fun go=>?_,dig_brk hY (by omega) (by omega) (by omega) d0 D hg c2⟩
    unfold f211_l7
    rw [hj,dT c]
    simp only [cond_true,Bh,Fu]
    rw [eY,sh32u,wr,dT c2,wq];rfl
   ·right
    refine ⟨(r+a,q-1),fun go=>?_,dig_next (by omega) D hg (by omega) Q0,by simp only;omega⟩
    unfold f211_l7
    rw [hj,dT c]
    simp only [cond_true,Bh,Fu]
    rw [eY,sh32u,wr,dF c2,wq];rfl
  ·left
   refine ⟨q,fun go=>?_,dig_stop hY (by omega) D (by omega)⟩
   unfold f211_l7
   rw [hj,dF c];rfl
 obtain ⟨z,e,rfl⟩:=Gd (B:=fun go (x:Int×Int)=>f211_l7 lo y s go x.1 x.2) (fun x=>Dig Y a b u d x.2 x.1) (fun x=>x.2.toNat) (fun z=>z=(u*4294967296+d)/Y) H (u%a,u/a)
  (dig_init hY (by omega) (by omega) (by omega) (by omega) u0 hu d1) (by
   have:=(dig_init (d:=d) hY (by omega) (by omega) (by omega) (by omega) u0 hu d1).q1
   simp only;omega)
 exact e
theorem div64 (hi lo y : Int) (h0 : 0 ≤ hi) (h1 : hi < y) (l0 : 0 ≤ lo) (l1 : lo < 18446744073709551616) (y1 : y < 18446744073709551616) :
    f211 hi lo y = some ((hi * 18446744073709551616 + lo) / y, (hi * 18446744073709551616 + lo) % y) := by
  unfold f211
  rw [bF (show ¬ y = 0 by omega), dF (show ¬ y ≤ hi by omega)]
  simp only [cond_false]
  by_cases hz : hi = 0
  · subst hz
    rw [bT rfl]
    simp only [cond_true]
    rw [D4, D4, Int.tdiv_eq_ediv_of_nonneg l0, Int.tmod_eq_emod_of_nonneg l0, Int.zero_mul, Int.zero_add]
    have := Int.ediv_nonneg l0 (show 0 ≤ y by omega)
    have := Int.ediv_le_self y l0
    rw [show IntKind.u64.wrap (lo / y) = lo / y by rw [wu]; omega]
  rw [bF hz]
  simp only [cond_false]
  obtain ⟨yn, rfl⟩ := Int.eq_ofNat_of_zero_le (show 0 ≤ y by omega)
  obtain ⟨s, s63, es, p0, p1⟩ := clz_ok yn (by omega) (by omega)
  rw [es]
  simp only [Bh]
  have ws : IntKind.u64.wrap (s : Int) = s := by rw [wu]; omega
  have ws2 : IntKind.u64.wrap ((64 : Int) - s) = ((64 - s : Nat) : Int) := by rw [wu]; omega
  have b64 : IntKind.bits IntKind.u64 = 64 := rfl
  obtain ⟨P, hP⟩ : ∃ P : Nat, P = 2 ^ s := ⟨_, rfl⟩
  obtain ⟨R, hR⟩ : ∃ R : Nat, R = 2 ^ (64 - s) := ⟨_, rfl⟩
  have hPR : P * R = 18446744073709551616 := by
    rw [hP, hR, ← Nat.pow_add, show s + (64 - s) = 64 by omega]
  have P1 : 1 ≤ P := by rw [hP]; exact Nat.one_le_two_pow
  have R1 : 1 ≤ R := by rw [hR]; exact Nat.one_le_two_pow
  have eP : (2 : Int) ^ min (Int.toNat (s : Int)) (IntKind.bits IntKind.u64) = (P : Int) := by
    rw [Int.toNat_natCast, b64, show min s 64 = s by omega, hP]; simp
  have eR : (2 : Int) ^ min (Int.toNat (((64 - s : Nat) : Int))) (IntKind.bits IntKind.u64) = (R : Int) := by
    rw [Int.toNat_natCast, b64, show min (64 - s) 64 = 64 - s by omega, hR]; simp
  have hYn : (yn : Int) * P = ((yn * 2 ^ s : Nat) : Int) := by rw [← hP]; simp
  have Y0 : 9223372036854775808 ≤ (yn : Int) * P := by rw [hYn]; omega
  have Y1 : (yn : Int) * P < 18446744073709551616 := by rw [hYn]; omega
  have eY : IntKind.u64.wrap ((yn : Int) * P) = (yn : Int) * P := by
    rw [wu]; omega
  have lR : Int.fdiv lo (R : Int) = lo / R := Int.fdiv_eq_ediv_of_nonneg _ (by omega)
  have lo1 : lo / R < P := Int.ediv_lt_of_lt_mul (by omega) (by have : ((P * R : Nat) : Int) = (P : Int) * R := by simp
                                                                rw [← this, hPR]; exact l1)
  have lo0 : 0 ≤ lo / R := Int.ediv_nonneg l0 (by omega)
  have hiP : hi * P + P ≤ (yn : Int) * P := by
    have : (hi + 1) * P ≤ (yn : Int) * P := Int.mul_le_mul_of_nonneg_right (by omega) (by omega)
    rw [Int.add_mul, Int.one_mul] at this; exact this
  have hiP0 : 0 ≤ hi * P := Int.mul_nonneg h0 (by omega)
  have eU : Ft IntKind.u64 (fun p q => p ||| q) (IntKind.u64.wrap (hi * P)) (lo / R) = hi * P + lo / R := by
    rw [show IntKind.u64.wrap (hi * P) = hi * P by rw [wu]; omega, or_nat _ _ hiP0 (by omega) lo0 (by omega)]
    have := Nat.two_pow_add_eq_or_of_lt (i := s) (b := (lo / R).toNat) (by rw [← hP]; omega) hi.toNat
    rw [← hP] at this
    have e : (hi * P).toNat = P * hi.toNat := by
      obtain ⟨h, rfl⟩ := Int.eq_ofNat_of_zero_le h0
      rw [Int.toNat_natCast, Nat.mul_comm, ← Int.toNat_natCast (h * P)]; simp
    rw [e, ← this]
    have e2 : ((P * hi.toNat : Nat) : Int) = hi * P := by rw [← e]; omega
    omega
  have hsplit : lo * P = lo / R * 18446744073709551616 + lo * P % 18446744073709551616 := by
    have : lo * P / 18446744073709551616 = lo / R := by
      have hc : (18446744073709551616 : Int) = (R : Int) * P := by
        have : ((P * R : Nat) : Int) = (R : Int) * P := by rw [Nat.mul_comm]; simp
        rw [← this, hPR]; rfl
      rw [hc]; exact Int.mul_ediv_mul_of_pos_left lo R (by omega)
    have e := Int.mul_ediv_add_emod (lo * P) 18446744073709551616
    rw [this] at e; omega
  have eL : IntKind.u64.wrap (lo * P) = lo * P % 18446744073709551616 := by rw [wu]
  have hNY : (hi * 18446744073709551616 + lo) * P = (hi * P + lo / R) * 18446744073709551616 + lo * P % 18446744073709551616 := by
    have e1 : (hi * 18446744073709551616 + lo) * P = hi * P * 18446744073709551616 + lo * P := by
      rw [Int.add_mul, Int.mul_assoc, Int.mul_comm 18446744073709551616, ← Int.mul_assoc]
    omega
  have hdivP : (hi * 18446744073709551616 + lo) * P / ((yn : Int) * P) = (hi * 18446744073709551616 + lo) / yn := Int.mul_ediv_mul_of_pos_left _ _ (by omega)
  have hmodP : (hi * 18446744073709551616 + lo) * P % ((yn : Int) * P) = (hi * 18446744073709551616 + lo) % yn * P := by
    rw [Int.mul_comm _ (P : Int), Int.mul_comm (yn : Int), Int.mul_emod_mul_of_pos _ _ (by omega), Int.mul_comm]
  have hN0 : 0 ≤ (hi * 18446744073709551616 + lo) % yn := Int.emod_nonneg _ (by omega)
  have eP2 : ∀ x : Int, Int.fdiv x (P : Int) = x / P := fun x => Int.fdiv_eq_ediv_of_nonneg _ (by omega)
  simp only [ws, ws2, eP, eR, lR, sh32u, eP2]
  have l3 := loop3 lo yn s
  have l7 := loop7 lo yn s
  simp only [ws, eP] at l3 l7
  rw [eU, eY, eL]
  rw [eY, eL] at l3 l7
  rw [← hdivP]
  have hm : (hi * 18446744073709551616 + lo) % (yn : Int) = (hi * 18446744073709551616 + lo) * P % ((yn : Int) * P) / P := by
    rw [hmodP, Int.mul_ediv_cancel _ (by omega)]
  rw [hm, hNY]
  have hun1 : 0 ≤ lo * P % 18446744073709551616 := Int.emod_nonneg _ (by decide)
  have hun2 : lo * P % 18446744073709551616 < 18446744073709551616 := Int.emod_lt_of_pos _ (by decide)
  generalize lo * P % 18446744073709551616 = W at *
  have hu0 : 0 ≤ hi * P + lo / R := by omega
  have hu1 : hi * P + lo / R < (yn : Int) * P := by omega
  generalize hi * P + lo / R = u at *
  generalize (yn : Int) * P = Y at *
  clear hsplit hNY hdivP hmodP hm hiP hiP0
  have a0 : 0 < Y / 4294967296 := by omega
  have dq0 : 0 ≤ u / (Y / 4294967296) := Int.ediv_nonneg hu0 (by omega)
  have dgi := dig_init (Y := Y) (a := Y / 4294967296) (b := Y % 4294967296) (u := u) (d := W / 4294967296) (by omega) (by omega) (by omega) (by omega) (by omega) hu0 hu1 (by omega)
  have dq1 := dgi.q1
  rw [Int.tdiv_eq_ediv_of_nonneg hu0, show IntKind.u64.wrap (u / (Y / 4294967296)) = u / (Y / 4294967296) by rw [wu]; omega]
  have em := dgi.eq
  have hm0 := dgi.r0
  have hm1 := dgi.r1
  have er : IntKind.u64.wrap (u - IntKind.u64.wrap (u / (Y / 4294967296) * (Y / 4294967296))) = u % (Y / 4294967296) := by
    rw [wu, wu]; omega
  rw [er, D4, D4, D4, D4, D4]
  rw [l3 Y (Y / 4294967296) (Y % 4294967296) u (W / 4294967296) rfl rfl rfl rfl Y0 Y1 hu0 hu1 (by omega) (by omega)]
  simp only [Bh]
  rw [D4]
  have c1 : 0 ≤ (u * 4294967296 + W / 4294967296) / Y := Int.ediv_nonneg (by omega) (by omega)
  have c2 : (u * 4294967296 + W / 4294967296) / Y < 4294967296 := Int.ediv_lt_of_lt_mul (by omega) (by omega)
  have k1 := Int.mul_ediv_add_emod (u * 4294967296 + W / 4294967296) Y
  have k2 := Int.emod_nonneg (u * 4294967296 + W / 4294967296) (show Y ≠ 0 by omega)
  have k3 := Int.emod_lt_of_pos (u * 4294967296 + W / 4294967296) (show 0 < Y by omega)
  rw [Int.mul_comm Y] at k1
  have ev : IntKind.u64.wrap (IntKind.u64.wrap (IntKind.u64.wrap (u * 4294967296) + W / 4294967296) - IntKind.u64.wrap ((u * 4294967296 + W / 4294967296) / Y * Y)) = (u * 4294967296 + W / 4294967296) % Y := by
    simp only [wu]
    generalize (u * 4294967296 + W / 4294967296) / Y * Y = T at *
    omega
  rw [ev]
  generalize (u * 4294967296 + W / 4294967296) % Y = v at *
  generalize hq : (u * 4294967296 + W / 4294967296) / Y = q at *
  have dgj := dig_init (Y := Y) (a := Y / 4294967296) (b := Y % 4294967296) (u := v) (d := W % 4294967296) (by omega) (by omega) (by omega) (by omega) (by omega) k2 k3 (by omega)
  have f1 := dgj.q1
  have f0 := dgj.q0
  have fm := dgj.eq
  have fm0 := dgj.r0
  have fm1 := dgj.r1
  rw [Int.tdiv_eq_ediv_of_nonneg k2, show IntKind.u64.wrap (v / (Y / 4294967296)) = v / (Y / 4294967296) by rw [wu]; omega]
  have er2 : IntKind.u64.wrap (v - IntKind.u64.wrap (v / (Y / 4294967296) * (Y / 4294967296))) = v % (Y / 4294967296) := by
    rw [wu, wu]; omega
  rw [er2, l7 Y (Y / 4294967296) (Y % 4294967296) v (W % 4294967296) rfl (by rw [and32 _ (by omega) (by omega)]) rfl rfl Y0 Y1 k2 k3 (by omega) (by omega)]
  simp only [Bh]
  rw [D4, and32 _ (by omega) (by omega)]
  have g1 : 0 ≤ (v * 4294967296 + W % 4294967296) / Y := Int.ediv_nonneg (by omega) (by omega)
  have g2 : (v * 4294967296 + W % 4294967296) / Y < 4294967296 := Int.ediv_lt_of_lt_mul (by omega) (by omega)
  have j1 := Int.mul_ediv_add_emod (v * 4294967296 + W % 4294967296) Y
  have j2 := Int.emod_nonneg (v * 4294967296 + W % 4294967296) (show Y ≠ 0 by omega)
  have j3 := Int.emod_lt_of_pos (v * 4294967296 + W % 4294967296) (show 0 < Y by omega)
  rw [Int.mul_comm Y] at j1
  have ew : IntKind.u64.wrap (IntKind.u64.wrap (IntKind.u64.wrap (v * 4294967296) + W % 4294967296) - IntKind.u64.wrap ((v * 4294967296 + W % 4294967296) / Y * Y)) = (v * 4294967296 + W % 4294967296) % Y := by
    simp only [wu]
    generalize (v * 4294967296 + W % 4294967296) / Y * Y = T at *
    omega
  rw [ew]
  generalize (v * 4294967296 + W % 4294967296) % Y = w at *
  generalize (v * 4294967296 + W % 4294967296) / Y = p at *
  have hall : u * 18446744073709551616 + W = w + (q * 4294967296 + p) * Y := by
    rw [Int.add_mul, Int.mul_assoc, Int.mul_comm 4294967296 Y, ← Int.mul_assoc]
    generalize q * Y = T at *
    generalize p * Y = S at *
    omega
  rw [hall, Int.add_mul_ediv_right _ _ (by omega), Int.add_mul_emod_self_right, Int.ediv_eq_zero_of_lt j2 j3, Int.emod_eq_of_lt j2 j3, Int.zero_add]
  rw [show IntKind.u64.wrap (IntKind.u64.wrap (q * 4294967296) + p) = q * 4294967296 + p by rw [wu, wu]; omega]
end Go.Proofs.Div
namespace Go.Proofs.PlV
open Go.AM Go.Proofs.PlB Go.Proofs.PlW Go.Proofs.PlT
def pair (V:Int):Int×Int:=(V/18446744073709551616,V%18446744073709551616)
def far (V:Int):Prop:=-85070591730234615865843651857942052864≤V∧V≤85070591730234615865843651857942052864
theorem of_ok (v:Int) (h0 : -9223372036854775808≤v) (h1:v<9223372036854775808):f181 v=some (pair v):=by
 unfold f181 pair
 rw [sh63i,wu]
 congr 2
 omega
theorem add_w (A B:Int) (ha:far A) (hb:far B) (hs:far (A+B)):f180 (pair A) (pair B)=some (pair (A+B)):=by
 obtain ⟨a0,a1⟩:=ha
 obtain ⟨b0,b1⟩:=hb
 obtain ⟨s0,s1⟩:=hs
 unfold f180 pair
 simp only
 rw [add_ok _ _ _ (by omega) (by omega) (by decide) (by decide)]
 simp only [Bh,wu]
 rw [add_ok _ _ _ (by omega) (by omega) (by omega) (by omega)]
 simp only [Bh,Option.some.injEq,Prod.mk.injEq]
 refine ⟨?_,by omega⟩
 rw [wi_mod,← wi_mod]
 rw [show (A/18446744073709551616%18446744073709551616+B/18446744073709551616%18446744073709551616+(A%18446744073709551616+B%18446744073709551616+0)/18446744073709551616)%18446744073709551616=(A+B)/18446744073709551616%18446744073709551616 by omega]
 rw [wi_mod,Fl]
theorem fix_ok (V:Int) (hv:far V):f182 (pair V)=some (sat V):=by
 obtain ⟨a0,a1⟩:=hv
 unfold f182 f182_j2 f182_j3 pair sat
 simp only
 by_cases h1:V/18446744073709551616>0
 ·rw [show decide (V/18446744073709551616>0)=true by simpa using h1,iPo]
  rfl
 ·rw [show decide (V/18446744073709551616>0)=false by simpa using h1]
  simp only [cond_false]
  by_cases h2:V/18446744073709551616=0
  ·rw [show (V/18446744073709551616==0)=true by simpa using h2]
   simp only [cond_true,Bh]
   rw [show decide (V/18446744073709551616 < -1)=false by simp;omega,show (V/18446744073709551616==-1)=false by simp;omega]
   by_cases h3:V%18446744073709551616≥9223372036854775808
   ·rw [show decide (V%18446744073709551616≥9223372036854775808)=true by simpa using h3,iPo]
    rfl
   ·rw [show decide (V%18446744073709551616≥9223372036854775808)=false by simpa using h3,iNo,iNo]
    simp only [cond_false,Bh,Fu,Option.some.injEq]
    rw [Fl]
    omega
  ·rw [show (V/18446744073709551616==0)=false by simpa using h2]
   simp only [cond_false,Bh]
   by_cases h3:V/18446744073709551616 < -1
   ·rw [show decide (V/18446744073709551616 < -1)=true by simpa using h3,iNo,iPo]
    rfl
   ·rw [show decide (V/18446744073709551616 < -1)=false by simpa using h3,show (V/18446744073709551616==-1)=true by simp;omega]
    simp only [cond_false,cond_true]
    by_cases h4:V%18446744073709551616<9223372036854775808
    ·rw [show decide (V%18446744073709551616<9223372036854775808)=true by simpa using h4,iNo,iPo]
     rfl
    ·rw [show decide (V%18446744073709551616<9223372036854775808)=false by simpa using h4,iNo,iNo]
     simp only [cond_false,Bh,Fu,Option.some.injEq]
     rw [wi]
     split <;> omega
end Go.Proofs.PlV
namespace Go.Proofs.Div
open Go.AM Go.Proofs.PlW Go.Proofs.Num Go.Proofs.PlV
theorem rdI_eq (a n:Int):rdI a n=if (!(decide (a<0)==decide (n<0))) then -rdn a.natAbs n.natAbs else rdn a.natAbs n.natAbs:=by
 unfold rdI
 by_cases h1:a<0 <;> by_cases h2:n<0 <;> simp [h1,h2]
theorem round_j (d q r:Int) (d0:0<d) (d1:d≤9223372036854775808) (r0:0≤r) (r1:r<d) (q0:0≤q) (q1:q<18446744073709551616) :
  f184_j3 d (q,r)=some (decide (2*r>d∨(2*r=d∧q%2=1))):=by
 unfold f184_j3
 simp only
 rw [show IntKind.u64.wrap (d-r)=d-r by rw [wu];omega]
 by_cases h1:r>d-r
 ·rw [dT h1,dT];rfl
 ·rw [dF h1]
  simp only [cond_false]
  by_cases h2:r=d-r
  ·rw [bT h2]
   simp only [cond_true]
   rw [and1 _ q0 q1,Option.some.injEq,Bool.eq_iff_iff,beq_iff_eq,decide_eq_true_iff]
   omega
  ·rw [bF h2,dF];rfl
theorem fdiv_j (d q r:Int) (d0:0<d) (d1:d≤9223372036854775808) (r0:0≤r) (r1:r<d) (q0:0≤q) (q1:q<18446744073709551616) :
  f207_j3 d (q,r)=some (decide (2*r>d∨(2*r=d∧q%2=1))):=round_j d q r d0 d1 r0 r1 q0 q1
theorem fdiv_j2 (d q r R:Int) (d0:0<d) (d1:d≤9223372036854775808) (r0:0≤r) (r1:r<d) (q0:0≤q) (q1:q<18446744073709551616)
  (hR:R=q+if 2*r>d∨(2*r=d∧q%2=1) then 1 else 0):f207_j2 d (q,r)=some (R%18446744073709551616,R/18446744073709551616):=by
 unfold f207_j2
 rw [fdiv_j d q r d0 d1 r0 r1 q0 q1,Bh]
 by_cases c:2*r>d∨(2*r=d∧q%2=1)
 ·rw [if_pos c] at hR
  rw [dT c,cond_true,add_ok _ _ _ (by omega) (by omega) (by omega) (by omega),Bh,hR,Int.add_zero]
 ·rw [if_neg c] at hR
  rw [dF c,cond_false,hR]
  refine congrArg some (Prod.ext ?_ ?_) <;> simp only <;> omega
theorem fdiv_end (x y a b d q r R:Int) (s:Bool) (d0:0<d) (d1:d≤9223372036854775808) (r0:0≤r) (r1:r<d) (q0:0≤q) (q1:q<18446744073709551616)
  (hR:R=q+if 2*r>d∨(2*r=d∧q%2=1) then 1 else 0) (hdv:f211 x y d=some (q,r)) :
  (Ey (f211 x y d) fun r4=>Ey (f207_j2 d r4) fun z7=>Ey (f200 z7.2 z7.1 s) fun r10=>some r10)=some (sat (if s=true then -R else R)):=by
 have R0:0≤R:=by rw [hR];split <;> omega
 have R1:R≤85070591730234615865843651857942052864:=by rw [hR];split <;> omega
 rw [hdv,Bh,fdiv_j2 d q r R d0 d1 r0 r1 q0 q1 hR,Bh,PlS.held_ok R s R0 R1,Bh]
theorem fdiv_ok (a b:Int) (a0 : -9223372036854775808≤a) (a1:a<9223372036854775808) (b0 : -9223372036854775808≤b) (b1:b<9223372036854775808) (hb:b≠0) :
  f207 a b=some (sat (rdI (a*4294967296) b)):=by
 unfold f207
 rw [bF hb]
 simp only [cond_false]
 rw [PlS.sizeF_ok a a0 a1,PlS.sizeF_ok b b0 b1]
 simp only [Bh]
 have e1:(if a<0 then -a else a)=((a.natAbs:Nat):Int):=by split <;> omega
 have e2:(if b<0 then -b else b)=((b.natAbs:Nat):Int):=by split <;> omega
 rw [e1,e2,rdI_eq,sh32u]
 have e3:(((a*4294967296).natAbs:Nat):Int)=(a.natAbs:Int)*4294967296:=by omega
 rw [e3,show decide (a*4294967296<0)=decide (a<0) by rw [decide_eq_decide];omega]
 have A0:0≤(a.natAbs:Int):=by omega
 have A1:(a.natAbs:Int)≤9223372036854775808:=by omega
 have d0:0<(b.natAbs:Int):=by omega
 have d1:(b.natAbs:Int)≤9223372036854775808:=by omega
 generalize (!(decide (a<0)==decide (b<0)))=s at *
 generalize (a.natAbs:Int)=A at *
 generalize (b.natAbs:Int)=d at *
 have hR:rdn (A*4294967296) d=A*4294967296/d+if 2*(A*4294967296%d)>d∨(2*(A*4294967296%d)=d∧A*4294967296/d%2=1) then 1 else 0:=rfl
 have hRl:=rdn_le (N:=A*4294967296) (by omega) d0
 by_cases h:A/4294967296≥d
 ·rw [dT h]
  simp only [cond_true]
  have hk:=PlS.held_ok 18446744073709551616 s (by decide) (by decide)
  rw [show (18446744073709551616:Int)/18446744073709551616=1 from rfl,show (18446744073709551616:Int)%18446744073709551616=0 from rfl] at hk
  rw [hk]
  simp only [Bh]
  have hge:18446744073709551616≤A*4294967296/d:=Int.le_ediv_of_mul_le d0 (by omega)
  have hRg:18446744073709551616≤rdn (A*4294967296) d:=by rw [hR];split <;> omega
  congr 1
  cases s
  ·simp only [Bool.false_eq_true,if_false];unfold sat;rw [iPo,iPo]
  ·simp only [if_true];unfold sat;rw [if_neg (show ¬(-18446744073709551616:Int)≥9223372036854775808 by decide),if_pos (show (-18446744073709551616:Int) < -9223372036854775808 by decide),iNo,iPo]
 ·rw [dF h]
  simp only [cond_false]
  have hlo:IntKind.u64.wrap (A*2 ^ min (Int.toNat (32:Int)) (IntKind.bits IntKind.u64))=A*4294967296%18446744073709551616:=by
   rw [show ((2:Int) ^ min (Int.toNat (32:Int)) (IntKind.bits IntKind.u64))=4294967296 from rfl,wu]
  have hdv:=div64 (A/4294967296) (A*4294967296%18446744073709551616) d (by omega) (by omega) (by omega) (by omega) (by omega)
  rw [show A/4294967296*18446744073709551616+A*4294967296%18446744073709551616=A*4294967296 by omega] at hdv
  have q0:0≤A*4294967296/d:=Int.ediv_nonneg (by omega) (by omega)
  have q1:A*4294967296/d<18446744073709551616:=Int.ediv_lt_of_lt_mul d0 (by omega)
  have r0:=Int.emod_nonneg (A*4294967296) (show d≠0 by omega)
  have r1:=Int.emod_lt_of_pos (A*4294967296) d0
  rw [hlo]
  exact fdiv_end _ _ a b d _ _ _ s d0 d1 r0 r1 q0 q1 hR hdv
end Go.Proofs.Div
namespace Go.Proofs.PlR
open Go.AM Go.Proofs.PlB Go.Proofs.PlW Go.Proofs.PlT Go.Proofs.PlS
abbrev Tn:=List Int×List Int
theorem prd_one (n:Int) (h0:1≤n) (h1:n≤4096):prd [n]=n:=by
 simp only [prd,pgo,List.length_cons,List.length_nil,Int.one_mul]
 rw [iNo,iNo]
theorem sat_range (x:Int) : -9223372036854775808≤sat x∧sat x<9223372036854775808:=by unfold sat;split <;> (try split) <;> omega
theorem tab_inI (n:Nat) (g:Nat→Int) (h:∀ i,i<n→-9223372036854775808≤g i∧g i<9223372036854775808):inI (Gg n g):=fun x hx=>by
 unfold Gg at hx
 obtain ⟨i,hi,rfl⟩:=List.mem_map.1 hx
 exact h i (List.mem_range.1 hi)
end Go.Proofs.PlR
namespace Go.Proofs.PlV
open Go.AM Go.Proofs.PlB Go.Proofs.PlW Go.Proofs.PlT
def cl (n:Nat):Bool:=(f226 (n:Int)==some 56&&(decide (128≤(n:Int)*1)&&decide ((n:Int)*1≤255)))||(f226 (n:Int)==some 57&&(decide (128≤(n:Int)*2)&&decide ((n:Int)*2≤255)))||(f226 (n:Int)==some 58&&(decide (128≤(n:Int)*4)&&decide ((n:Int)*4≤255)))||(f226 (n:Int)==some 59&&(decide (128≤(n:Int)*8)&&decide ((n:Int)*8≤255)))||(f226 (n:Int)==some 60&&(decide (128≤(n:Int)*16)&&decide ((n:Int)*16≤255)))||(f226 (n:Int)==some 61&&(decide (128≤(n:Int)*32)&&decide ((n:Int)*32≤255)))||(f226 (n:Int)==some 62&&(decide (128≤(n:Int)*64)&&decide ((n:Int)*64≤255)))||(f226 (n:Int)==some 63&&(decide (128≤(n:Int)*128)&&decide ((n:Int)*128≤255)))
theorem cl_all:(List.range 201).all (fun n=>n==0||cl n)=true:=by kernel_rfl
theorem clz_ok (n:Nat) (h1:n<201) (h0:1≤n):(f226 (n:Int)=some 56∧128≤(n:Int)*1∧(n:Int)*1≤255)∨(f226 (n:Int)=some 57∧128≤(n:Int)*2∧(n:Int)*2≤255)∨(f226 (n:Int)=some 58∧128≤(n:Int)*4∧(n:Int)*4≤255)∨(f226 (n:Int)=some 59∧128≤(n:Int)*8∧(n:Int)*8≤255)∨(f226 (n:Int)=some 60∧128≤(n:Int)*16∧(n:Int)*16≤255)∨(f226 (n:Int)=some 61∧128≤(n:Int)*32∧(n:Int)*32≤255)∨(f226 (n:Int)=some 62∧128≤(n:Int)*64∧(n:Int)*64≤255)∨(f226 (n:Int)=some 63∧128≤(n:Int)*128∧(n:Int)*128≤255):=by
 have h:=List.all_eq_true.1 cl_all n (List.mem_range.2 h1)
 rw [Bool.or_eq_true] at h
 rcases h with h | h
 ·simp at h;omega
 ·simpa only [cl,Bool.or_eq_true,Bool.and_eq_true,beq_iff_eq,decide_eq_true_eq,or_assoc] using h
end Go.Proofs.PlV
namespace Go.Proofs.PlR
open Go.AM Go.Proofs.PlB Go.Proofs.PlW Go.Proofs.PlT Go.Proofs.PlS Go.Proofs.PlV
def sumL:List Int→Int
 | []=>0
 | x::r=>x+sumL r
theorem sumL_app:∀ a b:List Int,sumL (a++b)=sumL a+sumL b
 | [],b=>by simp [sumL]
 | x::r,b=>by simp only [List.cons_append,sumL,sumL_app r b];omega
theorem sumL_bound (b:Int) (hb:0≤b):∀ l:List Int,(∀ x ∈ l,-b≤x∧x≤b)→-(l.length*b)≤sumL l∧sumL l≤l.length*b
 | [],_=>by simp [sumL]
 | x::r,h=>by
  have h1:=h x (by simp)
  have h2:=sumL_bound b hb r (fun y hy=>h y (by simp [hy]))
  simp only [sumL,List.length_cons,Int.natCast_add,Int.natCast_one,Int.add_mul,Int.one_mul]
  omega
theorem far_sum (l:List Int) (il:inI l) (hl:l.length≤4096):far (sumL l):=by
 have h:=sumL_bound 9223372036854775808 (by decide) l (fun x hx=>by have:=il x hx;omega)
 unfold far;omega
theorem total_ok (l:List Int) (il:inI l) (hl:l.length≤4096):f183 l=some (pair (sumL l)):=by
 unfold f183
 have H:∀ x:Int×Int×Int,(∃ k:Nat,k≤l.length∧x=((k:Int),(pair (sumL (l.take k))).1,(pair (sumL (l.take k))).2))→
   (∃ z,(∀ go,f183_l1 l go x.1 x.2.1 x.2.2=some z)∧z=pair (sumL l))∨
   (∃ y:Int×Int×Int,(∀ go,f183_l1 l go x.1 x.2.1 x.2.2=go y)∧(∃ k:Nat,k≤l.length∧y=((k:Int),(pair (sumL (l.take k))).1,(pair (sumL (l.take k))).2))∧((l.length:Int)-y.1).toNat<((l.length:Int)-x.1).toNat):=by
  rintro _ ⟨k,hk,rfl⟩
  unfold f183_l1
  simp only
  by_cases h:k<l.length
  ·right
   refine ⟨(((k+1:Nat):Int),(pair (sumL (l.take (k+1)))).1,(pair (sumL (l.take (k+1)))).2),fun go=>?_,⟨k+1,h,rfl⟩,by simp only;omega⟩
   rw [show decide ((k:Int)<(l.length:Int))=true by simpa using h]
   simp only [cond_true]
   have hr:=il l[k] (List.getElem_mem h)
   rw [D4,Gj _ _ _ h,of_ok _ hr.1 hr.2]
   simp only [Bh]
   have e:sumL (l.take (k+1))=sumL (l.take k)+l[k]:=by
    rw [List.take_succ_eq_append_getElem h,sumL_app]
    simp [sumL]
   have far1:far (sumL (l.take k)):=far_sum _ (fun x hx=>il x (List.mem_of_mem_take hx)) (by simp;omega)
   have far2:far (sumL (l.take (k+1))):=far_sum _ (fun x hx=>il x (List.mem_of_mem_take hx)) (by simp;omega)
   rw [e] at far2 ⊢
   rw [show ((pair (sumL (l.take k))).1,(pair (sumL (l.take k))).2)=pair (sumL (l.take k)) from rfl,show ((pair l[k]).1,(pair l[k]).2)=pair l[k] from rfl,add_w _ _ far1 (by unfold far;omega) far2]
   simp only [Bh]
   rw [Fl]
   rfl
  ·left
   have:k=l.length:=by omega
   subst this
   refine ⟨_,fun go=>?_,rfl⟩
   rw [show decide ((l.length:Int)<(l.length:Int))=false by simp]
   rw [List.take_length]
   rfl
 obtain ⟨z,e,rfl⟩:=Gd (B:=fun go (x:Int×Int×Int)=>f183_l1 l go x.1 x.2.1 x.2.2) _ (fun x=>((l.length:Int)-x.1).toNat) _ H ((0:Int),(0:Int),(0:Int)) ⟨0,Nat.zero_le _,by simp [pair,sumL]⟩ (by simp;omega)
 rw [e]
 rfl
abbrev Nd:=Int×Int×Int×Int×(List Int)×(List Int)
def nd (l:List Nd) (i:Nat):Tn:=(rd (Ty.z (.p (.int .i64) (.p (.int .i64) (.p (.int .i64) (.p (.int .i64) (.p (.sl (.int .i64)) (.sl (.int .i64)))))))) l (i:Int)).2.2.2.2
theorem Kd (l m:List Nd) (i:Nat) (h:i<l.length):nd (l++m) i=nd l i:=by
 unfold nd
 rw [Gj _ _ _ h,Gj _ _ _ (by simp;omega),List.getElem_append_left h]
theorem J6 (l:List Nd) (n:Nd):nd (l++[n]) l.length=n.2.2.2.2:=by
 unfold nd
 rw [Gj _ _ _ (by simp)]
 simp
theorem push_ok (l:List Nd) (n:Nd) (h:l.length<512):f92 l n=some ((l.length:Int),l++[n]):=by
 unfold f92
 rw [D4 (by simp;omega)]
 simp only [Bh,List.length_append,List.length_cons,List.length_nil]
 rw [Fl]
 simp
theorem leaf_ok (l:List Nd) (a:Tn) (h:l.length<512) (hg:Fz a=true):f69 l a=some ((l.length:Int),0,l++[(1,-1,-1,0,a.1,a.2)]):=by
 obtain ⟨_,_,l1,l2⟩:=Ga hg
 unfold f69
 rw [show decide ((List.length l:Int)≥(512:Int))=false by simp;omega,show (a.1,a.2)=a from rfl,Gv,hg]
 simp only [cond_false,Bh,Bool.not_true]
 rw [copy_t a (by omega) (by omega)]
 simp only [Bh]
 rw [push_ok _ _ h]
 rfl
end Go.Proofs.PlR

