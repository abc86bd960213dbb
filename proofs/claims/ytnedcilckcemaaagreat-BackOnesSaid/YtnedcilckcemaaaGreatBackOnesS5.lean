import Derived.Test.YtnedcilckcemaaaGreatBackOnesS4
set_option linter.unusedVariables false
set_option maxRecDepth 100000
set_option maxHeartbeats 8000000
namespace Go.Proofs
open Go.AM
open IntKind (i64 u64 i32 u32 i16 u16 i8 u8)
def f87_l1 (a_M_0 a_M_1 a_M_2 a_M_3 n:Int) (go:PTz9→Option PTz2) (i c2_1 c2_2 c2_3 c2_4:Int):Option PTz2:=
 bif (decide (i<256)) then
 Ey (f89 a_M_0 a_M_1 a_M_2 a_M_3 i) fun r6=>
 bif (r6==1) then
 E9 (0≤(i64.wrap (Int.tdiv (i64.wrap (i-n)) (64:Int)))∧(i64.wrap (Int.tdiv (i64.wrap (i-n)) (64:Int)))<4)<|
 pickF (i64.wrap (Int.tdiv (i64.wrap (i-n)) (64:Int)))
 [(E9 (0≤(u64.wrap (Int.tmod (i64.wrap (i-n)) (64:Int))))<|
 go ((i64.wrap (i+1)),(Fu IntKind.u64 (fun p q=>p||| q) c2_1 (u64.wrap ((1:Int)*2 ^ min (Int.toNat (u64.wrap (Int.tmod (i64.wrap (i-n)) (64:Int)))) u64.bits))),c2_2,c2_3,c2_4)),
 (E9 (0≤(u64.wrap (Int.tmod (i64.wrap (i-n)) (64:Int))))<|
 go ((i64.wrap (i+1)),c2_1,(Fu IntKind.u64 (fun p q=>p||| q) c2_2 (u64.wrap ((1:Int)*2 ^ min (Int.toNat (u64.wrap (Int.tmod (i64.wrap (i-n)) (64:Int)))) u64.bits))),c2_3,c2_4)),
 (E9 (0≤(u64.wrap (Int.tmod (i64.wrap (i-n)) (64:Int))))<|
 go ((i64.wrap (i+1)),c2_1,c2_2,(Fu IntKind.u64 (fun p q=>p||| q) c2_3 (u64.wrap ((1:Int)*2 ^ min (Int.toNat (u64.wrap (Int.tmod (i64.wrap (i-n)) (64:Int)))) u64.bits))),c2_4)),
 (E9 (0≤(u64.wrap (Int.tmod (i64.wrap (i-n)) (64:Int))))<|
 go ((i64.wrap (i+1)),c2_1,c2_2,c2_3,(Fu IntKind.u64 (fun p q=>p||| q) c2_4 (u64.wrap ((1:Int)*2 ^ min (Int.toNat (u64.wrap (Int.tmod (i64.wrap (i-n)) (64:Int)))) u64.bits)))))]
 else
 go ((i64.wrap (i+1)),c2_1,c2_2,c2_3,c2_4)
 else
 some (c2_1,c2_2,c2_3,c2_4)
def f87_j2 (a_M_0 a_M_1 a_M_2 a_M_3 n:Int):Option (Sum Unit Unit):=
 bif (n==0) then
 some (Sum.inr ())
 else
 Ey (f89 a_M_0 a_M_1 a_M_2 a_M_3 (i64.wrap (n-1))) fun r10=>
 bif (r10==0) then
 some (Sum.inr ())
 else
 some (Sum.inl ())
def f87_l3 (a_M_0 a_M_1 a_M_2 a_M_3 n:Int) (go:(Bool×Int)→Option Bool) (more:Bool) (i:Int):Option Bool:=
 bif (decide (i<(i64.wrap (n-1)))) then
 bif more then
 go (true,(i64.wrap (i+1)))
 else
 Ey (f89 a_M_0 a_M_1 a_M_2 a_M_3 i) fun r14=>
 go ((r14==1),(i64.wrap (i+1)))
 else
 some more
def f87 (a_Neg:Bool) (a_M_0 a_M_1 a_M_2 a_M_3 n:Int):Option Lc:=
 Ey (Fp (fun go x=>f87_l1 a_M_0 a_M_1 a_M_2 a_M_3 n go x.1 x.2.1 x.2.2.1 x.2.2.2.1 x.2.2.2.2) Fv (n,(0:Int),(0:Int),(0:Int),(0:Int))) fun z5=>
 Ey (f87_j2 a_M_0 a_M_1 a_M_2 a_M_3 n) fun z9=>
 Fz z9 (fun z9a=>
 Ey (Fp (fun go x=>f87_l3 a_M_0 a_M_1 a_M_2 a_M_3 n go x.1 x.2) Fv (((Fu IntKind.u64 (fun p q=>p&&& q) z5.1 (1:Int))==1),(0:Int))) fun z13=>
 bif z13 then
 Ey (f90 z5.1 z5.2.1 z5.2.2.1 z5.2.2.2 (1:Int) (0:Int) (0:Int) (0:Int)) fun r15=>
 some (a_Neg,r15.1,r15.2.1,r15.2.2.1,r15.2.2.2)
 else
 some (a_Neg,z5.1,z5.2.1,z5.2.2.1,z5.2.2.2)) (fun z9b=>
 some (a_Neg,z5.1,z5.2.1,z5.2.2.1,z5.2.2.2))
def C87:Con:=⟨Bool×PTz9,Lc,0,fun x=>[.raw true [(.d .bool x.1),(.d T4 x.2.1),(.d T4 x.2.2.1),(.d T4 x.2.2.2.1),(.d T4 x.2.2.2.2.1)],.dat T2 x.2.2.2.2.2],NX,fun x=>f87 x.1 x.2.1 x.2.2.1 x.2.2.2.1 x.2.2.2.2.1 x.2.2.2.2.2,fun y=>[.raw true [(.d .bool y.1),(.d T4 y.2.1),(.d T4 y.2.2.1),(.d T4 y.2.2.2.1),(.d T4 y.2.2.2.2)]],NX,0⟩
theorem V87 a_Neg a_M_0 a_M_1 a_M_2 a_M_3 n y (q:f87 a_Neg a_M_0 a_M_1 a_M_2 a_M_3 n=some y):VC Tryz.f87 C87 (a_Neg,a_M_0,a_M_1,a_M_2,a_M_3,n) y:=by
 unfold f87 at q
 refine OL (OL (OL (OL (OL ?_))))
 obtain ⟨z5,hz5,q⟩:=bE q
 let e0:LE:=fun zz=>(1,.dat T2 n)::(2,P0 0 0)::(4,P0 1 0)::(5,P0 2 0)::zz
 let h1:LH:=fun zz=>(0,.cells [(.d .bool a_Neg),(.d T4 a_M_0),(.d T4 a_M_1),(.d T4 a_M_2),(.d T4 a_M_3)])::(1,.cells [(.d .bool false),(.d T4 (0:Int)),(.d T4 (0:Int)),(.d T4 (0:Int)),(.d T4 (0:Int))])::zz
 refine lJ hz5 (fun x=>⟨e0 [(6,.dat T2 x.1)],h1 [(2,.cells [(.d .bool a_Neg),(.d T4 x.2.1),(.d T4 x.2.2.1),(.d T4 x.2.2.2.1),(.d T4 x.2.2.2.2)])],3⟩) (fun z=>[(2,⟨e0 [],h1 [(2,.cells [(.d .bool a_Neg),(.d T4 z.1),(.d T4 z.2.1),(.d T4 z.2.2.1),(.d T4 z.2.2.2)])],3⟩)]) (E4 I3 (R3 (AI (R3 TV) (R3 TV)))) (fun m=>F6 (fun i=>F6 (fun c2_1=>F6 (fun c2_2=>F6 (fun c2_3=>fun c2_4 z q=>?_))))) ?_
 ·have q:f87_l1 a_M_0 a_M_1 a_M_2 a_M_3 n _ i c2_1 c2_2 c2_3 c2_4=some z:=q
  unfold f87_l1 at q
  refine OL (OL (cI q (fun q=>?_) (fun q=>?_)))
  ·refine OL (OL ?_)
   obtain ⟨r6,h,q⟩:=bE q
   refine OL (cA H89 (a_M_0,a_M_1,a_M_2,a_M_3,i) h rfl (AI rfl (AI NH (R2 (AJ (AI TV (cI q (fun q=>?_) (fun q=>?_))))))))
   ·refine AI (by decide) (AI (by decide) (gI q (fun q=>?_)))
    refine AI (fun hk7=>?_) ?_
    ·have q:=Jn q hk7
     dsimp only [nthO] at q
     refine AI (by decide) (gI q (fun q=>?_))
     refine AI (rE hk7 (by decide)) (AI (fun _=>?_) (AI (fun h=>absurd (hk7.symm.trans h) (by decide)) (AI (fun h=>absurd (hk7.symm.trans h) (by decide)) (AI (fun h=>absurd (hk7.symm.trans h) (by decide)) TV))))
     refine OL (EI ((i64.wrap (i+1)),(Fu IntKind.u64 (fun p q=>p||| q) c2_1 (u64.wrap ((1:Int)*2 ^ min (Int.toNat (u64.wrap (Int.tmod (i64.wrap (i-n)) (64:Int)))) u64.bits))),c2_2,c2_3,c2_4) (AI q (E4 I3 (R3 (AI (R3 TV) (R3 TV))))))
    refine AI (fun hk7=>?_) ?_
    ·have q:=Jn q hk7
     dsimp only [nthO] at q
     refine AI (by decide) (gI q (fun q=>?_))
     refine AI (rE hk7 (by decide)) (AI (fun h=>absurd (hk7.symm.trans h) (by decide)) ?_)
     refine AI (fun _=>?_) (AI (fun h=>absurd (hk7.symm.trans h) (by decide)) (AI (fun h=>absurd (hk7.symm.trans h) (by decide)) TV))
     refine OL (EI ((i64.wrap (i+1)),c2_1,(Fu IntKind.u64 (fun p q=>p||| q) c2_2 (u64.wrap ((1:Int)*2 ^ min (Int.toNat (u64.wrap (Int.tmod (i64.wrap (i-n)) (64:Int)))) u64.bits))),c2_3,c2_4) (AI q (E4 I3 (R3 (AI (R3 TV) (R3 TV))))))
    refine AI (fun hk7=>?_) ?_
    ·have q:=Jn q hk7
     dsimp only [nthO] at q
     refine AI (by decide) (gI q (fun q=>?_))
     refine AI (rE hk7 (by decide)) (AI (fun h=>absurd (hk7.symm.trans h) (by decide)) ?_)
     refine AI (fun h=>absurd (hk7.symm.trans h) (by decide)) ?_
     refine AI (fun _=>?_) (AI (fun h=>absurd (hk7.symm.trans h) (by decide)) TV)
     refine OL (EI ((i64.wrap (i+1)),c2_1,c2_2,(Fu IntKind.u64 (fun p q=>p||| q) c2_3 (u64.wrap ((1:Int)*2 ^ min (Int.toNat (u64.wrap (Int.tmod (i64.wrap (i-n)) (64:Int)))) u64.bits))),c2_4) (AI q (E4 I3 (R3 (AI (R3 TV) (R3 TV))))))
    refine AI (fun hk7=>?_) TV
    have q:=Jn q hk7
    dsimp only [nthO] at q
    refine AI (by decide) (gI q (fun q=>?_))
    refine AI (rE hk7 (by decide)) (AI (fun h=>absurd (hk7.symm.trans h) (by decide)) ?_)
    refine AI (fun h=>absurd (hk7.symm.trans h) (by decide)) ?_
    refine AI (fun h=>absurd (hk7.symm.trans h) (by decide)) ?_
    refine AI (fun _=>?_) TV
    refine OL (EI ((i64.wrap (i+1)),c2_1,c2_2,c2_3,(Fu IntKind.u64 (fun p q=>p||| q) c2_4 (u64.wrap ((1:Int)*2 ^ min (Int.toNat (u64.wrap (Int.tmod (i64.wrap (i-n)) (64:Int)))) u64.bits)))) (AI q (E4 I3 (R3 (AI (R3 TV) (R3 TV))))))
   refine EI ((i64.wrap (i+1)),c2_1,c2_2,c2_3,c2_4) (AI q (E4 I3 (R3 (AI (R3 TV) (R3 TV)))))
  cases sE q
  refine E4 I3 (R2 (AI (R3 TV) (R3 TV)))
 refine AI ?_ TV
 obtain ⟨z9,hz9,q⟩:=bE q
 let h2:LH:=fun zz=>h1 ((2,.cells [(.d .bool a_Neg),(.d T4 z5.1),(.d T4 z5.2.1),(.d T4 z5.2.2.1),(.d T4 z5.2.2.2)])::zz)
 refine OQ ⟨Sum.elim (fun z9a=>[(0,⟨e0 [],h2 [],3⟩)]) (fun z9b=>[(1,⟨[(4,P0 0 0)],[(0,.cells [(.d .bool a_Neg),(.d T4 z5.1),(.d T4 z5.2.1),(.d T4 z5.2.2.1),(.d T4 z5.2.2.2)])],1⟩)]) z9,?_,?_⟩
 ·have q:=hz9
  clear hz9
  unfold f87_j2 at q
  refine OL (cN q (fun q=>?_) (fun q=>?_))
  ·refine gY (gY (gY (gY ?_)))
   obtain ⟨r10,h,q⟩:=bE q
   refine OL (cA H89 (a_M_0,a_M_1,a_M_2,a_M_3,(i64.wrap (n-1))) h rfl (AI rfl (AI NH (R2 (AJ (AI TV (gY (cF (cI q (fun q=>?_) (fun q=>?_))))))))))
   ·refine OL (OL ?_)
    cases sE q
    refine E4 (iuR [2]) (AI rfl (AJ (AI rfl TV)))
   cases sE q
   refine E4 I3 (R2 (AI (R3 TV) (R3 TV)))
  refine gN (gN (gN (gN (gN (cT (cT (OL (OL ?_))))))))
  cases sE q
  refine E4 (iuR [2]) (AI rfl (AJ (AI rfl TV)))
 rcases z9 with z9a | z9b
 ·dsimp only [Fz] at q
  refine AI (OL (AI (by decide) (AI (fun _=>?_) (AI (fun h=>absurd h (by decide)) (AI (fun h=>absurd h (by decide)) (AI (fun h=>absurd h (by decide)) TV)))))) TV
  refine OL (OL ?_)
  obtain ⟨z13,h,q⟩:=bE q
  refine lJ h (fun x=>⟨e0 [(7,.dat .bool x.1),(8,.dat T2 x.2)],h2 [],3⟩) (fun z=>[(4,⟨[(4,P0 0 0),(5,P0 1 0),(7,.dat .bool z)],[(0,.cells [(.d .bool false),(.d T4 (0:Int)),(.d T4 (0:Int)),(.d T4 (0:Int)),(.d T4 (0:Int))]),(1,.cells [(.d .bool a_Neg),(.d T4 z5.1),(.d T4 z5.2.1),(.d T4 z5.2.2.1),(.d T4 z5.2.2.2)])],2⟩)]) (E4 I3 (R4 (AI (R3 TV) (R3 TV)))) (fun m=>F6 (fun more=>fun i z q=>?_)) ?_
  ·have q:f87_l3 a_M_0 a_M_1 a_M_2 a_M_3 n _ more i=some z:=q
   unfold f87_l3 at q
   refine OL (OL (cI q (fun q=>?_) (fun q=>?_)))
   ·refine OL (cN q (fun q=>?_) (fun q=>?_))
    ·refine gY (gY (gY ?_))
     obtain ⟨r14,h,q⟩:=bE q
     refine OL (cA H89 (a_M_0,a_M_1,a_M_2,a_M_3,i) h rfl (AI rfl (AI NH (R2 (AJ (AI TV (gY (cF (EI ((r14==1),(i64.wrap (i+1))) (AI q (E4 I3 (R4 (AI (R3 TV) (R3 TV))))))))))))))
    refine gN (gN (gN (gN (cT (EI (true,(i64.wrap (i+1))) (AI q (E4 I3 (R4 (AI (R3 TV) (R3 TV))))))))))
   cases sE q
   refine E4 (iuR [2,3]) (R2 (AI (R2 TV) (R2 TV)))
  refine AI (OL (OL (cI q (fun q=>?_) (fun q=>?_)))) TV
  ·obtain ⟨r15,h,q⟩:=bE q
   refine OL (cA H90 (z5.1,z5.2.1,z5.2.2.1,z5.2.2.2,(1:Int),(0:Int),(0:Int),(0:Int)) h rfl (AI NH (R2 (AI (R2 TV) (AI TV (OL (OL (OL ?_))))))))
   cases sE q
   refine AI rfl (E4 [] (AI rfl (AJ TV)))
  refine OL (OL ?_)
  cases sE q
  refine AI rfl (E4 [] (AI rfl (AJ TV)))
 dsimp only [Fz] at q
 refine AI ?_ TV
 cases sE q
 refine AI rfl (E4 [] (AI rfl (AJ TV)))
theorem H87:HI C87 87:=hI Tryz.f87 rfl fun x=>V87 x.1 x.2.1 x.2.2.1 x.2.2.2.1 x.2.2.2.2.1 x.2.2.2.2.2
def f66 (a b:Int):Option Int:=
 Ey (f86 a b) fun r1=>
 Ey (f87 r1.1 r1.2.1 r1.2.2.1 r1.2.2.2.1 r1.2.2.2.2 (32:Int)) fun r2=>
 Ey (f39 r2.1 r2.2.1 r2.2.2.1 r2.2.2.2.1 r2.2.2.2.2) fun r3=>
 some r3
def C66:Con:=⟨Gm,Int,0,fun x=>[.dat T2 x.1,.dat T2 x.2],NX,fun x=>f66 x.1 x.2,fun y=>[.dat T2 y],NX,0⟩
theorem V66 a b y (q:f66 a b=some y):VC Tryz.f66 C66 (a,b) y:=by
 unfold f66 at q
 refine OL (OL ?_)
 obtain ⟨r1,h,q⟩:=bE q
 refine OL (cA H86 (a,b) h rfl (R2 (K0 ?_)))
 obtain ⟨r2,h,q⟩:=bE q
 refine OL (cA H87 (r1.1,r1.2.1,r1.2.2.1,r1.2.2.2.1,r1.2.2.2.2,(32:Int)) h rfl (AI rfl (AI NH (R2 (AJ (AI TV ?_))))))
 obtain ⟨r3,h,q⟩:=bE q
 refine OL (cA H39 (r2.1,r2.2.1,r2.2.2.1,r2.2.2.2.1,r2.2.2.2.2) h rfl (AI NH (R2 (AJ (AI TV ?_)))))
 cases sE q
 refine AI rfl (E4 [] (R2 (AI TV TV)))
theorem H66:HI C66 66:=hI Tryz.f66 rfl fun x=>V66 x.1 x.2
def f25_j3 (a b:Fx):Option Bool:=
 Ey (f32 (a.1,a.2)) fun r9=>
 bif (!r9) then
 some true
 else
 Ey (f32 (b.1,b.2)) fun r10=>
 some (!r10)
def f25_j2 (a b:Fx):Option (Sum Unit Unit):=
 Ey (f25_j3 a b) fun z8=>
 bif z8 then
 some (Sum.inr ())
 else
 some (Sum.inl ())
def f25_l4 (op:Int) (a b:Fx) (r11:Jv) (go:Jv→Option LI) (i:Int) (l6:LI):Option LI:=
 bif (decide (i<l6.length)) then
 Ey (f63 a.1 r11.2 i) fun r18=>
 Ey (f63 b.1 r11.2 i) fun r19=>
 bif (op==0) then
 E9 (0≤r18.1∧r18.1<a.2.length)<|
 E9 (0≤r19.1∧r19.1<b.2.length)<|
 Ey (f64 (rd 0 a.2 r18.1) (rd 0 b.2 r19.1)) fun q15_13=>
 E9 (0≤i∧i<l6.length)<|
 go ((i64.wrap (i+1)),(List.set l6 (Int.toNat i) q15_13))
 else
 bif (op==1) then
 E9 (0≤r18.1∧r18.1<a.2.length)<|
 E9 (0≤r19.1∧r19.1<b.2.length)<|
 Ey (f65 (rd 0 a.2 r18.1) (rd 0 b.2 r19.1)) fun q17_13=>
 E9 (0≤i∧i<l6.length)<|
 go ((i64.wrap (i+1)),(List.set l6 (Int.toNat i) q17_13))
 else
 E9 (0≤r18.1∧r18.1<a.2.length)<|
 E9 (0≤r19.1∧r19.1<b.2.length)<|
 Ey (f66 (rd 0 a.2 r18.1) (rd 0 b.2 r19.1)) fun q13_13=>
 E9 (0≤i∧i<l6.length)<|
 go ((i64.wrap (i+1)),(List.set l6 (Int.toNat i) q13_13))
 else
 some l6
def f25 (op:Int) (a b:Fx):Option Gl:=
 Ey (f25_j2 a b) fun z5=>
 Fz z5 (fun z5a=>
 Ey (f62 a.1 b.1) fun r11=>
 bif (r11.1 != 0) then
 some (r11.1,[],[])
 else
 Ey (f11 r11.2 (0:Int)) fun r12=>
 Ey (Fp (fun go x=>f25_l4 op a b r11 go x.1 x.2) Fv ((0:Int),r12.2)) fun z17=>
 some ((0:Int),r12.1,z17)) (fun z5b=>
 some ((1:Int),[],[]))
def C25:Con:=⟨Int×PTz10,Gl,0,fun x=>[.dat T2 x.1,.dat T3 x.2.1,.dat T3 x.2.2],NX,fun x=>f25 x.1 x.2.1 x.2.2,fun y=>[.raw true [(.osl 0),(.osl 1)],.dat T2 y.1],fun y=>[(0,.arr 3 T2 y.2.1),(1,.arr 42 T2 y.2.2)],2⟩
theorem V25 op a b y (q:f25 op a b=some y):VC Tryz.f25 C25 (op,a,b) y:=by
 unfold f25 at q
 refine OL ?_
 obtain ⟨z5,hz5,q⟩:=bE q
 let e0:LE:=fun zz=>(0,.dat T2 op)::(4,P0 0 0)::(5,P0 1 0)::(6,P0 2 0)::zz
 let h1:LH:=fun zz=>(0,.cells [(.d T1 a.1),(.d T1 a.2)])::(1,.cells [(.d T1 b.1),(.d T1 b.2)])::(2,.cells [N0,N0])::zz
 refine OQ ⟨Sum.elim (fun z5a=>[(0,⟨e0 [],h1 [],3⟩)]) (fun z5b=>[(1,⟨[(6,P0 0 0),(7,D0 1)],[(0,.cells [N0,N0])],1⟩)]) z5,?_,?_⟩
 ·have q:=hz5
  clear hz5
  unfold f25_j2 at q
  obtain ⟨z8,hz8,q⟩:=bE q
  refine OQ ⟨[(0,⟨e0 [(23,.dat .bool z8)],h1 [],3⟩)],?_,?_⟩
  ·have q:=hz8
   clear hz8
   unfold f25_j3 at q
   obtain ⟨r9,h,q⟩:=bE q
   refine OL (cA H32 (a.1,a.2) h rfl (R2 (K0 (cN q (fun q=>?_) (fun q=>?_)))))
   ·refine gY ?_
    obtain ⟨r10,h,q⟩:=bE q
    refine OL (cA H32 (b.1,b.2) h rfl (R2 (K0 (gY (cF ?_)))))
    cases sE q
    refine E4 I3 (R3 (AI (R3 TV) (R3 TV)))
   refine gN (gN (cT ?_))
   cases sE q
   refine E4 I3 (R3 (AI (R3 TV) (R3 TV)))
  refine AI (cI q (fun q=>?_) (fun q=>?_)) TV
  ·refine OL (OL ?_)
   cases sE q
   refine E4 (iuR [3]) (R2 (AJ (AI rfl TV)))
  cases sE q
  refine E4 I3 (R2 (AI (R3 TV) (R3 TV)))
 rcases z5 with z5a | z5b
 ·dsimp only [Fz] at q
  refine AI (OL ?_) TV
  obtain ⟨r11,h,q⟩:=bE q
  refine OL (cA H62 (a.1,b.1) h rfl (R2 (K0 (OL (OL (cI q (fun q=>?_) (fun q=>?_)))))))
  ·refine OL (OL ?_)
   cases sE q
   refine AI rfl (E4 (iuR [0,0]) (R2 (AJ (R2 TV))))
  refine OL ?_
  obtain ⟨r12,h,q⟩:=bE q
  refine OL (cD H11 (r11.2,(0:Int)) h rfl (R2 (AI (fun _=>rfl) (R2 (AI TV (AI TV (OL (OL (OL ?_)))))))))
  obtain ⟨z17,h,q⟩:=bE q
  refine lJ h (fun x=>⟨e0 [(8,O0 3),(10,P0 4 0),(11,.dat T2 x.1)],h1 [(3,.arr 3 T2 r11.2),(4,.cells [(.osl 5),(.osl 6)]),(5,.arr 3 T2 r12.1),(6,.arr 42 T2 x.2)],7⟩) (fun z=>[(2,⟨[(6,P0 0 0),(10,P0 1 0)],[(0,.cells [N0,N0]),(1,.cells [(.osl 2),(.osl 3)]),(2,.arr 3 T2 r12.1),(3,.arr 42 T2 z)],4⟩)]) (E4 (iuR [1,2,3,4,7,5,6]) (R3 (AI (R5 TV) (R7 TV)))) (fun m=>F6 (fun i=>fun l6 z q=>?_)) ?_
  ·have q:f25_l4 op a b r11 _ i l6=some z:=q
   unfold f25_l4 at q
   refine OL (OL (cI q (fun q=>?_) (fun q=>?_)))
   ·refine OL (OL ?_)
    obtain ⟨r18,h,q⟩:=bE q
    refine OL (cD H63 (a.1,r11.2,i) h rfl (R3 (AI (fun _=>rfl) (R2 (AI TV (AI TV (OL ?_)))))))
    obtain ⟨r19,h,q⟩:=bE q
    refine OL (cD H63 (b.1,r11.2,i) h rfl (R3 (AI (fun _=>rfl) (R2 (AI TV (AI TV (OL (OL (cI q (fun q=>?_) (fun q=>?_))))))))))
    ·refine EI (tU 0 13 (.alt 13 (.take 14 (.alt 15 .done .done)) .done)) (EI [] (EI [] (AI rfl (gI q (fun q=>?_)))))
     refine gI q (fun q=>?_)
     refine AI TV ?_
     obtain ⟨q15_13,h,q⟩:=bE q
     refine OL (cA H64 ((rd 0 a.2 r18.1),(rd 0 b.2 r19.1)) h rfl (R2 (K0 (gI q (fun q=>?_)))))
     refine AI TV (OL (EI ((i64.wrap (i+1)),(List.set l6 (Int.toNat i) q15_13)) (AI q (E4 I7 (R3 (AI (R5 TV) (R7 TV)))))))
    refine OL (cI q (fun q=>?_) (fun q=>?_))
    ·refine EI (tU 0 13 (.alt 13 (.take 14 (.alt 15 .done .done)) .done)) (EI [] (EI [] (AI rfl (gI q (fun q=>?_)))))
     refine gI q (fun q=>?_)
     refine AI TV ?_
     obtain ⟨q17_13,h,q⟩:=bE q
     refine OL (cA H65 ((rd 0 a.2 r18.1),(rd 0 b.2 r19.1)) h rfl (R2 (K0 (gI q (fun q=>?_)))))
     refine AI TV (OL (EI ((i64.wrap (i+1)),(List.set l6 (Int.toNat i) q17_13)) (AI q (E4 I7 (R3 (AI (R5 TV) (R7 TV)))))))
    refine EI (tU 0 13 (.alt 13 (.take 14 (.alt 15 .done .done)) .done)) (EI [] (EI [] (AI rfl (gI q (fun q=>?_)))))
    refine gI q (fun q=>?_)
    refine AI TV ?_
    obtain ⟨q13_13,h,q⟩:=bE q
    refine OL (cA H66 ((rd 0 a.2 r18.1),(rd 0 b.2 r19.1)) h rfl (R2 (K0 (gI q (fun q=>?_)))))
    refine AI TV (OL (EI ((i64.wrap (i+1)),(List.set l6 (Int.toNat i) q13_13)) (AI q (E4 I7 (R3 (AI (R5 TV) (R7 TV)))))))
   cases sE q
   refine E4 (iuR [3,5,6,7]) (AI rfl (AI (R2 TV) (R4 TV)))
  refine AI (OL (OL ?_)) TV
  cases sE q
  refine AI rfl (E4 (iuR [3,4]) (R2 (AJ (R2 TV))))
 dsimp only [Fz] at q
 refine AI ?_ TV
 cases sE q
 refine AI rfl (E4 (iuR [0,0]) (R2 (AJ (R2 TV))))
theorem H25:HI C25 25:=hI Tryz.f25 rfl fun x=>V25 x.1 x.2.1 x.2.2
def f34_l1 (a:Fx) (k:Int) (go:Jv→Option LI) (i:Int) (l4:LI):Option LI:=
 bif (decide (i<l4.length)) then
 E9 (0≤i∧i<a.2.length)<|
 Ey (f66 (rd 0 a.2 i) k) fun q7_9=>
 E9 (0≤i∧i<l4.length)<|
 go ((i64.wrap (i+1)),(List.set l4 (Int.toNat i) q7_9))
 else
 some l4
def f34 (a:Fx) (k:Int):Option Gl:=
 Ey (f32 (a.1,a.2)) fun q7_11=>
 bif (!q7_11) then
 some ((1:Int),[],[])
 else
 Ey (f11 a.1 (0:Int)) fun r1=>
 Ey (Fp (fun go x=>f34_l1 a k go x.1 x.2) Fv ((0:Int),r1.2)) fun z2=>
 some ((0:Int),r1.1,z2)
def C34:Con:=⟨Fx×Int,Gl,0,fun x=>[.dat T3 x.1,.dat T2 x.2],NX,fun x=>f34 x.1 x.2,fun y=>[.raw true [(.osl 0),(.osl 1)],.dat T2 y.1],fun y=>[(0,.arr 3 T2 y.2.1),(1,.arr 42 T2 y.2.2)],2⟩
theorem V34 a k y (q:f34 a k=some y):VC Tryz.f34 C34 (a,k) y:=by
 unfold f34 at q
 refine OL (OL (OL ?_))
 obtain ⟨q7_11,h,q⟩:=bE q
 refine OL (cA H32 (a.1,a.2) h rfl (R2 (K0 (cI q (fun q=>?_) (fun q=>?_)))))
 ·refine OL (OL ?_)
  cases sE q
  refine AI rfl (E4 (iuR [0,0]) (R2 (AJ (R2 TV))))
 refine OL ?_
 obtain ⟨r1,h,q⟩:=bE q
 refine OL (cA H11 (a.1,(0:Int)) h rfl (R2 (K0 (OL (OL (OL ?_))))))
 obtain ⟨z2,h,q⟩:=bE q
 refine lJ h (fun x=>⟨[(1,.dat T2 k),(2,P0 0 0),(4,P0 1 0),(6,P0 2 0),(7,.dat T2 x.1)],[(0,.cells [(.d T1 a.1),(.d T1 a.2)]),(1,.cells [N0,N0]),(2,.cells [(.osl 3),(.osl 4)]),(3,.arr 3 T2 r1.1),(4,.arr 42 T2 x.2)],5⟩) (fun z=>[(2,⟨[(4,P0 0 0),(6,P0 1 0)],[(0,.cells [N0,N0]),(1,.cells [(.osl 2),(.osl 3)]),(2,.arr 3 T2 r1.1),(3,.arr 42 T2 z)],4⟩)]) (E4 (iuR [1,2,5,3,4]) (R3 (AI (R3 TV) (R5 TV)))) (fun m=>F6 (fun i=>fun l4 z q=>?_)) ?_
 ·have q:f34_l1 a k _ i l4=some z:=q
  unfold f34_l1 at q
  refine OL (OL (cI q (fun q=>?_) (fun q=>?_)))
  ·refine OL (EI (tU 0 9 (.alt 9 (.take 10 (.alt 11 .done .done)) .done)) (EI [] (EI [] (AI rfl (gI q (fun q=>?_))))))
   refine AI TV ?_
   obtain ⟨q7_9,h,q⟩:=bE q
   refine OL (cA H66 ((rd 0 a.2 i),k) h rfl (R2 (K0 (gI q (fun q=>?_)))))
   refine AI TV (OL (EI ((i64.wrap (i+1)),(List.set l4 (Int.toNat i) q7_9)) (AI q (E4 I5 (R3 (AI (R3 TV) (R5 TV)))))))
  cases sE q
  refine E4 (iuR [2,3,4,5]) (AI rfl (AI (R2 TV) (R4 TV)))
 refine AI (OL (OL ?_)) TV
 cases sE q
 refine AI rfl (E4 (iuR [3,4]) (R2 (AJ (R2 TV))))
theorem H34:HI C34 34:=hI Tryz.f34 rfl fun x=>V34 x.1 x.2
def f36_j3 (a b:Fx):Option Bool:=
 Ey (f32 (a.1,a.2)) fun r9=>
 bif (!r9) then
 some true
 else
 Ey (f32 (b.1,b.2)) fun r10=>
 some (!r10)
def f36_j2 (a b:Fx):Option (Sum Unit Unit):=
 Ey (f36_j3 a b) fun z8=>
 bif z8 then
 some (Sum.inr ())
 else
 some (Sum.inl ())
def f36_j6 (a b:Fx):Option Bool:=
 bif ((a.1.length:Int) != 2) then
 some true
 else
 bif ((b.1.length:Int) != 2) then
 some true
 else
 E9 (0≤(1:Int)∧1<(a.1.length:Int))<|
 E9 (0≤(0:Int)∧0<(b.1.length:Int))<|
 some ((rd 0 a.1 1) != (rd 0 b.1 0))
def f36_j5 (a b:Fx):Option (Sum Unit Unit):=
 Ey (f36_j6 a b) fun z13=>
 bif z13 then
 some (Sum.inr ())
 else
 some (Sum.inl ())
def f36_l19 (a b:Fx) (i j:Int) (go:(Int×Lc)→Option Lc) (q_:Int) (c4_0:Bool) (c4_1 c4_2 c4_3 c4_4:Int):Option Lc:=
 bif (decide (q_<(rd 0 a.1 1))) then
 E9 (0≤(i64.wrap ((i64.wrap (i*(rd 0 a.1 1)))+q_))∧(i64.wrap ((i64.wrap (i*(rd 0 a.1 1)))+q_))<a.2.length)<|
 E9 (0≤(i64.wrap ((i64.wrap (q_*(rd 0 b.1 1)))+j))∧(i64.wrap ((i64.wrap (q_*(rd 0 b.1 1)))+j))<b.2.length)<|
 Ey (f86 (rd 0 a.2 (i64.wrap ((i64.wrap (i*(rd 0 a.1 1)))+q_))) (rd 0 b.2 (i64.wrap ((i64.wrap (q_*(rd 0 b.1 1)))+j)))) fun q19_19=>
 Ey (f85 c4_0 c4_1 c4_2 c4_3 c4_4 q19_19.1 q19_19.2.1 q19_19.2.2.1 q19_19.2.2.2.1 q19_19.2.2.2.2) fun q19_20=>
 go ((i64.wrap (q_+1)),q19_20.1,q19_20.2.1,q19_20.2.2.1,q19_20.2.2.2.1,q19_20.2.2.2.2)
 else
 some (c4_0,c4_1,c4_2,c4_3,c4_4)
def f36_l18 (a b:Fx) (i:Int) (go:Jv→Option LI) (j:Int) (l5_2:LI):Option LI:=
 bif (decide (j<(rd 0 b.1 1))) then
 Ey (Fp (fun go x=>f36_l19 a b i j go x.1 x.2.1 x.2.2.1 x.2.2.2.1 x.2.2.2.2.1 x.2.2.2.2.2) Fv ((0:Int),false,(0:Int),(0:Int),(0:Int),(0:Int))) fun z27=>
 Ey (f87 z27.1 z27.2.1 z27.2.2.1 z27.2.2.2.1 z27.2.2.2.2 (32:Int)) fun q20_8=>
 Ey (f39 q20_8.1 q20_8.2.1 q20_8.2.2.1 q20_8.2.2.2.1 q20_8.2.2.2.2) fun q20_9=>
 E9 (0≤(i64.wrap ((i64.wrap (i*(rd 0 b.1 1)))+j))∧(i64.wrap ((i64.wrap (i*(rd 0 b.1 1)))+j))<l5_2.length)<|
 go ((i64.wrap (j+1)),(List.set l5_2 (Int.toNat (i64.wrap ((i64.wrap (i*(rd 0 b.1 1)))+j))) q20_9))
 else
 some l5_2
def f36_l15 (a b:Fx) (go:Jv→Option LI) (i:Int) (l5:LI):Option LI:=
 bif (decide (i<(rd 0 a.1 0))) then
 Ey (Fp (fun go x=>f36_l18 a b i go x.1 x.2) Fv ((0:Int),l5)) fun z26=>
 go ((i64.wrap (i+1)),z26)
 else
 some l5
def f36 (a b:Fx):Option Gl:=
 Ey (f36_j2 a b) fun z5=>
 Fz z5 (fun z5a=>
 Ey (f36_j5 a b) fun z12=>
 Fz z12 (fun z12a=>
 E9 (0≤(0:Int)∧0<(a.1.length:Int))<|
 E9 (0≤(1:Int)∧1<(b.1.length:Int))<|
 E9 (0≤(1:Int)∧1<(a.1.length:Int))<|
 Ey (f67 ([(rd 0 a.1 0),(rd 0 b.1 1)])) fun q5_14=>
 bif (!q5_14) then
 some ((2:Int),[],[])
 else
 Ey (f11 ([(rd 0 a.1 0),(rd 0 b.1 1)]) (0:Int)) fun r14=>
 Ey (Fp (fun go x=>f36_l15 a b go x.1 x.2) Fv ((0:Int),r14.2)) fun z23=>
 some ((0:Int),r14.1,z23)) (fun z12b=>
 some ((4:Int),[],[]))) (fun z5b=>
 some ((1:Int),[],[]))
def C36:Con:=⟨PTz10,Gl,0,fun x=>[.dat T3 x.1,.dat T3 x.2],NX,fun x=>f36 x.1 x.2,fun y=>[.raw true [(.osl 0),(.osl 1)],.dat T2 y.1],fun y=>[(0,.arr 3 T2 y.2.1),(1,.arr 42 T2 y.2.2)],2⟩
theorem V36 a b y (q:f36 a b=some y):VC Tryz.f36 C36 (a,b) y:=by
 unfold f36 at q
 refine OL ?_
 obtain ⟨z5,hz5,q⟩:=bE q
 let e0:LE:=fun zz=>(2,P0 0 0)::(3,P0 1 0)::(4,P0 2 0)::zz
 let h1:LH:=fun zz=>(0,.cells [(.d T1 a.1),(.d T1 a.2)])::(1,.cells [(.d T1 b.1),(.d T1 b.2)])::(2,.cells [N0,N0])::zz
 refine OQ ⟨Sum.elim (fun z5a=>[(0,⟨e0 [],h1 [],3⟩)]) (fun z5b=>[(1,⟨[(4,P0 0 0),(5,D0 1)],[(0,.cells [N0,N0])],1⟩)]) z5,?_,?_⟩
 ·have q:=hz5
  clear hz5
  unfold f36_j2 at q
  obtain ⟨z8,hz8,q⟩:=bE q
  refine OQ ⟨[(0,⟨e0 [(21,.dat .bool z8)],h1 [],3⟩)],?_,?_⟩
  ·have q:=hz8
   clear hz8
   unfold f36_j3 at q
   obtain ⟨r9,h,q⟩:=bE q
   refine OL (cA H32 (a.1,a.2) h rfl (R2 (K0 (cN q (fun q=>?_) (fun q=>?_)))))
   ·refine gY ?_
    obtain ⟨r10,h,q⟩:=bE q
    refine OL (cA H32 (b.1,b.2) h rfl (R2 (K0 (gY (cF ?_)))))
    cases sE q
    refine E4 I3 (R2 (AI (R3 TV) (R3 TV)))
   refine gN (gN (cT ?_))
   cases sE q
   refine E4 I3 (R2 (AI (R3 TV) (R3 TV)))
  refine AI (cI q (fun q=>?_) (fun q=>?_)) TV
  ·refine OL (OL ?_)
   cases sE q
   refine E4 (iuR [3]) (R2 (AJ (AI rfl TV)))
  cases sE q
  refine E4 I3 (AI rfl (AI (R3 TV) (R3 TV)))
 rcases z5 with z5a | z5b
 ·dsimp only [Fz] at q
  refine AI ?_ TV
  obtain ⟨z12,hz12,q⟩:=bE q
  refine OQ ⟨Sum.elim (fun z12a=>[(0,⟨e0 [],h1 [],3⟩)]) (fun z12b=>[(1,⟨[(4,P0 0 0),(5,D0 4)],[(0,.cells [N0,N0])],1⟩)]) z12,?_,?_⟩
  ·have q:=hz12
   clear hz12
   unfold f36_j5 at q
   obtain ⟨z13,hz13,q⟩:=bE q
   refine OQ ⟨[(0,⟨e0 [(43,.dat .bool z13)],h1 [],3⟩)],?_,?_⟩
   ·have q:=hz13
    clear hz13
    unfold f36_j6 at q
    refine EI (tU 0 21 .done) (EI [] (EI [] (AI rfl (cN q (fun q=>?_) (fun q=>?_)))))
    ·refine gY (gY (gY (cF (cN q (fun q=>?_) (fun q=>?_)))))
     ·refine gY (gY (gI q (fun q=>?_)))
      refine gY (gY (gY (gY (gI q (fun q=>?_)))))
      refine gY (gY (cF ?_))
      cases sE q
      refine E4 I3 (R2 (AI (R3 TV) (R3 TV)))
     refine gN (gN (gN (gN (gN (gN (gN (gN (cT ?_))))))))
     cases sE q
     refine E4 I3 (R2 (AI (R3 TV) (R3 TV)))
    refine gN (gN (gN (cT (gN (gN (gN (gN (gN (gN (gN (gN (gN (cT ?_)))))))))))))
    cases sE q
    refine E4 I3 (R2 (AI (R3 TV) (R3 TV)))
   refine AI (cI q (fun q=>?_) (fun q=>?_)) TV
   ·refine OL (OL ?_)
    cases sE q
    refine E4 (iuR [3]) (R2 (AJ (AI rfl TV)))
   cases sE q
   refine E4 I3 (AI rfl (AI (R3 TV) (R3 TV)))
  rcases z12 with z12a | z12b
  ·dsimp only [Fz] at q
   refine AI (OL (EI (tU 0 15 .done) (EI [] (EI [] (AI rfl (gI q (fun q=>?_))))))) TV
   refine gI q (fun q=>?_)
   refine gI q (fun q=>?_)
   refine OL (OL (OL ?_))
   obtain ⟨q5_14,h,q⟩:=bE q
   refine OL (cD H67 [(rd 0 a.1 0),(rd 0 b.1 1)] h rfl (AI rfl (AI (fun _=>rfl) (R2 (AI TV (AI TV (cI q (fun q=>?_) (fun q=>?_))))))))
   ·refine OL (OL ?_)
    cases sE q
    refine AI rfl (E4 (iuR [0,0]) (R2 (AJ (R2 TV))))
   refine OL (OL ?_)
   obtain ⟨r14,h,q⟩:=bE q
   refine OL (cD H11 ([(rd 0 a.1 0),(rd 0 b.1 1)],(0:Int)) h rfl (R2 (AI (fun _=>rfl) (R2 (AI TV (AI TV (OL (OL (OL ?_)))))))))
   obtain ⟨z23,hz23,q⟩:=bE q
   let e2:LE:=fun zz=>e0 ((6,.dat T2 (rd 0 a.1 0))::(7,.dat T2 (rd 0 b.1 1))::(8,.dat T2 (rd 0 a.1 1))::(9,P0 3 0)::zz)
   let h3:LH:=fun zz=>h1 ((3,.cells [(.osl 4),(.osl 5)])::(4,.arr 3 T2 r14.1)::zz)
   refine lJ hz23 (fun x=>⟨e2 [(10,.dat T2 x.1)],h3 [(5,.arr 42 T2 x.2)],6⟩) (fun z=>[(2,⟨[(4,P0 0 0),(9,P0 1 0)],[(0,.cells [N0,N0]),(1,.cells [(.osl 2),(.osl 3)]),(2,.arr 3 T2 r14.1),(3,.arr 42 T2 z)],4⟩)]) (E4 (iuR [1,2,3,8,6,7]) (R5 (AI (R4 TV) (R6 TV)))) (fun m=>F6 (fun i=>fun l5 z q=>?_)) ?_
   ·have q:f36_l15 a b _ i l5=some z:=q
    unfold f36_l15 at q
    refine OL (OL (cI q (fun q=>?_) (fun q=>?_)))
    ·refine OL (OL ?_)
     obtain ⟨z26,h,q⟩:=bE q
     refine lJ h (fun x=>⟨e2 [(10,.dat T2 i),(11,.dat T2 x.1)],h3 [(5,.arr 42 T2 x.2)],6⟩) (fun z=>[(4,⟨e2 [(10,.dat T2 i)],h3 [(5,.arr 42 T2 z)],6⟩)]) (E4 I6 (R6 (AI (R4 TV) (R6 TV)))) (fun m=>F6 (fun j=>fun l5_2 z q=>?_)) ?_
     ·have q:f36_l18 a b i _ j l5_2=some z:=q
      unfold f36_l18 at q
      refine OL (OL (cI q (fun q=>?_) (fun q=>?_)))
      ·refine OL (OL (OL (OL (OL ?_))))
       obtain ⟨z27,h,q⟩:=bE q
       refine lJ h (fun x=>⟨e2 [(10,.dat T2 i),(11,.dat T2 j),(12,P0 4 0),(13,.dat T2 x.1)],h1 [(3,.cells [(.osl 5),(.osl 6)]),(4,.cells [(.d .bool x.2.1),(.d T4 x.2.2.1),(.d T4 x.2.2.2.1),(.d T4 x.2.2.2.2.1),(.d T4 x.2.2.2.2.2)]),(5,.arr 3 T2 r14.1),(6,.arr 42 T2 l5_2)],7⟩) (fun z=>[(6,⟨e2 [(10,.dat T2 i),(11,.dat T2 j),(12,P0 4 0)],h1 [(3,.cells [(.osl 5),(.osl 6)]),(4,.cells [(.d .bool z.1),(.d T4 z.2.1),(.d T4 z.2.2.1),(.d T4 z.2.2.2.1),(.d T4 z.2.2.2.2)]),(5,.arr 3 T2 r14.1),(6,.arr 42 T2 l5_2)],7⟩)]) (E4 (iuR [1,2,3,4,7,5,6]) (R7 (AI (R5 TV) (R7 TV)))) (fun m=>F6 (fun q_=>F6 (fun c4_0=>F6 (fun c4_1=>F6 (fun c4_2=>F6 (fun c4_3=>fun c4_4 z q=>?_)))))) ?_
       ·have q:f36_l19 a b i j _ q_ c4_0 c4_1 c4_2 c4_3 c4_4=some z:=q
        unfold f36_l19 at q
        refine OL (OL (cI q (fun q=>?_) (fun q=>?_)))
        ·refine OL (EI (tU 0 19 (.alt 19 (.alt 20 (.alt 21 .done .done) .done) .done)) (EI [(21,[4])] (EI [] (AI rfl (gI q (fun q=>?_))))))
         refine gI q (fun q=>?_)
         refine AI TV ?_
         obtain ⟨q19_19,h,q⟩:=bE q
         refine OL (cA H86 ((rd 0 a.2 (i64.wrap ((i64.wrap (i*(rd 0 a.1 1)))+q_))),(rd 0 b.2 (i64.wrap ((i64.wrap (q_*(rd 0 b.1 1)))+j)))) h rfl (R2 (K0 (AI TV ?_))))
         obtain ⟨q19_20,h,q⟩:=bE q
         refine OL (cA H85 (c4_0,c4_1,c4_2,c4_3,c4_4,q19_19.1,q19_19.2.1,q19_19.2.2.1,q19_19.2.2.2.1,q19_19.2.2.2.2) h rfl (AI NH (R2 (AI (R2 TV) (AI TV (AI TV (OL (EI ((i64.wrap (q_+1)),q19_20.1,q19_20.2.1,q19_20.2.2.1,q19_20.2.2.2.1,q19_20.2.2.2.2) (AI q (E4 I7 (R7 (AI (R5 TV) (R7 TV)))))))))))))
        cases sE q
        refine E4 I7 (R6 (AI (R5 TV) (R7 TV)))
       refine AI (EI (tU 0 8 (.alt 8 (.alt 9 (.take 10 (.alt 11 .done .done)) .done) .done)) (EI [] (EI [] (AI rfl (AI TV ?_))))) TV
       obtain ⟨q20_8,h,q⟩:=bE q
       refine OL (cA H87 (z27.1,z27.2.1,z27.2.2.1,z27.2.2.2.1,z27.2.2.2.2,(32:Int)) h rfl (AI rfl (AI NH (R2 (AJ (AI TV (AI TV ?_)))))))
       obtain ⟨q20_9,h,q⟩:=bE q
       refine OL (cA H39 (q20_8.1,q20_8.2.1,q20_8.2.2.1,q20_8.2.2.2.1,q20_8.2.2.2.2) h rfl (AI NH (R2 (AJ (AI TV (gI q (fun q=>?_)))))))
       refine AI TV (OL (EI ((i64.wrap (j+1)),(List.set l5_2 (Int.toNat (i64.wrap ((i64.wrap (i*(rd 0 b.1 1)))+j))) q20_9)) (AI q (E4 (iuR [1,2,3,4,6,7]) (R6 (AI (R4 TV) (R6 TV)))))))
      cases sE q
      refine E4 I6 (R5 (AI (R4 TV) (R6 TV)))
     refine AI (EI ((i64.wrap (i+1)),z26) (AI q (E4 I6 (R5 (AI (R4 TV) (R6 TV)))))) TV
    cases sE q
    refine E4 (iuR [3,4,5,6]) (AI rfl (AI (R2 TV) (R4 TV)))
   refine AI (OL (OL ?_)) TV
   cases sE q
   refine AI rfl (E4 (iuR [3,4]) (R2 (AJ (R2 TV))))
  dsimp only [Fz] at q
  refine AI ?_ TV
  cases sE q
  refine AI rfl (E4 (iuR [0,0]) (R2 (AJ (R2 TV))))
 dsimp only [Fz] at q
 refine AI ?_ TV
 cases sE q
 refine AI rfl (E4 (iuR [0,0]) (R2 (AJ (R2 TV))))
theorem H36:HI C36 36:=hI Tryz.f36 rfl fun x=>V36 x.1 x.2
def f38_j1 (d place_:LI):Option (Sum Unit Unit):=
 Ey (f67 d) fun r2=>
 bif (!r2) then
 some (Sum.inr ())
 else
 bif ((place_.length:Int) != d.length) then
 some (Sum.inr ())
 else
 some (Sum.inl ())
def f38_j5 (d place_:LI) (i:Int):Option (Sum Unit Unit):=
 E9 (0≤i∧i<place_.length)<|
 bif (decide ((rd 0 place_ i)<0)) then
 some (Sum.inr ())
 else
 E9 (0≤i∧i<place_.length)<|
 E9 (0≤i∧i<d.length)<|
 bif (decide ((rd 0 place_ i)≥(rd 0 d i))) then
 some (Sum.inr ())
 else
 some (Sum.inl ())
def f38_l4 (d place_:LI) (go:Gm→Option (Sum Unit Int)) (at_ i:Int):Option (Sum Unit Int):=
 bif (decide (i<d.length)) then
 Ey (f38_j5 d place_ i) fun z6=>
 Fz z6 (fun z6a=>
 E9 (0≤i∧i<d.length)<|
 E9 (0≤i∧i<place_.length)<|
 go ((i64.wrap ((i64.wrap (at_*(rd 0 d i)))+(rd 0 place_ i))),(i64.wrap (i+1)))) (fun z6b=>
 some (Sum.inl ()))
 else
 some (Sum.inr at_)
def f38 (d place_:LI):Option (Int×Bool):=
 Ey (f38_j1 d place_) fun z1=>
 Fz z1 (fun z1a=>
 Ey (Fp (fun go x=>f38_l4 d place_ go x.1 x.2) Fv ((0:Int),(0:Int))) fun z5=>
 Fz z5 (fun z5a=>
 some ((0:Int),false)) (fun z5b=>
 some (z5b,true))) (fun z1b=>
 some ((0:Int),false))
def C38:Con:=⟨Fx,Int×Bool,0,fun x=>[.dat T1 x.1,.dat T1 x.2],NX,fun x=>f38 x.1 x.2,fun y=>[.dat T2 y.1,.dat .bool y.2],NX,0⟩
theorem V38 d place_ y (q:f38 d place_=some y):VC Tryz.f38 C38 (d,place_) y:=by
 unfold f38 at q
 refine OL ?_
 obtain ⟨z1,hz1,q⟩:=bE q
 let e0:LE:=fun zz=>(0,.dat T1 d)::(1,.dat T1 place_)::zz
 refine OQ ⟨Sum.elim (fun z1a=>[(0,⟨e0 [],[],0⟩)]) (fun z1b=>[(1,⟨[(4,D0 0),(5,.dat .bool false)],[],0⟩)]) z1,?_,?_⟩
 ·have q:=hz1
  clear hz1
  unfold f38_j1 at q
  refine OL ?_
  obtain ⟨r2,h,q⟩:=bE q
  refine OL (cA H67 d h rfl (AI rfl (K0 (cN q (fun q=>?_) (fun q=>?_)))))
  ·refine gY (gY (gY (gY (cF (cI q (fun q=>?_) (fun q=>?_))))))
   ·cases sE q
    refine OL (E4 [] (R3 (AI TV TV)))
   cases sE q
   refine E4 [] (R3 (AI TV TV))
  refine gN (gN (gN (gN (cT (cT (OL ?_))))))
  cases sE q
  refine E4 [] (R3 (AI TV TV))
 rcases z1 with z1a | z1b
 ·dsimp only [Fz] at q
  refine AI (OL (OL (OL ?_))) TV
  obtain ⟨z5,h,q⟩:=bE q
  refine lJ h (fun x=>⟨e0 [(6,.dat T2 x.1),(7,.dat T2 x.2)],[],0⟩) (fun z=>Sum.elim (fun za=>[(1,⟨[(4,D0 0),(5,.dat .bool false)],[],0⟩)]) (fun zb=>[(2,⟨[(6,.dat T2 zb)],[],0⟩)]) z) (E4 [] (R5 (AI TV TV))) (fun m=>F6 (fun at_=>fun i z q=>?_)) ?_
  ·have q:f38_l4 d place_ _ at_ i=some z:=q
   unfold f38_l4 at q
   refine OL (OL (cI q (fun q=>?_) (fun q=>?_)))
   ·refine OL ?_
    obtain ⟨z6,hz6,q⟩:=bE q
    refine OQ ⟨Sum.elim (fun z6a=>[(0,⟨e0 [(6,.dat T2 at_),(7,.dat T2 i)],[],0⟩)]) (fun z6b=>[(1,⟨[(4,D0 0),(5,.dat .bool false)],[],0⟩)]) z6,?_,?_⟩
    ·have q:=hz6
     clear hz6
     unfold f38_j5 at q
     refine OL (EI (tU 0 16 .done) (EI [] (EI [] (AI rfl (gI q (fun q=>?_))))))
     refine cN q (fun q=>?_) (fun q=>?_)
     ·refine gY (gY (gI q (fun q=>?_)))
      refine gY (gY (gY (gY (gI q (fun q=>?_)))))
      refine gY (gY (cF (cI q (fun q=>?_) (fun q=>?_))))
      ·cases sE q
       refine OL (E4 [] (R3 (AI TV TV)))
      cases sE q
      refine E4 [] (R5 (AI TV TV))
     refine gN (gN (gN (gN (gN (gN (gN (gN (cT (cT (OL ?_))))))))))
     cases sE q
     refine E4 [] (R3 (AI TV TV))
    rcases z6 with z6a | z6b
    ·dsimp only [Fz] at q
     refine AI (EI (tU 0 12 .done) (EI [] (EI [] (AI rfl (gI q (fun q=>?_)))))) TV
     refine gI q (fun q=>?_)
     refine EI ((i64.wrap ((i64.wrap (at_*(rd 0 d i)))+(rd 0 place_ i))),(i64.wrap (i+1))) (AI q (E4 [] (R5 (AI TV TV))))
    dsimp only [Fz] at q
    refine AI ?_ TV
    cases sE q
    refine E4 [] (R3 (AI TV TV))
   cases sE q
   refine E4 [] (R2 (AI TV TV))
  rcases z5 with z5a | z5b
  ·dsimp only [Fz] at q
   refine AI ?_ TV
   cases sE q
   refine AI rfl (E4 [] (R3 (AI TV TV)))
  dsimp only [Fz] at q
  refine AI (OL ?_) TV
  cases sE q
  refine AI rfl (E4 [] (R3 (AI TV TV)))
 dsimp only [Fz] at q
 refine AI ?_ TV
 cases sE q
 refine AI rfl (E4 [] (R3 (AI TV TV)))
theorem H38:HI C38 38:=hI Tryz.f38 rfl fun x=>V38 x.1 x.2
def f84_j3 (a:Fx) (order:LI):Option Bool:=
 Ey (f32 (a.1,a.2)) fun r6=>
 bif (!r6) then
 some true
 else
 some ((order.length:Int) != a.1.length)
def f84_j2 (a:Fx) (order:LI):Option (Sum Unit Unit):=
 Ey (f84_j3 a order) fun z5=>
 bif z5 then
 some (Sum.inr ())
 else
 some (Sum.inl ())
def f84_j15 (order:LI) (i:Int):Option Bool:=
 E9 (0≤i∧i<order.length)<|
 bif (decide ((rd 0 order i)<0)) then
 some true
 else
 E9 (0≤i∧i<order.length)<|
 some (decide ((rd 0 order i)≥order.length))
def f84_j14 (order:LI) (i:Int):Option (Sum Unit Unit):=
 Ey (f84_j15 order i) fun z18=>
 bif z18 then
 some (Sum.inr ())
 else
 some (Sum.inl ())
def f84_l16 (order:LI) (i:Int) (go:Int→Option (Sum Unit Unit)) (k:Int):Option (Sum Unit Unit):=
 bif (decide (k<i)) then
 E9 (0≤k∧k<order.length)<|
 E9 (0≤i∧i<order.length)<|
 bif ((rd 0 order k)==(rd 0 order i)) then
 some (Sum.inl ())
 else
 go (i64.wrap (k+1))
 else
 some (Sum.inr ())
def f84_l12 (a:Fx) (order:LI) (go:Jv→Option (Sum Unit LI)) (i:Int) (l2:LI):Option (Sum Unit LI):=
 bif (decide (i<order.length)) then
 Ey (f84_j14 order i) fun z17=>
 Fz z17 (fun z17a=>
 Ey (Fp (fun go x=>f84_l16 order i go x) Fv (0:Int)) fun z19=>
 Fz z19 (fun z19a=>
 some (Sum.inl ())) (fun z19b=>
 E9 (0≤i∧i<order.length)<|
 E9 (0≤(rd 0 order i)∧(rd 0 order i)<a.1.length)<|
 E9 ((l2.length+List.length ([(rd 0 a.1 (rd 0 order i))]))*8≤140737488355328)<|
 go ((i64.wrap (i+1)),(l2++([(rd 0 a.1 (rd 0 order i))]))))) (fun z17b=>
 some (Sum.inl ()))
 else
 some (Sum.inr l2)
def f84_l20 (order:LI) (r25:Bool×LI) (go:Jv→Option LI) (k:Int) (l5_2:LI):Option LI:=
 bif (decide (k<r25.2.length)) then
 E9 (0≤k∧k<order.length)<|
 E9 (0≤k∧k<r25.2.length)<|
 E9 (0≤(rd 0 order k)∧(rd 0 order k)<l5_2.length)<|
 go ((i64.wrap (k+1)),(List.set l5_2 (Int.toNat (rd 0 order k)) (rd 0 r25.2 k)))
 else
 some l5_2
def f84_l19 (a:Fx) (order z15b:LI) (go:Jv→Option LI) (i:Int) (l5:LI):Option LI:=
 bif (decide (i<l5.length)) then
 Ey (f37 z15b i) fun r25=>
 E9 (0≤(r25.2.length:Int)∧(r25.2.length:Int)≤r25.2.length∧Int.toNat (r25.2.length:Int)*8≤140737488355328)<|
 Ey (Fp (fun go x=>f84_l20 order r25 go x.1 x.2) Fv ((0:Int),(List.replicate (Int.toNat (r25.2.length:Int)) (0:Int)))) fun z26=>
 Ey (f38 a.1 z26) fun q24_10=>
 E9 (0≤q24_10.1∧q24_10.1<a.2.length)<|
 E9 (0≤i∧i<l5.length)<|
 go ((i64.wrap (i+1)),(List.set l5 (Int.toNat i) (rd 0 a.2 q24_10.1)))
 else
 some l5
def f84 (a:Fx) (order:LI):Option Gl:=
 Ey (f84_j2 a order) fun z3=>
 Fz z3 (fun z3a=>
 Ey (Fp (fun go x=>f84_l12 a order go x.1 x.2) Fv ((0:Int),[])) fun z15=>
 Fz z15 (fun z15a=>
 some ((1:Int),[],[])) (fun z15b=>
 Ey (f11 z15b (0:Int)) fun q14_11=>
 Ey (Fp (fun go x=>f84_l19 a order z15b go x.1 x.2) Fv ((0:Int),q14_11.2)) fun z24=>
 some ((0:Int),q14_11.1,z24))) (fun z3b=>
 some ((1:Int),[],[]))
def C84:Con:=⟨Fx×LI,Gl,0,fun x=>[.dat T3 x.1,.dat T1 x.2],NX,fun x=>f84 x.1 x.2,fun y=>[.raw true [(.osl 0),(.osl 1)],.dat T2 y.1],fun y=>[(0,.arr 3 T2 y.2.1),(1,.arr 42 T2 y.2.2)],2⟩
theorem V84 a order y (q:f84 a order=some y):VC Tryz.f84 C84 (a,order) y:=by
 unfold f84 at q
 refine OL ?_
 obtain ⟨z3,hz3,q⟩:=bE q
 let e0:LE:=fun zz=>(1,.dat T1 order)::(2,P0 0 0)::(4,P0 1 0)::zz
 let h1:LH:=fun zz=>(0,.cells [(.d T1 a.1),(.d T1 a.2)])::(1,.cells [N0,N0])::zz
 let h2:LH:=fun zz=>(0,.cells [N0,N0])::zz
 refine OQ ⟨Sum.elim (fun z3a=>[(0,⟨e0 [],h1 [],2⟩)]) (fun z3b=>[(1,⟨[(4,P0 0 0),(5,D0 1)],h2 [],1⟩)]) z3,?_,?_⟩
 ·have q:=hz3
  clear hz3
  unfold f84_j2 at q
  obtain ⟨z5,hz5,q⟩:=bE q
  refine OQ ⟨[(0,⟨e0 [(27,.dat .bool z5)],h1 [],2⟩)],?_,?_⟩
  ·have q:=hz5
   clear hz5
   unfold f84_j3 at q
   obtain ⟨r6,h,q⟩:=bE q
   refine OL (cA H32 (a.1,a.2) h rfl (R2 (K0 (cN q (fun q=>?_) (fun q=>?_)))))
   ·refine gY (gY (gY (gY (gY (cF ?_)))))
    cases sE q
    refine E4 I2 (R3 (AI (R2 TV) (R2 TV)))
   refine gN (gN (gN (gN (gN (cT ?_)))))
   cases sE q
   refine E4 I2 (R3 (AI (R2 TV) (R2 TV)))
  refine AI (cI q (fun q=>?_) (fun q=>?_)) TV
  ·refine OL (OL ?_)
   cases sE q
   refine E4 (iuR [2]) (R2 (AJ (AI rfl TV)))
  cases sE q
  refine E4 I2 (R2 (AI (R2 TV) (R2 TV)))
 rcases z3 with z3a | z3b
 ·dsimp only [Fz] at q
  refine AI (OL (OL (OL ?_))) TV
  obtain ⟨z15,hz15,q⟩:=bE q
  let e3:LE:=fun zz=>e0 ((6,O0 2)::zz)
  refine lJ hz15 (fun x=>⟨e3 [(7,.dat T2 x.1)],h1 [(2,.arr 3 T2 x.2)],3⟩) (fun z=>Sum.elim (fun za=>[(1,⟨[(4,P0 0 0),(5,D0 1)],h2 [],1⟩)]) (fun zb=>[(2,⟨e3 [],h1 [(2,.arr 3 T2 zb)],3⟩)]) z) (E4 (iuR [1,2,0]) (R3 (AI (R3 TV) (R3 TV)))) (fun m=>F6 (fun i=>fun l2 z q=>?_)) ?_
  ·have q:f84_l12 a order _ i l2=some z:=q
   unfold f84_l12 at q
   refine OL (OL (cI q (fun q=>?_) (fun q=>?_)))
   ·refine OL ?_
    obtain ⟨z17,hz17,q⟩:=bE q
    let h4:LH:=fun zz=>h1 ((2,.arr 3 T2 l2)::zz)
    refine OQ ⟨Sum.elim (fun z17a=>[(0,⟨e3 [(7,.dat T2 i)],h4 [],3⟩)]) (fun z17b=>[(1,⟨[(4,P0 0 0),(5,D0 1)],h2 [],1⟩)]) z17,?_,?_⟩
    ·have q:=hz17
     clear hz17
     unfold f84_j14 at q
     obtain ⟨z18,hz18,q⟩:=bE q
     refine OQ ⟨[(0,⟨e3 [(7,.dat T2 i),(48,.dat .bool z18)],h4 [],3⟩)],?_,?_⟩
     ·have q:=hz18
      clear hz18
      unfold f84_j15 at q
      refine gI q (fun q=>?_)
      refine cN q (fun q=>?_) (fun q=>?_)
      ·refine gY (gY (gI q (fun q=>?_)))
       refine gY (gY (gY (gY (cF ?_))))
       cases sE q
       refine E4 I3 (R4 (AI (R3 TV) (R3 TV)))
      refine gN (gN (gN (gN (gN (gN (cT ?_))))))
      cases sE q
      refine E4 I3 (R4 (AI (R3 TV) (R3 TV)))
     refine AI (cI q (fun q=>?_) (fun q=>?_)) TV
     ·refine OL (OL ?_)
      cases sE q
      refine E4 (iuR [2]) (R2 (AJ (AI rfl TV)))
     cases sE q
     refine E4 I3 (R3 (AI (R3 TV) (R3 TV)))
    rcases z17 with z17a | z17b
    ·dsimp only [Fz] at q
     refine AI (OL (OL ?_)) TV
     obtain ⟨z19,h,q⟩:=bE q
     refine lJ h (fun x=>⟨e3 [(7,.dat T2 i),(8,.dat T2 x)],h4 [],3⟩) (fun z=>Sum.elim (fun za=>[(1,⟨[(4,P0 0 0),(5,D0 1)],h2 [],1⟩)]) (fun zb=>[(4,⟨e3 [(7,.dat T2 i)],h4 [],3⟩)]) z) (E4 I3 (R4 (AI (R3 TV) (R3 TV)))) (fun m=>fun k z q=>?_) ?_
     ·have q:f84_l16 order i _ k=some z:=q
      unfold f84_l16 at q
      refine OL (OL (cI q (fun q=>?_) (fun q=>?_)))
      ·refine OL (OL (EI (tU 0 9 .done) (EI [] (EI [] (AI rfl (gI q (fun q=>?_)))))))
       refine gI q (fun q=>?_)
       refine cI q (fun q=>?_) (fun q=>?_)
       ·refine OL (OL ?_)
        cases sE q
        refine E4 (iuR [2]) (R2 (AJ (AI rfl TV)))
       refine EI (i64.wrap (k+1)) (AI q (E4 I3 (R4 (AI (R3 TV) (R3 TV)))))
      cases sE q
      refine E4 I3 (R3 (AI (R3 TV) (R3 TV)))
     rcases z19 with z19a | z19b
     ·dsimp only [Fz] at q
      refine AI ?_ TV
      cases sE q
      refine E4 (iuR [1]) (R2 (AJ (AI rfl TV)))
     dsimp only [Fz] at q
     refine AI (EI (tU 0 9 (.alt 9 (.alt 10 (.take 11 .done) .done) .done)) (EI [] (EI [] (AI rfl (gI q (fun q=>?_)))))) TV
     refine gI q (fun q=>?_)
     refine AI TV (OL (AI TV (OL (gI q (fun q=>?_)))))
     refine EI ((i64.wrap (i+1)),(l2++([(rd 0 a.1 (rd 0 order i))]))) (AI q (E4 (iuR [1,2,5]) (R3 (AI (R3 TV) (R3 TV)))))
    dsimp only [Fz] at q
    refine AI ?_ TV
    cases sE q
    refine E4 (iuR [1]) (R2 (AJ (AI rfl TV)))
   cases sE q
   refine E4 I3 (R2 (AI (R3 TV) (R3 TV)))
  rcases z15 with z15a | z15b
  ·dsimp only [Fz] at q
   refine AI ?_ TV
   cases sE q
   refine AI rfl (E4 (iuR [0,0]) (R2 (AJ (R2 TV))))
  dsimp only [Fz] at q
  refine AI (OL ?_) TV
  obtain ⟨q14_11,h,q⟩:=bE q
  refine OL (cD H11 (z15b,(0:Int)) h rfl (R2 (AI (fun _=>rfl) (R2 (AI TV (AI TV (OL (OL (OL ?_)))))))))
  obtain ⟨z24,h,q⟩:=bE q
  refine lJ h (fun x=>⟨e3 [(9,P0 3 0),(10,.dat T2 x.1)],h1 [(2,.arr 3 T2 z15b),(3,.cells [(.osl 4),(.osl 5)]),(4,.arr 3 T2 q14_11.1),(5,.arr 42 T2 x.2)],6⟩) (fun z=>[(6,⟨[(4,P0 0 0),(9,P0 1 0)],h2 [(1,.cells [(.osl 2),(.osl 3)]),(2,.arr 3 T2 q14_11.1),(3,.arr 42 T2 z)],4⟩)]) (E4 (iuR [1,2,3,6,4,5]) (R3 (AI (R4 TV) (R6 TV)))) (fun m=>F6 (fun i=>fun l5 z q=>?_)) ?_
  ·have q:f84_l19 a order z15b _ i l5=some z:=q
   unfold f84_l19 at q
   refine OL (OL (cI q (fun q=>?_) (fun q=>?_)))
   ·refine OL (OL ?_)
    obtain ⟨r25,h,q⟩:=bE q
    refine OL (cD H37 (z15b,i) h rfl (R2 (AI (fun _=>rfl) (R2 (AI TV (AI TV (OL (gI q (fun q=>?_)))))))))
    refine OL (OL ?_)
    obtain ⟨z26,h,q⟩:=bE q
    refine lJ h (fun x=>⟨e3 [(9,P0 3 0),(10,.dat T2 i),(11,O0 4),(13,O0 5),(14,.dat T2 x.1)],h1 [(2,.arr 3 T2 z15b),(3,.cells [(.osl 6),(.osl 7)]),(4,.arr 3 T2 r25.2),(5,.arr 3 T2 x.2),(6,.arr 3 T2 q14_11.1),(7,.arr 42 T2 l5)],8⟩) (fun z=>[(8,⟨e3 [(9,P0 3 0),(10,.dat T2 i),(13,O0 4)],h1 [(2,.arr 3 T2 z15b),(3,.cells [(.osl 5),(.osl 6)]),(4,.arr 3 T2 z),(5,.arr 3 T2 q14_11.1),(6,.arr 42 T2 l5)],7⟩)]) (E4 (iuR [1,2,3,4,7,8,5,6]) (R4 (AI (R6 TV) (R8 TV)))) (fun m=>F6 (fun k=>fun l5_2 z q=>?_)) ?_
    ·have q:f84_l20 order r25 _ k l5_2=some z:=q
     unfold f84_l20 at q
     refine OL (OL (cI q (fun q=>?_) (fun q=>?_)))
     ·refine OL (EI (tU 0 10 (.alt 10 .done .done)) (EI [] (EI [] (AI rfl (gI q (fun q=>?_))))))
      refine gI q (fun q=>?_)
      refine gI q (fun q=>?_)
      refine AI TV (OL (EI ((i64.wrap (k+1)),(List.set l5_2 (Int.toNat (rd 0 order k)) (rd 0 r25.2 k))) (AI q (E4 I8 (R4 (AI (R6 TV) (R8 TV)))))))
     cases sE q
     refine E4 (iuR [1,2,3,4,6,7,8]) (R3 (AI (R5 TV) (R7 TV)))
    refine AI (OL ?_) TV
    obtain ⟨q24_10,h,q⟩:=bE q
    refine OL (cD H38 (a.1,z26) h rfl (R2 (AI (fun _=>rfl) (R2 (AI TV (AI TV (EI (tU 0 9 (.alt 9 .done .done)) (EI [] (EI [] (AI rfl (gI q (fun q=>?_))))))))))))
    refine gI q (fun q=>?_)
    refine AI TV (OL (EI ((i64.wrap (i+1)),(List.set l5 (Int.toNat i) (rd 0 a.2 q24_10.1))) (AI q (E4 (iuR [1,2,3,4,6,7]) (R3 (AI (R4 TV) (R6 TV)))))))
   cases sE q
   refine E4 (iuR [2,4,5,6]) (AI rfl (AI (R2 TV) (R4 TV)))
  refine AI (OL (OL ?_)) TV
  cases sE q
  refine AI rfl (E4 (iuR [3,4]) (R2 (AJ (R2 TV))))
 dsimp only [Fz] at q
 refine AI ?_ TV
 cases sE q
 refine AI rfl (E4 (iuR [0,0]) (R2 (AJ (R2 TV))))
theorem H84:HI C84 84:=hI Tryz.f84 rfl fun x=>V84 x.1 x.2
def f35 (a:Fx):Option Gl:=
 Ey (f32 (a.1,a.2)) fun r1=>
 bif (!r1) then
 some ((1:Int),[],[])
 else
 bif ((a.1.length:Int) != 2) then
 some ((4:Int),[],[])
 else
 Ey (f84 (a.1,a.2) ([(1:Int),(0:Int)])) fun r2=>
 some (r2.1,r2.2.1,r2.2.2)
def C35:Con:=⟨Fx,Gl,0,fun x=>[.dat T3 x],NX,fun x=>f35 x,fun y=>[.raw true [(.osl 0),(.osl 1)],.dat T2 y.1],fun y=>[(0,.arr 3 T2 y.2.1),(1,.arr 42 T2 y.2.2)],2⟩
theorem V35 a y (q:f35 a=some y):VC Tryz.f35 C35 a y:=by
 unfold f35 at q
 refine OL (OL (OL ?_))
 obtain ⟨r1,h,q⟩:=bE q
 refine OL (cA H32 (a.1,a.2) h rfl (R2 (K0 (cI q (fun q=>?_) (fun q=>?_)))))
 ·refine OL (OL ?_)
  cases sE q
  refine AI rfl (E4 (iuR [0,0]) (R2 (AJ (R2 TV))))
 refine OL (OL (cI q (fun q=>?_) (fun q=>?_)))
 ·refine OL (OL ?_)
  cases sE q
  refine AI rfl (E4 (iuR [0,0]) (R2 (AJ (R2 TV))))
 refine OL (OL ?_)
 obtain ⟨r2,h,q⟩:=bE q
 refine OL (cD H84 ((a.1,a.2),[(1:Int),(0:Int)]) h rfl (R3 (AI (fun _=>rfl) (R2 (AI TV (AI TV (OL ?_)))))))
 cases sE q
 refine AI rfl (E4 (iuR [4,5]) (R2 (AJ (R2 TV))))
theorem H35:HI C35 35:=hI Tryz.f35 rfl fun x=>V35 x
def f103 (k:Int):Option Int:=
 bif (decide (k<(-1000000:Int))) then
 some (-1000000:Int)
 else
 bif (decide (k>1000000)) then
 some (-1000000:Int)
 else
 some k
def C103:Con:=⟨Int,Int,0,fun x=>[.dat T2 x],NX,fun x=>f103 x,fun y=>[.dat T2 y],NX,0⟩
theorem V103 k y (q:f103 k=some y):VC Tryz.f103 C103 k y:=by
 unfold f103 at q
 refine OL (OL (OL (cN q (fun q=>?_) (fun q=>?_))))
 ·refine gY (cF (cI q (fun q=>?_) (fun q=>?_)))
  ·cases sE q
   refine OL (AI rfl (E4 [] (R2 (AI TV TV))))
  cases sE q
  refine OL (AI rfl (E4 [] (R2 (AI TV TV))))
 refine gN (cT (cT (OL ?_)))
 cases sE q
 refine AI rfl (E4 [] (R2 (AI TV TV)))
theorem H103:HI C103 103:=hI Tryz.f103 rfl fun x=>V103 x
def f102_j3 (a:Fx) (Fw:Int):Option Bool:=
 Ey (f32 (a.1,a.2)) fun r6=>
 bif (!r6) then
 some true
 else
 bif (decide (Fw<0)) then
 some true
 else
 some (decide (Fw≥a.1.length))
def f102_j2 (a:Fx) (Fw:Int):Option (Sum Unit Unit):=
 Ey (f102_j3 a Fw) fun z5=>
 bif z5 then
 some (Sum.inr ())
 else
 some (Sum.inl ())
def f102_j16 (Fw:Int) (r18:Bool×LI) (k:Int):Option Unit:=
 E9 (0≤Fw∧Fw≤r18.2.length)<|
 E9 (0≤Fw∧Fw≤r18.2.length)<|
 E9 ((List.length ([]:LI)+List.length (List.take (Int.toNat Fw) r18.2))*8≤140737488355328)<|
 E9 ((List.length (([]:LI)++(List.take (Int.toNat Fw) r18.2))+List.length ([k]))*8≤140737488355328)<|
 E9 ((List.length ((([]:LI)++(List.take (Int.toNat Fw) r18.2))++([k]))+List.length (List.drop (Int.toNat Fw) r18.2))*8≤140737488355328)<|
 some ()
def f102_l15 (a:Fx) (Fw:Int) (r18:Bool×LI) (go:(Int×Lc)→Option Lc) (k:Int) (c4_0:Bool) (c4_1 c4_2 c4_3 c4_4:Int):Option Lc:=
 E9 (0≤Fw∧Fw<a.1.length)<|
 bif (decide (k<(rd 0 a.1 Fw))) then
 Ey (f102_j16 Fw r18 k) fun z22=>
 Ey (f38 a.1 (((([]:LI)++(List.take (Int.toNat Fw) r18.2))++([k]))++(List.drop (Int.toNat Fw) r18.2))) fun q13_12=>
 E9 (0≤q13_12.1∧q13_12.1<a.2.length)<|
 Ey (f41 (rd 0 a.2 q13_12.1)) fun q15_6=>
 Ey (f85 c4_0 c4_1 c4_2 c4_3 c4_4 q15_6.1 q15_6.2 (0:Int) (0:Int) (0:Int)) fun q15_7=>
 go ((i64.wrap (k+1)),q15_7.1,q15_7.2.1,q15_7.2.2.1,q15_7.2.2.2.1,q15_7.2.2.2.2)
 else
 some (c4_0,c4_1,c4_2,c4_3,c4_4)
def f102_l12 (a:Fx) (Fw:Int) (go:Jv→Option LI) (i:Int) (l5:LI):Option LI:=
 bif (decide (i<l5.length)) then
 Ey (f37 ((([]:LI)++(List.take (Int.toNat Fw) a.1))++(List.drop (Int.toNat (i64.wrap (Fw+1))) a.1)) i) fun r18=>
 Ey (Fp (fun go x=>f102_l15 a Fw r18 go x.1 x.2.1 x.2.2.1 x.2.2.2.1 x.2.2.2.2.1 x.2.2.2.2.2) Fv ((0:Int),false,(0:Int),(0:Int),(0:Int),(0:Int))) fun z21=>
 Ey (f39 z21.1 z21.2.1 z21.2.2.1 z21.2.2.2.1 z21.2.2.2.2) fun q16_4=>
 E9 (0≤i∧i<l5.length)<|
 go ((i64.wrap (i+1)),(List.set l5 (Int.toNat i) q16_4))
 else
 some l5
def f102 (a:Fx) (Fw:Int):Option Gl:=
 Ey (f102_j2 a Fw) fun z3=>
 Fz z3 (fun z3a=>
 E9 (0≤Fw∧Fw≤a.1.length)<|
 E9 (0≤(i64.wrap (Fw+1))∧(i64.wrap (Fw+1))≤a.1.length)<|
 E9 ((List.length ([]:LI)+List.length (List.take (Int.toNat Fw) a.1))*8≤140737488355328)<|
 E9 ((List.length (([]:LI)++(List.take (Int.toNat Fw) a.1))+List.length (List.drop (Int.toNat (i64.wrap (Fw+1))) a.1))*8≤140737488355328)<|
 Ey (f11 ((([]:LI)++(List.take (Int.toNat Fw) a.1))++(List.drop (Int.toNat (i64.wrap (Fw+1))) a.1)) (0:Int)) fun q3_12=>
 Ey (Fp (fun go x=>f102_l12 a Fw go x.1 x.2) Fv ((0:Int),q3_12.2)) fun z17=>
 some ((0:Int),q3_12.1,z17)) (fun z3b=>
 some ((1:Int),[],[]))
def C102:Con:=⟨Fx×Int,Gl,0,fun x=>[.dat T3 x.1,.dat T2 x.2],NX,fun x=>f102 x.1 x.2,fun y=>[.raw true [(.osl 0),(.osl 1)],.dat T2 y.1],fun y=>[(0,.arr 3 T2 y.2.1),(1,.arr 42 T2 y.2.2)],2⟩
theorem V102 a Fw y (q:f102 a Fw=some y):VC Tryz.f102 C102 (a,Fw) y:=by
 unfold f102 at q
 refine OL ?_
 obtain ⟨z3,hz3,q⟩:=bE q
 let e0:LE:=fun zz=>(1,.dat T2 Fw)::(2,P0 0 0)::(4,P0 1 0)::zz
 let h1:LH:=fun zz=>(0,.cells [(.d T1 a.1),(.d T1 a.2)])::(1,.cells [N0,N0])::zz
 refine OQ ⟨Sum.elim (fun z3a=>[(0,⟨e0 [],h1 [],2⟩)]) (fun z3b=>[(1,⟨[(4,P0 0 0),(5,D0 1)],[(0,.cells [N0,N0])],1⟩)]) z3,?_,?_⟩
 ·have q:=hz3
  clear hz3
  unfold f102_j2 at q
  obtain ⟨z5,hz5,q⟩:=bE q
  refine OQ ⟨[(0,⟨e0 [(29,.dat .bool z5)],h1 [],2⟩)],?_,?_⟩
  ·have q:=hz5
   clear hz5
   unfold f102_j3 at q
   obtain ⟨r6,h,q⟩:=bE q
   refine OL (cA H32 (a.1,a.2) h rfl (R2 (K0 (cN q (fun q=>?_) (fun q=>?_)))))
   ·refine gY (cF (cN q (fun q=>?_) (fun q=>?_)))
    ·refine gY (gY (gY (gY (cF ?_))))
     cases sE q
     refine E4 I2 (R3 (AI (R2 TV) (R2 TV)))
    refine gN (gN (gN (gN (cT ?_))))
    cases sE q
    refine E4 I2 (R3 (AI (R2 TV) (R2 TV)))
   refine gN (cT (gN (gN (gN (gN (gN (cT ?_)))))))
   cases sE q
   refine E4 I2 (R3 (AI (R2 TV) (R2 TV)))
  refine AI (cI q (fun q=>?_) (fun q=>?_)) TV
  ·refine OL (OL ?_)
   cases sE q
   refine E4 (iuR [2]) (R2 (AJ (AI rfl TV)))
  cases sE q
  refine E4 I2 (R2 (AI (R2 TV) (R2 TV)))
 rcases z3 with z3a | z3b
 ·dsimp only [Fz] at q
  refine AI (OL (EI (tU 1 4 (tU 6 5 (.alt 0 (.alt 5 (.alt 11 (.take 12 .done) .done) .done) .done))) (EI [] (EI [] (AI rfl (gI q (fun q=>?_))))))) TV
  refine gI q (fun q=>?_)
  refine AI TV (OL (AI TV (OL (gI q (fun q=>?_)))))
  refine AI TV (OL (gI q (fun q=>?_)))
  refine OL ?_
  obtain ⟨q3_12,h,q⟩:=bE q
  refine OL (cD H11 (((([]:LI)++(List.take (Int.toNat Fw) a.1))++(List.drop (Int.toNat (i64.wrap (Fw+1))) a.1)),(0:Int)) h rfl (R2 (AI (fun _=>rfl) (R2 (AI TV (AI TV (OL (OL (OL ?_)))))))))
  obtain ⟨z17,hz17,q⟩:=bE q
  let e2:LE:=fun zz=>e0 ((6,O0 2)::(7,P0 3 0)::zz)
  let h3:LH:=fun zz=>h1 ((2,.arr 3 T2 ((([]:LI)++(List.take (Int.toNat Fw) a.1))++(List.drop (Int.toNat (i64.wrap (Fw+1))) a.1)))::zz)
  refine lJ hz17 (fun x=>⟨e2 [(8,.dat T2 x.1)],h3 [(3,.cells [(.osl 4),(.osl 5)]),(4,.arr 3 T2 q3_12.1),(5,.arr 42 T2 x.2)],6⟩) (fun z=>[(2,⟨[(4,P0 0 0),(7,P0 1 0)],[(0,.cells [N0,N0]),(1,.cells [(.osl 2),(.osl 3)]),(2,.arr 3 T2 q3_12.1),(3,.arr 42 T2 z)],4⟩)]) (E4 (iuR [1,2,5,8,6,7]) (R3 (AI (R4 TV) (R6 TV)))) (fun m=>F6 (fun i=>fun l5 z q=>?_)) ?_
  ·have q:f102_l12 a Fw _ i l5=some z:=q
   unfold f102_l12 at q
   refine OL (OL (cI q (fun q=>?_) (fun q=>?_)))
   ·refine OL (OL ?_)
    obtain ⟨r18,h,q⟩:=bE q
    refine OL (cD H37 (((([]:LI)++(List.take (Int.toNat Fw) a.1))++(List.drop (Int.toNat (i64.wrap (Fw+1))) a.1)),i) h rfl (R2 (AI (fun _=>rfl) (R2 (AI TV (AI TV (OL (OL (OL (OL ?_))))))))))
    obtain ⟨z21,h,q⟩:=bE q
    refine lJ h (fun x=>⟨e2 [(8,.dat T2 i),(9,.dat T1 r18.2),(11,P0 4 0),(12,.dat T2 x.1)],h3 [(3,.cells [(.osl 5),(.osl 6)]),(4,.cells [(.d .bool x.2.1),(.d T4 x.2.2.1),(.d T4 x.2.2.2.1),(.d T4 x.2.2.2.2.1),(.d T4 x.2.2.2.2.2)]),(5,.arr 3 T2 q3_12.1),(6,.arr 42 T2 l5)],7⟩) (fun z=>[(4,⟨e2 [(8,.dat T2 i),(11,P0 4 0)],h3 [(3,.cells [(.osl 5),(.osl 6)]),(4,.cells [(.d .bool z.1),(.d T4 z.2.1),(.d T4 z.2.2.1),(.d T4 z.2.2.2.1),(.d T4 z.2.2.2.2)]),(5,.arr 3 T2 q3_12.1),(6,.arr 42 T2 l5)],7⟩)]) (E4 (iuR [1,2,3,4,8,5,6]) (R5 (AI (R5 TV) (R7 TV)))) (fun m=>F6 (fun k=>F6 (fun c4_0=>F6 (fun c4_1=>F6 (fun c4_2=>F6 (fun c4_3=>fun c4_4 z q=>?_)))))) ?_
    ·have q:f102_l15 a Fw r18 _ k c4_0 c4_1 c4_2 c4_3 c4_4=some z:=q
     unfold f102_l15 at q
     refine OL (OL (gI q (fun q=>?_)))
     refine cI q (fun q=>?_) (fun q=>?_)
     ·refine OL ?_
      obtain ⟨z22,hz22,q⟩:=bE q
      refine OQ ⟨[(0,⟨e2 [(8,.dat T2 i),(9,.dat T1 r18.2),(11,P0 4 0),(12,.dat T2 k),(13,O0 5)],h3 [(3,.cells [(.osl 6),(.osl 7)]),(4,.cells [(.d .bool c4_0),(.d T4 c4_1),(.d T4 c4_2),(.d T4 c4_3),(.d T4 c4_4)]),(5,.arr 3 T2 (((([]:LI)++(List.take (Int.toNat Fw) r18.2))++([k]))++(List.drop (Int.toNat Fw) r18.2))),(6,.arr 3 T2 q3_12.1),(7,.arr 42 T2 l5)],8⟩)],?_,?_⟩
      ·have q:=hz22
       clear hz22
       unfold f102_j16 at q
       obtain ⟨g13_0,q⟩:=gE q
       obtain ⟨g13_1,q⟩:=gE q
       obtain ⟨g13_2,q⟩:=gE q
       obtain ⟨g13_3,q⟩:=gE q
       obtain ⟨g13_4,q⟩:=gE q
       refine EI (tU 1 3 (.take 5 (tU 8 3 (.alt 0 (.alt 4 (.alt 6 (.alt 7 (.alt 11 (.take 12 .done) .done) .done) .done) (.alt 6 (.alt 4 (.alt 7 (.alt 11 (.take 12 .done) .done) .done) .done) .done)) (.alt 6 (.alt 0 (.alt 4 (.alt 7 (.alt 11 (.take 12 .done) .done) .done) .done) .done) .done))))) (EI [] (EI [] (AI rfl (AI g13_0 (AI g13_0 (AI (AI TV ?_) ?_))))))
       ·refine OL (AI TV (OL (AI TV (OL (AI g13_2 (AI TV (OL (AI g13_3 (AI TV (OL (AI g13_4 ?_)))))))))))
        cases sE q
        refine E4 (iuR [1,2,3,4,5,12,6,7]) (R5 (AI (R6 TV) (R8 TV)))
       refine OL (AI (AI TV ?_) ?_)
       ·refine OL (AI TV (OL (AI g13_2 (AI TV (OL (AI g13_3 (AI TV (OL (AI g13_4 ?_)))))))))
        cases sE q
        refine E4 (iuR [1,2,3,4,5,12,6,7]) (R5 (AI (R6 TV) (R8 TV)))
       refine OL (AI g13_2 (AI TV (OL (AI TV (OL (AI g13_3 (AI TV (OL (AI g13_4 ?_)))))))))
       cases sE q
       refine E4 (iuR [1,2,3,4,5,12,6,7]) (R5 (AI (R6 TV) (R8 TV)))
      refine AI (OL ?_) TV
      obtain ⟨q13_12,h,q⟩:=bE q
      refine OL (cD H38 (a.1,(((([]:LI)++(List.take (Int.toNat Fw) r18.2))++([k]))++(List.drop (Int.toNat Fw) r18.2))) h rfl (R2 (AI (fun _=>rfl) (R2 (AI TV (AI TV (EI (tU 0 6 (.alt 6 (.alt 7 (.alt 8 .done .done) .done) .done)) (EI [(8,[4])] (EI [] (AI rfl (gI q (fun q=>?_))))))))))))
      refine AI TV ?_
      obtain ⟨q15_6,h,q⟩:=bE q
      refine OL (cA H41 (rd (0:Int) a.2 q13_12.1) h rfl (AI rfl (K0 (AI TV ?_))))
      obtain ⟨q15_7,h,q⟩:=bE q
      refine OL (cA H85 (c4_0,c4_1,c4_2,c4_3,c4_4,q15_6.1,q15_6.2,(0:Int),(0:Int),(0:Int)) h rfl (AI NH (R2 (AI (R2 TV) (AI TV (AI TV (OL (EI ((i64.wrap (k+1)),q15_7.1,q15_7.2.1,q15_7.2.2.1,q15_7.2.2.2.1,q15_7.2.2.2.2) (AI q (E4 (iuR [1,2,3,4,5,7,8]) (R5 (AI (R5 TV) (R7 TV)))))))))))))
     cases sE q
     refine E4 I7 (R3 (AI (R5 TV) (R7 TV)))
    refine AI (EI (tU 0 4 (.alt 4 (.take 5 (.alt 6 .done .done)) .done)) (EI [] (EI [] (AI rfl (AI TV ?_))))) TV
    obtain ⟨q16_4,h,q⟩:=bE q
    refine OL (cA H39 (z21.1,z21.2.1,z21.2.2.1,z21.2.2.2.1,z21.2.2.2.2) h rfl (AI NH (R2 (AJ (AI TV (gI q (fun q=>?_)))))))
    refine AI TV (OL (EI ((i64.wrap (i+1)),(List.set l5 (Int.toNat i) q16_4)) (AI q (E4 (iuR [1,2,3,4,6,7]) (R3 (AI (R4 TV) (R6 TV)))))))
   cases sE q
   refine E4 (iuR [2,4,5,6]) (AI rfl (AI (R2 TV) (R4 TV)))
  refine AI (OL (OL ?_)) TV
  cases sE q
  refine AI rfl (E4 (iuR [3,4]) (R2 (AJ (R2 TV))))
 dsimp only [Fz] at q
 refine AI ?_ TV
 cases sE q
 refine AI rfl (E4 (iuR [0,0]) (R2 (AJ (R2 TV))))
theorem H102:HI C102 102:=hI Tryz.f102 rfl fun x=>V102 x.1 x.2
def f145_l1 (a:Fx) (go:(Int×Lc)→Option Lc) (i:Int) (c2_0:Bool) (c2_1 c2_2 c2_3 c2_4:Int):Option Lc:=
 bif (decide (i<a.2.length)) then
 E9 (0≤i∧i<a.2.length)<|
 Ey (f41 (rd 0 a.2 i)) fun q5_6=>
 Ey (f85 c2_0 c2_1 c2_2 c2_3 c2_4 q5_6.1 q5_6.2 (0:Int) (0:Int) (0:Int)) fun q5_7=>
 go ((i64.wrap (i+1)),q5_7.1,q5_7.2.1,q5_7.2.2.1,q5_7.2.2.2.1,q5_7.2.2.2.2)
 else
 some (c2_0,c2_1,c2_2,c2_3,c2_4)
def f145 (a:Fx):Option Lc:=
 Ey (Fp (fun go x=>f145_l1 a go x.1 x.2.1 x.2.2.1 x.2.2.2.1 x.2.2.2.2.1 x.2.2.2.2.2) Fv ((0:Int),false,(0:Int),(0:Int),(0:Int),(0:Int))) fun z1=>
 some (z1.1,z1.2.1,z1.2.2.1,z1.2.2.2.1,z1.2.2.2.2)
def C145:Con:=⟨Fx,Lc,0,fun x=>[.dat T3 x],NX,fun x=>f145 x,fun y=>[.raw true [(.d .bool y.1),(.d T4 y.2.1),(.d T4 y.2.2.1),(.d T4 y.2.2.2.1),(.d T4 y.2.2.2.2)]],NX,0⟩
theorem V145 a y (q:f145 a=some y):VC Tryz.f145 C145 a y:=by
 unfold f145 at q
 refine OL (OL (OL (OL (OL ?_))))
 obtain ⟨z1,h,q⟩:=bE q
 refine lJ h (fun x=>⟨[(1,P0 0 0),(2,P0 1 0),(3,P0 2 0),(4,.dat T2 x.1)],[(0,.cells [(.d T1 a.1),(.d T1 a.2)]),(1,.cells [(.d .bool false),(.d T4 (0:Int)),(.d T4 (0:Int)),(.d T4 (0:Int)),(.d T4 (0:Int))]),(2,.cells [(.d .bool x.2.1),(.d T4 x.2.2.1),(.d T4 x.2.2.2.1),(.d T4 x.2.2.2.2.1),(.d T4 x.2.2.2.2.2)])],3⟩) (fun z=>[(2,⟨[(2,P0 0 0),(3,P0 1 0)],[(0,.cells [(.d .bool false),(.d T4 (0:Int)),(.d T4 (0:Int)),(.d T4 (0:Int)),(.d T4 (0:Int))]),(1,.cells [(.d .bool z.1),(.d T4 z.2.1),(.d T4 z.2.2.1),(.d T4 z.2.2.2.1),(.d T4 z.2.2.2.2)])],2⟩)]) (E4 I3 (R2 (AI (R3 TV) (R3 TV)))) (fun m=>F6 (fun i=>F6 (fun c2_0=>F6 (fun c2_1=>F6 (fun c2_2=>F6 (fun c2_3=>fun c2_4 z q=>?_)))))) ?_
 ·have q:f145_l1 a _ i c2_0 c2_1 c2_2 c2_3 c2_4=some z:=q
  unfold f145_l1 at q
  refine OL (OL (cI q (fun q=>?_) (fun q=>?_)))
  ·refine OL (EI (tU 0 6 (.alt 6 (.alt 7 (.alt 8 .done .done) .done) .done)) (EI [(8,[2])] (EI [] (AI rfl (gI q (fun q=>?_))))))
   refine AI TV ?_
   obtain ⟨q5_6,h,q⟩:=bE q
   refine OL (cA H41 (rd (0:Int) a.2 i) h rfl (AI rfl (K0 (AI TV ?_))))
   obtain ⟨q5_7,h,q⟩:=bE q
   refine OL (cA H85 (c2_0,c2_1,c2_2,c2_3,c2_4,q5_6.1,q5_6.2,(0:Int),(0:Int),(0:Int)) h rfl (AI NH (R2 (AI (R2 TV) (AI TV (AI TV (OL (EI ((i64.wrap (i+1)),q5_7.1,q5_7.2.1,q5_7.2.2.1,q5_7.2.2.2.1,q5_7.2.2.2.2) (AI q (E4 I3 (R2 (AI (R3 TV) (R3 TV)))))))))))))
  cases sE q
  refine E4 (iuR [2,3]) (AI rfl (AI (R2 TV) (R2 TV)))
 refine AI (OL (OL ?_)) TV
 cases sE q
 refine AI rfl (E4 [] (AI rfl (AJ TV)))
theorem H145:HI C145 145:=hI Tryz.f145 rfl fun x=>V145 x
def f105 (a:Fx):Option Int:=
 Ey (f145 (a.1,a.2)) fun r1=>
 Ey (f39 r1.1 r1.2.1 r1.2.2.1 r1.2.2.2.1 r1.2.2.2.2) fun r2=>
 some r2
def C105:Con:=⟨Fx,Int,0,fun x=>[.dat T3 x],NX,fun x=>f105 x,fun y=>[.dat T2 y],NX,0⟩
theorem V105 a y (q:f105 a=some y):VC Tryz.f105 C105 a y:=by
 unfold f105 at q
 refine OL (OL ?_)
 obtain ⟨r1,h,q⟩:=bE q
 refine OL (cA H145 (a.1,a.2) h rfl (R2 (K0 ?_)))
 obtain ⟨r2,h,q⟩:=bE q
 refine OL (cA H39 (r1.1,r1.2.1,r1.2.2.1,r1.2.2.2.1,r1.2.2.2.2) h rfl (AI NH (R2 (AJ (AI TV ?_)))))
 cases sE q
 refine AI rfl (E4 [] (R2 (AI TV TV)))
theorem H105:HI C105 105:=hI Tryz.f105 rfl fun x=>V105 x
def f104 (v:Int):Option Fx:=
 Ey (f11 ([]) v) fun r1=>
 some (r1.1,r1.2)
def C104:Con:=⟨Int,Fx,0,fun x=>[.dat T2 x],NX,fun x=>f104 x,fun y=>[.raw true [(.osl 0),(.osl 1)]],fun y=>[(0,.arr 3 T2 y.1),(1,.arr 42 T2 y.2)],2⟩
theorem V104 v y (q:f104 v=some y):VC Tryz.f104 C104 v y:=by
 unfold f104 at q
 refine OL (OL ?_)
 obtain ⟨r1,h,q⟩:=bE q
 refine OL (cA H11 ([],v) h rfl (R2 (K0 (OL ?_))))
 cases sE q
 refine AI rfl (E4 (iuR [2,3]) (AI rfl (AJ (R2 TV))))
theorem H104:HI C104 104:=hI Tryz.f104 rfl fun x=>V104 x
def f40_j4 (r1 rest r9:Int):Option Bool:=
 bif ((Int.fdiv rest (2 ^ min (Int.toNat (63:Int)) u64.bits))==1) then
 some true
 else
 some (decide ((Fu IntKind.u64 (fun p q=>p||| q) (u64.wrap (rest*2 ^ min (Int.toNat (1:Int)) u64.bits)) r9)≥r1))
def f40_l3 (a_M_0 a_M_1 a_M_2 a_M_3 r1:Int) (go:(Int×PTz9)→Option PTz9) (rest i c2_1 c2_2 c2_3 c2_4:Int):Option PTz9:=
 bif (decide (i≥0)) then
 Ey (f89 a_M_0 a_M_1 a_M_2 a_M_3 i) fun r9=>
 Ey (f40_j4 r1 rest r9) fun z10=>
 bif z10 then
 E9 (0≤(i64.wrap (Int.tdiv i (64:Int)))∧(i64.wrap (Int.tdiv i (64:Int)))<4)<|
 pickF (i64.wrap (Int.tdiv i (64:Int)))
 [(E9 (0≤(u64.wrap (Int.tmod i (64:Int))))<|
 go ((u64.wrap ((Fu IntKind.u64 (fun p q=>p||| q) (u64.wrap (rest*2 ^ min (Int.toNat (1:Int)) u64.bits)) r9)-r1)),(i64.wrap (i-1)),(Fu IntKind.u64 (fun p q=>p||| q) c2_1 (u64.wrap ((1:Int)*2 ^ min (Int.toNat (u64.wrap (Int.tmod i (64:Int)))) u64.bits))),c2_2,c2_3,c2_4)),
 (E9 (0≤(u64.wrap (Int.tmod i (64:Int))))<|
 go ((u64.wrap ((Fu IntKind.u64 (fun p q=>p||| q) (u64.wrap (rest*2 ^ min (Int.toNat (1:Int)) u64.bits)) r9)-r1)),(i64.wrap (i-1)),c2_1,(Fu IntKind.u64 (fun p q=>p||| q) c2_2 (u64.wrap ((1:Int)*2 ^ min (Int.toNat (u64.wrap (Int.tmod i (64:Int)))) u64.bits))),c2_3,c2_4)),
 (E9 (0≤(u64.wrap (Int.tmod i (64:Int))))<|
 go ((u64.wrap ((Fu IntKind.u64 (fun p q=>p||| q) (u64.wrap (rest*2 ^ min (Int.toNat (1:Int)) u64.bits)) r9)-r1)),(i64.wrap (i-1)),c2_1,c2_2,(Fu IntKind.u64 (fun p q=>p||| q) c2_3 (u64.wrap ((1:Int)*2 ^ min (Int.toNat (u64.wrap (Int.tmod i (64:Int)))) u64.bits))),c2_4)),
 (E9 (0≤(u64.wrap (Int.tmod i (64:Int))))<|
 go ((u64.wrap ((Fu IntKind.u64 (fun p q=>p||| q) (u64.wrap (rest*2 ^ min (Int.toNat (1:Int)) u64.bits)) r9)-r1)),(i64.wrap (i-1)),c2_1,c2_2,c2_3,(Fu IntKind.u64 (fun p q=>p||| q) c2_4 (u64.wrap ((1:Int)*2 ^ min (Int.toNat (u64.wrap (Int.tmod i (64:Int)))) u64.bits)))))]
 else
 go ((Fu IntKind.u64 (fun p q=>p||| q) (u64.wrap (rest*2 ^ min (Int.toNat (1:Int)) u64.bits)) r9),(i64.wrap (i-1)),c2_1,c2_2,c2_3,c2_4)
 else
 some (rest,c2_1,c2_2,c2_3,c2_4)
def f40_j5 (r1:Int) (z8:PTz9):Option Bool:=
 bif (decide (z8.1>(u64.wrap (r1-z8.1)))) then
 some true
 else
 bif (z8.1==(u64.wrap (r1-z8.1))) then
 some ((Fu IntKind.u64 (fun p q=>p&&& q) z8.2.1 (1:Int))==1)
 else
 some false
def f40 (a_Neg:Bool) (a_M_0 a_M_1 a_M_2 a_M_3 by_:Int):Option Lc:=
 Ey (f88 by_) fun r1=>
 Ey (Fp (fun go x=>f40_l3 a_M_0 a_M_1 a_M_2 a_M_3 r1 go x.1 x.2.1 x.2.2.1 x.2.2.2.1 x.2.2.2.2.1 x.2.2.2.2.2) Fv ((0:Int),(255:Int),(0:Int),(0:Int),(0:Int),(0:Int))) fun z8=>
 Ey (f40_j5 r1 z8) fun z12=>
 bif z12 then
 Ey (f90 z8.2.1 z8.2.2.1 z8.2.2.2.1 z8.2.2.2.2 (1:Int) (0:Int) (0:Int) (0:Int)) fun r13=>
 some ((!(a_Neg==(decide (by_<0)))),r13.1,r13.2.1,r13.2.2.1,r13.2.2.2)
 else
 some ((!(a_Neg==(decide (by_<0)))),z8.2.1,z8.2.2.1,z8.2.2.2.1,z8.2.2.2.2)
def C40:Con:=⟨Bool×PTz9,Lc,0,fun x=>[.raw true [(.d .bool x.1),(.d T4 x.2.1),(.d T4 x.2.2.1),(.d T4 x.2.2.2.1),(.d T4 x.2.2.2.2.1)],.dat T2 x.2.2.2.2.2],NX,fun x=>f40 x.1 x.2.1 x.2.2.1 x.2.2.2.1 x.2.2.2.2.1 x.2.2.2.2.2,fun y=>[.raw true [(.d .bool y.1),(.d T4 y.2.1),(.d T4 y.2.2.1),(.d T4 y.2.2.2.1),(.d T4 y.2.2.2.2)]],NX,0⟩
theorem V40 a_Neg a_M_0 a_M_1 a_M_2 a_M_3 by_ y (q:f40 a_Neg a_M_0 a_M_1 a_M_2 a_M_3 by_=some y):VC Tryz.f40 C40 (a_Neg,a_M_0,a_M_1,a_M_2,a_M_3,by_) y:=by
 unfold f40 at q
 refine OL (OL ?_)
 obtain ⟨r1,h,q⟩:=bE q
 refine OL (cA H88 by_ h rfl (AI rfl (K0 (OL (OL (OL (OL (OL ?_))))))))
 obtain ⟨z8,hz8,q⟩:=bE q
 let h0:LH:=fun zz=>(0,.cells [(.d .bool a_Neg),(.d T4 a_M_0),(.d T4 a_M_1),(.d T4 a_M_2),(.d T4 a_M_3)])::(1,.cells [(.d .bool false),(.d T4 (0:Int)),(.d T4 (0:Int)),(.d T4 (0:Int)),(.d T4 (0:Int))])::zz
 let h1:LH:=fun zz=>(0,.cells [(.d .bool false),(.d T4 (0:Int)),(.d T4 (0:Int)),(.d T4 (0:Int)),(.d T4 (0:Int))])::zz
 refine lJ hz8 (fun x=>⟨[(2,P0 0 0),(4,P0 1 0),(5,.dat T4 r1),(6,P0 2 0),(7,.dat T4 x.1),(8,.dat T2 x.2.1)],h0 [(2,.cells [(.d .bool (!(a_Neg==(decide (by_<0))))),(.d T4 x.2.2.1),(.d T4 x.2.2.2.1),(.d T4 x.2.2.2.2.1),(.d T4 x.2.2.2.2.2)])],3⟩) (fun z=>[(2,⟨[(4,P0 0 0),(5,.dat T4 r1),(6,P0 1 0),(7,.dat T4 z.1)],h1 [(1,.cells [(.d .bool (!(a_Neg==(decide (by_<0))))),(.d T4 z.2.1),(.d T4 z.2.2.1),(.d T4 z.2.2.2.1),(.d T4 z.2.2.2.2)])],2⟩)]) (E4 I3 (R4 (AI (R3 TV) (R3 TV)))) (fun m=>F6 (fun rest=>F6 (fun i=>F6 (fun c2_1=>F6 (fun c2_2=>F6 (fun c2_3=>fun c2_4 z q=>?_)))))) ?_
 ·have q:f40_l3 a_M_0 a_M_1 a_M_2 a_M_3 r1 _ rest i c2_1 c2_2 c2_3 c2_4=some z:=q
  unfold f40_l3 at q
  refine OL (OL (cI q (fun q=>?_) (fun q=>?_)))
  ·refine OL (OL (AI (by decide) (OL (AI (by decide) ?_))))
   obtain ⟨r9,h,q⟩:=bE q
   refine OL (cA H89 (a_M_0,a_M_1,a_M_2,a_M_3,i) h rfl (AI rfl (AI NH (R2 (AJ (AI TV ?_))))))
   obtain ⟨z10,hz10,q⟩:=bE q
   refine OQ ⟨[(0,⟨[(2,P0 0 0),(4,P0 1 0),(5,.dat T4 r1),(6,P0 2 0),(7,.dat T4 (Fu IntKind.u64 (fun p q=>p||| q) (u64.wrap (rest*2 ^ min (Int.toNat (1:Int)) u64.bits)) r9)),(8,.dat T2 i),(37,.dat .bool z10)],h0 [(2,.cells [(.d .bool (!(a_Neg==(decide (by_<0))))),(.d T4 c2_1),(.d T4 c2_2),(.d T4 c2_3),(.d T4 c2_4)])],3⟩)],?_,?_⟩
   ·have q:=hz10
    clear hz10
    unfold f40_j4 at q
    refine cN q (fun q=>?_) (fun q=>?_)
    ·refine gY (gY (cF ?_))
     cases sE q
     refine E4 I3 (R5 (AI (R3 TV) (R3 TV)))
    refine gN (gN (cT ?_))
    cases sE q
    refine E4 I3 (R5 (AI (R3 TV) (R3 TV)))
   refine AI (cI q (fun q=>?_) (fun q=>?_)) TV
   ·refine OL (AI (by decide) (AI (by decide) (gI q (fun q=>?_))))
    refine AI (fun hk11=>?_) ?_
    ·have q:=Jn q hk11
     dsimp only [nthO] at q
     refine AI (by decide) (gI q (fun q=>?_))
     refine AI (rE hk11 (by decide)) (AI (fun _=>?_) (AI (fun h=>absurd (hk11.symm.trans h) (by decide)) (AI (fun h=>absurd (hk11.symm.trans h) (by decide)) (AI (fun h=>absurd (hk11.symm.trans h) (by decide)) TV))))
     refine OL (EI ((u64.wrap ((Fu IntKind.u64 (fun p q=>p||| q) (u64.wrap (rest*2 ^ min (Int.toNat (1:Int)) u64.bits)) r9)-r1)),(i64.wrap (i-1)),(Fu IntKind.u64 (fun p q=>p||| q) c2_1 (u64.wrap ((1:Int)*2 ^ min (Int.toNat (u64.wrap (Int.tmod i (64:Int)))) u64.bits))),c2_2,c2_3,c2_4) (AI q (E4 I3 (R4 (AI (R3 TV) (R3 TV))))))
    refine AI (fun hk11=>?_) ?_
    ·have q:=Jn q hk11
     dsimp only [nthO] at q
     refine AI (by decide) (gI q (fun q=>?_))
     refine AI (rE hk11 (by decide)) (AI (fun h=>absurd (hk11.symm.trans h) (by decide)) ?_)
     refine AI (fun _=>?_) (AI (fun h=>absurd (hk11.symm.trans h) (by decide)) (AI (fun h=>absurd (hk11.symm.trans h) (by decide)) TV))
     refine OL (EI ((u64.wrap ((Fu IntKind.u64 (fun p q=>p||| q) (u64.wrap (rest*2 ^ min (Int.toNat (1:Int)) u64.bits)) r9)-r1)),(i64.wrap (i-1)),c2_1,(Fu IntKind.u64 (fun p q=>p||| q) c2_2 (u64.wrap ((1:Int)*2 ^ min (Int.toNat (u64.wrap (Int.tmod i (64:Int)))) u64.bits))),c2_3,c2_4) (AI q (E4 I3 (R4 (AI (R3 TV) (R3 TV))))))
    refine AI (fun hk11=>?_) ?_
    ·have q:=Jn q hk11
     dsimp only [nthO] at q
     refine AI (by decide) (gI q (fun q=>?_))
     refine AI (rE hk11 (by decide)) (AI (fun h=>absurd (hk11.symm.trans h) (by decide)) ?_)
     refine AI (fun h=>absurd (hk11.symm.trans h) (by decide)) ?_
     refine AI (fun _=>?_) (AI (fun h=>absurd (hk11.symm.trans h) (by decide)) TV)
     refine OL (EI ((u64.wrap ((Fu IntKind.u64 (fun p q=>p||| q) (u64.wrap (rest*2 ^ min (Int.toNat (1:Int)) u64.bits)) r9)-r1)),(i64.wrap (i-1)),c2_1,c2_2,(Fu IntKind.u64 (fun p q=>p||| q) c2_3 (u64.wrap ((1:Int)*2 ^ min (Int.toNat (u64.wrap (Int.tmod i (64:Int)))) u64.bits))),c2_4) (AI q (E4 I3 (R4 (AI (R3 TV) (R3 TV))))))
    refine AI (fun hk11=>?_) TV
    have q:=Jn q hk11
    dsimp only [nthO] at q
    refine AI (by decide) (gI q (fun q=>?_))
    refine AI (rE hk11 (by decide)) (AI (fun h=>absurd (hk11.symm.trans h) (by decide)) ?_)
    refine AI (fun h=>absurd (hk11.symm.trans h) (by decide)) ?_
    refine AI (fun h=>absurd (hk11.symm.trans h) (by decide)) ?_
    refine AI (fun _=>?_) TV
    refine OL (EI ((u64.wrap ((Fu IntKind.u64 (fun p q=>p||| q) (u64.wrap (rest*2 ^ min (Int.toNat (1:Int)) u64.bits)) r9)-r1)),(i64.wrap (i-1)),c2_1,c2_2,c2_3,(Fu IntKind.u64 (fun p q=>p||| q) c2_4 (u64.wrap ((1:Int)*2 ^ min (Int.toNat (u64.wrap (Int.tmod i (64:Int)))) u64.bits)))) (AI q (E4 I3 (R4 (AI (R3 TV) (R3 TV))))))
   refine EI ((Fu IntKind.u64 (fun p q=>p||| q) (u64.wrap (rest*2 ^ min (Int.toNat (1:Int)) u64.bits)) r9),(i64.wrap (i-1)),c2_1,c2_2,c2_3,c2_4) (AI q (E4 I3 (R4 (AI (R3 TV) (R3 TV)))))
  cases sE q
  refine E4 (iuR [2,3]) (R3 (AI (R2 TV) (R2 TV)))
 refine AI (OL ?_) TV
 obtain ⟨z12,hz12,q⟩:=bE q
 refine OQ ⟨[(0,⟨[(4,P0 0 0),(6,P0 1 0),(73,.dat .bool z12)],h1 [(1,.cells [(.d .bool (!(a_Neg==(decide (by_<0))))),(.d T4 z8.2.1),(.d T4 z8.2.2.1),(.d T4 z8.2.2.2.1),(.d T4 z8.2.2.2.2)])],2⟩)],?_,?_⟩
 ·have q:=hz12
  clear hz12
  unfold f40_j5 at q
  refine cN q (fun q=>?_) (fun q=>?_)
  ·refine gY (gY (gY (gY (gY (cI q (fun q=>?_) (fun q=>?_))))))
   ·refine gX (AI (by decide) (AI (fun _=>?_) (AI (fun h=>absurd h (by decide)) (AI (fun h=>absurd h (by decide)) (AI (fun h=>absurd h (by decide)) TV)))))
    refine gX (gX (gX (gY (cT (cF ?_)))))
    cases sE q
    refine E4 I2 (R2 (AI (R2 TV) (R2 TV)))
   refine gM (gM (gM (gM (gY (cF (cF ?_))))))
   cases sE q
   refine E4 I2 (R2 (AI (R2 TV) (R2 TV)))
  refine gN (gN (gN (gN (gN (gN (cT ?_))))))
  cases sE q
  refine E4 I2 (R2 (AI (R2 TV) (R2 TV)))
 refine AI (cI q (fun q=>?_) (fun q=>?_)) TV
 ·obtain ⟨r13,h,q⟩:=bE q
  refine OL (cA H90 (z8.2.1,z8.2.2.1,z8.2.2.2.1,z8.2.2.2.2,(1:Int),(0:Int),(0:Int),(0:Int)) h rfl (AI NH (R2 (AI (R2 TV) (AI TV (OL (OL (OL ?_))))))))
  cases sE q
  refine AI rfl (E4 [] (AI rfl (AJ TV)))
 refine OL (OL ?_)
 cases sE q
 refine AI rfl (E4 [] (AI rfl (AJ TV)))
theorem H40:HI C40 40:=hI Tryz.f40 rfl fun x=>V40 x.1 x.2.1 x.2.2.1 x.2.2.2.1 x.2.2.2.2.1 x.2.2.2.2.2
def f106 (a:Fx):Option Int:=
 Ey (f145 (a.1,a.2)) fun q1_1=>
 Ey (f40 q1_1.1 q1_1.2.1 q1_1.2.2.1 q1_1.2.2.2.1 q1_1.2.2.2.2 (a.2.length:Int)) fun q1_5=>
 Ey (f39 q1_5.1 q1_5.2.1 q1_5.2.2.1 q1_5.2.2.2.1 q1_5.2.2.2.2) fun q1_6=>
 some q1_6
def C106:Con:=⟨Fx,Int,0,fun x=>[.dat T3 x],NX,fun x=>f106 x,fun y=>[.dat T2 y],NX,0⟩
theorem V106 a y (q:f106 a=some y):VC Tryz.f106 C106 a y:=by
 unfold f106 at q
 refine OL (OL (EI (.take 0 (tU 2 3 (.alt 1 (.alt 5 (.alt 6 (.take 7 .done) .done) .done) .done))) (EI [] (EI [] (AI rfl (AI TV ?_))))))
 obtain ⟨q1_1,h,q⟩:=bE q
 refine OL (cA H145 (a.1,a.2) h rfl (R2 (K0 (AI TV ?_))))
 obtain ⟨q1_5,h,q⟩:=bE q
 refine OL (cA H40 (q1_1.1,q1_1.2.1,q1_1.2.2.1,q1_1.2.2.2.1,q1_1.2.2.2.2,(a.2.length:Int)) h rfl (AI rfl (AI NH (R2 (AJ (AI TV (AI TV ?_)))))))
 obtain ⟨q1_6,h,q⟩:=bE q
 refine OL (cA H39 (q1_5.1,q1_5.2.1,q1_5.2.2.1,q1_5.2.2.2.1,q1_5.2.2.2.2) h rfl (AI NH (R2 (AJ (AI TV ?_)))))
 cases sE q
 refine AI rfl (E4 [] (R2 (AI TV TV)))
theorem H106:HI C106 106:=hI Tryz.f106 rfl fun x=>V106 x
end Go.Proofs
