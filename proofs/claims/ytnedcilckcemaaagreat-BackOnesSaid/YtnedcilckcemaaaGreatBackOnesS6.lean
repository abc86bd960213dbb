import Derived.Test.YtnedcilckcemaaaGreatBackOnesS5
set_option linter.unusedVariables false
set_option maxRecDepth 100000
set_option maxHeartbeats 8000000
namespace Go.Proofs
open Go.AM
open IntKind (i64 u64 i32 u32 i16 u16 i8 u8)
def f170_l1 (a_M_0 a_M_1 a_M_2 a_M_3 n:Int) (go:PTz9→Option PTz2) (i c2_1 c2_2 c2_3 c2_4:Int):Option PTz2:=
 bif (decide (i≥n)) then
 Ey (f89 a_M_0 a_M_1 a_M_2 a_M_3 (i64.wrap (i-n))) fun r6=>
 bif (r6==1) then
 E9 (0≤(i64.wrap (Int.tdiv i (64:Int)))∧(i64.wrap (Int.tdiv i (64:Int)))<4)<|
 pickF (i64.wrap (Int.tdiv i (64:Int)))
 [(E9 (0≤(u64.wrap (Int.tmod i (64:Int))))<|
 go ((i64.wrap (i-1)),(Fu IntKind.u64 (fun p q=>p||| q) c2_1 (u64.wrap ((1:Int)*2 ^ min (Int.toNat (u64.wrap (Int.tmod i (64:Int)))) u64.bits))),c2_2,c2_3,c2_4)),
 (E9 (0≤(u64.wrap (Int.tmod i (64:Int))))<|
 go ((i64.wrap (i-1)),c2_1,(Fu IntKind.u64 (fun p q=>p||| q) c2_2 (u64.wrap ((1:Int)*2 ^ min (Int.toNat (u64.wrap (Int.tmod i (64:Int)))) u64.bits))),c2_3,c2_4)),
 (E9 (0≤(u64.wrap (Int.tmod i (64:Int))))<|
 go ((i64.wrap (i-1)),c2_1,c2_2,(Fu IntKind.u64 (fun p q=>p||| q) c2_3 (u64.wrap ((1:Int)*2 ^ min (Int.toNat (u64.wrap (Int.tmod i (64:Int)))) u64.bits))),c2_4)),
 (E9 (0≤(u64.wrap (Int.tmod i (64:Int))))<|
 go ((i64.wrap (i-1)),c2_1,c2_2,c2_3,(Fu IntKind.u64 (fun p q=>p||| q) c2_4 (u64.wrap ((1:Int)*2 ^ min (Int.toNat (u64.wrap (Int.tmod i (64:Int)))) u64.bits)))))]
 else
 go ((i64.wrap (i-1)),c2_1,c2_2,c2_3,c2_4)
 else
 some (c2_1,c2_2,c2_3,c2_4)
def f170 (a_Neg:Bool) (a_M_0 a_M_1 a_M_2 a_M_3 n:Int):Option Lc:=
 Ey (Fp (fun go x=>f170_l1 a_M_0 a_M_1 a_M_2 a_M_3 n go x.1 x.2.1 x.2.2.1 x.2.2.2.1 x.2.2.2.2) Fv ((255:Int),(0:Int),(0:Int),(0:Int),(0:Int))) fun z5=>
 some (a_Neg,z5.1,z5.2.1,z5.2.2.1,z5.2.2.2)
def C170:Con:=⟨Bool×PTz9,Lc,0,fun x=>[.raw true [(.d .bool x.1),(.d T4 x.2.1),(.d T4 x.2.2.1),(.d T4 x.2.2.2.1),(.d T4 x.2.2.2.2.1)],.dat T2 x.2.2.2.2.2],NX,fun x=>f170 x.1 x.2.1 x.2.2.1 x.2.2.2.1 x.2.2.2.2.1 x.2.2.2.2.2,fun y=>[.raw true [(.d .bool y.1),(.d T4 y.2.1),(.d T4 y.2.2.1),(.d T4 y.2.2.2.1),(.d T4 y.2.2.2.2)]],NX,0⟩
theorem V170 a_Neg a_M_0 a_M_1 a_M_2 a_M_3 n y (q:f170 a_Neg a_M_0 a_M_1 a_M_2 a_M_3 n=some y):VC Tryz.f170 C170 (a_Neg,a_M_0,a_M_1,a_M_2,a_M_3,n) y:=by
 unfold f170 at q
 refine OL (OL (OL (OL (OL ?_))))
 obtain ⟨z5,h,q⟩:=bE q
 refine lJ h (fun x=>⟨[(1,.dat T2 n),(2,P0 0 0),(4,P0 1 0),(5,P0 2 0),(6,.dat T2 x.1)],[(0,.cells [(.d .bool a_Neg),(.d T4 a_M_0),(.d T4 a_M_1),(.d T4 a_M_2),(.d T4 a_M_3)]),(1,.cells [(.d .bool false),(.d T4 (0:Int)),(.d T4 (0:Int)),(.d T4 (0:Int)),(.d T4 (0:Int))]),(2,.cells [(.d .bool a_Neg),(.d T4 x.2.1),(.d T4 x.2.2.1),(.d T4 x.2.2.2.1),(.d T4 x.2.2.2.2)])],3⟩) (fun z=>[(2,⟨[(4,P0 0 0),(5,P0 1 0)],[(0,.cells [(.d .bool false),(.d T4 (0:Int)),(.d T4 (0:Int)),(.d T4 (0:Int)),(.d T4 (0:Int))]),(1,.cells [(.d .bool a_Neg),(.d T4 z.1),(.d T4 z.2.1),(.d T4 z.2.2.1),(.d T4 z.2.2.2)])],2⟩)]) (E4 I3 (R3 (AI (R3 TV) (R3 TV)))) (fun m=>F6 (fun i=>F6 (fun c2_1=>F6 (fun c2_2=>F6 (fun c2_3=>fun c2_4 z q=>?_))))) ?_
 ·have q:f170_l1 a_M_0 a_M_1 a_M_2 a_M_3 n _ i c2_1 c2_2 c2_3 c2_4=some z:=q
  unfold f170_l1 at q
  refine OL (OL (cI q (fun q=>?_) (fun q=>?_)))
  ·refine OL (OL ?_)
   obtain ⟨r6,h,q⟩:=bE q
   refine OL (cA H89 (a_M_0,a_M_1,a_M_2,a_M_3,(i64.wrap (i-n))) h rfl (AI rfl (AI NH (R2 (AJ (AI TV (cI q (fun q=>?_) (fun q=>?_))))))))
   ·refine AI (by decide) (AI (by decide) (gI q (fun q=>?_)))
    refine AI (fun hk7=>?_) ?_
    ·have q:=Jn q hk7
     dsimp only [nthO] at q
     refine AI (by decide) (gI q (fun q=>?_))
     refine AI (rE hk7 (by decide)) (AI (fun _=>?_) (AI (fun h=>absurd (hk7.symm.trans h) (by decide)) (AI (fun h=>absurd (hk7.symm.trans h) (by decide)) (AI (fun h=>absurd (hk7.symm.trans h) (by decide)) TV))))
     refine OL (EI ((i64.wrap (i-1)),(Fu IntKind.u64 (fun p q=>p||| q) c2_1 (u64.wrap ((1:Int)*2 ^ min (Int.toNat (u64.wrap (Int.tmod i (64:Int)))) u64.bits))),c2_2,c2_3,c2_4) (AI q (E4 I3 (R3 (AI (R3 TV) (R3 TV))))))
    refine AI (fun hk7=>?_) ?_
    ·have q:=Jn q hk7
     dsimp only [nthO] at q
     refine AI (by decide) (gI q (fun q=>?_))
     refine AI (rE hk7 (by decide)) (AI (fun h=>absurd (hk7.symm.trans h) (by decide)) ?_)
     refine AI (fun _=>?_) (AI (fun h=>absurd (hk7.symm.trans h) (by decide)) (AI (fun h=>absurd (hk7.symm.trans h) (by decide)) TV))
     refine OL (EI ((i64.wrap (i-1)),c2_1,(Fu IntKind.u64 (fun p q=>p||| q) c2_2 (u64.wrap ((1:Int)*2 ^ min (Int.toNat (u64.wrap (Int.tmod i (64:Int)))) u64.bits))),c2_3,c2_4) (AI q (E4 I3 (R3 (AI (R3 TV) (R3 TV))))))
    refine AI (fun hk7=>?_) ?_
    ·have q:=Jn q hk7
     dsimp only [nthO] at q
     refine AI (by decide) (gI q (fun q=>?_))
     refine AI (rE hk7 (by decide)) (AI (fun h=>absurd (hk7.symm.trans h) (by decide)) ?_)
     refine AI (fun h=>absurd (hk7.symm.trans h) (by decide)) ?_
     refine AI (fun _=>?_) (AI (fun h=>absurd (hk7.symm.trans h) (by decide)) TV)
     refine OL (EI ((i64.wrap (i-1)),c2_1,c2_2,(Fu IntKind.u64 (fun p q=>p||| q) c2_3 (u64.wrap ((1:Int)*2 ^ min (Int.toNat (u64.wrap (Int.tmod i (64:Int)))) u64.bits))),c2_4) (AI q (E4 I3 (R3 (AI (R3 TV) (R3 TV))))))
    refine AI (fun hk7=>?_) TV
    have q:=Jn q hk7
    dsimp only [nthO] at q
    refine AI (by decide) (gI q (fun q=>?_))
    refine AI (rE hk7 (by decide)) (AI (fun h=>absurd (hk7.symm.trans h) (by decide)) ?_)
    refine AI (fun h=>absurd (hk7.symm.trans h) (by decide)) ?_
    refine AI (fun h=>absurd (hk7.symm.trans h) (by decide)) ?_
    refine AI (fun _=>?_) TV
    refine OL (EI ((i64.wrap (i-1)),c2_1,c2_2,c2_3,(Fu IntKind.u64 (fun p q=>p||| q) c2_4 (u64.wrap ((1:Int)*2 ^ min (Int.toNat (u64.wrap (Int.tmod i (64:Int)))) u64.bits)))) (AI q (E4 I3 (R3 (AI (R3 TV) (R3 TV))))))
   refine EI ((i64.wrap (i-1)),c2_1,c2_2,c2_3,c2_4) (AI q (E4 I3 (R3 (AI (R3 TV) (R3 TV)))))
  cases sE q
  refine E4 (iuR [2,3]) (AI rfl (AI (R2 TV) (R2 TV)))
 refine AI (OL (OL ?_)) TV
 cases sE q
 refine AI rfl (E4 [] (AI rfl (AJ TV)))
theorem H170:HI C170 170:=hI Tryz.f170 rfl fun x=>V170 x.1 x.2.1 x.2.2.1 x.2.2.2.1 x.2.2.2.2.1 x.2.2.2.2.2
def f163 (n:Int):Option Int:=
 Ey (f41 n) fun r1=>
 Ey (f170 r1.1 r1.2 (0:Int) (0:Int) (0:Int) (32:Int)) fun r2=>
 Ey (f39 r2.1 r2.2.1 r2.2.2.1 r2.2.2.2.1 r2.2.2.2.2) fun r3=>
 some r3
def C163:Con:=⟨Int,Int,0,fun x=>[.dat T2 x],NX,fun x=>f163 x,fun y=>[.dat T2 y],NX,0⟩
theorem V163 n y (q:f163 n=some y):VC Tryz.f163 C163 n y:=by
 unfold f163 at q
 refine OL (OL ?_)
 obtain ⟨r1,h,q⟩:=bE q
 refine OL (cA H41 n h rfl (AI rfl (K0 ?_)))
 obtain ⟨r2,h,q⟩:=bE q
 refine OL (cA H170 (r1.1,r1.2,(0:Int),(0:Int),(0:Int),(32:Int)) h rfl (AI rfl (AI NH (R2 (AJ (AI TV ?_))))))
 obtain ⟨r3,h,q⟩:=bE q
 refine OL (cA H39 (r2.1,r2.2.1,r2.2.2.1,r2.2.2.2.1,r2.2.2.2.2) h rfl (AI NH (R2 (AJ (AI TV ?_)))))
 cases sE q
 refine AI rfl (E4 [] (R2 (AI TV TV)))
theorem H163:HI C163 163:=hI Tryz.f163 rfl fun x=>V163 x
def f169 (neg none_:Bool):Option Int:=
 bif none_ then
 some (0:Int)
 else
 bif neg then
 some (-9223372036854775808:Int)
 else
 some (9223372036854775807:Int)
def C169:Con:=⟨Bool×Bool,Int,0,fun x=>[.dat .bool x.1,.dat .bool x.2],NX,fun x=>f169 x.1 x.2,fun y=>[.dat T2 y],NX,0⟩
theorem V169 neg none_ y (q:f169 neg none_=some y):VC Tryz.f169 C169 (neg,none_) y:=by
 unfold f169 at q
 refine OL (OL (OL (cI q (fun q=>?_) (fun q=>?_))))
 ·cases sE q
  refine OL (AI rfl (E4 [] (R2 (AI TV TV))))
 refine OL (cI q (fun q=>?_) (fun q=>?_))
 ·cases sE q
  refine OL (AI rfl (E4 [] (R2 (AI TV TV))))
 cases sE q
 refine OL (AI rfl (E4 [] (R2 (AI TV TV))))
theorem H169:HI C169 169:=hI Tryz.f169 rfl fun x=>V169 x.1 x.2
def f162 (a b:Int):Option Int:=
 bif (b==0) then
 Ey (f169 (decide (a<0)) (a==0)) fun r1=>
 some r1
 else
 Ey (f41 a) fun r2=>
 Ey (f170 r2.1 r2.2 (0:Int) (0:Int) (0:Int) (32:Int)) fun r3=>
 Ey (f40 r3.1 r3.2.1 r3.2.2.1 r3.2.2.2.1 r3.2.2.2.2 b) fun r4=>
 Ey (f39 r4.1 r4.2.1 r4.2.2.1 r4.2.2.2.1 r4.2.2.2.2) fun r5=>
 some r5
def C162:Con:=⟨Gm,Int,0,fun x=>[.dat T2 x.1,.dat T2 x.2],NX,fun x=>f162 x.1 x.2,fun y=>[.dat T2 y],NX,0⟩
theorem V162 a b y (q:f162 a b=some y):VC Tryz.f162 C162 (a,b) y:=by
 unfold f162 at q
 refine OL (OL (OL (cI q (fun q=>?_) (fun q=>?_))))
 ·refine OL ?_
  obtain ⟨r1,h,q⟩:=bE q
  refine OL (cA H169 ((decide (a<0)),(a==0)) h rfl (R2 (K0 ?_)))
  cases sE q
  refine AI rfl (E4 [] (R2 (AI TV TV)))
 refine OL ?_
 obtain ⟨r2,h,q⟩:=bE q
 refine OL (cA H41 a h rfl (AI rfl (K0 ?_)))
 obtain ⟨r3,h,q⟩:=bE q
 refine OL (cA H170 (r2.1,r2.2,(0:Int),(0:Int),(0:Int),(32:Int)) h rfl (AI rfl (AI NH (R2 (AJ (AI TV ?_))))))
 obtain ⟨r4,h,q⟩:=bE q
 refine OL (cA H40 (r3.1,r3.2.1,r3.2.2.1,r3.2.2.2.1,r3.2.2.2.2,b) h rfl (AI rfl (AI NH (R2 (AJ (AI TV ?_))))))
 obtain ⟨r5,h,q⟩:=bE q
 refine OL (cA H39 (r4.1,r4.2.1,r4.2.2.1,r4.2.2.2.1,r4.2.2.2.2) h rfl (AI NH (R2 (AJ (AI TV ?_)))))
 cases sE q
 refine AI rfl (E4 [] (R2 (AI TV TV)))
theorem H162:HI C162 162:=hI Tryz.f162 rfl fun x=>V162 x.1 x.2
def f164 (a:Int):Option Int:=
 Ey (f65 (0:Int) a) fun r1=>
 some r1
def C164:Con:=⟨Int,Int,0,fun x=>[.dat T2 x],NX,fun x=>f164 x,fun y=>[.dat T2 y],NX,0⟩
theorem V164 a y (q:f164 a=some y):VC Tryz.f164 C164 a y:=by
 unfold f164 at q
 refine OL (OL ?_)
 obtain ⟨r1,h,q⟩:=bE q
 refine OL (cA H65 ((0:Int),a) h rfl (R2 (K0 ?_)))
 cases sE q
 refine AI rfl (E4 [] (R2 (AI TV TV)))
theorem H164:HI C164 164:=hI Tryz.f164 rfl fun x=>V164 x
def f146 (kind x_:Int):Option Int:=
 bif (kind==1) then
 bif (decide (x_<0)) then
 some (0:Int)
 else
 some x_
 else
 bif (kind==2) then
 bif (decide (x_>0)) then
 some x_
 else
 Ey (f163 (8:Int)) fun r1=>
 Ey (f162 x_ r1) fun r2=>
 some r2
 else
 bif (kind==3) then
 bif (decide (x_>4294967296)) then
 some (4294967296:Int)
 else
 bif (decide (x_<(-4294967296:Int))) then
 some (-4294967296:Int)
 else
 some x_
 else
 bif (kind==4) then
 bif (decide (x_<0)) then
 Ey (f164 x_) fun r3=>
 some r3
 else
 some x_
 else
 Ey (f163 (2:Int)) fun r4=>
 Ey (f162 x_ r4) fun r5=>
 Ey (f64 r5 (2147483648:Int)) fun r6=>
 bif (decide (r6<0)) then
 some (0:Int)
 else
 bif (decide (r6>4294967296)) then
 some (4294967296:Int)
 else
 some r6
def C146:Con:=⟨Gm,Int,0,fun x=>[.dat T2 x.1,.dat T2 x.2],NX,fun x=>f146 x.1 x.2,fun y=>[.dat T2 y],NX,0⟩
theorem V146 kind x_ y (q:f146 kind x_=some y):VC Tryz.f146 C146 (kind,x_) y:=by
 unfold f146 at q
 refine OL (OL (OL (OL (cI q (fun q=>?_) (fun q=>?_)))))
 ·refine OL (OL (cI q (fun q=>?_) (fun q=>?_)))
  ·cases sE q
   refine OL (AI rfl (E4 [] (R2 (AI TV TV))))
  cases sE q
  refine OL (AI rfl (E4 [] (R2 (AI TV TV))))
 refine OL (cI q (fun q=>?_) (fun q=>?_))
 ·refine OL (OL (cI q (fun q=>?_) (fun q=>?_)))
  ·cases sE q
   refine OL (AI rfl (E4 [] (R2 (AI TV TV))))
  refine OL ?_
  obtain ⟨r1,h,q⟩:=bE q
  refine OL (cA H163 (8:Int) h rfl (AI rfl (K0 ?_)))
  obtain ⟨r2,h,q⟩:=bE q
  refine OL (cA H162 (x_,r1) h rfl (R2 (K0 ?_)))
  cases sE q
  refine AI rfl (E4 [] (R2 (AI TV TV)))
 refine OL (cI q (fun q=>?_) (fun q=>?_))
 ·refine OL (OL (cI q (fun q=>?_) (fun q=>?_)))
  ·cases sE q
   refine OL (AI rfl (E4 [] (R2 (AI TV TV))))
  refine OL (OL (cI q (fun q=>?_) (fun q=>?_)))
  ·cases sE q
   refine OL (AI rfl (E4 [] (R2 (AI TV TV))))
  cases sE q
  refine OL (AI rfl (E4 [] (R2 (AI TV TV))))
 refine OL (cI q (fun q=>?_) (fun q=>?_))
 ·refine OL (OL (cI q (fun q=>?_) (fun q=>?_)))
  ·refine OL ?_
   obtain ⟨r3,h,q⟩:=bE q
   refine OL (cA H164 x_ h rfl (AI rfl (K0 ?_)))
   cases sE q
   refine AI rfl (E4 [] (R2 (AI TV TV)))
  cases sE q
  refine OL (AI rfl (E4 [] (R2 (AI TV TV))))
 refine OL ?_
 obtain ⟨r4,h,q⟩:=bE q
 refine OL (cA H163 (2:Int) h rfl (AI rfl (K0 ?_)))
 obtain ⟨r5,h,q⟩:=bE q
 refine OL (cA H162 (x_,r4) h rfl (R2 (K0 ?_)))
 obtain ⟨r6,h,q⟩:=bE q
 refine OL (cA H64 (r5,(2147483648:Int)) h rfl (R2 (K0 (OL (OL (cI q (fun q=>?_) (fun q=>?_)))))))
 ·cases sE q
  refine OL (AI rfl (E4 [] (R2 (AI TV TV))))
 refine OL (OL (cI q (fun q=>?_) (fun q=>?_)))
 ·cases sE q
  refine OL (AI rfl (E4 [] (R2 (AI TV TV))))
 cases sE q
 refine OL (AI rfl (E4 [] (R2 (AI TV TV))))
theorem H146:HI C146 146:=hI Tryz.f146 rfl fun x=>V146 x.1 x.2
def f107_j3 (kind:Int) (t:Fx):Option Bool:=
 bif (decide (kind<1)) then
 some true
 else
 bif (decide (kind>5)) then
 some true
 else
 Ey (f32 (t.1,t.2)) fun r6=>
 some (!r6)
def f107_j2 (kind:Int) (t:Fx):Option (Sum Unit Unit):=
 Ey (f107_j3 kind t) fun z5=>
 bif z5 then
 some (Sum.inr ())
 else
 some (Sum.inl ())
def f107_l4 (kind:Int) (t:Fx) (go:Jv→Option LI) (i:Int) (l4:LI):Option LI:=
 bif (decide (i<l4.length)) then
 E9 (0≤i∧i<t.2.length)<|
 Ey (f146 kind (rd 0 t.2 i)) fun q7_9=>
 E9 (0≤i∧i<l4.length)<|
 go ((i64.wrap (i+1)),(List.set l4 (Int.toNat i) q7_9))
 else
 some l4
def f107 (kind:Int) (t:Fx):Option Gl:=
 Ey (f107_j2 kind t) fun z3=>
 Fz z3 (fun z3a=>
 Ey (f11 t.1 (0:Int)) fun r7=>
 Ey (Fp (fun go x=>f107_l4 kind t go x.1 x.2) Fv ((0:Int),r7.2)) fun z8=>
 some ((0:Int),r7.1,z8)) (fun z3b=>
 some ((1:Int),[],[]))
def C107:Con:=⟨Gl,Gl,0,fun x=>[.dat T2 x.1,.dat T3 x.2],NX,fun x=>f107 x.1 x.2,fun y=>[.raw true [(.osl 0),(.osl 1)],.dat T2 y.1],fun y=>[(0,.arr 3 T2 y.2.1),(1,.arr 42 T2 y.2.2)],2⟩
theorem V107 kind t y (q:f107 kind t=some y):VC Tryz.f107 C107 (kind,t) y:=by
 unfold f107 at q
 refine OL ?_
 obtain ⟨z3,hz3,q⟩:=bE q
 let e0:LE:=fun zz=>(0,.dat T2 kind)::(3,P0 0 0)::(4,P0 1 0)::zz
 let h1:LH:=fun zz=>(0,.cells [(.d T1 t.1),(.d T1 t.2)])::(1,.cells [N0,N0])::zz
 refine OQ ⟨Sum.elim (fun z3a=>[(0,⟨e0 [],h1 [],2⟩)]) (fun z3b=>[(1,⟨[(4,P0 0 0),(5,D0 1)],[(0,.cells [N0,N0])],1⟩)]) z3,?_,?_⟩
 ·have q:=hz3
  clear hz3
  unfold f107_j2 at q
  obtain ⟨z5,hz5,q⟩:=bE q
  refine OQ ⟨[(0,⟨e0 [(18,.dat .bool z5)],h1 [],2⟩)],?_,?_⟩
  ·have q:=hz5
   clear hz5
   unfold f107_j3 at q
   refine cN q (fun q=>?_) (fun q=>?_)
   ·refine gY (cF (cN q (fun q=>?_) (fun q=>?_)))
    ·refine gY ?_
     obtain ⟨r6,h,q⟩:=bE q
     refine OL (cA H32 (t.1,t.2) h rfl (R2 (K0 (gY (cF ?_)))))
     cases sE q
     refine E4 I2 (R3 (AI (R2 TV) (R2 TV)))
    refine gN (gN (cT ?_))
    cases sE q
    refine E4 I2 (R3 (AI (R2 TV) (R2 TV)))
   refine gN (cT (gN (gN (gN (cT ?_)))))
   cases sE q
   refine E4 I2 (R3 (AI (R2 TV) (R2 TV)))
  refine AI (cI q (fun q=>?_) (fun q=>?_)) TV
  ·refine OL (OL ?_)
   cases sE q
   refine E4 (iuR [2]) (R2 (AJ (AI rfl TV)))
  cases sE q
  refine E4 I2 (R2 (AI (R2 TV) (R2 TV)))
 rcases z3 with z3a | z3b
 ·dsimp only [Fz] at q
  refine AI (OL ?_) TV
  obtain ⟨r7,h,q⟩:=bE q
  refine OL (cA H11 (t.1,(0:Int)) h rfl (R2 (K0 (OL (OL (OL ?_))))))
  obtain ⟨z8,h,q⟩:=bE q
  refine lJ h (fun x=>⟨e0 [(6,P0 2 0),(7,.dat T2 x.1)],h1 [(2,.cells [(.osl 3),(.osl 4)]),(3,.arr 3 T2 r7.1),(4,.arr 42 T2 x.2)],5⟩) (fun z=>[(2,⟨[(4,P0 0 0),(6,P0 1 0)],[(0,.cells [N0,N0]),(1,.cells [(.osl 2),(.osl 3)]),(2,.arr 3 T2 r7.1),(3,.arr 42 T2 z)],4⟩)]) (E4 (iuR [1,2,5,3,4]) (R3 (AI (R3 TV) (R5 TV)))) (fun m=>F6 (fun i=>fun l4 z q=>?_)) ?_
  ·have q:f107_l4 kind t _ i l4=some z:=q
   unfold f107_l4 at q
   refine OL (OL (cI q (fun q=>?_) (fun q=>?_)))
   ·refine OL (EI (tU 0 9 (.alt 9 (.take 10 (.alt 11 .done .done)) .done)) (EI [] (EI [] (AI rfl (gI q (fun q=>?_))))))
    refine AI TV ?_
    obtain ⟨q7_9,h,q⟩:=bE q
    refine OL (cA H146 (kind,(rd 0 t.2 i)) h rfl (R2 (K0 (gI q (fun q=>?_)))))
    refine AI TV (OL (EI ((i64.wrap (i+1)),(List.set l4 (Int.toNat i) q7_9)) (AI q (E4 I5 (R3 (AI (R3 TV) (R5 TV)))))))
   cases sE q
   refine E4 (iuR [2,3,4,5]) (AI rfl (AI (R2 TV) (R4 TV)))
  refine AI (OL (OL ?_)) TV
  cases sE q
  refine AI rfl (E4 (iuR [3,4]) (R2 (AJ (R2 TV))))
 dsimp only [Fz] at q
 refine AI ?_ TV
 cases sE q
 refine AI rfl (E4 (iuR [0,0]) (R2 (AJ (R2 TV))))
theorem H107:HI C107 107:=hI Tryz.f107 rfl fun x=>V107 x.1 x.2
def f108_j3 (a k:Fx) (step:Int):Option Bool:=
 Ey (f32 (a.1,a.2)) fun r9=>
 bif (!r9) then
 some true
 else
 Ey (f32 (k.1,k.2)) fun r10=>
 bif (!r10) then
 some true
 else
 bif (decide (step<1)) then
 some true
 else
 some (decide (step>64))
def f108_j2 (a k:Fx) (step:Int):Option (Sum Unit Unit):=
 Ey (f108_j3 a k step) fun z8=>
 bif z8 then
 some (Sum.inr ())
 else
 some (Sum.inl ())
def f108_j6 (a k:Fx):Option Bool:=
 bif ((a.1.length:Int) != 2) then
 some true
 else
 bif ((k.1.length:Int) != 3) then
 some true
 else
 E9 (0≤(0:Int)∧0<(a.1.length:Int))<|
 E9 (0≤(1:Int)∧1<(k.1.length:Int))<|
 bif ((rd 0 a.1 0) != (rd 0 k.1 1)) then
 some true
 else
 E9 (0≤(2:Int)∧2<(k.1.length:Int))<|
 E9 (0≤(1:Int)∧1<(a.1.length:Int))<|
 some (decide ((rd 0 k.1 2)>(rd 0 a.1 1)))
def f108_j5 (a k:Fx):Option (Sum Unit Unit):=
 Ey (f108_j6 a k) fun z13=>
 bif z13 then
 some (Sum.inr ())
 else
 some (Sum.inl ())
def f108_l46 (a k:Fx) (step i j x_:Int) (go:(Int×Lc)→Option Lc) (y_:Int) (c4_0_2:Bool) (c4_1_2 c4_2_2 c4_3_2 c4_4_2:Int):Option Lc:=
 bif (decide (y_<(rd 0 k.1 2))) then
 E9 (0≤(i64.wrap ((i64.wrap ((i64.wrap (x_*(rd 0 a.1 1)))+(i64.wrap (j*step))))+y_))∧(i64.wrap ((i64.wrap ((i64.wrap (x_*(rd 0 a.1 1)))+(i64.wrap (j*step))))+y_))<a.2.length)<|
 E9 (0≤(i64.wrap ((i64.wrap ((i64.wrap ((i64.wrap (i*(rd 0 a.1 0)))+x_))*(rd 0 k.1 2)))+y_))∧(i64.wrap ((i64.wrap ((i64.wrap ((i64.wrap (i*(rd 0 a.1 0)))+x_))*(rd 0 k.1 2)))+y_))<k.2.length)<|
 Ey (f86 (rd 0 a.2 (i64.wrap ((i64.wrap ((i64.wrap (x_*(rd 0 a.1 1)))+(i64.wrap (j*step))))+y_))) (rd 0 k.2 (i64.wrap ((i64.wrap ((i64.wrap ((i64.wrap (i*(rd 0 a.1 0)))+x_))*(rd 0 k.1 2)))+y_)))) fun q23_27=>
 Ey (f85 c4_0_2 c4_1_2 c4_2_2 c4_3_2 c4_4_2 q23_27.1 q23_27.2.1 q23_27.2.2.1 q23_27.2.2.2.1 q23_27.2.2.2.2) fun q23_28=>
 go ((i64.wrap (y_+1)),q23_28.1,q23_28.2.1,q23_28.2.2.1,q23_28.2.2.2.1,q23_28.2.2.2.2)
 else
 some (c4_0_2,c4_1_2,c4_2_2,c4_3_2,c4_4_2)
def f108_l45 (a k:Fx) (step i j:Int) (go:(Int×Lc)→Option Lc) (x_:Int) (c4_0:Bool) (c4_1 c4_2 c4_3 c4_4:Int):Option Lc:=
 bif (decide (x_<(rd 0 a.1 0))) then
 Ey (Fp (fun go x=>f108_l46 a k step i j x_ go x.1 x.2.1 x.2.2.1 x.2.2.2.1 x.2.2.2.2.1 x.2.2.2.2.2) Fv ((0:Int),c4_0,c4_1,c4_2,c4_3,c4_4)) fun z54=>
 go ((i64.wrap (x_+1)),z54.1,z54.2.1,z54.2.2.1,z54.2.2.2.1,z54.2.2.2.2)
 else
 some (c4_0,c4_1,c4_2,c4_3,c4_4)
def f108_l42 (a k:Fx) (step i:Int) (go:Jv→Option LI) (j:Int) (l5_2:LI):Option LI:=
 bif (decide (j<(i64.wrap ((i64.wrap (Int.tdiv (i64.wrap ((rd 0 a.1 1)-(rd 0 k.1 2))) step))+1)))) then
 Ey (Fp (fun go x=>f108_l45 a k step i j go x.1 x.2.1 x.2.2.1 x.2.2.2.1 x.2.2.2.2.1 x.2.2.2.2.2) Fv ((0:Int),false,(0:Int),(0:Int),(0:Int),(0:Int))) fun z53=>
 Ey (f87 z53.1 z53.2.1 z53.2.2.1 z53.2.2.2.1 z53.2.2.2.2 (32:Int)) fun q24_8=>
 Ey (f39 q24_8.1 q24_8.2.1 q24_8.2.2.1 q24_8.2.2.2.1 q24_8.2.2.2.2) fun q24_9=>
 E9 (0≤(i64.wrap ((i64.wrap (i*(i64.wrap ((i64.wrap (Int.tdiv (i64.wrap ((rd 0 a.1 1)-(rd 0 k.1 2))) step))+1))))+j))∧(i64.wrap ((i64.wrap (i*(i64.wrap ((i64.wrap (Int.tdiv (i64.wrap ((rd 0 a.1 1)-(rd 0 k.1 2))) step))+1))))+j))<l5_2.length)<|
 go ((i64.wrap (j+1)),(List.set l5_2 (Int.toNat (i64.wrap ((i64.wrap (i*(i64.wrap ((i64.wrap (Int.tdiv (i64.wrap ((rd 0 a.1 1)-(rd 0 k.1 2))) step))+1))))+j))) q24_9))
 else
 some l5_2
def f108_l33 (a k:Fx) (step:Int) (go:Jv→Option LI) (i:Int) (l5:LI):Option LI:=
 bif (decide (i<(rd 0 k.1 0))) then
 Ey (Fp (fun go x=>f108_l42 a k step i go x.1 x.2) Fv ((0:Int),l5)) fun z50=>
 go ((i64.wrap (i+1)),z50)
 else
 some l5
def f108 (a k:Fx) (step:Int):Option Gl:=
 Ey (f108_j2 a k step) fun z5=>
 Fz z5 (fun z5a=>
 Ey (f108_j5 a k) fun z12=>
 Fz z12 (fun z12a=>
 E9 (0≤(0:Int)∧0<(a.1.length:Int))<|
 E9 (0≤(1:Int)∧1<(a.1.length:Int))<|
 E9 (0≤(0:Int)∧0<(k.1.length:Int))<|
 E9 (0≤(2:Int)∧2<(k.1.length:Int))<|
 E9 (step≠0)<|
 Ey (f67 ([(rd 0 k.1 0),(i64.wrap ((i64.wrap (Int.tdiv (i64.wrap ((rd 0 a.1 1)-(rd 0 k.1 2))) step))+1))])) fun q5_19=>
 bif (!q5_19) then
 some ((2:Int),[],[])
 else
 Ey (f11 ([(rd 0 k.1 0),(i64.wrap ((i64.wrap (Int.tdiv (i64.wrap ((rd 0 a.1 1)-(rd 0 k.1 2))) step))+1))]) (0:Int)) fun r14=>
 Ey (Fp (fun go x=>f108_l33 a k step go x.1 x.2) Fv ((0:Int),r14.2)) fun z41=>
 some ((0:Int),r14.1,z41)) (fun z12b=>
 some ((4:Int),[],[]))) (fun z5b=>
 some ((1:Int),[],[]))
def C108:Con:=⟨Fx×Fx×Int,Gl,0,fun x=>[.dat T3 x.1,.dat T3 x.2.1,.dat T2 x.2.2],NX,fun x=>f108 x.1 x.2.1 x.2.2,fun y=>[.raw true [(.osl 0),(.osl 1)],.dat T2 y.1],fun y=>[(0,.arr 3 T2 y.2.1),(1,.arr 42 T2 y.2.2)],2⟩
theorem V108 a k step y (q:f108 a k step=some y):VC Tryz.f108 C108 (a,k,step) y:=by
 unfold f108 at q
 refine OL ?_
 obtain ⟨z5,hz5,q⟩:=bE q
 let e0:LE:=fun zz=>(2,.dat T2 step)::(3,P0 0 0)::(4,P0 1 0)::(6,P0 2 0)::zz
 let h1:LH:=fun zz=>(0,.cells [(.d T1 a.1),(.d T1 a.2)])::(1,.cells [(.d T1 k.1),(.d T1 k.2)])::(2,.cells [N0,N0])::zz
 refine OQ ⟨Sum.elim (fun z5a=>[(0,⟨e0 [],h1 [],3⟩)]) (fun z5b=>[(1,⟨[(6,P0 0 0),(7,D0 1)],[(0,.cells [N0,N0])],1⟩)]) z5,?_,?_⟩
 ·have q:=hz5
  clear hz5
  unfold f108_j2 at q
  obtain ⟨z8,hz8,q⟩:=bE q
  refine OQ ⟨[(0,⟨e0 [(34,.dat .bool z8)],h1 [],3⟩)],?_,?_⟩
  ·have q:=hz8
   clear hz8
   unfold f108_j3 at q
   obtain ⟨r9,h,q⟩:=bE q
   refine OL (cA H32 (a.1,a.2) h rfl (R2 (K0 (cN q (fun q=>?_) (fun q=>?_)))))
   ·refine gY ?_
    obtain ⟨r10,h,q⟩:=bE q
    refine OL (cA H32 (k.1,k.2) h rfl (R2 (K0 (gY (cF (cN q (fun q=>?_) (fun q=>?_)))))))
    ·refine gY (cF (cN q (fun q=>?_) (fun q=>?_)))
     ·refine gY (cF ?_)
      cases sE q
      refine E4 I3 (R3 (AI (R3 TV) (R3 TV)))
     refine gN (cT ?_)
     cases sE q
     refine E4 I3 (R3 (AI (R3 TV) (R3 TV)))
    refine gN (cT (gN (gN (cT ?_))))
    cases sE q
    refine E4 I3 (R3 (AI (R3 TV) (R3 TV)))
   refine gN (gN (cT (gN (gN (cT (gN (gN (cT ?_))))))))
   cases sE q
   refine E4 I3 (R3 (AI (R3 TV) (R3 TV)))
  refine AI (cI q (fun q=>?_) (fun q=>?_)) TV
  ·refine OL (OL ?_)
   cases sE q
   refine E4 (iuR [3]) (R2 (AJ (AI rfl TV)))
  cases sE q
  refine E4 I3 (R2 (AI (R3 TV) (R3 TV)))
 rcases z5 with z5a | z5b
 ·dsimp only [Fz] at q
  refine AI ?_ TV
  obtain ⟨z12,hz12,q⟩:=bE q
  refine OQ ⟨Sum.elim (fun z12a=>[(0,⟨e0 [],h1 [],3⟩)]) (fun z12b=>[(1,⟨[(6,P0 0 0),(7,D0 4)],[(0,.cells [N0,N0])],1⟩)]) z12,?_,?_⟩
  ·have q:=hz12
   clear hz12
   unfold f108_j5 at q
   obtain ⟨z13,hz13,q⟩:=bE q
   refine OQ ⟨[(0,⟨e0 [(67,.dat .bool z13)],h1 [],3⟩)],?_,?_⟩
   ·have q:=hz13
    clear hz13
    unfold f108_j6 at q
    refine EI (tU 0 32 .done) (EI [] (EI [] (AI rfl (cN q (fun q=>?_) (fun q=>?_)))))
    ·refine gY (gY (gY (cF (cN q (fun q=>?_) (fun q=>?_)))))
     ·refine gY (gY (gI q (fun q=>?_)))
      refine gY (gY (gY (gY (gI q (fun q=>?_)))))
      refine gY (gY (cF (cN q (fun q=>?_) (fun q=>?_))))
      ·refine gY (gY (gI q (fun q=>?_)))
       refine gY (gY (gY (gY (gI q (fun q=>?_)))))
       refine gY (gY (cF ?_))
       cases sE q
       refine E4 I3 (R3 (AI (R3 TV) (R3 TV)))
      refine gN (gN (gN (gN (gN (gN (gN (gN (cT ?_))))))))
      cases sE q
      refine E4 I3 (R3 (AI (R3 TV) (R3 TV)))
     refine gN (gN (gN (gN (gN (gN (gN (gN (cT (gN (gN (gN (gN (gN (gN (gN (gN (gN (cT ?_))))))))))))))))))
     cases sE q
     refine E4 I3 (R3 (AI (R3 TV) (R3 TV)))
    refine gN (gN (gN (cT (gN (gN (gN (gN (gN (gN (gN (gN (gN (cT (gN (gN (gN (gN (gN (gN (gN (gN (gN (cT ?_)))))))))))))))))))))))
    cases sE q
    refine E4 I3 (R3 (AI (R3 TV) (R3 TV)))
   refine AI (cI q (fun q=>?_) (fun q=>?_)) TV
   ·refine OL (OL ?_)
    cases sE q
    refine E4 (iuR [3]) (R2 (AJ (AI rfl TV)))
   cases sE q
   refine E4 I3 (R2 (AI (R3 TV) (R3 TV)))
  rcases z12 with z12a | z12b
  ·dsimp only [Fz] at q
   refine AI (OL (EI (tU 0 20 .done) (EI [] (EI [] (AI rfl (gI q (fun q=>?_))))))) TV
   refine gI q (fun q=>?_)
   refine gI q (fun q=>?_)
   refine gI q (fun q=>?_)
   refine OL (gI q (fun q=>?_))
   refine OL (OL (OL ?_))
   obtain ⟨q5_19,h,q⟩:=bE q
   refine OL (cD H67 [(rd 0 k.1 0),(i64.wrap ((i64.wrap (Int.tdiv (i64.wrap ((rd 0 a.1 1)-(rd 0 k.1 2))) step))+1))] h rfl (AI rfl (AI (fun _=>rfl) (R2 (AI TV (AI TV (cI q (fun q=>?_) (fun q=>?_))))))))
   ·refine OL (OL ?_)
    cases sE q
    refine AI rfl (E4 (iuR [0,0]) (R2 (AJ (R2 TV))))
   refine OL (OL ?_)
   obtain ⟨r14,h,q⟩:=bE q
   refine OL (cD H11 ([(rd 0 k.1 0),(i64.wrap ((i64.wrap (Int.tdiv (i64.wrap ((rd 0 a.1 1)-(rd 0 k.1 2))) step))+1))],(0:Int)) h rfl (R2 (AI (fun _=>rfl) (R2 (AI TV (AI TV (OL (OL (OL ?_)))))))))
   obtain ⟨z41,hz41,q⟩:=bE q
   let e2:LE:=fun zz=>e0 ((8,.dat T2 (rd 0 a.1 0))::(9,.dat T2 (rd 0 a.1 1))::(10,.dat T2 (rd 0 k.1 0))::(11,.dat T2 (rd 0 k.1 2))::(12,.dat T2 (i64.wrap ((i64.wrap (Int.tdiv (i64.wrap ((rd 0 a.1 1)-(rd 0 k.1 2))) step))+1)))::(13,P0 3 0)::zz)
   let h3:LH:=fun zz=>h1 ((3,.cells [(.osl 4),(.osl 5)])::(4,.arr 3 T2 r14.1)::zz)
   refine lJ hz41 (fun x=>⟨e2 [(14,.dat T2 x.1)],h3 [(5,.arr 42 T2 x.2)],6⟩) (fun z=>[(2,⟨[(6,P0 0 0),(13,P0 1 0)],[(0,.cells [N0,N0]),(1,.cells [(.osl 2),(.osl 3)]),(2,.arr 3 T2 r14.1),(3,.arr 42 T2 z)],4⟩)]) (E4 (iuR [1,2,3,8,6,7]) (R8 (AI (R4 TV) (R6 TV)))) (fun m=>F6 (fun i=>fun l5 z q=>?_)) ?_
   ·have q:f108_l33 a k step _ i l5=some z:=q
    unfold f108_l33 at q
    refine OL (OL (cI q (fun q=>?_) (fun q=>?_)))
    ·refine OL (OL ?_)
     obtain ⟨z50,hz50,q⟩:=bE q
     let e4:LE:=fun zz=>e2 ((14,.dat T2 i)::zz)
     refine lJ hz50 (fun x=>⟨e4 [(15,.dat T2 x.1)],h3 [(5,.arr 42 T2 x.2)],6⟩) (fun z=>[(4,⟨e4 [],h3 [(5,.arr 42 T2 z)],6⟩)]) (E4 I6 (R9 (AI (R4 TV) (R6 TV)))) (fun m=>F6 (fun j=>fun l5_2 z q=>?_)) ?_
     ·have q:f108_l42 a k step i _ j l5_2=some z:=q
      unfold f108_l42 at q
      refine OL (OL (cI q (fun q=>?_) (fun q=>?_)))
      ·refine OL (OL (OL (OL (OL ?_))))
       obtain ⟨z53,hz53,q⟩:=bE q
       let e5:LE:=fun zz=>e4 ((15,.dat T2 j)::(16,P0 4 0)::zz)
       let h6:LH:=fun zz=>h1 ((3,.cells [(.osl 5),(.osl 6)])::zz)
       refine lJ hz53 (fun x=>⟨e5 [(17,.dat T2 x.1)],h6 [(4,.cells [(.d .bool x.2.1),(.d T4 x.2.2.1),(.d T4 x.2.2.2.1),(.d T4 x.2.2.2.2.1),(.d T4 x.2.2.2.2.2)]),(5,.arr 3 T2 r14.1),(6,.arr 42 T2 l5_2)],7⟩) (fun z=>[(6,⟨e5 [],h6 [(4,.cells [(.d .bool z.1),(.d T4 z.2.1),(.d T4 z.2.2.1),(.d T4 z.2.2.2.1),(.d T4 z.2.2.2.2)]),(5,.arr 3 T2 r14.1),(6,.arr 42 T2 l5_2)],7⟩)]) (E4 (iuR [1,2,3,4,7,5,6]) (R10 (AI (R5 TV) (R7 TV)))) (fun m=>F6 (fun x_=>F6 (fun c4_0=>F6 (fun c4_1=>F6 (fun c4_2=>F6 (fun c4_3=>fun c4_4 z q=>?_)))))) ?_
       ·have q:f108_l45 a k step i j _ x_ c4_0 c4_1 c4_2 c4_3 c4_4=some z:=q
        unfold f108_l45 at q
        refine OL (OL (cI q (fun q=>?_) (fun q=>?_)))
        ·refine OL (OL ?_)
         obtain ⟨z54,h,q⟩:=bE q
         refine lJ h (fun x=>⟨e5 [(17,.dat T2 x_),(18,.dat T2 x.1)],h6 [(4,.cells [(.d .bool x.2.1),(.d T4 x.2.2.1),(.d T4 x.2.2.2.1),(.d T4 x.2.2.2.2.1),(.d T4 x.2.2.2.2.2)]),(5,.arr 3 T2 r14.1),(6,.arr 42 T2 l5_2)],7⟩) (fun z=>[(8,⟨e5 [(17,.dat T2 x_)],h6 [(4,.cells [(.d .bool z.1),(.d T4 z.2.1),(.d T4 z.2.2.1),(.d T4 z.2.2.2.1),(.d T4 z.2.2.2.2)]),(5,.arr 3 T2 r14.1),(6,.arr 42 T2 l5_2)],7⟩)]) (E4 I7 (R11 (AI (R5 TV) (R7 TV)))) (fun m=>F6 (fun y_=>F6 (fun c4_0_2=>F6 (fun c4_1_2=>F6 (fun c4_2_2=>F6 (fun c4_3_2=>fun c4_4_2 z q=>?_)))))) ?_
         ·have q:f108_l46 a k step i j x_ _ y_ c4_0_2 c4_1_2 c4_2_2 c4_3_2 c4_4_2=some z:=q
          unfold f108_l46 at q
          refine OL (OL (cI q (fun q=>?_) (fun q=>?_)))
          ·refine OL (EI (tU 0 27 (.alt 27 (.alt 28 (.alt 29 .done .done) .done) .done)) (EI [(29,[4])] (EI [] (AI rfl (gI q (fun q=>?_))))))
           refine gI q (fun q=>?_)
           refine AI TV ?_
           obtain ⟨q23_27,h,q⟩:=bE q
           refine OL (cA H86 ((rd 0 a.2 (i64.wrap ((i64.wrap ((i64.wrap (x_*(rd 0 a.1 1)))+(i64.wrap (j*step))))+y_))),(rd 0 k.2 (i64.wrap ((i64.wrap ((i64.wrap ((i64.wrap (i*(rd 0 a.1 0)))+x_))*(rd 0 k.1 2)))+y_)))) h rfl (R2 (K0 (AI TV ?_))))
           obtain ⟨q23_28,h,q⟩:=bE q
           refine OL (cA H85 (c4_0_2,c4_1_2,c4_2_2,c4_3_2,c4_4_2,q23_27.1,q23_27.2.1,q23_27.2.2.1,q23_27.2.2.2.1,q23_27.2.2.2.2) h rfl (AI NH (R2 (AI (R2 TV) (AI TV (AI TV (OL (EI ((i64.wrap (y_+1)),q23_28.1,q23_28.2.1,q23_28.2.2.1,q23_28.2.2.2.1,q23_28.2.2.2.2) (AI q (E4 I7 (R11 (AI (R5 TV) (R7 TV)))))))))))))
          cases sE q
          refine E4 I7 (R10 (AI (R5 TV) (R7 TV)))
         refine AI (EI ((i64.wrap (x_+1)),z54.1,z54.2.1,z54.2.2.1,z54.2.2.2.1,z54.2.2.2.2) (AI q (E4 I7 (R10 (AI (R5 TV) (R7 TV)))))) TV
        cases sE q
        refine E4 I7 (R9 (AI (R5 TV) (R7 TV)))
       refine AI (EI (tU 0 8 (.alt 8 (.alt 9 (.take 10 (.alt 11 .done .done)) .done) .done)) (EI [] (EI [] (AI rfl (AI TV ?_))))) TV
       obtain ⟨q24_8,h,q⟩:=bE q
       refine OL (cA H87 (z53.1,z53.2.1,z53.2.2.1,z53.2.2.2.1,z53.2.2.2.2,(32:Int)) h rfl (AI rfl (AI NH (R2 (AJ (AI TV (AI TV ?_)))))))
       obtain ⟨q24_9,h,q⟩:=bE q
       refine OL (cA H39 (q24_8.1,q24_8.2.1,q24_8.2.2.1,q24_8.2.2.2.1,q24_8.2.2.2.2) h rfl (AI NH (R2 (AJ (AI TV (gI q (fun q=>?_)))))))
       refine AI TV (OL (EI ((i64.wrap (j+1)),(List.set l5_2 (Int.toNat (i64.wrap ((i64.wrap (i*(i64.wrap ((i64.wrap (Int.tdiv (i64.wrap ((rd 0 a.1 1)-(rd 0 k.1 2))) step))+1))))+j))) q24_9)) (AI q (E4 (iuR [1,2,3,4,6,7]) (R9 (AI (R4 TV) (R6 TV)))))))
      cases sE q
      refine E4 I6 (R8 (AI (R4 TV) (R6 TV)))
     refine AI (EI ((i64.wrap (i+1)),z50) (AI q (E4 I6 (R8 (AI (R4 TV) (R6 TV)))))) TV
    cases sE q
    refine E4 (iuR [3,4,5,6]) (AI rfl (AI (R2 TV) (R4 TV)))
   refine AI (OL (OL ?_)) TV
   cases sE q
   refine AI rfl (E4 (iuR [3,4]) (R2 (AJ (R2 TV))))
  dsimp only [Fz] at q
  refine AI ?_ TV
  cases sE q
  refine AI rfl (E4 (iuR [0,0]) (R2 (AJ (R2 TV))))
 dsimp only [Fz] at q
 refine AI ?_ TV
 cases sE q
 refine AI rfl (E4 (iuR [0,0]) (R2 (AJ (R2 TV))))
theorem H108:HI C108 108:=hI Tryz.f108 rfl fun x=>V108 x.1 x.2.1 x.2.2
def f45_j3 (a:Fx) (w:Int):Option Bool:=
 bif (decide (w<1)) then
 some true
 else
 E9 (0≤(1:Int)∧1<(a.1.length:Int))<|
 some (decide (w>(rd 0 a.1 1)))
def f45_j2 (a:Fx) (w:Int):Option (Sum Unit Unit):=
 Ey (f45_j3 a w) fun z4=>
 bif z4 then
 some (Sum.inr ())
 else
 some (Sum.inl ())
def f45_l16 (a:Fx) (w x_ j:Int) (go:Gm→Option Int) (best y_:Int):Option Int:=
 bif (decide (y_<w)) then
 E9 (0≤(i64.wrap ((i64.wrap ((i64.wrap (x_*(rd 0 a.1 1)))+(i64.wrap (j*w))))+y_))∧(i64.wrap ((i64.wrap ((i64.wrap (x_*(rd 0 a.1 1)))+(i64.wrap (j*w))))+y_))<a.2.length)<|
 E9 (0≤best∧best<a.2.length)<|
 bif (decide ((rd 0 a.2 (i64.wrap ((i64.wrap ((i64.wrap (x_*(rd 0 a.1 1)))+(i64.wrap (j*w))))+y_)))>(rd 0 a.2 best))) then
 go ((i64.wrap ((i64.wrap ((i64.wrap (x_*(rd 0 a.1 1)))+(i64.wrap (j*w))))+y_)),(i64.wrap (y_+1)))
 else
 go (best,(i64.wrap (y_+1)))
 else
 some best
def f45_l15 (a:Fx) (w x_:Int) (go:Gl→Option Fx) (j:Int) (l3_2 l5_2:LI):Option Fx:=
 bif (decide (j<(i64.wrap (Int.tdiv (rd 0 a.1 1) w)))) then
 Ey (Fp (fun go x=>f45_l16 a w x_ j go x.1 x.2) Fv ((i64.wrap ((i64.wrap (x_*(rd 0 a.1 1)))+(i64.wrap (j*w)))),(1:Int))) fun z17=>
 E9 (0≤z17∧z17<a.2.length)<|
 E9 (0≤(i64.wrap ((i64.wrap (x_*(i64.wrap (Int.tdiv (rd 0 a.1 1) w))))+j))∧(i64.wrap ((i64.wrap (x_*(i64.wrap (Int.tdiv (rd 0 a.1 1) w))))+j))<l5_2.length)<|
 E9 ((l3_2.length+List.length ([z17]))*8≤140737488355328)<|
 go ((i64.wrap (j+1)),(l3_2++([z17])),(List.set l5_2 (Int.toNat (i64.wrap ((i64.wrap (x_*(i64.wrap (Int.tdiv (rd 0 a.1 1) w))))+j))) (rd 0 a.2 z17)))
 else
 some (l3_2,l5_2)
def f45_l12 (a:Fx) (w:Int) (go:Gl→Option Fx) (x_:Int) (l3 l5:LI):Option Fx:=
 bif (decide (x_<(rd 0 a.1 0))) then
 Ey (Fp (fun go x=>f45_l15 a w x_ go x.1 x.2.1 x.2.2) Fv ((0:Int),l3,l5)) fun z16=>
 go ((i64.wrap (x_+1)),z16.1,z16.2)
 else
 some (l3,l5)
def f45 (a:Fx) (w:Int):Option (Int×LI×Fx):=
 Ey (f32 (a.1,a.2)) fun r1=>
 bif (!r1) then
 some ((1:Int),[],[],[])
 else
 bif ((a.1.length:Int) != 2) then
 some ((4:Int),[],[],[])
 else
 Ey (f45_j2 a w) fun z3=>
 Fz z3 (fun z3a=>
 E9 (0≤(0:Int)∧0<(a.1.length:Int))<|
 E9 (0≤(1:Int)∧1<(a.1.length:Int))<|
 E9 (w≠0)<|
 Ey (f11 ([(rd 0 a.1 0),(i64.wrap (Int.tdiv (rd 0 a.1 1) w))]) (0:Int)) fun q7_9=>
 Ey (Fp (fun go x=>f45_l12 a w go x.1 x.2.1 x.2.2) Fv ((0:Int),[],q7_9.2)) fun z13=>
 some ((0:Int),q7_9.1,z13.2,z13.1)) (fun z3b=>
 some ((1:Int),[],[],[]))
def C45:Con:=⟨Fx×Int,Int×LI×Fx,0,fun x=>[.dat T3 x.1,.dat T2 x.2],NX,fun x=>f45 x.1 x.2,fun y=>[.raw true [(.osl 0),(.osl 1)],O0 2,.dat T2 y.1],fun y=>[(0,.arr 3 T2 y.2.1),(1,.arr 42 T2 y.2.2.1),(2,.arr 3 T2 y.2.2.2)],3⟩
theorem V45 a w y (q:f45 a w=some y):VC Tryz.f45 C45 (a,w) y:=by
 unfold f45 at q
 refine OL (OL (OL ?_))
 obtain ⟨r1,h,q⟩:=bE q
 refine OL (cA H32 (a.1,a.2) h rfl (R2 (K0 (cI q (fun q=>?_) (fun q=>?_)))))
 ·refine OL (OL ?_)
  cases sE q
  refine AI rfl (E4 (iuR [0,0,0]) (R2 (AI (R2 TV) (R3 TV))))
 refine OL (OL (cI q (fun q=>?_) (fun q=>?_)))
 ·refine OL (OL ?_)
  cases sE q
  refine AI rfl (E4 (iuR [0,0,0]) (R2 (AI (R2 TV) (R3 TV))))
 obtain ⟨z3,hz3,q⟩:=bE q
 let e0:LE:=fun zz=>(1,.dat T2 w)::(2,P0 0 0)::(4,P0 1 0)::zz
 let h1:LH:=fun zz=>(0,.cells [(.d T1 a.1),(.d T1 a.2)])::(1,.cells [N0,N0])::zz
 refine OQ ⟨Sum.elim (fun z3a=>[(0,⟨e0 [],h1 [],2⟩)]) (fun z3b=>[(1,⟨[(4,P0 0 0),(5,.raw false [N0]),(6,D0 1)],[(0,.cells [N0,N0])],1⟩)]) z3,?_,?_⟩
 ·have q:=hz3
  clear hz3
  unfold f45_j2 at q
  obtain ⟨z4,hz4,q⟩:=bE q
  refine OQ ⟨[(0,⟨e0 [(34,.dat .bool z4)],h1 [],2⟩)],?_,?_⟩
  ·have q:=hz4
   clear hz4
   unfold f45_j3 at q
   refine cN q (fun q=>?_) (fun q=>?_)
   ·refine gY (gY (gY (gI q (fun q=>?_))))
    refine gY (gY (cF ?_))
    cases sE q
    refine E4 I2 (R3 (AI (R2 TV) (R2 TV)))
   refine gN (gN (gN (gN (gN (cT ?_)))))
   cases sE q
   refine E4 I2 (R3 (AI (R2 TV) (R2 TV)))
  refine AI (cI q (fun q=>?_) (fun q=>?_)) TV
  ·refine OL (OL ?_)
   cases sE q
   refine E4 (iuR [2]) (R2 (AI (R2 TV) (AI rfl TV)))
  cases sE q
  refine E4 I2 (R2 (AI (R2 TV) (R2 TV)))
 rcases z3 with z3a | z3b
 ·dsimp only [Fz] at q
  refine AI (OL (EI (tU 0 10 .done) (EI [] (EI [] (AI rfl (gI q (fun q=>?_))))))) TV
  refine gI q (fun q=>?_)
  refine OL (gI q (fun q=>?_))
  refine OL (OL ?_)
  obtain ⟨q7_9,h,q⟩:=bE q
  refine OL (cD H11 ([(rd 0 a.1 0),(i64.wrap (Int.tdiv (rd 0 a.1 1) w))],(0:Int)) h rfl (R2 (AI (fun _=>rfl) (R2 (AI TV (AI TV (OL (OL (OL (OL ?_))))))))))
  obtain ⟨z13,hz13,q⟩:=bE q
  let e2:LE:=fun zz=>e0 ((7,.dat T2 (rd 0 a.1 0))::(8,.dat T2 (rd 0 a.1 1))::(9,.dat T2 (i64.wrap (Int.tdiv (rd 0 a.1 1) w)))::(10,P0 2 0)::(11,O0 3)::zz)
  let h3:LH:=fun zz=>h1 ((2,.cells [(.osl 4),(.osl 5)])::zz)
  refine lJ hz13 (fun x=>⟨e2 [(12,.dat T2 x.1)],h3 [(3,.arr 3 T2 x.2.1),(4,.arr 3 T2 q7_9.1),(5,.arr 42 T2 x.2.2)],6⟩) (fun z=>[(2,⟨[(4,P0 0 0),(10,P0 1 0),(11,O0 2)],[(0,.cells [N0,N0]),(1,.cells [(.osl 3),(.osl 4)]),(2,.arr 3 T2 z.1),(3,.arr 3 T2 q7_9.1),(4,.arr 42 T2 z.2)],5⟩)]) (E4 (iuR [1,2,6,0,4,5]) (R6 (AI (R4 TV) (R6 TV)))) (fun m=>F6 (fun x_=>F6 (fun l3=>fun l5 z q=>?_))) ?_
  ·have q:f45_l12 a w _ x_ l3 l5=some z:=q
   unfold f45_l12 at q
   refine OL (OL (cI q (fun q=>?_) (fun q=>?_)))
   ·refine OL (OL ?_)
    obtain ⟨z16,h,q⟩:=bE q
    refine lJ h (fun x=>⟨e2 [(12,.dat T2 x_),(13,.dat T2 x.1)],h3 [(3,.arr 3 T2 x.2.1),(4,.arr 3 T2 q7_9.1),(5,.arr 42 T2 x.2.2)],6⟩) (fun z=>[(4,⟨e2 [(12,.dat T2 x_)],h3 [(3,.arr 3 T2 z.1),(4,.arr 3 T2 q7_9.1),(5,.arr 42 T2 z.2)],6⟩)]) (E4 I6 (R7 (AI (R4 TV) (R6 TV)))) (fun m=>F6 (fun j=>F6 (fun l3_2=>fun l5_2 z q=>?_))) ?_
    ·have q:f45_l15 a w x_ _ j l3_2 l5_2=some z:=q
     unfold f45_l15 at q
     refine OL (OL (cI q (fun q=>?_) (fun q=>?_)))
     ·refine OL (OL (OL (OL ?_)))
      obtain ⟨z17,hz17,q⟩:=bE q
      let h4:LH:=fun zz=>h3 ((3,.arr 3 T2 l3_2)::(4,.arr 3 T2 q7_9.1)::(5,.arr 42 T2 l5_2)::zz)
      refine lJ hz17 (fun x=>⟨e2 [(12,.dat T2 x_),(13,.dat T2 j),(14,.dat T2 x.1),(15,.dat T2 x.2)],h4 [],6⟩) (fun z=>[(6,⟨e2 [(12,.dat T2 x_),(13,.dat T2 j),(14,.dat T2 z)],h4 [],6⟩)]) (E4 I6 (R9 (AI (R4 TV) (R6 TV)))) (fun m=>F6 (fun best=>fun y_ z q=>?_)) ?_
      ·have q:f45_l16 a w x_ j _ best y_=some z:=q
       unfold f45_l16 at q
       refine OL (OL (cI q (fun q=>?_) (fun q=>?_)))
       ·refine OL (OL (EI (tU 0 19 .done) (EI [] (EI [] (AI rfl (gI q (fun q=>?_)))))))
        refine gI q (fun q=>?_)
        refine cI q (fun q=>?_) (fun q=>?_)
        ·refine EI ((i64.wrap ((i64.wrap ((i64.wrap (x_*(rd 0 a.1 1)))+(i64.wrap (j*w))))+y_)),(i64.wrap (y_+1))) (AI q (E4 I6 (R9 (AI (R4 TV) (R6 TV)))))
        refine EI (best,(i64.wrap (y_+1))) (AI q (E4 I6 (R9 (AI (R4 TV) (R6 TV)))))
       cases sE q
       refine E4 I6 (R8 (AI (R4 TV) (R6 TV)))
      refine AI (OL (EI (tU 0 13 (.alt 13 .done .done)) (EI [] (EI [] (AI rfl (gI q (fun q=>?_))))))) TV
      refine gI q (fun q=>?_)
      refine AI TV (OL (OL (OL (gI q (fun q=>?_)))))
      refine EI ((i64.wrap (j+1)),(l3_2++([z17])),(List.set l5_2 (Int.toNat (i64.wrap ((i64.wrap (x_*(i64.wrap (Int.tdiv (rd 0 a.1 1) w))))+j))) (rd 0 a.2 z17))) (AI q (E4 (iuR [1,2,3,8,5,6]) (R7 (AI (R4 TV) (R6 TV)))))
     cases sE q
     refine E4 I6 (R6 (AI (R4 TV) (R6 TV)))
    refine AI (EI ((i64.wrap (x_+1)),z16.1,z16.2) (AI q (E4 I6 (R6 (AI (R4 TV) (R6 TV)))))) TV
   cases sE q
   refine E4 (iuR [2,3,4,5,6]) (AI rfl (AI (R3 TV) (R5 TV)))
  refine AI (OL (OL ?_)) TV
  cases sE q
  refine AI rfl (E4 (iuR [4,5,3]) (R2 (AI (R2 TV) (R3 TV))))
 dsimp only [Fz] at q
 refine AI ?_ TV
 cases sE q
 refine AI rfl (E4 (iuR [0,0,0]) (R2 (AI (R2 TV) (R3 TV))))
theorem H45:HI C45 45:=hI Tryz.f45 rfl fun x=>V45 x.1 x.2
def f46_j3 (a:Fx) (d:LI):Option Bool:=
 Ey (f32 (a.1,a.2)) fun r9=>
 bif (!r9) then
 some true
 else
 Ey (f67 d) fun r10=>
 some (!r10)
def f46_j2 (a:Fx) (d:LI):Option (Sum Unit Unit):=
 Ey (f46_j3 a d) fun z8=>
 bif z8 then
 some (Sum.inr ())
 else
 some (Sum.inl ())
def f46 (a:Fx) (d:LI):Option Gl:=
 Ey (f46_j2 a d) fun z5=>
 Fz z5 (fun z5a=>
 Ey (f27 d) fun q3_1=>
 bif (q3_1 != a.2.length) then
 some ((4:Int),[],[])
 else
 E9 ((List.length ([]:LI)+d.length)*8≤140737488355328)<|
 E9 ((List.length ([]:LI)+a.2.length)*8≤140737488355328)<|
 some ((0:Int),(([]:LI)++d),(([]:LI)++a.2))) (fun z5b=>
 some ((1:Int),[],[]))
def C46:Con:=⟨Fx×LI,Gl,0,fun x=>[.dat T3 x.1,.dat T1 x.2],NX,fun x=>f46 x.1 x.2,fun y=>[.raw true [(.osl 0),(.osl 1)],.dat T2 y.1],fun y=>[(0,.arr 3 T2 y.2.1),(1,.arr 42 T2 y.2.2)],2⟩
theorem V46 a d y (q:f46 a d=some y):VC Tryz.f46 C46 (a,d) y:=by
 unfold f46 at q
 refine OL ?_
 obtain ⟨z5,hz5,q⟩:=bE q
 refine OQ ⟨Sum.elim (fun z5a=>[(0,⟨[(1,.dat T1 d),(2,P0 0 0),(4,P0 1 0)],[(0,.cells [(.d T1 a.1),(.d T1 a.2)]),(1,.cells [N0,N0])],2⟩)]) (fun z5b=>[(1,⟨[(4,P0 0 0),(5,D0 1)],[(0,.cells [N0,N0])],1⟩)]) z5,?_,?_⟩
 ·have q:=hz5
  clear hz5
  unfold f46_j2 at q
  obtain ⟨z8,hz8,q⟩:=bE q
  refine OQ ⟨[(0,⟨[(1,.dat T1 d),(2,P0 0 0),(4,P0 1 0),(13,.dat .bool z8)],[(0,.cells [(.d T1 a.1),(.d T1 a.2)]),(1,.cells [N0,N0])],2⟩)],?_,?_⟩
  ·have q:=hz8
   clear hz8
   unfold f46_j3 at q
   obtain ⟨r9,h,q⟩:=bE q
   refine OL (cA H32 (a.1,a.2) h rfl (R2 (K0 (cN q (fun q=>?_) (fun q=>?_)))))
   ·refine gY ?_
    obtain ⟨r10,h,q⟩:=bE q
    refine OL (cA H67 d h rfl (AI rfl (K0 (gY (cF ?_)))))
    cases sE q
    refine E4 I2 (R3 (AI (R2 TV) (R2 TV)))
   refine gN (gN (cT ?_))
   cases sE q
   refine E4 I2 (R3 (AI (R2 TV) (R2 TV)))
  refine AI (cI q (fun q=>?_) (fun q=>?_)) TV
  ·refine OL (OL ?_)
   cases sE q
   refine E4 (iuR [2]) (R2 (AJ (AI rfl TV)))
  cases sE q
  refine E4 I2 (R2 (AI (R2 TV) (R2 TV)))
 rcases z5 with z5a | z5b
 ·dsimp only [Fz] at q
  refine AI (OL (OL (EI (.take 0 (tU 2 3 (.alt 1 (.take 5 .done) .done))) (EI [] (EI [] (AI rfl (AI TV ?_))))))) TV
  obtain ⟨q3_1,h,q⟩:=bE q
  refine OL (cA H27 d h rfl (AI rfl (K0 (cI q (fun q=>?_) (fun q=>?_)))))
  ·refine OL (OL ?_)
   cases sE q
   refine AI rfl (E4 (iuR [0,0]) (R2 (AJ (R2 TV))))
  refine OL ?_
  obtain ⟨g5_0,q⟩:=gE q
  obtain ⟨g5_1,q⟩:=gE q
  refine EI (.take 1 (.take 4 (.take 5 (.alt 0 (.alt 2 (.alt 3 (.alt 6 (.take 7 (.alt 8 (.take 9 .done) .done)) .done) .done) (.alt 3 (.alt 2 (.alt 6 (.take 7 (.alt 8 (.take 9 .done) .done)) .done) .done) .done)) (.alt 3 (.alt 0 (.alt 2 (.alt 6 (.take 7 (.alt 8 (.take 9 .done) .done)) .done) .done) .done) .done))))) (EI [] (EI [] (AI rfl (AI (AI TV ?_) ?_))))
  ·refine OL (AI TV (OL (AI TV (OL (AI g5_0 (AI TV (OL (AI g5_1 (AI TV (OL ?_))))))))))
   cases sE q
   refine AI rfl (E4 (iuR [5,6]) (R2 (AJ (R2 TV))))
  refine OL (AI (AI TV ?_) ?_)
  ·refine OL (AI TV (OL (AI g5_0 (AI TV (OL (AI g5_1 (AI TV (OL ?_))))))))
   cases sE q
   refine AI rfl (E4 (iuR [5,6]) (R2 (AJ (R2 TV))))
  refine OL (AI g5_0 (AI TV (OL (AI TV (OL (AI g5_1 (AI TV (OL ?_))))))))
  cases sE q
  refine AI rfl (E4 (iuR [4,6]) (R2 (AJ (R2 TV))))
 dsimp only [Fz] at q
 refine AI ?_ TV
 cases sE q
 refine AI rfl (E4 (iuR [0,0]) (R2 (AJ (R2 TV))))
theorem H46:HI C46 46:=hI Tryz.f46 rfl fun x=>V46 x.1 x.2
def f56_j4 (op:Int):Option Bool:=
 bif (op==2) then
 some (op==2)
 else
 bif (op==3) then
 some (op==3)
 else
 some (op==4)
def f56_j5 (a:Fx) (k:Int):Option Gl:=
 Ey (f103 k) fun q23_2=>
 Ey (f45 (a.1,a.2) q23_2) fun q23_3=>
 some (q23_3.1,q23_3.2.1,q23_3.2.2.1)
def f56_j3 (op:Int) (a b:Fx) (k:Int):Option (Sum Unit Gl):=
 Ey (f56_j4 op) fun z11=>
 bif z11 then
 Ey (f25 (i64.wrap (op-2)) (a.1,a.2) (b.1,b.2)) fun q23_11=>
 some (Sum.inr (q23_11.1,q23_11.2.1,q23_11.2.2))
 else
 bif (op==5) then
 Ey (f34 (a.1,a.2) k) fun r12=>
 some (Sum.inr (r12.1,r12.2.1,r12.2.2))
 else
 bif (op==6) then
 Ey (f36 (a.1,a.2) (b.1,b.2)) fun r13=>
 some (Sum.inr (r13.1,r13.2.1,r13.2.2))
 else
 bif (op==7) then
 Ey (f35 (a.1,a.2)) fun r14=>
 some (Sum.inr (r14.1,r14.2.1,r14.2.2))
 else
 bif (op==8) then
 Ey (f103 k) fun q13_2=>
 Ey (f102 (a.1,a.2) q13_2) fun q13_3=>
 some (Sum.inr (q13_3.1,q13_3.2.1,q13_3.2.2))
 else
 bif (op==9) then
 Ey (f105 (a.1,a.2)) fun q13_7=>
 Ey (f104 q13_7) fun r15=>
 some (Sum.inr ((0:Int),r15.1,r15.2))
 else
 bif (op==10) then
 Ey (f106 (a.1,a.2)) fun r16=>
 Ey (f104 r16) fun r17=>
 some (Sum.inr ((0:Int),r17.1,r17.2))
 else
 bif (op==11) then
 Ey (f103 k) fun q19_1=>
 Ey (f107 q19_1 (a.1,a.2)) fun q19_3=>
 some (Sum.inr (q19_3.1,q19_3.2.1,q19_3.2.2))
 else
 bif (op==12) then
 Ey (f103 k) fun q21_3=>
 Ey (f108 (a.1,a.2) (b.1,b.2) q21_3) fun q21_4=>
 some (Sum.inr (q21_4.1,q21_4.2.1,q21_4.2.2))
 else
 bif (op==13) then
 Ey (f56_j5 a k) fun z18=>
 some (Sum.inr (z18.1,z18.2.1,z18.2.2))
 else
 some (Sum.inl ())
def f56 (op:Int) (a b:Fx) (k:Int):Option Gl:=
 Ey (f56_j3 op a b k) fun z10=>
 Fz z10 (fun z10a=>
 Ey (f46 (a.1,a.2) ([(a.2.length:Int)])) fun r19=>
 some (r19.1,r19.2.1,r19.2.2)) (fun z10b=>
 some (z10b.1,z10b.2.1,z10b.2.2))
def C56:Con:=⟨Int×Fx×Fx×Int,Gl,0,fun x=>[.dat T2 x.1,.dat T3 x.2.1,.dat T3 x.2.2.1,.dat T2 x.2.2.2],NX,fun x=>f56 x.1 x.2.1 x.2.2.1 x.2.2.2,fun y=>[.raw true [(.osl 0),(.osl 1)],.dat T2 y.1],fun y=>[(0,.arr 3 T2 y.2.1),(1,.arr 42 T2 y.2.2)],2⟩
theorem V56 op a b k y (q:f56 op a b k=some y):VC Tryz.f56 C56 (op,a,b,k) y:=by
 unfold f56 at q
 refine OL ?_
 obtain ⟨z10,hz10,q⟩:=bE q
 refine OQ ⟨Sum.elim (fun z10a=>[(0,⟨[(5,P0 0 0),(8,P0 1 0)],[(0,.cells [(.d T1 a.1),(.d T1 a.2)]),(1,.cells [N0,N0])],2⟩)]) (fun z10b=>[(1,⟨[(8,P0 0 0),(9,.dat T2 z10b.1)],[(0,.cells [(.osl 1),(.osl 2)]),(1,.arr 3 T2 z10b.2.1),(2,.arr 42 T2 z10b.2.2)],3⟩)]) z10,?_,?_⟩
 ·have q:=hz10
  clear hz10
  unfold f56_j3 at q
  refine OL ?_
  obtain ⟨z11,hz11,q⟩:=bE q
  refine OQ ⟨[(0,⟨[(0,.dat T2 op),(3,.dat T2 k),(5,P0 0 0),(6,P0 1 0),(8,P0 2 0),(13,.dat T2 op),(14,.dat .bool z11)],[(0,.cells [(.d T1 a.1),(.d T1 a.2)]),(1,.cells [(.d T1 b.1),(.d T1 b.2)]),(2,.cells [N0,N0])],3⟩)],?_,?_⟩
  ·have q:=hz11
   clear hz11
   unfold f56_j4 at q
   refine OL (cI q (fun q=>?_) (fun q=>?_))
   ·cases sE q
    refine E4 I3 (R5 (AI (R3 TV) (R3 TV)))
   refine OL (cI q (fun q=>?_) (fun q=>?_))
   ·cases sE q
    refine E4 I3 (R5 (AI (R3 TV) (R3 TV)))
   cases sE q
   refine E4 I3 (R5 (AI (R3 TV) (R3 TV)))
  refine AI (cI q (fun q=>?_) (fun q=>?_)) TV
  ·refine OL ?_
   obtain ⟨q23_11,h,q⟩:=bE q
   refine OL (cA H25 ((i64.wrap (op-2)),(a.1,a.2),(b.1,b.2)) h rfl (R5 (K0 (OL ?_))))
   cases sE q
   refine E4 (iuR [3,4,5]) (R2 (AJ (R3 TV)))
  refine OL (cI q (fun q=>?_) (fun q=>?_))
  ·refine OL ?_
   obtain ⟨r12,h,q⟩:=bE q
   refine OL (cA H34 ((a.1,a.2),k) h rfl (R3 (K0 (OL ?_))))
   cases sE q
   refine E4 (iuR [3,4,5]) (R2 (AJ (R3 TV)))
  refine OL (cI q (fun q=>?_) (fun q=>?_))
  ·refine OL ?_
   obtain ⟨r13,h,q⟩:=bE q
   refine OL (cA H36 ((a.1,a.2),(b.1,b.2)) h rfl (R4 (K0 (OL ?_))))
   cases sE q
   refine E4 (iuR [3,4,5]) (R2 (AJ (R3 TV)))
  refine OL (cI q (fun q=>?_) (fun q=>?_))
  ·refine OL ?_
   obtain ⟨r14,h,q⟩:=bE q
   refine OL (cA H35 (a.1,a.2) h rfl (R2 (K0 (OL ?_))))
   cases sE q
   refine E4 (iuR [3,4,5]) (R2 (AJ (R3 TV)))
  refine OL (cI q (fun q=>?_) (fun q=>?_))
  ·refine OL (EI (.take 0 (.take 1 (.alt 2 (.alt 3 (.take 4 (.take 5 (.alt 6 (.take 7 .done) .done))) .done) .done))) (EI [] (EI [] (AI rfl (AI TV ?_)))))
   obtain ⟨q13_2,h,q⟩:=bE q
   refine OL (cA H103 k h rfl (AI rfl (K0 (AI TV ?_))))
   obtain ⟨q13_3,h,q⟩:=bE q
   refine OL (cA H102 ((a.1,a.2),q13_2) h rfl (R3 (K0 (AI TV (OL ?_)))))
   cases sE q
   refine E4 (iuR [3,4,5]) (R2 (AJ (R3 TV)))
  refine OL (cI q (fun q=>?_) (fun q=>?_))
  ·refine OL ?_
   obtain ⟨q13_7,h,q⟩:=bE q
   refine OL (cA H105 (a.1,a.2) h rfl (R2 (K0 ?_)))
   obtain ⟨r15,h,q⟩:=bE q
   refine OL (cA H104 q13_7 h rfl (AI rfl (K0 (OL ?_))))
   cases sE q
   refine E4 (iuR [3,4,5]) (R2 (AJ (R3 TV)))
  refine OL (cI q (fun q=>?_) (fun q=>?_))
  ·refine OL ?_
   obtain ⟨r16,h,q⟩:=bE q
   refine OL (cA H106 (a.1,a.2) h rfl (R2 (K0 ?_)))
   obtain ⟨r17,h,q⟩:=bE q
   refine OL (cA H104 r16 h rfl (AI rfl (K0 (OL ?_))))
   cases sE q
   refine E4 (iuR [3,4,5]) (R2 (AJ (R3 TV)))
  refine OL (cI q (fun q=>?_) (fun q=>?_))
  ·refine OL (EI (.take 0 (.take 2 (.alt 1 (.alt 3 (.take 4 (.take 5 (.alt 6 (.take 7 .done) .done))) .done) .done))) (EI [] (EI [] (AI rfl (AI TV ?_)))))
   obtain ⟨q19_1,h,q⟩:=bE q
   refine OL (cA H103 k h rfl (AI rfl (K0 (AI TV ?_))))
   obtain ⟨q19_3,h,q⟩:=bE q
   refine OL (cA H107 (q19_1,(a.1,a.2)) h rfl (R3 (K0 (AI TV (OL ?_)))))
   cases sE q
   refine E4 (iuR [3,4,5]) (R2 (AJ (R3 TV)))
  refine OL (cI q (fun q=>?_) (fun q=>?_))
  ·refine OL (EI (tU 0 3 (.alt 3 (.alt 4 (.take 5 (.take 6 (.alt 7 (.take 8 .done) .done))) .done) .done)) (EI [] (EI [] (AI rfl (AI TV ?_)))))
   obtain ⟨q21_3,h,q⟩:=bE q
   refine OL (cA H103 k h rfl (AI rfl (K0 (AI TV ?_))))
   obtain ⟨q21_4,h,q⟩:=bE q
   refine OL (cA H108 ((a.1,a.2),(b.1,b.2),q21_3) h rfl (R5 (K0 (AI TV (OL ?_)))))
   cases sE q
   refine E4 (iuR [3,4,5]) (R2 (AJ (R3 TV)))
  refine OL (cI q (fun q=>?_) (fun q=>?_))
  ·obtain ⟨z18,hz18,q⟩:=bE q
   refine OQ ⟨[(0,⟨[(8,P0 0 0),(10,P0 1 0),(12,.dat T2 z18.1)],[(0,.cells [N0,N0]),(1,.cells [(.osl 2),(.osl 3)]),(2,.arr 3 T2 z18.2.1),(3,.arr 42 T2 z18.2.2)],4⟩)],?_,?_⟩
   ·have q:=hz18
    clear hz18
    unfold f56_j5 at q
    obtain ⟨q23_2,hq23_2,q⟩:=bE q
    obtain ⟨q23_3,hq23_3,q⟩:=bE q
    refine EI (.take 0 (.take 1 (.alt 2 (.alt 3 (tU 4 4 (.alt 8 (.alt 9 (.take 10 (.take 11 .done)) .done) .done)) (.alt 8 (.alt 3 (tU 4 4 (.alt 9 (.take 10 (.take 11 .done)) .done)) .done) .done)) (.alt 8 (.alt 2 (.alt 3 (tU 4 4 (.alt 9 (.take 10 (.take 11 .done)) .done)) .done) .done) .done)))) (EI [] (EI [] (AI rfl (AI (AI TV ?_) ?_))))
    ·refine AI TV (OL (cA H103 k hq23_2 rfl (AI rfl (K0 (AI TV (OL (cA H45 ((a.1,a.2),q23_2) hq23_3 rfl (R3 (K0 (AI TV (OL ?_)))))))))))
     cases sE q
     refine E4 (iuR [3,4,5,6]) (R2 (AI (R2 TV) (R4 TV)))
    refine OL (cA H103 k hq23_2 rfl (AI rfl (K0 (AI (AI TV ?_) ?_))))
    ·refine AI TV (OL (cA H45 ((a.1,a.2),q23_2) hq23_3 rfl (R3 (K0 (AI TV (OL ?_))))))
     cases sE q
     refine E4 (iuR [3,4,5,6]) (R2 (AI (R2 TV) (R4 TV)))
    refine OL (cA H45 ((a.1,a.2),q23_2) hq23_3 rfl (R3 (K0 (AI TV (AI TV (OL ?_))))))
    cases sE q
    refine E4 (iuR [3,7,4,5]) (R2 (AI (R2 TV) (R4 TV)))
   refine AI (OL (OL ?_)) TV
   cases sE q
   refine E4 (iuR [1,3,4]) (R2 (AJ (R3 TV)))
  cases sE q
  refine E4 (iuR [1,3]) (AI rfl (AI (R2 TV) (R2 TV)))
 rcases z10 with z10a | z10b
 ·dsimp only [Fz] at q
  refine AI (OL (OL ?_)) TV
  obtain ⟨r19,h,q⟩:=bE q
  refine OL (cD H46 ((a.1,a.2),[(a.2.length:Int)]) h rfl (R3 (AI (fun _=>rfl) (R2 (AI TV (AI TV (OL ?_)))))))
  cases sE q
  refine AI rfl (E4 (iuR [4,5]) (R2 (AJ (R2 TV))))
 dsimp only [Fz] at q
 refine AI ?_ TV
 cases sE q
 refine AI rfl (E4 (iuR [2,3]) (R2 (AJ (R2 TV))))
theorem H56:HI C56 56:=hI Tryz.f56 rfl fun x=>V56 x.1 x.2.1 x.2.2.1 x.2.2.2
def f19_j1 (t_L:NL) (op a b:Int):Option (Sum Unit Unit):=
 bif (decide (op<2)) then
 some (Sum.inr ())
 else
 bif (decide (op>14)) then
 some (Sum.inr ())
 else
 bif (decide (a<0)) then
 some (Sum.inr ())
 else
 bif (decide (a≥t_L.length)) then
 some (Sum.inr ())
 else
 Ey (f54 op) fun r3=>
 bif r3 then
 bif (decide (b<0)) then
 some (Sum.inr ())
 else
 bif (decide (b≥t_L.length)) then
 some (Sum.inr ())
 else
 some (Sum.inl ())
 else
 some (Sum.inl ())
def f19_j2 (t_L:NL) (op b:Int):Option Gl:=
 Ey (f54 op) fun r6=>
 bif r6 then
 E9 (0≤b∧b<t_L.length)<|
 some (b,(((((rd (Ty.z T0) t_L b).2).2).2).2).1,(((((rd (Ty.z T0) t_L b).2).2).2).2).2)
 else
 some ((-1:Int),[],[])
def f19_j3 (op k:Int):Option Int:=
 Ey (f55 op) fun r9=>
 bif r9 then
 some k
 else
 some (0:Int)
def f19_j4 (t_L:NL) (op a:Int) (z5:Gl) (z8:Int):Option Gl:=
 E9 (0≤a∧a<t_L.length)<|
 Ey (f56 op ((((((rd (Ty.z T0) t_L a).2).2).2).2).1,(((((rd (Ty.z T0) t_L a).2).2).2).2).2) (z5.2.1,z5.2.2) z8) fun q12_12=>
 some (q12_12.1,q12_12.2.1,q12_12.2.2)
def f19 (t_L:NL) (op a b k:Int):Option (Int×Int×NL):=
 bif (decide ((t_L.length:Int)≥512)) then
 some ((0:Int),(2:Int),t_L)
 else
 Ey (f19_j1 t_L op a b) fun z2=>
 Fz z2 (fun z2a=>
 Ey (f19_j2 t_L op b) fun z5=>
 Ey (f19_j3 op k) fun z8=>
 Ey (f19_j4 t_L op a z5 z8) fun z10=>
 bif (z10.1 != 0) then
 some ((0:Int),z10.1,t_L)
 else
 E9 ((t_L.length+List.length ([(op,a,z5.1,z8,z10.2.1,z10.2.2)]))*80≤140737488355328)<|
 some ((i64.wrap ((List.length (t_L++([(op,a,z5.1,z8,z10.2.1,z10.2.2)])):Int)-1)),(0:Int),(t_L++([(op,a,z5.1,z8,z10.2.1,z10.2.2)])))) (fun z2b=>
 some ((0:Int),(1:Int),t_L))
def C19:Con:=⟨NL×PTz2,Int×Int×NL,2,fun x=>[P0 0 0,.dat T2 x.2.1,.dat T2 x.2.2.1,.dat T2 x.2.2.2.1,.dat T2 x.2.2.2.2],fun x=>[(0,.cells [(.osl 1)]),(1,.arr 44 T0 x.1)],fun x=>f19 x.1 x.2.1 x.2.2.1 x.2.2.2.1 x.2.2.2.2,fun y=>[.dat T2 y.1,.dat T2 y.2.1],fun y=>[(0,.cells [(.osl 2)]),(2,.arr 44 T0 y.2.2)],3⟩
theorem V19 t_L op a b k y (q:f19 t_L op a b k=some y):VE Tryz.f19 2 C19 (t_L,op,a,b,k) y:=by
 unfold f19 at q
 refine OL (OL (OL (cI q (fun q=>?_) (fun q=>?_))))
 ·cases sE q
  refine OL (AI rfl (E4 [(0,some 0),(2,some 1)] (R3 (AI TV (R2 TV)))))
 obtain ⟨z2,hz2,q⟩:=bE q
 let e0:LE:=fun zz=>(0,P0 0 0)::(1,.dat T2 op)::(2,.dat T2 a)::zz
 let h1:LH:=fun zz=>(0,.cells [(.osl 1)])::(1,.arr 44 T0 t_L)::zz
 refine OQ ⟨Sum.elim (fun z2a=>[(0,⟨e0 [(3,.dat T2 b),(4,.dat T2 k)],h1 [],2⟩)]) (fun z2b=>[(1,⟨[(10,D0 0),(11,D0 1)],h1 [],2⟩)]) z2,?_,?_⟩
 ·have q:=hz2
  clear hz2
  unfold f19_j1 at q
  refine OL (cN q (fun q=>?_) (fun q=>?_))
  ·refine gY (cF (cN q (fun q=>?_) (fun q=>?_)))
   ·refine gY (cF (cN q (fun q=>?_) (fun q=>?_)))
    ·refine gY (gY (gY (gY (gY (gY (cF (cN q (fun q=>?_) (fun q=>?_))))))))
     ·refine gY ?_
      obtain ⟨r3,h,q⟩:=bE q
      refine OL (cA H54 op h rfl (AI rfl (K0 (gY (cI q (fun q=>?_) (fun q=>?_))))))
      ·refine gX (gX (cN q (fun q=>?_) (fun q=>?_)))
       ·refine gY (gY (gY (gY (gY (gY (gX (cF (gY (cT (cF (cI q (fun q=>?_) (fun q=>?_))))))))))))
        ·cases sE q
         refine OL (E4 I2 (R3 (AI TV (R2 TV))))
        cases sE q
        refine E4 I2 (R5 (AJ (R2 TV)))
       refine gN (gN (gN (gN (gN (gN (gX (cT (gY (cT (cF (cT (OL ?_))))))))))))
       cases sE q
       refine E4 I2 (R3 (AI TV (R2 TV)))
      refine gM (gM (gM (gY (cF (cF (cF ?_))))))
      cases sE q
      refine E4 I2 (R5 (AJ (R2 TV)))
     refine gN (gN (gN (cT (cT (OL ?_)))))
     cases sE q
     refine E4 I2 (R3 (AI TV (R2 TV)))
    refine gN (gN (gN (gN (gN (gN (cT (gN (gN (gN (gN (cT (cT (OL ?_)))))))))))))
    cases sE q
    refine E4 I2 (R3 (AI TV (R2 TV)))
   refine gN (cT (gN (gN (gN (gN (gN (gN (gN (cT (gN (gN (gN (gN (cT (cT (OL ?_))))))))))))))))
   cases sE q
   refine E4 I2 (R3 (AI TV (R2 TV)))
  refine gN (cT (gN (gN (cT (gN (gN (gN (gN (gN (gN (gN (cT (gN (gN (gN (gN (cT (cT (OL ?_)))))))))))))))))))
  cases sE q
  refine E4 I2 (R3 (AI TV (R2 TV)))
 rcases z2 with z2a | z2b
 ·dsimp only [Fz] at q
  refine AI (OL (OL (OL (OL ?_)))) TV
  obtain ⟨z5,hz5,q⟩:=bE q
  refine OQ ⟨[(0,⟨e0 [(4,.dat T2 k),(12,P0 2 0),(13,P0 3 0)],h1 [(2,.cells [(.d T2 op),(.d T2 a),(.d T2 z5.1),(.d T2 (0:Int)),N0,N0]),(3,.cells [(.d T1 z5.2.1),(.d T1 z5.2.2)])],4⟩)],?_,?_⟩
  ·have q:=hz5
   clear hz5
   unfold f19_j2 at q
   refine OL ?_
   obtain ⟨r6,h,q⟩:=bE q
   refine OL (cA H54 op h rfl (AI rfl (K0 (cI q (fun q=>?_) (fun q=>?_)))))
   ·refine OL (OL (gI q (fun q=>?_)))
    cases sE q
    refine OL (E4 I4 (R4 (AI (R3 TV) (R4 TV))))
   cases sE q
   refine EI [] (EI [] (EI [(3,0,T2),(3,1,T2)] (EI [] (EI I4 (R4 (AI (R3 TV) (R4 TV)))))))
  refine AI ?_ TV
  obtain ⟨z8,hz8,q⟩:=bE q
  let h2:LH:=fun zz=>h1 ((2,.cells [(.d T2 op),(.d T2 a),(.d T2 z5.1),(.d T2 z8),N0,N0])::zz)
  refine OQ ⟨[(0,⟨e0 [(12,P0 2 0),(13,P0 3 0)],h2 [(3,.cells [(.d T1 z5.2.1),(.d T1 z5.2.2)])],4⟩)],?_,?_⟩
  ·have q:=hz8
   clear hz8
   unfold f19_j3 at q
   refine OL ?_
   obtain ⟨r9,h,q⟩:=bE q
   refine OL (cA H55 op h rfl (AI rfl (K0 (cI q (fun q=>?_) (fun q=>?_)))))
   ·cases sE q
    refine OL (E4 I4 (R3 (AI (R3 TV) (R4 TV))))
   cases sE q
   refine E4 I4 (R3 (AI (R3 TV) (R4 TV)))
  refine AI ?_ TV
  obtain ⟨z10,hz10,q⟩:=bE q
  refine OQ ⟨[(0,⟨[(0,P0 0 0),(12,P0 2 0),(14,P0 3 0),(15,.dat T2 z10.1)],h2 [(3,.cells [(.osl 4),(.osl 5)]),(4,.arr 3 T2 z10.2.1),(5,.arr 42 T2 z10.2.2)],6⟩)],?_,?_⟩
  ·have q:=hz10
   clear hz10
   unfold f19_j4 at q
   obtain ⟨g12_0,q⟩:=gE q
   obtain ⟨q12_12,hq12_12,q⟩:=bE q
   refine EI (tU 0 12 (.alt 12 (tU 13 3 (.alt 16 (.alt 17 (.take 18 .done) .done) .done)) (.alt 16 (.alt 12 (tU 13 3 (.alt 17 (.take 18 .done) .done)) .done) .done))) (EI [] (EI [] (AI rfl (AI g12_0 (AI (AI TV ?_) ?_)))))
   ·refine AI TV (OL (cA H56 (op,((((((rd (Ty.z T0) t_L a).2).2).2).2).1,(((((rd (Ty.z T0) t_L a).2).2).2).2).2),(z5.2.1,z5.2.2),z8) hq12_12 rfl (R6 (K0 (AI TV (OL ?_))))))
    cases sE q
    refine E4 (iuR [1,2,3,5,6,7]) (R2 (AI (R3 TV) (R6 TV)))
   refine OL (cA H56 (op,((((((rd (Ty.z T0) t_L a).2).2).2).2).1,(((((rd (Ty.z T0) t_L a).2).2).2).2).2),(z5.2.1,z5.2.2),z8) hq12_12 rfl (R6 (K0 (AI TV (AI TV (OL ?_))))))
   cases sE q
   refine E4 (iuR [1,2,3,7,5,6]) (R2 (AI (R3 TV) (R6 TV)))
  refine AI (OL (OL (cI q (fun q=>?_) (fun q=>?_)))) TV
  ·cases sE q
   refine OL (AI rfl (E4 [(0,some 0),(2,some 1)] (R3 (AI TV (R2 TV)))))
  refine OL (OL (OL (EI (tU 0 6 (.alt 6 (.alt 7 (.take 8 (.take 9 (.alt 10 .done .done))) .done) .done)) (EI [(10,[0])] (EI [] (AI rfl (AI TV (OL (AI TV (OL (gI q (fun q=>?_))))))))))))
  refine AI TV (OL (OL ?_))
  cases sE q
  refine AI rfl (E4 [(0,some 0),(2,some 7)] (R3 (AI TV (R2 TV))))
 dsimp only [Fz] at q
 refine AI ?_ TV
 cases sE q
 refine AI rfl (E4 [(0,some 0),(2,some 1)] (R3 (AI TV (R2 TV))))
theorem H19:HI C19 19:=hI Tryz.f19 rfl fun x=>V19 x.1 x.2.1 x.2.2.1 x.2.2.2.1 x.2.2.2.2
def f20_l1 (w_L:NL) (go:Gm→Option Int) (n i:Int):Option Int:=
 bif (decide (i<w_L.length)) then
 E9 (0≤i∧i<w_L.length)<|
 go ((i64.wrap (n+(List.length ((((((rd (Ty.z T0) w_L i).2).2).2).2).2):Int))),(i64.wrap (i+1)))
 else
 some n
def f20 (w_L:NL):Option (Int×NL):=
 Ey (Fp (fun go x=>f20_l1 w_L go x.1 x.2) Fv ((0:Int),(0:Int))) fun z1=>
 some (z1,w_L)
def C20:Con:=⟨NL,Int×NL,2,fun x=>[P0 0 0],fun x=>[(0,.cells [(.osl 1)]),(1,.arr 44 T0 x)],fun x=>f20 x,fun y=>[.dat T2 y.1],fun y=>[(0,.cells [(.osl 1)]),(1,.arr 44 T0 y.2)],2⟩
theorem V20 w_L y (q:f20 w_L=some y):VE Tryz.f20 2 C20 w_L y:=by
 unfold f20 at q
 refine OL (OL (OL (OL ?_)))
 obtain ⟨z1,h,q⟩:=bE q
 refine lJ h (fun x=>⟨[(0,P0 0 0),(3,.dat T2 x.1),(4,.dat T2 x.2)],[(0,.cells [(.osl 1)]),(1,.arr 44 T0 w_L)],2⟩) (fun z=>[(2,⟨[(3,.dat T2 z)],[(0,.cells [(.osl 1)]),(1,.arr 44 T0 w_L)],2⟩)]) (E4 I2 (R3 (AJ (R2 TV)))) (fun m=>F6 (fun n=>fun i z q=>?_)) ?_
 ·have q:f20_l1 w_L _ n i=some z:=q
  unfold f20_l1 at q
  refine OL (OL (cI q (fun q=>?_) (fun q=>?_)))
  ·refine OL (gI q (fun q=>?_))
   refine EI ((i64.wrap (n+(List.length ((((((rd (Ty.z T0) w_L i).2).2).2).2).2):Int))),(i64.wrap (i+1))) (AI q (E4 I2 (R3 (AJ (R2 TV)))))
  cases sE q
  refine E4 I2 (R2 (AI TV (R2 TV)))
 refine AI (OL ?_) TV
 cases sE q
 refine AI rfl (E4 I2 (R2 (AI TV (R2 TV))))
theorem H20:HI C20 20:=hI Tryz.f20 rfl fun x=>V20 x
def f7_j10 (l:NL) (i:Int) (l2 l3:NL):Option (Int×Int×Int×Int×NL×NL):=
 bif (((rd (Ty.z T0) l i).1)==1) then
 Ey (f15 l2 ((((((rd (Ty.z T0) l i).2).2).2).2).1,(((((rd (Ty.z T0) l i).2).2).2).2).2)) fun r34=>
 Ey (f18 l3 ((((((rd (Ty.z T0) l i).2).2).2).2).1,(((((rd (Ty.z T0) l i).2).2).2).2).2)) fun r35=>
 some (r34.1,r34.2.1,r35.1,r35.2.1,r34.2.2,r35.2.2)
 else
 Ey (f17 l2 ((rd (Ty.z T0) l i).1) (((rd (Ty.z T0) l i).2).1) ((((rd (Ty.z T0) l i).2).2).1) (((((rd (Ty.z T0) l i).2).2).2).1)) fun r36=>
 Ey (f19 l3 ((rd (Ty.z T0) l i).1) (((rd (Ty.z T0) l i).2).1) ((((rd (Ty.z T0) l i).2).2).1) (((((rd (Ty.z T0) l i).2).2).2).1)) fun r37=>
 some (r36.1,r36.2.1,r37.1,r37.2.1,r36.2.2,r37.2.2)
def f7_j13 (z33:Int×Int×Int×Int×NL×NL):Option Bool:=
 bif (z33.1 != z33.2.2.1) then
 some true
 else
 some (z33.2.1 != z33.2.2.2.1)
def f7_j12 (z33:Int×Int×Int×Int×NL×NL):Option (Sum Unit Unit):=
 Ey (f7_j13 z33) fun z40=>
 bif z40 then
 some (Sum.inr ())
 else
 some (Sum.inl ())
def f7_l9 (l:NL) (go:(Int×NL×NL)→Option (Sum Unit (NL×NL))) (i:Int) (l2 l3:NL):Option (Sum Unit (NL×NL)):=
 bif (decide (i<l.length)) then
 E9 (0≤i∧i<l.length)<|
 Ey (f7_j10 l i l2 l3) fun z33=>
 Ey (f7_j12 z33) fun z39=>
 Fz z39 (fun z39a=>
 Ey (f20 z33.2.2.2.2.2) fun r41=>
 bif (decide (r41.1>4000)) then
 some (Sum.inr (z33.2.2.2.2.1,r41.2))
 else
 go ((i64.wrap (i+1)),z33.2.2.2.2.1,r41.2)) (fun z39b=>
 some (Sum.inl ()))
 else
 some (Sum.inr (l2,l3))
def f7 (l:NL):Option (Sum Unit (NL×NL)):=
 Ey (f14) fun r1=>
 Ey (Fp (fun go x=>f7_l9 l go x.1 x.2.1 x.2.2) Fv ((0:Int),[],[])) fun z28=>
 Fz z28 (fun z28a=>
 some (Sum.inl ())) (fun z28b=>
 some (Sum.inr (z28b.1,z28b.2)))
def C7:Con:=⟨NL,Sum Unit (NL×NL),0,fun x=>[.dat T6 x],NX,fun x=>f7 x,fun y=>Sum.elim (fun y=>[.raw false [(.c (.pointer none))],.raw false [(.c (.pointer none))],.dat .bool false]) (fun y=>[P0 0 0,P0 1 0,.dat .bool true]) y,fun y=>Sum.elim (fun y=>[]) (fun y=>[(0,.cells [(.osl 2)]),(1,.cells [(.osl 3)]),(2,.arr 65 T0 y.1),(3,.arr 44 T0 y.2)]) y,4⟩
theorem V7 l y (q:f7 l=some y):VC Tryz.f7 C7 l y:=by
 unfold f7 at q
 refine OL (OL ?_)
 obtain ⟨r1,h,q⟩:=bE q
 refine OL (cA H14 () h rfl (K0 (OL (OL ?_))))
 obtain ⟨z28,hz28,q⟩:=bE q
 let e0:LE:=fun zz=>(0,.dat T6 l)::(5,P0 0 0)::(6,P0 1 0)::zz
 let h1:LH:=fun zz=>(0,.cells [(.osl 2)])::(1,.cells [(.osl 3)])::zz
 let e2:LE:=fun zz=>(2,.raw false [(.c (.pointer none))])::(3,.raw false [(.c (.pointer none))])::(4,.dat .bool false)::zz
 refine lJ hz28 (fun x=>⟨e0 [(7,.dat T2 x.1)],h1 [(2,.arr 65 T0 x.2.1),(3,.arr 44 T0 x.2.2)],4⟩) (fun z=>Sum.elim (fun za=>[(1,⟨e2 [],[],0⟩)]) (fun zb=>[(2,⟨[(5,P0 0 0),(6,P0 1 0)],h1 [(2,.arr 65 T0 zb.1),(3,.arr 44 T0 zb.2)],4⟩)]) z) (E4 (iuR [1,3,2,0]) (R3 (AI (R2 TV) (R4 TV)))) (fun m=>F6 (fun i=>F6 (fun l2=>fun l3 z q=>?_))) ?_
 ·have q:f7_l9 l _ i l2 l3=some z:=q
  unfold f7_l9 at q
  refine OL (OL (cI q (fun q=>?_) (fun q=>?_)))
  ·refine OL (OL (gI q (fun q=>?_)))
   refine OL (OL (OL ?_))
   obtain ⟨z33,hz33,q⟩:=bE q
   let h3:LH:=fun zz=>h1 ((2,.arr 65 T0 z33.2.2.2.2.1)::(3,.arr 44 T0 z33.2.2.2.2.2)::zz)
   refine OQ ⟨[(0,⟨e0 [(7,.dat T2 i),(9,.dat T2 z33.1),(10,.dat T2 z33.2.1),(11,.dat T2 z33.2.2.1),(12,.dat T2 z33.2.2.2.1)],h3 [],4⟩)],?_,?_⟩
   ·have q:=hz33
    clear hz33
    unfold f7_j10 at q
    refine OL (cI q (fun q=>?_) (fun q=>?_))
    ·refine OL ?_
     obtain ⟨r34,h,q⟩:=bE q
     refine OL (cB H15 (l2,((((((rd (Ty.z T0) l i).2).2).2).2).1,(((((rd (Ty.z T0) l i).2).2).2).2).2)) (iuR [1,3]) false h rfl (R2 (AI NH (R2 (AJ (AI (R2 TV) ?_))))))
     obtain ⟨r35,h,q⟩:=bE q
     refine OL (cB H18 (l3,((((((rd (Ty.z T0) l i).2).2).2).2).1,(((((rd (Ty.z T0) l i).2).2).2).2).2)) (iuR [2,4]) false h rfl (R2 (AI NH (R2 (AJ (AI (R2 TV) ?_))))))
     cases sE q
     refine E4 (iuR [1,2,8,11]) (R7 (AI (R2 TV) (R4 TV)))
    refine OL ?_
    obtain ⟨r36,h,q⟩:=bE q
    refine OL (cB H17 (l2,(rd (Ty.z T0) l i).1,((rd (Ty.z T0) l i).2).1,(((rd (Ty.z T0) l i).2).2).1,((((rd (Ty.z T0) l i).2).2).2).1) (iuR [1,3]) false h rfl (R4 (AI NH (R2 (AJ (AI (R2 TV) ?_))))))
    obtain ⟨r37,h,q⟩:=bE q
    refine OL (cB H19 (l3,(rd (Ty.z T0) l i).1,((rd (Ty.z T0) l i).2).1,(((rd (Ty.z T0) l i).2).2).1,((((rd (Ty.z T0) l i).2).2).2).1) (iuR [2,4]) false h rfl (R4 (AI NH (R2 (AJ (AI (R2 TV) ?_))))))
    cases sE q
    refine E4 (iuR [1,2,8,11]) (R7 (AI (R2 TV) (R4 TV)))
   refine AI ?_ TV
   obtain ⟨z39,hz39,q⟩:=bE q
   refine OQ ⟨Sum.elim (fun z39a=>[(0,⟨e0 [(7,.dat T2 i)],h3 [],4⟩)]) (fun z39b=>[(1,⟨e2 [],[],0⟩)]) z39,?_,?_⟩
   ·have q:=hz39
    clear hz39
    unfold f7_j12 at q
    obtain ⟨z40,hz40,q⟩:=bE q
    refine OQ ⟨[(0,⟨e0 [(7,.dat T2 i),(76,.dat .bool z40)],h3 [],4⟩)],?_,?_⟩
    ·have q:=hz40
     clear hz40
     unfold f7_j13 at q
     refine cN q (fun q=>?_) (fun q=>?_)
     ·refine gY (gY (cF ?_))
      cases sE q
      refine E4 I4 (R4 (AI (R2 TV) (R4 TV)))
     refine gN (gN (cT ?_))
     cases sE q
     refine E4 I4 (R4 (AI (R2 TV) (R4 TV)))
    refine AI (cI q (fun q=>?_) (fun q=>?_)) TV
    ·cases sE q
     refine OL (E4 [] (R2 (AI (R2 TV) TV)))
    cases sE q
    refine E4 I4 (R3 (AI (R2 TV) (R4 TV)))
   rcases z39 with z39a | z39b
   ·dsimp only [Fz] at q
    refine AI (OL ?_) TV
    obtain ⟨r41,h,q⟩:=bE q
    refine OL (cB H20 z33.2.2.2.2.2 (iuR [2,4]) false h rfl (AI NH (R2 (AJ (AI (R2 TV) (cI q (fun q=>?_) (fun q=>?_)))))))
    ·cases sE q
     refine E4 I4 (AI rfl (AI (R2 TV) (R4 TV)))
    refine EI ((i64.wrap (i+1)),z33.2.2.2.2.1,r41.2) (AI q (E4 I4 (R3 (AI (R2 TV) (R4 TV)))))
   dsimp only [Fz] at q
   refine AI ?_ TV
   cases sE q
   refine E4 [] (R2 (AI (R2 TV) TV))
  cases sE q
  refine E4 I4 (AI rfl (AI (R2 TV) (R4 TV)))
 rcases z28 with z28a | z28b
 ·dsimp only [Fz] at q
  refine AI ?_ TV
  cases sE q
  refine AI rfl (E4 [] (R2 (AI (R2 TV) TV)))
 dsimp only [Fz] at q
 refine AI (OL ?_) TV
 cases sE q
 refine AI rfl (E4 I4 (R2 (AI (R2 TV) (R4 TV))))
theorem H7:HI C7 7:=hI Tryz.f7 rfl fun x=>V7 x
end Go.Proofs
