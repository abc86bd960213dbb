import Derived.Test.YtnedcilckcemaaaGreatBackOnesS1
set_option linter.unusedVariables false
set_option maxRecDepth 100000
set_option maxHeartbeats 8000000
namespace Go.Proofs
open Go.AM
open IntKind (i64 u64 i32 u32 i16 u16 i8 u8)
def f125_j4 (lo y_ q6_7 q1 rhat:Int):Option (Sum Unit Unit):=
 bif (decide (q1≥4294967296)) then
 some (Sum.inl ())
 else
 bif (decide ((u64.wrap (q1*(Fu IntKind.u64 (fun p q=>p&&& q) (u64.wrap (y_*2 ^ min (Int.toNat (u64.wrap q6_7)) u64.bits)) (4294967295:Int))))>(u64.wrap ((u64.wrap ((4294967296:Int)*rhat))+(Int.fdiv (u64.wrap (lo*2 ^ min (Int.toNat (u64.wrap q6_7)) u64.bits)) (2 ^ min (Int.toNat (32:Int)) u64.bits)))))) then
 some (Sum.inl ())
 else
 some (Sum.inr ())
def f125_l3 (lo y_ q6_7:Int) (go:Gm→Option Int) (q1 rhat:Int):Option Int:=
 Ey (f125_j4 lo y_ q6_7 q1 rhat) fun z4=>
 Fz z4 (fun z4a=>
 bif (decide ((u64.wrap (rhat+(Int.fdiv (u64.wrap (y_*2 ^ min (Int.toNat (u64.wrap q6_7)) u64.bits)) (2 ^ min (Int.toNat (32:Int)) u64.bits))))≥4294967296)) then
 some (u64.wrap (q1-1))
 else
 go ((u64.wrap (q1-1)),(u64.wrap (rhat+(Int.fdiv (u64.wrap (y_*2 ^ min (Int.toNat (u64.wrap q6_7)) u64.bits)) (2 ^ min (Int.toNat (32:Int)) u64.bits)))))) (fun z4b=>
 some q1)
def f125_j8 (lo y_ q6_7 rhat q0:Int):Option (Sum Unit Unit):=
 bif (decide (q0≥4294967296)) then
 some (Sum.inl ())
 else
 bif (decide ((u64.wrap (q0*(Fu IntKind.u64 (fun p q=>p&&& q) (u64.wrap (y_*2 ^ min (Int.toNat (u64.wrap q6_7)) u64.bits)) (4294967295:Int))))>(u64.wrap ((u64.wrap ((4294967296:Int)*rhat))+(Fu IntKind.u64 (fun p q=>p&&& q) (u64.wrap (lo*2 ^ min (Int.toNat (u64.wrap q6_7)) u64.bits)) (4294967295:Int)))))) then
 some (Sum.inl ())
 else
 some (Sum.inr ())
def f125_l7 (lo y_ q6_7:Int) (go:Gm→Option Int) (rhat q0:Int):Option Int:=
 Ey (f125_j8 lo y_ q6_7 rhat q0) fun z8=>
 Fz z8 (fun z8a=>
 bif (decide ((u64.wrap (rhat+(Int.fdiv (u64.wrap (y_*2 ^ min (Int.toNat (u64.wrap q6_7)) u64.bits)) (2 ^ min (Int.toNat (32:Int)) u64.bits))))≥4294967296)) then
 some (u64.wrap (q0-1))
 else
 go ((u64.wrap (rhat+(Int.fdiv (u64.wrap (y_*2 ^ min (Int.toNat (u64.wrap q6_7)) u64.bits)) (2 ^ min (Int.toNat (32:Int)) u64.bits)))),(u64.wrap (q0-1)))) (fun z8b=>
 some q0)
def f125 (hi lo y_:Int):Option Gm:=
 bif (y_==0) then
 none
 else
 bif (decide (y_≤hi)) then
 none
 else
 bif (hi==0) then
 E9 (y_≠0)<|
 E9 (y_≠0)<|
 some ((u64.wrap (Int.tdiv lo y_)),(Int.tmod lo y_))
 else
 Ey (f153 y_) fun q6_7=>
 E9 (0≤(u64.wrap q6_7))<|
 E9 (0≤(u64.wrap q6_7))<|
 E9 (0≤(u64.wrap ((64:Int)-(u64.wrap q6_7))))<|
 E9 (0≤(u64.wrap q6_7))<|
 E9 ((Int.fdiv (u64.wrap (y_*2 ^ min (Int.toNat (u64.wrap q6_7)) u64.bits)) (2 ^ min (Int.toNat (32:Int)) u64.bits))≠0)<|
 Ey (Fp (fun go x=>f125_l3 lo y_ q6_7 go x.1 x.2) Fv ((u64.wrap (Int.tdiv (Fu IntKind.u64 (fun p q=>p||| q) (u64.wrap (hi*2 ^ min (Int.toNat (u64.wrap q6_7)) u64.bits)) (Int.fdiv lo (2 ^ min (Int.toNat (u64.wrap ((64:Int)-(u64.wrap q6_7)))) u64.bits))) (Int.fdiv (u64.wrap (y_*2 ^ min (Int.toNat (u64.wrap q6_7)) u64.bits)) (2 ^ min (Int.toNat (32:Int)) u64.bits)))),(u64.wrap ((Fu IntKind.u64 (fun p q=>p||| q) (u64.wrap (hi*2 ^ min (Int.toNat (u64.wrap q6_7)) u64.bits)) (Int.fdiv lo (2 ^ min (Int.toNat (u64.wrap ((64:Int)-(u64.wrap q6_7)))) u64.bits)))-(u64.wrap ((u64.wrap (Int.tdiv (Fu IntKind.u64 (fun p q=>p||| q) (u64.wrap (hi*2 ^ min (Int.toNat (u64.wrap q6_7)) u64.bits)) (Int.fdiv lo (2 ^ min (Int.toNat (u64.wrap ((64:Int)-(u64.wrap q6_7)))) u64.bits))) (Int.fdiv (u64.wrap (y_*2 ^ min (Int.toNat (u64.wrap q6_7)) u64.bits)) (2 ^ min (Int.toNat (32:Int)) u64.bits))))*(Int.fdiv (u64.wrap (y_*2 ^ min (Int.toNat (u64.wrap q6_7)) u64.bits)) (2 ^ min (Int.toNat (32:Int)) u64.bits)))))))) fun z3=>
 E9 ((Int.fdiv (u64.wrap (y_*2 ^ min (Int.toNat (u64.wrap q6_7)) u64.bits)) (2 ^ min (Int.toNat (32:Int)) u64.bits))≠0)<|
 Ey (Fp (fun go x=>f125_l7 lo y_ q6_7 go x.1 x.2) Fv ((u64.wrap ((u64.wrap ((u64.wrap ((u64.wrap ((Fu IntKind.u64 (fun p q=>p||| q) (u64.wrap (hi*2 ^ min (Int.toNat (u64.wrap q6_7)) u64.bits)) (Int.fdiv lo (2 ^ min (Int.toNat (u64.wrap ((64:Int)-(u64.wrap q6_7)))) u64.bits)))*4294967296))+(Int.fdiv (u64.wrap (lo*2 ^ min (Int.toNat (u64.wrap q6_7)) u64.bits)) (2 ^ min (Int.toNat (32:Int)) u64.bits))))-(u64.wrap (z3*(u64.wrap (y_*2 ^ min (Int.toNat (u64.wrap q6_7)) u64.bits))))))-(u64.wrap ((u64.wrap (Int.tdiv (u64.wrap ((u64.wrap ((u64.wrap ((Fu IntKind.u64 (fun p q=>p||| q) (u64.wrap (hi*2 ^ min (Int.toNat (u64.wrap q6_7)) u64.bits)) (Int.fdiv lo (2 ^ min (Int.toNat (u64.wrap ((64:Int)-(u64.wrap q6_7)))) u64.bits)))*4294967296))+(Int.fdiv (u64.wrap (lo*2 ^ min (Int.toNat (u64.wrap q6_7)) u64.bits)) (2 ^ min (Int.toNat (32:Int)) u64.bits))))-(u64.wrap (z3*(u64.wrap (y_*2 ^ min (Int.toNat (u64.wrap q6_7)) u64.bits)))))) (Int.fdiv (u64.wrap (y_*2 ^ min (Int.toNat (u64.wrap q6_7)) u64.bits)) (2 ^ min (Int.toNat (32:Int)) u64.bits))))*(Int.fdiv (u64.wrap (y_*2 ^ min (Int.toNat (u64.wrap q6_7)) u64.bits)) (2 ^ min (Int.toNat (32:Int)) u64.bits)))))),(u64.wrap (Int.tdiv (u64.wrap ((u64.wrap ((u64.wrap ((Fu IntKind.u64 (fun p q=>p||| q) (u64.wrap (hi*2 ^ min (Int.toNat (u64.wrap q6_7)) u64.bits)) (Int.fdiv lo (2 ^ min (Int.toNat (u64.wrap ((64:Int)-(u64.wrap q6_7)))) u64.bits)))*4294967296))+(Int.fdiv (u64.wrap (lo*2 ^ min (Int.toNat (u64.wrap q6_7)) u64.bits)) (2 ^ min (Int.toNat (32:Int)) u64.bits))))-(u64.wrap (z3*(u64.wrap (y_*2 ^ min (Int.toNat (u64.wrap q6_7)) u64.bits)))))) (Int.fdiv (u64.wrap (y_*2 ^ min (Int.toNat (u64.wrap q6_7)) u64.bits)) (2 ^ min (Int.toNat (32:Int)) u64.bits)))))) fun z7=>
 E9 (0≤(u64.wrap q6_7))<|
 some ((u64.wrap ((u64.wrap (z3*4294967296))+z7)),(Int.fdiv (u64.wrap ((u64.wrap ((u64.wrap ((u64.wrap ((u64.wrap ((u64.wrap ((Fu IntKind.u64 (fun p q=>p||| q) (u64.wrap (hi*2 ^ min (Int.toNat (u64.wrap q6_7)) u64.bits)) (Int.fdiv lo (2 ^ min (Int.toNat (u64.wrap ((64:Int)-(u64.wrap q6_7)))) u64.bits)))*4294967296))+(Int.fdiv (u64.wrap (lo*2 ^ min (Int.toNat (u64.wrap q6_7)) u64.bits)) (2 ^ min (Int.toNat (32:Int)) u64.bits))))-(u64.wrap (z3*(u64.wrap (y_*2 ^ min (Int.toNat (u64.wrap q6_7)) u64.bits))))))*4294967296))+(Fu IntKind.u64 (fun p q=>p&&& q) (u64.wrap (lo*2 ^ min (Int.toNat (u64.wrap q6_7)) u64.bits)) (4294967295:Int))))-(u64.wrap (z7*(u64.wrap (y_*2 ^ min (Int.toNat (u64.wrap q6_7)) u64.bits)))))) (2 ^ min (Int.toNat (u64.wrap q6_7)) u64.bits)))
def C125:Con:=⟨PTz7,Gm,0,fun x=>[.dat T4 x.1,.dat T4 x.2.1,.dat T4 x.2.2],NX,fun x=>f125 x.1 x.2.1 x.2.2,fun y=>[.dat T4 y.1,.dat T4 y.2],NX,0⟩
theorem V125 hi lo y_ y (q:f125 hi lo y_=some y):VC Tryz.f125 C125 (hi,lo,y_) y:=by
 unfold f125 at q
 refine OL (OL (OL (cI q (fun q=>?_) (fun q=>?_))))
 ·exact nomatch q
 refine OL (OL (cI q (fun q=>?_) (fun q=>?_)))
 ·exact nomatch q
 refine OL (OL (cI q (fun q=>?_) (fun q=>?_)))
 ·refine OL (EI (tU 0 8 .done) (EI [] (EI [] (AI rfl (gI q (fun q=>?_))))))
  refine gI q (fun q=>?_)
  cases sE q
  refine AI rfl (E4 [] (R3 (AI TV TV)))
 refine OL ?_
 obtain ⟨q6_7,h,q⟩:=bE q
 refine OL (cA H153 y_ h rfl (AI rfl (K0 (OL (gI q (fun q=>?_))))))
 refine OL (AI (by decide) (OL (OL (gI q (fun q=>?_)))))
 refine gI q (fun q=>?_)
 refine OL (gI q (fun q=>?_))
 refine OL (AI (by decide) (OL (OL (gI q (fun q=>?_)))))
 refine OL (OL ?_)
 obtain ⟨z3,hz3,q⟩:=bE q
 let e0:LE:=fun zz=>(2,.dat T4 (u64.wrap (y_*2 ^ min (Int.toNat (u64.wrap q6_7)) u64.bits)))::(8,.dat T4 (u64.wrap q6_7))::zz
 let e1:LE:=fun zz=>e0 ((9,.dat T4 (Int.fdiv (u64.wrap (y_*2 ^ min (Int.toNat (u64.wrap q6_7)) u64.bits)) (2 ^ min (Int.toNat (32:Int)) u64.bits)))::(10,.dat T4 (Fu IntKind.u64 (fun p q=>p&&& q) (u64.wrap (y_*2 ^ min (Int.toNat (u64.wrap q6_7)) u64.bits)) (4294967295:Int)))::zz)
 let e2:LE:=fun zz=>e1 ((11,.dat T4 (Fu IntKind.u64 (fun p q=>p||| q) (u64.wrap (hi*2 ^ min (Int.toNat (u64.wrap q6_7)) u64.bits)) (Int.fdiv lo (2 ^ min (Int.toNat (u64.wrap ((64:Int)-(u64.wrap q6_7)))) u64.bits))))::(13,.dat T4 (Int.fdiv (u64.wrap (lo*2 ^ min (Int.toNat (u64.wrap q6_7)) u64.bits)) (2 ^ min (Int.toNat (32:Int)) u64.bits)))::(14,.dat T4 (Fu IntKind.u64 (fun p q=>p&&& q) (u64.wrap (lo*2 ^ min (Int.toNat (u64.wrap q6_7)) u64.bits)) (4294967295:Int)))::zz)
 refine lJ hz3 (fun x=>⟨e2 [(15,.dat T4 x.1),(16,.dat T4 x.2)],[],0⟩) (fun z=>[(2,⟨e2 [(15,.dat T4 z)],[],0⟩)]) (E4 [] (R10 (AI TV TV))) (fun m=>F6 (fun q1=>fun rhat z q=>?_)) ?_
 ·have q:f125_l3 lo y_ q6_7 _ q1 rhat=some z:=q
  unfold f125_l3 at q
  obtain ⟨z4,hz4,q⟩:=bE q
  refine OQ ⟨Sum.elim (fun z4a=>[(0,⟨e2 [(15,.dat T4 q1),(16,.dat T4 rhat)],[],0⟩)]) (fun z4b=>[(2,⟨e2 [(15,.dat T4 q1)],[],0⟩)]) z4,?_,?_⟩
  ·have q:=hz4
   clear hz4
   unfold f125_j4 at q
   refine OL (cN q (fun q=>?_) (fun q=>?_))
   ·refine gY (gY (gY (gY (gY (gY (gY (cF (cI q (fun q=>?_) (fun q=>?_)))))))))
    ·cases sE q
     refine E4 [] (R10 (AI TV TV))
    cases sE q
    refine E4 [] (R9 (AI TV TV))
   refine gN (gN (gN (gN (gN (gN (gN (cT (cT ?_))))))))
   cases sE q
   refine E4 [] (R10 (AI TV TV))
  rcases z4 with z4a | z4b
  ·dsimp only [Fz] at q
   refine AI (OL (OL (OL (cI q (fun q=>?_) (fun q=>?_))))) TV
   ·cases sE q
    refine E4 [] (R9 (AI TV TV))
   refine EI ((u64.wrap (q1-1)),(u64.wrap (rhat+(Int.fdiv (u64.wrap (y_*2 ^ min (Int.toNat (u64.wrap q6_7)) u64.bits)) (2 ^ min (Int.toNat (32:Int)) u64.bits))))) (AI q (E4 [] (R10 (AI TV TV))))
  dsimp only [Fz] at q
  refine AI ?_ TV
  cases sE q
  refine E4 [] (R9 (AI TV TV))
 refine AI (OL (OL (gI q (fun q=>?_)))) TV
 refine OL (OL ?_)
 obtain ⟨z7,hz7,q⟩:=bE q
 let e3:LE:=fun zz=>e1 ((14,.dat T4 (Fu IntKind.u64 (fun p q=>p&&& q) (u64.wrap (lo*2 ^ min (Int.toNat (u64.wrap q6_7)) u64.bits)) (4294967295:Int)))::(15,.dat T4 z3)::zz)
 let e4:LE:=fun zz=>e0 ((14,.dat T4 (Fu IntKind.u64 (fun p q=>p&&& q) (u64.wrap (lo*2 ^ min (Int.toNat (u64.wrap q6_7)) u64.bits)) (4294967295:Int)))::(15,.dat T4 z3)::(17,.dat T4 (u64.wrap ((u64.wrap ((u64.wrap ((Fu IntKind.u64 (fun p q=>p||| q) (u64.wrap (hi*2 ^ min (Int.toNat (u64.wrap q6_7)) u64.bits)) (Int.fdiv lo (2 ^ min (Int.toNat (u64.wrap ((64:Int)-(u64.wrap q6_7)))) u64.bits)))*4294967296))+(Int.fdiv (u64.wrap (lo*2 ^ min (Int.toNat (u64.wrap q6_7)) u64.bits)) (2 ^ min (Int.toNat (32:Int)) u64.bits))))-(u64.wrap (z3*(u64.wrap (y_*2 ^ min (Int.toNat (u64.wrap q6_7)) u64.bits)))))))::zz)
 refine lJ hz7 (fun x=>⟨e3 [(16,.dat T4 x.1),(17,.dat T4 (u64.wrap ((u64.wrap ((u64.wrap ((Fu IntKind.u64 (fun p q=>p||| q) (u64.wrap (hi*2 ^ min (Int.toNat (u64.wrap q6_7)) u64.bits)) (Int.fdiv lo (2 ^ min (Int.toNat (u64.wrap ((64:Int)-(u64.wrap q6_7)))) u64.bits)))*4294967296))+(Int.fdiv (u64.wrap (lo*2 ^ min (Int.toNat (u64.wrap q6_7)) u64.bits)) (2 ^ min (Int.toNat (32:Int)) u64.bits))))-(u64.wrap (z3*(u64.wrap (y_*2 ^ min (Int.toNat (u64.wrap q6_7)) u64.bits))))))),(18,.dat T4 x.2)],[],0⟩) (fun z=>[(4,⟨e4 [(18,.dat T4 z)],[],0⟩)]) (E4 [] (R10 (AI TV TV))) (fun m=>F6 (fun rhat=>fun q0 z q=>?_)) ?_
 ·have q:f125_l7 lo y_ q6_7 _ rhat q0=some z:=q
  unfold f125_l7 at q
  obtain ⟨z8,hz8,q⟩:=bE q
  refine OQ ⟨Sum.elim (fun z8a=>[(0,⟨e3 [(16,.dat T4 rhat),(17,.dat T4 (u64.wrap ((u64.wrap ((u64.wrap ((Fu IntKind.u64 (fun p q=>p||| q) (u64.wrap (hi*2 ^ min (Int.toNat (u64.wrap q6_7)) u64.bits)) (Int.fdiv lo (2 ^ min (Int.toNat (u64.wrap ((64:Int)-(u64.wrap q6_7)))) u64.bits)))*4294967296))+(Int.fdiv (u64.wrap (lo*2 ^ min (Int.toNat (u64.wrap q6_7)) u64.bits)) (2 ^ min (Int.toNat (32:Int)) u64.bits))))-(u64.wrap (z3*(u64.wrap (y_*2 ^ min (Int.toNat (u64.wrap q6_7)) u64.bits))))))),(18,.dat T4 q0)],[],0⟩)]) (fun z8b=>[(4,⟨e4 [(18,.dat T4 q0)],[],0⟩)]) z8,?_,?_⟩
  ·have q:=hz8
   clear hz8
   unfold f125_j8 at q
   refine OL (cN q (fun q=>?_) (fun q=>?_))
   ·refine gY (gY (gY (gY (gY (gY (gY (cF (cI q (fun q=>?_) (fun q=>?_)))))))))
    ·cases sE q
     refine E4 [] (R10 (AI TV TV))
    cases sE q
    refine E4 [] (R7 (AI TV TV))
   refine gN (gN (gN (gN (gN (gN (gN (cT (cT ?_))))))))
   cases sE q
   refine E4 [] (R10 (AI TV TV))
  rcases z8 with z8a | z8b
  ·dsimp only [Fz] at q
   refine AI (OL (OL (OL (cI q (fun q=>?_) (fun q=>?_))))) TV
   ·cases sE q
    refine E4 [] (R7 (AI TV TV))
   refine EI ((u64.wrap (rhat+(Int.fdiv (u64.wrap (y_*2 ^ min (Int.toNat (u64.wrap q6_7)) u64.bits)) (2 ^ min (Int.toNat (32:Int)) u64.bits)))),(u64.wrap (q0-1))) (AI q (E4 [] (R10 (AI TV TV))))
  dsimp only [Fz] at q
  refine AI ?_ TV
  cases sE q
  refine E4 [] (R7 (AI TV TV))
 refine AI (OL (gI q (fun q=>?_))) TV
 cases sE q
 refine AI rfl (E4 [] (R3 (AI TV TV)))
theorem H125:HI C125 125:=hI Tryz.f125 rfl fun x=>V125 x.1 x.2.1 x.2.2
def f121_j3 (r2:Int) (r4:Gm):Option Bool:=
 bif (decide (r4.2>(u64.wrap (r2-r4.2)))) then
 some true
 else
 bif (r4.2==(u64.wrap (r2-r4.2))) then
 some ((Fu IntKind.u64 (fun p q=>p&&& q) r4.1 (1:Int))==1)
 else
 some false
def f121_j2 (r2:Int) (r4:Gm):Option Gm:=
 Ey (f121_j3 r2 r4) fun z8=>
 bif z8 then
 Ey (Lq r4.1 (1:Int) (0:Int)) fun r9=>
 some (r9.1,r9.2)
 else
 some (r4.1,(0:Int))
def f121 (a b:Int):Option Int:=
 bif (b==0) then
 bif (decide (a>0)) then
 some (9223372036854775807:Int)
 else
 bif (decide (a<0)) then
 some (-9223372036854775808:Int)
 else
 some (0:Int)
 else
 Ey (f150 a) fun r1=>
 Ey (f150 b) fun r2=>
 bif (decide ((Int.fdiv r1 (2 ^ min (Int.toNat (32:Int)) u64.bits))≥r2)) then
 Ey (f151 (1:Int) (0:Int) (!((decide (a<0))==(decide (b<0))))) fun r3=>
 some r3
 else
 Ey (f125 (Int.fdiv r1 (2 ^ min (Int.toNat (32:Int)) u64.bits)) (u64.wrap (r1*2 ^ min (Int.toNat (32:Int)) u64.bits)) r2) fun r4=>
 Ey (f121_j2 r2 r4) fun z7=>
 Ey (f151 z7.2 z7.1 (!((decide (a<0))==(decide (b<0))))) fun r10=>
 some r10
def C121:Con:=⟨Gm,Int,0,fun x=>[.dat T2 x.1,.dat T2 x.2],NX,fun x=>f121 x.1 x.2,fun y=>[.dat T2 y],NX,0⟩
theorem V121 a b y (q:f121 a b=some y):VC Tryz.f121 C121 (a,b) y:=by
 unfold f121 at q
 refine OL (OL (OL (cI q (fun q=>?_) (fun q=>?_))))
 ·refine OL (OL (cI q (fun q=>?_) (fun q=>?_)))
  ·cases sE q
   refine OL (AI rfl (E4 [] (R2 (AI TV TV))))
  refine OL (cI q (fun q=>?_) (fun q=>?_))
  ·cases sE q
   refine OL (AI rfl (E4 [] (R2 (AI TV TV))))
  cases sE q
  refine OL (AI rfl (E4 [] (R2 (AI TV TV))))
 refine OL ?_
 obtain ⟨r1,h,q⟩:=bE q
 refine OL (cA H150 a h rfl (AI rfl (K0 ?_)))
 obtain ⟨r2,h,q⟩:=bE q
 refine OL (cA H150 b h rfl (AI rfl (K0 (OL (OL (AI (by decide) (AI (by decide) (OL (OL (cI q (fun q=>?_) (fun q=>?_)))))))))))
 ·refine OL ?_
  obtain ⟨r3,h,q⟩:=bE q
  refine OL (cA H151 ((1:Int),(0:Int),(!((decide (a<0))==(decide (b<0))))) h rfl (R3 (K0 ?_)))
  cases sE q
  refine AI rfl (E4 [] (R2 (AI TV TV)))
 refine OL ?_
 obtain ⟨r4,h,q⟩:=bE q
 refine OL (cA H125 ((Int.fdiv r1 (2 ^ min (Int.toNat (32:Int)) u64.bits)),(u64.wrap (r1*2 ^ min (Int.toNat (32:Int)) u64.bits)),r2) h rfl (R3 (K0 (OL ?_))))
 obtain ⟨z7,hz7,q⟩:=bE q
 let e0:LE:=fun zz=>(7,.dat .bool (!((decide (a<0))==(decide (b<0)))))::zz
 refine OQ ⟨[(0,⟨e0 [(10,.dat T4 z7.1),(12,.dat T4 z7.2)],[],0⟩)],?_,?_⟩
 ·have q:=hz7
  clear hz7
  unfold f121_j2 at q
  obtain ⟨z8,hz8,q⟩:=bE q
  refine OQ ⟨[(0,⟨e0 [(10,.dat T4 r4.1),(12,.dat T4 (0:Int)),(62,.dat .bool z8)],[],0⟩)],?_,?_⟩
  ·have q:=hz8
   clear hz8
   unfold f121_j3 at q
   refine cN q (fun q=>?_) (fun q=>?_)
   ·refine gY (gY (gY (gY (gY (cI q (fun q=>?_) (fun q=>?_))))))
    ·refine gX (gX (gY (cT (cF ?_))))
     cases sE q
     refine E4 [] (R5 (AI TV TV))
    refine gM (gM (gY (cF (cF ?_))))
    cases sE q
    refine E4 [] (R5 (AI TV TV))
   refine gN (gN (gN (gN (gN (gN (cT ?_))))))
   cases sE q
   refine E4 [] (R5 (AI TV TV))
  refine AI (cI q (fun q=>?_) (fun q=>?_)) TV
  ·obtain ⟨r9,h,q⟩:=bE q
   refine OQ ⟨ext3 Lq,[r9.1,r9.2],Lp,AI (ext3I h) ?_⟩
   cases sE q
   refine E4 [] (R4 (AI TV TV))
  cases sE q
  refine E4 [] (R4 (AI TV TV))
 refine AI (OL ?_) TV
 obtain ⟨r10,h,q⟩:=bE q
 refine OL (cA H151 (z7.2,z7.1,(!((decide (a<0))==(decide (b<0))))) h rfl (R3 (K0 ?_)))
 cases sE q
 refine AI rfl (E4 [] (R2 (AI TV TV)))
theorem H121:HI C121 121:=hI Tryz.f121 rfl fun x=>V121 x.1 x.2
def f123 (a:Gm):Option (Int×Int×Bool):=
 bif (decide (a.1<0)) then
 Ey (f128 (a.1,a.2)) fun q4_7=>
 some ((u64.wrap q4_7.1),q4_7.2,true)
 else
 some ((u64.wrap a.1),a.2,false)
def C123:Con:=⟨Gm,Int×Int×Bool,0,fun x=>[.dat T5 x],NX,fun x=>f123 x,fun y=>[.dat T4 y.1,.dat T4 y.2.1,.dat .bool y.2.2],NX,0⟩
theorem V123 a y (q:f123 a=some y):VC Tryz.f123 C123 a y:=by
 unfold f123 at q
 refine OL (OL (OL (cI q (fun q=>?_) (fun q=>?_))))
 ·refine OL ?_
  obtain ⟨q4_7,h,q⟩:=bE q
  refine OL (cA H128 (a.1,a.2) h rfl (R2 (K0 (OL (OL (EI (tU 0 8 .done) (EI [] (EI [] (AI rfl ?_)))))))))
  cases sE q
  refine AI rfl (E4 [] (R4 (AI TV TV)))
 refine OL (EI (tU 0 8 .done) (EI [] (EI [] (AI rfl ?_))))
 cases sE q
 refine AI rfl (E4 [] (R4 (AI TV TV)))
theorem H123:HI C123 123:=hI Tryz.f123 rfl fun x=>V123 x
def f76_j3 (r4:Int) (q6_7:Gm):Option Bool:=
 bif (decide (q6_7.2>(u64.wrap (r4-q6_7.2)))) then
 some true
 else
 bif (q6_7.2==(u64.wrap (r4-q6_7.2))) then
 some ((Fu IntKind.u64 (fun p q=>p&&& q) q6_7.1 (1:Int))==1)
 else
 some false
def f76_j2 (r3:Int×Int×Bool) (r4:Int) (q6_7:Gm):Option Gm:=
 Ey (f76_j3 r4 q6_7) fun z8=>
 bif z8 then
 Ey (Lq q6_7.1 (1:Int) (0:Int)) fun r9=>
 some ((u64.wrap ((u64.wrap (Int.tdiv r3.1 r4))+r9.2)),r9.1)
 else
 some ((u64.wrap (Int.tdiv r3.1 r4)),q6_7.1)
def f76 (a:Gm) (n:Int):Option Int:=
 bif (n==0) then
 Ey (f122 (a.1,a.2) ((0:Int),(0:Int))) fun r1=>
 Ey (f121 r1 (0:Int)) fun r2=>
 some r2
 else
 Ey (f123 (a.1,a.2)) fun r3=>
 Ey (f124 n) fun r4=>
 E9 (r4≠0)<|
 E9 (r4≠0)<|
 Ey (f125 (Int.tmod r3.1 r4) r3.2.1 r4) fun q6_7=>
 Ey (f76_j2 r3 r4 q6_7) fun z7=>
 bif (!(r3.2.2==(decide (n<0)))) then
 Ey (f128 ((i64.wrap (if (9223372036854775807:Int)<z7.1 then (9223372036854775807:Int) else z7.1)),z7.2)) fun r10=>
 Ey (f127 (r10.1,r10.2)) fun r11=>
 some r11
 else
 Ey (f127 ((i64.wrap (if (9223372036854775807:Int)<z7.1 then (9223372036854775807:Int) else z7.1)),z7.2)) fun r12=>
 some r12
def C76:Con:=⟨Gm×Int,Int,0,fun x=>[.dat T5 x.1,.dat T2 x.2],NX,fun x=>f76 x.1 x.2,fun y=>[.dat T2 y],NX,0⟩
theorem V76 a n y (q:f76 a n=some y):VC Tryz.f76 C76 (a,n) y:=by
 unfold f76 at q
 refine OL (OL (OL (cI q (fun q=>?_) (fun q=>?_))))
 ·refine OL ?_
  obtain ⟨r1,h,q⟩:=bE q
  refine OL (cA H122 ((a.1,a.2),((0:Int),(0:Int))) h rfl (R4 (K0 ?_)))
  obtain ⟨r2,h,q⟩:=bE q
  refine OL (cA H121 (r1,(0:Int)) h rfl (R2 (K0 ?_)))
  cases sE q
  refine AI rfl (E4 [] (R2 (AI TV TV)))
 refine OL ?_
 obtain ⟨r3,h,q⟩:=bE q
 refine OL (cA H123 (a.1,a.2) h rfl (R2 (K0 (OL ?_))))
 obtain ⟨r4,h,q⟩:=bE q
 refine OL (cA H124 n h rfl (AI rfl (K0 (OL (OL (EI (tU 0 8 .done) (EI [] (EI [] (AI rfl (gI q (fun q=>?_)))))))))))
 refine gI q (fun q=>?_)
 refine OL ?_
 obtain ⟨q6_7,h,q⟩:=bE q
 refine OL (cA H125 ((Int.tmod r3.1 r4),r3.2.1,r4) h rfl (R3 (K0 ?_)))
 obtain ⟨z7,hz7,q⟩:=bE q
 refine OQ ⟨[(0,⟨[(7,.dat .bool (!(r3.2.2==(decide (n<0))))),(9,.dat T4 z7.1),(11,.dat T4 z7.2)],[],0⟩)],?_,?_⟩
 ·have q:=hz7
  clear hz7
  unfold f76_j2 at q
  obtain ⟨z8,hz8,q⟩:=bE q
  refine OQ ⟨[(0,⟨[(7,.dat .bool (!(r3.2.2==(decide (n<0))))),(9,.dat T4 (u64.wrap (Int.tdiv r3.1 r4))),(11,.dat T4 q6_7.1),(61,.dat .bool z8)],[],0⟩)],?_,?_⟩
  ·have q:=hz8
   clear hz8
   unfold f76_j3 at q
   refine cN q (fun q=>?_) (fun q=>?_)
   ·refine gY (gY (gY (gY (gY (cI q (fun q=>?_) (fun q=>?_))))))
    ·refine gX (gX (gY (cT (cF ?_))))
     cases sE q
     refine E4 [] (R5 (AI TV TV))
    refine gM (gM (gY (cF (cF ?_))))
    cases sE q
    refine E4 [] (R5 (AI TV TV))
   refine gN (gN (gN (gN (gN (gN (cT ?_))))))
   cases sE q
   refine E4 [] (R5 (AI TV TV))
  refine AI (cI q (fun q=>?_) (fun q=>?_)) TV
  ·refine OL (OL ?_)
   obtain ⟨r9,h,q⟩:=bE q
   refine OQ ⟨ext3 Lq,[r9.1,r9.2],Lp,AI (ext3I h) ?_⟩
   cases sE q
   refine E4 [] (R4 (AI TV TV))
  cases sE q
  refine E4 [] (R4 (AI TV TV))
 refine AI (OL (OL (OL (OL (cI q (fun q=>?_) (fun q=>?_)))))) TV
 ·refine OL ?_
  obtain ⟨r10,h,q⟩:=bE q
  refine OL (cA H128 ((i64.wrap (if (9223372036854775807:Int)<z7.1 then (9223372036854775807:Int) else z7.1)),z7.2) h rfl (R2 (K0 ?_)))
  obtain ⟨r11,h,q⟩:=bE q
  refine OL (cA H127 (r10.1,r10.2) h rfl (R2 (K0 ?_)))
  cases sE q
  refine AI rfl (E4 [] (R2 (AI TV TV)))
 refine OL ?_
 obtain ⟨r12,h,q⟩:=bE q
 refine OL (cA H127 ((i64.wrap (if (9223372036854775807:Int)<z7.1 then (9223372036854775807:Int) else z7.1)),z7.2) h rfl (R2 (K0 ?_)))
 cases sE q
 refine AI rfl (E4 [] (R2 (AI TV TV)))
theorem H76:HI C76 76:=hI Tryz.f76 rfl fun x=>V76 x.1 x.2
def f99 (a:Fx):Option Gm:=
 Ey (f28 (a.1,a.2)) fun q3_8=>
 bif (!q3_8) then
 some ((0:Int),(1:Int))
 else
 Ey (f143 a.2) fun q3_2=>
 Ey (f76 (q3_2.1,q3_2.2) (a.2.length:Int)) fun q3_6=>
 some (q3_6,(0:Int))
def C99:Con:=⟨Fx,Gm,0,fun x=>[.dat T3 x],NX,fun x=>f99 x,fun y=>[.dat T2 y.1,.dat T2 y.2],NX,0⟩
theorem V99 a y (q:f99 a=some y):VC Tryz.f99 C99 a y:=by
 unfold f99 at q
 refine OL (OL (OL ?_))
 obtain ⟨q3_8,h,q⟩:=bE q
 refine OL (cA H28 (a.1,a.2) h rfl (R2 (K0 (cI q (fun q=>?_) (fun q=>?_)))))
 ·cases sE q
  refine OL (AI rfl (E4 [] (R3 (AI TV TV))))
 refine OL (EI (.take 0 (.take 1 (tU 3 3 (.alt 2 (.alt 6 (.take 7 (.take 8 .done)) .done) .done)))) (EI [] (EI [] (AI rfl (AI TV ?_)))))
 obtain ⟨q3_2,h,q⟩:=bE q
 refine OL (cA H143 a.2 h rfl (AI rfl (K0 (AI TV ?_))))
 obtain ⟨q3_6,h,q⟩:=bE q
 refine OL (cA H76 ((q3_2.1,q3_2.2),(a.2.length:Int)) h rfl (R3 (K0 ?_)))
 cases sE q
 refine AI rfl (E4 [] (R3 (AI TV TV)))
theorem H99:HI C99 99:=hI Tryz.f99 rfl fun x=>V99 x
def f129 (kind:Int):Option Bool:=
 bif (decide (kind≥1)) then
 some (decide (kind≤5))
 else
 some false
def C129:Con:=⟨Int,Bool,0,fun x=>[.dat T2 x],NX,fun x=>f129 x,fun y=>[.dat .bool y],NX,0⟩
theorem V129 kind y (q:f129 kind=some y):VC Tryz.f129 C129 kind y:=by
 unfold f129 at q
 refine OL (OL (cI q (fun q=>?_) (fun q=>?_)))
 ·refine gX (cT ?_)
  cases sE q
  refine AI rfl (E4 [] (R2 (AI TV TV)))
 refine gM (cF ?_)
 cases sE q
 refine AI rfl (E4 [] (R2 (AI TV TV)))
theorem H129:HI C129 129:=hI Tryz.f129 rfl fun x=>V129 x
def f159 (n:Int):Option Int:=
 bif (decide (n≥2147483648)) then
 some (9223372036854775807:Int)
 else
 bif (decide (n<(-2147483648:Int))) then
 some (-9223372036854775808:Int)
 else
 some (i64.wrap (n*2 ^ min (Int.toNat (32:Int)) i64.bits))
def C159:Con:=⟨Int,Int,0,fun x=>[.dat T2 x],NX,fun x=>f159 x,fun y=>[.dat T2 y],NX,0⟩
theorem V159 n y (q:f159 n=some y):VC Tryz.f159 C159 n y:=by
 unfold f159 at q
 refine OL (OL (OL (cI q (fun q=>?_) (fun q=>?_))))
 ·cases sE q
  refine OL (AI rfl (E4 [] (R2 (AI TV TV))))
 refine OL (cI q (fun q=>?_) (fun q=>?_))
 ·cases sE q
  refine OL (AI rfl (E4 [] (R2 (AI TV TV))))
 refine OL (AI (by decide) ?_)
 cases sE q
 refine AI rfl (E4 [] (R2 (AI TV TV)))
theorem H159:HI C159 159:=hI Tryz.f159 rfl fun x=>V159 x
def f160 (x_ lo hi:Int):Option Int:=
 some (if hi<(if lo>x_ then lo else x_) then hi else (if lo>x_ then lo else x_))
def C160:Con:=⟨PTz7,Int,0,fun x=>[.dat T2 x.1,.dat T2 x.2.1,.dat T2 x.2.2],NX,fun x=>f160 x.1 x.2.1 x.2.2,fun y=>[.dat T2 y],NX,0⟩
theorem V160 x_ lo hi y (q:f160 x_ lo hi=some y):VC Tryz.f160 C160 (x_,lo,hi) y:=by
 unfold f160 at q
 refine OL (OL ?_)
 cases sE q
 refine AI rfl (E4 [] (R2 (AI TV TV)))
theorem H160:HI C160 160:=hI Tryz.f160 rfl fun x=>V160 x.1 x.2.1 x.2.2
def f161 (a:Int):Option Int:=
 bif (a==(-9223372036854775808:Int)) then
 some (9223372036854775807:Int)
 else
 some (i64.wrap (0-a))
def C161:Con:=⟨Int,Int,0,fun x=>[.dat T2 x],NX,fun x=>f161 x,fun y=>[.dat T2 y],NX,0⟩
theorem V161 a y (q:f161 a=some y):VC Tryz.f161 C161 a y:=by
 unfold f161 at q
 refine OL (OL (OL (cI q (fun q=>?_) (fun q=>?_))))
 ·cases sE q
  refine OL (AI rfl (E4 [] (R2 (AI TV TV))))
 cases sE q
 refine OL (AI rfl (E4 [] (R2 (AI TV TV))))
theorem H161:HI C161 161:=hI Tryz.f161 rfl fun x=>V161 x
def f144 (kind x_:Int):Option Gm:=
 bif (kind==1) then
 some ((if (0:Int)>x_ then (0:Int) else x_),(0:Int))
 else
 bif (kind==2) then
 bif (decide (x_>0)) then
 some (x_,(0:Int))
 else
 Ey (f159 (8:Int)) fun r1=>
 Ey (f121 x_ r1) fun r2=>
 some (r2,(0:Int))
 else
 bif (kind==3) then
 Ey (f160 x_ (-4294967296:Int) (4294967296:Int)) fun r3=>
 some (r3,(0:Int))
 else
 bif (kind==4) then
 bif (decide (x_<0)) then
 Ey (f161 x_) fun r4=>
 some (r4,(0:Int))
 else
 some (x_,(0:Int))
 else
 bif (kind==5) then
 Ey (f159 (2:Int)) fun r5=>
 Ey (f121 x_ r5) fun r6=>
 Ey (f112 r6 (2147483648:Int)) fun r7=>
 Ey (f160 r7 (0:Int) (4294967296:Int)) fun r8=>
 some (r8,(0:Int))
 else
 some ((0:Int),(1:Int))
def C144:Con:=⟨Gm,Gm,0,fun x=>[.dat T2 x.1,.dat T2 x.2],NX,fun x=>f144 x.1 x.2,fun y=>[.dat T2 y.1,.dat T2 y.2],NX,0⟩
theorem V144 kind x_ y (q:f144 kind x_=some y):VC Tryz.f144 C144 (kind,x_) y:=by
 unfold f144 at q
 refine OL (OL (OL (OL (cI q (fun q=>?_) (fun q=>?_)))))
 ·cases sE q
  refine OL (AI rfl (E4 [] (R3 (AI TV TV))))
 refine OL (cI q (fun q=>?_) (fun q=>?_))
 ·refine OL (OL (cI q (fun q=>?_) (fun q=>?_)))
  ·cases sE q
   refine OL (AI rfl (E4 [] (R3 (AI TV TV))))
  refine OL ?_
  obtain ⟨r1,h,q⟩:=bE q
  refine OL (cA H159 (8:Int) h rfl (AI rfl (K0 ?_)))
  obtain ⟨r2,h,q⟩:=bE q
  refine OL (cA H121 (x_,r1) h rfl (R2 (K0 ?_)))
  cases sE q
  refine AI rfl (E4 [] (R3 (AI TV TV)))
 refine OL (cI q (fun q=>?_) (fun q=>?_))
 ·refine OL ?_
  obtain ⟨r3,hr3,q⟩:=bE q
  have hr3:C160.F (x_,(-4294967296:Int),(4294967296:Int))=some r3:=hr3
  refine OL (cA H160 _ hr3 rfl (R3 (K0 ?_)))
  cases sE q
  refine AI rfl (E4 [] (R3 (AI TV TV)))
 refine OL (cI q (fun q=>?_) (fun q=>?_))
 ·refine OL (OL (cI q (fun q=>?_) (fun q=>?_)))
  ·refine OL ?_
   obtain ⟨r4,h,q⟩:=bE q
   refine OL (cA H161 x_ h rfl (AI rfl (K0 ?_)))
   cases sE q
   refine AI rfl (E4 [] (R3 (AI TV TV)))
  cases sE q
  refine OL (AI rfl (E4 [] (R3 (AI TV TV))))
 refine OL (cI q (fun q=>?_) (fun q=>?_))
 ·refine OL ?_
  obtain ⟨r5,h,q⟩:=bE q
  refine OL (cA H159 (2:Int) h rfl (AI rfl (K0 ?_)))
  obtain ⟨r6,h,q⟩:=bE q
  refine OL (cA H121 (x_,r5) h rfl (R2 (K0 ?_)))
  obtain ⟨r7,h,q⟩:=bE q
  refine OL (cA H112 (r6,(2147483648:Int)) h rfl (R2 (K0 ?_)))
  obtain ⟨r8,h,q⟩:=bE q
  refine OL (cA H160 (r7,(0:Int),(4294967296:Int)) h rfl (R3 (K0 ?_)))
  cases sE q
  refine AI rfl (E4 [] (R3 (AI TV TV)))
 cases sE q
 refine OL (AI rfl (E4 [] (R3 (AI TV TV))))
theorem H144:HI C144 144:=hI Tryz.f144 rfl fun x=>V144 x.1 x.2
def f100_j3 (kind:Int) (t:Fx):Option Bool:=
 Ey (f129 kind) fun r9=>
 bif (!r9) then
 some true
 else
 Ey (f28 (t.1,t.2)) fun r10=>
 some (!r10)
def f100_j2 (kind:Int) (t:Fx):Option (Sum Unit Unit):=
 Ey (f100_j3 kind t) fun z8=>
 bif z8 then
 some (Sum.inr ())
 else
 some (Sum.inl ())
def f100_l4 (kind:Int) (t:Fx) (go:Jv→Option LI) (v23:Int) (l3:LI):Option LI:=
 bif (decide (v23<t.2.length)) then
 E9 (0≤v23∧v23<t.2.length)<|
 Ey (f144 kind (rd 0 t.2 v23)) fun q7_5=>
 E9 (0≤v23∧v23<l3.length)<|
 go ((i64.wrap (v23+1)),(List.set l3 (Int.toNat v23) q7_5.1))
 else
 some l3
def f100 (kind:Int) (t:Fx):Option Gl:=
 Ey (f100_j2 kind t) fun z5=>
 Fz z5 (fun z5a=>
 Ey (f48 (t.1,t.2)) fun r11=>
 Ey (Fp (fun go x=>f100_l4 kind t go x.1 x.2) Fv ((0:Int),r11.2)) fun z12=>
 some ((0:Int),r11.1,z12)) (fun z5b=>
 some ((1:Int),[],[]))
def C100:Con:=⟨Gl,Gl,0,fun x=>[.dat T2 x.1,.dat T3 x.2],NX,fun x=>f100 x.1 x.2,fun y=>[.raw true [(.osl 0),(.osl 1)],.dat T2 y.1],fun y=>[(0,.arr 3 T2 y.2.1),(1,.arr 42 T2 y.2.2)],2⟩
theorem V100 kind t y (q:f100 kind t=some y):VC Tryz.f100 C100 (kind,t) y:=by
 unfold f100 at q
 refine OL ?_
 obtain ⟨z5,hz5,q⟩:=bE q
 refine OQ ⟨Sum.elim (fun z5a=>[(0,⟨[(0,.dat T2 kind),(3,P0 0 0),(4,P0 1 0)],[(0,.cells [(.d T1 t.1),(.d T1 t.2)]),(1,.cells [N0,N0])],2⟩)]) (fun z5b=>[(1,⟨[(4,P0 0 0),(5,D0 1)],[(0,.cells [N0,N0])],1⟩)]) z5,?_,?_⟩
 ·have q:=hz5
  clear hz5
  unfold f100_j2 at q
  obtain ⟨z8,hz8,q⟩:=bE q
  refine OQ ⟨[(0,⟨[(0,.dat T2 kind),(3,P0 0 0),(4,P0 1 0),(16,.dat .bool z8)],[(0,.cells [(.d T1 t.1),(.d T1 t.2)]),(1,.cells [N0,N0])],2⟩)],?_,?_⟩
  ·have q:=hz8
   clear hz8
   unfold f100_j3 at q
   obtain ⟨r9,h,q⟩:=bE q
   refine OL (cA H129 kind h rfl (AI rfl (K0 (cN q (fun q=>?_) (fun q=>?_)))))
   ·refine gY ?_
    obtain ⟨r10,h,q⟩:=bE q
    refine OL (cA H28 (t.1,t.2) h rfl (R2 (K0 (gY (cF ?_)))))
    cases sE q
    refine E4 I2 (R3 (AI (R2 TV) (R2 TV)))
   refine gN (gN (cT ?_))
   cases sE q
   refine E4 I2 (R3 (AI (R2 TV) (R2 TV)))
  refine AI (cI q (fun q=>?_) (fun q=>?_)) TV
  ·refine OL (OL ?_)
   cases sE q
   refine E4 (iuR [2]) (R2 (AJ (AI rfl TV)))
  cases sE q
  refine E4 I2 (R2 (AI (R2 TV) (R2 TV)))
 rcases z5 with z5a | z5b
 ·dsimp only [Fz] at q
  refine AI (OL ?_) TV
  obtain ⟨r11,h,q⟩:=bE q
  refine OL (cA H48 (t.1,t.2) h rfl (R2 (K0 (OL (OL (OL ?_))))))
  obtain ⟨z12,hz12,q⟩:=bE q
  let h0:LH:=fun zz=>(0,.cells [N0,N0])::(1,.cells [(.osl 2),(.osl 3)])::(2,.arr 3 T2 r11.1)::zz
  refine lJ hz12 (fun x=>⟨[(0,.dat T2 kind),(4,P0 0 0),(6,P0 1 0),(21,.dat T1 t.2),(22,.dat T2 (t.2.length:Int)),(23,.dat T2 x.1)],h0 [(3,.arr 42 T2 x.2)],4⟩) (fun z=>[(2,⟨[(4,P0 0 0),(6,P0 1 0)],h0 [(3,.arr 42 T2 z)],4⟩)]) (E4 (iuR [2,5,3,4]) (R5 (AI (R2 TV) (R4 TV)))) (fun m=>F6 (fun v23=>fun l3 z q=>?_)) ?_
  ·have q:f100_l4 kind t _ v23 l3=some z:=q
   unfold f100_l4 at q
   refine OL (OL (cI q (fun q=>?_) (fun q=>?_)))
   ·refine OL (OL (gI q (fun q=>?_)))
    refine EI (tU 0 5 (.alt 5 (tU 6 4 (.alt 10 .done .done)) .done)) (EI [] (EI [] (AI rfl (AI TV ?_))))
    obtain ⟨q7_5,h,q⟩:=bE q
    refine OL (cA H144 (kind,(rd 0 t.2 v23)) h rfl (R2 (K0 (gI q (fun q=>?_)))))
    refine AI TV (OL (EI ((i64.wrap (v23+1)),(List.set l3 (Int.toNat v23) q7_5.1)) (AI q (E4 I4 (R5 (AI (R2 TV) (R4 TV)))))))
   cases sE q
   refine E4 I4 (AI rfl (AI (R2 TV) (R4 TV)))
  refine AI (OL (OL ?_)) TV
  cases sE q
  refine AI rfl (E4 (iuR [3,4]) (R2 (AJ (R2 TV))))
 dsimp only [Fz] at q
 refine AI ?_ TV
 cases sE q
 refine AI rfl (E4 (iuR [0,0]) (R2 (AJ (R2 TV))))
theorem H100:HI C100 100:=hI Tryz.f100 rfl fun x=>V100 x.1 x.2
def f101_j3 (a:Fx) (wid:Int):Option Bool:=
 bif (decide (wid<1)) then
 some true
 else
 E9 (0≤(1:Int)∧1<(a.1.length:Int))<|
 some (decide (wid>(rd 0 a.1 1)))
def f101_j2 (a:Fx) (wid:Int):Option (Sum Unit Int):=
 Ey (f28 (a.1,a.2)) fun r4=>
 bif (!r4) then
 some (Sum.inr (1:Int))
 else
 bif ((a.1.length:Int) != 2) then
 some (Sum.inr (4:Int))
 else
 Ey (f101_j3 a wid) fun z5=>
 bif z5 then
 some (Sum.inr (1:Int))
 else
 some (Sum.inl ())
def f101_l7 (a:Fx) (wid v61:Int) (go:Gm→Option Int) (best at_:Int):Option Int:=
 E9 ((i64.wrap (Int.tdiv (rd 0 a.1 1) wid))≠0)<|
 E9 ((i64.wrap (Int.tdiv (rd 0 a.1 1) wid))≠0)<|
 bif (decide (at_<(i64.wrap ((i64.wrap ((i64.wrap ((i64.wrap (Int.tdiv v61 (i64.wrap (Int.tdiv (rd 0 a.1 1) wid))))*(rd 0 a.1 1)))+(i64.wrap ((Int.tmod v61 (i64.wrap (Int.tdiv (rd 0 a.1 1) wid)))*wid))))+wid)))) then
 E9 (0≤at_∧at_<a.2.length)<|
 E9 (0≤best∧best<a.2.length)<|
 bif (decide ((rd 0 a.2 at_)>(rd 0 a.2 best))) then
 go (at_,(i64.wrap (at_+1)))
 else
 go (best,(i64.wrap (at_+1)))
 else
 some best
def f101_l6 (a:Fx) (wid:Int) (q7_11:Gl) (go:Gl→Option Fx) (v61:Int) (l3 l5:LI):Option Fx:=
 bif (decide (v61<q7_11.2.2.length)) then
 E9 ((i64.wrap (Int.tdiv (rd 0 a.1 1) wid))≠0)<|
 E9 ((i64.wrap (Int.tdiv (rd 0 a.1 1) wid))≠0)<|
 Ey (Fp (fun go x=>f101_l7 a wid v61 go x.1 x.2) Fv ((i64.wrap ((i64.wrap ((i64.wrap (Int.tdiv v61 (i64.wrap (Int.tdiv (rd 0 a.1 1) wid))))*(rd 0 a.1 1)))+(i64.wrap ((Int.tmod v61 (i64.wrap (Int.tdiv (rd 0 a.1 1) wid)))*wid)))),(i64.wrap ((i64.wrap ((i64.wrap ((i64.wrap (Int.tdiv v61 (i64.wrap (Int.tdiv (rd 0 a.1 1) wid))))*(rd 0 a.1 1)))+(i64.wrap ((Int.tmod v61 (i64.wrap (Int.tdiv (rd 0 a.1 1) wid)))*wid))))+1)))) fun z9=>
 E9 (0≤z9∧z9<a.2.length)<|
 E9 (0≤v61∧v61<l5.length)<|
 E9 ((l3.length+List.length ([z9]))*8≤140737488355328)<|
 go ((i64.wrap (v61+1)),(l3++([z9])),(List.set l5 (Int.toNat v61) (rd 0 a.2 z9)))
 else
 some (l3,l5)
def f101 (a:Fx) (wid:Int):Option (Int×LI×Fx):=
 Ey (f101_j2 a wid) fun z3=>
 Fz z3 (fun z3a=>
 E9 (0≤(1:Int)∧1<(a.1.length:Int))<|
 E9 (0≤(1:Int)∧1<(a.1.length:Int))<|
 E9 (wid≠0)<|
 E9 (0≤(0:Int)∧0<(a.1.length:Int))<|
 Ey (f134 ([(rd 0 a.1 0),(i64.wrap (Int.tdiv (rd 0 a.1 1) wid))])) fun q7_11=>
 Ey (Fp (fun go x=>f101_l6 a wid q7_11 go x.1 x.2.1 x.2.2) Fv ((0:Int),[],q7_11.2.2)) fun z8=>
 some ((0:Int),q7_11.2.1,z8.2,z8.1)) (fun z3b=>
 some (z3b,[],[],[]))
def C101:Con:=⟨Fx×Int,Int×LI×Fx,0,fun x=>[.dat T3 x.1,.dat T2 x.2],NX,fun x=>f101 x.1 x.2,fun y=>[.raw true [(.osl 0),(.osl 1)],O0 2,.dat T2 y.1],fun y=>[(0,.arr 3 T2 y.2.1),(1,.arr 42 T2 y.2.2.1),(2,.arr 3 T2 y.2.2.2)],3⟩
theorem V101 a wid y (q:f101 a wid=some y):VC Tryz.f101 C101 (a,wid) y:=by
 unfold f101 at q
 refine OL ?_
 obtain ⟨z3,hz3,q⟩:=bE q
 let e0:LE:=fun zz=>(1,.dat T2 wid)::(2,P0 0 0)::(4,P0 1 0)::zz
 let h1:LH:=fun zz=>(0,.cells [(.d T1 a.1),(.d T1 a.2)])::(1,.cells [N0,N0])::zz
 refine OQ ⟨Sum.elim (fun z3a=>[(0,⟨e0 [],h1 [],2⟩)]) (fun z3b=>[(1,⟨[(4,P0 0 0),(5,.raw false [N0]),(6,.dat T2 z3b)],[(0,.cells [N0,N0])],1⟩)]) z3,?_,?_⟩
 ·have q:=hz3
  clear hz3
  unfold f101_j2 at q
  refine OL ?_
  obtain ⟨r4,h,q⟩:=bE q
  refine OL (cA H28 (a.1,a.2) h rfl (R2 (K0 (cI q (fun q=>?_) (fun q=>?_)))))
  ·refine OL (OL ?_)
   cases sE q
   refine E4 (iuR [2]) (R2 (AI (R2 TV) (AI rfl TV)))
  refine OL (cI q (fun q=>?_) (fun q=>?_))
  ·refine OL (OL ?_)
   cases sE q
   refine E4 (iuR [2]) (R2 (AI (R2 TV) (AI rfl TV)))
  obtain ⟨z5,hz5,q⟩:=bE q
  refine OQ ⟨[(0,⟨e0 [(26,.dat .bool z5)],h1 [],2⟩)],?_,?_⟩
  ·have q:=hz5
   clear hz5
   unfold f101_j3 at q
   refine cN q (fun q=>?_) (fun q=>?_)
   ·refine gY (gY (gY (gI q (fun q=>?_))))
    refine gY (gY (cF ?_))
    cases sE q
    refine E4 I2 (R3 (AI (R2 TV) (R2 TV)))
   refine gN (gN (gN (gN (gN (cT ?_)))))
   cases sE q
   refine E4 I2 (R3 (AI (R2 TV) (R2 TV)))
  refine AI (cI q (fun q=>?_) (fun q=>?_)) TV
  ·refine OL (OL ?_)
   cases sE q
   refine E4 (iuR [2]) (R2 (AI (R2 TV) (AI rfl TV)))
  cases sE q
  refine E4 I2 (R2 (AI (R2 TV) (R2 TV)))
 rcases z3 with z3a | z3b
 ·dsimp only [Fz] at q
  refine AI (OL (EI (tU 0 12 .done) (EI [] (EI [] (AI rfl (gI q (fun q=>?_))))))) TV
  refine gI q (fun q=>?_)
  refine gI q (fun q=>?_)
  refine OL (gI q (fun q=>?_))
  refine OL ?_
  obtain ⟨q7_11,h,q⟩:=bE q
  refine OL (cD H134 [(rd 0 a.1 0),(i64.wrap (Int.tdiv (rd 0 a.1 1) wid))] h rfl (AI rfl (AI (fun _=>rfl) (R2 (AI TV (AI TV (OL (OL (OL (OL ?_))))))))))
  obtain ⟨z8,hz8,q⟩:=bE q
  let e2:LE:=fun zz=>e0 ((7,.dat T2 (rd 0 a.1 1))::(8,.dat T2 (i64.wrap (Int.tdiv (rd 0 a.1 1) wid)))::(9,P0 2 0)::(11,O0 3)::zz)
  let h3:LH:=fun zz=>h1 ((2,.cells [(.osl 4),(.osl 5)])::zz)
  refine lJ hz8 (fun x=>⟨e2 [(60,.dat T2 (q7_11.2.2.length:Int)),(61,.dat T2 x.1)],h3 [(3,.arr 3 T2 x.2.1),(4,.arr 3 T2 q7_11.2.1),(5,.arr 42 T2 x.2.2)],6⟩) (fun z=>[(3,⟨[(4,P0 0 0),(9,P0 1 0),(11,O0 2)],[(0,.cells [N0,N0]),(1,.cells [(.osl 3),(.osl 4)]),(2,.arr 3 T2 z.1),(3,.arr 3 T2 q7_11.2.1),(4,.arr 42 T2 z.2)],5⟩)]) (E4 (iuR [1,2,6,0,4,5]) (R6 (AI (R4 TV) (R6 TV)))) (fun m=>F6 (fun v61=>F6 (fun l3=>fun l5 z q=>?_))) ?_
  ·have q:f101_l6 a wid q7_11 _ v61 l3 l5=some z:=q
   unfold f101_l6 at q
   refine OL (OL (cI q (fun q=>?_) (fun q=>?_)))
   ·refine OL (OL (OL (EI (tU 0 12 .done) (EI [] (EI [] (AI rfl (gI q (fun q=>?_))))))))
    refine gI q (fun q=>?_)
    refine OL (OL ?_)
    obtain ⟨z9,hz9,q⟩:=bE q
    let h4:LH:=fun zz=>h3 ((3,.arr 3 T2 l3)::(4,.arr 3 T2 q7_11.2.1)::(5,.arr 42 T2 l5)::zz)
    refine lJ hz9 (fun x=>⟨e2 [(12,.dat T2 v61),(13,.dat T2 x.1),(14,.dat T2 x.2),(60,.dat T2 (q7_11.2.2.length:Int)),(61,.dat T2 v61)],h4 [],6⟩) (fun z=>[(5,⟨e2 [(12,.dat T2 v61),(13,.dat T2 z),(60,.dat T2 (q7_11.2.2.length:Int)),(61,.dat T2 v61)],h4 [],6⟩)]) (E4 I6 (R9 (AI (R4 TV) (R6 TV)))) (fun m=>F6 (fun best=>fun at_ z q=>?_)) ?_
    ·have q:f101_l7 a wid v61 _ best at_=some z:=q
     unfold f101_l7 at q
     refine OL (OL (EI (tU 0 15 .done) (EI [] (EI [] (AI rfl (gI q (fun q=>?_)))))))
     refine gI q (fun q=>?_)
     refine cI q (fun q=>?_) (fun q=>?_)
     ·refine OL (OL (EI (tU 0 11 .done) (EI [] (EI [] (AI rfl (gI q (fun q=>?_)))))))
      refine gI q (fun q=>?_)
      refine cI q (fun q=>?_) (fun q=>?_)
      ·refine EI (at_,(i64.wrap (at_+1))) (AI q (E4 I6 (R9 (AI (R4 TV) (R6 TV)))))
      refine EI (best,(i64.wrap (at_+1))) (AI q (E4 I6 (R9 (AI (R4 TV) (R6 TV)))))
     cases sE q
     refine E4 I6 (R8 (AI (R4 TV) (R6 TV)))
    refine AI (OL (EI (tU 0 9 (.alt 9 .done .done)) (EI [] (EI [] (AI rfl (gI q (fun q=>?_))))))) TV
    refine gI q (fun q=>?_)
    refine AI TV (OL (OL (OL (gI q (fun q=>?_)))))
    refine EI ((i64.wrap (v61+1)),(l3++([z9])),(List.set l5 (Int.toNat v61) (rd 0 a.2 z9))) (AI q (E4 (iuR [1,2,3,8,5,6]) (R6 (AI (R4 TV) (R6 TV)))))
   cases sE q
   refine E4 (iuR [2,3,4,5,6]) (AI rfl (AI (R3 TV) (R5 TV)))
  refine AI (OL (OL ?_)) TV
  cases sE q
  refine AI rfl (E4 (iuR [4,5,3]) (R2 (AI (R2 TV) (R3 TV))))
 dsimp only [Fz] at q
 refine AI ?_ TV
 cases sE q
 refine AI rfl (E4 (iuR [0,0,0]) (R2 (AI (R2 TV) (R3 TV))))
theorem H101:HI C101 101:=hI Tryz.f101 rfl fun x=>V101 x.1 x.2
def f81_j3 (a:Fx) (d:LI):Option Bool:=
 Ey (f28 (a.1,a.2)) fun r8=>
 bif (!r8) then
 some true
 else
 Ey (f57 d) fun r9=>
 some (!r9)
def f81_j2 (a:Fx) (d:LI):Option (Sum Unit Int):=
 Ey (f81_j3 a d) fun z7=>
 bif z7 then
 some (Sum.inr (1:Int))
 else
 Ey (f60 d) fun q3_1=>
 bif (q3_1 != a.2.length) then
 some (Sum.inr (4:Int))
 else
 some (Sum.inl ())
def f81 (a:Fx) (d:LI):Option Gl:=
 Ey (f81_j2 a d) fun z5=>
 Fz z5 (fun z5a=>
 Ey (f58 d) fun q5_1=>
 Ey (f92 a.2) fun q5_4=>
 some ((0:Int),q5_1,q5_4)) (fun z5b=>
 some (z5b,[],[]))
def C81:Con:=⟨Fx×LI,Gl,0,fun x=>[.dat T3 x.1,.dat T1 x.2],NX,fun x=>f81 x.1 x.2,fun y=>[.raw true [(.osl 0),(.osl 1)],.dat T2 y.1],fun y=>[(0,.arr 3 T2 y.2.1),(1,.arr 42 T2 y.2.2)],2⟩
theorem V81 a d y (q:f81 a d=some y):VC Tryz.f81 C81 (a,d) y:=by
 unfold f81 at q
 refine OL ?_
 obtain ⟨z5,hz5,q⟩:=bE q
 refine OQ ⟨Sum.elim (fun z5a=>[(0,⟨[(1,.dat T1 d),(2,P0 0 0),(4,P0 1 0)],[(0,.cells [(.d T1 a.1),(.d T1 a.2)]),(1,.cells [N0,N0])],2⟩)]) (fun z5b=>[(1,⟨[(4,P0 0 0),(5,.dat T2 z5b)],[(0,.cells [N0,N0])],1⟩)]) z5,?_,?_⟩
 ·have q:=hz5
  clear hz5
  unfold f81_j2 at q
  obtain ⟨z7,hz7,q⟩:=bE q
  refine OQ ⟨[(0,⟨[(1,.dat T1 d),(2,P0 0 0),(4,P0 1 0),(6,.dat .bool z7)],[(0,.cells [(.d T1 a.1),(.d T1 a.2)]),(1,.cells [N0,N0])],2⟩)],?_,?_⟩
  ·have q:=hz7
   clear hz7
   unfold f81_j3 at q
   obtain ⟨r8,h,q⟩:=bE q
   refine OL (cA H28 (a.1,a.2) h rfl (R2 (K0 (cN q (fun q=>?_) (fun q=>?_)))))
   ·refine gY ?_
    obtain ⟨r9,h,q⟩:=bE q
    refine OL (cA H57 d h rfl (AI rfl (K0 (gY (cF ?_)))))
    cases sE q
    refine E4 I2 (R3 (AI (R2 TV) (R2 TV)))
   refine gN (gN (cT ?_))
   cases sE q
   refine E4 I2 (R3 (AI (R2 TV) (R2 TV)))
  refine AI (cI q (fun q=>?_) (fun q=>?_)) TV
  ·refine OL (OL ?_)
   cases sE q
   refine E4 (iuR [2]) (R2 (AJ (AI rfl TV)))
  refine OL (EI (.take 0 (tU 2 3 (.alt 1 (.take 5 (.take 6 .done)) .done))) (EI [] (EI [] (AI rfl (AI TV ?_)))))
  obtain ⟨q3_1,h,q⟩:=bE q
  refine OL (cA H60 d h rfl (AI rfl (K0 (cI q (fun q=>?_) (fun q=>?_)))))
  ·refine OL (OL ?_)
   cases sE q
   refine E4 (iuR [2]) (R2 (AJ (AI rfl TV)))
  cases sE q
  refine E4 I2 (R2 (AI (R2 TV) (R2 TV)))
 rcases z5 with z5a | z5b
 ·dsimp only [Fz] at q
  refine AI (OL (EI (.take 0 (.take 2 (.take 3 (.alt 1 (.alt 4 (.take 5 (.alt 6 (.take 7 .done) .done)) .done) .done)))) (EI [] (EI [] (AI rfl (AI TV ?_)))))) TV
  obtain ⟨q5_1,h,q⟩:=bE q
  refine OL (cA H58 d h rfl (AI rfl (K0 (AI TV ?_))))
  obtain ⟨q5_4,h,q⟩:=bE q
  refine OL (cA H92 a.2 h rfl (AI rfl (K0 (AI TV (OL ?_)))))
  cases sE q
  refine AI rfl (E4 (iuR [3,4]) (R2 (AJ (R2 TV))))
 dsimp only [Fz] at q
 refine AI ?_ TV
 cases sE q
 refine AI rfl (E4 (iuR [0,0]) (R2 (AJ (R2 TV))))
theorem H81:HI C81 81:=hI Tryz.f81 rfl fun x=>V81 x.1 x.2
def f53 (op:Int) (a:Fx) (k:Int):Option Gl:=
 bif (op==5) then
 Ey (f72 (a.1,a.2) k) fun r1=>
 some (r1.1,r1.2.1,r1.2.2)
 else
 bif (op==7) then
 Ey (f74 (a.1,a.2)) fun r2=>
 some (r2.1,r2.2.1,r2.2.2)
 else
 bif (op==8) then
 Ey (f96 (a.1,a.2) k) fun r3=>
 some (r3.1,r3.2.1,r3.2.2)
 else
 bif (op==9) then
 Ey (f98 (a.1,a.2)) fun r4=>
 Ey (f97 r4.1 r4.2) fun r5=>
 some (r5.1,r5.2.1,r5.2.2)
 else
 bif (op==10) then
 Ey (f99 (a.1,a.2)) fun r6=>
 Ey (f97 r6.1 r6.2) fun r7=>
 some (r7.1,r7.2.1,r7.2.2)
 else
 bif (op==11) then
 Ey (f100 k (a.1,a.2)) fun r8=>
 some (r8.1,r8.2.1,r8.2.2)
 else
 bif (op==13) then
 Ey (f101 (a.1,a.2) k) fun r9=>
 some (r9.1,r9.2.1,r9.2.2.1)
 else
 Ey (f81 (a.1,a.2) ([(a.2.length:Int)])) fun r10=>
 some (r10.1,r10.2.1,r10.2.2)
def C53:Con:=⟨Int×Fx×Int,Gl,0,fun x=>[.dat T2 x.1,.dat T3 x.2.1,.dat T2 x.2.2],NX,fun x=>f53 x.1 x.2.1 x.2.2,fun y=>[.raw true [(.osl 0),(.osl 1)],.dat T2 y.1],fun y=>[(0,.arr 3 T2 y.2.1),(1,.arr 42 T2 y.2.2)],2⟩
theorem V53 op a k y (q:f53 op a k=some y):VC Tryz.f53 C53 (op,a,k) y:=by
 unfold f53 at q
 refine OL (OL (OL (OL (cI q (fun q=>?_) (fun q=>?_)))))
 ·refine OL ?_
  obtain ⟨r1,h,q⟩:=bE q
  refine OL (cA H72 ((a.1,a.2),k) h rfl (R3 (K0 (OL ?_))))
  cases sE q
  refine AI rfl (E4 (iuR [3,4]) (R2 (AJ (R2 TV))))
 refine OL (cI q (fun q=>?_) (fun q=>?_))
 ·refine OL ?_
  obtain ⟨r2,h,q⟩:=bE q
  refine OL (cA H74 (a.1,a.2) h rfl (R2 (K0 (OL ?_))))
  cases sE q
  refine AI rfl (E4 (iuR [3,4]) (R2 (AJ (R2 TV))))
 refine OL (cI q (fun q=>?_) (fun q=>?_))
 ·refine OL ?_
  obtain ⟨r3,h,q⟩:=bE q
  refine OL (cA H96 ((a.1,a.2),k) h rfl (R3 (K0 (OL ?_))))
  cases sE q
  refine AI rfl (E4 (iuR [3,4]) (R2 (AJ (R2 TV))))
 refine OL (cI q (fun q=>?_) (fun q=>?_))
 ·refine OL ?_
  obtain ⟨r4,h,q⟩:=bE q
  refine OL (cA H98 (a.1,a.2) h rfl (R2 (K0 ?_)))
  obtain ⟨r5,h,q⟩:=bE q
  refine OL (cA H97 (r4.1,r4.2) h rfl (R2 (K0 (OL ?_))))
  cases sE q
  refine AI rfl (E4 (iuR [3,4]) (R2 (AJ (R2 TV))))
 refine OL (cI q (fun q=>?_) (fun q=>?_))
 ·refine OL ?_
  obtain ⟨r6,h,q⟩:=bE q
  refine OL (cA H99 (a.1,a.2) h rfl (R2 (K0 ?_)))
  obtain ⟨r7,h,q⟩:=bE q
  refine OL (cA H97 (r6.1,r6.2) h rfl (R2 (K0 (OL ?_))))
  cases sE q
  refine AI rfl (E4 (iuR [3,4]) (R2 (AJ (R2 TV))))
 refine OL (cI q (fun q=>?_) (fun q=>?_))
 ·refine OL ?_
  obtain ⟨r8,h,q⟩:=bE q
  refine OL (cA H100 (k,(a.1,a.2)) h rfl (R3 (K0 (OL ?_))))
  cases sE q
  refine AI rfl (E4 (iuR [3,4]) (R2 (AJ (R2 TV))))
 refine OL (cI q (fun q=>?_) (fun q=>?_))
 ·refine OL ?_
  obtain ⟨r9,h,q⟩:=bE q
  refine OL (cA H101 ((a.1,a.2),k) h rfl (R3 (K0 (OL (OL (OL ?_))))))
  cases sE q
  refine AI rfl (E4 (iuR [3,4]) (R2 (AJ (R2 TV))))
 refine OL (OL ?_)
 obtain ⟨r10,h,q⟩:=bE q
 refine OL (cD H81 ((a.1,a.2),[(a.2.length:Int)]) h rfl (R3 (AI (fun _=>rfl) (R2 (AI TV (AI TV (OL ?_)))))))
 cases sE q
 refine AI rfl (E4 (iuR [4,5]) (R2 (AJ (R2 TV))))
theorem H53:HI C53 53:=hI Tryz.f53 rfl fun x=>V53 x.1 x.2.1 x.2.2
def f17_j1 (t_l:NL) (op a b:Int):Option (Sum NL (Int×NL)):=
 bif (decide ((t_l.length:Int)≥512)) then
 some (Sum.inr ((2:Int),t_l))
 else
 bif (decide (op<2)) then
 some (Sum.inr ((1:Int),t_l))
 else
 bif (decide (op>14)) then
 some (Sum.inr ((1:Int),t_l))
 else
 Ey (f49 t_l a) fun r5=>
 bif (!r5.1) then
 some (Sum.inr ((1:Int),r5.2))
 else
 Ey (f50 op) fun r6=>
 bif r6 then
 Ey (f49 r5.2 b) fun r7=>
 bif (!r7.1) then
 some (Sum.inr ((1:Int),r7.2))
 else
 some (Sum.inl r7.2)
 else
 some (Sum.inl r5.2)
def f17_j2 (op k:Int):Option Int:=
 Ey (f51 op) fun r10=>
 bif r10 then
 some k
 else
 some (0:Int)
def f17_j3 (op a b k:Int) (z4a:NL):Option (Int×Gl):=
 Ey (f50 op) fun r13=>
 bif r13 then
 E9 (0≤a∧a<z4a.length)<|
 E9 (0≤b∧b<z4a.length)<|
 Ey (f52 op ((((((rd (Ty.z T0) z4a a).2).2).2).2).1,(((((rd (Ty.z T0) z4a a).2).2).2).2).2) ((((((rd (Ty.z T0) z4a b).2).2).2).2).1,(((((rd (Ty.z T0) z4a b).2).2).2).2).2) k) fun q11_18=>
 some (q11_18.1,b,q11_18.2.1,q11_18.2.2)
 else
 E9 (0≤a∧a<z4a.length)<|
 Ey (f53 op ((((((rd (Ty.z T0) z4a a).2).2).2).2).1,(((((rd (Ty.z T0) z4a a).2).2).2).2).2) k) fun q11_24=>
 some (q11_24.1,(-1:Int),q11_24.2.1,q11_24.2.2)
def f17 (t_l:NL) (op a b k:Int):Option (Int×Int×NL):=
 Ey (f17_j1 t_l op a b) fun z4=>
 Fz z4 (fun z4a=>
 Ey (f17_j2 op k) fun z9=>
 Ey (f17_j3 op a b k z4a) fun z12=>
 bif (z12.1 != 0) then
 some ((0:Int),z12.1,z4a)
 else
 Ey (f47 z4a (op,a,z12.2.1,z9,z12.2.2.1,z12.2.2.2)) fun r14=>
 some (r14.1,(0:Int),r14.2)) (fun z4b=>
 some ((0:Int),z4b.1,z4b.2))
def C17:Con:=⟨NL×PTz2,Int×Int×NL,2,fun x=>[P0 0 0,.dat T2 x.2.1,.dat T2 x.2.2.1,.dat T2 x.2.2.2.1,.dat T2 x.2.2.2.2],fun x=>[(0,.cells [(.osl 1)]),(1,.arr 65 T0 x.1)],fun x=>f17 x.1 x.2.1 x.2.2.1 x.2.2.2.1 x.2.2.2.2,fun y=>[.dat T2 y.1,.dat T2 y.2.1],fun y=>[(0,.cells [(.osl 2)]),(2,.arr 65 T0 y.2.2)],3⟩
theorem V17 t_l op a b k y (q:f17 t_l op a b k=some y):VE Tryz.f17 2 C17 (t_l,op,a,b,k) y:=by
 unfold f17 at q
 refine OL ?_
 obtain ⟨z4,hz4,q⟩:=bE q
 let e0:LE:=fun zz=>(0,P0 0 0)::(1,.dat T2 op)::(2,.dat T2 a)::(3,.dat T2 b)::(4,.dat T2 k)::zz
 refine OQ ⟨Sum.elim (fun z4a=>[(0,⟨e0 [],[(0,.cells [(.osl 1)]),(1,.arr 65 T0 z4a)],2⟩)]) (fun z4b=>[(1,⟨[(10,D0 0),(11,.dat T2 z4b.1)],[(0,.cells [(.osl 1)]),(1,.arr 65 T0 z4b.2)],2⟩)]) z4,?_,?_⟩
 ·have q:=hz4
  clear hz4
  unfold f17_j1 at q
  refine OL (cI q (fun q=>?_) (fun q=>?_))
  ·cases sE q
   refine OL (E4 I2 (R3 (AI TV (R2 TV))))
  refine OL (cN q (fun q=>?_) (fun q=>?_))
  ·refine gY (cF (cN q (fun q=>?_) (fun q=>?_)))
   ·refine gY (gY ?_)
    obtain ⟨r5,h,q⟩:=bE q
    refine OL (cB H49 (t_l,a) I2 false h rfl (AI rfl (AI NH (R2 (AJ (AI (R2 TV) (gY (cF (cN q (fun q=>?_) (fun q=>?_))))))))))
    ·refine gY ?_
     obtain ⟨r6,h,q⟩:=bE q
     refine OL (cA H50 op h rfl (AI rfl (K0 (gY (cI q (fun q=>?_) (fun q=>?_))))))
     ·refine gX (gX ?_)
      obtain ⟨r7,h,q⟩:=bE q
      refine OL (cB H49 (r5.2,b) I2 false h rfl (AI rfl (AI NH (R2 (AJ (AI (R2 TV) (gX (gY (cT (cF (cI q (fun q=>?_) (fun q=>?_))))))))))))
      ·cases sE q
       refine OL (E4 I2 (R3 (AI TV (R2 TV))))
      cases sE q
      refine E4 I2 (R5 (AJ (R2 TV)))
     refine gM (gM (gM (gY (cF (cF (cF ?_))))))
     cases sE q
     refine E4 I2 (R5 (AJ (R2 TV)))
    refine gN (gN (gN (cT (cT (OL ?_)))))
    cases sE q
    refine E4 I2 (R3 (AI TV (R2 TV)))
   refine gN (gN (gN (cT (gN (gN (gN (gN (cT (cT (OL ?_))))))))))
   cases sE q
   refine E4 I2 (R3 (AI TV (R2 TV)))
  refine gN (cT (gN (gN (gN (gN (cT (gN (gN (gN (gN (cT (cT (OL ?_)))))))))))))
  cases sE q
  refine E4 I2 (R3 (AI TV (R2 TV)))
 rcases z4 with z4a | z4b
 ·dsimp only [Fz] at q
  refine AI (OL (OL ?_)) TV
  obtain ⟨z9,hz9,q⟩:=bE q
  refine OQ ⟨[(0,⟨e0 [(12,P0 2 0)],[(0,.cells [(.osl 1)]),(1,.arr 65 T0 z4a),(2,.cells [(.d T2 op),(.d T2 a),(.d T2 (-1:Int)),(.d T2 z9),N0,N0])],3⟩)],?_,?_⟩
  ·have q:=hz9
   clear hz9
   unfold f17_j2 at q
   refine OL ?_
   obtain ⟨r10,h,q⟩:=bE q
   refine OL (cA H51 op h rfl (AI rfl (K0 (cI q (fun q=>?_) (fun q=>?_)))))
   ·cases sE q
    refine OL (E4 I3 (R5 (AI (R2 TV) (R3 TV))))
   cases sE q
   refine E4 I3 (R5 (AI (R2 TV) (R3 TV)))
  refine AI (OL ?_) TV
  obtain ⟨z12,hz12,q⟩:=bE q
  refine OQ ⟨[(0,⟨[(0,P0 0 0),(12,P0 2 0),(13,.dat T2 z12.1)],[(0,.cells [(.osl 1)]),(1,.arr 65 T0 z4a),(2,.cells [(.d T2 op),(.d T2 a),(.d T2 z12.2.1),(.d T2 z9),(.osl 3),(.osl 4)]),(3,.arr 3 T2 z12.2.2.1),(4,.arr 42 T2 z12.2.2.2)],5⟩)],?_,?_⟩
  ·have q:=hz12
   clear hz12
   unfold f17_j3 at q
   refine OL ?_
   obtain ⟨r13,h,q⟩:=bE q
   refine OL (cA H50 op h rfl (AI rfl (K0 (cI q (fun q=>?_) (fun q=>?_)))))
   ·refine OL (OL (EI (tU 0 18 (.alt 18 (tU 19 4 (.alt 23 (.take 24 .done) .done)) .done)) (EI [] (EI [] (AI rfl (gI q (fun q=>?_)))))))
    refine gI q (fun q=>?_)
    refine AI TV ?_
    obtain ⟨q11_18,h,q⟩:=bE q
    refine OL (cA H52 (op,((((((rd (Ty.z T0) z4a a).2).2).2).2).1,(((((rd (Ty.z T0) z4a a).2).2).2).2).2),((((((rd (Ty.z T0) z4a b).2).2).2).2).1,(((((rd (Ty.z T0) z4a b).2).2).2).2).2),k) h rfl (R6 (K0 (AI TV (OL ?_)))))
    cases sE q
    refine E4 I5 (R2 (AI (R2 TV) (R5 TV)))
   refine gI q (fun q=>?_)
   obtain ⟨q11_24,h,q⟩:=bE q
   refine OL (cA H53 (op,((((((rd (Ty.z T0) z4a a).2).2).2).2).1,(((((rd (Ty.z T0) z4a a).2).2).2).2).2),k) h rfl (R4 (K0 (OL ?_))))
   cases sE q
   refine E4 I5 (R2 (AI (R2 TV) (R5 TV)))
  refine AI (OL (OL (cI q (fun q=>?_) (fun q=>?_)))) TV
  ·cases sE q
   refine OL (AI rfl (E4 [(0,some 0),(2,some 1)] (R3 (AI TV (R2 TV)))))
  refine OL ?_
  obtain ⟨r14,h,q⟩:=bE q
  refine OL (cB H47 (z4a,(op,a,z12.2.1,z9,z12.2.2.1,z12.2.2.2)) I2 false h rfl (R2 (AI NH (R2 (AJ (AI (R2 TV) ?_))))))
  cases sE q
  refine AI rfl (E4 [(0,some 0),(2,some 7)] (R3 (AI TV (R2 TV))))
 dsimp only [Fz] at q
 refine AI ?_ TV
 cases sE q
 refine AI rfl (E4 [(0,some 0),(2,some 1)] (R3 (AI TV (R2 TV))))
theorem H17:HI C17 17:=hI Tryz.f17 rfl fun x=>V17 x.1 x.2.1 x.2.2.1 x.2.2.2.1 x.2.2.2.2
def f23 (t_l:NL) (n:Int):Option PTz8:=
 Ey (f49 t_l n) fun r1=>
 bif (!r1.1) then
 some ((0:Int),(0:Int),(0:Int),(0:Int),false,[],[],r1.2)
 else
 E9 (0≤n∧n<r1.2.length)<|
 Ey (f48 ((((((rd (Ty.z T0) r1.2 n).2).2).2).2).1,(((((rd (Ty.z T0) r1.2 n).2).2).2).2).2)) fun r2=>
 some ((rd (Ty.z T0) r1.2 n).1,((rd (Ty.z T0) r1.2 n).2).1,(((rd (Ty.z T0) r1.2 n).2).2).1,((((rd (Ty.z T0) r1.2 n).2).2).2).1,true,r2.1,r2.2,r1.2)
def C23:Con:=⟨NL×Int,PTz8,2,fun x=>[P0 0 0,.dat T2 x.2],fun x=>[(0,.cells [(.osl 1)]),(1,.arr 65 T0 x.1)],fun x=>f23 x.1 x.2,fun y=>[.raw true [(.d T2 y.1),(.d T2 y.2.1),(.d T2 y.2.2.1),(.d T2 y.2.2.2.1),(.osl 2),(.osl 3)],.dat .bool y.2.2.2.2.1],fun y=>[(0,.cells [(.osl 1)]),(1,.arr 65 T0 y.2.2.2.2.2.2.2),(2,.arr 3 T2 y.2.2.2.2.2.1),(3,.arr 42 T2 y.2.2.2.2.2.2.1)],4⟩
theorem V23 t_l n y (q:f23 t_l n=some y):VE Tryz.f23 2 C23 (t_l,n) y:=by
 unfold f23 at q
 refine OL (OL (OL ?_))
 obtain ⟨r1,h,q⟩:=bE q
 refine OL (cB H49 (t_l,n) I2 false h rfl (AI rfl (AI NH (R2 (AJ (AI (R2 TV) (cI q (fun q=>?_) (fun q=>?_))))))))
 ·refine OL (OL ?_)
  cases sE q
  refine AI rfl (E4 (iuR [1,2,0,0]) (R2 (AJ (R4 TV))))
 refine OL (gI q (fun q=>?_))
 refine OL (OL ?_)
 obtain ⟨r2,h,q⟩:=bE q
 refine OL (cA H48 ((((((rd (Ty.z T0) r1.2 n).2).2).2).2).1,(((((rd (Ty.z T0) r1.2 n).2).2).2).2).2) h rfl (R2 (K0 (OL (OL (OL ?_))))))
 cases sE q
 refine AI rfl (E4 (iuR [1,2,7,8]) (R2 (AJ (R4 TV))))
theorem H23:HI C23 23:=hI Tryz.f23 rfl fun x=>V23 x.1 x.2
def f21 (t_l:NL) (n:Int):Option (Bool×LI×LI×NL):=
 Ey (f23 t_l n) fun r1=>
 some (r1.2.2.2.2.1,r1.2.2.2.2.2.1,r1.2.2.2.2.2.2.1,r1.2.2.2.2.2.2.2)
def C21:Con:=⟨NL×Int,Bool×LI×LI×NL,2,fun x=>[P0 0 0,.dat T2 x.2],fun x=>[(0,.cells [(.osl 1)]),(1,.arr 65 T0 x.1)],fun x=>f21 x.1 x.2,fun y=>[.raw true [(.osl 2),(.osl 3)],.dat .bool y.1],fun y=>[(0,.cells [(.osl 1)]),(1,.arr 65 T0 y.2.2.2),(2,.arr 3 T2 y.2.1),(3,.arr 42 T2 y.2.2.1)],4⟩
theorem V21 t_l n y (q:f21 t_l n=some y):VE Tryz.f21 2 C21 (t_l,n) y:=by
 unfold f21 at q
 refine OL (OL ?_)
 obtain ⟨r1,h,q⟩:=bE q
 refine OL (cB H23 (t_l,n) I2 false h rfl (AI rfl (AI NH (R2 (AJ (AI (R2 TV) (OL (OL (OL ?_)))))))))
 cases sE q
 refine AI rfl (E4 (iuR [1,2,6,7]) (R2 (AJ (R4 TV))))
theorem H21:HI C21 21:=hI Tryz.f21 rfl fun x=>V21 x.1 x.2
def f68_l1 (s1 s2:LI) (go:Int→Option (Sum Unit Unit)) (v13:Int):Option (Sum Unit Unit):=
 bif (decide (v13<s1.length)) then
 E9 (0≤v13∧v13<s1.length)<|
 E9 (0≤v13∧v13<s2.length)<|
 bif ((rd 0 s1 v13) != (rd 0 s2 v13)) then
 some (Sum.inl ())
 else
 go (i64.wrap (v13+1))
 else
 some (Sum.inr ())
def f68 (s1 s2:LI):Option Bool:=
 bif ((s1.length:Int) != s2.length) then
 some false
 else
 Ey (Fp (fun go x=>f68_l1 s1 s2 go x) Fv (0:Int)) fun z1=>
 Fz z1 (fun z1a=>
 some false) (fun z1b=>
 some true)
def C68:Con:=⟨Fx,Bool,0,fun x=>[.dat T1 x.1,.dat T1 x.2],NX,fun x=>f68 x.1 x.2,fun y=>[.dat .bool y],NX,0⟩
theorem V68 s1 s2 y (q:f68 s1 s2=some y):VC Tryz.f68 C68 (s1,s2) y:=by
 unfold f68 at q
 refine OL (OL (OL (cI q (fun q=>?_) (fun q=>?_))))
 ·cases sE q
  refine OL (AI rfl (E4 [] (R2 (AI TV TV))))
 refine OL (OL ?_)
 obtain ⟨z1,h,q⟩:=bE q
 refine lJ h (fun x=>⟨[(0,.dat T1 s1),(1,.dat T1 s2),(12,.dat T2 (s1.length:Int)),(13,.dat T2 x)],[],0⟩) (fun z=>Sum.elim (fun za=>[(1,⟨[(4,.dat .bool false)],[],0⟩)]) (fun zb=>[(2,⟨[],[],0⟩)]) z) (E4 [] (R5 (AI TV TV))) (fun m=>fun v13 z q=>?_) ?_
 ·have q:f68_l1 s1 s2 _ v13=some z:=q
  unfold f68_l1 at q
  refine OL (OL (cI q (fun q=>?_) (fun q=>?_)))
  ·refine OL (OL (OL (EI (tU 0 9 .done) (EI [] (EI [] (AI rfl (gI q (fun q=>?_))))))))
   refine gI q (fun q=>?_)
   refine cI q (fun q=>?_) (fun q=>?_)
   ·cases sE q
    refine OL (E4 [] (R2 (AI TV TV)))
   refine EI (i64.wrap (v13+1)) (AI q (E4 [] (R5 (AI TV TV))))
  cases sE q
  refine E4 [] (AI rfl (AI TV TV))
 rcases z1 with z1a | z1b
 ·dsimp only [Fz] at q
  refine AI ?_ TV
  cases sE q
  refine AI rfl (E4 [] (R2 (AI TV TV)))
 dsimp only [Fz] at q
 refine AI (OL ?_) TV
 cases sE q
 refine AI rfl (E4 [] (R2 (AI TV TV)))
theorem H68:HI C68 68:=hI Tryz.f68 rfl fun x=>V68 x.1 x.2
def f29 (a b:LI):Option Bool:=
 Ey (f68 a b) fun r1=>
 some r1
def C29:Con:=⟨Fx,Bool,0,fun x=>[.dat T1 x.1,.dat T1 x.2],NX,fun x=>f29 x.1 x.2,fun y=>[.dat .bool y],NX,0⟩
theorem V29 a b y (q:f29 a b=some y):VC Tryz.f29 C29 (a,b) y:=by
 unfold f29 at q
 refine OL (OL ?_)
 obtain ⟨r1,h,q⟩:=bE q
 refine OL (cA H68 (a,b) h rfl (R2 (K0 ?_)))
 cases sE q
 refine AI rfl (E4 [] (R2 (AI TV TV)))
theorem H29:HI C29 29:=hI Tryz.f29 rfl fun x=>V29 x.1 x.2
def f69_j3 (a:Fx) (d:LI):Option Bool:=
 Ey (f28 (a.1,a.2)) fun r9=>
 bif (!r9) then
 some true
 else
 Ey (f57 d) fun r10=>
 some (!r10)
def f69_j2 (a:Fx) (d:LI):Option (Sum Unit Unit):=
 Ey (f69_j3 a d) fun z8=>
 bif z8 then
 some (Sum.inr ())
 else
 some (Sum.inl ())
def f69_j6 (a:Fx) (r11:Jv):Option Bool:=
 bif (r11.1 != 0) then
 some true
 else
 Ey (f29 r11.2 a.1) fun r18=>
 some (!r18)
def f69_j5 (a:Fx) (r11:Jv):Option (Sum Unit Unit):=
 Ey (f69_j6 a r11) fun z17=>
 bif z17 then
 some (Sum.inr ())
 else
 some (Sum.inl ())
def f69_l7 (a:Fx) (r20:LI) (go:Jv→Option LI) (v51:Int) (l4:LI):Option LI:=
 bif (decide (v51<a.2.length)) then
 E9 (0≤v51∧v51<a.2.length)<|
 E9 (0≤v51∧v51<r20.length)<|
 E9 (0≤v51∧v51<r20.length)<|
 E9 (0≤(rd 0 r20 v51)∧(rd 0 r20 v51)<l4.length)<|
 Ey (f112 (rd 0 l4 (rd 0 r20 v51)) (rd 0 a.2 v51)) fun q11_15=>
 E9 (0≤(rd 0 r20 v51)∧(rd 0 r20 v51)<l4.length)<|
 go ((i64.wrap (v51+1)),(List.set l4 (Int.toNat (rd 0 r20 v51)) q11_15))
 else
 some l4
def f69 (a:Fx) (d:LI):Option Gl:=
 Ey (f69_j2 a d) fun z5=>
 Fz z5 (fun z5a=>
 Ey (f114 d a.1) fun r11=>
 Ey (f69_j5 a r11) fun z15=>
 Fz z15 (fun z15a=>
 Ey (f22 d (0:Int)) fun r19=>
 Ey (f115 d a.1) fun r20=>
 Ey (Fp (fun go x=>f69_l7 a r20 go x.1 x.2) Fv ((0:Int),r19.2.2)) fun z21=>
 some ((0:Int),r19.2.1,z21)) (fun z15b=>
 some ((4:Int),[],[]))) (fun z5b=>
 some ((1:Int),[],[]))
def C69:Con:=⟨Fx×LI,Gl,0,fun x=>[.dat T3 x.1,.dat T1 x.2],NX,fun x=>f69 x.1 x.2,fun y=>[.raw true [(.osl 0),(.osl 1)],.dat T2 y.1],fun y=>[(0,.arr 3 T2 y.2.1),(1,.arr 42 T2 y.2.2)],2⟩
theorem V69 a d y (q:f69 a d=some y):VC Tryz.f69 C69 (a,d) y:=by
 unfold f69 at q
 refine OL ?_
 obtain ⟨z5,hz5,q⟩:=bE q
 let e0:LE:=fun zz=>(1,.dat T1 d)::(2,P0 0 0)::(4,P0 1 0)::zz
 let h1:LH:=fun zz=>(0,.cells [(.d T1 a.1),(.d T1 a.2)])::(1,.cells [N0,N0])::zz
 refine OQ ⟨Sum.elim (fun z5a=>[(0,⟨e0 [],h1 [],2⟩)]) (fun z5b=>[(1,⟨[(4,P0 0 0),(5,D0 1)],[(0,.cells [N0,N0])],1⟩)]) z5,?_,?_⟩
 ·have q:=hz5
  clear hz5
  unfold f69_j2 at q
  obtain ⟨z8,hz8,q⟩:=bE q
  refine OQ ⟨[(0,⟨e0 [(20,.dat .bool z8)],h1 [],2⟩)],?_,?_⟩
  ·have q:=hz8
   clear hz8
   unfold f69_j3 at q
   obtain ⟨r9,h,q⟩:=bE q
   refine OL (cA H28 (a.1,a.2) h rfl (R2 (K0 (cN q (fun q=>?_) (fun q=>?_)))))
   ·refine gY ?_
    obtain ⟨r10,h,q⟩:=bE q
    refine OL (cA H57 d h rfl (AI rfl (K0 (gY (cF ?_)))))
    cases sE q
    refine E4 I2 (R3 (AI (R2 TV) (R2 TV)))
   refine gN (gN (cT ?_))
   cases sE q
   refine E4 I2 (R3 (AI (R2 TV) (R2 TV)))
  refine AI (cI q (fun q=>?_) (fun q=>?_)) TV
  ·refine OL (OL ?_)
   cases sE q
   refine E4 (iuR [2]) (R2 (AJ (AI rfl TV)))
  cases sE q
  refine E4 I2 (R2 (AI (R2 TV) (R2 TV)))
 rcases z5 with z5a | z5b
 ·dsimp only [Fz] at q
  refine AI (OL ?_) TV
  obtain ⟨r11,h,q⟩:=bE q
  refine OL (cA H114 (d,a.1) h rfl (R2 (K0 ?_)))
  obtain ⟨z15,hz15,q⟩:=bE q
  refine OQ ⟨Sum.elim (fun z15a=>[(0,⟨e0 [],h1 [],2⟩)]) (fun z15b=>[(1,⟨[(4,P0 0 0),(5,D0 4)],[(0,.cells [N0,N0])],1⟩)]) z15,?_,?_⟩
  ·have q:=hz15
   clear hz15
   unfold f69_j5 at q
   obtain ⟨z17,hz17,q⟩:=bE q
   refine OQ ⟨[(0,⟨e0 [(37,.dat .bool z17)],h1 [],2⟩)],?_,?_⟩
   ·have q:=hz17
    clear hz17
    unfold f69_j6 at q
    refine cN q (fun q=>?_) (fun q=>?_)
    ·refine gY (gY (gY ?_))
     obtain ⟨r18,h,q⟩:=bE q
     refine OL (cD H29 (r11.2,a.1) h rfl (R2 (AI (fun _=>rfl) (R2 (AI TV (AI TV (gY (cF ?_))))))))
     cases sE q
     refine E4 I2 (R3 (AI (R2 TV) (R2 TV)))
    refine gN (gN (gN (gN (cT ?_))))
    cases sE q
    refine E4 I2 (R3 (AI (R2 TV) (R2 TV)))
   refine AI (cI q (fun q=>?_) (fun q=>?_)) TV
   ·refine OL (OL ?_)
    cases sE q
    refine E4 (iuR [2]) (R2 (AJ (AI rfl TV)))
   cases sE q
   refine E4 I2 (R2 (AI (R2 TV) (R2 TV)))
  rcases z15 with z15a | z15b
  ·dsimp only [Fz] at q
   refine AI (OL ?_) TV
   obtain ⟨r19,h,q⟩:=bE q
   refine OL (cA H22 (d,(0:Int)) h rfl (R2 (K0 (OL (OL ?_)))))
   obtain ⟨r20,h,q⟩:=bE q
   refine OL (cA H115 (d,a.1) h rfl (R2 (K0 (OL (OL ?_)))))
   obtain ⟨z21,h,q⟩:=bE q
   refine lJ h (fun x=>⟨[(4,P0 0 0),(8,P0 1 0),(10,O0 2),(49,.dat T1 a.2),(50,.dat T2 (a.2.length:Int)),(51,.dat T2 x.1)],[(0,.cells [N0,N0]),(1,.cells [(.osl 3),(.osl 4)]),(2,.arr 3 T2 r20),(3,.arr 3 T2 r19.2.1),(4,.arr 42 T2 x.2)],5⟩) (fun z=>[(2,⟨[(4,P0 0 0),(8,P0 1 0)],[(0,.cells [N0,N0]),(1,.cells [(.osl 2),(.osl 3)]),(2,.arr 3 T2 r19.2.1),(3,.arr 42 T2 z)],4⟩)]) (E4 (iuR [2,5,6,3,4]) (R4 (AI (R3 TV) (R5 TV)))) (fun m=>F6 (fun v51=>fun l4 z q=>?_)) ?_
   ·have q:f69_l7 a r20 _ v51 l4=some z:=q
    unfold f69_l7 at q
    refine OL (OL (cI q (fun q=>?_) (fun q=>?_)))
    ·refine OL (OL (gI q (fun q=>?_)))
     refine EI (tU 0 15 (.alt 15 (.take 16 (.alt 17 .done .done)) .done)) (EI [(17,[4])] (EI [] (AI rfl (gI q (fun q=>?_)))))
     refine gI q (fun q=>?_)
     refine gI q (fun q=>?_)
     refine AI TV ?_
     obtain ⟨q11_15,h,q⟩:=bE q
     refine OL (cA H112 ((rd 0 l4 (rd 0 r20 v51)),(rd 0 a.2 v51)) h rfl (R2 (K0 (gI q (fun q=>?_)))))
     refine AI TV (OL (EI ((i64.wrap (v51+1)),(List.set l4 (Int.toNat (rd 0 r20 v51)) q11_15)) (AI q (E4 I5 (R4 (AI (R3 TV) (R5 TV)))))))
    cases sE q
    refine E4 (iuR [1,2,4,5]) (AI rfl (AI (R2 TV) (R4 TV)))
   refine AI (OL (OL ?_)) TV
   cases sE q
   refine AI rfl (E4 (iuR [3,4]) (R2 (AJ (R2 TV))))
  dsimp only [Fz] at q
  refine AI ?_ TV
  cases sE q
  refine AI rfl (E4 (iuR [0,0]) (R2 (AJ (R2 TV))))
 dsimp only [Fz] at q
 refine AI ?_ TV
 cases sE q
 refine AI rfl (E4 (iuR [0,0]) (R2 (AJ (R2 TV))))
theorem H69:HI C69 69:=hI Tryz.f69 rfl fun x=>V69 x.1 x.2
def f71 (t:Fx) (e:Int) (d:LI):Option Gl:=
 bif (e != 0) then
 some (e,[],[])
 else
 Ey (f69 (t.1,t.2) d) fun r1=>
 some (r1.1,r1.2.1,r1.2.2)
def C71:Con:=⟨Fx×Jv,Gl,0,fun x=>[.dat T3 x.1,.dat T2 x.2.1,.dat T1 x.2.2],NX,fun x=>f71 x.1 x.2.1 x.2.2,fun y=>[.raw true [(.osl 0),(.osl 1)],.dat T2 y.1],fun y=>[(0,.arr 3 T2 y.2.1),(1,.arr 42 T2 y.2.2)],2⟩
theorem V71 t e d y (q:f71 t e d=some y):VC Tryz.f71 C71 (t,e,d) y:=by
 unfold f71 at q
 refine OL (OL (OL (cI q (fun q=>?_) (fun q=>?_))))
 ·refine OL (OL ?_)
  cases sE q
  refine AI rfl (E4 (iuR [0,0]) (R2 (AJ (R2 TV))))
 refine OL ?_
 obtain ⟨r1,h,q⟩:=bE q
 refine OL (cA H69 ((t.1,t.2),d) h rfl (R3 (K0 (OL ?_))))
 cases sE q
 refine AI rfl (E4 (iuR [3,4]) (R2 (AJ (R2 TV))))
theorem H71:HI C71 71:=hI Tryz.f71 rfl fun x=>V71 x.1 x.2.1 x.2.2
def f73 (a b:Fx) (first:Bool):Option Gl:=
 bif first then
 Ey (f74 (a.1,a.2)) fun r1=>
 bif (r1.1 != 0) then
 some (r1.1,[],[])
 else
 Ey (f94 (r1.2.1,r1.2.2) (b.1,b.2)) fun r2=>
 some (r2.1,r2.2.1,r2.2.2)
 else
 Ey (f74 (b.1,b.2)) fun r3=>
 bif (r3.1 != 0) then
 some (r3.1,[],[])
 else
 Ey (f94 (a.1,a.2) (r3.2.1,r3.2.2)) fun r4=>
 some (r4.1,r4.2.1,r4.2.2)
def C73:Con:=⟨Fx×Fx×Bool,Gl,0,fun x=>[.dat T3 x.1,.dat T3 x.2.1,.dat .bool x.2.2],NX,fun x=>f73 x.1 x.2.1 x.2.2,fun y=>[.raw true [(.osl 0),(.osl 1)],.dat T2 y.1],fun y=>[(0,.arr 3 T2 y.2.1),(1,.arr 42 T2 y.2.2)],2⟩
theorem V73 a b first y (q:f73 a b first=some y):VC Tryz.f73 C73 (a,b,first) y:=by
 unfold f73 at q
 refine OL (OL (OL (cI q (fun q=>?_) (fun q=>?_))))
 ·refine OL ?_
  obtain ⟨r1,h,q⟩:=bE q
  refine OL (cA H74 (a.1,a.2) h rfl (R2 (K0 (OL (OL (OL (cI q (fun q=>?_) (fun q=>?_))))))))
  ·refine OL (OL ?_)
   cases sE q
   refine AI rfl (E4 (iuR [0,0]) (R2 (AJ (R2 TV))))
  refine OL ?_
  obtain ⟨r2,h,q⟩:=bE q
  refine OL (cD H94 ((r1.2.1,r1.2.2),(b.1,b.2)) h rfl (R4 (AI (fun _=>rfl) (R2 (AI TV (AI TV (OL ?_)))))))
  cases sE q
  refine AI rfl (E4 (iuR [7,8]) (R2 (AJ (R2 TV))))
 refine OL ?_
 obtain ⟨r3,h,q⟩:=bE q
 refine OL (cA H74 (b.1,b.2) h rfl (R2 (K0 (OL (OL (OL (cI q (fun q=>?_) (fun q=>?_))))))))
 ·refine OL (OL ?_)
  cases sE q
  refine AI rfl (E4 (iuR [0,0]) (R2 (AJ (R2 TV))))
 refine OL ?_
 obtain ⟨r4,h,q⟩:=bE q
 refine OL (cD H94 ((a.1,a.2),(r3.2.1,r3.2.2)) h rfl (R4 (AI (fun _=>rfl) (R2 (AI TV (AI TV (OL ?_)))))))
 cases sE q
 refine AI rfl (E4 (iuR [7,8]) (R2 (AJ (R2 TV))))
theorem H73:HI C73 73:=hI Tryz.f73 rfl fun x=>V73 x.1 x.2.1 x.2.2
def f75_l1 (g:Fx) (d:LI) (Fw:Int) (q8_9:Gl) (go:Jv→Option LI) (v23:Int) (l4:LI):Option LI:=
 bif (decide (v23<q8_9.2.2.length)) then
 Ey (f119 d v23) fun q8_9=>
 E9 (0≤Fw∧Fw≤q8_9.2.length)<|
 E9 (0≤(i64.wrap (Fw+1))∧(i64.wrap (Fw+1))≤q8_9.2.length)<|
 E9 ((List.length ([]:LI)+List.length (List.take (Int.toNat Fw) q8_9.2))*8≤140737488355328)<|
 E9 ((List.length (([]:LI)++(List.take (Int.toNat Fw) q8_9.2))+List.length (List.drop (Int.toNat (i64.wrap (Fw+1))) q8_9.2))*8≤140737488355328)<|
 Ey (f120 g.1 ((([]:LI)++(List.take (Int.toNat Fw) q8_9.2))++(List.drop (Int.toNat (i64.wrap (Fw+1))) q8_9.2))) fun q6_10=>
 E9 (0≤q6_10.1∧q6_10.1<g.2.length)<|
 E9 (0≤v23∧v23<l4.length)<|
 go ((i64.wrap (v23+1)),(List.set l4 (Int.toNat v23) (rd 0 g.2 q6_10.1)))
 else
 some l4
def f75 (g:Fx) (d:LI) (Fw:Int):Option Fx:=
 Ey (f22 d (0:Int)) fun q8_9=>
 Ey (Fp (fun go x=>f75_l1 g d Fw q8_9 go x.1 x.2) Fv ((0:Int),q8_9.2.2)) fun z2=>
 some (q8_9.2.1,z2)
def C75:Con:=⟨Fx×LI×Int,Fx,0,fun x=>[.dat T3 x.1,.dat T1 x.2.1,.dat T2 x.2.2],NX,fun x=>f75 x.1 x.2.1 x.2.2,fun y=>[.raw true [(.osl 0),(.osl 1)]],fun y=>[(0,.arr 3 T2 y.1),(1,.arr 42 T2 y.2)],2⟩
theorem V75 g d Fw y (q:f75 g d Fw=some y):VC Tryz.f75 C75 (g,d,Fw) y:=by
 unfold f75 at q
 refine OL (OL ?_)
 obtain ⟨q8_9,hq8_9,q⟩:=bE q
 refine OL (cA H22 (d,(0:Int)) hq8_9 rfl (R2 (K0 (OL (OL (OL ?_))))))
 obtain ⟨z2,h,q⟩:=bE q
 refine lJ h (fun x=>⟨[(1,.dat T1 d),(2,.dat T2 Fw),(3,P0 0 0),(6,P0 1 0),(7,P0 2 0),(22,.dat T2 (q8_9.2.2.length:Int)),(23,.dat T2 x.1)],[(0,.cells [(.d T1 g.1),(.d T1 g.2)]),(1,.cells [N0,N0]),(2,.cells [(.osl 3),(.osl 4)]),(3,.arr 3 T2 q8_9.2.1),(4,.arr 42 T2 x.2)],5⟩) (fun z=>[(2,⟨[(6,P0 0 0),(7,P0 1 0)],[(0,.cells [N0,N0]),(1,.cells [(.osl 2),(.osl 3)]),(2,.arr 3 T2 q8_9.2.1),(3,.arr 42 T2 z)],4⟩)]) (E4 (iuR [1,2,5,3,4]) (R5 (AI (R3 TV) (R5 TV)))) (fun m=>F6 (fun v23=>fun l4 z q=>?_)) ?_
 ·have q:f75_l1 g d Fw q8_9 _ v23 l4=some z:=q
  unfold f75_l1 at q
  refine OL (OL (cI q (fun q=>?_) (fun q=>?_)))
  ·refine OL (OL (OL ?_))
   obtain ⟨q8_9,h,q⟩:=bE q
   refine OL (cA H119 (d,v23) h rfl (R2 (K0 (OL (EI (tU 1 3 (tU 5 4 (.alt 0 (.alt 4 (.alt 9 (.take 10 .done) .done) .done) .done))) (EI [] (EI [5] (AI rfl (gI q (fun q=>?_))))))))))
   refine gI q (fun q=>?_)
   refine AI TV (OL (AI TV (OL (gI q (fun q=>?_)))))
   refine AI TV (OL (gI q (fun q=>?_)))
   refine OL ?_
   obtain ⟨q6_10,h,q⟩:=bE q
   refine OL (cD H120 (g.1,((([]:LI)++(List.take (Int.toNat Fw) q8_9.2))++(List.drop (Int.toNat (i64.wrap (Fw+1))) q8_9.2))) h rfl (R2 (AI (fun _=>rfl) (R2 (AI TV (AI TV (EI (tU 0 9 (.alt 9 .done .done)) (EI [] (EI [] (AI rfl (gI q (fun q=>?_))))))))))))
   refine gI q (fun q=>?_)
   refine AI TV (OL (EI ((i64.wrap (v23+1)),(List.set l4 (Int.toNat v23) (rd 0 g.2 q6_10.1))) (AI q (E4 I5 (R5 (AI (R3 TV) (R5 TV)))))))
  cases sE q
  refine E4 (iuR [2,3,4,5]) (AI rfl (AI (R2 TV) (R4 TV)))
 refine AI (OL (OL ?_)) TV
 cases sE q
 refine AI rfl (E4 (iuR [3,4]) (AI rfl (AJ (R2 TV))))
theorem H75:HI C75 75:=hI Tryz.f75 rfl fun x=>V75 x.1 x.2.1 x.2.2
def f155 (is:Bool) (yes no:Int):Option Int:=
 bif is then
 some yes
 else
 some no
def C155:Con:=⟨Bool×Gm,Int,0,fun x=>[.dat .bool x.1,.dat T2 x.2.1,.dat T2 x.2.2],NX,fun x=>f155 x.1 x.2.1 x.2.2,fun y=>[.dat T2 y],NX,0⟩
theorem V155 is yes no y (q:f155 is yes no=some y):VC Tryz.f155 C155 (is,yes,no) y:=by
 unfold f155 at q
 refine OL (OL (OL (cI q (fun q=>?_) (fun q=>?_))))
 ·cases sE q
  refine OL (AI rfl (E4 [] (R2 (AI TV TV))))
 cases sE q
 refine OL (AI rfl (E4 [] (R2 (AI TV TV))))
theorem H155:HI C155 155:=hI Tryz.f155 rfl fun x=>V155 x.1 x.2.1 x.2.2
def f156 (a b:Int):Option Int:=
 bif (decide (a<b)) then
 some (-1:Int)
 else
 bif (decide (a>b)) then
 some (1:Int)
 else
 some (0:Int)
def C156:Con:=⟨Gm,Int,0,fun x=>[.dat T2 x.1,.dat T2 x.2],NX,fun x=>f156 x.1 x.2,fun y=>[.dat T2 y],NX,0⟩
theorem V156 a b y (q:f156 a b=some y):VC Tryz.f156 C156 (a,b) y:=by
 unfold f156 at q
 refine OL (OL (OL (cI q (fun q=>?_) (fun q=>?_))))
 ·cases sE q
  refine OL (AI rfl (E4 [] (R2 (AI TV TV))))
 refine OL (cI q (fun q=>?_) (fun q=>?_))
 ·cases sE q
  refine OL (AI rfl (E4 [] (R2 (AI TV TV))))
 cases sE q
 refine OL (AI rfl (E4 [] (R2 (AI TV TV))))
theorem H156:HI C156 156:=hI Tryz.f156 rfl fun x=>V156 x.1 x.2
end Go.Proofs
