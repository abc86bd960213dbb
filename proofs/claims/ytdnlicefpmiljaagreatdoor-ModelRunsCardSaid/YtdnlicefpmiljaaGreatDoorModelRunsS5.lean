import Derived.Test.YtdnlicefpmiljaaGreatDoorModelRunsS4
set_option linter.unusedVariables false
set_option maxRecDepth 100000
set_option maxHeartbeats 8000000
namespace Go.Proofs
open Go.AM
open IntKind (i64 u64 i32 u32 i16 u16 i8 u8)
def f110_l1 (a_0 a_1 a_2 a_3 b_0 b_1 b_2 b_3:Int) (go:(Int×PTz15)→Option PTz1) (borrow i c3_0 c3_1 c3_2 c3_3:Int):Option PTz1:=
 bif (decide (i<4)) then
 E9 (0≤i∧i<4)<|
 pickF i
 [(bif (decide (a_0<b_0)) then
 go ((1:Int),(i64.wrap (i+1)),(u64.wrap ((u64.wrap (a_0-b_0))-borrow)),c3_1,c3_2,c3_3)
 else
 bif (decide ((u64.wrap (a_0-b_0))<borrow)) then
 go ((1:Int),(i64.wrap (i+1)),(u64.wrap ((u64.wrap (a_0-b_0))-borrow)),c3_1,c3_2,c3_3)
 else
 go ((0:Int),(i64.wrap (i+1)),(u64.wrap ((u64.wrap (a_0-b_0))-borrow)),c3_1,c3_2,c3_3)),
 (bif (decide (a_1<b_1)) then
 go ((1:Int),(i64.wrap (i+1)),c3_0,(u64.wrap ((u64.wrap (a_1-b_1))-borrow)),c3_2,c3_3)
 else
 bif (decide ((u64.wrap (a_1-b_1))<borrow)) then
 go ((1:Int),(i64.wrap (i+1)),c3_0,(u64.wrap ((u64.wrap (a_1-b_1))-borrow)),c3_2,c3_3)
 else
 go ((0:Int),(i64.wrap (i+1)),c3_0,(u64.wrap ((u64.wrap (a_1-b_1))-borrow)),c3_2,c3_3)),
 (bif (decide (a_2<b_2)) then
 go ((1:Int),(i64.wrap (i+1)),c3_0,c3_1,(u64.wrap ((u64.wrap (a_2-b_2))-borrow)),c3_3)
 else
 bif (decide ((u64.wrap (a_2-b_2))<borrow)) then
 go ((1:Int),(i64.wrap (i+1)),c3_0,c3_1,(u64.wrap ((u64.wrap (a_2-b_2))-borrow)),c3_3)
 else
 go ((0:Int),(i64.wrap (i+1)),c3_0,c3_1,(u64.wrap ((u64.wrap (a_2-b_2))-borrow)),c3_3)),
 (bif (decide (a_3<b_3)) then
 go ((1:Int),(i64.wrap (i+1)),c3_0,c3_1,c3_2,(u64.wrap ((u64.wrap (a_3-b_3))-borrow)))
 else
 bif (decide ((u64.wrap (a_3-b_3))<borrow)) then
 go ((1:Int),(i64.wrap (i+1)),c3_0,c3_1,c3_2,(u64.wrap ((u64.wrap (a_3-b_3))-borrow)))
 else
 go ((0:Int),(i64.wrap (i+1)),c3_0,c3_1,c3_2,(u64.wrap ((u64.wrap (a_3-b_3))-borrow))))]
 else
 some (c3_0,c3_1,c3_2,c3_3)
def f110 (a_0 a_1 a_2 a_3 b_0 b_1 b_2 b_3:Int):Option PTz1:=
 Ey (Fq (fun go x=>f110_l1 a_0 a_1 a_2 a_3 b_0 b_1 b_2 b_3 go x.1 x.2.1 x.2.2.1 x.2.2.2.1 x.2.2.2.2.1 x.2.2.2.2.2) Fv ((0:Int),(0:Int),(0:Int),(0:Int),(0:Int),(0:Int))) fun z3=>
 some (z3.1,z3.2.1,z3.2.2.1,z3.2.2.2)
def C110:Con:=⟨Int×Int×Int×PTz15,PTz1,0,fun x=>[.raw true [(.d T10 x.1),(.d T10 x.2.1),(.d T10 x.2.2.1),(.d T10 x.2.2.2.1)],.raw true [(.d T10 x.2.2.2.2.1),(.d T10 x.2.2.2.2.2.1),(.d T10 x.2.2.2.2.2.2.1),(.d T10 x.2.2.2.2.2.2.2)]],NX,fun x=>f110 x.1 x.2.1 x.2.2.1 x.2.2.2.1 x.2.2.2.2.1 x.2.2.2.2.2.1 x.2.2.2.2.2.2.1 x.2.2.2.2.2.2.2,fun y=>[.raw true [(.d T10 y.1),(.d T10 y.2.1),(.d T10 y.2.2.1),(.d T10 y.2.2.2)]],NX,0⟩
theorem V110 a_0 a_1 a_2 a_3 b_0 b_1 b_2 b_3 y (q:f110 a_0 a_1 a_2 a_3 b_0 b_1 b_2 b_3=some y):VC Tryz.f110 C110 (a_0,a_1,a_2,a_3,b_0,b_1,b_2,b_3) y:=by
 unfold f110 at q
 refine OL (OL (OL (OL (OL ?_))))
 obtain ⟨z3,h,q⟩:=bE q
 refine lJ h (fun x=>⟨[(2,P0 0 0),(3,P0 1 0),(4,P0 2 0),(5,P0 3 0),(6,.dat T10 x.1),(7,.dat T1 x.2.1)],[(0,.cells [(.d T10 a_0),(.d T10 a_1),(.d T10 a_2),(.d T10 a_3)]),(1,.cells [(.d T10 b_0),(.d T10 b_1),(.d T10 b_2),(.d T10 b_3)]),(2,.cells [(.d T10 (0:Int)),(.d T10 (0:Int)),(.d T10 (0:Int)),(.d T10 (0:Int))]),(3,.cells [(.d T10 x.2.2.1),(.d T10 x.2.2.2.1),(.d T10 x.2.2.2.2.1),(.d T10 x.2.2.2.2.2)])],4⟩) (fun z=>[(2,⟨[(4,P0 0 0),(5,P0 1 0)],[(0,.cells [(.d T10 (0:Int)),(.d T10 (0:Int)),(.d T10 (0:Int)),(.d T10 (0:Int))]),(1,.cells [(.d T10 z.1),(.d T10 z.2.1),(.d T10 z.2.2.1),(.d T10 z.2.2.2)])],2⟩)]) (E4 I4 (R3 (AI (R4 TV) (R4 TV)))) (fun m=>F3 (fun borrow=>F3 (fun i=>F3 (fun c3_0=>F3 (fun c3_1=>F3 (fun c3_2=>fun c3_3 z q=>?_)))))) ?_
 ·have q:f110_l1 a_0 a_1 a_2 a_3 b_0 b_1 b_2 b_3 _ borrow i c3_0 c3_1 c3_2 c3_3=some z:=q
  unfold f110_l1 at q
  refine OL (OL (cI q (fun q=>?_) (fun q=>?_)))
  ·refine OL (OL (EI (tU 0 8 .done) (EI [] (EI [] (AI rfl (gI q (fun q=>?_)))))))
   refine AI (fun hk4=>?_) ?_
   ·have q:=Jf q hk4
    dsimp only [nthO] at q
    refine AI (rE hk4 (by decide)) (AI (fun _=>?_) (AI (fun h=>absurd (hk4.symm.trans h) (by decide)) (AI (fun h=>absurd (hk4.symm.trans h) (by decide)) (AI (fun h=>absurd (hk4.symm.trans h) (by decide)) TV))))
    refine OL (OL (AI (rE hk4 (by decide)) (AI (fun _=>?_) (AI (fun h=>absurd (hk4.symm.trans h) (by decide)) (AI (fun h=>absurd (hk4.symm.trans h) (by decide)) (AI (fun h=>absurd (hk4.symm.trans h) (by decide)) TV))))))
    refine OL (OL (EI (tU 0 12 .done) (EI [] (EI [] (AI rfl (AI (rE hk4 (by decide)) (AI (fun _=>?_) (AI (fun h=>absurd (hk4.symm.trans h) (by decide)) (AI (fun h=>absurd (hk4.symm.trans h) (by decide)) (AI (fun h=>absurd (hk4.symm.trans h) (by decide)) TV))))))))))
    refine AI (rE hk4 (by decide)) (AI (fun _=>?_) (AI (fun h=>absurd (hk4.symm.trans h) (by decide)) (AI (fun h=>absurd (hk4.symm.trans h) (by decide)) (AI (fun h=>absurd (hk4.symm.trans h) (by decide)) TV))))
    refine cN q (fun q=>?_) (fun q=>?_)
    ·refine gY (gY (cF (cI q (fun q=>?_) (fun q=>?_))))
     ·refine EI ((1:Int),(i64.wrap (i+1)),(u64.wrap ((u64.wrap (a_0-b_0))-borrow)),c3_1,c3_2,c3_3) (AI q (E4 I4 (R3 (AI (R4 TV) (R4 TV)))))
     refine EI ((0:Int),(i64.wrap (i+1)),(u64.wrap ((u64.wrap (a_0-b_0))-borrow)),c3_1,c3_2,c3_3) (AI q (E4 I4 (R3 (AI (R4 TV) (R4 TV)))))
    refine gN (gN (cT (cT (EI ((1:Int),(i64.wrap (i+1)),(u64.wrap ((u64.wrap (a_0-b_0))-borrow)),c3_1,c3_2,c3_3) (AI q (E4 I4 (R3 (AI (R4 TV) (R4 TV)))))))))
   refine AI (fun hk4=>?_) ?_
   ·have q:=Jf q hk4
    dsimp only [nthO] at q
    refine AI (rE hk4 (by decide)) (AI (fun h=>absurd (hk4.symm.trans h) (by decide)) ?_)
    refine AI (fun _=>?_) (AI (fun h=>absurd (hk4.symm.trans h) (by decide)) (AI (fun h=>absurd (hk4.symm.trans h) (by decide)) TV))
    refine OL (OL (AI (rE hk4 (by decide)) (AI (fun h=>absurd (hk4.symm.trans h) (by decide)) ?_)))
    refine AI (fun _=>?_) (AI (fun h=>absurd (hk4.symm.trans h) (by decide)) (AI (fun h=>absurd (hk4.symm.trans h) (by decide)) TV))
    refine OL (OL (EI (tU 0 12 .done) (EI [] (EI [] (AI rfl (AI (rE hk4 (by decide)) (AI (fun h=>absurd (hk4.symm.trans h) (by decide)) ?_)))))))
    refine AI (fun _=>?_) (AI (fun h=>absurd (hk4.symm.trans h) (by decide)) (AI (fun h=>absurd (hk4.symm.trans h) (by decide)) TV))
    refine AI (rE hk4 (by decide)) (AI (fun h=>absurd (hk4.symm.trans h) (by decide)) ?_)
    refine AI (fun _=>?_) (AI (fun h=>absurd (hk4.symm.trans h) (by decide)) (AI (fun h=>absurd (hk4.symm.trans h) (by decide)) TV))
    refine cN q (fun q=>?_) (fun q=>?_)
    ·refine gY (gY (cF (cI q (fun q=>?_) (fun q=>?_))))
     ·refine EI ((1:Int),(i64.wrap (i+1)),c3_0,(u64.wrap ((u64.wrap (a_1-b_1))-borrow)),c3_2,c3_3) (AI q (E4 I4 (R3 (AI (R4 TV) (R4 TV)))))
     refine EI ((0:Int),(i64.wrap (i+1)),c3_0,(u64.wrap ((u64.wrap (a_1-b_1))-borrow)),c3_2,c3_3) (AI q (E4 I4 (R3 (AI (R4 TV) (R4 TV)))))
    refine gN (gN (cT (cT (EI ((1:Int),(i64.wrap (i+1)),c3_0,(u64.wrap ((u64.wrap (a_1-b_1))-borrow)),c3_2,c3_3) (AI q (E4 I4 (R3 (AI (R4 TV) (R4 TV)))))))))
   refine AI (fun hk4=>?_) ?_
   ·have q:=Jf q hk4
    dsimp only [nthO] at q
    refine AI (rE hk4 (by decide)) (AI (fun h=>absurd (hk4.symm.trans h) (by decide)) ?_)
    refine AI (fun h=>absurd (hk4.symm.trans h) (by decide)) ?_
    refine AI (fun _=>?_) (AI (fun h=>absurd (hk4.symm.trans h) (by decide)) TV)
    refine OL (OL (AI (rE hk4 (by decide)) (AI (fun h=>absurd (hk4.symm.trans h) (by decide)) ?_)))
    refine AI (fun h=>absurd (hk4.symm.trans h) (by decide)) ?_
    refine AI (fun _=>?_) (AI (fun h=>absurd (hk4.symm.trans h) (by decide)) TV)
    refine OL (OL (EI (tU 0 12 .done) (EI [] (EI [] (AI rfl (AI (rE hk4 (by decide)) (AI (fun h=>absurd (hk4.symm.trans h) (by decide)) ?_)))))))
    refine AI (fun h=>absurd (hk4.symm.trans h) (by decide)) ?_
    refine AI (fun _=>?_) (AI (fun h=>absurd (hk4.symm.trans h) (by decide)) TV)
    refine AI (rE hk4 (by decide)) (AI (fun h=>absurd (hk4.symm.trans h) (by decide)) ?_)
    refine AI (fun h=>absurd (hk4.symm.trans h) (by decide)) ?_
    refine AI (fun _=>?_) (AI (fun h=>absurd (hk4.symm.trans h) (by decide)) TV)
    refine cN q (fun q=>?_) (fun q=>?_)
    ·refine gY (gY (cF (cI q (fun q=>?_) (fun q=>?_))))
     ·refine EI ((1:Int),(i64.wrap (i+1)),c3_0,c3_1,(u64.wrap ((u64.wrap (a_2-b_2))-borrow)),c3_3) (AI q (E4 I4 (R3 (AI (R4 TV) (R4 TV)))))
     refine EI ((0:Int),(i64.wrap (i+1)),c3_0,c3_1,(u64.wrap ((u64.wrap (a_2-b_2))-borrow)),c3_3) (AI q (E4 I4 (R3 (AI (R4 TV) (R4 TV)))))
    refine gN (gN (cT (cT (EI ((1:Int),(i64.wrap (i+1)),c3_0,c3_1,(u64.wrap ((u64.wrap (a_2-b_2))-borrow)),c3_3) (AI q (E4 I4 (R3 (AI (R4 TV) (R4 TV)))))))))
   refine AI (fun hk4=>?_) TV
   have q:=Jf q hk4
   dsimp only [nthO] at q
   refine AI (rE hk4 (by decide)) (AI (fun h=>absurd (hk4.symm.trans h) (by decide)) ?_)
   refine AI (fun h=>absurd (hk4.symm.trans h) (by decide)) ?_
   refine AI (fun h=>absurd (hk4.symm.trans h) (by decide)) ?_
   refine AI (fun _=>?_) TV
   refine OL (OL (AI (rE hk4 (by decide)) (AI (fun h=>absurd (hk4.symm.trans h) (by decide)) ?_)))
   refine AI (fun h=>absurd (hk4.symm.trans h) (by decide)) ?_
   refine AI (fun h=>absurd (hk4.symm.trans h) (by decide)) ?_
   refine AI (fun _=>?_) TV
   refine OL (OL (EI (tU 0 12 .done) (EI [] (EI [] (AI rfl (AI (rE hk4 (by decide)) (AI (fun h=>absurd (hk4.symm.trans h) (by decide)) ?_)))))))
   refine AI (fun h=>absurd (hk4.symm.trans h) (by decide)) ?_
   refine AI (fun h=>absurd (hk4.symm.trans h) (by decide)) ?_
   refine AI (fun _=>?_) TV
   refine AI (rE hk4 (by decide)) (AI (fun h=>absurd (hk4.symm.trans h) (by decide)) ?_)
   refine AI (fun h=>absurd (hk4.symm.trans h) (by decide)) ?_
   refine AI (fun h=>absurd (hk4.symm.trans h) (by decide)) ?_
   refine AI (fun _=>?_) TV
   refine cN q (fun q=>?_) (fun q=>?_)
   ·refine gY (gY (cF (cI q (fun q=>?_) (fun q=>?_))))
    ·refine EI ((1:Int),(i64.wrap (i+1)),c3_0,c3_1,c3_2,(u64.wrap ((u64.wrap (a_3-b_3))-borrow))) (AI q (E4 I4 (R3 (AI (R4 TV) (R4 TV)))))
    refine EI ((0:Int),(i64.wrap (i+1)),c3_0,c3_1,c3_2,(u64.wrap ((u64.wrap (a_3-b_3))-borrow))) (AI q (E4 I4 (R3 (AI (R4 TV) (R4 TV)))))
   refine gN (gN (cT (cT (EI ((1:Int),(i64.wrap (i+1)),c3_0,c3_1,c3_2,(u64.wrap ((u64.wrap (a_3-b_3))-borrow))) (AI q (E4 I4 (R3 (AI (R4 TV) (R4 TV)))))))))
  cases sE q
  refine E4 (iuR [3,4]) (AI rfl (AI (R2 TV) (R2 TV)))
 refine AI (OL (OL ?_)) TV
 cases sE q
 refine AI rfl (E4 [] (AI rfl (AJ TV)))
theorem H110:HI C110 110:=hI Tryz.f110 rfl fun x=>V110 x.1 x.2.1 x.2.2.1 x.2.2.2.1 x.2.2.2.2.1 x.2.2.2.2.2.1 x.2.2.2.2.2.2.1 x.2.2.2.2.2.2.2
def f82 (a_Neg:Bool) (a_M_0 a_M_1 a_M_2 a_M_3:Int) (b_Neg:Bool) (b_M_0 b_M_1 b_M_2 b_M_3:Int):Option PTz7:=
 bif (a_Neg==b_Neg) then
 Ey (f108 a_M_0 a_M_1 a_M_2 a_M_3 b_M_0 b_M_1 b_M_2 b_M_3) fun q2_6=>
 some (a_Neg,q2_6.1,q2_6.2.1,q2_6.2.2.1,q2_6.2.2.2)
 else
 Ey (f109 a_M_0 a_M_1 a_M_2 a_M_3 b_M_0 b_M_1 b_M_2 b_M_3) fun q2_8=>
 bif q2_8 then
 Ey (f110 b_M_0 b_M_1 b_M_2 b_M_3 a_M_0 a_M_1 a_M_2 a_M_3) fun q4_6=>
 some (b_Neg,q4_6.1,q4_6.2.1,q4_6.2.2.1,q4_6.2.2.2)
 else
 Ey (f110 a_M_0 a_M_1 a_M_2 a_M_3 b_M_0 b_M_1 b_M_2 b_M_3) fun q5_6=>
 some (a_Neg,q5_6.1,q5_6.2.1,q5_6.2.2.1,q5_6.2.2.2)
def C82:Con:=⟨Bool×Int×Int×Int×Int×PTz7,PTz7,0,fun x=>[.raw true [(.d .bool x.1),(.d T10 x.2.1),(.d T10 x.2.2.1),(.d T10 x.2.2.2.1),(.d T10 x.2.2.2.2.1)],.raw true [(.d .bool x.2.2.2.2.2.1),(.d T10 x.2.2.2.2.2.2.1),(.d T10 x.2.2.2.2.2.2.2.1),(.d T10 x.2.2.2.2.2.2.2.2.1),(.d T10 x.2.2.2.2.2.2.2.2.2)]],NX,fun x=>f82 x.1 x.2.1 x.2.2.1 x.2.2.2.1 x.2.2.2.2.1 x.2.2.2.2.2.1 x.2.2.2.2.2.2.1 x.2.2.2.2.2.2.2.1 x.2.2.2.2.2.2.2.2.1 x.2.2.2.2.2.2.2.2.2,fun y=>[.raw true [(.d .bool y.1),(.d T10 y.2.1),(.d T10 y.2.2.1),(.d T10 y.2.2.2.1),(.d T10 y.2.2.2.2)]],NX,0⟩
theorem V82 a_Neg a_M_0 a_M_1 a_M_2 a_M_3 b_Neg b_M_0 b_M_1 b_M_2 b_M_3 y (q:f82 a_Neg a_M_0 a_M_1 a_M_2 a_M_3 b_Neg b_M_0 b_M_1 b_M_2 b_M_3=some y):VC Tryz.f82 C82 (a_Neg,a_M_0,a_M_1,a_M_2,a_M_3,b_Neg,b_M_0,b_M_1,b_M_2,b_M_3) y:=by
 unfold f82 at q
 refine OL (OL (OL (cI q (fun q=>?_) (fun q=>?_))))
 ·refine OL (EI (tU 0 6 (.alt 6 (.take 7 (.alt 8 .done .done)) .done)) (EI [] (EI [] (AI rfl (AI TV ?_)))))
  obtain ⟨q2_6,h,q⟩:=bE q
  refine OL (cA H108 (a_M_0,a_M_1,a_M_2,a_M_3,b_M_0,b_M_1,b_M_2,b_M_3) h rfl (AI NH (R2 (AI (R2 TV) (AI TV (AI TV (OL ?_)))))))
  cases sE q
  refine AI rfl (E4 [] (AI rfl (AJ TV)))
 refine OL (OL ?_)
 obtain ⟨q2_8,h,q⟩:=bE q
 refine OL (cA H109 (a_M_0,a_M_1,a_M_2,a_M_3,b_M_0,b_M_1,b_M_2,b_M_3) h rfl (AI NH (R2 (AI (R2 TV) (AI TV (cI q (fun q=>?_) (fun q=>?_)))))))
 ·refine OL (EI (tU 0 6 (.alt 6 (.take 7 (.alt 8 .done .done)) .done)) (EI [] (EI [] (AI rfl (AI TV ?_)))))
  obtain ⟨q4_6,h,q⟩:=bE q
  refine OL (cA H110 (b_M_0,b_M_1,b_M_2,b_M_3,a_M_0,a_M_1,a_M_2,a_M_3) h rfl (AI NH (R2 (AI (R2 TV) (AI TV (AI TV (OL ?_)))))))
  cases sE q
  refine AI rfl (E4 [] (AI rfl (AJ TV)))
 refine OL (EI (tU 0 6 (.alt 6 (.take 7 (.alt 8 .done .done)) .done)) (EI [] (EI [] (AI rfl (AI TV ?_)))))
 obtain ⟨q5_6,h,q⟩:=bE q
 refine OL (cA H110 (a_M_0,a_M_1,a_M_2,a_M_3,b_M_0,b_M_1,b_M_2,b_M_3) h rfl (AI NH (R2 (AI (R2 TV) (AI TV (AI TV (OL ?_)))))))
 cases sE q
 refine AI rfl (E4 [] (AI rfl (AJ TV)))
theorem H82:HI C82 82:=hI Tryz.f82 rfl fun x=>V82 x.1 x.2.1 x.2.2.1 x.2.2.2.1 x.2.2.2.2.1 x.2.2.2.2.2.1 x.2.2.2.2.2.2.1 x.2.2.2.2.2.2.2.1 x.2.2.2.2.2.2.2.2.1 x.2.2.2.2.2.2.2.2.2
def f81_j3 (a_M_0 a_M_1 a_M_2 a_M_3:Int):Option Bool:=
 bif ((Ft IntKind.u64 (fun p q=>p||| q) (Ft IntKind.u64 (fun p q=>p||| q) a_M_1 a_M_2) a_M_3) != 0) then
 some true
 else
 some (decide (a_M_0≥9223372036854775808))
def f81_j2 (a_Neg:Bool) (a_M_0 a_M_1 a_M_2 a_M_3:Int):Option (Sum Unit Int):=
 Ey (f81_j3 a_M_0 a_M_1 a_M_2 a_M_3) fun z3=>
 bif z3 then
 bif a_Neg then
 some (Sum.inr (-9223372036854775808:Int))
 else
 some (Sum.inr (9223372036854775807:Int))
 else
 some (Sum.inl ())
def f81 (a_Neg:Bool) (a_M_0 a_M_1 a_M_2 a_M_3:Int):Option Int:=
 Ey (f81_j2 a_Neg a_M_0 a_M_1 a_M_2 a_M_3) fun z2=>
 Fx z2 (fun z2a=>
 bif a_Neg then
 some (i64.wrap (0-(i64.wrap a_M_0)))
 else
 some (i64.wrap a_M_0)) (fun z2b=>
 some z2b)
def C81:Con:=⟨PTz7,Int,0,fun x=>[.raw true [(.d .bool x.1),(.d T10 x.2.1),(.d T10 x.2.2.1),(.d T10 x.2.2.2.1),(.d T10 x.2.2.2.2)]],NX,fun x=>f81 x.1 x.2.1 x.2.2.1 x.2.2.2.1 x.2.2.2.2,fun y=>[.dat T1 y],NX,0⟩
theorem V81 a_Neg a_M_0 a_M_1 a_M_2 a_M_3 y (q:f81 a_Neg a_M_0 a_M_1 a_M_2 a_M_3=some y):VC Tryz.f81 C81 (a_Neg,a_M_0,a_M_1,a_M_2,a_M_3) y:=by
 unfold f81 at q
 refine OL ?_
 obtain ⟨z2,hz2,q⟩:=bE q
 let h0:LH:=fun zz=>(0,.cells [(.d .bool a_Neg),(.d T10 a_M_0),(.d T10 a_M_1),(.d T10 a_M_2),(.d T10 a_M_3)])::zz
 refine OQ ⟨Sum.elim (fun z2a=>[(0,⟨[(1,P0 0 0)],h0 [],1⟩)]) (fun z2b=>[(1,⟨[(2,.dat T1 z2b)],[],0⟩)]) z2,?_,?_⟩
 ·have q:=hz2
  clear hz2
  unfold f81_j2 at q
  obtain ⟨z3,hz3,q⟩:=bE q
  refine OQ ⟨[(0,⟨[(1,P0 0 0),(20,.dat .bool z3)],h0 [],1⟩)],?_,?_⟩
  ·have q:=hz3
   clear hz3
   unfold f81_j3 at q
   refine AI (by decide) (AI (fun h=>absurd h (by decide)) ?_)
   refine AI (fun _=>?_) (AI (fun h=>absurd h (by decide)) (AI (fun h=>absurd h (by decide)) TV))
   refine AI (by decide) (AI (fun h=>absurd h (by decide)) ?_)
   refine AI (fun h=>absurd h (by decide)) ?_
   refine AI (fun _=>?_) (AI (fun h=>absurd h (by decide)) TV)
   refine AI (by decide) (AI (fun h=>absurd h (by decide)) ?_)
   refine AI (fun h=>absurd h (by decide)) ?_
   refine AI (fun h=>absurd h (by decide)) ?_
   refine AI (fun _=>?_) TV
   refine cN q (fun q=>?_) (fun q=>?_)
   ·refine gY (AI (by decide) (AI (fun _=>?_) (AI (fun h=>absurd h (by decide)) (AI (fun h=>absurd h (by decide)) (AI (fun h=>absurd h (by decide)) TV)))))
    refine gY (gY (cF ?_))
    cases sE q
    refine E4 (iuR [1]) (R2 (AJ (AI rfl TV)))
   refine gN (gN (gN (cT ?_)))
   cases sE q
   refine E4 (iuR [1]) (R2 (AJ (AI rfl TV)))
  refine AI (cI q (fun q=>?_) (fun q=>?_)) TV
  ·refine OL (OL (cI q (fun q=>?_) (fun q=>?_)))
   ·cases sE q
    refine OL (E4 [] (R2 (AI TV TV)))
   cases sE q
   refine OL (E4 [] (R2 (AI TV TV)))
  cases sE q
  refine E4 (iuR [1]) (AI rfl (AJ (AI rfl TV)))
 rcases z2 with z2a | z2b
 ·dsimp only [Fx] at q
  refine AI (OL (OL (cI q (fun q=>?_) (fun q=>?_)))) TV
  ·refine OL (AI (by decide) (AI (fun _=>?_) (AI (fun h=>absurd h (by decide)) (AI (fun h=>absurd h (by decide)) (AI (fun h=>absurd h (by decide)) TV)))))
   cases sE q
   refine AI rfl (E4 [] (R2 (AI TV TV)))
  refine OL (AI (by decide) (AI (fun _=>?_) (AI (fun h=>absurd h (by decide)) (AI (fun h=>absurd h (by decide)) (AI (fun h=>absurd h (by decide)) TV)))))
  cases sE q
  refine AI rfl (E4 [] (R2 (AI TV TV)))
 dsimp only [Fx] at q
 refine AI ?_ TV
 cases sE q
 refine AI rfl (E4 [] (R2 (AI TV TV)))
theorem H81:HI C81 81:=hI Tryz.f81 rfl fun x=>V81 x.1 x.2.1 x.2.2.1 x.2.2.2.1 x.2.2.2.2
def f55 (a b:Int):Option Int:=
 Ey (f83 a) fun r1=>
 Ey (f83 b) fun r2=>
 Ey (f82 r1.1 r1.2 (0:Int) (0:Int) (0:Int) r2.1 r2.2 (0:Int) (0:Int) (0:Int)) fun r3=>
 Ey (f81 r3.1 r3.2.1 r3.2.2.1 r3.2.2.2.1 r3.2.2.2.2) fun r4=>
 some r4
def C55:Con:=⟨F9,Int,0,fun x=>[.dat T1 x.1,.dat T1 x.2],NX,fun x=>f55 x.1 x.2,fun y=>[.dat T1 y],NX,0⟩
theorem V55 a b y (q:f55 a b=some y):VC Tryz.f55 C55 (a,b) y:=by
 unfold f55 at q
 refine OL (OL ?_)
 obtain ⟨r1,h,q⟩:=bE q
 refine OL (cA H83 a h rfl (AI rfl (K0 ?_)))
 obtain ⟨r2,h,q⟩:=bE q
 refine OL (cA H83 b h rfl (AI rfl (K0 ?_)))
 obtain ⟨r3,h,q⟩:=bE q
 refine OL (cA H82 (r1.1,r1.2,(0:Int),(0:Int),(0:Int),r2.1,r2.2,(0:Int),(0:Int),(0:Int)) h rfl (AI NH (R2 (AI (R2 TV) (AI TV ?_)))))
 obtain ⟨r4,h,q⟩:=bE q
 refine OL (cA H81 (r3.1,r3.2.1,r3.2.2.1,r3.2.2.2.1,r3.2.2.2.2) h rfl (AI NH (R2 (AJ (AI TV ?_)))))
 cases sE q
 refine AI rfl (E4 [] (R2 (AI TV TV)))
theorem H55:HI C55 55:=hI Tryz.f55 rfl fun x=>V55 x.1 x.2
def f84 (a_Neg:Bool) (a_M_0 a_M_1 a_M_2 a_M_3:Int):Option PTz7:=
 some ((!a_Neg),a_M_0,a_M_1,a_M_2,a_M_3)
def C84:Con:=⟨PTz7,PTz7,0,fun x=>[.raw true [(.d .bool x.1),(.d T10 x.2.1),(.d T10 x.2.2.1),(.d T10 x.2.2.2.1),(.d T10 x.2.2.2.2)]],NX,fun x=>f84 x.1 x.2.1 x.2.2.1 x.2.2.2.1 x.2.2.2.2,fun y=>[.raw true [(.d .bool y.1),(.d T10 y.2.1),(.d T10 y.2.2.1),(.d T10 y.2.2.2.1),(.d T10 y.2.2.2.2)]],NX,0⟩
theorem V84 a_Neg a_M_0 a_M_1 a_M_2 a_M_3 y (q:f84 a_Neg a_M_0 a_M_1 a_M_2 a_M_3=some y):VC Tryz.f84 C84 (a_Neg,a_M_0,a_M_1,a_M_2,a_M_3) y:=by
 unfold f84 at q
 refine OL (OL (OL ?_))
 cases sE q
 refine AI rfl (E4 [] (AI rfl (AJ TV)))
theorem H84:HI C84 84:=hI Tryz.f84 rfl fun x=>V84 x.1 x.2.1 x.2.2.1 x.2.2.2.1 x.2.2.2.2
def f56 (a b:Int):Option Int:=
 Ey (f83 a) fun r1=>
 Ey (f83 b) fun r2=>
 Ey (f84 r2.1 r2.2 (0:Int) (0:Int) (0:Int)) fun r3=>
 Ey (f82 r1.1 r1.2 (0:Int) (0:Int) (0:Int) r3.1 r3.2.1 r3.2.2.1 r3.2.2.2.1 r3.2.2.2.2) fun r4=>
 Ey (f81 r4.1 r4.2.1 r4.2.2.1 r4.2.2.2.1 r4.2.2.2.2) fun r5=>
 some r5
def C56:Con:=⟨F9,Int,0,fun x=>[.dat T1 x.1,.dat T1 x.2],NX,fun x=>f56 x.1 x.2,fun y=>[.dat T1 y],NX,0⟩
theorem V56 a b y (q:f56 a b=some y):VC Tryz.f56 C56 (a,b) y:=by
 unfold f56 at q
 refine OL (OL ?_)
 obtain ⟨r1,h,q⟩:=bE q
 refine OL (cA H83 a h rfl (AI rfl (K0 ?_)))
 obtain ⟨r2,h,q⟩:=bE q
 refine OL (cA H83 b h rfl (AI rfl (K0 ?_)))
 obtain ⟨r3,h,q⟩:=bE q
 refine OL (cA H84 (r2.1,r2.2,(0:Int),(0:Int),(0:Int)) h rfl (AI NH (R2 (AJ (AI TV ?_)))))
 obtain ⟨r4,h,q⟩:=bE q
 refine OL (cA H82 (r1.1,r1.2,(0:Int),(0:Int),(0:Int),r3.1,r3.2.1,r3.2.2.1,r3.2.2.2.1,r3.2.2.2.2) h rfl (AI NH (R2 (AI (R2 TV) (AI TV ?_)))))
 obtain ⟨r5,h,q⟩:=bE q
 refine OL (cA H81 (r4.1,r4.2.1,r4.2.2.1,r4.2.2.2.1,r4.2.2.2.2) h rfl (AI NH (R2 (AJ (AI TV ?_)))))
 cases sE q
 refine AI rfl (E4 [] (R2 (AI TV TV)))
theorem H56:HI C56 56:=hI Tryz.f56 rfl fun x=>V56 x.1 x.2
def f86_l1 (r1 r2:Int) (go:PTz15→Option PTz1) (v40 c1_0 c1_1 c1_2 c1_3:Int):Option PTz1:=
 bif (decide (v40<2)) then
 E9 (0≤v40∧v40<2)<|
 pickF v40
 [(Ey (f108 c1_0 c1_1 c1_2 c1_3 (u64.wrap ((u64.wrap ((Ft IntKind.u64 (fun p q=>p&&& q) r1 (4294967295:Int))*(Int.fdiv r2 (2 ^ min (Int.toNat (32:Int)) u64.bits))))*2 ^ min (Int.toNat (32:Int)) u64.bits)) (Int.fdiv (u64.wrap ((Ft IntKind.u64 (fun p q=>p&&& q) r1 (4294967295:Int))*(Int.fdiv r2 (2 ^ min (Int.toNat (32:Int)) u64.bits)))) (2 ^ min (Int.toNat (32:Int)) u64.bits)) (0:Int) (0:Int)) fun r9=>
 go ((i64.wrap (v40+1)),r9.1,r9.2.1,r9.2.2.1,r9.2.2.2)),
 (Ey (f108 c1_0 c1_1 c1_2 c1_3 (u64.wrap ((u64.wrap ((Int.fdiv r1 (2 ^ min (Int.toNat (32:Int)) u64.bits))*(Ft IntKind.u64 (fun p q=>p&&& q) r2 (4294967295:Int))))*2 ^ min (Int.toNat (32:Int)) u64.bits)) (Int.fdiv (u64.wrap ((Int.fdiv r1 (2 ^ min (Int.toNat (32:Int)) u64.bits))*(Ft IntKind.u64 (fun p q=>p&&& q) r2 (4294967295:Int)))) (2 ^ min (Int.toNat (32:Int)) u64.bits)) (0:Int) (0:Int)) fun r10=>
 go ((i64.wrap (v40+1)),r10.1,r10.2.1,r10.2.2.1,r10.2.2.2))]
 else
 some (c1_0,c1_1,c1_2,c1_3)
def f86 (a b:Int):Option PTz7:=
 Ey (f111 a) fun r1=>
 Ey (f111 b) fun r2=>
 Ey (Fq (fun go x=>f86_l1 r1 r2 go x.1 x.2.1 x.2.2.1 x.2.2.2.1 x.2.2.2.2) Fv ((0:Int),(u64.wrap ((Ft IntKind.u64 (fun p q=>p&&& q) r1 (4294967295:Int))*(Ft IntKind.u64 (fun p q=>p&&& q) r2 (4294967295:Int)))),(u64.wrap ((Int.fdiv r1 (2 ^ min (Int.toNat (32:Int)) u64.bits))*(Int.fdiv r2 (2 ^ min (Int.toNat (32:Int)) u64.bits)))),(0:Int),(0:Int))) fun z7=>
 some ((!((decide (a<0))==(decide (b<0)))),z7.1,z7.2.1,z7.2.2.1,z7.2.2.2)
def C86:Con:=⟨F9,PTz7,0,fun x=>[.dat T1 x.1,.dat T1 x.2],NX,fun x=>f86 x.1 x.2,fun y=>[.raw true [(.d .bool y.1),(.d T10 y.2.1),(.d T10 y.2.2.1),(.d T10 y.2.2.2.1),(.d T10 y.2.2.2.2)]],NX,0⟩
theorem V86 a b y (q:f86 a b=some y):VC Tryz.f86 C86 (a,b) y:=by
 unfold f86 at q
 refine OL (OL ?_)
 obtain ⟨r1,h,q⟩:=bE q
 refine OL (cA H111 a h rfl (AI rfl (K0 ?_)))
 obtain ⟨r2,h,q⟩:=bE q
 refine OL (cA H111 b h rfl (AI rfl (K0 (OL (AI (by decide) (AI (by decide) (OL (OL (OL (OL ?_))))))))))
 obtain ⟨z7,hz7,q⟩:=bE q
 let h0:LH:=fun zz=>(0,.cells [(.d .bool false),(.d T10 (0:Int)),(.d T10 (0:Int)),(.d T10 (0:Int)),(.d T10 (0:Int))])::zz
 refine lJ hz7 (fun x=>⟨[(0,.dat T1 a),(1,.dat T1 b),(4,P0 0 0),(11,P0 1 0),(39,.raw true [(.d T10 (u64.wrap ((Ft IntKind.u64 (fun p q=>p&&& q) r1 (4294967295:Int))*(Int.fdiv r2 (2 ^ min (Int.toNat (32:Int)) u64.bits))))),(.d T10 (u64.wrap ((Int.fdiv r1 (2 ^ min (Int.toNat (32:Int)) u64.bits))*(Ft IntKind.u64 (fun p q=>p&&& q) r2 (4294967295:Int)))))]),(40,.dat T1 x.1)],h0 [(1,.cells [(.d T10 x.2.1),(.d T10 x.2.2.1),(.d T10 x.2.2.2.1),(.d T10 x.2.2.2.2)])],2⟩) (fun z=>[(2,⟨[(0,.dat T1 a),(1,.dat T1 b),(4,P0 0 0),(11,P0 1 0)],h0 [(1,.cells [(.d T10 z.1),(.d T10 z.2.1),(.d T10 z.2.2.1),(.d T10 z.2.2.2)])],2⟩)]) (E4 I2 (R4 (AI (R3 TV) (R2 TV)))) (fun m=>F3 (fun v40=>F3 (fun c1_0=>F3 (fun c1_1=>F3 (fun c1_2=>fun c1_3 z q=>?_))))) ?_
 ·have q:f86_l1 r1 r2 _ v40 c1_0 c1_1 c1_2 c1_3=some z:=q
  unfold f86_l1 at q
  refine OL (OL (cI q (fun q=>?_) (fun q=>?_)))
  ·refine OL (OL (gI q (fun q=>?_)))
   refine AI (fun hk8=>?_) ?_
   ·have q:=Jf q hk8
    dsimp only [nthO] at q
    refine AI (by decide) (AI (by decide) ?_)
    obtain ⟨r9,h,q⟩:=bE q
    refine OL (cA H108 (c1_0,c1_1,c1_2,c1_3,(u64.wrap ((u64.wrap ((Ft IntKind.u64 (fun p q=>p&&& q) r1 (4294967295:Int))*(Int.fdiv r2 (2 ^ min (Int.toNat (32:Int)) u64.bits))))*2 ^ min (Int.toNat (32:Int)) u64.bits)),(Int.fdiv (u64.wrap ((Ft IntKind.u64 (fun p q=>p&&& q) r1 (4294967295:Int))*(Int.fdiv r2 (2 ^ min (Int.toNat (32:Int)) u64.bits)))) (2 ^ min (Int.toNat (32:Int)) u64.bits)),(0:Int),(0:Int)) h rfl ?_)
    refine AI NH (R2 (AI (R2 TV) (AI TV (OL (EI ((i64.wrap (v40+1)),r9.1,r9.2.1,r9.2.2.1,r9.2.2.2) (AI q (E4 I2 (R4 (AI (R3 TV) (R2 TV))))))))))
   refine AI (fun hk8=>?_) TV
   have q:=Jf q hk8
   dsimp only [nthO] at q
   refine AI (by decide) (AI (by decide) ?_)
   obtain ⟨r10,h,q⟩:=bE q
   refine OL (cA H108 (c1_0,c1_1,c1_2,c1_3,(u64.wrap ((u64.wrap ((Int.fdiv r1 (2 ^ min (Int.toNat (32:Int)) u64.bits))*(Ft IntKind.u64 (fun p q=>p&&& q) r2 (4294967295:Int))))*2 ^ min (Int.toNat (32:Int)) u64.bits)),(Int.fdiv (u64.wrap ((Int.fdiv r1 (2 ^ min (Int.toNat (32:Int)) u64.bits))*(Ft IntKind.u64 (fun p q=>p&&& q) r2 (4294967295:Int)))) (2 ^ min (Int.toNat (32:Int)) u64.bits)),(0:Int),(0:Int)) h rfl ?_)
   refine AI NH (R2 (AI (R2 TV) (AI TV (OL (EI ((i64.wrap (v40+1)),r10.1,r10.2.1,r10.2.2.1,r10.2.2.2) (AI q (E4 I2 (R4 (AI (R3 TV) (R2 TV))))))))))
  cases sE q
  refine E4 I2 (R3 (AI (R2 TV) (R2 TV)))
 refine AI (OL (OL ?_)) TV
 cases sE q
 refine AI rfl (E4 [] (AI rfl (AJ TV)))
theorem H86:HI C86 86:=hI Tryz.f86 rfl fun x=>V86 x.1 x.2
def f112 (m_0 m_1 m_2 m_3 i:Int):Option Int:=
 E9 (0≤(i64.wrap (Int.tdiv i (64:Int)))∧(i64.wrap (Int.tdiv i (64:Int)))<4)<|
 pickF (i64.wrap (Int.tdiv i (64:Int)))
 [(E9 (0≤(u64.wrap (Int.tmod i (64:Int))))<|
 some (Ft IntKind.u64 (fun p q=>p&&& q) (Int.fdiv m_0 (2 ^ min (Int.toNat (u64.wrap (Int.tmod i (64:Int)))) u64.bits)) (1:Int))),
 (E9 (0≤(u64.wrap (Int.tmod i (64:Int))))<|
 some (Ft IntKind.u64 (fun p q=>p&&& q) (Int.fdiv m_1 (2 ^ min (Int.toNat (u64.wrap (Int.tmod i (64:Int)))) u64.bits)) (1:Int))),
 (E9 (0≤(u64.wrap (Int.tmod i (64:Int))))<|
 some (Ft IntKind.u64 (fun p q=>p&&& q) (Int.fdiv m_2 (2 ^ min (Int.toNat (u64.wrap (Int.tmod i (64:Int)))) u64.bits)) (1:Int))),
 (E9 (0≤(u64.wrap (Int.tmod i (64:Int))))<|
 some (Ft IntKind.u64 (fun p q=>p&&& q) (Int.fdiv m_3 (2 ^ min (Int.toNat (u64.wrap (Int.tmod i (64:Int)))) u64.bits)) (1:Int)))]
def C112:Con:=⟨PTz15,Int,0,fun x=>[.raw true [(.d T10 x.1),(.d T10 x.2.1),(.d T10 x.2.2.1),(.d T10 x.2.2.2.1)],.dat T1 x.2.2.2.2],NX,fun x=>f112 x.1 x.2.1 x.2.2.1 x.2.2.2.1 x.2.2.2.2,fun y=>[.dat T10 y],NX,0⟩
theorem V112 m_0 m_1 m_2 m_3 i y (q:f112 m_0 m_1 m_2 m_3 i=some y):VC Tryz.f112 C112 (m_0,m_1,m_2,m_3,i) y:=by
 unfold f112 at q
 refine OL (OL (AI (by decide) (gI q (fun q=>?_))))
 refine AI (fun hk1=>?_) ?_
 ·have q:=Jf q hk1
  dsimp only [nthO] at q
  refine AI (by decide) (gI q (fun q=>?_))
  cases sE q
  refine AI rfl (E4 [] (R2 (AI TV TV)))
 refine AI (fun hk1=>?_) ?_
 ·have q:=Jf q hk1
  dsimp only [nthO] at q
  refine AI (by decide) (gI q (fun q=>?_))
  cases sE q
  refine AI rfl (E4 [] (R2 (AI TV TV)))
 refine AI (fun hk1=>?_) ?_
 ·have q:=Jf q hk1
  dsimp only [nthO] at q
  refine AI (by decide) (gI q (fun q=>?_))
  cases sE q
  refine AI rfl (E4 [] (R2 (AI TV TV)))
 refine AI (fun hk1=>?_) TV
 have q:=Jf q hk1
 dsimp only [nthO] at q
 refine AI (by decide) (gI q (fun q=>?_))
 cases sE q
 refine AI rfl (E4 [] (R2 (AI TV TV)))
theorem H112:HI C112 112:=hI Tryz.f112 rfl fun x=>V112 x.1 x.2.1 x.2.2.1 x.2.2.2.1 x.2.2.2.2
def f85_l1 (a_M_0 a_M_1 a_M_2 a_M_3 n:Int) (go:PTz15→Option PTz1) (i c2_1 c2_2 c2_3 c2_4:Int):Option PTz1:=
 bif (decide (i<256)) then
 Ey (f112 a_M_0 a_M_1 a_M_2 a_M_3 i) fun r6=>
 bif (r6==1) then
 E9 (0≤(i64.wrap (Int.tdiv (i64.wrap (i-n)) (64:Int)))∧(i64.wrap (Int.tdiv (i64.wrap (i-n)) (64:Int)))<4)<|
 pickF (i64.wrap (Int.tdiv (i64.wrap (i-n)) (64:Int)))
 [(E9 (0≤(u64.wrap (Int.tmod (i64.wrap (i-n)) (64:Int))))<|
 go ((i64.wrap (i+1)),(Ft IntKind.u64 (fun p q=>p||| q) c2_1 (u64.wrap ((1:Int)*2 ^ min (Int.toNat (u64.wrap (Int.tmod (i64.wrap (i-n)) (64:Int)))) u64.bits))),c2_2,c2_3,c2_4)),
 (E9 (0≤(u64.wrap (Int.tmod (i64.wrap (i-n)) (64:Int))))<|
 go ((i64.wrap (i+1)),c2_1,(Ft IntKind.u64 (fun p q=>p||| q) c2_2 (u64.wrap ((1:Int)*2 ^ min (Int.toNat (u64.wrap (Int.tmod (i64.wrap (i-n)) (64:Int)))) u64.bits))),c2_3,c2_4)),
 (E9 (0≤(u64.wrap (Int.tmod (i64.wrap (i-n)) (64:Int))))<|
 go ((i64.wrap (i+1)),c2_1,c2_2,(Ft IntKind.u64 (fun p q=>p||| q) c2_3 (u64.wrap ((1:Int)*2 ^ min (Int.toNat (u64.wrap (Int.tmod (i64.wrap (i-n)) (64:Int)))) u64.bits))),c2_4)),
 (E9 (0≤(u64.wrap (Int.tmod (i64.wrap (i-n)) (64:Int))))<|
 go ((i64.wrap (i+1)),c2_1,c2_2,c2_3,(Ft IntKind.u64 (fun p q=>p||| q) c2_4 (u64.wrap ((1:Int)*2 ^ min (Int.toNat (u64.wrap (Int.tmod (i64.wrap (i-n)) (64:Int)))) u64.bits)))))]
 else
 go ((i64.wrap (i+1)),c2_1,c2_2,c2_3,c2_4)
 else
 some (c2_1,c2_2,c2_3,c2_4)
def f85_j2 (a_M_0 a_M_1 a_M_2 a_M_3 n:Int):Option (Sum Unit Unit):=
 bif (n==0) then
 some (Sum.inr ())
 else
 Ey (f112 a_M_0 a_M_1 a_M_2 a_M_3 (i64.wrap (n-1))) fun r10=>
 bif (r10==0) then
 some (Sum.inr ())
 else
 some (Sum.inl ())
def f85_l3 (a_M_0 a_M_1 a_M_2 a_M_3 n:Int) (go:(Bool×Int)→Option Bool) (more:Bool) (i:Int):Option Bool:=
 bif (decide (i<(i64.wrap (n-1)))) then
 bif more then
 go (true,(i64.wrap (i+1)))
 else
 Ey (f112 a_M_0 a_M_1 a_M_2 a_M_3 i) fun r14=>
 go ((r14==1),(i64.wrap (i+1)))
 else
 some more
def f85 (a_Neg:Bool) (a_M_0 a_M_1 a_M_2 a_M_3 n:Int):Option PTz7:=
 Ey (Fq (fun go x=>f85_l1 a_M_0 a_M_1 a_M_2 a_M_3 n go x.1 x.2.1 x.2.2.1 x.2.2.2.1 x.2.2.2.2) Fv (n,(0:Int),(0:Int),(0:Int),(0:Int))) fun z5=>
 Ey (f85_j2 a_M_0 a_M_1 a_M_2 a_M_3 n) fun z9=>
 Fx z9 (fun z9a=>
 Ey (Fq (fun go x=>f85_l3 a_M_0 a_M_1 a_M_2 a_M_3 n go x.1 x.2) Fv (((Ft IntKind.u64 (fun p q=>p&&& q) z5.1 (1:Int))==1),(0:Int))) fun z13=>
 bif z13 then
 Ey (f108 z5.1 z5.2.1 z5.2.2.1 z5.2.2.2 (1:Int) (0:Int) (0:Int) (0:Int)) fun r15=>
 some (a_Neg,r15.1,r15.2.1,r15.2.2.1,r15.2.2.2)
 else
 some (a_Neg,z5.1,z5.2.1,z5.2.2.1,z5.2.2.2)) (fun z9b=>
 some (a_Neg,z5.1,z5.2.1,z5.2.2.1,z5.2.2.2))
def C85:Con:=⟨Bool×PTz15,PTz7,0,fun x=>[.raw true [(.d .bool x.1),(.d T10 x.2.1),(.d T10 x.2.2.1),(.d T10 x.2.2.2.1),(.d T10 x.2.2.2.2.1)],.dat T1 x.2.2.2.2.2],NX,fun x=>f85 x.1 x.2.1 x.2.2.1 x.2.2.2.1 x.2.2.2.2.1 x.2.2.2.2.2,fun y=>[.raw true [(.d .bool y.1),(.d T10 y.2.1),(.d T10 y.2.2.1),(.d T10 y.2.2.2.1),(.d T10 y.2.2.2.2)]],NX,0⟩
theorem V85 a_Neg a_M_0 a_M_1 a_M_2 a_M_3 n y (q:f85 a_Neg a_M_0 a_M_1 a_M_2 a_M_3 n=some y):VC Tryz.f85 C85 (a_Neg,a_M_0,a_M_1,a_M_2,a_M_3,n) y:=by
 unfold f85 at q
 refine OL (OL (OL (OL (OL ?_))))
 obtain ⟨z5,hz5,q⟩:=bE q
 let e0:LE:=fun zz=>(1,.dat T1 n)::(2,P0 0 0)::(4,P0 1 0)::(5,P0 2 0)::zz
 let h1:LH:=fun zz=>(0,.cells [(.d .bool a_Neg),(.d T10 a_M_0),(.d T10 a_M_1),(.d T10 a_M_2),(.d T10 a_M_3)])::(1,.cells [(.d .bool false),(.d T10 (0:Int)),(.d T10 (0:Int)),(.d T10 (0:Int)),(.d T10 (0:Int))])::zz
 refine lJ hz5 (fun x=>⟨e0 [(6,.dat T1 x.1)],h1 [(2,.cells [(.d .bool a_Neg),(.d T10 x.2.1),(.d T10 x.2.2.1),(.d T10 x.2.2.2.1),(.d T10 x.2.2.2.2)])],3⟩) (fun z=>[(2,⟨e0 [],h1 [(2,.cells [(.d .bool a_Neg),(.d T10 z.1),(.d T10 z.2.1),(.d T10 z.2.2.1),(.d T10 z.2.2.2)])],3⟩)]) (E4 I3 (R3 (AI (R3 TV) (R3 TV)))) (fun m=>F3 (fun i=>F3 (fun c2_1=>F3 (fun c2_2=>F3 (fun c2_3=>fun c2_4 z q=>?_))))) ?_
 ·have q:f85_l1 a_M_0 a_M_1 a_M_2 a_M_3 n _ i c2_1 c2_2 c2_3 c2_4=some z:=q
  unfold f85_l1 at q
  refine OL (OL (cI q (fun q=>?_) (fun q=>?_)))
  ·refine OL (OL ?_)
   obtain ⟨r6,h,q⟩:=bE q
   refine OL (cA H112 (a_M_0,a_M_1,a_M_2,a_M_3,i) h rfl (AI rfl (AI NH (R2 (AJ (AI TV (cI q (fun q=>?_) (fun q=>?_))))))))
   ·refine AI (by decide) (AI (by decide) (gI q (fun q=>?_)))
    refine AI (fun hk7=>?_) ?_
    ·have q:=Jf q hk7
     dsimp only [nthO] at q
     refine AI (by decide) (gI q (fun q=>?_))
     refine AI (rE hk7 (by decide)) (AI (fun _=>?_) (AI (fun h=>absurd (hk7.symm.trans h) (by decide)) (AI (fun h=>absurd (hk7.symm.trans h) (by decide)) (AI (fun h=>absurd (hk7.symm.trans h) (by decide)) TV))))
     refine OL (EI ((i64.wrap (i+1)),(Ft IntKind.u64 (fun p q=>p||| q) c2_1 (u64.wrap ((1:Int)*2 ^ min (Int.toNat (u64.wrap (Int.tmod (i64.wrap (i-n)) (64:Int)))) u64.bits))),c2_2,c2_3,c2_4) (AI q (E4 I3 (R3 (AI (R3 TV) (R3 TV))))))
    refine AI (fun hk7=>?_) ?_
    ·have q:=Jf q hk7
     dsimp only [nthO] at q
     refine AI (by decide) (gI q (fun q=>?_))
     refine AI (rE hk7 (by decide)) (AI (fun h=>absurd (hk7.symm.trans h) (by decide)) ?_)
     refine AI (fun _=>?_) (AI (fun h=>absurd (hk7.symm.trans h) (by decide)) (AI (fun h=>absurd (hk7.symm.trans h) (by decide)) TV))
     refine OL (EI ((i64.wrap (i+1)),c2_1,(Ft IntKind.u64 (fun p q=>p||| q) c2_2 (u64.wrap ((1:Int)*2 ^ min (Int.toNat (u64.wrap (Int.tmod (i64.wrap (i-n)) (64:Int)))) u64.bits))),c2_3,c2_4) (AI q (E4 I3 (R3 (AI (R3 TV) (R3 TV))))))
    refine AI (fun hk7=>?_) ?_
    ·have q:=Jf q hk7
     dsimp only [nthO] at q
     refine AI (by decide) (gI q (fun q=>?_))
     refine AI (rE hk7 (by decide)) (AI (fun h=>absurd (hk7.symm.trans h) (by decide)) ?_)
     refine AI (fun h=>absurd (hk7.symm.trans h) (by decide)) ?_
     refine AI (fun _=>?_) (AI (fun h=>absurd (hk7.symm.trans h) (by decide)) TV)
     refine OL (EI ((i64.wrap (i+1)),c2_1,c2_2,(Ft IntKind.u64 (fun p q=>p||| q) c2_3 (u64.wrap ((1:Int)*2 ^ min (Int.toNat (u64.wrap (Int.tmod (i64.wrap (i-n)) (64:Int)))) u64.bits))),c2_4) (AI q (E4 I3 (R3 (AI (R3 TV) (R3 TV))))))
    refine AI (fun hk7=>?_) TV
    have q:=Jf q hk7
    dsimp only [nthO] at q
    refine AI (by decide) (gI q (fun q=>?_))
    refine AI (rE hk7 (by decide)) (AI (fun h=>absurd (hk7.symm.trans h) (by decide)) ?_)
    refine AI (fun h=>absurd (hk7.symm.trans h) (by decide)) ?_
    refine AI (fun h=>absurd (hk7.symm.trans h) (by decide)) ?_
    refine AI (fun _=>?_) TV
    refine OL (EI ((i64.wrap (i+1)),c2_1,c2_2,c2_3,(Ft IntKind.u64 (fun p q=>p||| q) c2_4 (u64.wrap ((1:Int)*2 ^ min (Int.toNat (u64.wrap (Int.tmod (i64.wrap (i-n)) (64:Int)))) u64.bits)))) (AI q (E4 I3 (R3 (AI (R3 TV) (R3 TV))))))
   refine EI ((i64.wrap (i+1)),c2_1,c2_2,c2_3,c2_4) (AI q (E4 I3 (R3 (AI (R3 TV) (R3 TV)))))
  cases sE q
  refine E4 I3 (R2 (AI (R3 TV) (R3 TV)))
 refine AI ?_ TV
 obtain ⟨z9,hz9,q⟩:=bE q
 let h2:LH:=fun zz=>h1 ((2,.cells [(.d .bool a_Neg),(.d T10 z5.1),(.d T10 z5.2.1),(.d T10 z5.2.2.1),(.d T10 z5.2.2.2)])::zz)
 refine OQ ⟨Sum.elim (fun z9a=>[(0,⟨e0 [],h2 [],3⟩)]) (fun z9b=>[(1,⟨[(4,P0 0 0)],[(0,.cells [(.d .bool a_Neg),(.d T10 z5.1),(.d T10 z5.2.1),(.d T10 z5.2.2.1),(.d T10 z5.2.2.2)])],1⟩)]) z9,?_,?_⟩
 ·have q:=hz9
  clear hz9
  unfold f85_j2 at q
  refine OL (cN q (fun q=>?_) (fun q=>?_))
  ·refine gY (gY (gY (gY ?_)))
   obtain ⟨r10,h,q⟩:=bE q
   refine OL (cA H112 (a_M_0,a_M_1,a_M_2,a_M_3,(i64.wrap (n-1))) h rfl (AI rfl (AI NH (R2 (AJ (AI TV (gY (cF (cI q (fun q=>?_) (fun q=>?_))))))))))
   ·refine OL (OL ?_)
    cases sE q
    refine E4 (iuR [2]) (AI rfl (AJ (AI rfl TV)))
   cases sE q
   refine E4 I3 (R2 (AI (R3 TV) (R3 TV)))
  refine gN (gN (gN (gN (gN (cT (cT (OL (OL ?_))))))))
  cases sE q
  refine E4 (iuR [2]) (AI rfl (AJ (AI rfl TV)))
 rcases z9 with z9a | z9b
 ·dsimp only [Fx] at q
  refine AI (OL (AI (by decide) (AI (fun _=>?_) (AI (fun h=>absurd h (by decide)) (AI (fun h=>absurd h (by decide)) (AI (fun h=>absurd h (by decide)) TV)))))) TV
  refine OL (OL ?_)
  obtain ⟨z13,h,q⟩:=bE q
  refine lJ h (fun x=>⟨e0 [(7,.dat .bool x.1),(8,.dat T1 x.2)],h2 [],3⟩) (fun z=>[(4,⟨[(4,P0 0 0),(5,P0 1 0),(7,.dat .bool z)],[(0,.cells [(.d .bool false),(.d T10 (0:Int)),(.d T10 (0:Int)),(.d T10 (0:Int)),(.d T10 (0:Int))]),(1,.cells [(.d .bool a_Neg),(.d T10 z5.1),(.d T10 z5.2.1),(.d T10 z5.2.2.1),(.d T10 z5.2.2.2)])],2⟩)]) (E4 I3 (R4 (AI (R3 TV) (R3 TV)))) (fun m=>F3 (fun more=>fun i z q=>?_)) ?_
  ·have q:f85_l3 a_M_0 a_M_1 a_M_2 a_M_3 n _ more i=some z:=q
   unfold f85_l3 at q
   refine OL (OL (cI q (fun q=>?_) (fun q=>?_)))
   ·refine OL (cN q (fun q=>?_) (fun q=>?_))
    ·refine gY (gY (gY ?_))
     obtain ⟨r14,h,q⟩:=bE q
     refine OL (cA H112 (a_M_0,a_M_1,a_M_2,a_M_3,i) h rfl (AI rfl (AI NH (R2 (AJ (AI TV (gY (cF (EI ((r14==1),(i64.wrap (i+1))) (AI q (E4 I3 (R4 (AI (R3 TV) (R3 TV))))))))))))))
    refine gN (gN (gN (gN (cT (EI (true,(i64.wrap (i+1))) (AI q (E4 I3 (R4 (AI (R3 TV) (R3 TV))))))))))
   cases sE q
   refine E4 (iuR [2,3]) (R2 (AI (R2 TV) (R2 TV)))
  refine AI (OL (OL (cI q (fun q=>?_) (fun q=>?_)))) TV
  ·obtain ⟨r15,h,q⟩:=bE q
   refine OL (cA H108 (z5.1,z5.2.1,z5.2.2.1,z5.2.2.2,(1:Int),(0:Int),(0:Int),(0:Int)) h rfl (AI NH (R2 (AI (R2 TV) (AI TV (OL (OL (OL ?_))))))))
   cases sE q
   refine AI rfl (E4 [] (AI rfl (AJ TV)))
  refine OL (OL ?_)
  cases sE q
  refine AI rfl (E4 [] (AI rfl (AJ TV)))
 dsimp only [Fx] at q
 refine AI ?_ TV
 cases sE q
 refine AI rfl (E4 [] (AI rfl (AJ TV)))
theorem H85:HI C85 85:=hI Tryz.f85 rfl fun x=>V85 x.1 x.2.1 x.2.2.1 x.2.2.2.1 x.2.2.2.2.1 x.2.2.2.2.2
def f57 (a b:Int):Option Int:=
 Ey (f86 a b) fun r1=>
 Ey (f85 r1.1 r1.2.1 r1.2.2.1 r1.2.2.2.1 r1.2.2.2.2 (32:Int)) fun r2=>
 Ey (f81 r2.1 r2.2.1 r2.2.2.1 r2.2.2.2.1 r2.2.2.2.2) fun r3=>
 some r3
def C57:Con:=⟨F9,Int,0,fun x=>[.dat T1 x.1,.dat T1 x.2],NX,fun x=>f57 x.1 x.2,fun y=>[.dat T1 y],NX,0⟩
theorem V57 a b y (q:f57 a b=some y):VC Tryz.f57 C57 (a,b) y:=by
 unfold f57 at q
 refine OL (OL ?_)
 obtain ⟨r1,h,q⟩:=bE q
 refine OL (cA H86 (a,b) h rfl (R2 (K0 ?_)))
 obtain ⟨r2,h,q⟩:=bE q
 refine OL (cA H85 (r1.1,r1.2.1,r1.2.2.1,r1.2.2.2.1,r1.2.2.2.2,(32:Int)) h rfl (AI rfl (AI NH (R2 (AJ (AI TV ?_))))))
 obtain ⟨r3,h,q⟩:=bE q
 refine OL (cA H81 (r2.1,r2.2.1,r2.2.2.1,r2.2.2.2.1,r2.2.2.2.2) h rfl (AI NH (R2 (AJ (AI TV ?_)))))
 cases sE q
 refine AI rfl (E4 [] (R2 (AI TV TV)))
theorem H57:HI C57 57:=hI Tryz.f57 rfl fun x=>V57 x.1 x.2
def f30_j3 (a b:Fy):Option Bool:=
 Ey (f51 (a.1,a.2)) fun r9=>
 bif (!r9) then
 some true
 else
 Ey (f51 (b.1,b.2)) fun r10=>
 some (!r10)
def f30_j2 (a b:Fy):Option (Sum Unit Unit):=
 Ey (f30_j3 a b) fun z8=>
 bif z8 then
 some (Sum.inr ())
 else
 some (Sum.inl ())
def f30_l4 (op:Int) (a b:Fy) (r11:K4) (go:K4→Option LI) (i:Int) (l6:LI):Option LI:=
 bif (decide (i<l6.length)) then
 Ey (f54 a.1 r11.2 i) fun r18=>
 Ey (f54 b.1 r11.2 i) fun r19=>
 bif (op==0) then
 E9 (0≤r18.1∧r18.1<a.2.length)<|
 E9 (0≤r19.1∧r19.1<b.2.length)<|
 Ey (f55 (rd 0 a.2 r18.1) (rd 0 b.2 r19.1)) fun q15_13=>
 E9 (0≤i∧i<l6.length)<|
 go ((i64.wrap (i+1)),(List.set l6 (Int.toNat i) q15_13))
 else
 bif (op==1) then
 E9 (0≤r18.1∧r18.1<a.2.length)<|
 E9 (0≤r19.1∧r19.1<b.2.length)<|
 Ey (f56 (rd 0 a.2 r18.1) (rd 0 b.2 r19.1)) fun q17_13=>
 E9 (0≤i∧i<l6.length)<|
 go ((i64.wrap (i+1)),(List.set l6 (Int.toNat i) q17_13))
 else
 E9 (0≤r18.1∧r18.1<a.2.length)<|
 E9 (0≤r19.1∧r19.1<b.2.length)<|
 Ey (f57 (rd 0 a.2 r18.1) (rd 0 b.2 r19.1)) fun q13_13=>
 E9 (0≤i∧i<l6.length)<|
 go ((i64.wrap (i+1)),(List.set l6 (Int.toNat i) q13_13))
 else
 some l6
def f30 (op:Int) (a b:Fy):Option Gz:=
 Ey (f30_j2 a b) fun z5=>
 Fx z5 (fun z5a=>
 Ey (f53 a.1 b.1) fun r11=>
 bif (r11.1 != 0) then
 some (r11.1,[],[])
 else
 Ey (f28 r11.2 (0:Int)) fun r12=>
 Ey (Fq (fun go x=>f30_l4 op a b r11 go x.1 x.2) Fv ((0:Int),r12.2)) fun z17=>
 some ((0:Int),r12.1,z17)) (fun z5b=>
 some ((1:Int),[],[]))
def C30:Con:=⟨Int×Fy×Fy,Gz,0,fun x=>[.dat T1 x.1,.dat T9 x.2.1,.dat T9 x.2.2],NX,fun x=>f30 x.1 x.2.1 x.2.2,fun y=>[.raw true [(.osl 0),(.osl 1)],.dat T1 y.1],fun y=>[(0,.arr 3 T1 y.2.1),(1,.arr 57 T1 y.2.2)],2⟩
theorem V30 op a b y (q:f30 op a b=some y):VC Tryz.f30 C30 (op,a,b) y:=by
 unfold f30 at q
 refine OL ?_
 obtain ⟨z5,hz5,q⟩:=bE q
 let e0:LE:=fun zz=>(0,.dat T1 op)::(4,P0 0 0)::(5,P0 1 0)::(6,P0 2 0)::zz
 let h1:LH:=fun zz=>(0,.cells [(.d T6 a.1),(.d T6 a.2)])::(1,.cells [(.d T6 b.1),(.d T6 b.2)])::(2,.cells [N0,N0])::zz
 refine OQ ⟨Sum.elim (fun z5a=>[(0,⟨e0 [],h1 [],3⟩)]) (fun z5b=>[(1,⟨[(6,P0 0 0),(7,D0 1)],[(0,.cells [N0,N0])],1⟩)]) z5,?_,?_⟩
 ·have q:=hz5
  clear hz5
  unfold f30_j2 at q
  obtain ⟨z8,hz8,q⟩:=bE q
  refine OQ ⟨[(0,⟨e0 [(23,.dat .bool z8)],h1 [],3⟩)],?_,?_⟩
  ·have q:=hz8
   clear hz8
   unfold f30_j3 at q
   obtain ⟨r9,h,q⟩:=bE q
   refine OL (cA H51 (a.1,a.2) h rfl (R2 (K0 (cN q (fun q=>?_) (fun q=>?_)))))
   ·refine gY ?_
    obtain ⟨r10,h,q⟩:=bE q
    refine OL (cA H51 (b.1,b.2) h rfl (R2 (K0 (gY (cF ?_)))))
    cases sE q
    refine E4 I3 (R3 (AI (R3 TV) (R3 TV)))
   refine gN (gN (cT ?_))
   cases sE q
   refine E4 I3 (R3 (AI (R3 TV) (R3 TV)))
  refine AI (cI q (fun q=>?_) (fun q=>?_)) TV
  ·refine OL (OL ?_)
   cases sE q
   refine E4 (iuR [3]) (R2 (AJ (AI rfl TV)))
  cases sE q
  refine E4 I3 (R2 (AI (R3 TV) (R3 TV)))
 rcases z5 with z5a | z5b
 ·dsimp only [Fx] at q
  refine AI (OL ?_) TV
  obtain ⟨r11,h,q⟩:=bE q
  refine OL (cA H53 (a.1,b.1) h rfl (R2 (K0 (OL (OL (cI q (fun q=>?_) (fun q=>?_)))))))
  ·refine OL (OL ?_)
   cases sE q
   refine AI rfl (E4 (iuR [0,0]) (R2 (AJ (R2 TV))))
  refine OL ?_
  obtain ⟨r12,h,q⟩:=bE q
  refine OL (cD H28 (r11.2,(0:Int)) h rfl (R2 (AI (fun _=>rfl) (R2 (AI TV (AI TV (OL (OL (OL ?_)))))))))
  obtain ⟨z17,h,q⟩:=bE q
  refine lJ h (fun x=>⟨e0 [(8,O0 3),(10,P0 4 0),(11,.dat T1 x.1)],h1 [(3,.arr 3 T1 r11.2),(4,.cells [(.osl 5),(.osl 6)]),(5,.arr 3 T1 r12.1),(6,.arr 57 T1 x.2)],7⟩) (fun z=>[(2,⟨[(6,P0 0 0),(10,P0 1 0)],[(0,.cells [N0,N0]),(1,.cells [(.osl 2),(.osl 3)]),(2,.arr 3 T1 r12.1),(3,.arr 57 T1 z)],4⟩)]) (E4 (iuR [1,2,3,4,7,5,6]) (R3 (AI (R5 TV) (R7 TV)))) (fun m=>F3 (fun i=>fun l6 z q=>?_)) ?_
  ·have q:f30_l4 op a b r11 _ i l6=some z:=q
   unfold f30_l4 at q
   refine OL (OL (cI q (fun q=>?_) (fun q=>?_)))
   ·refine OL (OL ?_)
    obtain ⟨r18,h,q⟩:=bE q
    refine OL (cD H54 (a.1,r11.2,i) h rfl (R3 (AI (fun _=>rfl) (R2 (AI TV (AI TV (OL ?_)))))))
    obtain ⟨r19,h,q⟩:=bE q
    refine OL (cD H54 (b.1,r11.2,i) h rfl (R3 (AI (fun _=>rfl) (R2 (AI TV (AI TV (OL (OL (cI q (fun q=>?_) (fun q=>?_))))))))))
    ·refine EI (tU 0 13 (.alt 13 (.take 14 (.alt 15 .done .done)) .done)) (EI [] (EI [] (AI rfl (gI q (fun q=>?_)))))
     refine gI q (fun q=>?_)
     refine AI TV ?_
     obtain ⟨q15_13,h,q⟩:=bE q
     refine OL (cA H55 ((rd 0 a.2 r18.1),(rd 0 b.2 r19.1)) h rfl (R2 (K0 (gI q (fun q=>?_)))))
     refine AI TV (OL (EI ((i64.wrap (i+1)),(List.set l6 (Int.toNat i) q15_13)) (AI q (E4 I7 (R3 (AI (R5 TV) (R7 TV)))))))
    refine OL (cI q (fun q=>?_) (fun q=>?_))
    ·refine EI (tU 0 13 (.alt 13 (.take 14 (.alt 15 .done .done)) .done)) (EI [] (EI [] (AI rfl (gI q (fun q=>?_)))))
     refine gI q (fun q=>?_)
     refine AI TV ?_
     obtain ⟨q17_13,h,q⟩:=bE q
     refine OL (cA H56 ((rd 0 a.2 r18.1),(rd 0 b.2 r19.1)) h rfl (R2 (K0 (gI q (fun q=>?_)))))
     refine AI TV (OL (EI ((i64.wrap (i+1)),(List.set l6 (Int.toNat i) q17_13)) (AI q (E4 I7 (R3 (AI (R5 TV) (R7 TV)))))))
    refine EI (tU 0 13 (.alt 13 (.take 14 (.alt 15 .done .done)) .done)) (EI [] (EI [] (AI rfl (gI q (fun q=>?_)))))
    refine gI q (fun q=>?_)
    refine AI TV ?_
    obtain ⟨q13_13,h,q⟩:=bE q
    refine OL (cA H57 ((rd 0 a.2 r18.1),(rd 0 b.2 r19.1)) h rfl (R2 (K0 (gI q (fun q=>?_)))))
    refine AI TV (OL (EI ((i64.wrap (i+1)),(List.set l6 (Int.toNat i) q13_13)) (AI q (E4 I7 (R3 (AI (R5 TV) (R7 TV)))))))
   cases sE q
   refine E4 (iuR [3,5,6,7]) (AI rfl (AI (R2 TV) (R4 TV)))
  refine AI (OL (OL ?_)) TV
  cases sE q
  refine AI rfl (E4 (iuR [3,4]) (R2 (AJ (R2 TV))))
 dsimp only [Fx] at q
 refine AI ?_ TV
 cases sE q
 refine AI rfl (E4 (iuR [0,0]) (R2 (AJ (R2 TV))))
theorem H30:HI C30 30:=hI Tryz.f30 rfl fun x=>V30 x.1 x.2.1 x.2.2
def f94_l1 (a:Fy) (k:Int) (go:K4→Option LI) (i:Int) (l4:LI):Option LI:=
 bif (decide (i<l4.length)) then
 E9 (0≤i∧i<a.2.length)<|
 Ey (f57 (rd 0 a.2 i) k) fun q7_9=>
 E9 (0≤i∧i<l4.length)<|
 go ((i64.wrap (i+1)),(List.set l4 (Int.toNat i) q7_9))
 else
 some l4
def f94 (a:Fy) (k:Int):Option Gz:=
 Ey (f51 (a.1,a.2)) fun q7_11=>
 bif (!q7_11) then
 some ((1:Int),[],[])
 else
 Ey (f28 a.1 (0:Int)) fun r1=>
 Ey (Fq (fun go x=>f94_l1 a k go x.1 x.2) Fv ((0:Int),r1.2)) fun z2=>
 some ((0:Int),r1.1,z2)
def C94:Con:=⟨Fy×Int,Gz,0,fun x=>[.dat T9 x.1,.dat T1 x.2],NX,fun x=>f94 x.1 x.2,fun y=>[.raw true [(.osl 0),(.osl 1)],.dat T1 y.1],fun y=>[(0,.arr 3 T1 y.2.1),(1,.arr 57 T1 y.2.2)],2⟩
theorem V94 a k y (q:f94 a k=some y):VC Tryz.f94 C94 (a,k) y:=by
 unfold f94 at q
 refine OL (OL (OL ?_))
 obtain ⟨q7_11,h,q⟩:=bE q
 refine OL (cA H51 (a.1,a.2) h rfl (R2 (K0 (cI q (fun q=>?_) (fun q=>?_)))))
 ·refine OL (OL ?_)
  cases sE q
  refine AI rfl (E4 (iuR [0,0]) (R2 (AJ (R2 TV))))
 refine OL ?_
 obtain ⟨r1,h,q⟩:=bE q
 refine OL (cA H28 (a.1,(0:Int)) h rfl (R2 (K0 (OL (OL (OL ?_))))))
 obtain ⟨z2,h,q⟩:=bE q
 refine lJ h (fun x=>⟨[(1,.dat T1 k),(2,P0 0 0),(4,P0 1 0),(6,P0 2 0),(7,.dat T1 x.1)],[(0,.cells [(.d T6 a.1),(.d T6 a.2)]),(1,.cells [N0,N0]),(2,.cells [(.osl 3),(.osl 4)]),(3,.arr 3 T1 r1.1),(4,.arr 57 T1 x.2)],5⟩) (fun z=>[(2,⟨[(4,P0 0 0),(6,P0 1 0)],[(0,.cells [N0,N0]),(1,.cells [(.osl 2),(.osl 3)]),(2,.arr 3 T1 r1.1),(3,.arr 57 T1 z)],4⟩)]) (E4 (iuR [1,2,5,3,4]) (R3 (AI (R3 TV) (R5 TV)))) (fun m=>F3 (fun i=>fun l4 z q=>?_)) ?_
 ·have q:f94_l1 a k _ i l4=some z:=q
  unfold f94_l1 at q
  refine OL (OL (cI q (fun q=>?_) (fun q=>?_)))
  ·refine OL (EI (tU 0 9 (.alt 9 (.take 10 (.alt 11 .done .done)) .done)) (EI [] (EI [] (AI rfl (gI q (fun q=>?_))))))
   refine AI TV ?_
   obtain ⟨q7_9,h,q⟩:=bE q
   refine OL (cA H57 ((rd 0 a.2 i),k) h rfl (R2 (K0 (gI q (fun q=>?_)))))
   refine AI TV (OL (EI ((i64.wrap (i+1)),(List.set l4 (Int.toNat i) q7_9)) (AI q (E4 I5 (R3 (AI (R3 TV) (R5 TV)))))))
  cases sE q
  refine E4 (iuR [2,3,4,5]) (AI rfl (AI (R2 TV) (R4 TV)))
 refine AI (OL (OL ?_)) TV
 cases sE q
 refine AI rfl (E4 (iuR [3,4]) (R2 (AJ (R2 TV))))
theorem H94:HI C94 94:=hI Tryz.f94 rfl fun x=>V94 x.1 x.2
def f95_j3 (a b:Fy):Option Bool:=
 Ey (f51 (a.1,a.2)) fun r9=>
 bif (!r9) then
 some true
 else
 Ey (f51 (b.1,b.2)) fun r10=>
 some (!r10)
def f95_j2 (a b:Fy):Option (Sum Unit Unit):=
 Ey (f95_j3 a b) fun z8=>
 bif z8 then
 some (Sum.inr ())
 else
 some (Sum.inl ())
def f95_j6 (a b:Fy):Option Bool:=
 bif ((a.1.length:Int) != 2) then
 some true
 else
 bif ((b.1.length:Int) != 2) then
 some true
 else
 E9 (0≤(1:Int)∧1<(a.1.length:Int))<|
 E9 (0≤(0:Int)∧0<(b.1.length:Int))<|
 some ((rd 0 a.1 1) != (rd 0 b.1 0))
def f95_j5 (a b:Fy):Option (Sum Unit Unit):=
 Ey (f95_j6 a b) fun z13=>
 bif z13 then
 some (Sum.inr ())
 else
 some (Sum.inl ())
def f95_l19 (a b:Fy) (i j:Int) (go:(Int×PTz7)→Option PTz7) (q_:Int) (c4_0:Bool) (c4_1 c4_2 c4_3 c4_4:Int):Option PTz7:=
 bif (decide (q_<(rd 0 a.1 1))) then
 E9 (0≤(i64.wrap ((i64.wrap (i*(rd 0 a.1 1)))+q_))∧(i64.wrap ((i64.wrap (i*(rd 0 a.1 1)))+q_))<a.2.length)<|
 E9 (0≤(i64.wrap ((i64.wrap (q_*(rd 0 b.1 1)))+j))∧(i64.wrap ((i64.wrap (q_*(rd 0 b.1 1)))+j))<b.2.length)<|
 Ey (f86 (rd 0 a.2 (i64.wrap ((i64.wrap (i*(rd 0 a.1 1)))+q_))) (rd 0 b.2 (i64.wrap ((i64.wrap (q_*(rd 0 b.1 1)))+j)))) fun q19_19=>
 Ey (f82 c4_0 c4_1 c4_2 c4_3 c4_4 q19_19.1 q19_19.2.1 q19_19.2.2.1 q19_19.2.2.2.1 q19_19.2.2.2.2) fun q19_20=>
 go ((i64.wrap (q_+1)),q19_20.1,q19_20.2.1,q19_20.2.2.1,q19_20.2.2.2.1,q19_20.2.2.2.2)
 else
 some (c4_0,c4_1,c4_2,c4_3,c4_4)
def f95_l18 (a b:Fy) (i:Int) (go:K4→Option LI) (j:Int) (l5_2:LI):Option LI:=
 bif (decide (j<(rd 0 b.1 1))) then
 Ey (Fq (fun go x=>f95_l19 a b i j go x.1 x.2.1 x.2.2.1 x.2.2.2.1 x.2.2.2.2.1 x.2.2.2.2.2) Fv ((0:Int),false,(0:Int),(0:Int),(0:Int),(0:Int))) fun z27=>
 Ey (f85 z27.1 z27.2.1 z27.2.2.1 z27.2.2.2.1 z27.2.2.2.2 (32:Int)) fun q20_8=>
 Ey (f81 q20_8.1 q20_8.2.1 q20_8.2.2.1 q20_8.2.2.2.1 q20_8.2.2.2.2) fun q20_9=>
 E9 (0≤(i64.wrap ((i64.wrap (i*(rd 0 b.1 1)))+j))∧(i64.wrap ((i64.wrap (i*(rd 0 b.1 1)))+j))<l5_2.length)<|
 go ((i64.wrap (j+1)),(List.set l5_2 (Int.toNat (i64.wrap ((i64.wrap (i*(rd 0 b.1 1)))+j))) q20_9))
 else
 some l5_2
def f95_l15 (a b:Fy) (go:K4→Option LI) (i:Int) (l5:LI):Option LI:=
 bif (decide (i<(rd 0 a.1 0))) then
 Ey (Fq (fun go x=>f95_l18 a b i go x.1 x.2) Fv ((0:Int),l5)) fun z26=>
 go ((i64.wrap (i+1)),z26)
 else
 some l5
def f95 (a b:Fy):Option Gz:=
 Ey (f95_j2 a b) fun z5=>
 Fx z5 (fun z5a=>
 Ey (f95_j5 a b) fun z12=>
 Fx z12 (fun z12a=>
 E9 (0≤(0:Int)∧0<(a.1.length:Int))<|
 E9 (0≤(1:Int)∧1<(b.1.length:Int))<|
 E9 (0≤(1:Int)∧1<(a.1.length:Int))<|
 Ey (f76 ([(rd 0 a.1 0),(rd 0 b.1 1)])) fun q5_14=>
 bif (!q5_14) then
 some ((2:Int),[],[])
 else
 Ey (f28 ([(rd 0 a.1 0),(rd 0 b.1 1)]) (0:Int)) fun r14=>
 Ey (Fq (fun go x=>f95_l15 a b go x.1 x.2) Fv ((0:Int),r14.2)) fun z23=>
 some ((0:Int),r14.1,z23)) (fun z12b=>
 some ((4:Int),[],[]))) (fun z5b=>
 some ((1:Int),[],[]))
def C95:Con:=⟨Fy×Fy,Gz,0,fun x=>[.dat T9 x.1,.dat T9 x.2],NX,fun x=>f95 x.1 x.2,fun y=>[.raw true [(.osl 0),(.osl 1)],.dat T1 y.1],fun y=>[(0,.arr 3 T1 y.2.1),(1,.arr 57 T1 y.2.2)],2⟩
theorem V95 a b y (q:f95 a b=some y):VC Tryz.f95 C95 (a,b) y:=by
 unfold f95 at q
 refine OL ?_
 obtain ⟨z5,hz5,q⟩:=bE q
 let e0:LE:=fun zz=>(2,P0 0 0)::(3,P0 1 0)::(4,P0 2 0)::zz
 let h1:LH:=fun zz=>(0,.cells [(.d T6 a.1),(.d T6 a.2)])::(1,.cells [(.d T6 b.1),(.d T6 b.2)])::(2,.cells [N0,N0])::zz
 refine OQ ⟨Sum.elim (fun z5a=>[(0,⟨e0 [],h1 [],3⟩)]) (fun z5b=>[(1,⟨[(4,P0 0 0),(5,D0 1)],[(0,.cells [N0,N0])],1⟩)]) z5,?_,?_⟩
 ·have q:=hz5
  clear hz5
  unfold f95_j2 at q
  obtain ⟨z8,hz8,q⟩:=bE q
  refine OQ ⟨[(0,⟨e0 [(21,.dat .bool z8)],h1 [],3⟩)],?_,?_⟩
  ·have q:=hz8
   clear hz8
   unfold f95_j3 at q
   obtain ⟨r9,h,q⟩:=bE q
   refine OL (cA H51 (a.1,a.2) h rfl (R2 (K0 (cN q (fun q=>?_) (fun q=>?_)))))
   ·refine gY ?_
    obtain ⟨r10,h,q⟩:=bE q
    refine OL (cA H51 (b.1,b.2) h rfl (R2 (K0 (gY (cF ?_)))))
    cases sE q
    refine E4 I3 (R2 (AI (R3 TV) (R3 TV)))
   refine gN (gN (cT ?_))
   cases sE q
   refine E4 I3 (R2 (AI (R3 TV) (R3 TV)))
  refine AI (cI q (fun q=>?_) (fun q=>?_)) TV
  ·refine OL (OL ?_)
   cases sE q
   refine E4 (iuR [3]) (R2 (AJ (AI rfl TV)))
  cases sE q
  refine E4 I3 (AI rfl (AI (R3 TV) (R3 TV)))
 rcases z5 with z5a | z5b
 ·dsimp only [Fx] at q
  refine AI ?_ TV
  obtain ⟨z12,hz12,q⟩:=bE q
  refine OQ ⟨Sum.elim (fun z12a=>[(0,⟨e0 [],h1 [],3⟩)]) (fun z12b=>[(1,⟨[(4,P0 0 0),(5,D0 4)],[(0,.cells [N0,N0])],1⟩)]) z12,?_,?_⟩
  ·have q:=hz12
   clear hz12
   unfold f95_j5 at q
   obtain ⟨z13,hz13,q⟩:=bE q
   refine OQ ⟨[(0,⟨e0 [(43,.dat .bool z13)],h1 [],3⟩)],?_,?_⟩
   ·have q:=hz13
    clear hz13
    unfold f95_j6 at q
    refine EI (tU 0 21 .done) (EI [] (EI [] (AI rfl (cN q (fun q=>?_) (fun q=>?_)))))
    ·refine gY (gY (gY (cF (cN q (fun q=>?_) (fun q=>?_)))))
     ·refine gY (gY (gI q (fun q=>?_)))
      refine gY (gY (gY (gY (gI q (fun q=>?_)))))
      refine gY (gY (cF ?_))
      cases sE q
      refine E4 I3 (R2 (AI (R3 TV) (R3 TV)))
     refine gN (gN (gN (gN (gN (gN (gN (gN (cT ?_))))))))
     cases sE q
     refine E4 I3 (R2 (AI (R3 TV) (R3 TV)))
    refine gN (gN (gN (cT (gN (gN (gN (gN (gN (gN (gN (gN (gN (cT ?_)))))))))))))
    cases sE q
    refine E4 I3 (R2 (AI (R3 TV) (R3 TV)))
   refine AI (cI q (fun q=>?_) (fun q=>?_)) TV
   ·refine OL (OL ?_)
    cases sE q
    refine E4 (iuR [3]) (R2 (AJ (AI rfl TV)))
   cases sE q
   refine E4 I3 (AI rfl (AI (R3 TV) (R3 TV)))
  rcases z12 with z12a | z12b
  ·dsimp only [Fx] at q
   refine AI (OL (EI (tU 0 15 .done) (EI [] (EI [] (AI rfl (gI q (fun q=>?_))))))) TV
   refine gI q (fun q=>?_)
   refine gI q (fun q=>?_)
   refine OL (OL (OL ?_))
   obtain ⟨q5_14,h,q⟩:=bE q
   refine OL (cD H76 [(rd 0 a.1 0),(rd 0 b.1 1)] h rfl (AI rfl (AI (fun _=>rfl) (R2 (AI TV (AI TV (cI q (fun q=>?_) (fun q=>?_))))))))
   ·refine OL (OL ?_)
    cases sE q
    refine AI rfl (E4 (iuR [0,0]) (R2 (AJ (R2 TV))))
   refine OL (OL ?_)
   obtain ⟨r14,h,q⟩:=bE q
   refine OL (cD H28 ([(rd 0 a.1 0),(rd 0 b.1 1)],(0:Int)) h rfl (R2 (AI (fun _=>rfl) (R2 (AI TV (AI TV (OL (OL (OL ?_)))))))))
   obtain ⟨z23,hz23,q⟩:=bE q
   let e2:LE:=fun zz=>e0 ((6,.dat T1 (rd 0 a.1 0))::(7,.dat T1 (rd 0 b.1 1))::(8,.dat T1 (rd 0 a.1 1))::(9,P0 3 0)::zz)
   let h3:LH:=fun zz=>h1 ((3,.cells [(.osl 4),(.osl 5)])::(4,.arr 3 T1 r14.1)::zz)
   refine lJ hz23 (fun x=>⟨e2 [(10,.dat T1 x.1)],h3 [(5,.arr 57 T1 x.2)],6⟩) (fun z=>[(2,⟨[(4,P0 0 0),(9,P0 1 0)],[(0,.cells [N0,N0]),(1,.cells [(.osl 2),(.osl 3)]),(2,.arr 3 T1 r14.1),(3,.arr 57 T1 z)],4⟩)]) (E4 (iuR [1,2,3,8,6,7]) (R5 (AI (R4 TV) (R6 TV)))) (fun m=>F3 (fun i=>fun l5 z q=>?_)) ?_
   ·have q:f95_l15 a b _ i l5=some z:=q
    unfold f95_l15 at q
    refine OL (OL (cI q (fun q=>?_) (fun q=>?_)))
    ·refine OL (OL ?_)
     obtain ⟨z26,h,q⟩:=bE q
     refine lJ h (fun x=>⟨e2 [(10,.dat T1 i),(11,.dat T1 x.1)],h3 [(5,.arr 57 T1 x.2)],6⟩) (fun z=>[(4,⟨e2 [(10,.dat T1 i)],h3 [(5,.arr 57 T1 z)],6⟩)]) (E4 I6 (R6 (AI (R4 TV) (R6 TV)))) (fun m=>F3 (fun j=>fun l5_2 z q=>?_)) ?_
     ·have q:f95_l18 a b i _ j l5_2=some z:=q
      unfold f95_l18 at q
      refine OL (OL (cI q (fun q=>?_) (fun q=>?_)))
      ·refine OL (OL (OL (OL (OL ?_))))
       obtain ⟨z27,h,q⟩:=bE q
       refine lJ h (fun x=>⟨e2 [(10,.dat T1 i),(11,.dat T1 j),(12,P0 4 0),(13,.dat T1 x.1)],h1 [(3,.cells [(.osl 5),(.osl 6)]),(4,.cells [(.d .bool x.2.1),(.d T10 x.2.2.1),(.d T10 x.2.2.2.1),(.d T10 x.2.2.2.2.1),(.d T10 x.2.2.2.2.2)]),(5,.arr 3 T1 r14.1),(6,.arr 57 T1 l5_2)],7⟩) (fun z=>[(6,⟨e2 [(10,.dat T1 i),(11,.dat T1 j),(12,P0 4 0)],h1 [(3,.cells [(.osl 5),(.osl 6)]),(4,.cells [(.d .bool z.1),(.d T10 z.2.1),(.d T10 z.2.2.1),(.d T10 z.2.2.2.1),(.d T10 z.2.2.2.2)]),(5,.arr 3 T1 r14.1),(6,.arr 57 T1 l5_2)],7⟩)]) (E4 (iuR [1,2,3,4,7,5,6]) (R7 (AI (R5 TV) (R7 TV)))) (fun m=>F3 (fun q_=>F3 (fun c4_0=>F3 (fun c4_1=>F3 (fun c4_2=>F3 (fun c4_3=>fun c4_4 z q=>?_)))))) ?_
       ·have q:f95_l19 a b i j _ q_ c4_0 c4_1 c4_2 c4_3 c4_4=some z:=q
        unfold f95_l19 at q
        refine OL (OL (cI q (fun q=>?_) (fun q=>?_)))
        ·refine OL (EI (tU 0 19 (.alt 19 (.alt 20 (.alt 21 .done .done) .done) .done)) (EI [(21,[4])] (EI [] (AI rfl (gI q (fun q=>?_))))))
         refine gI q (fun q=>?_)
         refine AI TV ?_
         obtain ⟨q19_19,h,q⟩:=bE q
         refine OL (cA H86 ((rd 0 a.2 (i64.wrap ((i64.wrap (i*(rd 0 a.1 1)))+q_))),(rd 0 b.2 (i64.wrap ((i64.wrap (q_*(rd 0 b.1 1)))+j)))) h rfl (R2 (K0 (AI TV ?_))))
         obtain ⟨q19_20,h,q⟩:=bE q
         refine OL (cA H82 (c4_0,c4_1,c4_2,c4_3,c4_4,q19_19.1,q19_19.2.1,q19_19.2.2.1,q19_19.2.2.2.1,q19_19.2.2.2.2) h rfl (AI NH (R2 (AI (R2 TV) (AI TV (AI TV (OL (EI ((i64.wrap (q_+1)),q19_20.1,q19_20.2.1,q19_20.2.2.1,q19_20.2.2.2.1,q19_20.2.2.2.2) (AI q (E4 I7 (R7 (AI (R5 TV) (R7 TV)))))))))))))
        cases sE q
        refine E4 I7 (R6 (AI (R5 TV) (R7 TV)))
       refine AI (EI (tU 0 8 (.alt 8 (.alt 9 (.take 10 (.alt 11 .done .done)) .done) .done)) (EI [] (EI [] (AI rfl (AI TV ?_))))) TV
       obtain ⟨q20_8,h,q⟩:=bE q
       refine OL (cA H85 (z27.1,z27.2.1,z27.2.2.1,z27.2.2.2.1,z27.2.2.2.2,(32:Int)) h rfl (AI rfl (AI NH (R2 (AJ (AI TV (AI TV ?_)))))))
       obtain ⟨q20_9,h,q⟩:=bE q
       refine OL (cA H81 (q20_8.1,q20_8.2.1,q20_8.2.2.1,q20_8.2.2.2.1,q20_8.2.2.2.2) h rfl (AI NH (R2 (AJ (AI TV (gI q (fun q=>?_)))))))
       refine AI TV (OL (EI ((i64.wrap (j+1)),(List.set l5_2 (Int.toNat (i64.wrap ((i64.wrap (i*(rd 0 b.1 1)))+j))) q20_9)) (AI q (E4 (iuR [1,2,3,4,6,7]) (R6 (AI (R4 TV) (R6 TV)))))))
      cases sE q
      refine E4 I6 (R5 (AI (R4 TV) (R6 TV)))
     refine AI (EI ((i64.wrap (i+1)),z26) (AI q (E4 I6 (R5 (AI (R4 TV) (R6 TV)))))) TV
    cases sE q
    refine E4 (iuR [3,4,5,6]) (AI rfl (AI (R2 TV) (R4 TV)))
   refine AI (OL (OL ?_)) TV
   cases sE q
   refine AI rfl (E4 (iuR [3,4]) (R2 (AJ (R2 TV))))
  dsimp only [Fx] at q
  refine AI ?_ TV
  cases sE q
  refine AI rfl (E4 (iuR [0,0]) (R2 (AJ (R2 TV))))
 dsimp only [Fx] at q
 refine AI ?_ TV
 cases sE q
 refine AI rfl (E4 (iuR [0,0]) (R2 (AJ (R2 TV))))
theorem H95:HI C95 95:=hI Tryz.f95 rfl fun x=>V95 x.1 x.2
def f123_j1 (d place_:LI):Option (Sum Unit Unit):=
 Ey (f76 d) fun r2=>
 bif (!r2) then
 some (Sum.inr ())
 else
 bif ((place_.length:Int) != d.length) then
 some (Sum.inr ())
 else
 some (Sum.inl ())
def f123_j5 (d place_:LI) (i:Int):Option (Sum Unit Unit):=
 E9 (0≤i∧i<place_.length)<|
 bif (decide ((rd 0 place_ i)<0)) then
 some (Sum.inr ())
 else
 E9 (0≤i∧i<place_.length)<|
 E9 (0≤i∧i<d.length)<|
 bif (decide ((rd 0 place_ i)≥(rd 0 d i))) then
 some (Sum.inr ())
 else
 some (Sum.inl ())
def f123_l4 (d place_:LI) (go:F9→Option (Sum Unit Int)) (at_ i:Int):Option (Sum Unit Int):=
 bif (decide (i<d.length)) then
 Ey (f123_j5 d place_ i) fun z6=>
 Fx z6 (fun z6a=>
 E9 (0≤i∧i<d.length)<|
 E9 (0≤i∧i<place_.length)<|
 go ((i64.wrap ((i64.wrap (at_*(rd 0 d i)))+(rd 0 place_ i))),(i64.wrap (i+1)))) (fun z6b=>
 some (Sum.inl ()))
 else
 some (Sum.inr at_)
def f123 (d place_:LI):Option Ki:=
 Ey (f123_j1 d place_) fun z1=>
 Fx z1 (fun z1a=>
 Ey (Fq (fun go x=>f123_l4 d place_ go x.1 x.2) Fv ((0:Int),(0:Int))) fun z5=>
 Fx z5 (fun z5a=>
 some ((0:Int),false)) (fun z5b=>
 some (z5b,true))) (fun z1b=>
 some ((0:Int),false))
def C123:Con:=⟨Fy,Ki,0,fun x=>[.dat T6 x.1,.dat T6 x.2],NX,fun x=>f123 x.1 x.2,fun y=>[.dat T1 y.1,.dat .bool y.2],NX,0⟩
theorem V123 d place_ y (q:f123 d place_=some y):VC Tryz.f123 C123 (d,place_) y:=by
 unfold f123 at q
 refine OL ?_
 obtain ⟨z1,hz1,q⟩:=bE q
 let e0:LE:=fun zz=>(0,.dat T6 d)::(1,.dat T6 place_)::zz
 refine OQ ⟨Sum.elim (fun z1a=>[(0,⟨e0 [],[],0⟩)]) (fun z1b=>[(1,⟨[(4,D0 0),(5,.dat .bool false)],[],0⟩)]) z1,?_,?_⟩
 ·have q:=hz1
  clear hz1
  unfold f123_j1 at q
  refine OL ?_
  obtain ⟨r2,h,q⟩:=bE q
  refine OL (cA H76 d h rfl (AI rfl (K0 (cN q (fun q=>?_) (fun q=>?_)))))
  ·refine gY (gY (gY (gY (cF (cI q (fun q=>?_) (fun q=>?_))))))
   ·cases sE q
    refine OL (E4 [] (R3 (AI TV TV)))
   cases sE q
   refine E4 [] (R3 (AI TV TV))
  refine gN (gN (gN (gN (cT (cT (OL ?_))))))
  cases sE q
  refine E4 [] (R3 (AI TV TV))
 rcases z1 with z1a | z1b
 ·dsimp only [Fx] at q
  refine AI (OL (OL (OL ?_))) TV
  obtain ⟨z5,h,q⟩:=bE q
  refine lJ h (fun x=>⟨e0 [(6,.dat T1 x.1),(7,.dat T1 x.2)],[],0⟩) (fun z=>Sum.elim (fun za=>[(1,⟨[(4,D0 0),(5,.dat .bool false)],[],0⟩)]) (fun zb=>[(2,⟨[(6,.dat T1 zb)],[],0⟩)]) z) (E4 [] (R5 (AI TV TV))) (fun m=>F3 (fun at_=>fun i z q=>?_)) ?_
  ·have q:f123_l4 d place_ _ at_ i=some z:=q
   unfold f123_l4 at q
   refine OL (OL (cI q (fun q=>?_) (fun q=>?_)))
   ·refine OL ?_
    obtain ⟨z6,hz6,q⟩:=bE q
    refine OQ ⟨Sum.elim (fun z6a=>[(0,⟨e0 [(6,.dat T1 at_),(7,.dat T1 i)],[],0⟩)]) (fun z6b=>[(1,⟨[(4,D0 0),(5,.dat .bool false)],[],0⟩)]) z6,?_,?_⟩
    ·have q:=hz6
     clear hz6
     unfold f123_j5 at q
     refine OL (EI (tU 0 16 .done) (EI [] (EI [] (AI rfl (gI q (fun q=>?_))))))
     refine cN q (fun q=>?_) (fun q=>?_)
     ·refine gY (gY (gI q (fun q=>?_)))
      refine gY (gY (gY (gY (gI q (fun q=>?_)))))
      refine gY (gY (cF (cI q (fun q=>?_) (fun q=>?_))))
      ·cases sE q
       refine OL (E4 [] (R3 (AI TV TV)))
      cases sE q
      refine E4 [] (R5 (AI TV TV))
     refine gN (gN (gN (gN (gN (gN (gN (gN (cT (cT (OL ?_))))))))))
     cases sE q
     refine E4 [] (R3 (AI TV TV))
    rcases z6 with z6a | z6b
    ·dsimp only [Fx] at q
     refine AI (EI (tU 0 12 .done) (EI [] (EI [] (AI rfl (gI q (fun q=>?_)))))) TV
     refine gI q (fun q=>?_)
     refine EI ((i64.wrap ((i64.wrap (at_*(rd 0 d i)))+(rd 0 place_ i))),(i64.wrap (i+1))) (AI q (E4 [] (R5 (AI TV TV))))
    dsimp only [Fx] at q
    refine AI ?_ TV
    cases sE q
    refine E4 [] (R3 (AI TV TV))
   cases sE q
   refine E4 [] (R2 (AI TV TV))
  rcases z5 with z5a | z5b
  ·dsimp only [Fx] at q
   refine AI ?_ TV
   cases sE q
   refine AI rfl (E4 [] (R3 (AI TV TV)))
  dsimp only [Fx] at q
  refine AI (OL ?_) TV
  cases sE q
  refine AI rfl (E4 [] (R3 (AI TV TV)))
 dsimp only [Fx] at q
 refine AI ?_ TV
 cases sE q
 refine AI rfl (E4 [] (R3 (AI TV TV)))
theorem H123:HI C123 123:=hI Tryz.f123 rfl fun x=>V123 x.1 x.2
def f122_j3 (a:Fy) (order:LI):Option Bool:=
 Ey (f51 (a.1,a.2)) fun r6=>
 bif (!r6) then
 some true
 else
 some ((order.length:Int) != a.1.length)
def f122_j2 (a:Fy) (order:LI):Option (Sum Unit Unit):=
 Ey (f122_j3 a order) fun z5=>
 bif z5 then
 some (Sum.inr ())
 else
 some (Sum.inl ())
def f122_j15 (order:LI) (i:Int):Option Bool:=
 E9 (0≤i∧i<order.length)<|
 bif (decide ((rd 0 order i)<0)) then
 some true
 else
 E9 (0≤i∧i<order.length)<|
 some (decide ((rd 0 order i)≥order.length))
def f122_j14 (order:LI) (i:Int):Option (Sum Unit Unit):=
 Ey (f122_j15 order i) fun z18=>
 bif z18 then
 some (Sum.inr ())
 else
 some (Sum.inl ())
def f122_l16 (order:LI) (i:Int) (go:Int→Option (Sum Unit Unit)) (k:Int):Option (Sum Unit Unit):=
 bif (decide (k<i)) then
 E9 (0≤k∧k<order.length)<|
 E9 (0≤i∧i<order.length)<|
 bif ((rd 0 order k)==(rd 0 order i)) then
 some (Sum.inl ())
 else
 go (i64.wrap (k+1))
 else
 some (Sum.inr ())
def f122_l12 (a:Fy) (order:LI) (go:K4→Option (Sum Unit LI)) (i:Int) (l2:LI):Option (Sum Unit LI):=
 bif (decide (i<order.length)) then
 Ey (f122_j14 order i) fun z17=>
 Fx z17 (fun z17a=>
 Ey (Fq (fun go x=>f122_l16 order i go x) Fv (0:Int)) fun z19=>
 Fx z19 (fun z19a=>
 some (Sum.inl ())) (fun z19b=>
 E9 (0≤i∧i<order.length)<|
 E9 (0≤(rd 0 order i)∧(rd 0 order i)<a.1.length)<|
 E9 ((l2.length+List.length ([(rd 0 a.1 (rd 0 order i))]))*8≤140737488355328)<|
 go ((i64.wrap (i+1)),(l2++([(rd 0 a.1 (rd 0 order i))]))))) (fun z17b=>
 some (Sum.inl ()))
 else
 some (Sum.inr l2)
def f122_l20 (order:LI) (r25:Bool×LI) (go:K4→Option LI) (k:Int) (l5_2:LI):Option LI:=
 bif (decide (k<r25.2.length)) then
 E9 (0≤k∧k<order.length)<|
 E9 (0≤k∧k<r25.2.length)<|
 E9 (0≤(rd 0 order k)∧(rd 0 order k)<l5_2.length)<|
 go ((i64.wrap (k+1)),(List.set l5_2 (Int.toNat (rd 0 order k)) (rd 0 r25.2 k)))
 else
 some l5_2
def f122_l19 (a:Fy) (order z15b:LI) (go:K4→Option LI) (i:Int) (l5:LI):Option LI:=
 bif (decide (i<l5.length)) then
 Ey (f80 z15b i) fun r25=>
 E9 (0≤(r25.2.length:Int)∧(r25.2.length:Int)≤r25.2.length∧Int.toNat (r25.2.length:Int)*8≤140737488355328)<|
 Ey (Fq (fun go x=>f122_l20 order r25 go x.1 x.2) Fv ((0:Int),(List.replicate (Int.toNat (r25.2.length:Int)) (0:Int)))) fun z26=>
 Ey (f123 a.1 z26) fun q24_10=>
 E9 (0≤q24_10.1∧q24_10.1<a.2.length)<|
 E9 (0≤i∧i<l5.length)<|
 go ((i64.wrap (i+1)),(List.set l5 (Int.toNat i) (rd 0 a.2 q24_10.1)))
 else
 some l5
def f122 (a:Fy) (order:LI):Option Gz:=
 Ey (f122_j2 a order) fun z3=>
 Fx z3 (fun z3a=>
 Ey (Fq (fun go x=>f122_l12 a order go x.1 x.2) Fv ((0:Int),[])) fun z15=>
 Fx z15 (fun z15a=>
 some ((1:Int),[],[])) (fun z15b=>
 Ey (f28 z15b (0:Int)) fun q14_11=>
 Ey (Fq (fun go x=>f122_l19 a order z15b go x.1 x.2) Fv ((0:Int),q14_11.2)) fun z24=>
 some ((0:Int),q14_11.1,z24))) (fun z3b=>
 some ((1:Int),[],[]))
def C122:Con:=⟨Fy×LI,Gz,0,fun x=>[.dat T9 x.1,.dat T6 x.2],NX,fun x=>f122 x.1 x.2,fun y=>[.raw true [(.osl 0),(.osl 1)],.dat T1 y.1],fun y=>[(0,.arr 3 T1 y.2.1),(1,.arr 57 T1 y.2.2)],2⟩
theorem V122 a order y (q:f122 a order=some y):VC Tryz.f122 C122 (a,order) y:=by
 unfold f122 at q
 refine OL ?_
 obtain ⟨z3,hz3,q⟩:=bE q
 let e0:LE:=fun zz=>(1,.dat T6 order)::(2,P0 0 0)::(4,P0 1 0)::zz
 let h1:LH:=fun zz=>(0,.cells [(.d T6 a.1),(.d T6 a.2)])::(1,.cells [N0,N0])::zz
 let h2:LH:=fun zz=>(0,.cells [N0,N0])::zz
 refine OQ ⟨Sum.elim (fun z3a=>[(0,⟨e0 [],h1 [],2⟩)]) (fun z3b=>[(1,⟨[(4,P0 0 0),(5,D0 1)],h2 [],1⟩)]) z3,?_,?_⟩
 ·have q:=hz3
  clear hz3
  unfold f122_j2 at q
  obtain ⟨z5,hz5,q⟩:=bE q
  refine OQ ⟨[(0,⟨e0 [(27,.dat .bool z5)],h1 [],2⟩)],?_,?_⟩
  ·have q:=hz5
   clear hz5
   unfold f122_j3 at q
   obtain ⟨r6,h,q⟩:=bE q
   refine OL (cA H51 (a.1,a.2) h rfl (R2 (K0 (cN q (fun q=>?_) (fun q=>?_)))))
   ·refine gY (gY (gY (gY (gY (cF ?_)))))
    cases sE q
    refine E4 I2 (R3 (AI (R2 TV) (R2 TV)))
   refine gN (gN (gN (gN (gN (cT ?_)))))
   cases sE q
   refine E4 I2 (R3 (AI (R2 TV) (R2 TV)))
  refine AI (cI q (fun q=>?_) (fun q=>?_)) TV
  ·refine OL (OL ?_)
   cases sE q
   refine E4 (iuR [2]) (R2 (AJ (AI rfl TV)))
  cases sE q
  refine E4 I2 (R2 (AI (R2 TV) (R2 TV)))
 rcases z3 with z3a | z3b
 ·dsimp only [Fx] at q
  refine AI (OL (OL (OL ?_))) TV
  obtain ⟨z15,hz15,q⟩:=bE q
  let e3:LE:=fun zz=>e0 ((6,O0 2)::zz)
  refine lJ hz15 (fun x=>⟨e3 [(7,.dat T1 x.1)],h1 [(2,.arr 3 T1 x.2)],3⟩) (fun z=>Sum.elim (fun za=>[(1,⟨[(4,P0 0 0),(5,D0 1)],h2 [],1⟩)]) (fun zb=>[(2,⟨e3 [],h1 [(2,.arr 3 T1 zb)],3⟩)]) z) (E4 (iuR [1,2,0]) (R3 (AI (R3 TV) (R3 TV)))) (fun m=>F3 (fun i=>fun l2 z q=>?_)) ?_
  ·have q:f122_l12 a order _ i l2=some z:=q
   unfold f122_l12 at q
   refine OL (OL (cI q (fun q=>?_) (fun q=>?_)))
   ·refine OL ?_
    obtain ⟨z17,hz17,q⟩:=bE q
    let h4:LH:=fun zz=>h1 ((2,.arr 3 T1 l2)::zz)
    refine OQ ⟨Sum.elim (fun z17a=>[(0,⟨e3 [(7,.dat T1 i)],h4 [],3⟩)]) (fun z17b=>[(1,⟨[(4,P0 0 0),(5,D0 1)],h2 [],1⟩)]) z17,?_,?_⟩
    ·have q:=hz17
     clear hz17
     unfold f122_j14 at q
     obtain ⟨z18,hz18,q⟩:=bE q
     refine OQ ⟨[(0,⟨e3 [(7,.dat T1 i),(48,.dat .bool z18)],h4 [],3⟩)],?_,?_⟩
     ·have q:=hz18
      clear hz18
      unfold f122_j15 at q
      refine gI q (fun q=>?_)
      refine cN q (fun q=>?_) (fun q=>?_)
      ·refine gY (gY (gI q (fun q=>?_)))
       refine gY (gY (gY (gY (cF ?_))))
       cases sE q
       refine E4 I3 (R4 (AI (R3 TV) (R3 TV)))
      refine gN (gN (gN (gN (gN (gN (cT ?_))))))
      cases sE q
      refine E4 I3 (R4 (AI (R3 TV) (R3 TV)))
     refine AI (cI q (fun q=>?_) (fun q=>?_)) TV
     ·refine OL (OL ?_)
      cases sE q
      refine E4 (iuR [2]) (R2 (AJ (AI rfl TV)))
     cases sE q
     refine E4 I3 (R3 (AI (R3 TV) (R3 TV)))
    rcases z17 with z17a | z17b
    ·dsimp only [Fx] at q
     refine AI (OL (OL ?_)) TV
     obtain ⟨z19,h,q⟩:=bE q
     refine lJ h (fun x=>⟨e3 [(7,.dat T1 i),(8,.dat T1 x)],h4 [],3⟩) (fun z=>Sum.elim (fun za=>[(1,⟨[(4,P0 0 0),(5,D0 1)],h2 [],1⟩)]) (fun zb=>[(4,⟨e3 [(7,.dat T1 i)],h4 [],3⟩)]) z) (E4 I3 (R4 (AI (R3 TV) (R3 TV)))) (fun m=>fun k z q=>?_) ?_
     ·have q:f122_l16 order i _ k=some z:=q
      unfold f122_l16 at q
      refine OL (OL (cI q (fun q=>?_) (fun q=>?_)))
      ·refine OL (OL (EI (tU 0 9 .done) (EI [] (EI [] (AI rfl (gI q (fun q=>?_)))))))
       refine gI q (fun q=>?_)
       refine cI q (fun q=>?_) (fun q=>?_)
       ·refine OL (OL ?_)
        cases sE q
        refine E4 (iuR [2]) (R2 (AJ (AI rfl TV)))
       refine EI (i64.wrap (k+1)) (AI q (E4 I3 (R4 (AI (R3 TV) (R3 TV)))))
      cases sE q
      refine E4 I3 (R3 (AI (R3 TV) (R3 TV)))
     rcases z19 with z19a | z19b
     ·dsimp only [Fx] at q
      refine AI ?_ TV
      cases sE q
      refine E4 (iuR [1]) (R2 (AJ (AI rfl TV)))
     dsimp only [Fx] at q
     refine AI (EI (tU 0 9 (.alt 9 (.alt 10 (.take 11 .done) .done) .done)) (EI [] (EI [] (AI rfl (gI q (fun q=>?_)))))) TV
     refine gI q (fun q=>?_)
     refine AI TV (OL (AI TV (OL (gI q (fun q=>?_)))))
     refine EI ((i64.wrap (i+1)),(l2++([(rd 0 a.1 (rd 0 order i))]))) (AI q (E4 (iuR [1,2,5]) (R3 (AI (R3 TV) (R3 TV)))))
    dsimp only [Fx] at q
    refine AI ?_ TV
    cases sE q
    refine E4 (iuR [1]) (R2 (AJ (AI rfl TV)))
   cases sE q
   refine E4 I3 (R2 (AI (R3 TV) (R3 TV)))
  rcases z15 with z15a | z15b
  ·dsimp only [Fx] at q
   refine AI ?_ TV
   cases sE q
   refine AI rfl (E4 (iuR [0,0]) (R2 (AJ (R2 TV))))
  dsimp only [Fx] at q
  refine AI (OL ?_) TV
  obtain ⟨q14_11,h,q⟩:=bE q
  refine OL (cD H28 (z15b,(0:Int)) h rfl (R2 (AI (fun _=>rfl) (R2 (AI TV (AI TV (OL (OL (OL ?_)))))))))
  obtain ⟨z24,h,q⟩:=bE q
  refine lJ h (fun x=>⟨e3 [(9,P0 3 0),(10,.dat T1 x.1)],h1 [(2,.arr 3 T1 z15b),(3,.cells [(.osl 4),(.osl 5)]),(4,.arr 3 T1 q14_11.1),(5,.arr 57 T1 x.2)],6⟩) (fun z=>[(6,⟨[(4,P0 0 0),(9,P0 1 0)],h2 [(1,.cells [(.osl 2),(.osl 3)]),(2,.arr 3 T1 q14_11.1),(3,.arr 57 T1 z)],4⟩)]) (E4 (iuR [1,2,3,6,4,5]) (R3 (AI (R4 TV) (R6 TV)))) (fun m=>F3 (fun i=>fun l5 z q=>?_)) ?_
  ·have q:f122_l19 a order z15b _ i l5=some z:=q
   unfold f122_l19 at q
   refine OL (OL (cI q (fun q=>?_) (fun q=>?_)))
   ·refine OL (OL ?_)
    obtain ⟨r25,h,q⟩:=bE q
    refine OL (cD H80 (z15b,i) h rfl (R2 (AI (fun _=>rfl) (R2 (AI TV (AI TV (OL (gI q (fun q=>?_)))))))))
    refine OL (OL ?_)
    obtain ⟨z26,h,q⟩:=bE q
    refine lJ h (fun x=>⟨e3 [(9,P0 3 0),(10,.dat T1 i),(11,O0 4),(13,O0 5),(14,.dat T1 x.1)],h1 [(2,.arr 3 T1 z15b),(3,.cells [(.osl 6),(.osl 7)]),(4,.arr 3 T1 r25.2),(5,.arr 3 T1 x.2),(6,.arr 3 T1 q14_11.1),(7,.arr 57 T1 l5)],8⟩) (fun z=>[(8,⟨e3 [(9,P0 3 0),(10,.dat T1 i),(13,O0 4)],h1 [(2,.arr 3 T1 z15b),(3,.cells [(.osl 5),(.osl 6)]),(4,.arr 3 T1 z),(5,.arr 3 T1 q14_11.1),(6,.arr 57 T1 l5)],7⟩)]) (E4 (iuR [1,2,3,4,7,8,5,6]) (R4 (AI (R6 TV) (R8 TV)))) (fun m=>F3 (fun k=>fun l5_2 z q=>?_)) ?_
    ·have q:f122_l20 order r25 _ k l5_2=some z:=q
     unfold f122_l20 at q
     refine OL (OL (cI q (fun q=>?_) (fun q=>?_)))
     ·refine OL (EI (tU 0 10 (.alt 10 .done .done)) (EI [] (EI [] (AI rfl (gI q (fun q=>?_))))))
      refine gI q (fun q=>?_)
      refine gI q (fun q=>?_)
      refine AI TV (OL (EI ((i64.wrap (k+1)),(List.set l5_2 (Int.toNat (rd 0 order k)) (rd 0 r25.2 k))) (AI q (E4 I8 (R4 (AI (R6 TV) (R8 TV)))))))
     cases sE q
     refine E4 (iuR [1,2,3,4,6,7,8]) (R3 (AI (R5 TV) (R7 TV)))
    refine AI (OL ?_) TV
    obtain ⟨q24_10,h,q⟩:=bE q
    refine OL (cD H123 (a.1,z26) h rfl (R2 (AI (fun _=>rfl) (R2 (AI TV (AI TV (EI (tU 0 9 (.alt 9 .done .done)) (EI [] (EI [] (AI rfl (gI q (fun q=>?_))))))))))))
    refine gI q (fun q=>?_)
    refine AI TV (OL (EI ((i64.wrap (i+1)),(List.set l5 (Int.toNat i) (rd 0 a.2 q24_10.1))) (AI q (E4 (iuR [1,2,3,4,6,7]) (R3 (AI (R4 TV) (R6 TV)))))))
   cases sE q
   refine E4 (iuR [2,4,5,6]) (AI rfl (AI (R2 TV) (R4 TV)))
  refine AI (OL (OL ?_)) TV
  cases sE q
  refine AI rfl (E4 (iuR [3,4]) (R2 (AJ (R2 TV))))
 dsimp only [Fx] at q
 refine AI ?_ TV
 cases sE q
 refine AI rfl (E4 (iuR [0,0]) (R2 (AJ (R2 TV))))
theorem H122:HI C122 122:=hI Tryz.f122 rfl fun x=>V122 x.1 x.2
def f96 (a:Fy):Option Gz:=
 Ey (f51 (a.1,a.2)) fun r1=>
 bif (!r1) then
 some ((1:Int),[],[])
 else
 bif ((a.1.length:Int) != 2) then
 some ((4:Int),[],[])
 else
 Ey (f122 (a.1,a.2) ([(1:Int),(0:Int)])) fun r2=>
 some (r2.1,r2.2.1,r2.2.2)
def C96:Con:=⟨Fy,Gz,0,fun x=>[.dat T9 x],NX,fun x=>f96 x,fun y=>[.raw true [(.osl 0),(.osl 1)],.dat T1 y.1],fun y=>[(0,.arr 3 T1 y.2.1),(1,.arr 57 T1 y.2.2)],2⟩
theorem V96 a y (q:f96 a=some y):VC Tryz.f96 C96 a y:=by
 unfold f96 at q
 refine OL (OL (OL ?_))
 obtain ⟨r1,h,q⟩:=bE q
 refine OL (cA H51 (a.1,a.2) h rfl (R2 (K0 (cI q (fun q=>?_) (fun q=>?_)))))
 ·refine OL (OL ?_)
  cases sE q
  refine AI rfl (E4 (iuR [0,0]) (R2 (AJ (R2 TV))))
 refine OL (OL (cI q (fun q=>?_) (fun q=>?_)))
 ·refine OL (OL ?_)
  cases sE q
  refine AI rfl (E4 (iuR [0,0]) (R2 (AJ (R2 TV))))
 refine OL (OL ?_)
 obtain ⟨r2,h,q⟩:=bE q
 refine OL (cD H122 ((a.1,a.2),[(1:Int),(0:Int)]) h rfl (R3 (AI (fun _=>rfl) (R2 (AI TV (AI TV (OL ?_)))))))
 cases sE q
 refine AI rfl (E4 (iuR [4,5]) (R2 (AJ (R2 TV))))
theorem H96:HI C96 96:=hI Tryz.f96 rfl fun x=>V96 x
def f98 (k:Int):Option Int:=
 bif (decide (k<(-1000000:Int))) then
 some (-1000000:Int)
 else
 bif (decide (k>1000000)) then
 some (-1000000:Int)
 else
 some k
def C98:Con:=⟨Int,Int,0,fun x=>[.dat T1 x],NX,fun x=>f98 x,fun y=>[.dat T1 y],NX,0⟩
theorem V98 k y (q:f98 k=some y):VC Tryz.f98 C98 k y:=by
 unfold f98 at q
 refine OL (OL (OL (cN q (fun q=>?_) (fun q=>?_))))
 ·refine gY (cF (cI q (fun q=>?_) (fun q=>?_)))
  ·cases sE q
   refine OL (AI rfl (E4 [] (R2 (AI TV TV))))
  cases sE q
  refine OL (AI rfl (E4 [] (R2 (AI TV TV))))
 refine gN (cT (cT (OL ?_)))
 cases sE q
 refine AI rfl (E4 [] (R2 (AI TV TV)))
theorem H98:HI C98 98:=hI Tryz.f98 rfl fun x=>V98 x
end Go.Proofs
