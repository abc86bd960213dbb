import Derived.Test.YtnmfbobdffnblaaGreatSoloTurnsS6
set_option linter.unusedVariables false
set_option maxRecDepth 100000
set_option maxHeartbeats 8000000
namespace Go.Proofs
open Go.AM
open IntKind (i64 u64 i32 u32 i16 u16 i8 u8)
def f196_j3 (a:Al) (Aj:Int):Option Bool:=
 Ac (f156 (a.1,a.2)) fun r6=>
 bif (!r6) then
 some true
 else
 bif (decide (Aj<0)) then
 some true
 else
 some (decide (Aj≥a.1.length))
def f196_j2 (a:Al) (Aj:Int):Option (Sum Unit Unit):=
 Ac (f196_j3 a Aj) fun z5=>
 bif z5 then
 some (Sum.inr ())
 else
 some (Sum.inl ())
def f196_j16 (Aj:Int) (r18:Bool×LI) (k:Int):Option Unit:=
 Ad (0≤Aj∧Aj≤r18.2.length)<|
 Ad (0≤Aj∧Aj≤r18.2.length)<|
 Ad ((List.length ([]:LI)+List.length (List.take (Int.toNat Aj) r18.2))*8≤140737488355328)<|
 Ad ((List.length (([]:LI)++(List.take (Int.toNat Aj) r18.2))+List.length ([k]))*8≤140737488355328)<|
 Ad ((List.length ((([]:LI)++(List.take (Int.toNat Aj) r18.2))++([k]))+List.length (List.drop (Int.toNat Aj) r18.2))*8≤140737488355328)<|
 some ()
def f196_l15 (a:Al) (Aj:Int) (r18:Bool×LI) (go:(Int×D4)→Option D4) (k:Int) (c4_0:Bool) (c4_1 c4_2 c4_3 c4_4:Int):Option D4:=
 Ad (0≤Aj∧Aj<a.1.length)<|
 bif (decide (k<(rd 0 a.1 Aj))) then
 Ac (f196_j16 Aj r18 k) fun z22=>
 Ac (f166 a.1 (((([]:LI)++(List.take (Int.toNat Aj) r18.2))++([k]))++(List.drop (Int.toNat Aj) r18.2))) fun q13_12=>
 Ad (0≤q13_12.1∧q13_12.1<a.2.length)<|
 Ac (f58 (rd 0 a.2 q13_12.1)) fun q15_6=>
 Ac (f92 c4_0 c4_1 c4_2 c4_3 c4_4 q15_6.1 q15_6.2 (0:Int) (0:Int) (0:Int)) fun q15_7=>
 go ((i64.wrap (k+1)),q15_7.1,q15_7.2.1,q15_7.2.2.1,q15_7.2.2.2.1,q15_7.2.2.2.2)
 else
 some (c4_0,c4_1,c4_2,c4_3,c4_4)
def f196_l12 (a:Al) (Aj:Int) (go:Bc→Option LI) (i:Int) (l5:LI):Option LI:=
 bif (decide (i<l5.length)) then
 Ac (f165 ((([]:LI)++(List.take (Int.toNat Aj) a.1))++(List.drop (Int.toNat (i64.wrap (Aj+1))) a.1)) i) fun r18=>
 Ac (Ag (fun go x=>f196_l15 a Aj r18 go x.1 x.2.1 x.2.2.1 x.2.2.2.1 x.2.2.2.2.1 x.2.2.2.2.2) Ah ((0:Int),false,(0:Int),(0:Int),(0:Int),(0:Int))) fun z21=>
 Ac (f97 z21.1 z21.2.1 z21.2.2.1 z21.2.2.2.1 z21.2.2.2.2) fun q16_4=>
 Ad (0≤i∧i<l5.length)<|
 go ((i64.wrap (i+1)),(List.set l5 (Int.toNat i) q16_4))
 else
 some l5
def f196 (a:Al) (Aj:Int):Option Bl:=
 Ac (f196_j2 a Aj) fun z3=>
 Ak z3 (fun z3a=>
 Ad (0≤Aj∧Aj≤a.1.length)<|
 Ad (0≤(i64.wrap (Aj+1))∧(i64.wrap (Aj+1))≤a.1.length)<|
 Ad ((List.length ([]:LI)+List.length (List.take (Int.toNat Aj) a.1))*8≤140737488355328)<|
 Ad ((List.length (([]:LI)++(List.take (Int.toNat Aj) a.1))+List.length (List.drop (Int.toNat (i64.wrap (Aj+1))) a.1))*8≤140737488355328)<|
 Ac (f129 ((([]:LI)++(List.take (Int.toNat Aj) a.1))++(List.drop (Int.toNat (i64.wrap (Aj+1))) a.1)) (0:Int)) fun q3_12=>
 Ac (Ag (fun go x=>f196_l12 a Aj go x.1 x.2) Ah ((0:Int),q3_12.2)) fun z17=>
 some ((0:Int),q3_12.1,z17)) (fun z3b=>
 some ((1:Int),[],[]))
def C196:Con:=⟨Al×Int,Bl,0,fun x=>[.dat T8 x.1,.dat T0 x.2],NX,fun x=>f196 x.1 x.2,fun y=>[.raw true [(.osl 0),(.osl 1)],.dat T0 y.1],fun y=>[(0,.arr 3 T0 y.2.1),(1,.arr 26 T0 y.2.2)],2⟩
theorem V196 a Aj y (q:f196 a Aj=some y):VC Tryz.f196 C196 (a,Aj) y:=by
 unfold f196 at q
 refine OL ?_
 obtain ⟨z3,hz3,q⟩:=bE q
 let e0:LE:=fun zz=>(1,.dat T0 Aj)::(2,P0 0 0)::(4,P0 1 0)::zz
 let h1:LH:=fun zz=>(0,.cells [(.d T5 a.1),(.d T5 a.2)])::(1,.cells [N0,N0])::zz
 refine OQ ⟨Sum.elim (fun z3a=>[(0,⟨e0 [],h1 [],2⟩)]) (fun z3b=>[(1,⟨[(4,P0 0 0),(5,D0 1)],[(0,.cells [N0,N0])],1⟩)]) z3,?_,?_⟩
 ·have q:=hz3
  clear hz3
  unfold f196_j2 at q
  obtain ⟨z5,hz5,q⟩:=bE q
  refine OQ ⟨[(0,⟨e0 [(29,.dat .bool z5)],h1 [],2⟩)],?_,?_⟩
  ·have q:=hz5
   clear hz5
   unfold f196_j3 at q
   obtain ⟨r6,h,q⟩:=bE q
   refine OL (cA H156 (a.1,a.2) h rfl (R2 (K0 (cN q (fun q=>?_) (fun q=>?_)))))
   ·refine gY (cF (cN q (fun q=>?_) (fun q=>?_)))
    ·refine gY (gY (gY (gY (cF ?_))))
     cases sE q
     refine E4 I2 (R3 (AI (R2 TV) (R2 TV)))
    refine gN (gN (gN (gN (cT ?_))))
    cases sE q
    refine E4 I2 (R3 (AI (R2 TV) (R2 TV)))
   refine gN (cT (gN (gN (gN (gN (gN (cT ?_)))))))
   cases sE q
   refine E4 I2 (R3 (AI (R2 TV) (R2 TV)))
  refine AI (cI q (fun q=>?_) (fun q=>?_)) TV
  ·refine OL (OL ?_)
   cases sE q
   refine E4 (iuR [2]) (R2 (AJ (AI rfl TV)))
  cases sE q
  refine E4 I2 (R2 (AI (R2 TV) (R2 TV)))
 rcases z3 with z3a | z3b
 ·dsimp only [Ak] at q
  refine AI (OL (EI (tU 1 4 (tU 6 5 (.alt 0 (.alt 5 (.alt 11 (.take 12 .done) .done) .done) .done))) (EI [] (EI [] (AI rfl (gI q (fun q=>?_))))))) TV
  refine gI q (fun q=>?_)
  refine AI TV (OL (AI TV (OL (gI q (fun q=>?_)))))
  refine AI TV (OL (gI q (fun q=>?_)))
  refine OL ?_
  obtain ⟨q3_12,h,q⟩:=bE q
  refine OL (cD H129 (((([]:LI)++(List.take (Int.toNat Aj) a.1))++(List.drop (Int.toNat (i64.wrap (Aj+1))) a.1)),(0:Int)) h rfl (R2 (AI (fun _=>rfl) (R2 (AI TV (AI TV (OL (OL (OL ?_)))))))))
  obtain ⟨z17,hz17,q⟩:=bE q
  let e2:LE:=fun zz=>e0 ((6,O0 2)::(7,P0 3 0)::zz)
  let h3:LH:=fun zz=>h1 ((2,.arr 3 T0 ((([]:LI)++(List.take (Int.toNat Aj) a.1))++(List.drop (Int.toNat (i64.wrap (Aj+1))) a.1)))::zz)
  refine lJ hz17 (fun x=>⟨e2 [(8,.dat T0 x.1)],h3 [(3,.cells [(.osl 4),(.osl 5)]),(4,.arr 3 T0 q3_12.1),(5,.arr 26 T0 x.2)],6⟩) (fun z=>[(2,⟨[(4,P0 0 0),(7,P0 1 0)],[(0,.cells [N0,N0]),(1,.cells [(.osl 2),(.osl 3)]),(2,.arr 3 T0 q3_12.1),(3,.arr 26 T0 z)],4⟩)]) (E4 (iuR [1,2,5,8,6,7]) (R3 (AI (R4 TV) (R6 TV)))) (fun m=>An (fun i=>fun l5 z q=>?_)) ?_
  ·have q:f196_l12 a Aj _ i l5=some z:=q
   unfold f196_l12 at q
   refine OL (OL (cI q (fun q=>?_) (fun q=>?_)))
   ·refine OL (OL ?_)
    obtain ⟨r18,h,q⟩:=bE q
    refine OL (cD H165 (((([]:LI)++(List.take (Int.toNat Aj) a.1))++(List.drop (Int.toNat (i64.wrap (Aj+1))) a.1)),i) h rfl (R2 (AI (fun _=>rfl) (R2 (AI TV (AI TV (OL (OL (OL (OL ?_))))))))))
    obtain ⟨z21,h,q⟩:=bE q
    refine lJ h (fun x=>⟨e2 [(8,.dat T0 i),(9,.dat T5 r18.2),(11,P0 4 0),(12,.dat T0 x.1)],h3 [(3,.cells [(.osl 5),(.osl 6)]),(4,.cells [(.d .bool x.2.1),(.d T9 x.2.2.1),(.d T9 x.2.2.2.1),(.d T9 x.2.2.2.2.1),(.d T9 x.2.2.2.2.2)]),(5,.arr 3 T0 q3_12.1),(6,.arr 26 T0 l5)],7⟩) (fun z=>[(4,⟨e2 [(8,.dat T0 i),(11,P0 4 0)],h3 [(3,.cells [(.osl 5),(.osl 6)]),(4,.cells [(.d .bool z.1),(.d T9 z.2.1),(.d T9 z.2.2.1),(.d T9 z.2.2.2.1),(.d T9 z.2.2.2.2)]),(5,.arr 3 T0 q3_12.1),(6,.arr 26 T0 l5)],7⟩)]) (E4 (iuR [1,2,3,4,8,5,6]) (R5 (AI (R5 TV) (R7 TV)))) (fun m=>An (fun k=>An (fun c4_0=>An (fun c4_1=>An (fun c4_2=>An (fun c4_3=>fun c4_4 z q=>?_)))))) ?_
    ·have q:f196_l15 a Aj r18 _ k c4_0 c4_1 c4_2 c4_3 c4_4=some z:=q
     unfold f196_l15 at q
     refine OL (OL (gI q (fun q=>?_)))
     refine cI q (fun q=>?_) (fun q=>?_)
     ·refine OL ?_
      obtain ⟨z22,hz22,q⟩:=bE q
      refine OQ ⟨[(0,⟨e2 [(8,.dat T0 i),(9,.dat T5 r18.2),(11,P0 4 0),(12,.dat T0 k),(13,O0 5)],h3 [(3,.cells [(.osl 6),(.osl 7)]),(4,.cells [(.d .bool c4_0),(.d T9 c4_1),(.d T9 c4_2),(.d T9 c4_3),(.d T9 c4_4)]),(5,.arr 3 T0 (((([]:LI)++(List.take (Int.toNat Aj) r18.2))++([k]))++(List.drop (Int.toNat Aj) r18.2))),(6,.arr 3 T0 q3_12.1),(7,.arr 26 T0 l5)],8⟩)],?_,?_⟩
      ·have q:=hz22
       clear hz22
       unfold f196_j16 at q
       obtain ⟨g13_0,q⟩:=gE q
       obtain ⟨g13_1,q⟩:=gE q
       obtain ⟨g13_2,q⟩:=gE q
       obtain ⟨g13_3,q⟩:=gE q
       obtain ⟨g13_4,q⟩:=gE q
       refine EI (tU 1 3 (.take 5 (tU 8 3 (.alt 0 (.alt 4 (.alt 6 (.alt 7 (.alt 11 (.take 12 .done) .done) .done) .done) (.alt 6 (.alt 4 (.alt 7 (.alt 11 (.take 12 .done) .done) .done) .done) .done)) (.alt 6 (.alt 0 (.alt 4 (.alt 7 (.alt 11 (.take 12 .done) .done) .done) .done) .done) .done))))) (EI [] (EI [] (AI rfl (AI g13_0 (AI g13_0 (AI (AI TV ?_) ?_))))))
       ·refine OL (AI TV (OL (AI TV (OL (AI g13_2 (AI TV (OL (AI g13_3 (AI TV (OL (AI g13_4 ?_)))))))))))
        cases sE q
        refine E4 (iuR [1,2,3,4,5,12,6,7]) (R5 (AI (R6 TV) (R8 TV)))
       refine OL (AI (AI TV ?_) ?_)
       ·refine OL (AI TV (OL (AI g13_2 (AI TV (OL (AI g13_3 (AI TV (OL (AI g13_4 ?_)))))))))
        cases sE q
        refine E4 (iuR [1,2,3,4,5,12,6,7]) (R5 (AI (R6 TV) (R8 TV)))
       refine OL (AI g13_2 (AI TV (OL (AI TV (OL (AI g13_3 (AI TV (OL (AI g13_4 ?_)))))))))
       cases sE q
       refine E4 (iuR [1,2,3,4,5,12,6,7]) (R5 (AI (R6 TV) (R8 TV)))
      refine AI (OL ?_) TV
      obtain ⟨q13_12,h,q⟩:=bE q
      refine OL (cD H166 (a.1,(((([]:LI)++(List.take (Int.toNat Aj) r18.2))++([k]))++(List.drop (Int.toNat Aj) r18.2))) h rfl (R2 (AI (fun _=>rfl) (R2 (AI TV (AI TV (EI (tU 0 6 (.alt 6 (.alt 7 (.alt 8 .done .done) .done) .done)) (EI [(8,[4])] (EI [] (AI rfl (gI q (fun q=>?_))))))))))))
      refine AI TV ?_
      obtain ⟨q15_6,h,q⟩:=bE q
      refine OL (cA H58 (rd (0:Int) a.2 q13_12.1) h rfl (AI rfl (K0 (AI TV ?_))))
      obtain ⟨q15_7,h,q⟩:=bE q
      refine OL (cA H92 (c4_0,c4_1,c4_2,c4_3,c4_4,q15_6.1,q15_6.2,(0:Int),(0:Int),(0:Int)) h rfl (AI NH (R2 (AI (R2 TV) (AI TV (AI TV (OL (EI ((i64.wrap (k+1)),q15_7.1,q15_7.2.1,q15_7.2.2.1,q15_7.2.2.2.1,q15_7.2.2.2.2) (AI q (E4 (iuR [1,2,3,4,5,7,8]) (R5 (AI (R5 TV) (R7 TV)))))))))))))
     cases sE q
     refine E4 I7 (R3 (AI (R5 TV) (R7 TV)))
    refine AI (EI (tU 0 4 (.alt 4 (.take 5 (.alt 6 .done .done)) .done)) (EI [] (EI [] (AI rfl (AI TV ?_))))) TV
    obtain ⟨q16_4,h,q⟩:=bE q
    refine OL (cA H97 (z21.1,z21.2.1,z21.2.2.1,z21.2.2.2.1,z21.2.2.2.2) h rfl (AI NH (R2 (AJ (AI TV (gI q (fun q=>?_)))))))
    refine AI TV (OL (EI ((i64.wrap (i+1)),(List.set l5 (Int.toNat i) q16_4)) (AI q (E4 (iuR [1,2,3,4,6,7]) (R3 (AI (R4 TV) (R6 TV)))))))
   cases sE q
   refine E4 (iuR [2,4,5,6]) (AI rfl (AI (R2 TV) (R4 TV)))
  refine AI (OL (OL ?_)) TV
  cases sE q
  refine AI rfl (E4 (iuR [3,4]) (R2 (AJ (R2 TV))))
 dsimp only [Ak] at q
 refine AI ?_ TV
 cases sE q
 refine AI rfl (E4 (iuR [0,0]) (R2 (AJ (R2 TV))))
theorem H196:HI C196 196:=hI Tryz.f196 rfl fun x=>V196 x.1 x.2
def f221_l1 (a:Al) (go:(Int×D4)→Option D4) (i:Int) (c2_0:Bool) (c2_1 c2_2 c2_3 c2_4:Int):Option D4:=
 bif (decide (i<a.2.length)) then
 Ad (0≤i∧i<a.2.length)<|
 Ac (f58 (rd 0 a.2 i)) fun q5_6=>
 Ac (f92 c2_0 c2_1 c2_2 c2_3 c2_4 q5_6.1 q5_6.2 (0:Int) (0:Int) (0:Int)) fun q5_7=>
 go ((i64.wrap (i+1)),q5_7.1,q5_7.2.1,q5_7.2.2.1,q5_7.2.2.2.1,q5_7.2.2.2.2)
 else
 some (c2_0,c2_1,c2_2,c2_3,c2_4)
def f221 (a:Al):Option D4:=
 Ac (Ag (fun go x=>f221_l1 a go x.1 x.2.1 x.2.2.1 x.2.2.2.1 x.2.2.2.2.1 x.2.2.2.2.2) Ah ((0:Int),false,(0:Int),(0:Int),(0:Int),(0:Int))) fun z1=>
 some (z1.1,z1.2.1,z1.2.2.1,z1.2.2.2.1,z1.2.2.2.2)
def C221:Con:=⟨Al,D4,0,fun x=>[.dat T8 x],NX,fun x=>f221 x,fun y=>[.raw true [(.d .bool y.1),(.d T9 y.2.1),(.d T9 y.2.2.1),(.d T9 y.2.2.2.1),(.d T9 y.2.2.2.2)]],NX,0⟩
theorem V221 a y (q:f221 a=some y):VC Tryz.f221 C221 a y:=by
 unfold f221 at q
 refine OL (OL (OL (OL (OL ?_))))
 obtain ⟨z1,h,q⟩:=bE q
 refine lJ h (fun x=>⟨[(1,P0 0 0),(2,P0 1 0),(3,P0 2 0),(4,.dat T0 x.1)],[(0,.cells [(.d T5 a.1),(.d T5 a.2)]),(1,.cells [(.d .bool false),(.d T9 (0:Int)),(.d T9 (0:Int)),(.d T9 (0:Int)),(.d T9 (0:Int))]),(2,.cells [(.d .bool x.2.1),(.d T9 x.2.2.1),(.d T9 x.2.2.2.1),(.d T9 x.2.2.2.2.1),(.d T9 x.2.2.2.2.2)])],3⟩) (fun z=>[(2,⟨[(2,P0 0 0),(3,P0 1 0)],[(0,.cells [(.d .bool false),(.d T9 (0:Int)),(.d T9 (0:Int)),(.d T9 (0:Int)),(.d T9 (0:Int))]),(1,.cells [(.d .bool z.1),(.d T9 z.2.1),(.d T9 z.2.2.1),(.d T9 z.2.2.2.1),(.d T9 z.2.2.2.2)])],2⟩)]) (E4 I3 (R2 (AI (R3 TV) (R3 TV)))) (fun m=>An (fun i=>An (fun c2_0=>An (fun c2_1=>An (fun c2_2=>An (fun c2_3=>fun c2_4 z q=>?_)))))) ?_
 ·have q:f221_l1 a _ i c2_0 c2_1 c2_2 c2_3 c2_4=some z:=q
  unfold f221_l1 at q
  refine OL (OL (cI q (fun q=>?_) (fun q=>?_)))
  ·refine OL (EI (tU 0 6 (.alt 6 (.alt 7 (.alt 8 .done .done) .done) .done)) (EI [(8,[2])] (EI [] (AI rfl (gI q (fun q=>?_))))))
   refine AI TV ?_
   obtain ⟨q5_6,h,q⟩:=bE q
   refine OL (cA H58 (rd (0:Int) a.2 i) h rfl (AI rfl (K0 (AI TV ?_))))
   obtain ⟨q5_7,h,q⟩:=bE q
   refine OL (cA H92 (c2_0,c2_1,c2_2,c2_3,c2_4,q5_6.1,q5_6.2,(0:Int),(0:Int),(0:Int)) h rfl (AI NH (R2 (AI (R2 TV) (AI TV (AI TV (OL (EI ((i64.wrap (i+1)),q5_7.1,q5_7.2.1,q5_7.2.2.1,q5_7.2.2.2.1,q5_7.2.2.2.2) (AI q (E4 I3 (R2 (AI (R3 TV) (R3 TV)))))))))))))
  cases sE q
  refine E4 (iuR [2,3]) (AI rfl (AI (R2 TV) (R2 TV)))
 refine AI (OL (OL ?_)) TV
 cases sE q
 refine AI rfl (E4 [] (AI rfl (AJ TV)))
theorem H221:HI C221 221:=hI Tryz.f221 rfl fun x=>V221 x
def f98_j4 (r1 rest r9:Int):Option Bool:=
 bif ((Int.fdiv rest (2 ^ min (Int.toNat (63:Int)) u64.bits))==1) then
 some true
 else
 some (decide ((Af IntKind.u64 (fun p q=>p||| q) (u64.wrap (rest*2 ^ min (Int.toNat (1:Int)) u64.bits)) r9)≥r1))
def f98_l3 (a_M_0 a_M_1 a_M_2 a_M_3 r1:Int) (go:(Int×PTz22)→Option PTz22) (rest i c2_1 c2_2 c2_3 c2_4:Int):Option PTz22:=
 bif (decide (i≥0)) then
 Ac (f135 a_M_0 a_M_1 a_M_2 a_M_3 i) fun r9=>
 Ac (f98_j4 r1 rest r9) fun z10=>
 bif z10 then
 Ad (0≤(i64.wrap (Int.tdiv i (64:Int)))∧(i64.wrap (Int.tdiv i (64:Int)))<4)<|
 pickF (i64.wrap (Int.tdiv i (64:Int)))
 [(Ad (0≤(u64.wrap (Int.tmod i (64:Int))))<|
 go ((u64.wrap ((Af IntKind.u64 (fun p q=>p||| q) (u64.wrap (rest*2 ^ min (Int.toNat (1:Int)) u64.bits)) r9)-r1)),(i64.wrap (i-1)),(Af IntKind.u64 (fun p q=>p||| q) c2_1 (u64.wrap ((1:Int)*2 ^ min (Int.toNat (u64.wrap (Int.tmod i (64:Int)))) u64.bits))),c2_2,c2_3,c2_4)),
 (Ad (0≤(u64.wrap (Int.tmod i (64:Int))))<|
 go ((u64.wrap ((Af IntKind.u64 (fun p q=>p||| q) (u64.wrap (rest*2 ^ min (Int.toNat (1:Int)) u64.bits)) r9)-r1)),(i64.wrap (i-1)),c2_1,(Af IntKind.u64 (fun p q=>p||| q) c2_2 (u64.wrap ((1:Int)*2 ^ min (Int.toNat (u64.wrap (Int.tmod i (64:Int)))) u64.bits))),c2_3,c2_4)),
 (Ad (0≤(u64.wrap (Int.tmod i (64:Int))))<|
 go ((u64.wrap ((Af IntKind.u64 (fun p q=>p||| q) (u64.wrap (rest*2 ^ min (Int.toNat (1:Int)) u64.bits)) r9)-r1)),(i64.wrap (i-1)),c2_1,c2_2,(Af IntKind.u64 (fun p q=>p||| q) c2_3 (u64.wrap ((1:Int)*2 ^ min (Int.toNat (u64.wrap (Int.tmod i (64:Int)))) u64.bits))),c2_4)),
 (Ad (0≤(u64.wrap (Int.tmod i (64:Int))))<|
 go ((u64.wrap ((Af IntKind.u64 (fun p q=>p||| q) (u64.wrap (rest*2 ^ min (Int.toNat (1:Int)) u64.bits)) r9)-r1)),(i64.wrap (i-1)),c2_1,c2_2,c2_3,(Af IntKind.u64 (fun p q=>p||| q) c2_4 (u64.wrap ((1:Int)*2 ^ min (Int.toNat (u64.wrap (Int.tmod i (64:Int)))) u64.bits)))))]
 else
 go ((Af IntKind.u64 (fun p q=>p||| q) (u64.wrap (rest*2 ^ min (Int.toNat (1:Int)) u64.bits)) r9),(i64.wrap (i-1)),c2_1,c2_2,c2_3,c2_4)
 else
 some (rest,c2_1,c2_2,c2_3,c2_4)
def f98_j5 (r1:Int) (z8:PTz22):Option Bool:=
 bif (decide (z8.1>(u64.wrap (r1-z8.1)))) then
 some true
 else
 bif (z8.1==(u64.wrap (r1-z8.1))) then
 some ((Af IntKind.u64 (fun p q=>p&&& q) z8.2.1 (1:Int))==1)
 else
 some false
def f98 (a_Neg:Bool) (a_M_0 a_M_1 a_M_2 a_M_3 by_:Int):Option D4:=
 Ac (f94 by_) fun r1=>
 Ac (Ag (fun go x=>f98_l3 a_M_0 a_M_1 a_M_2 a_M_3 r1 go x.1 x.2.1 x.2.2.1 x.2.2.2.1 x.2.2.2.2.1 x.2.2.2.2.2) Ah ((0:Int),(255:Int),(0:Int),(0:Int),(0:Int),(0:Int))) fun z8=>
 Ac (f98_j5 r1 z8) fun z12=>
 bif z12 then
 Ac (f132 z8.2.1 z8.2.2.1 z8.2.2.2.1 z8.2.2.2.2 (1:Int) (0:Int) (0:Int) (0:Int)) fun r13=>
 some ((!(a_Neg==(decide (by_<0)))),r13.1,r13.2.1,r13.2.2.1,r13.2.2.2)
 else
 some ((!(a_Neg==(decide (by_<0)))),z8.2.1,z8.2.2.1,z8.2.2.2.1,z8.2.2.2.2)
def C98:Con:=⟨Bool×PTz22,D4,0,fun x=>[.raw true [(.d .bool x.1),(.d T9 x.2.1),(.d T9 x.2.2.1),(.d T9 x.2.2.2.1),(.d T9 x.2.2.2.2.1)],.dat T0 x.2.2.2.2.2],NX,fun x=>f98 x.1 x.2.1 x.2.2.1 x.2.2.2.1 x.2.2.2.2.1 x.2.2.2.2.2,fun y=>[.raw true [(.d .bool y.1),(.d T9 y.2.1),(.d T9 y.2.2.1),(.d T9 y.2.2.2.1),(.d T9 y.2.2.2.2)]],NX,0⟩
theorem V98 a_Neg a_M_0 a_M_1 a_M_2 a_M_3 by_ y (q:f98 a_Neg a_M_0 a_M_1 a_M_2 a_M_3 by_=some y):VC Tryz.f98 C98 (a_Neg,a_M_0,a_M_1,a_M_2,a_M_3,by_) y:=by
 unfold f98 at q
 refine OL (OL ?_)
 obtain ⟨r1,h,q⟩:=bE q
 refine OL (cA H94 by_ h rfl (AI rfl (K0 (OL (OL (OL (OL (OL ?_))))))))
 obtain ⟨z8,hz8,q⟩:=bE q
 let h0:LH:=fun zz=>(0,.cells [(.d .bool a_Neg),(.d T9 a_M_0),(.d T9 a_M_1),(.d T9 a_M_2),(.d T9 a_M_3)])::(1,.cells [(.d .bool false),(.d T9 (0:Int)),(.d T9 (0:Int)),(.d T9 (0:Int)),(.d T9 (0:Int))])::zz
 let h1:LH:=fun zz=>(0,.cells [(.d .bool false),(.d T9 (0:Int)),(.d T9 (0:Int)),(.d T9 (0:Int)),(.d T9 (0:Int))])::zz
 refine lJ hz8 (fun x=>⟨[(2,P0 0 0),(4,P0 1 0),(5,.dat T9 r1),(6,P0 2 0),(7,.dat T9 x.1),(8,.dat T0 x.2.1)],h0 [(2,.cells [(.d .bool (!(a_Neg==(decide (by_<0))))),(.d T9 x.2.2.1),(.d T9 x.2.2.2.1),(.d T9 x.2.2.2.2.1),(.d T9 x.2.2.2.2.2)])],3⟩) (fun z=>[(2,⟨[(4,P0 0 0),(5,.dat T9 r1),(6,P0 1 0),(7,.dat T9 z.1)],h1 [(1,.cells [(.d .bool (!(a_Neg==(decide (by_<0))))),(.d T9 z.2.1),(.d T9 z.2.2.1),(.d T9 z.2.2.2.1),(.d T9 z.2.2.2.2)])],2⟩)]) (E4 I3 (R4 (AI (R3 TV) (R3 TV)))) (fun m=>An (fun rest=>An (fun i=>An (fun c2_1=>An (fun c2_2=>An (fun c2_3=>fun c2_4 z q=>?_)))))) ?_
 ·have q:f98_l3 a_M_0 a_M_1 a_M_2 a_M_3 r1 _ rest i c2_1 c2_2 c2_3 c2_4=some z:=q
  unfold f98_l3 at q
  refine OL (OL (cI q (fun q=>?_) (fun q=>?_)))
  ·refine OL (OL (AI (by decide) (OL (AI (by decide) ?_))))
   obtain ⟨r9,h,q⟩:=bE q
   refine OL (cA H135 (a_M_0,a_M_1,a_M_2,a_M_3,i) h rfl (AI rfl (AI NH (R2 (AJ (AI TV ?_))))))
   obtain ⟨z10,hz10,q⟩:=bE q
   refine OQ ⟨[(0,⟨[(2,P0 0 0),(4,P0 1 0),(5,.dat T9 r1),(6,P0 2 0),(7,.dat T9 (Af IntKind.u64 (fun p q=>p||| q) (u64.wrap (rest*2 ^ min (Int.toNat (1:Int)) u64.bits)) r9)),(8,.dat T0 i),(37,.dat .bool z10)],h0 [(2,.cells [(.d .bool (!(a_Neg==(decide (by_<0))))),(.d T9 c2_1),(.d T9 c2_2),(.d T9 c2_3),(.d T9 c2_4)])],3⟩)],?_,?_⟩
   ·have q:=hz10
    clear hz10
    unfold f98_j4 at q
    refine cN q (fun q=>?_) (fun q=>?_)
    ·refine gY (gY (cF ?_))
     cases sE q
     refine E4 I3 (R5 (AI (R3 TV) (R3 TV)))
    refine gN (gN (cT ?_))
    cases sE q
    refine E4 I3 (R5 (AI (R3 TV) (R3 TV)))
   refine AI (cI q (fun q=>?_) (fun q=>?_)) TV
   ·refine OL (AI (by decide) (AI (by decide) (gI q (fun q=>?_))))
    refine AI (fun hk11=>?_) ?_
    ·have q:=Dj q hk11
     dsimp only [nthO] at q
     refine AI (by decide) (gI q (fun q=>?_))
     refine AI (rE hk11 (by decide)) (AI (fun _=>?_) (AI (fun h=>absurd (hk11.symm.trans h) (by decide)) (AI (fun h=>absurd (hk11.symm.trans h) (by decide)) (AI (fun h=>absurd (hk11.symm.trans h) (by decide)) TV))))
     refine OL (EI ((u64.wrap ((Af IntKind.u64 (fun p q=>p||| q) (u64.wrap (rest*2 ^ min (Int.toNat (1:Int)) u64.bits)) r9)-r1)),(i64.wrap (i-1)),(Af IntKind.u64 (fun p q=>p||| q) c2_1 (u64.wrap ((1:Int)*2 ^ min (Int.toNat (u64.wrap (Int.tmod i (64:Int)))) u64.bits))),c2_2,c2_3,c2_4) (AI q (E4 I3 (R4 (AI (R3 TV) (R3 TV))))))
    refine AI (fun hk11=>?_) ?_
    ·have q:=Dj q hk11
     dsimp only [nthO] at q
     refine AI (by decide) (gI q (fun q=>?_))
     refine AI (rE hk11 (by decide)) (AI (fun h=>absurd (hk11.symm.trans h) (by decide)) ?_)
     refine AI (fun _=>?_) (AI (fun h=>absurd (hk11.symm.trans h) (by decide)) (AI (fun h=>absurd (hk11.symm.trans h) (by decide)) TV))
     refine OL (EI ((u64.wrap ((Af IntKind.u64 (fun p q=>p||| q) (u64.wrap (rest*2 ^ min (Int.toNat (1:Int)) u64.bits)) r9)-r1)),(i64.wrap (i-1)),c2_1,(Af IntKind.u64 (fun p q=>p||| q) c2_2 (u64.wrap ((1:Int)*2 ^ min (Int.toNat (u64.wrap (Int.tmod i (64:Int)))) u64.bits))),c2_3,c2_4) (AI q (E4 I3 (R4 (AI (R3 TV) (R3 TV))))))
    refine AI (fun hk11=>?_) ?_
    ·have q:=Dj q hk11
     dsimp only [nthO] at q
     refine AI (by decide) (gI q (fun q=>?_))
     refine AI (rE hk11 (by decide)) (AI (fun h=>absurd (hk11.symm.trans h) (by decide)) ?_)
     refine AI (fun h=>absurd (hk11.symm.trans h) (by decide)) ?_
     refine AI (fun _=>?_) (AI (fun h=>absurd (hk11.symm.trans h) (by decide)) TV)
     refine OL (EI ((u64.wrap ((Af IntKind.u64 (fun p q=>p||| q) (u64.wrap (rest*2 ^ min (Int.toNat (1:Int)) u64.bits)) r9)-r1)),(i64.wrap (i-1)),c2_1,c2_2,(Af IntKind.u64 (fun p q=>p||| q) c2_3 (u64.wrap ((1:Int)*2 ^ min (Int.toNat (u64.wrap (Int.tmod i (64:Int)))) u64.bits))),c2_4) (AI q (E4 I3 (R4 (AI (R3 TV) (R3 TV))))))
    refine AI (fun hk11=>?_) TV
    have q:=Dj q hk11
    dsimp only [nthO] at q
    refine AI (by decide) (gI q (fun q=>?_))
    refine AI (rE hk11 (by decide)) (AI (fun h=>absurd (hk11.symm.trans h) (by decide)) ?_)
    refine AI (fun h=>absurd (hk11.symm.trans h) (by decide)) ?_
    refine AI (fun h=>absurd (hk11.symm.trans h) (by decide)) ?_
    refine AI (fun _=>?_) TV
    refine OL (EI ((u64.wrap ((Af IntKind.u64 (fun p q=>p||| q) (u64.wrap (rest*2 ^ min (Int.toNat (1:Int)) u64.bits)) r9)-r1)),(i64.wrap (i-1)),c2_1,c2_2,c2_3,(Af IntKind.u64 (fun p q=>p||| q) c2_4 (u64.wrap ((1:Int)*2 ^ min (Int.toNat (u64.wrap (Int.tmod i (64:Int)))) u64.bits)))) (AI q (E4 I3 (R4 (AI (R3 TV) (R3 TV))))))
   refine EI ((Af IntKind.u64 (fun p q=>p||| q) (u64.wrap (rest*2 ^ min (Int.toNat (1:Int)) u64.bits)) r9),(i64.wrap (i-1)),c2_1,c2_2,c2_3,c2_4) (AI q (E4 I3 (R4 (AI (R3 TV) (R3 TV)))))
  cases sE q
  refine E4 (iuR [2,3]) (R3 (AI (R2 TV) (R2 TV)))
 refine AI (OL ?_) TV
 obtain ⟨z12,hz12,q⟩:=bE q
 refine OQ ⟨[(0,⟨[(4,P0 0 0),(6,P0 1 0),(73,.dat .bool z12)],h1 [(1,.cells [(.d .bool (!(a_Neg==(decide (by_<0))))),(.d T9 z8.2.1),(.d T9 z8.2.2.1),(.d T9 z8.2.2.2.1),(.d T9 z8.2.2.2.2)])],2⟩)],?_,?_⟩
 ·have q:=hz12
  clear hz12
  unfold f98_j5 at q
  refine cN q (fun q=>?_) (fun q=>?_)
  ·refine gY (gY (gY (gY (gY (cI q (fun q=>?_) (fun q=>?_))))))
   ·refine gX (AI (by decide) (AI (fun _=>?_) (AI (fun h=>absurd h (by decide)) (AI (fun h=>absurd h (by decide)) (AI (fun h=>absurd h (by decide)) TV)))))
    refine gX (gX (gX (gY (cT (cF ?_)))))
    cases sE q
    refine E4 I2 (R2 (AI (R2 TV) (R2 TV)))
   refine gM (gM (gM (gM (gY (cF (cF ?_))))))
   cases sE q
   refine E4 I2 (R2 (AI (R2 TV) (R2 TV)))
  refine gN (gN (gN (gN (gN (gN (cT ?_))))))
  cases sE q
  refine E4 I2 (R2 (AI (R2 TV) (R2 TV)))
 refine AI (cI q (fun q=>?_) (fun q=>?_)) TV
 ·obtain ⟨r13,h,q⟩:=bE q
  refine OL (cA H132 (z8.2.1,z8.2.2.1,z8.2.2.2.1,z8.2.2.2.2,(1:Int),(0:Int),(0:Int),(0:Int)) h rfl (AI NH (R2 (AI (R2 TV) (AI TV (OL (OL (OL ?_))))))))
  cases sE q
  refine AI rfl (E4 [] (AI rfl (AJ TV)))
 refine OL (OL ?_)
 cases sE q
 refine AI rfl (E4 [] (AI rfl (AJ TV)))
theorem H98:HI C98 98:=hI Tryz.f98 rfl fun x=>V98 x.1 x.2.1 x.2.2.1 x.2.2.2.1 x.2.2.2.2.1 x.2.2.2.2.2
def f200 (a:Al):Option Int:=
 Ac (f221 (a.1,a.2)) fun q1_1=>
 Ac (f98 q1_1.1 q1_1.2.1 q1_1.2.2.1 q1_1.2.2.2.1 q1_1.2.2.2.2 (a.2.length:Int)) fun q1_5=>
 Ac (f97 q1_5.1 q1_5.2.1 q1_5.2.2.1 q1_5.2.2.2.1 q1_5.2.2.2.2) fun q1_6=>
 some q1_6
def C200:Con:=⟨Al,Int,0,fun x=>[.dat T8 x],NX,fun x=>f200 x,fun y=>[.dat T0 y],NX,0⟩
theorem V200 a y (q:f200 a=some y):VC Tryz.f200 C200 a y:=by
 unfold f200 at q
 refine OL (OL (EI (.take 0 (tU 2 3 (.alt 1 (.alt 5 (.alt 6 (.take 7 .done) .done) .done) .done))) (EI [] (EI [] (AI rfl (AI TV ?_))))))
 obtain ⟨q1_1,h,q⟩:=bE q
 refine OL (cA H221 (a.1,a.2) h rfl (R2 (K0 (AI TV ?_))))
 obtain ⟨q1_5,h,q⟩:=bE q
 refine OL (cA H98 (q1_1.1,q1_1.2.1,q1_1.2.2.1,q1_1.2.2.2.1,q1_1.2.2.2.2,(a.2.length:Int)) h rfl (AI rfl (AI NH (R2 (AJ (AI TV (AI TV ?_)))))))
 obtain ⟨q1_6,h,q⟩:=bE q
 refine OL (cA H97 (q1_5.1,q1_5.2.1,q1_5.2.2.1,q1_5.2.2.2.1,q1_5.2.2.2.2) h rfl (AI NH (R2 (AJ (AI TV ?_)))))
 cases sE q
 refine AI rfl (E4 [] (R2 (AI TV TV)))
theorem H200:HI C200 200:=hI Tryz.f200 rfl fun x=>V200 x
def f198 (v:Int):Option Al:=
 Ac (f129 ([]) v) fun r1=>
 some (r1.1,r1.2)
def C198:Con:=⟨Int,Al,0,fun x=>[.dat T0 x],NX,fun x=>f198 x,fun y=>[.raw true [(.osl 0),(.osl 1)]],fun y=>[(0,.arr 3 T0 y.1),(1,.arr 26 T0 y.2)],2⟩
theorem V198 v y (q:f198 v=some y):VC Tryz.f198 C198 v y:=by
 unfold f198 at q
 refine OL (OL ?_)
 obtain ⟨r1,h,q⟩:=bE q
 refine OL (cA H129 ([],v) h rfl (R2 (K0 (OL ?_))))
 cases sE q
 refine AI rfl (E4 (iuR [2,3]) (AI rfl (AJ (R2 TV))))
theorem H198:HI C198 198:=hI Tryz.f198 rfl fun x=>V198 x
def f159_j3 (op:Int):Option Bool:=
 bif (op==2) then
 some (op==2)
 else
 bif (op==3) then
 some (op==3)
 else
 some (op==4)
def f159_j2 (op:Int) (a b:Al) (k:Int):Option Bl:=
 Ac (f159_j3 op) fun z5=>
 bif z5 then
 Ac (f131 (i64.wrap (op-2)) (a.1,a.2) (b.1,b.2)) fun r6=>
 some (r6.1,r6.2.1,r6.2.2)
 else
 bif (op==5) then
 none
 else
 bif (op==6) then
 none
 else
 bif (op==7) then
 none
 else
 bif (op==8) then
 Ac (f197 k) fun q13_2=>
 Ac (f196 (a.1,a.2) q13_2) fun q13_3=>
 some (q13_3.1,q13_3.2.1,q13_3.2.2)
 else
 bif (op==9) then
 none
 else
 bif (op==10) then
 Ac (f200 (a.1,a.2)) fun q13_7=>
 Ac (f198 q13_7) fun r7=>
 some ((0:Int),r7.1,r7.2)
 else
 bif (op==11) then
 none
 else
 bif (op==12) then
 none
 else
 bif (op==13) then
 none
 else
 none
def f159 (op:Int) (a b:Al) (k:Int):Option Bl:=
 Ac (f159_j2 op a b k) fun z4=>
 some (z4.1,z4.2.1,z4.2.2)
def C159:Con:=⟨Int×Al×Al×Int,Bl,0,fun x=>[.dat T0 x.1,.dat T8 x.2.1,.dat T8 x.2.2.1,.dat T0 x.2.2.2],NX,fun x=>f159 x.1 x.2.1 x.2.2.1 x.2.2.2,fun y=>[.raw true [(.osl 0),(.osl 1)],.dat T0 y.1],fun y=>[(0,.arr 3 T0 y.2.1),(1,.arr 26 T0 y.2.2)],2⟩
theorem V159 op a b k y (q:f159 op a b k=some y):VC Tryz.f159 C159 (op,a,b,k) y:=by
 unfold f159 at q
 refine OL ?_
 obtain ⟨z4,hz4,q⟩:=bE q
 refine OQ ⟨[(1,⟨[(8,P0 0 0),(9,.dat T0 z4.1)],[(0,.cells [(.osl 1),(.osl 2)]),(1,.arr 3 T0 z4.2.1),(2,.arr 26 T0 z4.2.2)],3⟩)],?_,?_⟩
 ·have q:=hz4
  clear hz4
  unfold f159_j2 at q
  refine OL ?_
  obtain ⟨z5,hz5,q⟩:=bE q
  refine OQ ⟨[(0,⟨[(0,.dat T0 op),(3,.dat T0 k),(5,P0 0 0),(6,P0 1 0),(8,P0 2 0),(13,.dat T0 op),(14,.dat .bool z5)],[(0,.cells [(.d T5 a.1),(.d T5 a.2)]),(1,.cells [(.d T5 b.1),(.d T5 b.2)]),(2,.cells [N0,N0])],3⟩)],?_,?_⟩
  ·have q:=hz5
   clear hz5
   unfold f159_j3 at q
   refine OL (cI q (fun q=>?_) (fun q=>?_))
   ·cases sE q
    refine E4 I3 (R5 (AI (R3 TV) (R3 TV)))
   refine OL (cI q (fun q=>?_) (fun q=>?_))
   ·cases sE q
    refine E4 I3 (R5 (AI (R3 TV) (R3 TV)))
   cases sE q
   refine E4 I3 (R5 (AI (R3 TV) (R3 TV)))
  refine AI (cI q (fun q=>?_) (fun q=>?_)) TV
  ·refine OL ?_
   obtain ⟨r6,h,q⟩:=bE q
   refine OL (cA H131 ((i64.wrap (op-2)),(a.1,a.2),(b.1,b.2)) h rfl (R5 (K0 (OL ?_))))
   cases sE q
   refine E4 (iuR [3,4,5]) (R2 (AJ (R3 TV)))
  refine OL (cI q (fun q=>?_) (fun q=>?_))
  ·exact nomatch q
  refine OL (cI q (fun q=>?_) (fun q=>?_))
  ·exact nomatch q
  refine OL (cI q (fun q=>?_) (fun q=>?_))
  ·exact nomatch q
  refine OL (cI q (fun q=>?_) (fun q=>?_))
  ·refine OL (EI (.take 0 (.take 1 (.alt 2 (.alt 3 (.take 4 (.take 5 (.alt 6 (.take 7 .done) .done))) .done) .done))) (EI [] (EI [] (AI rfl (AI TV ?_)))))
   obtain ⟨q13_2,h,q⟩:=bE q
   refine OL (cA H197 k h rfl (AI rfl (K0 (AI TV ?_))))
   obtain ⟨q13_3,h,q⟩:=bE q
   refine OL (cA H196 ((a.1,a.2),q13_2) h rfl (R3 (K0 (AI TV (OL ?_)))))
   cases sE q
   refine E4 (iuR [3,4,5]) (R2 (AJ (R3 TV)))
  refine OL (cI q (fun q=>?_) (fun q=>?_))
  ·exact nomatch q
  refine OL (cI q (fun q=>?_) (fun q=>?_))
  ·refine OL ?_
   obtain ⟨q13_7,h,q⟩:=bE q
   refine OL (cA H200 (a.1,a.2) h rfl (R2 (K0 ?_)))
   obtain ⟨r7,h,q⟩:=bE q
   refine OL (cA H198 q13_7 h rfl (AI rfl (K0 (OL ?_))))
   cases sE q
   refine E4 (iuR [3,4,5]) (R2 (AJ (R3 TV)))
  refine OL (cI q (fun q=>?_) (fun q=>?_))
  ·exact nomatch q
  refine OL (cI q (fun q=>?_) (fun q=>?_))
  ·exact nomatch q
  refine OL (cI q (fun q=>?_) (fun q=>?_))
  ·exact nomatch q
  exact nomatch q
 refine AI ?_ TV
 cases sE q
 refine AI rfl (E4 (iuR [2,3]) (R2 (AJ (R2 TV))))
theorem H159:HI C159 159:=hI Tryz.f159 rfl fun x=>V159 x.1 x.2.1 x.2.2.1 x.2.2.2
def f128_j1 (t_L:NL) (op a b:Int):Option (Sum Unit Unit):=
 bif (decide (op<2)) then
 some (Sum.inr ())
 else
 bif (decide (op>14)) then
 some (Sum.inr ())
 else
 bif (decide (a<0)) then
 some (Sum.inr ())
 else
 bif (decide (a≥t_L.length)) then
 some (Sum.inr ())
 else
 Ac (f157 op) fun r3=>
 bif r3 then
 bif (decide (b<0)) then
 some (Sum.inr ())
 else
 bif (decide (b≥t_L.length)) then
 none
 else
 some (Sum.inl ())
 else
 some (Sum.inl ())
def f128_j2 (t_L:NL) (op b:Int):Option Bl:=
 Ac (f157 op) fun r6=>
 bif r6 then
 Ad (0≤b∧b<t_L.length)<|
 some (b,(((((rd (Ty.z T7) t_L b).2).2).2).2).1,(((((rd (Ty.z T7) t_L b).2).2).2).2).2)
 else
 some ((-1:Int),[],[])
def f128_j3 (op k:Int):Option Int:=
 Ac (f158 op) fun r9=>
 bif r9 then
 some k
 else
 some (0:Int)
def f128_j4 (t_L:NL) (op a:Int) (z5:Bl) (z8:Int):Option Bl:=
 Ad (0≤a∧a<t_L.length)<|
 Ac (f159 op ((((((rd (Ty.z T7) t_L a).2).2).2).2).1,(((((rd (Ty.z T7) t_L a).2).2).2).2).2) (z5.2.1,z5.2.2) z8) fun q12_12=>
 some (q12_12.1,q12_12.2.1,q12_12.2.2)
def f128 (t_L:NL) (op a b k:Int):Option Bu:=
 bif (decide ((t_L.length:Int)≥512)) then
 none
 else
 Ac (f128_j1 t_L op a b) fun z2=>
 Ak z2 (fun z2a=>
 Ac (f128_j2 t_L op b) fun z5=>
 Ac (f128_j3 op k) fun z8=>
 Ac (f128_j4 t_L op a z5 z8) fun z10=>
 bif (z10.1 != 0) then
 none
 else
 Ad ((t_L.length+List.length ([(op,a,z5.1,z8,z10.2.1,z10.2.2)]))*80≤140737488355328)<|
 some ((i64.wrap ((List.length (t_L++([(op,a,z5.1,z8,z10.2.1,z10.2.2)])):Int)-1)),(0:Int),(t_L++([(op,a,z5.1,z8,z10.2.1,z10.2.2)])))) (fun z2b=>
 some ((0:Int),(1:Int),t_L))
def C128:Con:=⟨NL×PTz7,Bu,2,fun x=>[P0 0 0,.dat T0 x.2.1,.dat T0 x.2.2.1,.dat T0 x.2.2.2.1,.dat T0 x.2.2.2.2],fun x=>[(0,.cells [(.osl 1)]),(1,.arr 176 T7 x.1)],fun x=>f128 x.1 x.2.1 x.2.2.1 x.2.2.2.1 x.2.2.2.2,fun y=>[.dat T0 y.1,.dat T0 y.2.1],fun y=>[(0,.cells [(.osl 2)]),(2,.arr 176 T7 y.2.2)],3⟩
theorem V128 t_L op a b k y (q:f128 t_L op a b k=some y):VE Tryz.f128 2 C128 (t_L,op,a,b,k) y:=by
 unfold f128 at q
 refine OL (OL (OL (cI q (fun q=>?_) (fun q=>?_))))
 ·exact nomatch q
 obtain ⟨z2,hz2,q⟩:=bE q
 let e0:LE:=fun zz=>(0,P0 0 0)::(1,.dat T0 op)::(2,.dat T0 a)::zz
 let h1:LH:=fun zz=>(0,.cells [(.osl 1)])::(1,.arr 176 T7 t_L)::zz
 refine OQ ⟨Sum.elim (fun z2a=>[(0,⟨e0 [(3,.dat T0 b),(4,.dat T0 k)],h1 [],2⟩)]) (fun z2b=>[(1,⟨[(10,D0 0),(11,D0 1)],h1 [],2⟩)]) z2,?_,?_⟩
 ·have q:=hz2
  clear hz2
  unfold f128_j1 at q
  refine OL (cN q (fun q=>?_) (fun q=>?_))
  ·refine gY (cF (cN q (fun q=>?_) (fun q=>?_)))
   ·refine gY (cF (cN q (fun q=>?_) (fun q=>?_)))
    ·refine gY (gY (gY (gY (gY (gY (cF (cN q (fun q=>?_) (fun q=>?_))))))))
     ·refine gY ?_
      obtain ⟨r3,h,q⟩:=bE q
      refine OL (cA H157 op h rfl (AI rfl (K0 (gY (cI q (fun q=>?_) (fun q=>?_))))))
      ·refine gX (gX (cN q (fun q=>?_) (fun q=>?_)))
       ·refine gY (gY (gY (gY (gY (gY (gX (cF (gY (cT (cF (cI q (fun q=>?_) (fun q=>?_))))))))))))
        ·exact nomatch q
        cases sE q
        refine E4 I2 (R5 (AJ (R2 TV)))
       refine gN (gN (gN (gN (gN (gN (gX (cT (gY (cT (cF (cT (OL ?_))))))))))))
       cases sE q
       refine E4 I2 (R3 (AI TV (R2 TV)))
      refine gM (gM (gM (gY (cF (cF (cF ?_))))))
      cases sE q
      refine E4 I2 (R5 (AJ (R2 TV)))
     refine gN (gN (gN (cT (cT (OL ?_)))))
     cases sE q
     refine E4 I2 (R3 (AI TV (R2 TV)))
    refine gN (gN (gN (gN (gN (gN (cT (gN (gN (gN (gN (cT (cT (OL ?_)))))))))))))
    cases sE q
    refine E4 I2 (R3 (AI TV (R2 TV)))
   refine gN (cT (gN (gN (gN (gN (gN (gN (gN (cT (gN (gN (gN (gN (cT (cT (OL ?_))))))))))))))))
   cases sE q
   refine E4 I2 (R3 (AI TV (R2 TV)))
  refine gN (cT (gN (gN (cT (gN (gN (gN (gN (gN (gN (gN (cT (gN (gN (gN (gN (cT (cT (OL ?_)))))))))))))))))))
  cases sE q
  refine E4 I2 (R3 (AI TV (R2 TV)))
 rcases z2 with z2a | z2b
 ·dsimp only [Ak] at q
  refine AI (OL (OL (OL (OL ?_)))) TV
  obtain ⟨z5,hz5,q⟩:=bE q
  refine OQ ⟨[(0,⟨e0 [(4,.dat T0 k),(12,P0 2 0),(13,P0 3 0)],h1 [(2,.cells [(.d T0 op),(.d T0 a),(.d T0 z5.1),(.d T0 (0:Int)),N0,N0]),(3,.cells [(.d T5 z5.2.1),(.d T5 z5.2.2)])],4⟩)],?_,?_⟩
  ·have q:=hz5
   clear hz5
   unfold f128_j2 at q
   refine OL ?_
   obtain ⟨r6,h,q⟩:=bE q
   refine OL (cA H157 op h rfl (AI rfl (K0 (cI q (fun q=>?_) (fun q=>?_)))))
   ·refine OL (OL (gI q (fun q=>?_)))
    cases sE q
    refine OL (E4 I4 (R4 (AI (R3 TV) (R4 TV))))
   cases sE q
   refine EI [] (EI [] (EI [(3,0,T0),(3,1,T0)] (EI [] (EI I4 (R4 (AI (R3 TV) (R4 TV)))))))
  refine AI ?_ TV
  obtain ⟨z8,hz8,q⟩:=bE q
  let h2:LH:=fun zz=>h1 ((2,.cells [(.d T0 op),(.d T0 a),(.d T0 z5.1),(.d T0 z8),N0,N0])::zz)
  refine OQ ⟨[(0,⟨e0 [(12,P0 2 0),(13,P0 3 0)],h2 [(3,.cells [(.d T5 z5.2.1),(.d T5 z5.2.2)])],4⟩)],?_,?_⟩
  ·have q:=hz8
   clear hz8
   unfold f128_j3 at q
   refine OL ?_
   obtain ⟨r9,h,q⟩:=bE q
   refine OL (cA H158 op h rfl (AI rfl (K0 (cI q (fun q=>?_) (fun q=>?_)))))
   ·cases sE q
    refine OL (E4 I4 (R3 (AI (R3 TV) (R4 TV))))
   cases sE q
   refine E4 I4 (R3 (AI (R3 TV) (R4 TV)))
  refine AI ?_ TV
  obtain ⟨z10,hz10,q⟩:=bE q
  refine OQ ⟨[(0,⟨[(0,P0 0 0),(12,P0 2 0),(14,P0 3 0),(15,.dat T0 z10.1)],h2 [(3,.cells [(.osl 4),(.osl 5)]),(4,.arr 3 T0 z10.2.1),(5,.arr 26 T0 z10.2.2)],6⟩)],?_,?_⟩
  ·have q:=hz10
   clear hz10
   unfold f128_j4 at q
   obtain ⟨g12_0,q⟩:=gE q
   obtain ⟨q12_12,hq12_12,q⟩:=bE q
   refine EI (tU 0 12 (.alt 12 (tU 13 3 (.alt 16 (.alt 17 (.take 18 .done) .done) .done)) (.alt 16 (.alt 12 (tU 13 3 (.alt 17 (.take 18 .done) .done)) .done) .done))) (EI [] (EI [] (AI rfl (AI g12_0 (AI (AI TV ?_) ?_)))))
   ·refine AI TV (OL (cA H159 (op,((((((rd (Ty.z T7) t_L a).2).2).2).2).1,(((((rd (Ty.z T7) t_L a).2).2).2).2).2),(z5.2.1,z5.2.2),z8) hq12_12 rfl (R6 (K0 (AI TV (OL ?_))))))
    cases sE q
    refine E4 (iuR [1,2,3,5,6,7]) (R2 (AI (R3 TV) (R6 TV)))
   refine OL (cA H159 (op,((((((rd (Ty.z T7) t_L a).2).2).2).2).1,(((((rd (Ty.z T7) t_L a).2).2).2).2).2),(z5.2.1,z5.2.2),z8) hq12_12 rfl (R6 (K0 (AI TV (AI TV (OL ?_))))))
   cases sE q
   refine E4 (iuR [1,2,3,7,5,6]) (R2 (AI (R3 TV) (R6 TV)))
  refine AI (OL (OL (cI q (fun q=>?_) (fun q=>?_)))) TV
  ·exact nomatch q
  refine OL (OL (OL (EI (tU 0 6 (.alt 6 (.alt 7 (.take 8 (.take 9 (.alt 10 .done .done))) .done) .done)) (EI [(10,[0])] (EI [] (AI rfl (AI TV (OL (AI TV (OL (gI q (fun q=>?_))))))))))))
  refine AI TV (OL (OL ?_))
  cases sE q
  refine AI rfl (E4 [(0,some 0),(2,some 7)] (R3 (AI TV (R2 TV))))
 dsimp only [Ak] at q
 refine AI ?_ TV
 cases sE q
 refine AI rfl (E4 [(0,some 0),(2,some 1)] (R3 (AI TV (R2 TV))))
theorem H128:HI C128 128:=hI Tryz.f128 rfl fun x=>V128 x.1 x.2.1 x.2.2.1 x.2.2.2.1 x.2.2.2.2
def f89_j3 (n:Az) (p_ x_:LI) (r1:Int×PTz17):Option Bool:=
 bif ((p_.length:Int) != r1.1) then
 some true
 else
 Ac (f87 n.1) fun r8=>
 some ((x_.length:Int) != r8)
def f89_j2 (n:Az) (p_ x_:LI) (r1:Int×PTz17):Option (Sum Unit Unit):=
 Ac (f89_j3 n p_ x_ r1) fun z7=>
 bif z7 then
 none
 else
 some (Sum.inl ())
def f89_j58 (n:Az) (p_:LI) (used i r127:Int) (q24_15:Int×NL):Option (Int×NL):=
 bif ((0:Int)==0) then
 Ad (0≤(i64.wrap (used+(i64.wrap ((((rd (Ty.z T1) n.2 i).2).1)*r127))))∧(i64.wrap (used+(i64.wrap ((((rd (Ty.z T1) n.2 i).2).1)*r127))))≤(i64.wrap ((i64.wrap (used+(i64.wrap ((((rd (Ty.z T1) n.2 i).2).1)*r127))))+(((rd (Ty.z T1) n.2 i).2).1)))∧(i64.wrap ((i64.wrap (used+(i64.wrap ((((rd (Ty.z T1) n.2 i).2).1)*r127))))+(((rd (Ty.z T1) n.2 i).2).1)))≤p_.length)<|
 Ac (f127 q24_15.2 ([((rd (Ty.z T1) n.2 i).2).1],(List.drop (Int.toNat (i64.wrap (used+(i64.wrap ((((rd (Ty.z T1) n.2 i).2).1)*r127))))) (List.take (Int.toNat (i64.wrap ((i64.wrap (used+(i64.wrap ((((rd (Ty.z T1) n.2 i).2).1)*r127))))+(((rd (Ty.z T1) n.2 i).2).1)))) p_)))) fun q26_22=>
 some (q26_22.1,q26_22.2)
 else
 none
def f89_j61 (last:Int) (l4:NL):Option Bool:=
 bif ((0:Int)==0) then
 some ((List.length ((((((rd (Ty.z T7) l4 last).2).2).2).2).1):Int)==2)
 else
 some false
def f89_j60 (last:Int) (l4:NL) (z128:Int×NL):Option Bu:=
 Ac (f89_j61 last l4) fun z132=>
 bif z132 then
 Ac (f128 z128.2 (14:Int) last (-1:Int) (0:Int)) fun r133=>
 some (r133.2.1,r133.1,r133.2.2)
 else
 some ((0:Int),last,z128.2)
def f89_j62 (q24_15:Int×NL) (z131:Bu):Option Bu:=
 bif (z131.1==0) then
 Ac (f128 z131.2.2 (4:Int) q24_15.1 z131.2.1 (0:Int)) fun r136=>
 some (r136.2.1,r136.1,r136.2.2)
 else
 none
def f89_j63 (z135:Bu):Option Bu:=
 bif (z135.1==0) then
 Ac (f128 z135.2.2 (8:Int) z135.2.1 (-1:Int) (1:Int)) fun r139=>
 some (r139.2.1,r139.1,r139.2.2)
 else
 none
def f89_j64 (z128:Int×NL) (z138:Bu):Option Bu:=
 bif (z138.1==0) then
 Ac (f128 z138.2.2 (2:Int) z138.2.1 z128.1 (0:Int)) fun r142=>
 some (r142.2.1,r142.1,r142.2.2)
 else
 none
def f89_j57 (n:Az) (p_:LI) (last used i:Int) (l3:LI) (l4:NL):Option (Int×PTz21):=
 bif (ByteArray.toList ((rd (Ty.z T1) n.2 i).1)==ByteArray.toList (ByteArray.mk #[100,101,110,115,101])) then
 Ac (f87 ((((((rd (Ty.z T7) l4 last).2).2).2).2).1)) fun r127=>
 Ad (0≤used∧used≤(i64.wrap (used+(i64.wrap ((((rd (Ty.z T1) n.2 i).2).1)*r127))))∧(i64.wrap (used+(i64.wrap ((((rd (Ty.z T1) n.2 i).2).1)*r127))))≤p_.length)<|
 Ac (f127 l4 ([((rd (Ty.z T1) n.2 i).2).1,r127],(List.drop (Int.toNat used) (List.take (Int.toNat (i64.wrap (used+(i64.wrap ((((rd (Ty.z T1) n.2 i).2).1)*r127))))) p_)))) fun q24_15=>
 Ac (f89_j58 n p_ used i r127 q24_15) fun z128=>
 Ac (f89_j60 last l4 z128) fun z131=>
 Ac (f89_j62 q24_15 z131) fun z135=>
 Ac (f89_j63 z135) fun z138=>
 Ac (f89_j64 z128 z138) fun z141=>
 Ad ((l3.length+List.length ([q24_15.1,z128.1]))*8≤140737488355328)<|
 some (z141.1,(i64.wrap ((i64.wrap (used+(i64.wrap ((((rd (Ty.z T1) n.2 i).2).1)*r127))))+(((rd (Ty.z T1) n.2 i).2).1))),z141.2.1,(l3++([q24_15.1,z128.1])),z141.2.2)
 else
 none
def f89_l49 (n:Az) (p_:LI) (go:(Int×Int×PTz21)→Option (Int×LI×NL)) (from_ last used i:Int) (l3:LI) (l4:NL):Option (Int×LI×NL):=
 bif (decide (i<n.2.length)) then
 Ad (0≤i∧i<n.2.length)<|
 Ad (0≤last∧last<l4.length)<|
 Ac (f89_j57 n p_ last used i l3 l4) fun z126=>
 bif (z126.1 != 0) then
 none
 else
 go (last,z126.2.2.1,z126.2.1,(i64.wrap (i+1)),z126.2.2.2.1,z126.2.2.2.2)
 else
 some (last,l3,l4)
def f89 (t_L:NL) (n:Az) (p_ x_:LI):Option PTz21:=
 Ac (f54 (n.1,n.2)) fun r1=>
 bif (r1.2.1 != 0) then
 none
 else
 Ac (f89_j2 n p_ x_ r1) fun z5=>
 Ak z5 (fun z5a=>
 Ac (f127 t_L (n.1,x_)) fun r9=>
 bif ((0:Int) != 0) then
 none
 else
 Ac (Ag (fun go x=>f89_l49 n p_ go x.1 x.2.1 x.2.2.1 x.2.2.2.1 x.2.2.2.2.1 x.2.2.2.2.2) Ah (r9.1,r9.1,(0:Int),(0:Int),[],r9.2)) fun z109=>
 some (z109.1,(0:Int),z109.2.1,z109.2.2)) (fun z5b=>
 some ((0:Int),(1:Int),[],t_L))
def C89:Con:=⟨NL×Az×Al,PTz21,2,fun x=>[P0 0 0,.dat T3 x.2.1,.dat T5 x.2.2.1,.dat T5 x.2.2.2],fun x=>[(0,.cells [(.osl 1)]),(1,.arr 176 T7 x.1)],fun x=>f89 x.1 x.2.1 x.2.2.1 x.2.2.2,fun y=>[.dat T0 y.1,O0 2,.dat T0 y.2.1],fun y=>[(0,.cells [(.osl 3)]),(2,.arr 3 T0 y.2.2.1),(3,.arr 176 T7 y.2.2.2)],4⟩
theorem V89 t_L n p_ x_ y (q:f89 t_L n p_ x_=some y):VE Tryz.f89 2 C89 (t_L,n,p_,x_) y:=by
 unfold f89 at q
 refine OL (OL ?_)
 obtain ⟨r1,h,q⟩:=bE q
 refine OL (cA H54 (n.1,n.2) h rfl (R2 (K0 (OL (OL (cI q (fun q=>?_) (fun q=>?_)))))))
 ·exact nomatch q
 obtain ⟨z5,hz5,q⟩:=bE q
 let e0:LE:=fun zz=>(0,P0 0 0)::(2,.dat T5 p_)::zz
 let h1:LH:=fun zz=>(0,.cells [(.osl 1)])::(1,.arr 176 T7 t_L)::zz
 refine OQ ⟨Sum.elim (fun z5a=>[(0,⟨e0 [(3,.dat T5 x_),(5,P0 2 0)],h1 [(2,.cells [(.d T5 n.1),(.d T4 n.2)])],3⟩)]) (fun z5b=>[(1,⟨[(8,D0 0),(9,.raw false [N0]),(10,D0 1)],h1 [],2⟩)]) z5,?_,?_⟩
 ·have q:=hz5
  clear hz5
  unfold f89_j2 at q
  obtain ⟨z7,hz7,q⟩:=bE q
  refine OQ ⟨[(0,⟨e0 [(3,.dat T5 x_),(5,P0 2 0),(48,.dat .bool z7)],h1 [(2,.cells [(.d T5 n.1),(.d T4 n.2)])],3⟩)],?_,?_⟩
  ·have q:=hz7
   clear hz7
   unfold f89_j3 at q
   refine cN q (fun q=>?_) (fun q=>?_)
   ·refine gY (gY (gY (gY ?_)))
    obtain ⟨r8,h,q⟩:=bE q
    refine OL (cA H87 n.1 h rfl (AI rfl (K0 (gY (cF ?_)))))
    cases sE q
    refine E4 I3 (R4 (AI (R2 TV) (R3 TV)))
   refine gN (gN (gN (gN (gN (cT ?_)))))
   cases sE q
   refine E4 I3 (R4 (AI (R2 TV) (R3 TV)))
  refine AI (cI q (fun q=>?_) (fun q=>?_)) TV
  ·exact nomatch q
  cases sE q
  refine E4 I3 (R3 (AI (R2 TV) (R3 TV)))
 rcases z5 with z5a | z5b
 ·dsimp only [Ak] at q
  refine AI (OL ?_) TV
  obtain ⟨r9,h,q⟩:=bE q
  refine OL (cB H127 (t_L,(n.1,x_)) I2 false h rfl (R2 (AI NH (R2 (AJ (AI (R2 TV) (OL (OL (cI q (fun q=>?_) (fun q=>?_))))))))))
  ·exact nomatch q
  refine OL (OL (OL (OL (OL ?_))))
  obtain ⟨z109,hz109,q⟩:=bE q
  let e2:LE:=fun zz=>e0 ((5,P0 2 0)::zz)
  let h3:LH:=fun zz=>(0,.cells [(.osl 4)])::(2,.cells [(.d T5 n.1),(.d T4 n.2)])::zz
  refine lJ hz109 (fun x=>⟨e2 [(15,O0 3),(16,.dat T0 x.1),(17,.dat T0 x.2.1),(18,.dat T0 x.2.2.1),(19,.dat T0 x.2.2.2.1)],h3 [(3,.arr 3 T0 x.2.2.2.2.1),(4,.arr 176 T7 x.2.2.2.2.2)],5⟩) (fun z=>[(2,⟨[(15,O0 2),(17,.dat T0 z.1)],[(0,.cells [(.osl 3)]),(2,.arr 3 T0 z.2.1),(3,.arr 176 T7 z.2.2)],4⟩)]) (E4 [(0,some 0),(2,some 2),(3,none),(4,some 5)] (R6 (AI (R3 TV) (R4 TV)))) (fun m=>An (fun from_=>An (fun last=>An (fun used=>An (fun i=>An (fun l3=>fun l4 z q=>?_)))))) ?_
  ·have q:f89_l49 n p_ _ from_ last used i l3 l4=some z:=q
   unfold f89_l49 at q
   refine OL (OL (cI q (fun q=>?_) (fun q=>?_)))
   ·refine OL (OL (gI q (fun q=>?_)))
    refine OL (OL (gI q (fun q=>?_)))
    refine OL (OL (OL ?_))
    obtain ⟨z126,hz126,q⟩:=bE q
    refine OQ ⟨[(0,⟨e2 [(13,.dat T0 z126.1),(15,O0 3),(18,.dat T0 z126.2.1),(19,.dat T0 i),(22,.dat T0 last),(25,.dat T0 z126.2.2.1)],h3 [(3,.arr 3 T0 z126.2.2.2.1),(4,.arr 176 T7 z126.2.2.2.2)],5⟩)],?_,?_⟩
    ·have q:=hz126
     clear hz126
     unfold f89_j57 at q
     refine OL (OL (cI q (fun q=>?_) (fun q=>?_)))
     ·refine OL ?_
      obtain ⟨r127,h,q⟩:=bE q
      refine OL (AI H87.1 (cV (cQ C87 (((((rd (Ty.z T7) l4 last).2).2).2).2).1 r127 [] false H87.2 h rfl rfl (AI rfl (K0 (OL (EI (tU 0 4 (tU 5 9 (.alt 4 (.take 14 (.alt 15 (tU 16 5 .done) .done)) .done))) (EI [] (EI [] (AI rfl (gI q (fun q=>?_))))))))))))
      refine AI TV (OL (AI TV ?_))
      obtain ⟨q24_15,h,q⟩:=bE q
      refine OL (cB H127 (l4,([((rd (Ty.z T1) n.2 i).2).1,r127],(List.drop (Int.toNat used) (List.take (Int.toNat (i64.wrap (used+(i64.wrap ((((rd (Ty.z T1) n.2 i).2).1)*r127))))) p_)))) (iuR [1,5]) false h rfl (R2 (AI NH (R2 (AJ (AI (R2 TV) ?_))))))
      obtain ⟨z128,hz128,q⟩:=bE q
      refine OQ ⟨[(0,⟨e2 [(13,D0 0),(15,O0 3),(17,.dat T0 last),(18,.dat T0 used),(19,.dat T0 i),(20,P0 4 0),(21,.dat T5 ((((((rd (Ty.z T7) l4 last).2).2).2).2).1)),(22,.dat T0 last),(23,.dat T0 q24_15.1),(24,.dat T0 z128.1),(25,D0 0),(26,.dat T0 r127)],[(0,.cells [(.osl 5)]),(2,.cells [(.d T5 n.1),(.d T4 n.2)]),(3,.arr 3 T0 l3),(4,.cells [(.d .str ((rd (Ty.z T1) n.2 i).1)),(.d T0 (((rd (Ty.z T1) n.2 i).2).1)),(.d T0 (((rd (Ty.z T1) n.2 i).2).2))]),(5,.arr 176 T7 z128.2)],6⟩)],?_,?_⟩
      ·have q:=hz128
       clear hz128
       unfold f89_j58 at q
       refine OL (cI q (fun q=>?_) (fun q=>?_))
       ·refine EI (tU 0 3 (tU 4 17 (.alt 3 (.take 21 (.alt 22 (tU 23 5 .done) .done)) .done))) (EI [] (EI [] (AI rfl (gI q (fun q=>?_)))))
        refine AI TV (OL (AI TV ?_))
        obtain ⟨q26_22,h,q⟩:=bE q
        refine OL (cB H127 (q24_15.2,([((rd (Ty.z T1) n.2 i).2).1],(List.drop (Int.toNat (i64.wrap (used+(i64.wrap ((((rd (Ty.z T1) n.2 i).2).1)*r127))))) (List.take (Int.toNat (i64.wrap ((i64.wrap (used+(i64.wrap ((((rd (Ty.z T1) n.2 i).2).1)*r127))))+(((rd (Ty.z T1) n.2 i).2).1)))) p_)))) (iuR [1,10]) false h rfl (R2 (AI NH (R2 (AJ (AI (R2 TV) ?_))))))
        cases sE q
        refine E4 [(0,some 0),(2,some 2),(3,some 3),(4,some 5),(5,some 13)] (R12 (AI (R4 TV) (R5 TV)))
       exact nomatch q
      refine AI (OL ?_) TV
      obtain ⟨z131,hz131,q⟩:=bE q
      let h4:LH:=fun zz=>h3 ((3,.arr 3 T0 l3)::zz)
      refine OQ ⟨[(0,⟨e2 [(13,.dat T0 z131.1),(15,O0 3),(17,.dat T0 z131.2.1),(18,.dat T0 (i64.wrap ((i64.wrap (used+(i64.wrap ((((rd (Ty.z T1) n.2 i).2).1)*r127))))+(((rd (Ty.z T1) n.2 i).2).1)))),(19,.dat T0 i),(22,.dat T0 last),(23,.dat T0 q24_15.1),(24,.dat T0 z128.1),(25,D0 0)],h4 [(4,.arr 176 T7 z131.2.2)],5⟩)],?_,?_⟩
      ·have q:=hz131
       clear hz131
       unfold f89_j60 at q
       obtain ⟨z132,hz132,q⟩:=bE q
       refine OQ ⟨[(0,⟨e2 [(13,D0 0),(15,O0 3),(17,.dat T0 last),(18,.dat T0 (i64.wrap ((i64.wrap (used+(i64.wrap ((((rd (Ty.z T1) n.2 i).2).1)*r127))))+(((rd (Ty.z T1) n.2 i).2).1)))),(19,.dat T0 i),(22,.dat T0 last),(23,.dat T0 q24_15.1),(24,.dat T0 z128.1),(25,D0 0),(160,.dat .bool z132)],h4 [(4,.arr 176 T7 z128.2)],5⟩)],?_,?_⟩
       ·have q:=hz132
        clear hz132
        unfold f89_j61 at q
        refine cI q (fun q=>?_) (fun q=>?_)
        ·refine gX (gX (cT ?_))
         cases sE q
         refine E4 [(0,some 0),(2,some 2),(3,some 3),(4,some 5)] (R11 (AI (R3 TV) (R4 TV)))
        refine gM (gM (cF ?_))
        cases sE q
        refine E4 [(0,some 0),(2,some 2),(3,some 3),(4,some 5)] (R11 (AI (R3 TV) (R4 TV)))
       refine AI (cI q (fun q=>?_) (fun q=>?_)) TV
       ·obtain ⟨r133,hr133,q⟩:=bE q
        have hr133:C128.F (z128.2,(14:Int),last,(-1:Int),(0:Int))=some r133:=hr133
        refine OL (cB H128 _ (iuR [1,5]) false hr133 rfl (R4 (AI NH (R2 (AJ (AI (R2 TV) ?_))))))
        cases sE q
        refine E4 [(0,some 0),(2,some 2),(3,some 3),(4,some 7)] (R10 (AI (R3 TV) (R4 TV)))
       cases sE q
       refine E4 [(0,some 0),(2,some 2),(3,some 3),(4,some 4)] (R10 (AI (R3 TV) (R4 TV)))
      refine AI ?_ TV
      obtain ⟨z135,hz135,q⟩:=bE q
      refine OQ ⟨[(0,⟨e2 [(13,.dat T0 z135.1),(15,O0 3),(18,.dat T0 (i64.wrap ((i64.wrap (used+(i64.wrap ((((rd (Ty.z T1) n.2 i).2).1)*r127))))+(((rd (Ty.z T1) n.2 i).2).1)))),(19,.dat T0 i),(22,.dat T0 last),(23,.dat T0 q24_15.1),(24,.dat T0 z128.1),(25,.dat T0 z135.2.1)],h4 [(4,.arr 176 T7 z135.2.2)],5⟩)],?_,?_⟩
      ·have q:=hz135
       clear hz135
       unfold f89_j62 at q
       refine OL (cI q (fun q=>?_) (fun q=>?_))
       ·obtain ⟨r136,h,q⟩:=bE q
        refine OL (cB H128 (z131.2.2,(4:Int),q24_15.1,z131.2.1,(0:Int)) (iuR [1,5]) false h rfl (R4 (AI NH (R2 (AJ (AI (R2 TV) ?_))))))
        cases sE q
        refine E4 [(0,some 0),(2,some 2),(3,some 3),(4,some 7)] (R9 (AI (R3 TV) (R4 TV)))
       exact nomatch q
      refine AI ?_ TV
      obtain ⟨z138,hz138,q⟩:=bE q
      refine OQ ⟨[(0,⟨e2 [(13,.dat T0 z138.1),(15,O0 3),(18,.dat T0 (i64.wrap ((i64.wrap (used+(i64.wrap ((((rd (Ty.z T1) n.2 i).2).1)*r127))))+(((rd (Ty.z T1) n.2 i).2).1)))),(19,.dat T0 i),(22,.dat T0 last),(23,.dat T0 q24_15.1),(24,.dat T0 z128.1),(25,.dat T0 z138.2.1)],h4 [(4,.arr 176 T7 z138.2.2)],5⟩)],?_,?_⟩
      ·have q:=hz138
       clear hz138
       unfold f89_j63 at q
       refine OL (cI q (fun q=>?_) (fun q=>?_))
       ·obtain ⟨r139,hr139,q⟩:=bE q
        have hr139:C128.F (z135.2.2,(8:Int),z135.2.1,(-1:Int),(1:Int))=some r139:=hr139
        refine OL (cB H128 _ (iuR [1,5]) false hr139 rfl (R4 (AI NH (R2 (AJ (AI (R2 TV) ?_))))))
        cases sE q
        refine E4 [(0,some 0),(2,some 2),(3,some 3),(4,some 7)] (R9 (AI (R3 TV) (R4 TV)))
       exact nomatch q
      refine AI ?_ TV
      obtain ⟨z141,hz141,q⟩:=bE q
      refine OQ ⟨[(0,⟨e2 [(13,.dat T0 z141.1),(15,O0 3),(18,.dat T0 (i64.wrap ((i64.wrap (used+(i64.wrap ((((rd (Ty.z T1) n.2 i).2).1)*r127))))+(((rd (Ty.z T1) n.2 i).2).1)))),(19,.dat T0 i),(22,.dat T0 last),(23,.dat T0 q24_15.1),(24,.dat T0 z128.1),(25,.dat T0 z141.2.1)],h4 [(4,.arr 176 T7 z141.2.2)],5⟩)],?_,?_⟩
      ·have q:=hz141
       clear hz141
       unfold f89_j64 at q
       refine OL (cI q (fun q=>?_) (fun q=>?_))
       ·obtain ⟨r142,h,q⟩:=bE q
        refine OL (cB H128 (z138.2.2,(2:Int),z138.2.1,z128.1,(0:Int)) (iuR [1,5]) false h rfl (R4 (AI NH (R2 (AJ (AI (R2 TV) ?_))))))
        cases sE q
        refine E4 [(0,some 0),(2,some 2),(3,some 3),(4,some 7)] (R9 (AI (R3 TV) (R4 TV)))
       exact nomatch q
      refine AI (OL (OL (gI q (fun q=>?_)))) TV
      cases sE q
      refine E4 [(0,some 0),(2,some 2),(3,some 6),(4,some 4)] (R7 (AI (R3 TV) (R4 TV)))
     exact nomatch q
    refine AI (OL (OL (cI q (fun q=>?_) (fun q=>?_)))) TV
    ·exact nomatch q
    refine EI (last,z126.2.2.1,z126.2.1,(i64.wrap (i+1)),z126.2.2.2.1,z126.2.2.2.2) (AI q (E4 [(0,some 0),(2,some 2),(3,some 3),(4,some 4)] (R6 (AI (R3 TV) (R4 TV)))))
   cases sE q
   refine E4 [(0,some 0),(2,some 3),(3,some 4)] (R2 (AJ (R3 TV)))
  refine AI (OL ?_) TV
  cases sE q
  refine AI rfl (E4 [(0,some 0),(2,some 2),(3,some 3)] (R3 (AJ (R3 TV))))
 dsimp only [Ak] at q
 refine AI ?_ TV
 cases sE q
 refine AI rfl (E4 [(0,some 0),(2,none),(3,some 1)] (R3 (AJ (R3 TV))))
theorem H89:HI C89 89:=hI Tryz.f89 rfl fun x=>V89 x.1 x.2.1 x.2.2.1 x.2.2.2
def f90_j1 (t_L:NL) (kind out:Int) (want:LI):Option (Sum Unit Unit):=
 bif (decide (out<0)) then
 some (Sum.inr ())
 else
 bif (decide (out≥t_L.length)) then
 some (Sum.inr ())
 else
 bif (kind != 3) then
 Ad (0≤out∧out<t_L.length)<|
 bif ((want.length:Int) != (List.length ((((((rd (Ty.z T7) t_L out).2).2).2).2).2):Int)) then
 none
 else
 some (Sum.inl ())
 else
 some (Sum.inl ())
def f90_j2 (t_L:NL) (kind out class_:Int):Option (Sum Unit Unit):=
 bif ((List.length ((((((rd (Ty.z T7) t_L out).2).2).2).2).1):Int) != 1) then
 some (Sum.inr ())
 else
 bif (kind==3) then
 bif (decide (class_<0)) then
 some (Sum.inr ())
 else
 Ad (0≤(0:Int)∧(0:Int)<(List.length ((((((rd (Ty.z T7) t_L out).2).2).2).2).1):Int))<|
 bif (decide (class_≥(rd 0 ((((((rd (Ty.z T7) t_L out).2).2).2).2).1) (0:Int)))) then
 none
 else
 some (Sum.inl ())
 else
 some (Sum.inl ())
def f90_j3 (out:Int) (r3:Int×NL):Option Bu:=
 bif ((0:Int)==0) then
 Ac (f128 r3.2 (3:Int) out r3.1 (0:Int)) fun r6=>
 some (r6.1,r6.2.1,r6.2.2)
 else
 none
def f90_j6 (kind:Int) (z5:Bu):Option Bool:=
 bif (z5.2.1==0) then
 some (kind==1)
 else
 some false
def f90_j5 (kind:Int) (z5:Bu):Option Bu:=
 Ac (f90_j6 kind z5) fun z10=>
 bif z10 then
 Ac (f128 z5.2.2 (4:Int) z5.1 z5.1 (0:Int)) fun r11=>
 some (r11.1,r11.2.1,r11.2.2)
 else
 some (z5.1,z5.2.1,z5.2.2)
def f90_j9 (kind:Int) (z9:Bu):Option Bool:=
 bif (z9.2.1==0) then
 some (kind==2)
 else
 some false
def f90_j8 (kind:Int) (z9:Bu):Option Bu:=
 Ac (f90_j9 kind z9) fun z15=>
 bif z15 then
 Ac (f128 z9.2.2 (11:Int) z9.1 (-1:Int) (4:Int)) fun r16=>
 some (r16.1,r16.2.1,r16.2.2)
 else
 some (z9.1,z9.2.1,z9.2.2)
def f90_j10 (z14:Bu):Option Bu:=
 bif (z14.2.1==0) then
 Ac (f128 z14.2.2 (10:Int) z14.1 (-1:Int) (0:Int)) fun r19=>
 some (r19.1,r19.2.1,r19.2.2)
 else
 none
def f90 (t_L:NL) (kind out:Int) (want:LI) (class_:Int):Option Bu:=
 Ac (f90_j1 t_L kind out want) fun z1=>
 Ak z1 (fun z1a=>
 Ad (0≤out∧out<t_L.length)<|
 Ac (f90_j2 t_L kind out class_) fun z2=>
 Ak z2 (fun z2a=>
 bif (kind != 3) then
 Ac (f127 t_L ((((((rd (Ty.z T7) t_L out).2).2).2).2).1,want)) fun r3=>
 Ac (f90_j3 out r3) fun z5=>
 Ac (f90_j5 kind z5) fun z9=>
 Ac (f90_j8 kind z9) fun z14=>
 Ac (f90_j10 z14) fun z18=>
 bif (z18.2.1 != 0) then
 none
 else
 some (z18.1,(0:Int),z18.2.2)
 else
 none) (fun z2b=>
 some ((0:Int),(4:Int),t_L))) (fun z1b=>
 some ((0:Int),(1:Int),t_L))
def C90:Con:=⟨NL×Int×Int×LI×Int,Bu,2,fun x=>[P0 0 0,.dat T0 x.2.1,.dat T0 x.2.2.1,.dat T5 x.2.2.2.1,.dat T0 x.2.2.2.2],fun x=>[(0,.cells [(.osl 1)]),(1,.arr 176 T7 x.1)],fun x=>f90 x.1 x.2.1 x.2.2.1 x.2.2.2.1 x.2.2.2.2,fun y=>[.dat T0 y.1,.dat T0 y.2.1],fun y=>[(0,.cells [(.osl 2)]),(2,.arr 176 T7 y.2.2)],3⟩
theorem V90 t_L kind out want class_ y (q:f90 t_L kind out want class_=some y):VE Tryz.f90 2 C90 (t_L,kind,out,want,class_) y:=by
 unfold f90 at q
 refine OL ?_
 obtain ⟨z1,hz1,q⟩:=bE q
 let e0:LE:=fun zz=>(0,P0 0 0)::(1,.dat T0 kind)::zz
 let e1:LE:=fun zz=>e0 ((2,.dat T0 out)::(3,.dat T5 want)::(4,.dat T0 class_)::zz)
 let h2:LH:=fun zz=>(0,.cells [(.osl 1)])::(1,.arr 176 T7 t_L)::zz
 refine OQ ⟨Sum.elim (fun z1a=>[(0,⟨e1 [],h2 [],2⟩)]) (fun z1b=>[(1,⟨[(10,D0 0),(11,D0 1)],h2 [],2⟩)]) z1,?_,?_⟩
 ·have q:=hz1
  clear hz1
  unfold f90_j1 at q
  refine OL (cN q (fun q=>?_) (fun q=>?_))
  ·refine gY (gY (gY (gY (gY (gY (cF (cN q (fun q=>?_) (fun q=>?_))))))))
   ·refine gY (gY (cI q (fun q=>?_) (fun q=>?_)))
    ·refine gX (gX (gX (gX (gX (gX (gX (gI q (fun q=>?_))))))))
     refine gX (gX (gX (gX (gX (gY (cT (cF (cI q (fun q=>?_) (fun q=>?_)))))))))
     ·exact nomatch q
     cases sE q
     refine E4 I2 (R5 (AJ (R2 TV)))
    refine gM (gM (gM (gM (gM (gM (gM (gM (gM (gM (gM (gM (gY (cF (cF (cF ?_)))))))))))))))
    cases sE q
    refine E4 I2 (R5 (AJ (R2 TV)))
   refine gN (gN (gN (cT (cT (OL ?_)))))
   cases sE q
   refine E4 I2 (R3 (AI TV (R2 TV)))
  refine gN (gN (gN (gN (gN (gN (cT (gN (gN (gN (gN (cT (cT (OL ?_)))))))))))))
  cases sE q
  refine E4 I2 (R3 (AI TV (R2 TV)))
 rcases z1 with z1a | z1b
 ·dsimp only [Ak] at q
  refine AI (OL (gI q (fun q=>?_))) TV
  obtain ⟨z2,hz2,q⟩:=bE q
  refine OQ ⟨Sum.elim (fun z2a=>[(0,⟨e1 [(12,.dat T5 ((((((rd (Ty.z T7) t_L out).2).2).2).2).1))],h2 [],2⟩)]) (fun z2b=>[(1,⟨[(10,D0 0),(11,D0 4)],h2 [],2⟩)]) z2,?_,?_⟩
  ·have q:=hz2
   clear hz2
   unfold f90_j2 at q
   refine OL (cN q (fun q=>?_) (fun q=>?_))
   ·refine gY (gY (cI q (fun q=>?_) (fun q=>?_)))
    ·refine gX (gX (cN q (fun q=>?_) (fun q=>?_)))
     ·refine gY (gY (gI q (fun q=>?_)))
      refine gY (gY (gX (cF (gY (cT (cF (cI q (fun q=>?_) (fun q=>?_))))))))
      ·exact nomatch q
      cases sE q
      refine E4 I2 (R6 (AJ (R2 TV)))
     refine gN (gN (gN (gN (gX (cT (gY (cT (cF (cT (OL ?_))))))))))
     cases sE q
     refine E4 I2 (R3 (AI TV (R2 TV)))
    refine gM (gM (gM (gY (cF (cF (cF ?_))))))
    cases sE q
    refine E4 I2 (R6 (AJ (R2 TV)))
   refine gN (gN (gN (cT (cT (OL ?_)))))
   cases sE q
   refine E4 I2 (R3 (AI TV (R2 TV)))
  rcases z2 with z2a | z2b
  ·dsimp only [Ak] at q
   refine AI (OL (OL (cI q (fun q=>?_) (fun q=>?_)))) TV
   ·refine OL ?_
    obtain ⟨r3,h,q⟩:=bE q
    refine OL (cB H127 (t_L,((((((rd (Ty.z T7) t_L out).2).2).2).2).1,want)) I2 false h rfl (R2 (AI NH (R2 (AJ (AI (R2 TV) ?_))))))
    obtain ⟨z5,hz5,q⟩:=bE q
    let h3:LH:=fun zz=>(0,.cells [(.osl 2)])::zz
    refine OQ ⟨[(0,⟨e0 [(13,.dat T0 z5.1),(14,.dat T0 z5.2.1)],h3 [(2,.arr 176 T7 z5.2.2)],3⟩)],?_,?_⟩
    ·have q:=hz5
     clear hz5
     unfold f90_j3 at q
     refine OL (cI q (fun q=>?_) (fun q=>?_))
     ·obtain ⟨r6,h,q⟩:=bE q
      refine OL (cB H128 (r3.2,(3:Int),out,r3.1,(0:Int)) (iuR [1,5]) false h rfl (R4 (AI NH (R2 (AJ (AI (R2 TV) ?_))))))
      cases sE q
      refine E4 [(0,some 0),(2,some 7)] (R4 (AJ (R2 TV)))
     exact nomatch q
    refine AI ?_ TV
    obtain ⟨z9,hz9,q⟩:=bE q
    refine OQ ⟨[(0,⟨e0 [(13,.dat T0 z9.1),(14,.dat T0 z9.2.1)],h3 [(2,.arr 176 T7 z9.2.2)],3⟩)],?_,?_⟩
    ·have q:=hz9
     clear hz9
     unfold f90_j5 at q
     obtain ⟨z10,hz10,q⟩:=bE q
     refine OQ ⟨[(0,⟨e0 [(13,.dat T0 z5.1),(14,.dat T0 z5.2.1),(102,.dat .bool z10)],h3 [(2,.arr 176 T7 z5.2.2)],3⟩)],?_,?_⟩
     ·have q:=hz10
      clear hz10
      unfold f90_j6 at q
      refine cI q (fun q=>?_) (fun q=>?_)
      ·refine gX (cT ?_)
       cases sE q
       refine E4 [(0,some 0),(2,some 2)] (R5 (AJ (R2 TV)))
      refine gM (cF ?_)
      cases sE q
      refine E4 [(0,some 0),(2,some 2)] (R5 (AJ (R2 TV)))
     refine AI (cI q (fun q=>?_) (fun q=>?_)) TV
     ·obtain ⟨r11,h,q⟩:=bE q
      refine OL (cB H128 (z5.2.2,(4:Int),z5.1,z5.1,(0:Int)) (iuR [1,3]) false h rfl (R4 (AI NH (R2 (AJ (AI (R2 TV) ?_))))))
      cases sE q
      refine E4 [(0,some 0),(2,some 5)] (R4 (AJ (R2 TV)))
     cases sE q
     refine E4 [(0,some 0),(2,some 2)] (R4 (AJ (R2 TV)))
    refine AI ?_ TV
    obtain ⟨z14,hz14,q⟩:=bE q
    refine OQ ⟨[(0,⟨[(0,P0 0 0),(13,.dat T0 z14.1),(14,.dat T0 z14.2.1)],h3 [(2,.arr 176 T7 z14.2.2)],3⟩)],?_,?_⟩
    ·have q:=hz14
     clear hz14
     unfold f90_j8 at q
     obtain ⟨z15,hz15,q⟩:=bE q
     refine OQ ⟨[(0,⟨[(0,P0 0 0),(13,.dat T0 z9.1),(14,.dat T0 z9.2.1),(115,.dat .bool z15)],h3 [(2,.arr 176 T7 z9.2.2)],3⟩)],?_,?_⟩
     ·have q:=hz15
      clear hz15
      unfold f90_j9 at q
      refine cI q (fun q=>?_) (fun q=>?_)
      ·refine gX (cT ?_)
       cases sE q
       refine E4 [(0,some 0),(2,some 2)] (R4 (AJ (R2 TV)))
      refine gM (cF ?_)
      cases sE q
      refine E4 [(0,some 0),(2,some 2)] (R4 (AJ (R2 TV)))
     refine AI (cI q (fun q=>?_) (fun q=>?_)) TV
     ·obtain ⟨r16,hr16,q⟩:=bE q
      have hr16:C128.F (z9.2.2,(11:Int),z9.1,(-1:Int),(4:Int))=some r16:=hr16
      refine OL (cB H128 _ (iuR [1,3]) false hr16 rfl (R4 (AI NH (R2 (AJ (AI (R2 TV) ?_))))))
      cases sE q
      refine E4 [(0,some 0),(2,some 5)] (R3 (AJ (R2 TV)))
     cases sE q
     refine E4 [(0,some 0),(2,some 2)] (R3 (AJ (R2 TV)))
    refine AI ?_ TV
    obtain ⟨z18,hz18,q⟩:=bE q
    refine OQ ⟨[(0,⟨[(13,.dat T0 z18.1),(14,.dat T0 z18.2.1)],h3 [(2,.arr 176 T7 z18.2.2)],3⟩)],?_,?_⟩
    ·have q:=hz18
     clear hz18
     unfold f90_j10 at q
     refine OL (cI q (fun q=>?_) (fun q=>?_))
     ·obtain ⟨r19,hr19,q⟩:=bE q
      have hr19:C128.F (z14.2.2,(10:Int),z14.1,(-1:Int),(0:Int))=some r19:=hr19
      refine OL (cB H128 _ (iuR [1,3]) false hr19 rfl (R4 (AI NH (R2 (AJ (AI (R2 TV) ?_))))))
      cases sE q
      refine E4 [(0,some 0),(2,some 5)] (R3 (AI TV (R2 TV)))
     exact nomatch q
    refine AI (OL (OL (cI q (fun q=>?_) (fun q=>?_)))) TV
    ·exact nomatch q
    cases sE q
    refine OL (AI rfl (E4 [(0,some 0),(2,some 2)] (R3 (AI TV (R2 TV)))))
   exact nomatch q
  dsimp only [Ak] at q
  refine AI ?_ TV
  cases sE q
  refine AI rfl (E4 [(0,some 0),(2,some 1)] (R3 (AI TV (R2 TV))))
 dsimp only [Ak] at q
 refine AI ?_ TV
 cases sE q
 refine AI rfl (E4 [(0,some 0),(2,some 1)] (R3 (AI TV (R2 TV))))
theorem H90:HI C90 90:=hI Tryz.f90 rfl fun x=>V90 x.1 x.2.1 x.2.2.1 x.2.2.2.1 x.2.2.2.2
def f203_j3 (a:Al) (d:LI):Option Bool:=
 Ac (f156 (a.1,a.2)) fun r9=>
 bif (!r9) then
 some true
 else
 Ac (f195 d) fun r10=>
 some (!r10)
def f203_j2 (a:Al) (d:LI):Option (Sum Unit Unit):=
 Ac (f203_j3 a d) fun z8=>
 bif z8 then
 some (Sum.inr ())
 else
 some (Sum.inl ())
def f203_j6 (a:Al) (r11:Bc):Option Bool:=
 bif (r11.1 != 0) then
 some true
 else
 Ac (f88 r11.2 a.1) fun r18=>
 some (!r18)
def f203_j5 (a:Al) (r11:Bc):Option (Sum Unit Unit):=
 Ac (f203_j6 a r11) fun z17=>
 bif z17 then
 some (Sum.inr ())
 else
 some (Sum.inl ())
def f203_l7 (a:Al) (d:LI) (go:Bc→Option LI) (i:Int) (l4:LI):Option LI:=
 bif (decide (i<a.2.length)) then
 Ac (f173 d a.1 i) fun r23=>
 Ad (0≤r23.1∧r23.1<l4.length)<|
 Ad (0≤i∧i<a.2.length)<|
 Ac (f60 (rd 0 l4 r23.1) (rd 0 a.2 i)) fun q11_13=>
 Ad (0≤r23.1∧r23.1<l4.length)<|
 go ((i64.wrap (i+1)),(List.set l4 (Int.toNat r23.1) q11_13))
 else
 some l4
def f203 (a:Al) (d:LI):Option Bl:=
 Ac (f203_j2 a d) fun z5=>
 Ak z5 (fun z5a=>
 Ac (f172 d a.1) fun r11=>
 Ac (f203_j5 a r11) fun z15=>
 Ak z15 (fun z15a=>
 Ac (f129 d (0:Int)) fun r19=>
 Ac (Ag (fun go x=>f203_l7 a d go x.1 x.2) Ah ((0:Int),r19.2)) fun z22=>
 some ((0:Int),r19.1,z22)) (fun z15b=>
 some ((4:Int),[],[]))) (fun z5b=>
 some ((1:Int),[],[]))
def C203:Con:=⟨Al×LI,Bl,0,fun x=>[.dat T8 x.1,.dat T5 x.2],NX,fun x=>f203 x.1 x.2,fun y=>[.raw true [(.osl 0),(.osl 1)],.dat T0 y.1],fun y=>[(0,.arr 3 T0 y.2.1),(1,.arr 26 T0 y.2.2)],2⟩
theorem V203 a d y (q:f203 a d=some y):VC Tryz.f203 C203 (a,d) y:=by
 unfold f203 at q
 refine OL ?_
 obtain ⟨z5,hz5,q⟩:=bE q
 let e0:LE:=fun zz=>(1,.dat T5 d)::(2,P0 0 0)::(4,P0 1 0)::zz
 let h1:LH:=fun zz=>(0,.cells [(.d T5 a.1),(.d T5 a.2)])::(1,.cells [N0,N0])::zz
 refine OQ ⟨Sum.elim (fun z5a=>[(0,⟨e0 [],h1 [],2⟩)]) (fun z5b=>[(1,⟨[(4,P0 0 0),(5,D0 1)],[(0,.cells [N0,N0])],1⟩)]) z5,?_,?_⟩
 ·have q:=hz5
  clear hz5
  unfold f203_j2 at q
  obtain ⟨z8,hz8,q⟩:=bE q
  refine OQ ⟨[(0,⟨e0 [(19,.dat .bool z8)],h1 [],2⟩)],?_,?_⟩
  ·have q:=hz8
   clear hz8
   unfold f203_j3 at q
   obtain ⟨r9,h,q⟩:=bE q
   refine OL (cA H156 (a.1,a.2) h rfl (R2 (K0 (cN q (fun q=>?_) (fun q=>?_)))))
   ·refine gY ?_
    obtain ⟨r10,h,q⟩:=bE q
    refine OL (cA H195 d h rfl (AI rfl (K0 (gY (cF ?_)))))
    cases sE q
    refine E4 I2 (R3 (AI (R2 TV) (R2 TV)))
   refine gN (gN (cT ?_))
   cases sE q
   refine E4 I2 (R3 (AI (R2 TV) (R2 TV)))
  refine AI (cI q (fun q=>?_) (fun q=>?_)) TV
  ·refine OL (OL ?_)
   cases sE q
   refine E4 (iuR [2]) (R2 (AJ (AI rfl TV)))
  cases sE q
  refine E4 I2 (R2 (AI (R2 TV) (R2 TV)))
 rcases z5 with z5a | z5b
 ·dsimp only [Ak] at q
  refine AI (OL ?_) TV
  obtain ⟨r11,h,q⟩:=bE q
  refine OL (cA H172 (d,a.1) h rfl (R2 (K0 ?_)))
  obtain ⟨z15,hz15,q⟩:=bE q
  refine OQ ⟨Sum.elim (fun z15a=>[(0,⟨e0 [],h1 [],2⟩)]) (fun z15b=>[(1,⟨[(4,P0 0 0),(5,D0 4)],[(0,.cells [N0,N0])],1⟩)]) z15,?_,?_⟩
  ·have q:=hz15
   clear hz15
   unfold f203_j5 at q
   obtain ⟨z17,hz17,q⟩:=bE q
   refine OQ ⟨[(0,⟨e0 [(36,.dat .bool z17)],h1 [],2⟩)],?_,?_⟩
   ·have q:=hz17
    clear hz17
    unfold f203_j6 at q
    refine cN q (fun q=>?_) (fun q=>?_)
    ·refine gY (gY (gY ?_))
     obtain ⟨r18,h,q⟩:=bE q
     refine OL (cD H88 (r11.2,a.1) h rfl (R2 (AI (fun _=>rfl) (R2 (AI TV (AI TV (gY (cF ?_))))))))
     cases sE q
     refine E4 I2 (R3 (AI (R2 TV) (R2 TV)))
    refine gN (gN (gN (gN (cT ?_))))
    cases sE q
    refine E4 I2 (R3 (AI (R2 TV) (R2 TV)))
   refine AI (cI q (fun q=>?_) (fun q=>?_)) TV
   ·refine OL (OL ?_)
    cases sE q
    refine E4 (iuR [2]) (R2 (AJ (AI rfl TV)))
   cases sE q
   refine E4 I2 (R2 (AI (R2 TV) (R2 TV)))
  rcases z15 with z15a | z15b
  ·dsimp only [Ak] at q
   refine AI (OL ?_) TV
   obtain ⟨r19,h,q⟩:=bE q
   refine OL (cA H129 (d,(0:Int)) h rfl (R2 (K0 (OL (OL (OL ?_))))))
   obtain ⟨z22,h,q⟩:=bE q
   refine lJ h (fun x=>⟨e0 [(8,P0 2 0),(9,.dat T0 x.1)],h1 [(2,.cells [(.osl 3),(.osl 4)]),(3,.arr 3 T0 r19.1),(4,.arr 26 T0 x.2)],5⟩) (fun z=>[(2,⟨[(4,P0 0 0),(8,P0 1 0)],[(0,.cells [N0,N0]),(1,.cells [(.osl 2),(.osl 3)]),(2,.arr 3 T0 r19.1),(3,.arr 26 T0 z)],4⟩)]) (E4 (iuR [1,2,5,3,4]) (R3 (AI (R3 TV) (R5 TV)))) (fun m=>An (fun i=>fun l4 z q=>?_)) ?_
   ·have q:f203_l7 a d _ i l4=some z:=q
    unfold f203_l7 at q
    refine OL (OL (cI q (fun q=>?_) (fun q=>?_)))
    ·refine OL (OL ?_)
     obtain ⟨r23,h,q⟩:=bE q
     refine OL (cA H173 (d,a.1,i) h rfl (R3 (K0 (EI (tU 0 13 (.alt 13 (.take 14 (.alt 15 .done .done)) .done)) (EI [(15,[4])] (EI [] (AI rfl (gI q (fun q=>?_)))))))))
     refine gI q (fun q=>?_)
     refine AI TV ?_
     obtain ⟨q11_13,h,q⟩:=bE q
     refine OL (cA H60 ((rd 0 l4 r23.1),(rd 0 a.2 i)) h rfl (R2 (K0 (gI q (fun q=>?_)))))
     refine AI TV (OL (EI ((i64.wrap (i+1)),(List.set l4 (Int.toNat r23.1) q11_13)) (AI q (E4 I5 (R3 (AI (R3 TV) (R5 TV)))))))
    cases sE q
    refine E4 (iuR [2,3,4,5]) (AI rfl (AI (R2 TV) (R4 TV)))
   refine AI (OL (OL ?_)) TV
   cases sE q
   refine AI rfl (E4 (iuR [3,4]) (R2 (AJ (R2 TV))))
  dsimp only [Ak] at q
  refine AI ?_ TV
  cases sE q
  refine AI rfl (E4 (iuR [0,0]) (R2 (AJ (R2 TV))))
 dsimp only [Ak] at q
 refine AI ?_ TV
 cases sE q
 refine AI rfl (E4 (iuR [0,0]) (R2 (AJ (R2 TV))))
theorem H203:HI C203 203:=hI Tryz.f203 rfl fun x=>V203 x.1 x.2
def f161 (g:Al) (d:LI):Option Al:=
 Ac (f203 (g.1,g.2) d) fun r1=>
 some (r1.2.1,r1.2.2)
def C161:Con:=⟨Al×LI,Al,0,fun x=>[.dat T8 x.1,.dat T5 x.2],NX,fun x=>f161 x.1 x.2,fun y=>[.raw true [(.osl 0),(.osl 1)]],fun y=>[(0,.arr 3 T0 y.1),(1,.arr 26 T0 y.2)],2⟩
theorem V161 g d y (q:f161 g d=some y):VC Tryz.f161 C161 (g,d) y:=by
 unfold f161 at q
 refine OL (OL ?_)
 obtain ⟨r1,h,q⟩:=bE q
 refine OL (cA H203 ((g.1,g.2),d) h rfl (R3 (K0 (OL (OL (OL ?_))))))
 cases sE q
 refine AI rfl (E4 (iuR [3,4]) (AI rfl (AJ (R2 TV))))
theorem H161:HI C161 161:=hI Tryz.f161 rfl fun x=>V161 x.1 x.2
def f162_l1 (a:Al) (k:Int) (go:Bc→Option LI) (i:Int) (l4:LI):Option LI:=
 bif (decide (i<l4.length)) then
 Ad (0≤i∧i<a.2.length)<|
 Ac (f61 (rd 0 a.2 i) k) fun q7_9=>
 Ad (0≤i∧i<l4.length)<|
 go ((i64.wrap (i+1)),(List.set l4 (Int.toNat i) q7_9))
 else
 some l4
def f162 (a:Al) (k:Int):Option Al:=
 Ac (f156 (a.1,a.2)) fun q7_11=>
 bif (!q7_11) then
 none
 else
 Ac (f129 a.1 (0:Int)) fun r1=>
 Ac (Ag (fun go x=>f162_l1 a k go x.1 x.2) Ah ((0:Int),r1.2)) fun z2=>
 some (r1.1,z2)
def C162:Con:=⟨Al×Int,Al,0,fun x=>[.dat T8 x.1,.dat T0 x.2],NX,fun x=>f162 x.1 x.2,fun y=>[.raw true [(.osl 0),(.osl 1)],D0 0],fun y=>[(0,.arr 3 T0 y.1),(1,.arr 26 T0 y.2)],2⟩
theorem V162 a k y (q:f162 a k=some y):VC Tryz.f162 C162 (a,k) y:=by
 unfold f162 at q
 refine OL (OL (OL ?_))
 obtain ⟨q7_11,h,q⟩:=bE q
 refine OL (cA H156 (a.1,a.2) h rfl (R2 (K0 (cI q (fun q=>?_) (fun q=>?_)))))
 ·exact nomatch q
 refine OL ?_
 obtain ⟨r1,h,q⟩:=bE q
 refine OL (cA H129 (a.1,(0:Int)) h rfl (R2 (K0 (OL (OL (OL ?_))))))
 obtain ⟨z2,h,q⟩:=bE q
 refine lJ h (fun x=>⟨[(1,.dat T0 k),(2,P0 0 0),(4,P0 1 0),(6,P0 2 0),(7,.dat T0 x.1)],[(0,.cells [(.d T5 a.1),(.d T5 a.2)]),(1,.cells [N0,N0]),(2,.cells [(.osl 3),(.osl 4)]),(3,.arr 3 T0 r1.1),(4,.arr 26 T0 x.2)],5⟩) (fun z=>[(2,⟨[(4,P0 0 0),(6,P0 1 0)],[(0,.cells [N0,N0]),(1,.cells [(.osl 2),(.osl 3)]),(2,.arr 3 T0 r1.1),(3,.arr 26 T0 z)],4⟩)]) (E4 (iuR [1,2,5,3,4]) (R3 (AI (R3 TV) (R5 TV)))) (fun m=>An (fun i=>fun l4 z q=>?_)) ?_
 ·have q:f162_l1 a k _ i l4=some z:=q
  unfold f162_l1 at q
  refine OL (OL (cI q (fun q=>?_) (fun q=>?_)))
  ·refine OL (EI (tU 0 9 (.alt 9 (.take 10 (.alt 11 .done .done)) .done)) (EI [] (EI [] (AI rfl (gI q (fun q=>?_))))))
   refine AI TV ?_
   obtain ⟨q7_9,h,q⟩:=bE q
   refine OL (cA H61 ((rd 0 a.2 i),k) h rfl (R2 (K0 (gI q (fun q=>?_)))))
   refine AI TV (OL (EI ((i64.wrap (i+1)),(List.set l4 (Int.toNat i) q7_9)) (AI q (E4 I5 (R3 (AI (R3 TV) (R5 TV)))))))
  cases sE q
  refine E4 (iuR [2,3,4,5]) (AI rfl (AI (R2 TV) (R4 TV)))
 refine AI (OL (OL ?_)) TV
 cases sE q
 refine AI rfl (E4 (iuR [3,4]) (R2 (AJ (R2 TV))))
theorem H162:HI C162 162:=hI Tryz.f162 rfl fun x=>V162 x.1 x.2
end Go.Proofs
