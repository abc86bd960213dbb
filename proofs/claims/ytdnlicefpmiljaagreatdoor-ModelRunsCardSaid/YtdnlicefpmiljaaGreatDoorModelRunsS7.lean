import Derived.Test.YtdnlicefpmiljaaGreatDoorModelRunsS6
set_option linter.unusedVariables false
set_option maxRecDepth 100000
set_option maxHeartbeats 8000000
namespace Go.Proofs
open Go.AM
open IntKind (i64 u64 i32 u32 i16 u16 i8 u8)
def f74_j4 (op:Int):Option Bool:=
 bif (op==2) then
 some (op==2)
 else
 bif (op==3) then
 some (op==3)
 else
 some (op==4)
def f74_j5 (a:Fy) (k:Int):Option Gz:=
 Ey (f98 k) fun q23_2=>
 Ey (f103 (a.1,a.2) q23_2) fun q23_3=>
 some (q23_3.1,q23_3.2.1,q23_3.2.2.1)
def f74_j3 (op:Int) (a b:Fy) (k:Int):Option (Sum Unit Gz):=
 Ey (f74_j4 op) fun z11=>
 bif z11 then
 Ey (f30 (i64.wrap (op-2)) (a.1,a.2) (b.1,b.2)) fun q23_11=>
 some (Sum.inr (q23_11.1,q23_11.2.1,q23_11.2.2))
 else
 bif (op==5) then
 Ey (f94 (a.1,a.2) k) fun r12=>
 some (Sum.inr (r12.1,r12.2.1,r12.2.2))
 else
 bif (op==6) then
 Ey (f95 (a.1,a.2) (b.1,b.2)) fun r13=>
 some (Sum.inr (r13.1,r13.2.1,r13.2.2))
 else
 bif (op==7) then
 Ey (f96 (a.1,a.2)) fun r14=>
 some (Sum.inr (r14.1,r14.2.1,r14.2.2))
 else
 bif (op==8) then
 Ey (f98 k) fun q13_2=>
 Ey (f97 (a.1,a.2) q13_2) fun q13_3=>
 some (Sum.inr (q13_3.1,q13_3.2.1,q13_3.2.2))
 else
 bif (op==9) then
 Ey (f100 (a.1,a.2)) fun q13_7=>
 Ey (f99 q13_7) fun r15=>
 some (Sum.inr ((0:Int),r15.1,r15.2))
 else
 bif (op==10) then
 Ey (f101 (a.1,a.2)) fun r16=>
 Ey (f99 r16) fun r17=>
 some (Sum.inr ((0:Int),r17.1,r17.2))
 else
 bif (op==11) then
 Ey (f98 k) fun q19_1=>
 Ey (f29 q19_1 (a.1,a.2)) fun q19_3=>
 some (Sum.inr (q19_3.1,q19_3.2.1,q19_3.2.2))
 else
 bif (op==12) then
 Ey (f98 k) fun q21_3=>
 Ey (f102 (a.1,a.2) (b.1,b.2) q21_3) fun q21_4=>
 some (Sum.inr (q21_4.1,q21_4.2.1,q21_4.2.2))
 else
 bif (op==13) then
 Ey (f74_j5 a k) fun z18=>
 some (Sum.inr (z18.1,z18.2.1,z18.2.2))
 else
 some (Sum.inl ())
def f74 (op:Int) (a b:Fy) (k:Int):Option Gz:=
 Ey (f74_j3 op a b k) fun z10=>
 Fx z10 (fun z10a=>
 Ey (f104 (a.1,a.2) ([(a.2.length:Int)])) fun r19=>
 some (r19.1,r19.2.1,r19.2.2)) (fun z10b=>
 some (z10b.1,z10b.2.1,z10b.2.2))
def C74:Con:=⟨Int×Fy×Fy×Int,Gz,0,fun x=>[.dat T1 x.1,.dat T9 x.2.1,.dat T9 x.2.2.1,.dat T1 x.2.2.2],NX,fun x=>f74 x.1 x.2.1 x.2.2.1 x.2.2.2,fun y=>[.raw true [(.osl 0),(.osl 1)],.dat T1 y.1],fun y=>[(0,.arr 3 T1 y.2.1),(1,.arr 57 T1 y.2.2)],2⟩
theorem V74 op a b k y (q:f74 op a b k=some y):VC Tryz.f74 C74 (op,a,b,k) y:=by
 unfold f74 at q
 refine OL ?_
 obtain ⟨z10,hz10,q⟩:=bE q
 refine OQ ⟨Sum.elim (fun z10a=>[(0,⟨[(5,P0 0 0),(8,P0 1 0)],[(0,.cells [(.d T6 a.1),(.d T6 a.2)]),(1,.cells [N0,N0])],2⟩)]) (fun z10b=>[(1,⟨[(8,P0 0 0),(9,.dat T1 z10b.1)],[(0,.cells [(.osl 1),(.osl 2)]),(1,.arr 3 T1 z10b.2.1),(2,.arr 57 T1 z10b.2.2)],3⟩)]) z10,?_,?_⟩
 ·have q:=hz10
  clear hz10
  unfold f74_j3 at q
  refine OL ?_
  obtain ⟨z11,hz11,q⟩:=bE q
  refine OQ ⟨[(0,⟨[(0,.dat T1 op),(3,.dat T1 k),(5,P0 0 0),(6,P0 1 0),(8,P0 2 0),(13,.dat T1 op),(14,.dat .bool z11)],[(0,.cells [(.d T6 a.1),(.d T6 a.2)]),(1,.cells [(.d T6 b.1),(.d T6 b.2)]),(2,.cells [N0,N0])],3⟩)],?_,?_⟩
  ·have q:=hz11
   clear hz11
   unfold f74_j4 at q
   refine OL (cI q (fun q=>?_) (fun q=>?_))
   ·cases sE q
    refine E4 I3 (R5 (AI (R3 TV) (R3 TV)))
   refine OL (cI q (fun q=>?_) (fun q=>?_))
   ·cases sE q
    refine E4 I3 (R5 (AI (R3 TV) (R3 TV)))
   cases sE q
   refine E4 I3 (R5 (AI (R3 TV) (R3 TV)))
  refine AI (cI q (fun q=>?_) (fun q=>?_)) TV
  ·refine OL ?_
   obtain ⟨q23_11,h,q⟩:=bE q
   refine OL (cA H30 ((i64.wrap (op-2)),(a.1,a.2),(b.1,b.2)) h rfl (R5 (K0 (OL ?_))))
   cases sE q
   refine E4 (iuR [3,4,5]) (R2 (AJ (R3 TV)))
  refine OL (cI q (fun q=>?_) (fun q=>?_))
  ·refine OL ?_
   obtain ⟨r12,h,q⟩:=bE q
   refine OL (cA H94 ((a.1,a.2),k) h rfl (R3 (K0 (OL ?_))))
   cases sE q
   refine E4 (iuR [3,4,5]) (R2 (AJ (R3 TV)))
  refine OL (cI q (fun q=>?_) (fun q=>?_))
  ·refine OL ?_
   obtain ⟨r13,h,q⟩:=bE q
   refine OL (cA H95 ((a.1,a.2),(b.1,b.2)) h rfl (R4 (K0 (OL ?_))))
   cases sE q
   refine E4 (iuR [3,4,5]) (R2 (AJ (R3 TV)))
  refine OL (cI q (fun q=>?_) (fun q=>?_))
  ·refine OL ?_
   obtain ⟨r14,h,q⟩:=bE q
   refine OL (cA H96 (a.1,a.2) h rfl (R2 (K0 (OL ?_))))
   cases sE q
   refine E4 (iuR [3,4,5]) (R2 (AJ (R3 TV)))
  refine OL (cI q (fun q=>?_) (fun q=>?_))
  ·refine OL (EI (.take 0 (.take 1 (.alt 2 (.alt 3 (.take 4 (.take 5 (.alt 6 (.take 7 .done) .done))) .done) .done))) (EI [] (EI [] (AI rfl (AI TV ?_)))))
   obtain ⟨q13_2,h,q⟩:=bE q
   refine OL (cA H98 k h rfl (AI rfl (K0 (AI TV ?_))))
   obtain ⟨q13_3,h,q⟩:=bE q
   refine OL (cA H97 ((a.1,a.2),q13_2) h rfl (R3 (K0 (AI TV (OL ?_)))))
   cases sE q
   refine E4 (iuR [3,4,5]) (R2 (AJ (R3 TV)))
  refine OL (cI q (fun q=>?_) (fun q=>?_))
  ·refine OL ?_
   obtain ⟨q13_7,h,q⟩:=bE q
   refine OL (cA H100 (a.1,a.2) h rfl (R2 (K0 ?_)))
   obtain ⟨r15,h,q⟩:=bE q
   refine OL (cA H99 q13_7 h rfl (AI rfl (K0 (OL ?_))))
   cases sE q
   refine E4 (iuR [3,4,5]) (R2 (AJ (R3 TV)))
  refine OL (cI q (fun q=>?_) (fun q=>?_))
  ·refine OL ?_
   obtain ⟨r16,h,q⟩:=bE q
   refine OL (cA H101 (a.1,a.2) h rfl (R2 (K0 ?_)))
   obtain ⟨r17,h,q⟩:=bE q
   refine OL (cA H99 r16 h rfl (AI rfl (K0 (OL ?_))))
   cases sE q
   refine E4 (iuR [3,4,5]) (R2 (AJ (R3 TV)))
  refine OL (cI q (fun q=>?_) (fun q=>?_))
  ·refine OL (EI (.take 0 (.take 2 (.alt 1 (.alt 3 (.take 4 (.take 5 (.alt 6 (.take 7 .done) .done))) .done) .done))) (EI [] (EI [] (AI rfl (AI TV ?_)))))
   obtain ⟨q19_1,h,q⟩:=bE q
   refine OL (cA H98 k h rfl (AI rfl (K0 (AI TV ?_))))
   obtain ⟨q19_3,h,q⟩:=bE q
   refine OL (cA H29 (q19_1,(a.1,a.2)) h rfl (R3 (K0 (AI TV (OL ?_)))))
   cases sE q
   refine E4 (iuR [3,4,5]) (R2 (AJ (R3 TV)))
  refine OL (cI q (fun q=>?_) (fun q=>?_))
  ·refine OL (EI (tU 0 3 (.alt 3 (.alt 4 (.take 5 (.take 6 (.alt 7 (.take 8 .done) .done))) .done) .done)) (EI [] (EI [] (AI rfl (AI TV ?_)))))
   obtain ⟨q21_3,h,q⟩:=bE q
   refine OL (cA H98 k h rfl (AI rfl (K0 (AI TV ?_))))
   obtain ⟨q21_4,h,q⟩:=bE q
   refine OL (cA H102 ((a.1,a.2),(b.1,b.2),q21_3) h rfl (R5 (K0 (AI TV (OL ?_)))))
   cases sE q
   refine E4 (iuR [3,4,5]) (R2 (AJ (R3 TV)))
  refine OL (cI q (fun q=>?_) (fun q=>?_))
  ·obtain ⟨z18,hz18,q⟩:=bE q
   refine OQ ⟨[(0,⟨[(8,P0 0 0),(10,P0 1 0),(12,.dat T1 z18.1)],[(0,.cells [N0,N0]),(1,.cells [(.osl 2),(.osl 3)]),(2,.arr 3 T1 z18.2.1),(3,.arr 57 T1 z18.2.2)],4⟩)],?_,?_⟩
   ·have q:=hz18
    clear hz18
    unfold f74_j5 at q
    obtain ⟨q23_2,hq23_2,q⟩:=bE q
    obtain ⟨q23_3,hq23_3,q⟩:=bE q
    refine EI (.take 0 (.take 1 (.alt 2 (.alt 3 (tU 4 4 (.alt 8 (.alt 9 (.take 10 (.take 11 .done)) .done) .done)) (.alt 8 (.alt 3 (tU 4 4 (.alt 9 (.take 10 (.take 11 .done)) .done)) .done) .done)) (.alt 8 (.alt 2 (.alt 3 (tU 4 4 (.alt 9 (.take 10 (.take 11 .done)) .done)) .done) .done) .done)))) (EI [] (EI [] (AI rfl (AI (AI TV ?_) ?_))))
    ·refine AI TV (OL (cA H98 k hq23_2 rfl (AI rfl (K0 (AI TV (OL (cA H103 ((a.1,a.2),q23_2) hq23_3 rfl (R3 (K0 (AI TV (OL ?_)))))))))))
     cases sE q
     refine E4 (iuR [3,4,5,6]) (R2 (AI (R2 TV) (R4 TV)))
    refine OL (cA H98 k hq23_2 rfl (AI rfl (K0 (AI (AI TV ?_) ?_))))
    ·refine AI TV (OL (cA H103 ((a.1,a.2),q23_2) hq23_3 rfl (R3 (K0 (AI TV (OL ?_))))))
     cases sE q
     refine E4 (iuR [3,4,5,6]) (R2 (AI (R2 TV) (R4 TV)))
    refine OL (cA H103 ((a.1,a.2),q23_2) hq23_3 rfl (R3 (K0 (AI TV (AI TV (OL ?_))))))
    cases sE q
    refine E4 (iuR [3,7,4,5]) (R2 (AI (R2 TV) (R4 TV)))
   refine AI (OL (OL ?_)) TV
   cases sE q
   refine E4 (iuR [1,3,4]) (R2 (AJ (R3 TV)))
  cases sE q
  refine E4 (iuR [1,3]) (AI rfl (AI (R2 TV) (R2 TV)))
 rcases z10 with z10a | z10b
 ·dsimp only [Fx] at q
  refine AI (OL (OL ?_)) TV
  obtain ⟨r19,h,q⟩:=bE q
  refine OL (cD H104 ((a.1,a.2),[(a.2.length:Int)]) h rfl (R3 (AI (fun _=>rfl) (R2 (AI TV (AI TV (OL ?_)))))))
  cases sE q
  refine AI rfl (E4 (iuR [4,5]) (R2 (AJ (R2 TV))))
 dsimp only [Fx] at q
 refine AI ?_ TV
 cases sE q
 refine AI rfl (E4 (iuR [2,3]) (R2 (AJ (R2 TV))))
theorem H74:HI C74 74:=hI Tryz.f74 rfl fun x=>V74 x.1 x.2.1 x.2.2.1 x.2.2.2
def f47_j1 (t_L:NL) (op a b:Int):Option (Sum Unit Unit):=
 bif (decide (op<2)) then
 some (Sum.inr ())
 else
 bif (decide (op>14)) then
 some (Sum.inr ())
 else
 bif (decide (a<0)) then
 some (Sum.inr ())
 else
 bif (decide (a≥t_L.length)) then
 some (Sum.inr ())
 else
 Ey (f72 op) fun r3=>
 bif r3 then
 bif (decide (b<0)) then
 some (Sum.inr ())
 else
 bif (decide (b≥t_L.length)) then
 some (Sum.inr ())
 else
 some (Sum.inl ())
 else
 some (Sum.inl ())
def f47_j2 (t_L:NL) (op b:Int):Option Gz:=
 Ey (f72 op) fun r6=>
 bif r6 then
 E9 (0≤b∧b<t_L.length)<|
 some (b,(((((rd (Ty.z T8) t_L b).2).2).2).2).1,(((((rd (Ty.z T8) t_L b).2).2).2).2).2)
 else
 some ((-1:Int),[],[])
def f47_j3 (op k:Int):Option Int:=
 Ey (f73 op) fun r9=>
 bif r9 then
 some k
 else
 some (0:Int)
def f47_j4 (t_L:NL) (op a:Int) (z5:Gz) (z8:Int):Option Gz:=
 E9 (0≤a∧a<t_L.length)<|
 Ey (f74 op ((((((rd (Ty.z T8) t_L a).2).2).2).2).1,(((((rd (Ty.z T8) t_L a).2).2).2).2).2) (z5.2.1,z5.2.2) z8) fun q12_12=>
 some (q12_12.1,q12_12.2.1,q12_12.2.2)
def f47 (t_L:NL) (op a b k:Int):Option PTz8:=
 bif (decide ((t_L.length:Int)≥512)) then
 some ((0:Int),(2:Int),t_L)
 else
 Ey (f47_j1 t_L op a b) fun z2=>
 Fx z2 (fun z2a=>
 Ey (f47_j2 t_L op b) fun z5=>
 Ey (f47_j3 op k) fun z8=>
 Ey (f47_j4 t_L op a z5 z8) fun z10=>
 bif (z10.1 != 0) then
 some ((0:Int),z10.1,t_L)
 else
 E9 ((t_L.length+List.length ([(op,a,z5.1,z8,z10.2.1,z10.2.2)]))*80≤140737488355328)<|
 some ((i64.wrap ((List.length (t_L++([(op,a,z5.1,z8,z10.2.1,z10.2.2)])):Int)-1)),(0:Int),(t_L++([(op,a,z5.1,z8,z10.2.1,z10.2.2)])))) (fun z2b=>
 some ((0:Int),(1:Int),t_L))
def C47:Con:=⟨NL×PTz1,PTz8,2,fun x=>[P0 0 0,.dat T1 x.2.1,.dat T1 x.2.2.1,.dat T1 x.2.2.2.1,.dat T1 x.2.2.2.2],fun x=>[(0,.cells [(.osl 1)]),(1,.arr 64 T8 x.1)],fun x=>f47 x.1 x.2.1 x.2.2.1 x.2.2.2.1 x.2.2.2.2,fun y=>[.dat T1 y.1,.dat T1 y.2.1],fun y=>[(0,.cells [(.osl 2)]),(2,.arr 64 T8 y.2.2)],3⟩
theorem V47 t_L op a b k y (q:f47 t_L op a b k=some y):VE Tryz.f47 2 C47 (t_L,op,a,b,k) y:=by
 unfold f47 at q
 refine OL (OL (OL (cI q (fun q=>?_) (fun q=>?_))))
 ·cases sE q
  refine OL (AI rfl (E4 [(0,some 0),(2,some 1)] (R3 (AI TV (R2 TV)))))
 obtain ⟨z2,hz2,q⟩:=bE q
 let e0:LE:=fun zz=>(0,P0 0 0)::(1,.dat T1 op)::(2,.dat T1 a)::zz
 let h1:LH:=fun zz=>(0,.cells [(.osl 1)])::(1,.arr 64 T8 t_L)::zz
 refine OQ ⟨Sum.elim (fun z2a=>[(0,⟨e0 [(3,.dat T1 b),(4,.dat T1 k)],h1 [],2⟩)]) (fun z2b=>[(1,⟨[(10,D0 0),(11,D0 1)],h1 [],2⟩)]) z2,?_,?_⟩
 ·have q:=hz2
  clear hz2
  unfold f47_j1 at q
  refine OL (cN q (fun q=>?_) (fun q=>?_))
  ·refine gY (cF (cN q (fun q=>?_) (fun q=>?_)))
   ·refine gY (cF (cN q (fun q=>?_) (fun q=>?_)))
    ·refine gY (gY (gY (gY (gY (gY (cF (cN q (fun q=>?_) (fun q=>?_))))))))
     ·refine gY ?_
      obtain ⟨r3,h,q⟩:=bE q
      refine OL (cA H72 op h rfl (AI rfl (K0 (gY (cI q (fun q=>?_) (fun q=>?_))))))
      ·refine gX (gX (cN q (fun q=>?_) (fun q=>?_)))
       ·refine gY (gY (gY (gY (gY (gY (gX (cF (gY (cT (cF (cI q (fun q=>?_) (fun q=>?_))))))))))))
        ·cases sE q
         refine OL (E4 I2 (R3 (AI TV (R2 TV))))
        cases sE q
        refine E4 I2 (R5 (AJ (R2 TV)))
       refine gN (gN (gN (gN (gN (gN (gX (cT (gY (cT (cF (cT (OL ?_))))))))))))
       cases sE q
       refine E4 I2 (R3 (AI TV (R2 TV)))
      refine gM (gM (gM (gY (cF (cF (cF ?_))))))
      cases sE q
      refine E4 I2 (R5 (AJ (R2 TV)))
     refine gN (gN (gN (cT (cT (OL ?_)))))
     cases sE q
     refine E4 I2 (R3 (AI TV (R2 TV)))
    refine gN (gN (gN (gN (gN (gN (cT (gN (gN (gN (gN (cT (cT (OL ?_)))))))))))))
    cases sE q
    refine E4 I2 (R3 (AI TV (R2 TV)))
   refine gN (cT (gN (gN (gN (gN (gN (gN (gN (cT (gN (gN (gN (gN (cT (cT (OL ?_))))))))))))))))
   cases sE q
   refine E4 I2 (R3 (AI TV (R2 TV)))
  refine gN (cT (gN (gN (cT (gN (gN (gN (gN (gN (gN (gN (cT (gN (gN (gN (gN (cT (cT (OL ?_)))))))))))))))))))
  cases sE q
  refine E4 I2 (R3 (AI TV (R2 TV)))
 rcases z2 with z2a | z2b
 ·dsimp only [Fx] at q
  refine AI (OL (OL (OL (OL ?_)))) TV
  obtain ⟨z5,hz5,q⟩:=bE q
  refine OQ ⟨[(0,⟨e0 [(4,.dat T1 k),(12,P0 2 0),(13,P0 3 0)],h1 [(2,.cells [(.d T1 op),(.d T1 a),(.d T1 z5.1),(.d T1 (0:Int)),N0,N0]),(3,.cells [(.d T6 z5.2.1),(.d T6 z5.2.2)])],4⟩)],?_,?_⟩
  ·have q:=hz5
   clear hz5
   unfold f47_j2 at q
   refine OL ?_
   obtain ⟨r6,h,q⟩:=bE q
   refine OL (cA H72 op h rfl (AI rfl (K0 (cI q (fun q=>?_) (fun q=>?_)))))
   ·refine OL (OL (gI q (fun q=>?_)))
    cases sE q
    refine OL (E4 I4 (R4 (AI (R3 TV) (R4 TV))))
   cases sE q
   refine EI [] (EI [] (EI [(3,0,T1),(3,1,T1)] (EI [] (EI I4 (R4 (AI (R3 TV) (R4 TV)))))))
  refine AI ?_ TV
  obtain ⟨z8,hz8,q⟩:=bE q
  let h2:LH:=fun zz=>h1 ((2,.cells [(.d T1 op),(.d T1 a),(.d T1 z5.1),(.d T1 z8),N0,N0])::zz)
  refine OQ ⟨[(0,⟨e0 [(12,P0 2 0),(13,P0 3 0)],h2 [(3,.cells [(.d T6 z5.2.1),(.d T6 z5.2.2)])],4⟩)],?_,?_⟩
  ·have q:=hz8
   clear hz8
   unfold f47_j3 at q
   refine OL ?_
   obtain ⟨r9,h,q⟩:=bE q
   refine OL (cA H73 op h rfl (AI rfl (K0 (cI q (fun q=>?_) (fun q=>?_)))))
   ·cases sE q
    refine OL (E4 I4 (R3 (AI (R3 TV) (R4 TV))))
   cases sE q
   refine E4 I4 (R3 (AI (R3 TV) (R4 TV)))
  refine AI ?_ TV
  obtain ⟨z10,hz10,q⟩:=bE q
  refine OQ ⟨[(0,⟨[(0,P0 0 0),(12,P0 2 0),(14,P0 3 0),(15,.dat T1 z10.1)],h2 [(3,.cells [(.osl 4),(.osl 5)]),(4,.arr 3 T1 z10.2.1),(5,.arr 57 T1 z10.2.2)],6⟩)],?_,?_⟩
  ·have q:=hz10
   clear hz10
   unfold f47_j4 at q
   obtain ⟨g12_0,q⟩:=gE q
   obtain ⟨q12_12,hq12_12,q⟩:=bE q
   refine EI (tU 0 12 (.alt 12 (tU 13 3 (.alt 16 (.alt 17 (.take 18 .done) .done) .done)) (.alt 16 (.alt 12 (tU 13 3 (.alt 17 (.take 18 .done) .done)) .done) .done))) (EI [] (EI [] (AI rfl (AI g12_0 (AI (AI TV ?_) ?_)))))
   ·refine AI TV (OL (cA H74 (op,((((((rd (Ty.z T8) t_L a).2).2).2).2).1,(((((rd (Ty.z T8) t_L a).2).2).2).2).2),(z5.2.1,z5.2.2),z8) hq12_12 rfl (R6 (K0 (AI TV (OL ?_))))))
    cases sE q
    refine E4 (iuR [1,2,3,5,6,7]) (R2 (AI (R3 TV) (R6 TV)))
   refine OL (cA H74 (op,((((((rd (Ty.z T8) t_L a).2).2).2).2).1,(((((rd (Ty.z T8) t_L a).2).2).2).2).2),(z5.2.1,z5.2.2),z8) hq12_12 rfl (R6 (K0 (AI TV (AI TV (OL ?_))))))
   cases sE q
   refine E4 (iuR [1,2,3,7,5,6]) (R2 (AI (R3 TV) (R6 TV)))
  refine AI (OL (OL (cI q (fun q=>?_) (fun q=>?_)))) TV
  ·cases sE q
   refine OL (AI rfl (E4 [(0,some 0),(2,some 1)] (R3 (AI TV (R2 TV)))))
  refine OL (OL (OL (EI (tU 0 6 (.alt 6 (.alt 7 (.take 8 (.take 9 (.alt 10 .done .done))) .done) .done)) (EI [(10,[0])] (EI [] (AI rfl (AI TV (OL (AI TV (OL (gI q (fun q=>?_))))))))))))
  refine AI TV (OL (OL ?_))
  cases sE q
  refine AI rfl (E4 [(0,some 0),(2,some 7)] (R3 (AI TV (R2 TV))))
 dsimp only [Fx] at q
 refine AI ?_ TV
 cases sE q
 refine AI rfl (E4 [(0,some 0),(2,some 1)] (R3 (AI TV (R2 TV))))
theorem H47:HI C47 47:=hI Tryz.f47 rfl fun x=>V47 x.1 x.2.1 x.2.2.1 x.2.2.2.1 x.2.2.2.2
def f22_j3 (n:Jd) (p_ x_:LI) (r1:Int×PTz10):Option Bool:=
 bif ((p_.length:Int) != r1.1) then
 some true
 else
 Ey (f40 n.1) fun r8=>
 some ((x_.length:Int) != r8)
def f22_j2 (n:Jd) (p_ x_:LI) (r1:Int×PTz10):Option (Sum Unit Unit):=
 Ey (f22_j3 n p_ x_ r1) fun z7=>
 bif z7 then
 some (Sum.inr ())
 else
 some (Sum.inl ())
def f22_j65 (n:Jd) (p_:LI) (used i r162:Int) (q24_15:PTz8):Option PTz8:=
 bif (q24_15.2.1==0) then
 E9 (0≤(i64.wrap (used+(i64.wrap ((((rd (Ty.z T3) n.2 i).2).1)*r162))))∧(i64.wrap (used+(i64.wrap ((((rd (Ty.z T3) n.2 i).2).1)*r162))))≤(i64.wrap ((i64.wrap (used+(i64.wrap ((((rd (Ty.z T3) n.2 i).2).1)*r162))))+(((rd (Ty.z T3) n.2 i).2).1)))∧(i64.wrap ((i64.wrap (used+(i64.wrap ((((rd (Ty.z T3) n.2 i).2).1)*r162))))+(((rd (Ty.z T3) n.2 i).2).1)))≤p_.length)<|
 Ey (f46 q24_15.2.2 ([((rd (Ty.z T3) n.2 i).2).1],(List.drop (Int.toNat (i64.wrap (used+(i64.wrap ((((rd (Ty.z T3) n.2 i).2).1)*r162))))) (List.take (Int.toNat (i64.wrap ((i64.wrap (used+(i64.wrap ((((rd (Ty.z T3) n.2 i).2).1)*r162))))+(((rd (Ty.z T3) n.2 i).2).1)))) p_)))) fun q26_22=>
 some (q26_22.2.1,q26_22.1,q26_22.2.2)
 else
 some (q24_15.2.1,(0:Int),q24_15.2.2)
def f22_j68 (last:Int) (l4:NL) (z163:PTz8):Option Bool:=
 bif (z163.1==0) then
 some ((List.length ((((((rd (Ty.z T8) l4 last).2).2).2).2).1):Int)==2)
 else
 some false
def f22_j67 (last:Int) (l4:NL) (z163:PTz8):Option PTz8:=
 Ey (f22_j68 last l4 z163) fun z167=>
 bif z167 then
 Ey (f47 z163.2.2 (14:Int) last (-1:Int) (0:Int)) fun r168=>
 some (r168.2.1,r168.1,r168.2.2)
 else
 some (z163.1,last,z163.2.2)
def f22_j69 (q24_15 z166:PTz8):Option PTz8:=
 bif (z166.1==0) then
 Ey (f47 z166.2.2 (4:Int) q24_15.1 z166.2.1 (0:Int)) fun r171=>
 some (r171.2.1,r171.1,r171.2.2)
 else
 some (z166.1,(0:Int),z166.2.2)
def f22_j70 (z170:PTz8):Option PTz8:=
 bif (z170.1==0) then
 Ey (f47 z170.2.2 (8:Int) z170.2.1 (-1:Int) (1:Int)) fun r174=>
 some (r174.2.1,r174.1,r174.2.2)
 else
 some (z170.1,z170.2.1,z170.2.2)
def f22_j71 (z163 z173:PTz8):Option PTz8:=
 bif (z173.1==0) then
 Ey (f47 z173.2.2 (2:Int) z173.2.1 z163.2.1 (0:Int)) fun r177=>
 some (r177.2.1,r177.1,r177.2.2)
 else
 some (z173.1,z173.2.1,z173.2.2)
def f22_j72 (last:Int) (q39_16:PTz8):Option PTz8:=
 bif (q39_16.2.1==0) then
 Ey (f47 q39_16.2.2 (12:Int) last q39_16.1 (1:Int)) fun r179=>
 some (r179.2.1,r179.1,r179.2.2)
 else
 some (q39_16.2.1,(0:Int),q39_16.2.2)
def f22_j64 (n:Jd) (p_:LI) (from_ last used i:Int) (l3:LI) (l4:NL):Option (Int×PTz13):=
 bif (ByteArray.toList ((rd (Ty.z T3) n.2 i).1)==ByteArray.toList (ByteArray.mk #[100,101,110,115,101])) then
 Ey (f40 ((((((rd (Ty.z T8) l4 last).2).2).2).2).1)) fun r162=>
 E9 (0≤used∧used≤(i64.wrap (used+(i64.wrap ((((rd (Ty.z T3) n.2 i).2).1)*r162))))∧(i64.wrap (used+(i64.wrap ((((rd (Ty.z T3) n.2 i).2).1)*r162))))≤p_.length)<|
 Ey (f46 l4 ([((rd (Ty.z T3) n.2 i).2).1,r162],(List.drop (Int.toNat used) (List.take (Int.toNat (i64.wrap (used+(i64.wrap ((((rd (Ty.z T3) n.2 i).2).1)*r162))))) p_)))) fun q24_15=>
 Ey (f22_j65 n p_ used i r162 q24_15) fun z163=>
 Ey (f22_j67 last l4 z163) fun z166=>
 Ey (f22_j69 q24_15 z166) fun z170=>
 Ey (f22_j70 z170) fun z173=>
 Ey (f22_j71 z163 z173) fun z176=>
 E9 ((l3.length+List.length ([q24_15.1,z163.2.1]))*8≤140737488355328)<|
 some (z176.1,(i64.wrap ((i64.wrap (used+(i64.wrap ((((rd (Ty.z T3) n.2 i).2).1)*r162))))+(((rd (Ty.z T3) n.2 i).2).1))),z176.2.1,(l3++([q24_15.1,z163.2.1])),z176.2.2)
 else
 bif (ByteArray.toList ((rd (Ty.z T3) n.2 i).1)==ByteArray.toList (ByteArray.mk #[99,111,110,118])) then
 E9 (0≤(0:Int)∧(0:Int)<(List.length ((((((rd (Ty.z T8) l4 last).2).2).2).2).1):Int))<|
 E9 (0≤(0:Int)∧(0:Int)<(List.length ((((((rd (Ty.z T8) l4 last).2).2).2).2).1):Int))<|
 E9 (0≤used∧used≤(i64.wrap (used+(i64.wrap ((i64.wrap ((((rd (Ty.z T3) n.2 i).2).1)*(rd 0 ((((((rd (Ty.z T8) l4 last).2).2).2).2).1) (0:Int))))*(((rd (Ty.z T3) n.2 i).2).2)))))∧(i64.wrap (used+(i64.wrap ((i64.wrap ((((rd (Ty.z T3) n.2 i).2).1)*(rd 0 ((((((rd (Ty.z T8) l4 last).2).2).2).2).1) (0:Int))))*(((rd (Ty.z T3) n.2 i).2).2)))))≤p_.length)<|
 Ey (f46 l4 ([((rd (Ty.z T3) n.2 i).2).1,(rd 0 ((((((rd (Ty.z T8) l4 last).2).2).2).2).1) (0:Int)),((rd (Ty.z T3) n.2 i).2).2],(List.drop (Int.toNat used) (List.take (Int.toNat (i64.wrap (used+(i64.wrap ((i64.wrap ((((rd (Ty.z T3) n.2 i).2).1)*(rd 0 ((((((rd (Ty.z T8) l4 last).2).2).2).2).1) (0:Int))))*(((rd (Ty.z T3) n.2 i).2).2)))))) p_)))) fun q39_16=>
 Ey (f22_j72 last q39_16) fun z178=>
 E9 ((l3.length+List.length ([q39_16.1]))*8≤140737488355328)<|
 some (z178.1,(i64.wrap (used+(i64.wrap ((i64.wrap ((((rd (Ty.z T3) n.2 i).2).1)*(rd 0 ((((((rd (Ty.z T8) l4 last).2).2).2).2).1) (0:Int))))*(((rd (Ty.z T3) n.2 i).2).2))))),z178.2.1,(l3++([q39_16.1])),z178.2.2)
 else
 bif (ByteArray.toList ((rd (Ty.z T3) n.2 i).1)==ByteArray.toList (ByteArray.mk #[112,111,111,108])) then
 Ey (f47 l4 (13:Int) last (-1:Int) (((rd (Ty.z T3) n.2 i).2).1)) fun r180=>
 some (r180.2.1,used,r180.1,l3,r180.2.2)
 else
 bif (ByteArray.toList ((rd (Ty.z T3) n.2 i).1)==ByteArray.toList (ByteArray.mk #[98,101,110,100])) then
 Ey (f47 l4 (11:Int) last (-1:Int) (((rd (Ty.z T3) n.2 i).2).1)) fun r181=>
 some (r181.2.1,used,r181.1,l3,r181.2.2)
 else
 Ey (f47 l4 (2:Int) from_ last (0:Int)) fun r182=>
 some (r182.2.1,used,r182.1,l3,r182.2.2)
def f22_l55 (n:Jd) (p_:LI) (go:(Int×Int×PTz13)→Option (Sum (Int×NL) (Int×LI×NL))) (from_ last used i:Int) (l3:LI) (l4:NL):Option (Sum (Int×NL) (Int×LI×NL)):=
 bif (decide (i<n.2.length)) then
 E9 (0≤i∧i<n.2.length)<|
 E9 (0≤last∧last<l4.length)<|
 Ey (f22_j64 n p_ from_ last used i l3 l4) fun z161=>
 bif (z161.1 != 0) then
 some (Sum.inl (z161.1,z161.2.2.2.2))
 else
 go (last,z161.2.2.1,z161.2.1,(i64.wrap (i+1)),z161.2.2.2.1,z161.2.2.2.2)
 else
 some (Sum.inr (last,l3,l4))
def f22 (t_L:NL) (n:Jd) (p_ x_:LI):Option PTz13:=
 Ey (f15 (n.1,n.2)) fun r1=>
 bif (r1.2.1 != 0) then
 some ((0:Int),r1.2.1,[],t_L)
 else
 Ey (f22_j2 n p_ x_ r1) fun z5=>
 Fx z5 (fun z5a=>
 Ey (f46 t_L (n.1,x_)) fun r9=>
 bif (r9.2.1 != 0) then
 some ((0:Int),r9.2.1,[],r9.2.2)
 else
 Ey (Fq (fun go x=>f22_l55 n p_ go x.1 x.2.1 x.2.2.1 x.2.2.2.1 x.2.2.2.2.1 x.2.2.2.2.2) Fv (r9.1,r9.1,(0:Int),(0:Int),[],r9.2.2)) fun z139=>
 Fx z139 (fun z139a=>
 some ((0:Int),z139a.1,[],z139a.2)) (fun z139b=>
 some (z139b.1,(0:Int),z139b.2.1,z139b.2.2))) (fun z5b=>
 some ((0:Int),(1:Int),[],t_L))
def C22:Con:=⟨NL×Jd×Fy,PTz13,2,fun x=>[P0 0 0,.dat T4 x.2.1,.dat T6 x.2.2.1,.dat T6 x.2.2.2],fun x=>[(0,.cells [(.osl 1)]),(1,.arr 64 T8 x.1)],fun x=>f22 x.1 x.2.1 x.2.2.1 x.2.2.2,fun y=>[.dat T1 y.1,O0 2,.dat T1 y.2.1],fun y=>[(0,.cells [(.osl 3)]),(2,.arr 3 T1 y.2.2.1),(3,.arr 64 T8 y.2.2.2)],4⟩
theorem V22 t_L n p_ x_ y (q:f22 t_L n p_ x_=some y):VE Tryz.f22 2 C22 (t_L,n,p_,x_) y:=by
 unfold f22 at q
 refine OL (OL ?_)
 obtain ⟨r1,h,q⟩:=bE q
 refine OL (cA H15 (n.1,n.2) h rfl (R2 (K0 (OL (OL (cI q (fun q=>?_) (fun q=>?_)))))))
 ·cases sE q
  refine OL (AI rfl (E4 [(0,some 0),(2,none),(3,some 1)] (R3 (AJ (R3 TV)))))
 obtain ⟨z5,hz5,q⟩:=bE q
 let e0:LE:=fun zz=>(0,P0 0 0)::(2,.dat T6 p_)::zz
 let h1:LH:=fun zz=>(0,.cells [(.osl 1)])::(1,.arr 64 T8 t_L)::zz
 refine OQ ⟨Sum.elim (fun z5a=>[(0,⟨e0 [(3,.dat T6 x_),(5,P0 2 0)],h1 [(2,.cells [(.d T6 n.1),(.d T5 n.2)])],3⟩)]) (fun z5b=>[(1,⟨[(8,D0 0),(9,.raw false [N0]),(10,D0 1)],h1 [],2⟩)]) z5,?_,?_⟩
 ·have q:=hz5
  clear hz5
  unfold f22_j2 at q
  obtain ⟨z7,hz7,q⟩:=bE q
  refine OQ ⟨[(0,⟨e0 [(3,.dat T6 x_),(5,P0 2 0),(48,.dat .bool z7)],h1 [(2,.cells [(.d T6 n.1),(.d T5 n.2)])],3⟩)],?_,?_⟩
  ·have q:=hz7
   clear hz7
   unfold f22_j3 at q
   refine cN q (fun q=>?_) (fun q=>?_)
   ·refine gY (gY (gY (gY ?_)))
    obtain ⟨r8,h,q⟩:=bE q
    refine OL (cA H40 n.1 h rfl (AI rfl (K0 (gY (cF ?_)))))
    cases sE q
    refine E4 I3 (R4 (AI (R2 TV) (R3 TV)))
   refine gN (gN (gN (gN (gN (cT ?_)))))
   cases sE q
   refine E4 I3 (R4 (AI (R2 TV) (R3 TV)))
  refine AI (cI q (fun q=>?_) (fun q=>?_)) TV
  ·cases sE q
   refine OL (E4 I2 (R3 (AJ (R2 TV))))
  cases sE q
  refine E4 I3 (R3 (AI (R2 TV) (R3 TV)))
 rcases z5 with z5a | z5b
 ·dsimp only [Fx] at q
  refine AI (OL ?_) TV
  obtain ⟨r9,h,q⟩:=bE q
  refine OL (cB H46 (t_L,(n.1,x_)) I2 false h rfl (R2 (AI NH (R2 (AJ (AI (R2 TV) (OL (OL (cI q (fun q=>?_) (fun q=>?_))))))))))
  ·cases sE q
   refine OL (AI rfl (E4 [(0,some 0),(2,none),(3,some 5)] (R3 (AJ (R3 TV)))))
  refine OL (OL (OL (OL (OL ?_))))
  obtain ⟨z139,hz139,q⟩:=bE q
  let e2:LE:=fun zz=>e0 ((5,P0 2 0)::zz)
  let h3:LH:=fun zz=>(0,.cells [(.osl 4)])::(2,.cells [(.d T6 n.1),(.d T5 n.2)])::zz
  refine lJ hz139 (fun x=>⟨e2 [(15,O0 3),(16,.dat T1 x.1),(17,.dat T1 x.2.1),(18,.dat T1 x.2.2.1),(19,.dat T1 x.2.2.2.1)],h3 [(3,.arr 3 T1 x.2.2.2.2.1),(4,.arr 64 T8 x.2.2.2.2.2)],5⟩) (fun z=>Sum.elim (fun za=>[(1,⟨[(8,D0 0),(9,.raw false [N0]),(10,.dat T1 za.1)],[(0,.cells [(.osl 2)]),(2,.arr 64 T8 za.2)],3⟩)]) (fun zb=>[(2,⟨[(15,O0 2),(17,.dat T1 zb.1)],[(0,.cells [(.osl 3)]),(2,.arr 3 T1 zb.2.1),(3,.arr 64 T8 zb.2.2)],4⟩)]) z) (E4 [(0,some 0),(2,some 2),(3,none),(4,some 5)] (R6 (AI (R3 TV) (R4 TV)))) (fun m=>F3 (fun from_=>F3 (fun last=>F3 (fun used=>F3 (fun i=>F3 (fun l3=>fun l4 z q=>?_)))))) ?_
  ·have q:f22_l55 n p_ _ from_ last used i l3 l4=some z:=q
   unfold f22_l55 at q
   refine OL (OL (cI q (fun q=>?_) (fun q=>?_)))
   ·refine OL (OL (gI q (fun q=>?_)))
    refine OL (OL (gI q (fun q=>?_)))
    refine OL (OL (OL ?_))
    obtain ⟨z161,hz161,q⟩:=bE q
    refine OQ ⟨[(0,⟨e2 [(13,.dat T1 z161.1),(15,O0 3),(18,.dat T1 z161.2.1),(19,.dat T1 i),(22,.dat T1 last),(25,.dat T1 z161.2.2.1)],h3 [(3,.arr 3 T1 z161.2.2.2.1),(4,.arr 64 T8 z161.2.2.2.2)],5⟩)],?_,?_⟩
    ·have q:=hz161
     clear hz161
     unfold f22_j64 at q
     refine OL (OL (cI q (fun q=>?_) (fun q=>?_)))
     ·refine OL ?_
      obtain ⟨r162,h,q⟩:=bE q
      refine OL (AI H40.1 (cV (cQ C40 (((((rd (Ty.z T8) l4 last).2).2).2).2).1 r162 [] false H40.2 h rfl rfl (AI rfl (K0 (OL (EI (tU 0 4 (tU 5 9 (.alt 4 (.take 14 (.alt 15 (tU 16 5 .done) .done)) .done))) (EI [] (EI [] (AI rfl (gI q (fun q=>?_))))))))))))
      refine AI TV (OL (AI TV ?_))
      obtain ⟨q24_15,h,q⟩:=bE q
      refine OL (cB H46 (l4,([((rd (Ty.z T3) n.2 i).2).1,r162],(List.drop (Int.toNat used) (List.take (Int.toNat (i64.wrap (used+(i64.wrap ((((rd (Ty.z T3) n.2 i).2).1)*r162))))) p_)))) (iuR [1,5]) false h rfl (R2 (AI NH (R2 (AJ (AI (R2 TV) ?_))))))
      obtain ⟨z163,hz163,q⟩:=bE q
      refine OQ ⟨[(0,⟨e2 [(13,.dat T1 z163.1),(15,O0 3),(17,.dat T1 last),(18,.dat T1 used),(19,.dat T1 i),(20,P0 4 0),(21,.dat T6 ((((((rd (Ty.z T8) l4 last).2).2).2).2).1)),(22,.dat T1 last),(23,.dat T1 q24_15.1),(24,.dat T1 z163.2.1),(25,D0 0),(26,.dat T1 r162)],[(0,.cells [(.osl 5)]),(2,.cells [(.d T6 n.1),(.d T5 n.2)]),(3,.arr 3 T1 l3),(4,.cells [(.d .str ((rd (Ty.z T3) n.2 i).1)),(.d T1 (((rd (Ty.z T3) n.2 i).2).1)),(.d T1 (((rd (Ty.z T3) n.2 i).2).2))]),(5,.arr 64 T8 z163.2.2)],6⟩)],?_,?_⟩
      ·have q:=hz163
       clear hz163
       unfold f22_j65 at q
       refine OL (cI q (fun q=>?_) (fun q=>?_))
       ·refine EI (tU 0 3 (tU 4 17 (.alt 3 (.take 21 (.alt 22 (tU 23 5 .done) .done)) .done))) (EI [] (EI [] (AI rfl (gI q (fun q=>?_)))))
        refine AI TV (OL (AI TV ?_))
        obtain ⟨q26_22,h,q⟩:=bE q
        refine OL (cB H46 (q24_15.2.2,([((rd (Ty.z T3) n.2 i).2).1],(List.drop (Int.toNat (i64.wrap (used+(i64.wrap ((((rd (Ty.z T3) n.2 i).2).1)*r162))))) (List.take (Int.toNat (i64.wrap ((i64.wrap (used+(i64.wrap ((((rd (Ty.z T3) n.2 i).2).1)*r162))))+(((rd (Ty.z T3) n.2 i).2).1)))) p_)))) (iuR [1,10]) false h rfl (R2 (AI NH (R2 (AJ (AI (R2 TV) ?_))))))
        cases sE q
        refine E4 [(0,some 0),(2,some 2),(3,some 3),(4,some 5),(5,some 13)] (R12 (AI (R4 TV) (R5 TV)))
       cases sE q
       refine E4 [(0,some 0),(2,some 2),(3,some 3),(4,some 5),(5,some 9)] (R12 (AI (R4 TV) (R5 TV)))
      refine AI (OL ?_) TV
      obtain ⟨z166,hz166,q⟩:=bE q
      let h4:LH:=fun zz=>h3 ((3,.arr 3 T1 l3)::zz)
      refine OQ ⟨[(0,⟨e2 [(13,.dat T1 z166.1),(15,O0 3),(17,.dat T1 z166.2.1),(18,.dat T1 (i64.wrap ((i64.wrap (used+(i64.wrap ((((rd (Ty.z T3) n.2 i).2).1)*r162))))+(((rd (Ty.z T3) n.2 i).2).1)))),(19,.dat T1 i),(22,.dat T1 last),(23,.dat T1 q24_15.1),(24,.dat T1 z163.2.1),(25,D0 0)],h4 [(4,.arr 64 T8 z166.2.2)],5⟩)],?_,?_⟩
      ·have q:=hz166
       clear hz166
       unfold f22_j67 at q
       obtain ⟨z167,hz167,q⟩:=bE q
       refine OQ ⟨[(0,⟨e2 [(13,.dat T1 z163.1),(15,O0 3),(17,.dat T1 last),(18,.dat T1 (i64.wrap ((i64.wrap (used+(i64.wrap ((((rd (Ty.z T3) n.2 i).2).1)*r162))))+(((rd (Ty.z T3) n.2 i).2).1)))),(19,.dat T1 i),(22,.dat T1 last),(23,.dat T1 q24_15.1),(24,.dat T1 z163.2.1),(25,D0 0),(160,.dat .bool z167)],h4 [(4,.arr 64 T8 z163.2.2)],5⟩)],?_,?_⟩
       ·have q:=hz167
        clear hz167
        unfold f22_j68 at q
        refine cI q (fun q=>?_) (fun q=>?_)
        ·refine gX (gX (cT ?_))
         cases sE q
         refine E4 [(0,some 0),(2,some 2),(3,some 3),(4,some 5)] (R11 (AI (R3 TV) (R4 TV)))
        refine gM (gM (cF ?_))
        cases sE q
        refine E4 [(0,some 0),(2,some 2),(3,some 3),(4,some 5)] (R11 (AI (R3 TV) (R4 TV)))
       refine AI (cI q (fun q=>?_) (fun q=>?_)) TV
       ·obtain ⟨r168,hr168,q⟩:=bE q
        have hr168:C47.F (z163.2.2,(14:Int),last,(-1:Int),(0:Int))=some r168:=hr168
        refine OL (cB H47 _ (iuR [1,5]) false hr168 rfl (R4 (AI NH (R2 (AJ (AI (R2 TV) ?_))))))
        cases sE q
        refine E4 [(0,some 0),(2,some 2),(3,some 3),(4,some 7)] (R10 (AI (R3 TV) (R4 TV)))
       cases sE q
       refine E4 [(0,some 0),(2,some 2),(3,some 3),(4,some 4)] (R10 (AI (R3 TV) (R4 TV)))
      refine AI ?_ TV
      obtain ⟨z170,hz170,q⟩:=bE q
      refine OQ ⟨[(0,⟨e2 [(13,.dat T1 z170.1),(15,O0 3),(18,.dat T1 (i64.wrap ((i64.wrap (used+(i64.wrap ((((rd (Ty.z T3) n.2 i).2).1)*r162))))+(((rd (Ty.z T3) n.2 i).2).1)))),(19,.dat T1 i),(22,.dat T1 last),(23,.dat T1 q24_15.1),(24,.dat T1 z163.2.1),(25,.dat T1 z170.2.1)],h4 [(4,.arr 64 T8 z170.2.2)],5⟩)],?_,?_⟩
      ·have q:=hz170
       clear hz170
       unfold f22_j69 at q
       refine OL (cI q (fun q=>?_) (fun q=>?_))
       ·obtain ⟨r171,h,q⟩:=bE q
        refine OL (cB H47 (z166.2.2,(4:Int),q24_15.1,z166.2.1,(0:Int)) (iuR [1,5]) false h rfl (R4 (AI NH (R2 (AJ (AI (R2 TV) ?_))))))
        cases sE q
        refine E4 [(0,some 0),(2,some 2),(3,some 3),(4,some 7)] (R9 (AI (R3 TV) (R4 TV)))
       cases sE q
       refine E4 [(0,some 0),(2,some 2),(3,some 3),(4,some 4)] (R9 (AI (R3 TV) (R4 TV)))
      refine AI ?_ TV
      obtain ⟨z173,hz173,q⟩:=bE q
      refine OQ ⟨[(0,⟨e2 [(13,.dat T1 z173.1),(15,O0 3),(18,.dat T1 (i64.wrap ((i64.wrap (used+(i64.wrap ((((rd (Ty.z T3) n.2 i).2).1)*r162))))+(((rd (Ty.z T3) n.2 i).2).1)))),(19,.dat T1 i),(22,.dat T1 last),(23,.dat T1 q24_15.1),(24,.dat T1 z163.2.1),(25,.dat T1 z173.2.1)],h4 [(4,.arr 64 T8 z173.2.2)],5⟩)],?_,?_⟩
      ·have q:=hz173
       clear hz173
       unfold f22_j70 at q
       refine OL (cI q (fun q=>?_) (fun q=>?_))
       ·obtain ⟨r174,hr174,q⟩:=bE q
        have hr174:C47.F (z170.2.2,(8:Int),z170.2.1,(-1:Int),(1:Int))=some r174:=hr174
        refine OL (cB H47 _ (iuR [1,5]) false hr174 rfl (R4 (AI NH (R2 (AJ (AI (R2 TV) ?_))))))
        cases sE q
        refine E4 [(0,some 0),(2,some 2),(3,some 3),(4,some 7)] (R9 (AI (R3 TV) (R4 TV)))
       cases sE q
       refine E4 [(0,some 0),(2,some 2),(3,some 3),(4,some 4)] (R9 (AI (R3 TV) (R4 TV)))
      refine AI ?_ TV
      obtain ⟨z176,hz176,q⟩:=bE q
      refine OQ ⟨[(0,⟨e2 [(13,.dat T1 z176.1),(15,O0 3),(18,.dat T1 (i64.wrap ((i64.wrap (used+(i64.wrap ((((rd (Ty.z T3) n.2 i).2).1)*r162))))+(((rd (Ty.z T3) n.2 i).2).1)))),(19,.dat T1 i),(22,.dat T1 last),(23,.dat T1 q24_15.1),(24,.dat T1 z163.2.1),(25,.dat T1 z176.2.1)],h4 [(4,.arr 64 T8 z176.2.2)],5⟩)],?_,?_⟩
      ·have q:=hz176
       clear hz176
       unfold f22_j71 at q
       refine OL (cI q (fun q=>?_) (fun q=>?_))
       ·obtain ⟨r177,h,q⟩:=bE q
        refine OL (cB H47 (z173.2.2,(2:Int),z173.2.1,z163.2.1,(0:Int)) (iuR [1,5]) false h rfl (R4 (AI NH (R2 (AJ (AI (R2 TV) ?_))))))
        cases sE q
        refine E4 [(0,some 0),(2,some 2),(3,some 3),(4,some 7)] (R9 (AI (R3 TV) (R4 TV)))
       cases sE q
       refine E4 [(0,some 0),(2,some 2),(3,some 3),(4,some 4)] (R9 (AI (R3 TV) (R4 TV)))
      refine AI (OL (OL (gI q (fun q=>?_)))) TV
      cases sE q
      refine E4 [(0,some 0),(2,some 2),(3,some 6),(4,some 4)] (R7 (AI (R3 TV) (R4 TV)))
     refine OL (cI q (fun q=>?_) (fun q=>?_))
     ·refine OL (EI (tU 0 10 .done) (EI [] (EI [] (AI rfl (gI q (fun q=>?_))))))
      refine OL (EI (tU 0 8 (tU 9 6 (.alt 8 (.take 15 (.alt 16 (tU 17 5 .done) .done)) .done))) (EI [] (EI [] (AI rfl (gI q (fun q=>?_))))))
      refine gI q (fun q=>?_)
      refine AI TV (OL (AI TV ?_))
      obtain ⟨q39_16,h,q⟩:=bE q
      refine OL (cB H46 (l4,([((rd (Ty.z T3) n.2 i).2).1,(rd 0 ((((((rd (Ty.z T8) l4 last).2).2).2).2).1) (0:Int)),((rd (Ty.z T3) n.2 i).2).2],(List.drop (Int.toNat used) (List.take (Int.toNat (i64.wrap (used+(i64.wrap ((i64.wrap ((((rd (Ty.z T3) n.2 i).2).1)*(rd 0 ((((((rd (Ty.z T8) l4 last).2).2).2).2).1) (0:Int))))*(((rd (Ty.z T3) n.2 i).2).2)))))) p_)))) (iuR [1,5]) false h rfl (R2 (AI NH (R2 (AJ (AI (R2 TV) (OL ?_)))))))
      obtain ⟨z178,hz178,q⟩:=bE q
      refine OQ ⟨[(0,⟨e2 [(13,.dat T1 z178.1),(15,O0 3),(18,.dat T1 (i64.wrap (used+(i64.wrap ((i64.wrap ((((rd (Ty.z T3) n.2 i).2).1)*(rd 0 ((((((rd (Ty.z T8) l4 last).2).2).2).2).1) (0:Int))))*(((rd (Ty.z T3) n.2 i).2).2)))))),(19,.dat T1 i),(22,.dat T1 last),(23,.dat T1 q39_16.1),(25,.dat T1 z178.2.1)],h3 [(3,.arr 3 T1 l3),(4,.arr 64 T8 z178.2.2)],5⟩)],?_,?_⟩
      ·have q:=hz178
       clear hz178
       unfold f22_j72 at q
       refine OL (cI q (fun q=>?_) (fun q=>?_))
       ·obtain ⟨r179,h,q⟩:=bE q
        refine OL (cB H47 (q39_16.2.2,(12:Int),last,q39_16.1,(1:Int)) (iuR [1,10]) false h rfl (R4 (AI NH (R2 (AJ (AI (R2 TV) ?_))))))
        cases sE q
        refine E4 [(0,some 0),(2,some 2),(3,some 3),(4,some 12)] (R8 (AI (R3 TV) (R4 TV)))
       cases sE q
       refine E4 [(0,some 0),(2,some 2),(3,some 3),(4,some 9)] (R8 (AI (R3 TV) (R4 TV)))
      refine AI (OL (OL (gI q (fun q=>?_)))) TV
      cases sE q
      refine E4 [(0,some 0),(2,some 2),(3,some 6),(4,some 4)] (R7 (AI (R3 TV) (R4 TV)))
     refine OL (cI q (fun q=>?_) (fun q=>?_))
     ·obtain ⟨r180,hr180,q⟩:=bE q
      have hr180:C47.F (l4,(13:Int),last,(-1:Int),((rd (Ty.z T3) n.2 i).2).1)=some r180:=hr180
      refine OL (cB H47 _ (iuR [1,5]) false hr180 rfl (R4 (AI NH (R2 (AJ (AI (R2 TV) ?_))))))
      cases sE q
      refine E4 [(0,some 0),(2,some 2),(3,some 3),(4,some 8)] (R7 (AI (R3 TV) (R4 TV)))
     refine OL (cI q (fun q=>?_) (fun q=>?_))
     ·obtain ⟨r181,hr181,q⟩:=bE q
      have hr181:C47.F (l4,(11:Int),last,(-1:Int),((rd (Ty.z T3) n.2 i).2).1)=some r181:=hr181
      refine OL (cB H47 _ (iuR [1,5]) false hr181 rfl (R4 (AI NH (R2 (AJ (AI (R2 TV) ?_))))))
      cases sE q
      refine E4 [(0,some 0),(2,some 2),(3,some 3),(4,some 8)] (R7 (AI (R3 TV) (R4 TV)))
     obtain ⟨r182,h,q⟩:=bE q
     refine OL (cB H47 (l4,(2:Int),from_,last,(0:Int)) (iuR [1,5]) false h rfl (R4 (AI NH (R2 (AJ (AI (R2 TV) ?_))))))
     cases sE q
     refine E4 [(0,some 0),(2,some 2),(3,some 3),(4,some 8)] (R7 (AI (R3 TV) (R4 TV)))
    refine AI (OL (OL (cI q (fun q=>?_) (fun q=>?_)))) TV
    ·cases sE q
     refine OL (E4 [(0,some 0),(2,some 4)] (R3 (AJ (R2 TV))))
    refine EI (last,z161.2.2.1,z161.2.1,(i64.wrap (i+1)),z161.2.2.2.1,z161.2.2.2.2) (AI q (E4 [(0,some 0),(2,some 2),(3,some 3),(4,some 4)] (R6 (AI (R3 TV) (R4 TV)))))
   cases sE q
   refine E4 [(0,some 0),(2,some 3),(3,some 4)] (R2 (AJ (R3 TV)))
  rcases z139 with z139a | z139b
  ·dsimp only [Fx] at q
   refine AI ?_ TV
   cases sE q
   refine AI rfl (E4 [(0,some 0),(2,none),(3,some 2)] (R3 (AJ (R3 TV))))
  dsimp only [Fx] at q
  refine AI (OL ?_) TV
  cases sE q
  refine AI rfl (E4 [(0,some 0),(2,some 2),(3,some 3)] (R3 (AJ (R3 TV))))
 dsimp only [Fx] at q
 refine AI ?_ TV
 cases sE q
 refine AI rfl (E4 [(0,some 0),(2,none),(3,some 1)] (R3 (AJ (R3 TV))))
theorem H22:HI C22 22:=hI Tryz.f22 rfl fun x=>V22 x.1 x.2.1 x.2.2.1 x.2.2.2
def f24_j1 (a b:Fy):Option (Sum Unit Unit):=
 Ey (f13 a.1 b.1) fun r2=>
 bif (!r2) then
 some (Sum.inr ())
 else
 bif ((a.2.length:Int) != b.2.length) then
 some (Sum.inr ())
 else
 some (Sum.inl ())
def f24_l2 (a b:Fy) (go:Int→Option (Sum Unit Unit)) (i:Int):Option (Sum Unit Unit):=
 bif (decide (i<a.2.length)) then
 E9 (0≤i∧i<a.2.length)<|
 E9 (0≤i∧i<b.2.length)<|
 bif ((rd 0 a.2 i) != (rd 0 b.2 i)) then
 some (Sum.inl ())
 else
 go (i64.wrap (i+1))
 else
 some (Sum.inr ())
def f24 (a b:Fy):Option Bool:=
 Ey (f24_j1 a b) fun z1=>
 Fx z1 (fun z1a=>
 Ey (Fq (fun go x=>f24_l2 a b go x) Fv (0:Int)) fun z3=>
 Fx z3 (fun z3a=>
 some false) (fun z3b=>
 some true)) (fun z1b=>
 some false)
def C24:Con:=⟨Fy×Fy,Bool,0,fun x=>[.dat T9 x.1,.dat T9 x.2],NX,fun x=>f24 x.1 x.2,fun y=>[.dat .bool y],NX,0⟩
theorem V24 a b y (q:f24 a b=some y):VC Tryz.f24 C24 (a,b) y:=by
 unfold f24 at q
 refine OL ?_
 obtain ⟨z1,hz1,q⟩:=bE q
 let h0:LH:=fun zz=>(0,.cells [(.d T6 a.1),(.d T6 a.2)])::(1,.cells [(.d T6 b.1),(.d T6 b.2)])::zz
 refine OQ ⟨Sum.elim (fun z1a=>[(0,⟨[(2,P0 0 0),(3,P0 1 0)],h0 [],2⟩)]) (fun z1b=>[(1,⟨[(4,.dat .bool false)],[],0⟩)]) z1,?_,?_⟩
 ·have q:=hz1
  clear hz1
  unfold f24_j1 at q
  refine OL ?_
  obtain ⟨r2,h,q⟩:=bE q
  refine OL (cA H13 (a.1,b.1) h rfl (R2 (K0 (cN q (fun q=>?_) (fun q=>?_)))))
  ·refine gY (gY (gY (gY (gY (gY (cF (cI q (fun q=>?_) (fun q=>?_))))))))
   ·cases sE q
    refine OL (E4 [] (R2 (AI TV TV)))
   cases sE q
   refine E4 I2 (AI rfl (AI (R2 TV) (R2 TV)))
  refine gN (gN (gN (gN (gN (gN (cT (cT (OL ?_))))))))
  cases sE q
  refine E4 [] (R2 (AI TV TV))
 rcases z1 with z1a | z1b
 ·dsimp only [Fx] at q
  refine AI (OL (OL ?_)) TV
  obtain ⟨z3,h,q⟩:=bE q
  refine lJ h (fun x=>⟨[(2,P0 0 0),(3,P0 1 0),(5,.dat T1 x)],h0 [],2⟩) (fun z=>Sum.elim (fun za=>[(1,⟨[(4,.dat .bool false)],[],0⟩)]) (fun zb=>[(2,⟨[],[],0⟩)]) z) (E4 I2 (R2 (AI (R2 TV) (R2 TV)))) (fun m=>fun i z q=>?_) ?_
  ·have q:f24_l2 a b _ i=some z:=q
   unfold f24_l2 at q
   refine OL (OL (cI q (fun q=>?_) (fun q=>?_)))
   ·refine OL (OL (EI (tU 0 11 .done) (EI [] (EI [] (AI rfl (gI q (fun q=>?_)))))))
    refine gI q (fun q=>?_)
    refine cI q (fun q=>?_) (fun q=>?_)
    ·cases sE q
     refine OL (E4 [] (R2 (AI TV TV)))
    refine EI (i64.wrap (i+1)) (AI q (E4 I2 (R2 (AI (R2 TV) (R2 TV)))))
   cases sE q
   refine E4 [] (AI rfl (AI TV TV))
  rcases z3 with z3a | z3b
  ·dsimp only [Fx] at q
   refine AI ?_ TV
   cases sE q
   refine AI rfl (E4 [] (R2 (AI TV TV)))
  dsimp only [Fx] at q
  refine AI (OL ?_) TV
  cases sE q
  refine AI rfl (E4 [] (R2 (AI TV TV)))
 dsimp only [Fx] at q
 refine AI ?_ TV
 cases sE q
 refine AI rfl (E4 [] (R2 (AI TV TV)))
theorem H24:HI C24 24:=hI Tryz.f24 rfl fun x=>V24 x.1 x.2
def f5_j1 (n:Jd) (p_ x_:LI):Option (Sum Unit Unit):=
 bif (decide ((n.1.length:Int)>10)) then
 some (Sum.inr ())
 else
 bif (decide ((n.2.length:Int)>12)) then
 some (Sum.inr ())
 else
 bif (decide ((p_.length:Int)>300)) then
 some (Sum.inr ())
 else
 bif (decide ((x_.length:Int)>100)) then
 some (Sum.inr ())
 else
 some (Sum.inl ())
def f5_j2 (n:Jd) (r3:Int×PTz10):Option (Sum Unit Unit):=
 bif (r3.2.1==0) then
 bif (decide (r3.1>150)) then
 some (Sum.inr ())
 else
 Ey (f18 n.1) fun r6=>
 bif (decide (r6>60)) then
 some (Sum.inr ())
 else
 some (Sum.inl ())
 else
 some (Sum.inl ())
def f5_j5 (fit:Bool) (r3:Int×PTz10):Option Bool:=
 bif fit then
 some (r3.2.1==0)
 else
 some false
def f5_j4 (n:Jd) (p_ x_:LI) (fit:Bool) (r3:Int×PTz10):Option Fy:=
 Ey (f5_j5 fit r3) fun z12=>
 bif z12 then
 Ey (f19 p_ r3.1) fun r13=>
 Ey (f18 n.1) fun r14=>
 Ey (f19 x_ r14) fun r15=>
 some (r13,r15)
 else
 some (p_,x_)
def f5_j6 (r17 r19:PTz13):Option (Sum Unit Unit):=
 bif (r17.2.1 != r19.2.1) then
 some (Sum.inr ())
 else
 bif (r17.1 != r19.1) then
 some (Sum.inr ())
 else
 Ey (f13 r17.2.2.1 r19.2.2.1) fun r22=>
 bif (!r22) then
 some (Sum.inr ())
 else
 some (Sum.inl ())
def f5_l7 (r19:PTz13) (go:(Int×NL)→Option (Sum Unit NL)) (i:Int) (l2:NL):Option (Sum Unit NL):=
 bif (decide (i<r19.2.2.2.length)) then
 Ey (f23 l2 i) fun r26=>
 bif (!r26.2.2.2.2.1) then
 some (Sum.inl ())
 else
 E9 (0≤i∧i<r19.2.2.2.length)<|
 bif (r26.1 != ((rd (Ty.z T8) r19.2.2.2 i).1)) then
 some (Sum.inl ())
 else
 E9 (0≤i∧i<r19.2.2.2.length)<|
 bif (r26.2.1 != (((rd (Ty.z T8) r19.2.2.2 i).2).1)) then
 some (Sum.inl ())
 else
 E9 (0≤i∧i<r19.2.2.2.length)<|
 bif (r26.2.2.1 != ((((rd (Ty.z T8) r19.2.2.2 i).2).2).1)) then
 some (Sum.inl ())
 else
 E9 (0≤i∧i<r19.2.2.2.length)<|
 bif (r26.2.2.2.1 != (((((rd (Ty.z T8) r19.2.2.2 i).2).2).2).1)) then
 some (Sum.inl ())
 else
 E9 (0≤i∧i<r19.2.2.2.length)<|
 Ey (f24 (r26.2.2.2.2.2.1,r26.2.2.2.2.2.2.1) ((((((rd (Ty.z T8) r19.2.2.2 i).2).2).2).2).1,(((((rd (Ty.z T8) r19.2.2.2 i).2).2).2).2).2)) fun q22_65=>
 bif (!q22_65) then
 some (Sum.inl ())
 else
 go ((i64.wrap (i+1)),r26.2.2.2.2.2.2.2)
 else
 some (Sum.inr l2)
def f5 (n:Jd) (p_ x_:LI) (fit:Bool):Option Bool:=
 Ey (f9) fun q24_8=>
 bif (!q24_8) then
 some false
 else
 Ey (f5_j1 n p_ x_) fun z1=>
 Fx z1 (fun z1a=>
 Ey (f16 (n.1,n.2)) fun r2=>
 Ey (f15 (r2.1,r2.2)) fun r3=>
 Ey (f5_j2 n r3) fun z5=>
 Fx z5 (fun z5a=>
 Ey (f5_j4 n p_ x_ fit r3) fun z11=>
 Ey (f20) fun r16=>
 Ey (f21 ([]) (n.1,n.2) z11.1 z11.2) fun r17=>
 Ey (f16 (n.1,n.2)) fun r18=>
 Ey (f22 ([]) (r18.1,r18.2) z11.1 z11.2) fun r19=>
 Ey (f5_j6 r17 r19) fun z21=>
 Fx z21 (fun z21a=>
 bif (r17.2.1 != 0) then
 some true
 else
 Ey (Fq (fun go x=>f5_l7 r19 go x.1 x.2) Fv ((0:Int),r17.2.2.2)) fun z25=>
 Fx z25 (fun z25a=>
 some false) (fun z25b=>
 Ey (f25 z25b) fun q24_1=>
 some (q24_1.1==r19.2.2.2.length))) (fun z21b=>
 some false)) (fun z5b=>
 some true)) (fun z1b=>
 some true)
def C5:Con where
 X:=Jd×LI×LI×Bool
 Y:=Bool
 e:=0
 args x:=[.dat T4 x.1,.dat T6 x.2.1,.dat T6 x.2.2.1,.dat .bool x.2.2.2]
 hin x:=[]
 F x:=f5 x.1 x.2.1 x.2.2.1 x.2.2.2
 ret y:=[.dat .bool y]
 hout y:=[]
 nout:=0
theorem V5 n p_ x_ fit y (q:f5 n p_ x_ fit=some y):VC Tryz.f5 C5 (n,p_,x_,fit) y:=by
 unfold f5 at q
 refine OL (OL (OL ?_))
 obtain ⟨q24_8,h,q⟩:=bE q
 refine OL (cA H9 () h rfl (K0 (cI q (fun q=>?_) (fun q=>?_))))
 ·cases sE q
  refine OL (AI rfl (E4 [] (R2 (AI TV TV))))
 obtain ⟨z1,hz1,q⟩:=bE q
 let h0:LH:=fun zz=>(0,.cells [(.d T6 n.1),(.d T5 n.2)])::zz
 refine OQ ⟨Sum.elim (fun z1a=>[(0,⟨[(1,.dat T6 p_),(2,.dat T6 x_),(3,.dat .bool fit),(4,P0 0 0)],h0 [],1⟩)]) (fun z1b=>[(1,⟨[(8,.dat .bool true)],[],0⟩)]) z1,?_,?_⟩
 ·have q:=hz1
  clear hz1
  unfold f5_j1 at q
  refine OL (cN q (fun q=>?_) (fun q=>?_))
  ·refine gY (gY (gY (cF (cN q (fun q=>?_) (fun q=>?_)))))
   ·refine gY (gY (cF (cN q (fun q=>?_) (fun q=>?_))))
    ·refine gY (gY (cF (cI q (fun q=>?_) (fun q=>?_))))
     ·cases sE q
      refine OL (E4 [] (R2 (AI TV TV)))
     cases sE q
     refine E4 (iuR [1]) (R4 (AJ (AI rfl TV)))
    refine gN (gN (cT (cT (OL ?_))))
    cases sE q
    refine E4 [] (R2 (AI TV TV))
   refine gN (gN (cT (gN (gN (gN (cT (cT (OL ?_))))))))
   cases sE q
   refine E4 [] (R2 (AI TV TV))
  refine gN (gN (gN (cT (gN (gN (gN (cT (gN (gN (gN (cT (cT (OL ?_)))))))))))))
  cases sE q
  refine E4 [] (R2 (AI TV TV))
 rcases z1 with z1a | z1b
 ·dsimp only [Fx] at q
  refine AI (OL ?_) TV
  obtain ⟨r2,h,q⟩:=bE q
  refine OL (cA H16 (n.1,n.2) h rfl (R2 (K0 ?_)))
  obtain ⟨r3,h,q⟩:=bE q
  refine OL (cA H15 (r2.1,r2.2) h rfl (R2 (K0 ?_)))
  obtain ⟨z5,hz5,q⟩:=bE q
  refine OQ ⟨Sum.elim (fun z5a=>[(0,⟨[(1,.dat T6 p_),(2,.dat T6 x_),(3,.dat .bool fit),(4,P0 0 0),(10,.dat T1 r3.1),(11,.dat T1 r3.2.1)],h0 [],1⟩)]) (fun z5b=>[(1,⟨[(8,.dat .bool true)],[],0⟩)]) z5,?_,?_⟩
  ·have q:=hz5
   clear hz5
   unfold f5_j2 at q
   refine OL (cI q (fun q=>?_) (fun q=>?_))
   ·refine gX (gX (cN q (fun q=>?_) (fun q=>?_)))
    ·refine gY (gY ?_)
     obtain ⟨r6,h,q⟩:=bE q
     refine OL (cA H18 n.1 h rfl (AI rfl (K0 (gY (gX (cF (cT (cI q (fun q=>?_) (fun q=>?_)))))))))
     ·cases sE q
      refine OL (E4 [] (R2 (AI TV TV)))
     cases sE q
     refine E4 (iuR [1]) (R6 (AJ (AI rfl TV)))
    refine gN (gN (gN (gX (cT (cT (cT (OL ?_)))))))
    cases sE q
    refine E4 [] (R2 (AI TV TV))
   refine gM (gM (gM (cF (cF ?_))))
   cases sE q
   refine E4 (iuR [1]) (R6 (AJ (AI rfl TV)))
  rcases z5 with z5a | z5b
  ·dsimp only [Fx] at q
   refine AI ?_ TV
   obtain ⟨z11,hz11,q⟩:=bE q
   refine OQ ⟨[(0,⟨[(1,.dat T6 z11.1),(2,.dat T6 z11.2),(4,P0 0 0)],h0 [],1⟩)],?_,?_⟩
   ·have q:=hz11
    clear hz11
    unfold f5_j4 at q
    obtain ⟨z12,hz12,q⟩:=bE q
    refine OQ ⟨[(0,⟨[(1,.dat T6 p_),(2,.dat T6 x_),(4,P0 0 0),(10,.dat T1 r3.1),(68,.dat .bool z12)],h0 [],1⟩)],?_,?_⟩
    ·have q:=hz12
     clear hz12
     unfold f5_j5 at q
     refine cI q (fun q=>?_) (fun q=>?_)
     ·refine gX (cT ?_)
      cases sE q
      refine E4 (iuR [1]) (R5 (AJ (AI rfl TV)))
     refine gM (cF ?_)
     cases sE q
     refine E4 (iuR [1]) (R5 (AJ (AI rfl TV)))
    refine AI (cI q (fun q=>?_) (fun q=>?_)) TV
    ·refine OL ?_
     obtain ⟨r13,h,q⟩:=bE q
     refine OL (cA H19 (p_,r3.1) h rfl (R2 (K0 ?_)))
     obtain ⟨r14,h,q⟩:=bE q
     refine OL (cA H18 n.1 h rfl (AI rfl (K0 ?_)))
     obtain ⟨r15,h,q⟩:=bE q
     refine OL (cA H19 (x_,r14) h rfl (R2 (K0 ?_)))
     cases sE q
     refine E4 (iuR [1]) (R3 (AJ (AI rfl TV)))
    cases sE q
    refine E4 (iuR [1]) (R3 (AJ (AI rfl TV)))
   refine AI (OL ?_) TV
   obtain ⟨r16,h,q⟩:=bE q
   refine OL (cA H20 () h rfl (K0 (OL ?_)))
   obtain ⟨r17,h,q⟩:=bE q
   refine OL (cB H21 ([],(n.1,n.2),z11.1,z11.2) (iuR [2,3]) false h rfl (R4 (AI NH (R2 (AJ (AI (R2 TV) (OL ?_)))))))
   obtain ⟨r18,h,q⟩:=bE q
   refine OL (cA H16 (n.1,n.2) h rfl (R2 (K0 ?_)))
   obtain ⟨r19,h,q⟩:=bE q
   refine OL (AI H22.1 (callVn [(3,0,64,T8)] (virtI rfl rfl (virt0 (cQ C22 ([],(r18.1,r18.2),z11.1,z11.2) r19 (iuR [4,10]) false H22.2 h rfl rfl (R4 (AI NH (R2 (AJ (AI (R2 TV) ?_))))))))))
   obtain ⟨z21,hz21,q⟩:=bE q
   let h1:LH:=fun zz=>(0,.cells [(.osl 2)])::(1,.cells [(.osl 3)])::zz
   refine OQ ⟨Sum.elim (fun z21a=>[(0,⟨[(12,P0 0 0),(13,P0 1 0),(16,.dat T1 r17.2.1)],h1 [(2,.arr 61 T8 r17.2.2.2),(3,.arr 64 T8 r19.2.2.2)],4⟩)]) (fun z21b=>[(1,⟨[(8,.dat .bool false)],[],0⟩)]) z21,?_,?_⟩
   ·have q:=hz21
    clear hz21
    unfold f5_j6 at q
    refine OL (cN q (fun q=>?_) (fun q=>?_))
    ·refine gY (gY (cF (cN q (fun q=>?_) (fun q=>?_))))
     ·refine gY (gY ?_)
      obtain ⟨r22,h,q⟩:=bE q
      refine OL (cD H13 (r17.2.2.1,r19.2.2.1) h rfl (R2 (AI (fun _=>rfl) (R2 (AI TV (AI TV (gY (cF (cI q (fun q=>?_) (fun q=>?_))))))))))
      ·cases sE q
       refine OL (E4 [] (R2 (AI TV TV)))
      cases sE q
      refine E4 (iuR [2,4,8,14]) (R2 (AI (R2 TV) (R4 TV)))
     refine gN (gN (gN (cT (cT (OL ?_)))))
     cases sE q
     refine E4 [] (R2 (AI TV TV))
    refine gN (gN (cT (gN (gN (gN (gN (cT (cT (OL ?_)))))))))
    cases sE q
    refine E4 [] (R2 (AI TV TV))
   rcases z21 with z21a | z21b
   ·dsimp only [Fx] at q
    refine AI (OL (OL (cI q (fun q=>?_) (fun q=>?_)))) TV
    ·cases sE q
     refine OL (AI rfl (E4 [] (R2 (AI TV TV))))
    refine OL (OL ?_)
    obtain ⟨z25,h,q⟩:=bE q
    refine lJ h (fun x=>⟨[(12,P0 0 0),(13,P0 1 0),(20,.dat T1 x.1)],h1 [(2,.arr 61 T8 x.2),(3,.arr 64 T8 r19.2.2.2)],4⟩) (fun z=>Sum.elim (fun za=>[(1,⟨[(8,.dat .bool false)],[],0⟩)]) (fun zb=>[(2,⟨[(12,P0 0 0),(13,P0 1 0)],h1 [(2,.arr 61 T8 zb),(3,.arr 64 T8 r19.2.2.2)],4⟩)]) z) (E4 I4 (R2 (AI (R2 TV) (R4 TV)))) (fun m=>F3 (fun i=>fun l2 z q=>?_)) ?_
    ·have q:f5_l7 r19 _ i l2=some z:=q
     unfold f5_l7 at q
     refine OL (OL (cI q (fun q=>?_) (fun q=>?_)))
     ·refine OL (OL ?_)
      obtain ⟨r26,h,q⟩:=bE q
      refine OL (cB H23 (l2,i) (iuR [1,3]) false h rfl (AI rfl (AI NH (R2 (AJ (AI (R2 TV) (OL (OL (EI (tU 0 65 (.alt 65 (.take 66 (.take 67 .done)) .done)) (EI [] (EI [] (AI rfl ?_))))))))))))
      refine cN q (fun q=>?_) (fun q=>?_)
      ·refine gY (gY (gY (gY (gY (gY (gY (gI q (fun q=>?_))))))))
       refine gY (gY (gY (cF (cN q (fun q=>?_) (fun q=>?_)))))
       ·refine gY (gY (gY (gY (gY (gY (gY (gI q (fun q=>?_))))))))
        refine gY (gY (gY (cF (cN q (fun q=>?_) (fun q=>?_)))))
        ·refine gY (gY (gY (gY (gY (gY (gY (gI q (fun q=>?_))))))))
         refine gY (gY (gY (cF (cN q (fun q=>?_) (fun q=>?_)))))
         ·refine gY (gY (gY (gY (gY (gY (gY (gI q (fun q=>?_))))))))
          refine gY (gY (gY (cF (cN q (fun q=>?_) (fun q=>?_)))))
          ·refine gY (gY (gY (gY (gY (gY (gY (gI q (fun q=>?_))))))))
           refine gY (gY (AI TV (gY ?_)))
           obtain ⟨q22_65,h,q⟩:=bE q
           refine OL (cD H24 ((r26.2.2.2.2.2.1,r26.2.2.2.2.2.2.1),((((((rd (Ty.z T8) r19.2.2.2 i).2).2).2).2).1,(((((rd (Ty.z T8) r19.2.2.2 i).2).2).2).2).2)) h rfl (R4 (AI (fun _=>rfl) (R2 (AI TV (AI TV (gY (cF (cI q (fun q=>?_) (fun q=>?_))))))))))
           ·cases sE q
            refine OL (E4 [] (R2 (AI TV TV)))
           refine EI ((i64.wrap (i+1)),r26.2.2.2.2.2.2.2) (AI q (E4 I4 (R2 (AI (R2 TV) (R4 TV)))))
          refine gN (gN (gN (gN (gN (gN (gN (gN (gN (AI TV (gN (gN (cT (cT (OL ?_))))))))))))))
          cases sE q
          refine E4 [] (R2 (AI TV TV))
         refine gN (gN (gN (gN (gN (gN (gN (gN (gN (gN (cT (gN (gN (gN (gN (gN (gN (gN (gN (gN (gN (AI TV (gN (gN (cT (cT (OL ?_))))))))))))))))))))))))))
         cases sE q
         refine E4 [] (R2 (AI TV TV))
        refine gN (gN (gN (gN (gN (gN (gN (gN (gN (gN (cT (gN (gN (gN (gN (gN (gN (gN (gN (gN (gN (gN (cT (gN (gN (gN (gN (gN (gN (gN (gN (gN (gN (AI TV (gN (gN (cT (cT (OL ?_))))))))))))))))))))))))))))))))))))))
        cases sE q
        refine E4 [] (R2 (AI TV TV))
       refine gN (gN (gN (gN (gN (gN (gN (gN (gN (gN (cT (gN (gN (gN (gN (gN (gN (gN (gN (gN (gN (gN (cT (gN (gN (gN (gN (gN (gN (gN (gN (gN (gN (gN (cT (gN (gN (gN (gN (gN (gN (gN (gN (gN (gN (AI TV (gN (gN (cT (cT (OL ?_))))))))))))))))))))))))))))))))))))))))))))))))))
       cases sE q
       refine E4 [] (R2 (AI TV TV))
      refine gN (gN (gN (gN (gN (gN (gN (gN (gN (gN (cT (gN (gN (gN (gN (gN (gN (gN (gN (gN (gN (gN (cT (gN (gN (gN (gN (gN (gN (gN (gN (gN (gN (gN (cT (gN (gN (gN (gN (gN (gN (gN (gN (gN (gN (gN (cT (gN (gN (gN (gN (gN (gN (gN (gN (gN (gN (AI TV (gN (gN (cT (cT (OL ?_))))))))))))))))))))))))))))))))))))))))))))))))))))))))))))))
      cases sE q
      refine E4 [] (R2 (AI TV TV))
     cases sE q
     refine E4 I4 (AI rfl (AI (R2 TV) (R4 TV)))
    rcases z25 with z25a | z25b
    ·dsimp only [Fx] at q
     refine AI ?_ TV
     cases sE q
     refine AI rfl (E4 [] (R2 (AI TV TV)))
    dsimp only [Fx] at q
    refine AI (OL (EI (.take 0 (tU 2 5 (.alt 1 (.take 7 (.take 8 .done)) .done))) (EI [] (EI [] (AI rfl (AI TV ?_)))))) TV
    obtain ⟨q24_1,h,q⟩:=bE q
    refine OL (cB H25 z25b (iuR [1,3]) false h rfl (AI NH (R2 (AJ (AI (R2 TV) ?_)))))
    cases sE q
    refine AI rfl (E4 [] (R2 (AI TV TV)))
   dsimp only [Fx] at q
   refine AI ?_ TV
   cases sE q
   refine AI rfl (E4 [] (R2 (AI TV TV)))
  dsimp only [Fx] at q
  refine AI ?_ TV
  cases sE q
  refine AI rfl (E4 [] (R2 (AI TV TV)))
 dsimp only [Fx] at q
 refine AI ?_ TV
 cases sE q
 refine AI rfl (E4 [] (R2 (AI TV TV)))
theorem H5:HI C5 5:=hI Tryz.f5 rfl fun x=>V5 x.1 x.2.1 x.2.2.1 x.2.2.2
end Go.Proofs
