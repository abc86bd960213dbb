import Derived.Test.YtdnlicefpmiljaaGreatDoorModelRunsS1
set_option linter.unusedVariables false
set_option maxRecDepth 100000
set_option maxHeartbeats 8000000
namespace Go.Proofs
open Go.AM
open IntKind (i64 u64 i32 u32 i16 u16 i8 u8)
def f172_l1 (a b:LI) (go:PTz1→Option (Int×F9)) (v12 c0_0 c0_1 c0_2:Int):Option (Int×F9):=
 bif (decide (v12<(if (b.length:Int)<a.length then (b.length:Int) else (a.length:Int)))) then
 E9 (0≤v12∧v12<a.length)<|
 E9 (0≤v12∧v12<b.length)<|
 Ey (f176 c0_0 c0_1 c0_2 (rd 0 a v12) (rd 0 b v12)) fun q5_8=>
 go ((i64.wrap (v12+1)),q5_8.1,q5_8.2.1,q5_8.2.2)
 else
 some (c0_0,c0_1,c0_2)
def f172 (a b:LI):Option Int:=
 Ey (Fq (fun go x=>f172_l1 a b go x.1 x.2.1 x.2.2.1 x.2.2.2) Fv ((0:Int),(0:Int),(0:Int),(0:Int))) fun z1=>
 Ey (f177 z1.1 z1.2.1 z1.2.2 (32:Int)) fun r2=>
 some r2.1
def C172:Con:=⟨Fy,Int,0,fun x=>[.dat T6 x.1,.dat T6 x.2],NX,fun x=>f172 x.1 x.2,fun y=>[.dat T1 y],NX,0⟩
theorem V172 a b y (q:f172 a b=some y):VC Tryz.f172 C172 (a,b) y:=by
 unfold f172 at q
 refine OL (OL (OL (OL ?_)))
 obtain ⟨z1,h,q⟩:=bE q
 refine lJ h (fun x=>⟨[(0,.dat T6 a),(1,.dat T6 b),(5,P0 0 0),(11,.dat T1 (if (b.length:Int)<a.length then (b.length:Int) else (a.length:Int))),(12,.dat T1 x.1)],[(0,.cells [(.d T1 x.2.1),(.d T1 x.2.2.1),(.d T10 x.2.2.2)])],1⟩) (fun z=>[(2,⟨[(5,P0 0 0)],[(0,.cells [(.d T1 z.1),(.d T1 z.2.1),(.d T10 z.2.2)])],1⟩)]) (E4 (iuR [1]) (R5 (AJ (AI rfl TV)))) (fun m=>F3 (fun v12=>F3 (fun c0_0=>F3 (fun c0_1=>fun c0_2 z q=>?_)))) ?_
 ·have q:f172_l1 a b _ v12 c0_0 c0_1 c0_2=some z:=q
  unfold f172_l1 at q
  refine OL (OL (cI q (fun q=>?_) (fun q=>?_)))
  ·refine OL (OL (EI (tU 0 8 (.alt 8 .done .done)) (EI [] (EI [] (AI rfl (gI q (fun q=>?_)))))))
   refine gI q (fun q=>?_)
   refine AI TV ?_
   obtain ⟨q5_8,h,q⟩:=bE q
   refine OL (cB H176 (c0_0,c0_1,c0_2,(rd 0 a v12),(rd 0 b v12)) (iuR [1]) false h rfl (R2 (AI NH (R2 (AJ (AJ (EI ((i64.wrap (v12+1)),q5_8.1,q5_8.2.1,q5_8.2.2) (AI q (E4 (iuR [1]) (R5 (AJ (AI rfl TV))))))))))))
  cases sE q
  refine E4 (iuR [1]) (AI rfl (AJ (AI rfl TV)))
 refine AI (OL ?_) TV
 obtain ⟨r2,h,q⟩:=bE q
 refine OL (cB H177 (z1.1,z1.2.1,z1.2.2,(32:Int)) (iuR [1]) false h rfl (AI rfl (AI NH (R2 (AJ (AJ ?_))))))
 cases sE q
 refine AI rfl (E4 [] (R2 (AI TV TV)))
theorem H172:HI C172 172:=hI Tryz.f172 rfl fun x=>V172 x.1 x.2
def f141_j4 (a b:Fy):Option Bool:=
 Ey (f91 (a.1,a.2)) fun r9=>
 bif (!r9) then
 some true
 else
 Ey (f91 (b.1,b.2)) fun r10=>
 some (!r10)
def f141_j5 (a b:Fy):Option Bool:=
 Ey (f170 (a.1,a.2)) fun q3_1=>
 bif (!q3_1) then
 some true
 else
 Ey (f170 (b.1,b.2)) fun q3_5=>
 bif (!q3_5) then
 some true
 else
 E9 (0≤(1:Int)∧1<(a.1.length:Int))<|
 E9 (0≤(0:Int)∧0<(b.1.length:Int))<|
 some ((rd 0 a.1 1) != (rd 0 b.1 0))
def f141_j3 (a b:Fy):Option (Sum Unit Int):=
 Ey (f141_j4 a b) fun z8=>
 bif z8 then
 some (Sum.inr (1:Int))
 else
 Ey (f141_j5 a b) fun z11=>
 bif z11 then
 some (Sum.inr (4:Int))
 else
 some (Sum.inl ())
def f141_l9 (a b:Fy) (r12:Gz) (v74:Int) (go:K4→Option LI) (v78:Int) (l5_2:LI):Option LI:=
 bif (decide (v78<(rd 0 b.1 1))) then
 E9 (0≤(i64.wrap (v74*(rd 0 a.1 1)))∧(i64.wrap (v74*(rd 0 a.1 1)))≤(i64.wrap ((i64.wrap (v74+1))*(rd 0 a.1 1)))∧(i64.wrap ((i64.wrap (v74+1))*(rd 0 a.1 1)))≤a.2.length)<|
 E9 (0≤(i64.wrap (v78*(rd 0 a.1 1)))∧(i64.wrap (v78*(rd 0 a.1 1)))≤(i64.wrap ((i64.wrap (v78+1))*(rd 0 a.1 1)))∧(i64.wrap ((i64.wrap (v78+1))*(rd 0 a.1 1)))≤r12.2.2.length)<|
 Ey (f172 (List.drop (Int.toNat (i64.wrap (v74*(rd 0 a.1 1)))) (List.take (Int.toNat (i64.wrap ((i64.wrap (v74+1))*(rd 0 a.1 1)))) a.2)) (List.drop (Int.toNat (i64.wrap (v78*(rd 0 a.1 1)))) (List.take (Int.toNat (i64.wrap ((i64.wrap (v78+1))*(rd 0 a.1 1)))) r12.2.2))) fun q16_27=>
 E9 (0≤(i64.wrap ((i64.wrap (v74*(rd 0 b.1 1)))+v78))∧(i64.wrap ((i64.wrap (v74*(rd 0 b.1 1)))+v78))<l5_2.length)<|
 go ((i64.wrap (v78+1)),(List.set l5_2 (Int.toNat (i64.wrap ((i64.wrap (v74*(rd 0 b.1 1)))+v78))) q16_27))
 else
 some l5_2
def f141_l8 (a b:Fy) (r12:Gz) (go:K4→Option LI) (v74:Int) (l5:LI):Option LI:=
 bif (decide (v74<(rd 0 a.1 0))) then
 Ey (Fq (fun go x=>f141_l9 a b r12 v74 go x.1 x.2) Fv ((0:Int),l5)) fun z16=>
 go ((i64.wrap (v74+1)),z16)
 else
 some l5
def f141 (a b:Fy):Option Gz:=
 Ey (f141_j3 a b) fun z6=>
 Fx z6 (fun z6a=>
 E9 (0≤(0:Int)∧0<(a.1.length:Int))<|
 E9 (0≤(1:Int)∧1<(a.1.length:Int))<|
 E9 (0≤(1:Int)∧1<(b.1.length:Int))<|
 Ey (f171 ([(rd 0 a.1 0),(rd 0 b.1 1)]) (0:Int)) fun q5_14=>
 bif (q5_14.1 != 0) then
 some ((2:Int),[],[])
 else
 Ey (f144 (b.1,b.2)) fun r12=>
 Ey (Fq (fun go x=>f141_l8 a b r12 go x.1 x.2) Fv ((0:Int),q5_14.2.2)) fun z15=>
 some ((0:Int),q5_14.2.1,z15)) (fun z6b=>
 some (z6b,[],[]))
def C141:Con:=⟨Fy×Fy,Gz,0,fun x=>[.dat T9 x.1,.dat T9 x.2],NX,fun x=>f141 x.1 x.2,fun y=>[.raw true [(.osl 0),(.osl 1)],.dat T1 y.1],fun y=>[(0,.arr 3 T1 y.2.1),(1,.arr 57 T1 y.2.2)],2⟩
theorem V141 a b y (q:f141 a b=some y):VC Tryz.f141 C141 (a,b) y:=by
 unfold f141 at q
 refine OL ?_
 obtain ⟨z6,hz6,q⟩:=bE q
 let e0:LE:=fun zz=>(2,P0 0 0)::(3,P0 1 0)::(4,P0 2 0)::zz
 let h1:LH:=fun zz=>(0,.cells [(.d T6 a.1),(.d T6 a.2)])::zz
 let h2:LH:=fun zz=>h1 ((1,.cells [(.d T6 b.1),(.d T6 b.2)])::(2,.cells [N0,N0])::zz)
 refine OQ ⟨Sum.elim (fun z6a=>[(0,⟨e0 [],h2 [],3⟩)]) (fun z6b=>[(1,⟨[(4,P0 0 0),(5,.dat T1 z6b)],[(0,.cells [N0,N0])],1⟩)]) z6,?_,?_⟩
 ·have q:=hz6
  clear hz6
  unfold f141_j3 at q
  obtain ⟨z8,hz8,q⟩:=bE q
  refine OQ ⟨[(0,⟨e0 [(15,.dat .bool z8)],h2 [],3⟩)],?_,?_⟩
  ·have q:=hz8
   clear hz8
   unfold f141_j4 at q
   obtain ⟨r9,h,q⟩:=bE q
   refine OL (cA H91 (a.1,a.2) h rfl (R2 (K0 (cN q (fun q=>?_) (fun q=>?_)))))
   ·refine gY ?_
    obtain ⟨r10,h,q⟩:=bE q
    refine OL (cA H91 (b.1,b.2) h rfl (R2 (K0 (gY (cF ?_)))))
    cases sE q
    refine E4 I3 (R2 (AI (R3 TV) (R3 TV)))
   refine gN (gN (cT ?_))
   cases sE q
   refine E4 I3 (R2 (AI (R3 TV) (R3 TV)))
  refine AI (cI q (fun q=>?_) (fun q=>?_)) TV
  ·refine OL (OL ?_)
   cases sE q
   refine E4 (iuR [3]) (R2 (AJ (AI rfl TV)))
  obtain ⟨z11,hz11,q⟩:=bE q
  refine OQ ⟨[(0,⟨e0 [(25,.dat .bool z11)],h2 [],3⟩)],?_,?_⟩
  ·have q:=hz11
   clear hz11
   unfold f141_j5 at q
   refine EI (.take 0 (.alt 1 (tU 2 3 (.alt 5 (tU 6 14 .done) .done)) .done)) (EI [] (EI [] (AI rfl (AI TV ?_))))
   obtain ⟨q3_1,h,q⟩:=bE q
   refine OL (cA H170 (a.1,a.2) h rfl (R2 (K0 (cN q (fun q=>?_) (fun q=>?_)))))
   ·refine AI TV (gY ?_)
    obtain ⟨q3_5,h,q⟩:=bE q
    refine OL (cA H170 (b.1,b.2) h rfl (R2 (K0 (gY (cF (cN q (fun q=>?_) (fun q=>?_)))))))
    ·refine gY (gY (gI q (fun q=>?_)))
     refine gY (gY (gY (gY (gI q (fun q=>?_)))))
     refine gY (gY (cF ?_))
     cases sE q
     refine E4 I3 (R2 (AI (R3 TV) (R3 TV)))
    refine gN (gN (gN (gN (gN (gN (gN (gN (cT ?_))))))))
    cases sE q
    refine E4 I3 (R2 (AI (R3 TV) (R3 TV)))
   refine AI TV (gN (gN (cT (gN (gN (gN (gN (gN (gN (gN (gN (gN (cT ?_)))))))))))))
   cases sE q
   refine E4 I3 (R2 (AI (R3 TV) (R3 TV)))
  refine AI (cI q (fun q=>?_) (fun q=>?_)) TV
  ·refine OL (OL ?_)
   cases sE q
   refine E4 (iuR [3]) (R2 (AJ (AI rfl TV)))
  cases sE q
  refine E4 I3 (AI rfl (AI (R3 TV) (R3 TV)))
 rcases z6 with z6a | z6b
 ·dsimp only [Fx] at q
  refine AI (OL (EI (tU 0 15 .done) (EI [] (EI [] (AI rfl (gI q (fun q=>?_))))))) TV
  refine gI q (fun q=>?_)
  refine gI q (fun q=>?_)
  refine OL (OL ?_)
  obtain ⟨q5_14,h,q⟩:=bE q
  refine OL (cD H171 ([(rd 0 a.1 0),(rd 0 b.1 1)],(0:Int)) h rfl (R2 (AI (fun _=>rfl) (R2 (AI TV (AI TV (OL (OL (OL (cI q (fun q=>?_) (fun q=>?_)))))))))))
  ·refine OL (OL ?_)
   cases sE q
   refine AI rfl (E4 (iuR [0,0]) (R2 (AJ (R2 TV))))
  refine OL ?_
  obtain ⟨r12,h,q⟩:=bE q
  refine OL (cA H144 (b.1,b.2) h rfl (R2 (K0 (OL (OL (OL ?_))))))
  obtain ⟨z15,hz15,q⟩:=bE q
  let e3:LE:=fun zz=>(2,P0 0 0)::(4,P0 1 0)::(7,.dat T1 (rd 0 a.1 1))::(8,.dat T1 (rd 0 b.1 1))::(9,P0 2 0)::(11,P0 3 0)::zz
  let h4:LH:=fun zz=>h1 ((1,.cells [N0,N0])::(2,.cells [(.osl 4),(.osl 5)])::(3,.cells [(.osl 6),(.d T6 r12.2.2)])::(4,.arr 3 T1 q5_14.2.1)::zz)
  refine lJ hz15 (fun x=>⟨e3 [(73,.dat T1 (rd 0 a.1 0)),(74,.dat T1 x.1)],h4 [(5,.arr 57 T1 x.2),(6,.arr 3 T1 r12.2.1)],7⟩) (fun z=>[(3,⟨[(4,P0 0 0),(9,P0 1 0)],[(0,.cells [N0,N0]),(1,.cells [(.osl 2),(.osl 3)]),(2,.arr 3 T1 q5_14.2.1),(3,.arr 57 T1 z)],4⟩)]) (EI [] (EI [] (EI [] (EI [8] (EI (iuR [1,3,7,10,5,6,8]) (R5 (AI (R4 TV) (R7 TV)))))))) (fun m=>F3 (fun v74=>fun l5 z q=>?_)) ?_
  ·have q:f141_l8 a b r12 _ v74 l5=some z:=q
   unfold f141_l8 at q
   refine OL (OL (cI q (fun q=>?_) (fun q=>?_)))
   ·refine OL (OL (OL ?_))
    obtain ⟨z16,h,q⟩:=bE q
    refine lJ h (fun x=>⟨e3 [(13,.dat T1 v74),(73,.dat T1 (rd 0 a.1 0)),(74,.dat T1 v74),(77,.dat T1 (rd 0 b.1 1)),(78,.dat T1 x.1)],h4 [(5,.arr 57 T1 x.2),(6,.arr 3 T1 r12.2.1)],7⟩) (fun z=>[(5,⟨e3 [(73,.dat T1 (rd 0 a.1 0)),(74,.dat T1 v74)],h4 [(5,.arr 57 T1 z),(6,.arr 3 T1 r12.2.1)],7⟩)]) (E4 I7 (R8 (AI (R4 TV) (R7 TV)))) (fun m=>F3 (fun v78=>fun l5_2 z q=>?_)) ?_
    ·have q:f141_l9 a b r12 v74 _ v78 l5_2=some z:=q
     unfold f141_l9 at q
     refine OL (OL (cI q (fun q=>?_) (fun q=>?_)))
     ·refine OL (OL (EI (tU 0 26 (.alt 26 (.alt 27 (.take 28 (.alt 29 .done .done)) .done) .done)) (EI [] (EI [] (AI rfl (gI q (fun q=>?_)))))))
      refine AI TV (gI q (fun q=>?_))
      refine AI TV ?_
      obtain ⟨q16_27,h,q⟩:=bE q
      refine OL (cA H172 ((List.drop (Int.toNat (i64.wrap (v74*(rd 0 a.1 1)))) (List.take (Int.toNat (i64.wrap ((i64.wrap (v74+1))*(rd 0 a.1 1)))) a.2)),(List.drop (Int.toNat (i64.wrap (v78*(rd 0 a.1 1)))) (List.take (Int.toNat (i64.wrap ((i64.wrap (v78+1))*(rd 0 a.1 1)))) r12.2.2))) h rfl (R2 (K0 (gI q (fun q=>?_)))))
      refine AI TV (OL (EI ((i64.wrap (v78+1)),(List.set l5_2 (Int.toNat (i64.wrap ((i64.wrap (v74*(rd 0 b.1 1)))+v78))) q16_27)) (AI q (E4 I7 (R8 (AI (R4 TV) (R7 TV)))))))
     cases sE q
     refine E4 I7 (R5 (AI (R4 TV) (R7 TV)))
    refine AI (EI ((i64.wrap (v74+1)),z16) (AI q (E4 I7 (R5 (AI (R4 TV) (R7 TV)))))) TV
   cases sE q
   refine E4 (iuR [2,3,5,6]) (AI rfl (AI (R2 TV) (R4 TV)))
  refine AI (OL (OL ?_)) TV
  cases sE q
  refine AI rfl (E4 (iuR [3,4]) (R2 (AJ (R2 TV))))
 dsimp only [Fx] at q
 refine AI ?_ TV
 cases sE q
 refine AI rfl (E4 (iuR [0,0]) (R2 (AJ (R2 TV))))
theorem H141:HI C141 141:=hI Tryz.f141 rfl fun x=>V141 x.1 x.2
def f173 (step:Int):Option Bool:=
 bif (decide (step≥1)) then
 some (decide (step≤64))
 else
 some false
def C173:Con:=⟨Int,Bool,0,fun x=>[.dat T1 x],NX,fun x=>f173 x,fun y=>[.dat .bool y],NX,0⟩
theorem V173 step y (q:f173 step=some y):VC Tryz.f173 C173 step y:=by
 unfold f173 at q
 refine OL (OL (cI q (fun q=>?_) (fun q=>?_)))
 ·refine gX (cT ?_)
  cases sE q
  refine AI rfl (E4 [] (R2 (AI TV TV)))
 refine gM (cF ?_)
 cases sE q
 refine AI rfl (E4 [] (R2 (AI TV TV)))
theorem H173:HI C173 173:=hI Tryz.f173 rfl fun x=>V173 x
def f174 (long wide step:Int):Option Int:=
 bif (decide (wide>long)) then
 some (0:Int)
 else
 E9 (step≠0)<|
 some (i64.wrap ((i64.wrap (Int.tdiv (i64.wrap (long-wide)) step))+1))
def C174:Con:=⟨Int×F9,Int,0,fun x=>[.dat T1 x.1,.dat T1 x.2.1,.dat T1 x.2.2],NX,fun x=>f174 x.1 x.2.1 x.2.2,fun y=>[.dat T1 y],NX,0⟩
theorem V174 long wide step y (q:f174 long wide step=some y):VC Tryz.f174 C174 (long,wide,step) y:=by
 unfold f174 at q
 refine OL (OL (OL (cI q (fun q=>?_) (fun q=>?_))))
 ·cases sE q
  refine OL (AI rfl (E4 [] (R2 (AI TV TV))))
 refine OL (gI q (fun q=>?_))
 cases sE q
 refine AI rfl (E4 [] (R2 (AI TV TV)))
theorem H174:HI C174 174:=hI Tryz.f174 rfl fun x=>V174 x.1 x.2.1 x.2.2
def f175 (d:LI):Option Gz:=
 Ey (f171 d (0:Int)) fun r1=>
 bif (r1.1 != 0) then
 some ((2:Int),[],[])
 else
 some ((0:Int),r1.2.1,r1.2.2)
def C175:Con:=⟨LI,Gz,0,fun x=>[.dat T6 x],NX,fun x=>f175 x,fun y=>[.raw true [(.osl 0),(.osl 1)],.dat T1 y.1],fun y=>[(0,.arr 3 T1 y.2.1),(1,.arr 57 T1 y.2.2)],2⟩
theorem V175 d y (q:f175 d=some y):VC Tryz.f175 C175 d y:=by
 unfold f175 at q
 refine OL (OL ?_)
 obtain ⟨r1,h,q⟩:=bE q
 refine OL (cA H171 (d,(0:Int)) h rfl (R2 (K0 (OL (OL (OL (cI q (fun q=>?_) (fun q=>?_))))))))
 ·refine OL (OL ?_)
  cases sE q
  refine AI rfl (E4 (iuR [0,0]) (R2 (AJ (R2 TV))))
 refine OL (OL ?_)
 cases sE q
 refine AI rfl (E4 (iuR [2,3]) (R2 (AJ (R2 TV))))
theorem H175:HI C175 175:=hI Tryz.f175 rfl fun x=>V175 x
def f142_j4 (a k:Fy) (step:Int):Option Bool:=
 Ey (f91 (a.1,a.2)) fun r12=>
 bif (!r12) then
 some true
 else
 Ey (f91 (k.1,k.2)) fun r13=>
 bif (!r13) then
 some true
 else
 Ey (f173 step) fun r14=>
 some (!r14)
def f142_j5 (a k:Fy):Option Bool:=
 bif ((a.1.length:Int) != 2) then
 some true
 else
 bif ((k.1.length:Int) != 3) then
 some true
 else
 E9 (0≤(1:Int)∧1<(k.1.length:Int))<|
 E9 (0≤(0:Int)∧0<(a.1.length:Int))<|
 bif ((rd 0 k.1 1) != (rd 0 a.1 0)) then
 some true
 else
 E9 (0≤(2:Int)∧2<(k.1.length:Int))<|
 E9 (0≤(1:Int)∧1<(a.1.length:Int))<|
 some (decide ((rd 0 k.1 2)>(rd 0 a.1 1)))
def f142_j3 (a k:Fy) (step:Int):Option (Sum Unit Int):=
 Ey (f142_j4 a k step) fun z11=>
 bif z11 then
 some (Sum.inr (1:Int))
 else
 Ey (f142_j5 a k) fun z15=>
 bif z15 then
 some (Sum.inr (4:Int))
 else
 some (Sum.inl ())
def f142_l18 (a k:Fy) (step q5_14 v102 v112:Int) (go:PTz1→Option (Int×F9)) (v116 c4_0_2 c4_1_2 c4_2_2:Int):Option (Int×F9):=
 bif (decide (v116<(rd 0 k.1 2))) then
 E9 (0≤(i64.wrap ((i64.wrap ((i64.wrap (v112*(rd 0 a.1 1)))+(i64.wrap ((Int.tmod v102 q5_14)*step))))+v116))∧(i64.wrap ((i64.wrap ((i64.wrap (v112*(rd 0 a.1 1)))+(i64.wrap ((Int.tmod v102 q5_14)*step))))+v116))<a.2.length)<|
 E9 (0≤(i64.wrap ((i64.wrap ((i64.wrap ((i64.wrap ((i64.wrap (Int.tdiv v102 q5_14))*(rd 0 a.1 0)))+v112))*(rd 0 k.1 2)))+v116))∧(i64.wrap ((i64.wrap ((i64.wrap ((i64.wrap ((i64.wrap (Int.tdiv v102 q5_14))*(rd 0 a.1 0)))+v112))*(rd 0 k.1 2)))+v116))<k.2.length)<|
 Ey (f176 c4_0_2 c4_1_2 c4_2_2 (rd 0 a.2 (i64.wrap ((i64.wrap ((i64.wrap (v112*(rd 0 a.1 1)))+(i64.wrap ((Int.tmod v102 q5_14)*step))))+v116))) (rd 0 k.2 (i64.wrap ((i64.wrap ((i64.wrap ((i64.wrap ((i64.wrap (Int.tdiv v102 q5_14))*(rd 0 a.1 0)))+v112))*(rd 0 k.1 2)))+v116)))) fun q21_26=>
 go ((i64.wrap (v116+1)),q21_26.1,q21_26.2.1,q21_26.2.2)
 else
 some (c4_0_2,c4_1_2,c4_2_2)
def f142_l17 (a k:Fy) (step q5_14 v102:Int) (go:PTz1→Option (Int×F9)) (v112 c4_0 c4_1 c4_2:Int):Option (Int×F9):=
 bif (decide (v112<(rd 0 a.1 0))) then
 Ey (Fq (fun go x=>f142_l18 a k step q5_14 v102 v112 go x.1 x.2.1 x.2.2.1 x.2.2.2) Fv ((0:Int),c4_0,c4_1,c4_2)) fun z29=>
 go ((i64.wrap (v112+1)),z29.1,z29.2.1,z29.2.2)
 else
 some (c4_0,c4_1,c4_2)
def f142_l14 (a k:Fy) (step q5_14:Int) (r16:Gz) (go:K4→Option LI) (v102:Int) (l5:LI):Option LI:=
 bif (decide (v102<r16.2.2.length)) then
 E9 (q5_14≠0)<|
 E9 (q5_14≠0)<|
 Ey (Fq (fun go x=>f142_l17 a k step q5_14 v102 go x.1 x.2.1 x.2.2.1 x.2.2.2) Fv ((0:Int),(0:Int),(0:Int),(0:Int))) fun z28=>
 Ey (f177 z28.1 z28.2.1 z28.2.2 (32:Int)) fun q24_3=>
 E9 (0≤v102∧v102<l5.length)<|
 go ((i64.wrap (v102+1)),(List.set l5 (Int.toNat v102) q24_3.1))
 else
 some l5
def f142 (a k:Fy) (step:Int):Option Gz:=
 Ey (f142_j3 a k step) fun z8=>
 Fx z8 (fun z8a=>
 E9 (0≤(0:Int)∧0<(a.1.length:Int))<|
 E9 (0≤(1:Int)∧1<(a.1.length:Int))<|
 E9 (0≤(2:Int)∧2<(k.1.length:Int))<|
 Ey (f174 (rd 0 a.1 1) (rd 0 k.1 2) step) fun q5_14=>
 E9 (0≤(0:Int)∧0<(k.1.length:Int))<|
 Ey (f175 ([(rd 0 k.1 0),q5_14])) fun r16=>
 bif (r16.1 != 0) then
 some (r16.1,[],[])
 else
 Ey (Fq (fun go x=>f142_l14 a k step q5_14 r16 go x.1 x.2) Fv ((0:Int),r16.2.2)) fun z25=>
 some ((0:Int),r16.2.1,z25)) (fun z8b=>
 some (z8b,[],[]))
def C142:Con:=⟨Fy×Fy×Int,Gz,0,fun x=>[.dat T9 x.1,.dat T9 x.2.1,.dat T1 x.2.2],NX,fun x=>f142 x.1 x.2.1 x.2.2,fun y=>[.raw true [(.osl 0),(.osl 1)],.dat T1 y.1],fun y=>[(0,.arr 3 T1 y.2.1),(1,.arr 57 T1 y.2.2)],2⟩
theorem V142 a k step y (q:f142 a k step=some y):VC Tryz.f142 C142 (a,k,step) y:=by
 unfold f142 at q
 refine OL ?_
 obtain ⟨z8,hz8,q⟩:=bE q
 let e0:LE:=fun zz=>(2,.dat T1 step)::(3,P0 0 0)::(4,P0 1 0)::(6,P0 2 0)::zz
 let h1:LH:=fun zz=>(0,.cells [(.d T6 a.1),(.d T6 a.2)])::(1,.cells [(.d T6 k.1),(.d T6 k.2)])::(2,.cells [N0,N0])::zz
 refine OQ ⟨Sum.elim (fun z8a=>[(0,⟨e0 [],h1 [],3⟩)]) (fun z8b=>[(1,⟨[(6,P0 0 0),(7,.dat T1 z8b)],[(0,.cells [N0,N0])],1⟩)]) z8,?_,?_⟩
 ·have q:=hz8
  clear hz8
  unfold f142_j3 at q
  obtain ⟨z11,hz11,q⟩:=bE q
  refine OQ ⟨[(0,⟨e0 [(20,.dat .bool z11)],h1 [],3⟩)],?_,?_⟩
  ·have q:=hz11
   clear hz11
   unfold f142_j4 at q
   obtain ⟨r12,h,q⟩:=bE q
   refine OL (cA H91 (a.1,a.2) h rfl (R2 (K0 (cN q (fun q=>?_) (fun q=>?_)))))
   ·refine gY ?_
    obtain ⟨r13,h,q⟩:=bE q
    refine OL (cA H91 (k.1,k.2) h rfl (R2 (K0 (gY (cF (cN q (fun q=>?_) (fun q=>?_)))))))
    ·refine gY ?_
     obtain ⟨r14,h,q⟩:=bE q
     refine OL (cA H173 step h rfl (AI rfl (K0 (gY (cF ?_)))))
     cases sE q
     refine E4 I3 (R3 (AI (R3 TV) (R3 TV)))
    refine gN (gN (cT ?_))
    cases sE q
    refine E4 I3 (R3 (AI (R3 TV) (R3 TV)))
   refine gN (gN (cT (gN (gN (gN (cT ?_))))))
   cases sE q
   refine E4 I3 (R3 (AI (R3 TV) (R3 TV)))
  refine AI (cI q (fun q=>?_) (fun q=>?_)) TV
  ·refine OL (OL ?_)
   cases sE q
   refine E4 (iuR [3]) (R2 (AJ (AI rfl TV)))
  obtain ⟨z15,hz15,q⟩:=bE q
  refine OQ ⟨[(0,⟨e0 [(35,.dat .bool z15)],h1 [],3⟩)],?_,?_⟩
  ·have q:=hz15
   clear hz15
   unfold f142_j5 at q
   refine EI (tU 0 33 .done) (EI [] (EI [] (AI rfl (cN q (fun q=>?_) (fun q=>?_)))))
   ·refine gY (gY (gY (cF (cN q (fun q=>?_) (fun q=>?_)))))
    ·refine gY (gY (gI q (fun q=>?_)))
     refine gY (gY (gY (gY (gI q (fun q=>?_)))))
     refine gY (gY (cF (cN q (fun q=>?_) (fun q=>?_))))
     ·refine gY (gY (gI q (fun q=>?_)))
      refine gY (gY (gY (gY (gI q (fun q=>?_)))))
      refine gY (gY (cF ?_))
      cases sE q
      refine E4 I3 (R3 (AI (R3 TV) (R3 TV)))
     refine gN (gN (gN (gN (gN (gN (gN (gN (cT ?_))))))))
     cases sE q
     refine E4 I3 (R3 (AI (R3 TV) (R3 TV)))
    refine gN (gN (gN (gN (gN (gN (gN (gN (cT (gN (gN (gN (gN (gN (gN (gN (gN (gN (cT ?_))))))))))))))))))
    cases sE q
    refine E4 I3 (R3 (AI (R3 TV) (R3 TV)))
   refine gN (gN (gN (cT (gN (gN (gN (gN (gN (gN (gN (gN (gN (cT (gN (gN (gN (gN (gN (gN (gN (gN (gN (cT ?_)))))))))))))))))))))))
   cases sE q
   refine E4 I3 (R3 (AI (R3 TV) (R3 TV)))
  refine AI (cI q (fun q=>?_) (fun q=>?_)) TV
  ·refine OL (OL ?_)
   cases sE q
   refine E4 (iuR [3]) (R2 (AJ (AI rfl TV)))
  cases sE q
  refine E4 I3 (R2 (AI (R3 TV) (R3 TV)))
 rcases z8 with z8a | z8b
 ·dsimp only [Fx] at q
  refine AI (OL (EI (tU 0 15 .done) (EI [] (EI [] (AI rfl (gI q (fun q=>?_))))))) TV
  refine gI q (fun q=>?_)
  refine gI q (fun q=>?_)
  refine OL ?_
  obtain ⟨q5_14,h,q⟩:=bE q
  refine OL (cA H174 ((rd 0 a.1 1),(rd 0 k.1 2),step) h rfl (R3 (K0 (OL (gI q (fun q=>?_))))))
  refine OL ?_
  obtain ⟨r16,h,q⟩:=bE q
  refine OL (cD H175 [(rd 0 k.1 0),q5_14] h rfl (AI rfl (AI (fun _=>rfl) (R2 (AI TV (AI TV (OL (OL (OL (cI q (fun q=>?_) (fun q=>?_)))))))))))
  ·refine OL (OL ?_)
   cases sE q
   refine AI rfl (E4 (iuR [0,0]) (R2 (AJ (R2 TV))))
  refine OL (OL ?_)
  obtain ⟨z25,hz25,q⟩:=bE q
  let e2:LE:=fun zz=>e0 ((8,.dat T1 (rd 0 a.1 0))::(9,.dat T1 (rd 0 a.1 1))::(10,.dat T1 (rd 0 k.1 2))::(11,.dat T1 q5_14)::(12,P0 3 0)::zz)
  refine lJ hz25 (fun x=>⟨e2 [(101,.dat T1 (r16.2.2.length:Int)),(102,.dat T1 x.1)],h1 [(3,.cells [(.osl 4),(.osl 5)]),(4,.arr 3 T1 r16.2.1),(5,.arr 57 T1 x.2)],6⟩) (fun z=>[(3,⟨[(6,P0 0 0),(12,P0 1 0)],[(0,.cells [N0,N0]),(1,.cells [(.osl 2),(.osl 3)]),(2,.arr 3 T1 r16.2.1),(3,.arr 57 T1 z)],4⟩)]) (E4 (iuR [1,2,3,7,5,6]) (R8 (AI (R4 TV) (R6 TV)))) (fun m=>F3 (fun v102=>fun l5 z q=>?_)) ?_
  ·have q:f142_l14 a k step q5_14 r16 _ v102 l5=some z:=q
   unfold f142_l14 at q
   refine OL (OL (cI q (fun q=>?_) (fun q=>?_)))
   ·refine OL (OL (OL (EI (tU 0 8 .done) (EI [] (EI [] (AI rfl (gI q (fun q=>?_))))))))
    refine gI q (fun q=>?_)
    refine OL (OL (OL ?_))
    obtain ⟨z28,hz28,q⟩:=bE q
    let e3:LE:=fun zz=>e2 ((14,.dat T1 v102)::zz)
    let e4:LE:=fun zz=>e3 ((15,.dat T1 (i64.wrap (Int.tdiv v102 q5_14)))::(16,.dat T1 (Int.tmod v102 q5_14))::(17,P0 4 0)::zz)
    let e5:LE:=fun zz=>e4 ((101,.dat T1 (r16.2.2.length:Int))::(102,.dat T1 v102)::(111,.dat T1 (rd 0 a.1 0))::zz)
    let h6:LH:=fun zz=>h1 ((3,.cells [(.osl 5),(.osl 6)])::zz)
    refine lJ hz28 (fun x=>⟨e5 [(112,.dat T1 x.1)],h6 [(4,.cells [(.d T1 x.2.1),(.d T1 x.2.2.1),(.d T10 x.2.2.2)]),(5,.arr 3 T1 r16.2.1),(6,.arr 57 T1 l5)],7⟩) (fun z=>[(5,⟨e3 [(17,P0 4 0),(101,.dat T1 (r16.2.2.length:Int)),(102,.dat T1 v102)],h6 [(4,.cells [(.d T1 z.1),(.d T1 z.2.1),(.d T10 z.2.2)]),(5,.arr 3 T1 r16.2.1),(6,.arr 57 T1 l5)],7⟩)]) (E4 (iuR [1,2,3,4,7,5,6]) (R13 (AI (R5 TV) (R7 TV)))) (fun m=>F3 (fun v112=>F3 (fun c4_0=>F3 (fun c4_1=>fun c4_2 z q=>?_)))) ?_
    ·have q:f142_l17 a k step q5_14 v102 _ v112 c4_0 c4_1 c4_2=some z:=q
     unfold f142_l17 at q
     refine OL (OL (cI q (fun q=>?_) (fun q=>?_)))
     ·refine OL (OL (OL ?_))
      obtain ⟨z29,h,q⟩:=bE q
      refine lJ h (fun x=>⟨e4 [(18,.dat T1 v112),(101,.dat T1 (r16.2.2.length:Int)),(102,.dat T1 v102),(111,.dat T1 (rd 0 a.1 0)),(112,.dat T1 v112),(115,.dat T1 (rd 0 k.1 2)),(116,.dat T1 x.1)],h6 [(4,.cells [(.d T1 x.2.1),(.d T1 x.2.2.1),(.d T10 x.2.2.2)]),(5,.arr 3 T1 r16.2.1),(6,.arr 57 T1 l5)],7⟩) (fun z=>[(7,⟨e5 [(112,.dat T1 v112)],h6 [(4,.cells [(.d T1 z.1),(.d T1 z.2.1),(.d T10 z.2.2)]),(5,.arr 3 T1 r16.2.1),(6,.arr 57 T1 l5)],7⟩)]) (E4 I7 (R16 (AI (R5 TV) (R7 TV)))) (fun m=>F3 (fun v116=>F3 (fun c4_0_2=>F3 (fun c4_1_2=>fun c4_2_2 z q=>?_)))) ?_
      ·have q:f142_l18 a k step q5_14 v102 v112 _ v116 c4_0_2 c4_1_2 c4_2_2=some z:=q
       unfold f142_l18 at q
       refine OL (OL (cI q (fun q=>?_) (fun q=>?_)))
       ·refine OL (OL (EI (tU 0 26 (.alt 26 .done .done)) (EI [] (EI [] (AI rfl (gI q (fun q=>?_)))))))
        refine gI q (fun q=>?_)
        refine AI TV ?_
        obtain ⟨q21_26,h,q⟩:=bE q
        refine OL (cB H176 (c4_0_2,c4_1_2,c4_2_2,(rd 0 a.2 (i64.wrap ((i64.wrap ((i64.wrap (v112*(rd 0 a.1 1)))+(i64.wrap ((Int.tmod v102 q5_14)*step))))+v116))),(rd 0 k.2 (i64.wrap ((i64.wrap ((i64.wrap ((i64.wrap ((i64.wrap (Int.tdiv v102 q5_14))*(rd 0 a.1 0)))+v112))*(rd 0 k.1 2)))+v116)))) (iuR [5]) false h rfl (R2 (AI NH (R2 (AJ (AJ (EI ((i64.wrap (v116+1)),q21_26.1,q21_26.2.1,q21_26.2.2) (AI q (E4 I7 (R16 (AI (R5 TV) (R7 TV))))))))))))
       cases sE q
       refine E4 I7 (R13 (AI (R5 TV) (R7 TV)))
      refine AI (EI ((i64.wrap (v112+1)),z29.1,z29.2.1,z29.2.2) (AI q (E4 I7 (R13 (AI (R5 TV) (R7 TV)))))) TV
     cases sE q
     refine E4 I7 (R9 (AI (R5 TV) (R7 TV)))
    refine AI (EI (tU 0 3 (.alt 3 (.take 4 (.alt 5 .done .done)) .done)) (EI [] (EI [] (AI rfl (AI TV ?_))))) TV
    obtain ⟨q24_3,h,q⟩:=bE q
    refine OL (cB H177 (z28.1,z28.2.1,z28.2.2,(32:Int)) (iuR [5]) false h rfl (AI rfl (AI NH (R2 (AJ (AJ (gI q (fun q=>?_))))))))
    refine AI TV (OL (EI ((i64.wrap (v102+1)),(List.set l5 (Int.toNat v102) q24_3.1)) (AI q (E4 (iuR [1,2,3,4,6,7]) (R8 (AI (R4 TV) (R6 TV)))))))
   cases sE q
   refine E4 (iuR [3,4,5,6]) (AI rfl (AI (R2 TV) (R4 TV)))
  refine AI (OL (OL ?_)) TV
  cases sE q
  refine AI rfl (E4 (iuR [3,4]) (R2 (AJ (R2 TV))))
 dsimp only [Fx] at q
 refine AI ?_ TV
 cases sE q
 refine AI rfl (E4 (iuR [0,0]) (R2 (AJ (R2 TV))))
theorem H142:HI C142 142:=hI Tryz.f142 rfl fun x=>V142 x.1 x.2.1 x.2.2
def f120 (op:Int) (a b:Fy) (k:Int):Option Gz:=
 bif (op==2) then
 Ey (f138 (a.1,a.2) (b.1,b.2)) fun r1=>
 some (r1.1,r1.2.1,r1.2.2)
 else
 bif (op==3) then
 Ey (f139 (a.1,a.2) (b.1,b.2)) fun r2=>
 some (r2.1,r2.2.1,r2.2.2)
 else
 bif (op==4) then
 Ey (f140 (a.1,a.2) (b.1,b.2)) fun r3=>
 some (r3.1,r3.2.1,r3.2.2)
 else
 bif (op==6) then
 Ey (f141 (a.1,a.2) (b.1,b.2)) fun r4=>
 some (r4.1,r4.2.1,r4.2.2)
 else
 Ey (f142 (a.1,a.2) (b.1,b.2) k) fun r5=>
 some (r5.1,r5.2.1,r5.2.2)
def C120:Con:=⟨Int×Fy×Fy×Int,Gz,0,fun x=>[.dat T1 x.1,.dat T9 x.2.1,.dat T9 x.2.2.1,.dat T1 x.2.2.2],NX,fun x=>f120 x.1 x.2.1 x.2.2.1 x.2.2.2,fun y=>[.raw true [(.osl 0),(.osl 1)],.dat T1 y.1],fun y=>[(0,.arr 3 T1 y.2.1),(1,.arr 57 T1 y.2.2)],2⟩
theorem V120 op a b k y (q:f120 op a b k=some y):VC Tryz.f120 C120 (op,a,b,k) y:=by
 unfold f120 at q
 refine OL (OL (OL (OL (cI q (fun q=>?_) (fun q=>?_)))))
 ·refine OL ?_
  obtain ⟨r1,h,q⟩:=bE q
  refine OL (cA H138 ((a.1,a.2),(b.1,b.2)) h rfl (R4 (K0 (OL ?_))))
  cases sE q
  refine AI rfl (E4 (iuR [4,5]) (R2 (AJ (R2 TV))))
 refine OL (cI q (fun q=>?_) (fun q=>?_))
 ·refine OL ?_
  obtain ⟨r2,h,q⟩:=bE q
  refine OL (cA H139 ((a.1,a.2),(b.1,b.2)) h rfl (R4 (K0 (OL ?_))))
  cases sE q
  refine AI rfl (E4 (iuR [4,5]) (R2 (AJ (R2 TV))))
 refine OL (cI q (fun q=>?_) (fun q=>?_))
 ·refine OL ?_
  obtain ⟨r3,h,q⟩:=bE q
  refine OL (cA H140 ((a.1,a.2),(b.1,b.2)) h rfl (R4 (K0 (OL ?_))))
  cases sE q
  refine AI rfl (E4 (iuR [4,5]) (R2 (AJ (R2 TV))))
 refine OL (cI q (fun q=>?_) (fun q=>?_))
 ·refine OL ?_
  obtain ⟨r4,h,q⟩:=bE q
  refine OL (cA H141 ((a.1,a.2),(b.1,b.2)) h rfl (R4 (K0 (OL ?_))))
  cases sE q
  refine AI rfl (E4 (iuR [4,5]) (R2 (AJ (R2 TV))))
 refine OL ?_
 obtain ⟨r5,h,q⟩:=bE q
 refine OL (cA H142 ((a.1,a.2),(b.1,b.2),k) h rfl (R5 (K0 (OL ?_))))
 cases sE q
 refine AI rfl (E4 (iuR [4,5]) (R2 (AJ (R2 TV))))
theorem H120:HI C120 120:=hI Tryz.f120 rfl fun x=>V120 x.1 x.2.1 x.2.2.1 x.2.2.2
def f143_l1 (k:Int) (r1:Fy) (go:K4→Option LI) (v18:Int) (l2:LI):Option LI:=
 bif (decide (v18<r1.2.length)) then
 E9 (0≤v18∧v18<l2.length)<|
 Ey (f169 (rd 0 l2 v18) k) fun q7_5=>
 E9 (0≤v18∧v18<l2.length)<|
 go ((i64.wrap (v18+1)),(List.set l2 (Int.toNat v18) q7_5))
 else
 some l2
def f143 (a:Fy) (k:Int):Option Gz:=
 Ey (f91 (a.1,a.2)) fun q7_7=>
 bif (!q7_7) then
 some ((1:Int),[],[])
 else
 Ey (f49 (a.1,a.2)) fun r1=>
 Ey (Fq (fun go x=>f143_l1 k r1 go x.1 x.2) Fv ((0:Int),r1.2)) fun z2=>
 some ((0:Int),r1.1,z2)
def C143:Con:=⟨Fy×Int,Gz,0,fun x=>[.dat T9 x.1,.dat T1 x.2],NX,fun x=>f143 x.1 x.2,fun y=>[.raw true [(.osl 0),(.osl 1)],.dat T1 y.1],fun y=>[(0,.arr 3 T1 y.2.1),(1,.arr 57 T1 y.2.2)],2⟩
theorem V143 a k y (q:f143 a k=some y):VC Tryz.f143 C143 (a,k) y:=by
 unfold f143 at q
 refine OL (OL (OL ?_))
 obtain ⟨q7_7,h,q⟩:=bE q
 refine OL (cA H91 (a.1,a.2) h rfl (R2 (K0 (cI q (fun q=>?_) (fun q=>?_)))))
 ·refine OL (OL ?_)
  cases sE q
  refine AI rfl (E4 (iuR [0,0]) (R2 (AJ (R2 TV))))
 refine OL ?_
 obtain ⟨r1,h,q⟩:=bE q
 refine OL (cA H49 (a.1,a.2) h rfl (R2 (K0 (OL (OL (OL ?_))))))
 obtain ⟨z2,h,q⟩:=bE q
 refine lJ h (fun x=>⟨[(1,.dat T1 k),(4,P0 0 0),(6,P0 1 0),(16,O0 2),(17,.dat T1 (r1.2.length:Int)),(18,.dat T1 x.1)],[(0,.cells [N0,N0]),(1,.cells [(.osl 3),(.osl 2)]),(2,.arr 57 T1 x.2),(3,.arr 3 T1 r1.1)],4⟩) (fun z=>[(2,⟨[(4,P0 0 0),(6,P0 1 0)],[(0,.cells [N0,N0]),(1,.cells [(.osl 2),(.osl 3)]),(2,.arr 3 T1 r1.1),(3,.arr 57 T1 z)],4⟩)]) (E4 (iuR [2,5,4,3]) (R4 (AI (R3 TV) (R4 TV)))) (fun m=>F3 (fun v18=>fun l2 z q=>?_)) ?_
 ·have q:f143_l1 k r1 _ v18 l2=some z:=q
  unfold f143_l1 at q
  refine OL (OL (cI q (fun q=>?_) (fun q=>?_)))
  ·refine OL (OL (gI q (fun q=>?_)))
   refine EI (tU 0 5 (.alt 5 (.take 6 (.alt 7 .done .done)) .done)) (EI [] (EI [] (AI rfl (AI TV ?_))))
   obtain ⟨q7_5,h,q⟩:=bE q
   refine OL (cA H169 ((rd 0 l2 v18),k) h rfl (R2 (K0 (gI q (fun q=>?_)))))
   refine AI TV (OL (EI ((i64.wrap (v18+1)),(List.set l2 (Int.toNat v18) q7_5)) (AI q (E4 I4 (R4 (AI (R3 TV) (R4 TV)))))))
  cases sE q
  refine E4 (iuR [1,2,4,3]) (AI rfl (AI (R2 TV) (R4 TV)))
 refine AI (OL (OL ?_)) TV
 cases sE q
 refine AI rfl (E4 (iuR [3,4]) (R2 (AJ (R2 TV))))
theorem H143:HI C143 143:=hI Tryz.f143 rfl fun x=>V143 x.1 x.2
def f145_j3 (a:Fy) (Fw:Int):Option Bool:=
 Ey (f91 (a.1,a.2)) fun r6=>
 bif (!r6) then
 some true
 else
 bif (decide (Fw<0)) then
 some true
 else
 some (decide (Fw≥a.1.length))
def f145_j2 (a:Fy) (Fw:Int):Option (Sum Unit Unit):=
 Ey (f145_j3 a Fw) fun z5=>
 bif z5 then
 some (Sum.inr ())
 else
 some (Sum.inl ())
def f145_l4 (a:Fy) (Fw:Int) (r7:LI) (go:(Int×(List F9))→Option (List F9)) (v55:Int) (l3:List F9):Option (List F9):=
 bif (decide (v55<a.2.length)) then
 E9 (0≤v55∧v55<a.2.length)<|
 E9 (0≤Fw∧Fw<a.1.length)<|
 E9 ((i64.wrap ((rd 0 r7 Fw)*(rd 0 a.1 Fw)))≠0)<|
 E9 ((rd 0 r7 Fw)≠0)<|
 E9 (0≤(i64.wrap ((i64.wrap ((i64.wrap (Int.tdiv v55 (i64.wrap ((rd 0 r7 Fw)*(rd 0 a.1 Fw)))))*(rd 0 r7 Fw)))+(Int.tmod v55 (rd 0 r7 Fw))))∧(i64.wrap ((i64.wrap ((i64.wrap (Int.tdiv v55 (i64.wrap ((rd 0 r7 Fw)*(rd 0 a.1 Fw)))))*(rd 0 r7 Fw)))+(Int.tmod v55 (rd 0 r7 Fw))))<l3.length)<|
 Ey (f181 (rd 0 a.2 v55)) fun q10_7=>
 Ey (f180 ((rd (Ty.z T11) l3 (i64.wrap ((i64.wrap ((i64.wrap (Int.tdiv v55 (i64.wrap ((rd 0 r7 Fw)*(rd 0 a.1 Fw)))))*(rd 0 r7 Fw)))+(Int.tmod v55 (rd 0 r7 Fw))))).1,(rd (Ty.z T11) l3 (i64.wrap ((i64.wrap ((i64.wrap (Int.tdiv v55 (i64.wrap ((rd 0 r7 Fw)*(rd 0 a.1 Fw)))))*(rd 0 r7 Fw)))+(Int.tmod v55 (rd 0 r7 Fw))))).2) (q10_7.1,q10_7.2)) fun q10_8=>
 E9 (0≤(i64.wrap ((i64.wrap ((i64.wrap (Int.tdiv v55 (i64.wrap ((rd 0 r7 Fw)*(rd 0 a.1 Fw)))))*(rd 0 r7 Fw)))+(Int.tmod v55 (rd 0 r7 Fw))))∧(i64.wrap ((i64.wrap ((i64.wrap (Int.tdiv v55 (i64.wrap ((rd 0 r7 Fw)*(rd 0 a.1 Fw)))))*(rd 0 r7 Fw)))+(Int.tmod v55 (rd 0 r7 Fw))))<l3.length)<|
 go ((i64.wrap (v55+1)),(List.set l3 (Int.toNat (i64.wrap ((i64.wrap ((i64.wrap (Int.tdiv v55 (i64.wrap ((rd 0 r7 Fw)*(rd 0 a.1 Fw)))))*(rd 0 r7 Fw)))+(Int.tmod v55 (rd 0 r7 Fw))))) (q10_8.1,q10_8.2)))
 else
 some l3
def f145_l5 (z8:List F9) (go:K4→Option LI) (v93:Int) (l4:LI):Option LI:=
 bif (decide (v93<z8.length)) then
 E9 (0≤v93∧v93<z8.length)<|
 Ey (f182 ((rd (Ty.z T11) z8 v93).1,(rd (Ty.z T11) z8 v93).2)) fun q16_4=>
 E9 (0≤v93∧v93<l4.length)<|
 go ((i64.wrap (v93+1)),(List.set l4 (Int.toNat v93) q16_4))
 else
 some l4
def f145 (a:Fy) (Fw:Int):Option Gz:=
 Ey (f145_j2 a Fw) fun z3=>
 Fx z3 (fun z3a=>
 E9 (0≤Fw∧Fw≤a.1.length)<|
 E9 (0≤(i64.wrap (Fw+1))∧(i64.wrap (Fw+1))≤a.1.length)<|
 E9 ((List.length ([]:LI)+List.length (List.take (Int.toNat Fw) a.1))*8≤140737488355328)<|
 E9 ((List.length (([]:LI)++(List.take (Int.toNat Fw) a.1))+List.length (List.drop (Int.toNat (i64.wrap (Fw+1))) a.1))*8≤140737488355328)<|
 Ey (f117 ((([]:LI)++(List.take (Int.toNat Fw) a.1))++(List.drop (Int.toNat (i64.wrap (Fw+1))) a.1))) fun q3_12=>
 E9 (0≤q3_12∧q3_12≤q3_12∧Int.toNat q3_12*16≤140737488355328)<|
 Ey (f179 a.1) fun r7=>
 E9 (0≤Fw∧Fw<r7.length)<|
 Ey (Fq (fun go x=>f145_l4 a Fw r7 go x.1 x.2) Fv ((0:Int),(List.replicate (Int.toNat q3_12) (Ty.z T11)))) fun z8=>
 Ey (f171 ((([]:LI)++(List.take (Int.toNat Fw) a.1))++(List.drop (Int.toNat (i64.wrap (Fw+1))) a.1)) (0:Int)) fun q10_10=>
 Ey (Fq (fun go x=>f145_l5 z8 go x.1 x.2) Fv ((0:Int),q10_10.2.2)) fun z9=>
 some ((0:Int),q10_10.2.1,z9)) (fun z3b=>
 some ((1:Int),[],[]))
def C145:Con:=⟨Fy×Int,Gz,0,fun x=>[.dat T9 x.1,.dat T1 x.2],NX,fun x=>f145 x.1 x.2,fun y=>[.raw true [(.osl 0),(.osl 1)],.dat T1 y.1],fun y=>[(0,.arr 3 T1 y.2.1),(1,.arr 57 T1 y.2.2)],2⟩
theorem V145 a Fw y (q:f145 a Fw=some y):VC Tryz.f145 C145 (a,Fw) y:=by
 unfold f145 at q
 refine OL ?_
 obtain ⟨z3,hz3,q⟩:=bE q
 let e0:LE:=fun zz=>(1,.dat T1 Fw)::(2,P0 0 0)::(4,P0 1 0)::zz
 let h1:LH:=fun zz=>(0,.cells [(.d T6 a.1),(.d T6 a.2)])::(1,.cells [N0,N0])::zz
 refine OQ ⟨Sum.elim (fun z3a=>[(0,⟨e0 [],h1 [],2⟩)]) (fun z3b=>[(1,⟨[(4,P0 0 0),(5,D0 1)],[(0,.cells [N0,N0])],1⟩)]) z3,?_,?_⟩
 ·have q:=hz3
  clear hz3
  unfold f145_j2 at q
  obtain ⟨z5,hz5,q⟩:=bE q
  refine OQ ⟨[(0,⟨e0 [(29,.dat .bool z5)],h1 [],2⟩)],?_,?_⟩
  ·have q:=hz5
   clear hz5
   unfold f145_j3 at q
   obtain ⟨r6,h,q⟩:=bE q
   refine OL (cA H91 (a.1,a.2) h rfl (R2 (K0 (cN q (fun q=>?_) (fun q=>?_)))))
   ·refine gY (cF (cN q (fun q=>?_) (fun q=>?_)))
    ·refine gY (gY (gY (gY (cF ?_))))
     cases sE q
     refine E4 I2 (R3 (AI (R2 TV) (R2 TV)))
    refine gN (gN (gN (gN (cT ?_))))
    cases sE q
    refine E4 I2 (R3 (AI (R2 TV) (R2 TV)))
   refine gN (cT (gN (gN (gN (gN (gN (cT ?_)))))))
   cases sE q
   refine E4 I2 (R3 (AI (R2 TV) (R2 TV)))
  refine AI (cI q (fun q=>?_) (fun q=>?_)) TV
  ·refine OL (OL ?_)
   cases sE q
   refine E4 (iuR [2]) (R2 (AJ (AI rfl TV)))
  cases sE q
  refine E4 I2 (R2 (AI (R2 TV) (R2 TV)))
 rcases z3 with z3a | z3b
 ·dsimp only [Fx] at q
  refine AI (OL (EI (tU 1 4 (tU 6 5 (.alt 0 (.alt 5 (.alt 11 (.take 12 .done) .done) .done) .done))) (EI [] (EI [] (AI rfl (gI q (fun q=>?_))))))) TV
  refine gI q (fun q=>?_)
  refine AI TV (OL (AI TV (OL (gI q (fun q=>?_)))))
  refine AI TV (OL (gI q (fun q=>?_)))
  refine OL ?_
  obtain ⟨q3_12,h,q⟩:=bE q
  refine OL (cD H117 ((([]:LI)++(List.take (Int.toNat Fw) a.1))++(List.drop (Int.toNat (i64.wrap (Fw+1))) a.1)) h rfl (AI rfl (AI (fun _=>rfl) (R2 (AI TV (AI TV (gI q (fun q=>?_))))))))
  refine OL ?_
  obtain ⟨r7,h,q⟩:=bE q
  refine OL (cA H179 a.1 h rfl (AI rfl (K0 (gI q (fun q=>?_)))))
  refine OL (OL ?_)
  obtain ⟨z8,h,q⟩:=bE q
  refine lJ h (fun x=>⟨e0 [(6,O0 2),(7,O0 3),(8,.dat T1 (rd 0 r7 Fw)),(53,.dat T6 a.2),(54,.dat T1 (a.2.length:Int)),(55,.dat T1 x.1)],h1 [(2,.arr 3 T1 ((([]:LI)++(List.take (Int.toNat Fw) a.1))++(List.drop (Int.toNat (i64.wrap (Fw+1))) a.1))),(3,.arr 213 T11 x.2)],4⟩) (fun z=>[(2,⟨[(4,P0 0 0),(6,O0 1),(7,O0 2)],[(0,.cells [N0,N0]),(1,.arr 3 T1 ((([]:LI)++(List.take (Int.toNat Fw) a.1))++(List.drop (Int.toNat (i64.wrap (Fw+1))) a.1))),(2,.arr 213 T11 z)],3⟩)]) (E4 (iuR [1,2,5,6]) (R6 (AI (R4 TV) (R4 TV)))) (fun m=>F3 (fun v55=>fun l3 z q=>?_)) ?_
  ·have q:f145_l4 a Fw r7 _ v55 l3=some z:=q
   unfold f145_l4 at q
   refine OL (OL (cI q (fun q=>?_) (fun q=>?_)))
   ·refine OL (OL (gI q (fun q=>?_)))
    refine OL (EI (tU 0 16 .done) (EI [] (EI [] (AI rfl (gI q (fun q=>?_))))))
    refine gI q (fun q=>?_)
    refine gI q (fun q=>?_)
    refine EI (tU 0 7 (.alt 7 (.alt 8 (.take 9 (.alt 10 .done .done)) .done) .done)) (EI [(10,[3])] (EI [] (AI rfl (gI q (fun q=>?_)))))
    refine AI TV ?_
    obtain ⟨q10_7,h,q⟩:=bE q
    refine OL (cA H181 (rd (0:Int) a.2 v55) h rfl (AI rfl (K0 (AI TV ?_))))
    obtain ⟨q10_8,h,q⟩:=bE q
    refine OL (cA H180 (((rd (Ty.z T11) l3 (i64.wrap ((i64.wrap ((i64.wrap (Int.tdiv v55 (i64.wrap ((rd 0 r7 Fw)*(rd 0 a.1 Fw)))))*(rd 0 r7 Fw)))+(Int.tmod v55 (rd 0 r7 Fw))))).1,(rd (Ty.z T11) l3 (i64.wrap ((i64.wrap ((i64.wrap (Int.tdiv v55 (i64.wrap ((rd 0 r7 Fw)*(rd 0 a.1 Fw)))))*(rd 0 r7 Fw)))+(Int.tmod v55 (rd 0 r7 Fw))))).2),(q10_7.1,q10_7.2)) h rfl (R4 (K0 (gI q (fun q=>?_)))))
    refine AI TV (OL (EI ((i64.wrap (v55+1)),(List.set l3 (Int.toNat (i64.wrap ((i64.wrap ((i64.wrap (Int.tdiv v55 (i64.wrap ((rd 0 r7 Fw)*(rd 0 a.1 Fw)))))*(rd 0 r7 Fw)))+(Int.tmod v55 (rd 0 r7 Fw))))) (q10_8.1,q10_8.2))) (AI q (E4 I4 (R6 (AI (R4 TV) (R4 TV)))))))
   cases sE q
   refine E4 (iuR [2,3,4]) (AI rfl (AI (R3 TV) (R3 TV)))
  refine AI (OL ?_) TV
  obtain ⟨q10_10,h,q⟩:=bE q
  refine OL (cD H171 (((([]:LI)++(List.take (Int.toNat Fw) a.1))++(List.drop (Int.toNat (i64.wrap (Fw+1))) a.1)),(0:Int)) h rfl (R2 (AI (fun _=>rfl) (R2 (AI TV (AI TV (OL (OL (OL ?_)))))))))
  obtain ⟨z9,h,q⟩:=bE q
  refine lJ h (fun x=>⟨[(4,P0 0 0),(12,P0 1 0),(91,O0 2),(92,.dat T1 (z8.length:Int)),(93,.dat T1 x.1)],[(0,.cells [N0,N0]),(1,.cells [(.osl 3),(.osl 4)]),(2,.arr 213 T11 z8),(3,.arr 3 T1 q10_10.2.1),(4,.arr 57 T1 x.2)],5⟩) (fun z=>[(4,⟨[(4,P0 0 0),(12,P0 1 0)],[(0,.cells [N0,N0]),(1,.cells [(.osl 2),(.osl 3)]),(2,.arr 3 T1 q10_10.2.1),(3,.arr 57 T1 z)],4⟩)]) (E4 (iuR [1,6,3,4,5]) (R3 (AI (R3 TV) (R5 TV)))) (fun m=>F3 (fun v93=>fun l4 z q=>?_)) ?_
  ·have q:f145_l5 z8 _ v93 l4=some z:=q
   unfold f145_l5 at q
   refine OL (OL (cI q (fun q=>?_) (fun q=>?_)))
   ·refine OL (OL (gI q (fun q=>?_)))
    refine OL (EI (tU 0 4 (.alt 4 (.take 5 (.alt 6 .done .done)) .done)) (EI [] (EI [] (AI rfl (AI TV ?_)))))
    obtain ⟨q16_4,h,q⟩:=bE q
    refine OL (cA H182 ((rd (Ty.z T11) z8 v93).1,(rd (Ty.z T11) z8 v93).2) h rfl (R2 (K0 (gI q (fun q=>?_)))))
    refine AI TV (OL (EI ((i64.wrap (v93+1)),(List.set l4 (Int.toNat v93) q16_4)) (AI q (E4 I5 (R3 (AI (R3 TV) (R5 TV)))))))
   cases sE q
   refine E4 (iuR [1,2,4,5]) (AI rfl (AI (R2 TV) (R4 TV)))
  refine AI (OL (OL ?_)) TV
  cases sE q
  refine AI rfl (E4 (iuR [3,4]) (R2 (AJ (R2 TV))))
 dsimp only [Fx] at q
 refine AI ?_ TV
 cases sE q
 refine AI rfl (E4 (iuR [0,0]) (R2 (AJ (R2 TV))))
theorem H145:HI C145 145:=hI Tryz.f145 rfl fun x=>V145 x.1 x.2
def f183_l1 (v:LI) (go:(Int×F9)→Option F9) (v9 c1_0 c1_1:Int):Option F9:=
 bif (decide (v9<v.length)) then
 E9 (0≤v9∧v9<v.length)<|
 Ey (f181 (rd 0 v v9)) fun q5_2=>
 Ey (f180 (c1_0,c1_1) (q5_2.1,q5_2.2)) fun q5_3=>
 go ((i64.wrap (v9+1)),q5_3.1,q5_3.2)
 else
 some (c1_0,c1_1)
def f183 (v:LI):Option F9:=
 Ey (Fq (fun go x=>f183_l1 v go x.1 x.2.1 x.2.2) Fv ((0:Int),(0:Int),(0:Int))) fun z1=>
 some (z1.1,z1.2)
def C183:Con:=⟨LI,F9,0,fun x=>[.dat T6 x],NX,fun x=>f183 x,fun y=>[.raw true [(.d T1 y.1),(.d T10 y.2)]],NX,0⟩
theorem V183 v y (q:f183 v=some y):VC Tryz.f183 C183 v y:=by
 unfold f183 at q
 refine OL (OL (OL (OL (OL ?_))))
 obtain ⟨z1,h,q⟩:=bE q
 refine lJ h (fun x=>⟨[(2,P0 0 0),(3,P0 1 0),(7,.dat T6 v),(8,.dat T1 (v.length:Int)),(9,.dat T1 x.1)],[(0,.cells [(.d T1 (0:Int)),(.d T10 (0:Int))]),(1,.cells [(.d T1 x.2.1),(.d T10 x.2.2)])],2⟩) (fun z=>[(2,⟨[(2,P0 0 0),(3,P0 1 0)],[(0,.cells [(.d T1 (0:Int)),(.d T10 (0:Int))]),(1,.cells [(.d T1 z.1),(.d T10 z.2)])],2⟩)]) (E4 I2 (R4 (AI (R2 TV) (R2 TV)))) (fun m=>F3 (fun v9=>F3 (fun c1_0=>fun c1_1 z q=>?_))) ?_
 ·have q:f183_l1 v _ v9 c1_0 c1_1=some z:=q
  unfold f183_l1 at q
  refine OL (OL (cI q (fun q=>?_) (fun q=>?_)))
  ·refine OL (OL (gI q (fun q=>?_)))
   refine EI (.take 0 (.take 1 (.alt 2 (.alt 3 (.alt 4 .done .done) .done) .done))) (EI [(4,[1])] (EI [] (AI rfl (AI TV ?_))))
   obtain ⟨q5_2,h,q⟩:=bE q
   refine OL (cA H181 (rd (0:Int) v v9) h rfl (AI rfl (K0 (AI TV ?_))))
   obtain ⟨q5_3,h,q⟩:=bE q
   refine OL (cA H180 ((c1_0,c1_1),(q5_2.1,q5_2.2)) h rfl (R4 (K0 (AI TV (OL (EI ((i64.wrap (v9+1)),q5_3.1,q5_3.2) (AI q (E4 I2 (R4 (AI (R2 TV) (R2 TV)))))))))))
  cases sE q
  refine E4 I2 (AI rfl (AI (R2 TV) (R2 TV)))
 refine AI (OL (OL ?_)) TV
 cases sE q
 refine AI rfl (E4 [] (AI rfl (AJ TV)))
theorem H183:HI C183 183:=hI Tryz.f183 rfl fun x=>V183 x
def f147 (a:Fy):Option F9:=
 Ey (f91 (a.1,a.2)) fun r1=>
 bif (!r1) then
 some ((0:Int),(1:Int))
 else
 Ey (f183 a.2) fun r2=>
 Ey (f182 (r2.1,r2.2)) fun r3=>
 some (r3,(0:Int))
def C147:Con:=⟨Fy,F9,0,fun x=>[.dat T9 x],NX,fun x=>f147 x,fun y=>[.dat T1 y.1,.dat T1 y.2],NX,0⟩
theorem V147 a y (q:f147 a=some y):VC Tryz.f147 C147 a y:=by
 unfold f147 at q
 refine OL (OL (OL ?_))
 obtain ⟨r1,h,q⟩:=bE q
 refine OL (cA H91 (a.1,a.2) h rfl (R2 (K0 (cI q (fun q=>?_) (fun q=>?_)))))
 ·cases sE q
  refine OL (AI rfl (E4 [] (R3 (AI TV TV))))
 refine OL ?_
 obtain ⟨r2,h,q⟩:=bE q
 refine OL (cA H183 a.2 h rfl (AI rfl (K0 ?_)))
 obtain ⟨r3,h,q⟩:=bE q
 refine OL (cA H182 (r2.1,r2.2) h rfl (R2 (K0 ?_)))
 cases sE q
 refine AI rfl (E4 [] (R3 (AI TV TV)))
theorem H147:HI C147 147:=hI Tryz.f147 rfl fun x=>V147 x
def f146 (x_ e:Int):Option Gz:=
 bif (e != 0) then
 some (e,[],[])
 else
 Ey (f171 ([]) x_) fun r1=>
 some (r1.1,r1.2.1,r1.2.2)
def C146:Con:=⟨F9,Gz,0,fun x=>[.dat T1 x.1,.dat T1 x.2],NX,fun x=>f146 x.1 x.2,fun y=>[.raw true [(.osl 0),(.osl 1)],.dat T1 y.1],fun y=>[(0,.arr 3 T1 y.2.1),(1,.arr 57 T1 y.2.2)],2⟩
theorem V146 x_ e y (q:f146 x_ e=some y):VC Tryz.f146 C146 (x_,e) y:=by
 unfold f146 at q
 refine OL (OL (OL (cI q (fun q=>?_) (fun q=>?_))))
 ·refine OL (OL ?_)
  cases sE q
  refine AI rfl (E4 (iuR [0,0]) (R2 (AJ (R2 TV))))
 refine OL ?_
 obtain ⟨r1,h,q⟩:=bE q
 refine OL (cA H171 ([],x_) h rfl (R2 (K0 (OL ?_))))
 cases sE q
 refine AI rfl (E4 (iuR [2,3]) (R2 (AJ (R2 TV))))
theorem H146:HI C146 146:=hI Tryz.f146 rfl fun x=>V146 x.1 x.2
def f208_j1 (a b:F9):Option Bool:=
 bif (decide (a.1<b.1)) then
 some true
 else
 bif (a.1==b.1) then
 some (decide (a.2<b.2))
 else
 some false
def f208 (a b:F9):Option Int:=
 Ey (f208_j1 a b) fun z1=>
 bif z1 then
 some (-1:Int)
 else
 bif (a.1==b.1&&a.2==b.2) then
 some (0:Int)
 else
 some (1:Int)
def C208:Con:=⟨F9×F9,Int,0,fun x=>[.dat T11 x.1,.dat T11 x.2],NX,fun x=>f208 x.1 x.2,fun y=>[.dat T1 y],NX,0⟩
theorem V208 a b y (q:f208 a b=some y):VC Tryz.f208 C208 (a,b) y:=by
 unfold f208 at q
 refine OL (OL ?_)
 obtain ⟨z1,hz1,q⟩:=bE q
 refine OQ ⟨[(0,⟨[(2,P0 0 0),(3,P0 1 0),(5,.dat .bool z1)],[(0,.cells [(.d T1 a.1),(.d T10 a.2)]),(1,.cells [(.d T1 b.1),(.d T10 b.2)])],2⟩)],?_,?_⟩
 ·have q:=hz1
  clear hz1
  unfold f208_j1 at q
  refine cN q (fun q=>?_) (fun q=>?_)
  ·refine gY (gY (gY (gY (gY (cI q (fun q=>?_) (fun q=>?_))))))
   ·refine gX (gX (gX (gX (gY (cT (cF ?_))))))
    cases sE q
    refine E4 I2 (R2 (AI (R2 TV) (R2 TV)))
   refine gM (gM (gM (gM (gY (cF (cF ?_))))))
   cases sE q
   refine E4 I2 (R2 (AI (R2 TV) (R2 TV)))
  refine gN (gN (gN (gN (gN (gN (cT ?_))))))
  cases sE q
  refine E4 I2 (R2 (AI (R2 TV) (R2 TV)))
 refine AI (cI q (fun q=>?_) (fun q=>?_)) TV
 ·cases sE q
  refine OL (AI rfl (E4 [] (R2 (AI TV TV))))
 refine OL (AI ⟨by kernel_rfl,by kernel_rfl,by decide,by decide⟩ ?_)
 refine cI q (fun q=>?_) (fun q=>?_)
 ·cases sE q
  refine OL (AI rfl (E4 [] (R2 (AI TV TV))))
 cases sE q
 refine OL (AI rfl (E4 [] (R2 (AI TV TV))))
theorem H208:HI C208 208:=hI Tryz.f208 rfl fun x=>V208 x.1 x.2
def f162_s1:ByteArray:=⟨⟨[0,1,2,2,3,3,3,3,4,4,4,4,4,4,4,4,5,5,5,5,5,5,5,5,5,5,5,5,5,5,5,5,6,6,6,6,6,6,6,6,6,6,6,6,6,6,6,6,6,6,6,6,6,6,6,6,6,6,6,6,6,6,6,6,7,7,7,7,7,7,7,7,7,7,7,7,7,7,7,7,7,7,7,7,7,7,7,7,7,7,7,7,7,7,7,7,7,7,7,7,7,7,7,7,7,7,7,7,7,7,7,7,7,7,7,7,7,7,7,7,7,7,7,7,7,7,7,7,8,8,8,8,8,8,8,8,8,8,8,8,8,8,8,8,8,8,8,8,8,8,8,8,8,8,8,8,8,8,8,8,8,8,8,8,8,8,8,8,8,8,8,8,8,8,8,8,8,8,8,8,8,8,8,8,8,8,8,8,8,8,8,8,8,8,8,8,8,8,8,8,8,8,8,8,8,8,8,8,8,8,8,8,8,8,8,8,8,8,8,8,8,8,8,8,8,8,8,8,8,8,8,8,8,8,8,8,8,8,8,8,8,8,8,8,8,8,8,8,8,8,8,8,8,8,8,8]⟩⟩
def f162_j1 (x_:Int):Option F9:=
 bif (decide (x_≥4294967296)) then
 some ((Int.fdiv x_ (2 ^ min (Int.toNat (32:Int)) u64.bits)),(32:Int))
 else
 some (x_,(0:Int))
def f162_j2 (z1:F9):Option F9:=
 bif (decide (z1.1≥65536)) then
 some ((Int.fdiv z1.1 (2 ^ min (Int.toNat (16:Int)) u64.bits)),(i64.wrap (z1.2+16)))
 else
 some (z1.1,z1.2)
def f162_j3 (z2:F9):Option F9:=
 bif (decide (z2.1≥256)) then
 some ((Int.fdiv z2.1 (2 ^ min (Int.toNat (8:Int)) u64.bits)),(i64.wrap (z2.2+8)))
 else
 some (z2.1,z2.2)
def f162 (x_:Int):Option Int:=
 Ey (f162_j1 x_) fun z1=>
 Ey (f162_j2 z1) fun z2=>
 Ey (f162_j3 z2) fun z3=>
 E9 (0≤(u8.wrap z3.1)∧(u8.wrap z3.1)<(ByteArray.size f162_s1:Int))<|
 some (i64.wrap (z3.2+(i64.wrap (bt f162_s1 (u8.wrap z3.1)))))
def C162:Con:=⟨Int,Int,0,fun x=>[.dat T10 x],NX,fun x=>f162 x,fun y=>[.dat T1 y],NX,0⟩
theorem V162 x_ y (q:f162 x_=some y):VC Tryz.f162 C162 x_ y:=by
 unfold f162 at q
 refine OL ?_
 obtain ⟨z1,hz1,q⟩:=bE q
 refine OQ ⟨[(0,⟨[(0,.dat T10 z1.1),(2,.dat T1 z1.2)],[],0⟩)],?_,?_⟩
 ·have q:=hz1
  clear hz1
  unfold f162_j1 at q
  refine OL (cI q (fun q=>?_) (fun q=>?_))
  ·refine OL (AI (by decide) ?_)
   cases sE q
   refine E4 [] (R3 (AI TV TV))
  cases sE q
  refine E4 [] (R3 (AI TV TV))
 refine AI ?_ TV
 obtain ⟨z2,hz2,q⟩:=bE q
 refine OQ ⟨[(0,⟨[(0,.dat T10 z2.1),(2,.dat T1 z2.2)],[],0⟩)],?_,?_⟩
 ·have q:=hz2
  clear hz2
  unfold f162_j2 at q
  refine OL (cI q (fun q=>?_) (fun q=>?_))
  ·refine OL (AI (by decide) ?_)
   cases sE q
   refine E4 [] (R3 (AI TV TV))
  cases sE q
  refine E4 [] (R3 (AI TV TV))
 refine AI ?_ TV
 obtain ⟨z3,hz3,q⟩:=bE q
 refine OQ ⟨[(0,⟨[(0,.dat T10 z3.1),(2,.dat T1 z3.2)],[],0⟩)],?_,?_⟩
 ·have q:=hz3
  clear hz3
  unfold f162_j3 at q
  refine OL (cI q (fun q=>?_) (fun q=>?_))
  ·refine OL (AI (by decide) ?_)
   cases sE q
   refine E4 [] (R3 (AI TV TV))
  cases sE q
  refine E4 [] (R3 (AI TV TV))
 refine AI (OL (gI q (fun q=>?_))) TV
 cases sE q
 refine AI rfl (E4 [] (R2 (AI TV TV)))
theorem H162:HI C162 162:=hI Tryz.f162 rfl fun x=>V162 x
def f226 (x_:Int):Option Int:=
 Ey (f162 x_) fun r1=>
 some (i64.wrap ((64:Int)-r1))
def C226:Con:=⟨Int,Int,0,fun x=>[.dat T10 x],NX,fun x=>f226 x,fun y=>[.dat T1 y],NX,0⟩
theorem V226 x_ y (q:f226 x_=some y):VC Tryz.f226 C226 x_ y:=by
 unfold f226 at q
 refine OL (OL ?_)
 obtain ⟨r1,h,q⟩:=bE q
 refine OL (cA H162 x_ h rfl (AI rfl (K0 ?_)))
 cases sE q
 refine AI rfl (E4 [] (R2 (AI TV TV)))
theorem H226:HI C226 226:=hI Tryz.f226 rfl fun x=>V226 x
def f211_j4 (lo y_ q6_7 q1 rhat:Int):Option (Sum Unit Unit):=
 bif (decide (q1≥4294967296)) then
 some (Sum.inl ())
 else
 bif (decide ((u64.wrap (q1*(Ft IntKind.u64 (fun p q=>p&&& q) (u64.wrap (y_*2 ^ min (Int.toNat (u64.wrap q6_7)) u64.bits)) (4294967295:Int))))>(u64.wrap ((u64.wrap ((4294967296:Int)*rhat))+(Int.fdiv (u64.wrap (lo*2 ^ min (Int.toNat (u64.wrap q6_7)) u64.bits)) (2 ^ min (Int.toNat (32:Int)) u64.bits)))))) then
 some (Sum.inl ())
 else
 some (Sum.inr ())
def f211_l3 (lo y_ q6_7:Int) (go:F9→Option Int) (q1 rhat:Int):Option Int:=
 Ey (f211_j4 lo y_ q6_7 q1 rhat) fun z4=>
 Fx z4 (fun z4a=>
 bif (decide ((u64.wrap (rhat+(Int.fdiv (u64.wrap (y_*2 ^ min (Int.toNat (u64.wrap q6_7)) u64.bits)) (2 ^ min (Int.toNat (32:Int)) u64.bits))))≥4294967296)) then
 some (u64.wrap (q1-1))
 else
 go ((u64.wrap (q1-1)),(u64.wrap (rhat+(Int.fdiv (u64.wrap (y_*2 ^ min (Int.toNat (u64.wrap q6_7)) u64.bits)) (2 ^ min (Int.toNat (32:Int)) u64.bits)))))) (fun z4b=>
 some q1)
def f211_j8 (lo y_ q6_7 rhat q0:Int):Option (Sum Unit Unit):=
 bif (decide (q0≥4294967296)) then
 some (Sum.inl ())
 else
 bif (decide ((u64.wrap (q0*(Ft IntKind.u64 (fun p q=>p&&& q) (u64.wrap (y_*2 ^ min (Int.toNat (u64.wrap q6_7)) u64.bits)) (4294967295:Int))))>(u64.wrap ((u64.wrap ((4294967296:Int)*rhat))+(Ft IntKind.u64 (fun p q=>p&&& q) (u64.wrap (lo*2 ^ min (Int.toNat (u64.wrap q6_7)) u64.bits)) (4294967295:Int)))))) then
 some (Sum.inl ())
 else
 some (Sum.inr ())
def f211_l7 (lo y_ q6_7:Int) (go:F9→Option Int) (rhat q0:Int):Option Int:=
 Ey (f211_j8 lo y_ q6_7 rhat q0) fun z8=>
 Fx z8 (fun z8a=>
 bif (decide ((u64.wrap (rhat+(Int.fdiv (u64.wrap (y_*2 ^ min (Int.toNat (u64.wrap q6_7)) u64.bits)) (2 ^ min (Int.toNat (32:Int)) u64.bits))))≥4294967296)) then
 some (u64.wrap (q0-1))
 else
 go ((u64.wrap (rhat+(Int.fdiv (u64.wrap (y_*2 ^ min (Int.toNat (u64.wrap q6_7)) u64.bits)) (2 ^ min (Int.toNat (32:Int)) u64.bits)))),(u64.wrap (q0-1)))) (fun z8b=>
 some q0)
def f211 (hi lo y_:Int):Option F9:=
 bif (y_==0) then
 none
 else
 bif (decide (y_≤hi)) then
 none
 else
 bif (hi==0) then
 E9 (y_≠0)<|
 E9 (y_≠0)<|
 some ((u64.wrap (Int.tdiv lo y_)),(Int.tmod lo y_))
 else
 Ey (f226 y_) fun q6_7=>
 E9 (0≤(u64.wrap q6_7))<|
 E9 (0≤(u64.wrap q6_7))<|
 E9 (0≤(u64.wrap ((64:Int)-(u64.wrap q6_7))))<|
 E9 (0≤(u64.wrap q6_7))<|
 E9 ((Int.fdiv (u64.wrap (y_*2 ^ min (Int.toNat (u64.wrap q6_7)) u64.bits)) (2 ^ min (Int.toNat (32:Int)) u64.bits))≠0)<|
 Ey (Fq (fun go x=>f211_l3 lo y_ q6_7 go x.1 x.2) Fv ((u64.wrap (Int.tdiv (Ft IntKind.u64 (fun p q=>p||| q) (u64.wrap (hi*2 ^ min (Int.toNat (u64.wrap q6_7)) u64.bits)) (Int.fdiv lo (2 ^ min (Int.toNat (u64.wrap ((64:Int)-(u64.wrap q6_7)))) u64.bits))) (Int.fdiv (u64.wrap (y_*2 ^ min (Int.toNat (u64.wrap q6_7)) u64.bits)) (2 ^ min (Int.toNat (32:Int)) u64.bits)))),(u64.wrap ((Ft IntKind.u64 (fun p q=>p||| q) (u64.wrap (hi*2 ^ min (Int.toNat (u64.wrap q6_7)) u64.bits)) (Int.fdiv lo (2 ^ min (Int.toNat (u64.wrap ((64:Int)-(u64.wrap q6_7)))) u64.bits)))-(u64.wrap ((u64.wrap (Int.tdiv (Ft IntKind.u64 (fun p q=>p||| q) (u64.wrap (hi*2 ^ min (Int.toNat (u64.wrap q6_7)) u64.bits)) (Int.fdiv lo (2 ^ min (Int.toNat (u64.wrap ((64:Int)-(u64.wrap q6_7)))) u64.bits))) (Int.fdiv (u64.wrap (y_*2 ^ min (Int.toNat (u64.wrap q6_7)) u64.bits)) (2 ^ min (Int.toNat (32:Int)) u64.bits))))*(Int.fdiv (u64.wrap (y_*2 ^ min (Int.toNat (u64.wrap q6_7)) u64.bits)) (2 ^ min (Int.toNat (32:Int)) u64.bits)))))))) fun z3=>
 E9 ((Int.fdiv (u64.wrap (y_*2 ^ min (Int.toNat (u64.wrap q6_7)) u64.bits)) (2 ^ min (Int.toNat (32:Int)) u64.bits))≠0)<|
 Ey (Fq (fun go x=>f211_l7 lo y_ q6_7 go x.1 x.2) Fv ((u64.wrap ((u64.wrap ((u64.wrap ((u64.wrap ((Ft IntKind.u64 (fun p q=>p||| q) (u64.wrap (hi*2 ^ min (Int.toNat (u64.wrap q6_7)) u64.bits)) (Int.fdiv lo (2 ^ min (Int.toNat (u64.wrap ((64:Int)-(u64.wrap q6_7)))) u64.bits)))*4294967296))+(Int.fdiv (u64.wrap (lo*2 ^ min (Int.toNat (u64.wrap q6_7)) u64.bits)) (2 ^ min (Int.toNat (32:Int)) u64.bits))))-(u64.wrap (z3*(u64.wrap (y_*2 ^ min (Int.toNat (u64.wrap q6_7)) u64.bits))))))-(u64.wrap ((u64.wrap (Int.tdiv (u64.wrap ((u64.wrap ((u64.wrap ((Ft IntKind.u64 (fun p q=>p||| q) (u64.wrap (hi*2 ^ min (Int.toNat (u64.wrap q6_7)) u64.bits)) (Int.fdiv lo (2 ^ min (Int.toNat (u64.wrap ((64:Int)-(u64.wrap q6_7)))) u64.bits)))*4294967296))+(Int.fdiv (u64.wrap (lo*2 ^ min (Int.toNat (u64.wrap q6_7)) u64.bits)) (2 ^ min (Int.toNat (32:Int)) u64.bits))))-(u64.wrap (z3*(u64.wrap (y_*2 ^ min (Int.toNat (u64.wrap q6_7)) u64.bits)))))) (Int.fdiv (u64.wrap (y_*2 ^ min (Int.toNat (u64.wrap q6_7)) u64.bits)) (2 ^ min (Int.toNat (32:Int)) u64.bits))))*(Int.fdiv (u64.wrap (y_*2 ^ min (Int.toNat (u64.wrap q6_7)) u64.bits)) (2 ^ min (Int.toNat (32:Int)) u64.bits)))))),(u64.wrap (Int.tdiv (u64.wrap ((u64.wrap ((u64.wrap ((Ft IntKind.u64 (fun p q=>p||| q) (u64.wrap (hi*2 ^ min (Int.toNat (u64.wrap q6_7)) u64.bits)) (Int.fdiv lo (2 ^ min (Int.toNat (u64.wrap ((64:Int)-(u64.wrap q6_7)))) u64.bits)))*4294967296))+(Int.fdiv (u64.wrap (lo*2 ^ min (Int.toNat (u64.wrap q6_7)) u64.bits)) (2 ^ min (Int.toNat (32:Int)) u64.bits))))-(u64.wrap (z3*(u64.wrap (y_*2 ^ min (Int.toNat (u64.wrap q6_7)) u64.bits)))))) (Int.fdiv (u64.wrap (y_*2 ^ min (Int.toNat (u64.wrap q6_7)) u64.bits)) (2 ^ min (Int.toNat (32:Int)) u64.bits)))))) fun z7=>
 E9 (0≤(u64.wrap q6_7))<|
 some ((u64.wrap ((u64.wrap (z3*4294967296))+z7)),(Int.fdiv (u64.wrap ((u64.wrap ((u64.wrap ((u64.wrap ((u64.wrap ((u64.wrap ((Ft IntKind.u64 (fun p q=>p||| q) (u64.wrap (hi*2 ^ min (Int.toNat (u64.wrap q6_7)) u64.bits)) (Int.fdiv lo (2 ^ min (Int.toNat (u64.wrap ((64:Int)-(u64.wrap q6_7)))) u64.bits)))*4294967296))+(Int.fdiv (u64.wrap (lo*2 ^ min (Int.toNat (u64.wrap q6_7)) u64.bits)) (2 ^ min (Int.toNat (32:Int)) u64.bits))))-(u64.wrap (z3*(u64.wrap (y_*2 ^ min (Int.toNat (u64.wrap q6_7)) u64.bits))))))*4294967296))+(Ft IntKind.u64 (fun p q=>p&&& q) (u64.wrap (lo*2 ^ min (Int.toNat (u64.wrap q6_7)) u64.bits)) (4294967295:Int))))-(u64.wrap (z7*(u64.wrap (y_*2 ^ min (Int.toNat (u64.wrap q6_7)) u64.bits)))))) (2 ^ min (Int.toNat (u64.wrap q6_7)) u64.bits)))
def C211:Con:=⟨Int×F9,F9,0,fun x=>[.dat T10 x.1,.dat T10 x.2.1,.dat T10 x.2.2],NX,fun x=>f211 x.1 x.2.1 x.2.2,fun y=>[.dat T10 y.1,.dat T10 y.2],NX,0⟩
theorem V211 hi lo y_ y (q:f211 hi lo y_=some y):VC Tryz.f211 C211 (hi,lo,y_) y:=by
 unfold f211 at q
 refine OL (OL (OL (cI q (fun q=>?_) (fun q=>?_))))
 ·exact nomatch q
 refine OL (OL (cI q (fun q=>?_) (fun q=>?_)))
 ·exact nomatch q
 refine OL (OL (cI q (fun q=>?_) (fun q=>?_)))
 ·refine OL (EI (tU 0 8 .done) (EI [] (EI [] (AI rfl (gI q (fun q=>?_))))))
  refine gI q (fun q=>?_)
  cases sE q
  refine AI rfl (E4 [] (R3 (AI TV TV)))
 refine OL ?_
 obtain ⟨q6_7,h,q⟩:=bE q
 refine OL (cA H226 y_ h rfl (AI rfl (K0 (OL (gI q (fun q=>?_))))))
 refine OL (AI (by decide) (OL (OL (gI q (fun q=>?_)))))
 refine gI q (fun q=>?_)
 refine OL (gI q (fun q=>?_))
 refine OL (AI (by decide) (OL (OL (gI q (fun q=>?_)))))
 refine OL (OL ?_)
 obtain ⟨z3,hz3,q⟩:=bE q
 let e0:LE:=fun zz=>(2,.dat T10 (u64.wrap (y_*2 ^ min (Int.toNat (u64.wrap q6_7)) u64.bits)))::(8,.dat T10 (u64.wrap q6_7))::zz
 let e1:LE:=fun zz=>e0 ((9,.dat T10 (Int.fdiv (u64.wrap (y_*2 ^ min (Int.toNat (u64.wrap q6_7)) u64.bits)) (2 ^ min (Int.toNat (32:Int)) u64.bits)))::(10,.dat T10 (Ft IntKind.u64 (fun p q=>p&&& q) (u64.wrap (y_*2 ^ min (Int.toNat (u64.wrap q6_7)) u64.bits)) (4294967295:Int)))::zz)
 let e2:LE:=fun zz=>e1 ((11,.dat T10 (Ft IntKind.u64 (fun p q=>p||| q) (u64.wrap (hi*2 ^ min (Int.toNat (u64.wrap q6_7)) u64.bits)) (Int.fdiv lo (2 ^ min (Int.toNat (u64.wrap ((64:Int)-(u64.wrap q6_7)))) u64.bits))))::(13,.dat T10 (Int.fdiv (u64.wrap (lo*2 ^ min (Int.toNat (u64.wrap q6_7)) u64.bits)) (2 ^ min (Int.toNat (32:Int)) u64.bits)))::(14,.dat T10 (Ft IntKind.u64 (fun p q=>p&&& q) (u64.wrap (lo*2 ^ min (Int.toNat (u64.wrap q6_7)) u64.bits)) (4294967295:Int)))::zz)
 refine lJ hz3 (fun x=>⟨e2 [(15,.dat T10 x.1),(16,.dat T10 x.2)],[],0⟩) (fun z=>[(2,⟨e2 [(15,.dat T10 z)],[],0⟩)]) (E4 [] (R10 (AI TV TV))) (fun m=>F3 (fun q1=>fun rhat z q=>?_)) ?_
 ·have q:f211_l3 lo y_ q6_7 _ q1 rhat=some z:=q
  unfold f211_l3 at q
  obtain ⟨z4,hz4,q⟩:=bE q
  refine OQ ⟨Sum.elim (fun z4a=>[(0,⟨e2 [(15,.dat T10 q1),(16,.dat T10 rhat)],[],0⟩)]) (fun z4b=>[(2,⟨e2 [(15,.dat T10 q1)],[],0⟩)]) z4,?_,?_⟩
  ·have q:=hz4
   clear hz4
   unfold f211_j4 at q
   refine OL (cN q (fun q=>?_) (fun q=>?_))
   ·refine gY (gY (gY (gY (gY (gY (gY (cF (cI q (fun q=>?_) (fun q=>?_)))))))))
    ·cases sE q
     refine E4 [] (R10 (AI TV TV))
    cases sE q
    refine E4 [] (R9 (AI TV TV))
   refine gN (gN (gN (gN (gN (gN (gN (cT (cT ?_))))))))
   cases sE q
   refine E4 [] (R10 (AI TV TV))
  rcases z4 with z4a | z4b
  ·dsimp only [Fx] at q
   refine AI (OL (OL (OL (cI q (fun q=>?_) (fun q=>?_))))) TV
   ·cases sE q
    refine E4 [] (R9 (AI TV TV))
   refine EI ((u64.wrap (q1-1)),(u64.wrap (rhat+(Int.fdiv (u64.wrap (y_*2 ^ min (Int.toNat (u64.wrap q6_7)) u64.bits)) (2 ^ min (Int.toNat (32:Int)) u64.bits))))) (AI q (E4 [] (R10 (AI TV TV))))
  dsimp only [Fx] at q
  refine AI ?_ TV
  cases sE q
  refine E4 [] (R9 (AI TV TV))
 refine AI (OL (OL (gI q (fun q=>?_)))) TV
 refine OL (OL ?_)
 obtain ⟨z7,hz7,q⟩:=bE q
 let e3:LE:=fun zz=>e1 ((14,.dat T10 (Ft IntKind.u64 (fun p q=>p&&& q) (u64.wrap (lo*2 ^ min (Int.toNat (u64.wrap q6_7)) u64.bits)) (4294967295:Int)))::(15,.dat T10 z3)::zz)
 let e4:LE:=fun zz=>e0 ((14,.dat T10 (Ft IntKind.u64 (fun p q=>p&&& q) (u64.wrap (lo*2 ^ min (Int.toNat (u64.wrap q6_7)) u64.bits)) (4294967295:Int)))::(15,.dat T10 z3)::(17,.dat T10 (u64.wrap ((u64.wrap ((u64.wrap ((Ft IntKind.u64 (fun p q=>p||| q) (u64.wrap (hi*2 ^ min (Int.toNat (u64.wrap q6_7)) u64.bits)) (Int.fdiv lo (2 ^ min (Int.toNat (u64.wrap ((64:Int)-(u64.wrap q6_7)))) u64.bits)))*4294967296))+(Int.fdiv (u64.wrap (lo*2 ^ min (Int.toNat (u64.wrap q6_7)) u64.bits)) (2 ^ min (Int.toNat (32:Int)) u64.bits))))-(u64.wrap (z3*(u64.wrap (y_*2 ^ min (Int.toNat (u64.wrap q6_7)) u64.bits)))))))::zz)
 refine lJ hz7 (fun x=>⟨e3 [(16,.dat T10 x.1),(17,.dat T10 (u64.wrap ((u64.wrap ((u64.wrap ((Ft IntKind.u64 (fun p q=>p||| q) (u64.wrap (hi*2 ^ min (Int.toNat (u64.wrap q6_7)) u64.bits)) (Int.fdiv lo (2 ^ min (Int.toNat (u64.wrap ((64:Int)-(u64.wrap q6_7)))) u64.bits)))*4294967296))+(Int.fdiv (u64.wrap (lo*2 ^ min (Int.toNat (u64.wrap q6_7)) u64.bits)) (2 ^ min (Int.toNat (32:Int)) u64.bits))))-(u64.wrap (z3*(u64.wrap (y_*2 ^ min (Int.toNat (u64.wrap q6_7)) u64.bits))))))),(18,.dat T10 x.2)],[],0⟩) (fun z=>[(4,⟨e4 [(18,.dat T10 z)],[],0⟩)]) (E4 [] (R10 (AI TV TV))) (fun m=>F3 (fun rhat=>fun q0 z q=>?_)) ?_
 ·have q:f211_l7 lo y_ q6_7 _ rhat q0=some z:=q
  unfold f211_l7 at q
  obtain ⟨z8,hz8,q⟩:=bE q
  refine OQ ⟨Sum.elim (fun z8a=>[(0,⟨e3 [(16,.dat T10 rhat),(17,.dat T10 (u64.wrap ((u64.wrap ((u64.wrap ((Ft IntKind.u64 (fun p q=>p||| q) (u64.wrap (hi*2 ^ min (Int.toNat (u64.wrap q6_7)) u64.bits)) (Int.fdiv lo (2 ^ min (Int.toNat (u64.wrap ((64:Int)-(u64.wrap q6_7)))) u64.bits)))*4294967296))+(Int.fdiv (u64.wrap (lo*2 ^ min (Int.toNat (u64.wrap q6_7)) u64.bits)) (2 ^ min (Int.toNat (32:Int)) u64.bits))))-(u64.wrap (z3*(u64.wrap (y_*2 ^ min (Int.toNat (u64.wrap q6_7)) u64.bits))))))),(18,.dat T10 q0)],[],0⟩)]) (fun z8b=>[(4,⟨e4 [(18,.dat T10 q0)],[],0⟩)]) z8,?_,?_⟩
  ·have q:=hz8
   clear hz8
   unfold f211_j8 at q
   refine OL (cN q (fun q=>?_) (fun q=>?_))
   ·refine gY (gY (gY (gY (gY (gY (gY (cF (cI q (fun q=>?_) (fun q=>?_)))))))))
    ·cases sE q
     refine E4 [] (R10 (AI TV TV))
    cases sE q
    refine E4 [] (R7 (AI TV TV))
   refine gN (gN (gN (gN (gN (gN (gN (cT (cT ?_))))))))
   cases sE q
   refine E4 [] (R10 (AI TV TV))
  rcases z8 with z8a | z8b
  ·dsimp only [Fx] at q
   refine AI (OL (OL (OL (cI q (fun q=>?_) (fun q=>?_))))) TV
   ·cases sE q
    refine E4 [] (R7 (AI TV TV))
   refine EI ((u64.wrap (rhat+(Int.fdiv (u64.wrap (y_*2 ^ min (Int.toNat (u64.wrap q6_7)) u64.bits)) (2 ^ min (Int.toNat (32:Int)) u64.bits)))),(u64.wrap (q0-1))) (AI q (E4 [] (R10 (AI TV TV))))
  dsimp only [Fx] at q
  refine AI ?_ TV
  cases sE q
  refine E4 [] (R7 (AI TV TV))
 refine AI (OL (gI q (fun q=>?_))) TV
 cases sE q
 refine AI rfl (E4 [] (R3 (AI TV TV)))
theorem H211:HI C211 211:=hI Tryz.f211 rfl fun x=>V211 x.1 x.2.1 x.2.2
def f207_j3 (r2:Int) (r4:F9):Option Bool:=
 bif (decide (r4.2>(u64.wrap (r2-r4.2)))) then
 some true
 else
 bif (r4.2==(u64.wrap (r2-r4.2))) then
 some ((Ft IntKind.u64 (fun p q=>p&&& q) r4.1 (1:Int))==1)
 else
 some false
def f207_j2 (r2:Int) (r4:F9):Option F9:=
 Ey (f207_j3 r2 r4) fun z8=>
 bif z8 then
 Ey (K3 r4.1 (1:Int) (0:Int)) fun r9=>
 some (r9.1,r9.2)
 else
 some (r4.1,(0:Int))
def f207 (a b:Int):Option Int:=
 bif (b==0) then
 bif (decide (a>0)) then
 some (9223372036854775807:Int)
 else
 bif (decide (a<0)) then
 some (-9223372036854775808:Int)
 else
 some (0:Int)
 else
 Ey (f198 a) fun r1=>
 Ey (f198 b) fun r2=>
 bif (decide ((Int.fdiv r1 (2 ^ min (Int.toNat (32:Int)) u64.bits))≥r2)) then
 Ey (f200 (1:Int) (0:Int) (!((decide (a<0))==(decide (b<0))))) fun r3=>
 some r3
 else
 Ey (f211 (Int.fdiv r1 (2 ^ min (Int.toNat (32:Int)) u64.bits)) (u64.wrap (r1*2 ^ min (Int.toNat (32:Int)) u64.bits)) r2) fun r4=>
 Ey (f207_j2 r2 r4) fun z7=>
 Ey (f200 z7.2 z7.1 (!((decide (a<0))==(decide (b<0))))) fun r10=>
 some r10
def C207:Con:=⟨F9,Int,0,fun x=>[.dat T1 x.1,.dat T1 x.2],NX,fun x=>f207 x.1 x.2,fun y=>[.dat T1 y],NX,0⟩
theorem V207 a b y (q:f207 a b=some y):VC Tryz.f207 C207 (a,b) y:=by
 unfold f207 at q
 refine OL (OL (OL (cI q (fun q=>?_) (fun q=>?_))))
 ·refine OL (OL (cI q (fun q=>?_) (fun q=>?_)))
  ·cases sE q
   refine OL (AI rfl (E4 [] (R2 (AI TV TV))))
  refine OL (cI q (fun q=>?_) (fun q=>?_))
  ·cases sE q
   refine OL (AI rfl (E4 [] (R2 (AI TV TV))))
  cases sE q
  refine OL (AI rfl (E4 [] (R2 (AI TV TV))))
 refine OL ?_
 obtain ⟨r1,h,q⟩:=bE q
 refine OL (cA H198 a h rfl (AI rfl (K0 ?_)))
 obtain ⟨r2,h,q⟩:=bE q
 refine OL (cA H198 b h rfl (AI rfl (K0 (OL (OL (AI (by decide) (AI (by decide) (OL (OL (cI q (fun q=>?_) (fun q=>?_)))))))))))
 ·refine OL ?_
  obtain ⟨r3,h,q⟩:=bE q
  refine OL (cA H200 ((1:Int),(0:Int),(!((decide (a<0))==(decide (b<0))))) h rfl (R3 (K0 ?_)))
  cases sE q
  refine AI rfl (E4 [] (R2 (AI TV TV)))
 refine OL ?_
 obtain ⟨r4,h,q⟩:=bE q
 refine OL (cA H211 ((Int.fdiv r1 (2 ^ min (Int.toNat (32:Int)) u64.bits)),(u64.wrap (r1*2 ^ min (Int.toNat (32:Int)) u64.bits)),r2) h rfl (R3 (K0 (OL ?_))))
 obtain ⟨z7,hz7,q⟩:=bE q
 let e0:LE:=fun zz=>(7,.dat .bool (!((decide (a<0))==(decide (b<0)))))::zz
 refine OQ ⟨[(0,⟨e0 [(10,.dat T10 z7.1),(12,.dat T10 z7.2)],[],0⟩)],?_,?_⟩
 ·have q:=hz7
  clear hz7
  unfold f207_j2 at q
  obtain ⟨z8,hz8,q⟩:=bE q
  refine OQ ⟨[(0,⟨e0 [(10,.dat T10 r4.1),(12,.dat T10 (0:Int)),(62,.dat .bool z8)],[],0⟩)],?_,?_⟩
  ·have q:=hz8
   clear hz8
   unfold f207_j3 at q
   refine cN q (fun q=>?_) (fun q=>?_)
   ·refine gY (gY (gY (gY (gY (cI q (fun q=>?_) (fun q=>?_))))))
    ·refine gX (gX (gY (cT (cF ?_))))
     cases sE q
     refine E4 [] (R5 (AI TV TV))
    refine gM (gM (gY (cF (cF ?_))))
    cases sE q
    refine E4 [] (R5 (AI TV TV))
   refine gN (gN (gN (gN (gN (gN (cT ?_))))))
   cases sE q
   refine E4 [] (R5 (AI TV TV))
  refine AI (cI q (fun q=>?_) (fun q=>?_)) TV
  ·obtain ⟨r9,h,q⟩:=bE q
   refine OQ ⟨ext3 K3,[r9.1,r9.2],K2,AI (ext3I h) ?_⟩
   cases sE q
   refine E4 [] (R4 (AI TV TV))
  cases sE q
  refine E4 [] (R4 (AI TV TV))
 refine AI (OL ?_) TV
 obtain ⟨r10,h,q⟩:=bE q
 refine OL (cA H200 (z7.2,z7.1,(!((decide (a<0))==(decide (b<0))))) h rfl (R3 (K0 ?_)))
 cases sE q
 refine AI rfl (E4 [] (R2 (AI TV TV)))
theorem H207:HI C207 207:=hI Tryz.f207 rfl fun x=>V207 x.1 x.2
def f209 (a:F9):Option (Int×Ki):=
 bif (decide (a.1<0)) then
 Ey (f212 (a.1,a.2)) fun q4_7=>
 some ((u64.wrap q4_7.1),q4_7.2,true)
 else
 some ((u64.wrap a.1),a.2,false)
def C209:Con:=⟨F9,Int×Ki,0,fun x=>[.dat T11 x],NX,fun x=>f209 x,fun y=>[.dat T10 y.1,.dat T10 y.2.1,.dat .bool y.2.2],NX,0⟩
theorem V209 a y (q:f209 a=some y):VC Tryz.f209 C209 a y:=by
 unfold f209 at q
 refine OL (OL (OL (cI q (fun q=>?_) (fun q=>?_))))
 ·refine OL ?_
  obtain ⟨q4_7,h,q⟩:=bE q
  refine OL (cA H212 (a.1,a.2) h rfl (R2 (K0 (OL (OL (EI (tU 0 8 .done) (EI [] (EI [] (AI rfl ?_)))))))))
  cases sE q
  refine AI rfl (E4 [] (R4 (AI TV TV)))
 refine OL (EI (tU 0 8 .done) (EI [] (EI [] (AI rfl ?_))))
 cases sE q
 refine AI rfl (E4 [] (R4 (AI TV TV)))
theorem H209:HI C209 209:=hI Tryz.f209 rfl fun x=>V209 x
def f184_j3 (r4:Int) (q6_7:F9):Option Bool:=
 bif (decide (q6_7.2>(u64.wrap (r4-q6_7.2)))) then
 some true
 else
 bif (q6_7.2==(u64.wrap (r4-q6_7.2))) then
 some ((Ft IntKind.u64 (fun p q=>p&&& q) q6_7.1 (1:Int))==1)
 else
 some false
def f184_j2 (r3:Int×Ki) (r4:Int) (q6_7:F9):Option F9:=
 Ey (f184_j3 r4 q6_7) fun z8=>
 bif z8 then
 Ey (K3 q6_7.1 (1:Int) (0:Int)) fun r9=>
 some ((u64.wrap ((u64.wrap (Int.tdiv r3.1 r4))+r9.2)),r9.1)
 else
 some ((u64.wrap (Int.tdiv r3.1 r4)),q6_7.1)
def f184 (a:F9) (n:Int):Option Int:=
 bif (n==0) then
 Ey (f208 (a.1,a.2) ((0:Int),(0:Int))) fun r1=>
 Ey (f207 r1 (0:Int)) fun r2=>
 some r2
 else
 Ey (f209 (a.1,a.2)) fun r3=>
 Ey (f210 n) fun r4=>
 E9 (r4≠0)<|
 E9 (r4≠0)<|
 Ey (f211 (Int.tmod r3.1 r4) r3.2.1 r4) fun q6_7=>
 Ey (f184_j2 r3 r4 q6_7) fun z7=>
 bif (!(r3.2.2==(decide (n<0)))) then
 Ey (f212 ((i64.wrap (if (9223372036854775807:Int)<z7.1 then (9223372036854775807:Int) else z7.1)),z7.2)) fun r10=>
 Ey (f182 (r10.1,r10.2)) fun r11=>
 some r11
 else
 Ey (f182 ((i64.wrap (if (9223372036854775807:Int)<z7.1 then (9223372036854775807:Int) else z7.1)),z7.2)) fun r12=>
 some r12
def C184:Con:=⟨F9×Int,Int,0,fun x=>[.dat T11 x.1,.dat T1 x.2],NX,fun x=>f184 x.1 x.2,fun y=>[.dat T1 y],NX,0⟩
theorem V184 a n y (q:f184 a n=some y):VC Tryz.f184 C184 (a,n) y:=by
 unfold f184 at q
 refine OL (OL (OL (cI q (fun q=>?_) (fun q=>?_))))
 ·refine OL ?_
  obtain ⟨r1,h,q⟩:=bE q
  refine OL (cA H208 ((a.1,a.2),((0:Int),(0:Int))) h rfl (R4 (K0 ?_)))
  obtain ⟨r2,h,q⟩:=bE q
  refine OL (cA H207 (r1,(0:Int)) h rfl (R2 (K0 ?_)))
  cases sE q
  refine AI rfl (E4 [] (R2 (AI TV TV)))
 refine OL ?_
 obtain ⟨r3,h,q⟩:=bE q
 refine OL (cA H209 (a.1,a.2) h rfl (R2 (K0 (OL ?_))))
 obtain ⟨r4,h,q⟩:=bE q
 refine OL (cA H210 n h rfl (AI rfl (K0 (OL (OL (EI (tU 0 8 .done) (EI [] (EI [] (AI rfl (gI q (fun q=>?_)))))))))))
 refine gI q (fun q=>?_)
 refine OL ?_
 obtain ⟨q6_7,h,q⟩:=bE q
 refine OL (cA H211 ((Int.tmod r3.1 r4),r3.2.1,r4) h rfl (R3 (K0 ?_)))
 obtain ⟨z7,hz7,q⟩:=bE q
 refine OQ ⟨[(0,⟨[(7,.dat .bool (!(r3.2.2==(decide (n<0))))),(9,.dat T10 z7.1),(11,.dat T10 z7.2)],[],0⟩)],?_,?_⟩
 ·have q:=hz7
  clear hz7
  unfold f184_j2 at q
  obtain ⟨z8,hz8,q⟩:=bE q
  refine OQ ⟨[(0,⟨[(7,.dat .bool (!(r3.2.2==(decide (n<0))))),(9,.dat T10 (u64.wrap (Int.tdiv r3.1 r4))),(11,.dat T10 q6_7.1),(61,.dat .bool z8)],[],0⟩)],?_,?_⟩
  ·have q:=hz8
   clear hz8
   unfold f184_j3 at q
   refine cN q (fun q=>?_) (fun q=>?_)
   ·refine gY (gY (gY (gY (gY (cI q (fun q=>?_) (fun q=>?_))))))
    ·refine gX (gX (gY (cT (cF ?_))))
     cases sE q
     refine E4 [] (R5 (AI TV TV))
    refine gM (gM (gY (cF (cF ?_))))
    cases sE q
    refine E4 [] (R5 (AI TV TV))
   refine gN (gN (gN (gN (gN (gN (cT ?_))))))
   cases sE q
   refine E4 [] (R5 (AI TV TV))
  refine AI (cI q (fun q=>?_) (fun q=>?_)) TV
  ·refine OL (OL ?_)
   obtain ⟨r9,h,q⟩:=bE q
   refine OQ ⟨ext3 K3,[r9.1,r9.2],K2,AI (ext3I h) ?_⟩
   cases sE q
   refine E4 [] (R4 (AI TV TV))
  cases sE q
  refine E4 [] (R4 (AI TV TV))
 refine AI (OL (OL (OL (OL (cI q (fun q=>?_) (fun q=>?_)))))) TV
 ·refine OL ?_
  obtain ⟨r10,h,q⟩:=bE q
  refine OL (cA H212 ((i64.wrap (if (9223372036854775807:Int)<z7.1 then (9223372036854775807:Int) else z7.1)),z7.2) h rfl (R2 (K0 ?_)))
  obtain ⟨r11,h,q⟩:=bE q
  refine OL (cA H182 (r10.1,r10.2) h rfl (R2 (K0 ?_)))
  cases sE q
  refine AI rfl (E4 [] (R2 (AI TV TV)))
 refine OL ?_
 obtain ⟨r12,h,q⟩:=bE q
 refine OL (cA H182 ((i64.wrap (if (9223372036854775807:Int)<z7.1 then (9223372036854775807:Int) else z7.1)),z7.2) h rfl (R2 (K0 ?_)))
 cases sE q
 refine AI rfl (E4 [] (R2 (AI TV TV)))
theorem H184:HI C184 184:=hI Tryz.f184 rfl fun x=>V184 x.1 x.2
def f148 (a:Fy):Option F9:=
 Ey (f91 (a.1,a.2)) fun q3_8=>
 bif (!q3_8) then
 some ((0:Int),(1:Int))
 else
 Ey (f183 a.2) fun q3_2=>
 Ey (f184 (q3_2.1,q3_2.2) (a.2.length:Int)) fun q3_6=>
 some (q3_6,(0:Int))
def C148:Con:=⟨Fy,F9,0,fun x=>[.dat T9 x],NX,fun x=>f148 x,fun y=>[.dat T1 y.1,.dat T1 y.2],NX,0⟩
theorem V148 a y (q:f148 a=some y):VC Tryz.f148 C148 a y:=by
 unfold f148 at q
 refine OL (OL (OL ?_))
 obtain ⟨q3_8,h,q⟩:=bE q
 refine OL (cA H91 (a.1,a.2) h rfl (R2 (K0 (cI q (fun q=>?_) (fun q=>?_)))))
 ·cases sE q
  refine OL (AI rfl (E4 [] (R3 (AI TV TV))))
 refine OL (EI (.take 0 (.take 1 (tU 3 3 (.alt 2 (.alt 6 (.take 7 (.take 8 .done)) .done) .done)))) (EI [] (EI [] (AI rfl (AI TV ?_)))))
 obtain ⟨q3_2,h,q⟩:=bE q
 refine OL (cA H183 a.2 h rfl (AI rfl (K0 (AI TV ?_))))
 obtain ⟨q3_6,h,q⟩:=bE q
 refine OL (cA H184 ((q3_2.1,q3_2.2),(a.2.length:Int)) h rfl (R3 (K0 ?_)))
 cases sE q
 refine AI rfl (E4 [] (R3 (AI TV TV)))
theorem H148:HI C148 148:=hI Tryz.f148 rfl fun x=>V148 x
def f185 (kind:Int):Option Bool:=
 bif (decide (kind≥1)) then
 some (decide (kind≤5))
 else
 some false
def C185:Con:=⟨Int,Bool,0,fun x=>[.dat T1 x],NX,fun x=>f185 x,fun y=>[.dat .bool y],NX,0⟩
theorem V185 kind y (q:f185 kind=some y):VC Tryz.f185 C185 kind y:=by
 unfold f185 at q
 refine OL (OL (cI q (fun q=>?_) (fun q=>?_)))
 ·refine gX (cT ?_)
  cases sE q
  refine AI rfl (E4 [] (R2 (AI TV TV)))
 refine gM (cF ?_)
 cases sE q
 refine AI rfl (E4 [] (R2 (AI TV TV)))
theorem H185:HI C185 185:=hI Tryz.f185 rfl fun x=>V185 x
def f213 (n:Int):Option Int:=
 bif (decide (n≥2147483648)) then
 some (9223372036854775807:Int)
 else
 bif (decide (n<(-2147483648:Int))) then
 some (-9223372036854775808:Int)
 else
 some (i64.wrap (n*2 ^ min (Int.toNat (32:Int)) i64.bits))
def C213:Con:=⟨Int,Int,0,fun x=>[.dat T1 x],NX,fun x=>f213 x,fun y=>[.dat T1 y],NX,0⟩
theorem V213 n y (q:f213 n=some y):VC Tryz.f213 C213 n y:=by
 unfold f213 at q
 refine OL (OL (OL (cI q (fun q=>?_) (fun q=>?_))))
 ·cases sE q
  refine OL (AI rfl (E4 [] (R2 (AI TV TV))))
 refine OL (cI q (fun q=>?_) (fun q=>?_))
 ·cases sE q
  refine OL (AI rfl (E4 [] (R2 (AI TV TV))))
 refine OL (AI (by decide) ?_)
 cases sE q
 refine AI rfl (E4 [] (R2 (AI TV TV)))
theorem H213:HI C213 213:=hI Tryz.f213 rfl fun x=>V213 x
def f214 (x_ lo hi:Int):Option Int:=
 some (if hi<(if lo>x_ then lo else x_) then hi else (if lo>x_ then lo else x_))
def C214:Con:=⟨Int×F9,Int,0,fun x=>[.dat T1 x.1,.dat T1 x.2.1,.dat T1 x.2.2],NX,fun x=>f214 x.1 x.2.1 x.2.2,fun y=>[.dat T1 y],NX,0⟩
theorem V214 x_ lo hi y (q:f214 x_ lo hi=some y):VC Tryz.f214 C214 (x_,lo,hi) y:=by
 unfold f214 at q
 refine OL (OL ?_)
 cases sE q
 refine AI rfl (E4 [] (R2 (AI TV TV)))
theorem H214:HI C214 214:=hI Tryz.f214 rfl fun x=>V214 x.1 x.2.1 x.2.2
def f215 (a:Int):Option Int:=
 bif (a==(-9223372036854775808:Int)) then
 some (9223372036854775807:Int)
 else
 some (i64.wrap (0-a))
def C215:Con:=⟨Int,Int,0,fun x=>[.dat T1 x],NX,fun x=>f215 x,fun y=>[.dat T1 y],NX,0⟩
theorem V215 a y (q:f215 a=some y):VC Tryz.f215 C215 a y:=by
 unfold f215 at q
 refine OL (OL (OL (cI q (fun q=>?_) (fun q=>?_))))
 ·cases sE q
  refine OL (AI rfl (E4 [] (R2 (AI TV TV))))
 cases sE q
 refine OL (AI rfl (E4 [] (R2 (AI TV TV))))
theorem H215:HI C215 215:=hI Tryz.f215 rfl fun x=>V215 x
end Go.Proofs
