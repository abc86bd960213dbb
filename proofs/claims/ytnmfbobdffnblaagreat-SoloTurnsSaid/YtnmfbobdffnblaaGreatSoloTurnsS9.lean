import Derived.Test.YtnmfbobdffnblaaGreatSoloTurnsS8
set_option linter.unusedVariables false
set_option maxRecDepth 100000
set_option maxHeartbeats 8000000
namespace Go.Proofs
open Go.AM
open IntKind (i64 u64 i32 u32 i16 u16 i8 u8)
def f5_j1 (r1:Bl) (r3a:Int):Option Unit:=
 bif (r1.1 != 0) then
 some ()
 else
 bif (r3a != 0) then
 some ()
 else
 some ()
def f5_j2 (r1:Bl):Option (Sum Unit Unit):=
 bif (r1.1 != 0) then
 some (Sum.inr ())
 else
 bif ((0:Int) != 0) then
 some (Sum.inr ())
 else
 bif ((r1.2.1.length:Int) != 2) then
 some (Sum.inr ())
 else
 bif ((r1.2.2.length:Int) != 2) then
 some (Sum.inr ())
 else
 some (Sum.inl ())
def f5:Option Bool:=
 Ac (f12) fun q7_21=>
 Ac (f11 (([(1:Int)],[((ByteArray.mk #[100,101,110,115,101]),(1:Int),(0:Int))]),(1:Int),(2:Int),((1073741824:Int),(2147483648:Int),(0:Int)),q7_21,[(0:Int),(0:Int)]) (0:Int)) fun r1=>
 Ac (f12) fun r2=>
 Ac (f7 (([(1:Int)],[((ByteArray.mk #[100,101,110,115,101]),(1:Int),(0:Int))]),(1:Int),(2:Int),((1073741824:Int),(2147483648:Int),(0:Int)),r2,[(0:Int),(0:Int)])) fun r3=>
 Ak r3 (fun r3a=>
 Ac (f5_j1 r1 r3a) fun z4=>
 some false) (fun r3b=>
 Ac (f5_j2 r1) fun z5=>
 Ak z5 (fun z5a=>
 Ac (f8 r3b.1 r3b.2.1 r3b.2.2.1 r3b.2.2.2.1 r3b.2.2.2.2.1 r3b.2.2.2.2.2.1 r3b.2.2.2.2.2.2.1 r3b.2.2.2.2.2.2.2.1 r3b.2.2.2.2.2.2.2.2.1 r3b.2.2.2.2.2.2.2.2.2.1 r3b.2.2.2.2.2.2.2.2.2.2 (0:Int) (0:Int) (0:Int)) fun r6=>
 Ac (f9 r6.2.1 r6.2.2.1 r6.2.2.2.1 r6.2.2.2.2.1 r6.2.2.2.2.2.1 r6.2.2.2.2.2.2.1 r6.2.2.2.2.2.2.2.1 r6.2.2.2.2.2.2.2.2.1 r6.2.2.2.2.2.2.2.2.2.1 r6.2.2.2.2.2.2.2.2.2.2.2.2.2.1 r6.2.2.2.2.2.2.2.2.2.2.2.2.2.2 r6.2.2.2.2.2.2.2.2.2.2.1 r6.2.2.2.2.2.2.2.2.2.2.2.1 r6.2.2.2.2.2.2.2.2.2.2.2.2.1) fun r7=>
 bif (r6.1==0) then
 Ac (f13 r7.2.2.1 r7.2.2.2.1 r7.2.2.2.2.1 r7.2.2.2.2.2.1 r7.2.2.2.2.2.2.1 r7.2.2.2.2.2.2.2.1 r7.2.2.2.2.2.2.2.2.1 r7.2.2.2.2.2.2.2.2.2.1 r7.2.2.2.2.2.2.2.2.2.2.1 r7.2.2.2.2.2.2.2.2.2.2.2.2.2.2.1 r7.2.2.2.2.2.2.2.2.2.2.2.2.2.2.2 r7.2.2.2.2.2.2.2.2.2.2.2.1 r7.2.2.2.2.2.2.2.2.2.2.2.2.1 r7.2.2.2.2.2.2.2.2.2.2.2.2.2.1) fun q7_4=>
 bif (q7_4.1==1) then
 Ac (f12) fun q7_9=>
 Ac (f16 (([(1:Int)],[((ByteArray.mk #[100,101,110,115,101]),(1:Int),(0:Int))]),(1:Int),(2:Int),((1073741824:Int),(2147483648:Int),(0:Int)),q7_9,[(0:Int),(0:Int)])) fun q7_10=>
 Ac (f15 ((q7_10.1,q7_10.2.2.2.2.2.2.2.1),q7_10.2.1,q7_10.2.2.1,(q7_10.2.2.2.1,q7_10.2.2.2.2.1,q7_10.2.2.2.2.2.1),q7_10.2.2.2.2.2.2.2.2,q7_10.2.2.2.2.2.2.1) (1:Int)) fun q7_11=>
 Ac (f14 (r7.1,r7.2.1) (q7_11.1,q7_11.2)) fun q7_12=>
 bif q7_12 then
 Ad (0≤(0:Int)∧0<(r7.1.length:Int))<|
 some ((rd 0 r7.1 0) != 0)
 else
 some false
 else
 some false
 else
 some false) (fun z5b=>
 some false))
def C5:Con:=⟨Unit,Bool,0,fun x=>[],NX,fun x=>f5,fun y=>[.dat .bool y],NX,0⟩
theorem V5 y (q:f5=some y):VC Tryz.f5 C5 () y:=by
 unfold f5 at q
 refine OL (OL ?_)
 obtain ⟨q7_21,h,q⟩:=bE q
 refine OL (cA H12 () h rfl (K0 ?_))
 obtain ⟨r1,h,q⟩:=bE q
 refine OL (cD H11 ((([(1:Int)],[((ByteArray.mk #[100,101,110,115,101]),(1:Int),(0:Int))]),(1:Int),(2:Int),((1073741824:Int),(2147483648:Int),(0:Int)),q7_21,[(0:Int),(0:Int)]),(0:Int)) h rfl (R3 (AI (fun _=>rfl) (R2 (AI TV (AI TV (OL (OL ?_))))))))
 obtain ⟨r2,h,q⟩:=bE q
 refine OL (cA H12 () h rfl (K0 ?_))
 obtain ⟨r3,hr3,q⟩:=bE q
 rcases r3 with r3a | r3b
 ·dsimp only [Ak] at q
  refine OL (cA H7 (([(1:Int)],[((ByteArray.mk #[100,101,110,115,101]),(1:Int),(0:Int))]),(1:Int),(2:Int),((1073741824:Int),(2147483648:Int),(0:Int)),r2,[(0:Int),(0:Int)]) hr3 rfl (R2 (K0 ?_)))
  obtain ⟨z4,hz4,q⟩:=bE q
  refine OQ ⟨[(1,⟨[(0,.dat .bool false)],[],0⟩)],?_,?_⟩
  ·have q:=hz4
   clear hz4
   unfold f5_j1 at q
   refine OL (cN q (fun q=>?_) (fun q=>?_))
   ·refine gY (cF (cN q (fun q=>?_) (fun q=>?_)))
    ·refine gY (cF (gN (gN (gN (gN (cT (gN (gN (gN (gN (cT (cT (OL ?_)))))))))))))
     cases sE q
     refine E4 [] (R2 (AI TV TV))
    refine gN (cT (gN (gN (gN (gN (cT (gN (gN (gN (gN (cT (cT (OL ?_)))))))))))))
    cases sE q
    refine E4 [] (R2 (AI TV TV))
   refine gN (cT (gN (gN (cT (gN (gN (gN (gN (cT (gN (gN (gN (gN (cT (cT (OL ?_))))))))))))))))
   cases sE q
   refine E4 [] (R2 (AI TV TV))
  refine AI ?_ TV
  cases sE q
  refine AI rfl (E4 [] (R2 (AI TV TV)))
 dsimp only [Ak] at q
 refine OL (cA H7 (([(1:Int)],[((ByteArray.mk #[100,101,110,115,101]),(1:Int),(0:Int))]),(1:Int),(2:Int),((1073741824:Int),(2147483648:Int),(0:Int)),r2,[(0:Int),(0:Int)]) hr3 rfl (R2 (K0 ?_)))
 obtain ⟨z5,hz5,q⟩:=bE q
 refine OQ ⟨Sum.elim (fun z5a=>[(0,⟨[(3,P0 0 0)],[(0,.cells [(.d T5 r3b.1),(.d T4 r3b.2.1),(.d T0 r3b.2.2.1),(.d T0 r3b.2.2.2.1),(.d T0 r3b.2.2.2.2.1),(.d T0 r3b.2.2.2.2.2.1),(.d T0 r3b.2.2.2.2.2.2.1),(.d T12 r3b.2.2.2.2.2.2.2.1),(.d T5 r3b.2.2.2.2.2.2.2.2.1),(.osl 1),(.osl 2),(.d T0 (0:Int)),(.d T0 (0:Int)),(.d T9 (0:Int))]),(1,.arr 26 T0 r3b.2.2.2.2.2.2.2.2.2.1),(2,.arr 26 T0 r3b.2.2.2.2.2.2.2.2.2.2)],3⟩)]) (fun z5b=>[(1,⟨[(0,.dat .bool false)],[],0⟩)]) z5,?_,?_⟩
 ·have q:=hz5
  clear hz5
  unfold f5_j2 at q
  refine OL (cN q (fun q=>?_) (fun q=>?_))
  ·refine gY (cF (cN q (fun q=>?_) (fun q=>?_)))
   ·refine gY (cF (gY (gY (gY (gY (cF (cN q (fun q=>?_) (fun q=>?_))))))))
    ·refine gY (gY (gY (cF (cI q (fun q=>?_) (fun q=>?_)))))
     ·cases sE q
      refine OL (E4 [] (R2 (AI TV TV)))
     cases sE q
     refine E4 (iuR [12,13,14]) (AI rfl (AJ (R3 TV)))
    refine gN (gN (gN (cT (cT (OL ?_)))))
    cases sE q
    refine E4 [] (R2 (AI TV TV))
   refine gN (cT (gN (gN (gN (gN (cT (gN (gN (gN (gN (cT (cT (OL ?_)))))))))))))
   cases sE q
   refine E4 [] (R2 (AI TV TV))
  refine gN (cT (gN (gN (cT (gN (gN (gN (gN (cT (gN (gN (gN (gN (cT (cT (OL ?_))))))))))))))))
  cases sE q
  refine E4 [] (R2 (AI TV TV))
 rcases z5 with z5a | z5b
 ·dsimp only [Ak] at q
  refine AI (OL ?_) TV
  obtain ⟨r6,h,q⟩:=bE q
  refine OL (cB H8 (r3b.1,r3b.2.1,r3b.2.2.1,r3b.2.2.2.1,r3b.2.2.2.2.1,r3b.2.2.2.2.2.1,r3b.2.2.2.2.2.2.1,r3b.2.2.2.2.2.2.2.1,r3b.2.2.2.2.2.2.2.2.1,r3b.2.2.2.2.2.2.2.2.2.1,r3b.2.2.2.2.2.2.2.2.2.2,(0:Int),(0:Int),(0:Int)) I3 false h rfl (AI NH (R2 (AJ (AI (R3 TV) (OL ?_))))))
  obtain ⟨r7,h,q⟩:=bE q
  refine OL (cB H9 (r6.2.1,r6.2.2.1,r6.2.2.2.1,r6.2.2.2.2.1,r6.2.2.2.2.2.1,r6.2.2.2.2.2.2.1,r6.2.2.2.2.2.2.2.1,r6.2.2.2.2.2.2.2.2.1,r6.2.2.2.2.2.2.2.2.2.1,r6.2.2.2.2.2.2.2.2.2.2.2.2.2.1,r6.2.2.2.2.2.2.2.2.2.2.2.2.2.2,r6.2.2.2.2.2.2.2.2.2.2.1,r6.2.2.2.2.2.2.2.2.2.2.2.1,r6.2.2.2.2.2.2.2.2.2.2.2.2.1) (iuR [1,7,8]) false h rfl (AI NH (R2 (AJ (AI (R3 TV) (OL (OL (EI (tU 0 4 (.alt 4 (tU 5 4 (.alt 9 (.alt 10 (.alt 11 (.alt 12 (tU 13 9 .done) .done) .done) .done) .done)) .done)) (EI [] (EI [] (AI rfl (cI q (fun q=>?_) (fun q=>?_)))))))))))))
  ·refine AI TV (gX ?_)
   obtain ⟨q7_4,h,q⟩:=bE q
   refine OL (cB H13 (r7.2.2.1,r7.2.2.2.1,r7.2.2.2.2.1,r7.2.2.2.2.2.1,r7.2.2.2.2.2.2.1,r7.2.2.2.2.2.2.2.1,r7.2.2.2.2.2.2.2.2.1,r7.2.2.2.2.2.2.2.2.2.1,r7.2.2.2.2.2.2.2.2.2.2.1,r7.2.2.2.2.2.2.2.2.2.2.2.2.2.2.1,r7.2.2.2.2.2.2.2.2.2.2.2.2.2.2.2,r7.2.2.2.2.2.2.2.2.2.2.2.1,r7.2.2.2.2.2.2.2.2.2.2.2.2.1,r7.2.2.2.2.2.2.2.2.2.2.2.2.2.1) (iuR [1,7,8]) false h rfl (AI NH (R2 (AJ (AI (R3 TV) (gX (cT (cI q (fun q=>?_) (fun q=>?_)))))))))
   ·refine AI TV (gX ?_)
    obtain ⟨q7_9,h,q⟩:=bE q
    refine OL (cA H12 () h rfl (K0 (AI TV (gX ?_))))
    obtain ⟨q7_10,h,q⟩:=bE q
    refine OL (cA H16 (([(1:Int)],[((ByteArray.mk #[100,101,110,115,101]),(1:Int),(0:Int))]),(1:Int),(2:Int),((1073741824:Int),(2147483648:Int),(0:Int)),q7_9,[(0:Int),(0:Int)]) h rfl (R2 (K0 (AI TV (gX ?_)))))
    obtain ⟨q7_11,h,q⟩:=bE q
    refine OL (cD H15 (((q7_10.1,q7_10.2.2.2.2.2.2.2.1),q7_10.2.1,q7_10.2.2.1,(q7_10.2.2.2.1,q7_10.2.2.2.2.1,q7_10.2.2.2.2.2.1),q7_10.2.2.2.2.2.2.2.2,q7_10.2.2.2.2.2.2.1),(1:Int)) h rfl (R3 (AI (fun _=>rfl) (R2 (AI TV (AI TV (AI TV (gX ?_))))))))
    obtain ⟨q7_12,h,q⟩:=bE q
    refine OL (cD H14 ((r7.1,r7.2.1),(q7_11.1,q7_11.2)) h rfl (R4 (AI (fun _=>rfl) (R2 (AI TV (AI TV (cT (cI q (fun q=>?_) (fun q=>?_)))))))))
    ·refine gX (gX (gI q (fun q=>?_)))
     refine gX (gX (cT ?_))
     cases sE q
     refine AI rfl (E4 [] (R2 (AI TV TV)))
    refine gM (gM (gM (gM (cF ?_))))
    cases sE q
    refine AI rfl (E4 [] (R2 (AI TV TV)))
   refine AI TV (gM (AI TV (gM (AI TV (gM (AI TV (gM (cF (gM (gM (gM (gM (gM (cF ?_))))))))))))))
   cases sE q
   refine AI rfl (E4 [] (R2 (AI TV TV)))
  refine AI TV (gM (gM (cF (gM (AI TV (gM (AI TV (gM (AI TV (gM (AI TV (gM (cF (gM (gM (gM (gM (gM (cF ?_)))))))))))))))))))
  cases sE q
  refine AI rfl (E4 [] (R2 (AI TV TV)))
 dsimp only [Ak] at q
 refine AI ?_ TV
 cases sE q
 refine AI rfl (E4 [] (R2 (AI TV TV)))
theorem H5:HI C5 5:=hI Tryz.f5 rfl fun x=>V5
def f6_j1 (j:PTz5):Option (Sum Unit Unit):=
 bif (decide ((j.1.1.length:Int)>4)) then
 some (Sum.inr ())
 else
 bif (decide ((j.1.2.length:Int)>5)) then
 some (Sum.inr ())
 else
 bif (decide ((j.2.2.2.2.1.length:Int)>8)) then
 some (Sum.inr ())
 else
 bif (decide ((j.2.2.2.2.2.length:Int)>50)) then
 some (Sum.inr ())
 else
 some (Sum.inl ())
def f6_l2 (j:PTz5) (go:Int→Option (Sum Unit Unit)) (i:Int):Option (Sum Unit Unit):=
 bif (decide (i<j.2.2.2.2.1.length)) then
 Ad (0≤i∧i<j.2.2.2.2.1.length)<|
 bif (decide ((List.length ((rd (Ty.z T2) j.2.2.2.2.1 i).1):Int)>30)) then
 some (Sum.inl ())
 else
 Ad (0≤i∧i<j.2.2.2.2.1.length)<|
 bif (decide ((List.length (((rd (Ty.z T2) j.2.2.2.2.1 i).2).1):Int)>30)) then
 some (Sum.inl ())
 else
 go (i64.wrap (i+1))
 else
 some (Sum.inr ())
def f6 (j:PTz5):Option Bool:=
 Ac (f6_j1 j) fun z1=>
 Ak z1 (fun z1a=>
 Ac (Ag (fun go x=>f6_l2 j go x) Ah (0:Int)) fun z2=>
 Ak z2 (fun z2a=>
 some false) (fun z2b=>
 some true)) (fun z1b=>
 some false)
def C6:Con:=⟨PTz5,Bool,0,fun x=>[.dat T11 x],NX,fun x=>f6 x,fun y=>[.dat .bool y],NX,0⟩
theorem V6 j y (q:f6 j=some y):VC Tryz.f6 C6 j y:=by
 unfold f6 at q
 refine OL ?_
 obtain ⟨z1,hz1,q⟩:=bE q
 let h0:LH:=fun zz=>(0,.cells [(.d T5 j.1.1),(.d T4 j.1.2),(.d T0 j.2.1),(.d T0 j.2.2.1),(.d T0 j.2.2.2.1.1),(.d T0 j.2.2.2.1.2.1),(.d T0 j.2.2.2.1.2.2),(.d T12 j.2.2.2.2.1),(.d T5 j.2.2.2.2.2)])::zz
 refine OQ ⟨Sum.elim (fun z1a=>[(0,⟨[(1,P0 0 0)],h0 [],1⟩)]) (fun z1b=>[(1,⟨[(2,.dat .bool false)],[],0⟩)]) z1,?_,?_⟩
 ·have q:=hz1
  clear hz1
  unfold f6_j1 at q
  refine OL (cN q (fun q=>?_) (fun q=>?_))
  ·refine gY (gY (gY (gY (cF (cN q (fun q=>?_) (fun q=>?_))))))
   ·refine gY (gY (gY (cF (cN q (fun q=>?_) (fun q=>?_)))))
    ·refine gY (gY (gY (cF (cI q (fun q=>?_) (fun q=>?_)))))
     ·cases sE q
      refine OL (E4 [] (R2 (AI TV TV)))
     cases sE q
     refine E4 (iuR [1]) (AI rfl (AJ (AI rfl TV)))
    refine gN (gN (gN (cT (cT (OL ?_)))))
    cases sE q
    refine E4 [] (R2 (AI TV TV))
   refine gN (gN (gN (cT (gN (gN (gN (gN (cT (cT (OL ?_))))))))))
   cases sE q
   refine E4 [] (R2 (AI TV TV))
  refine gN (gN (gN (gN (cT (gN (gN (gN (gN (cT (gN (gN (gN (gN (cT (cT (OL ?_))))))))))))))))
  cases sE q
  refine E4 [] (R2 (AI TV TV))
 rcases z1 with z1a | z1b
 ·dsimp only [Ak] at q
  refine AI (OL (OL ?_)) TV
  obtain ⟨z2,h,q⟩:=bE q
  refine lJ h (fun x=>⟨[(1,P0 0 0),(3,.dat T0 x)],h0 [],1⟩) (fun z=>Sum.elim (fun za=>[(1,⟨[(2,.dat .bool false)],[],0⟩)]) (fun zb=>[(2,⟨[],[],0⟩)]) z) (E4 (iuR [1]) (R2 (AJ (AI rfl TV)))) (fun m=>fun i z q=>?_) ?_
  ·have q:f6_l2 j _ i=some z:=q
   unfold f6_l2 at q
   refine OL (OL (cI q (fun q=>?_) (fun q=>?_)))
   ·refine OL (OL (gI q (fun q=>?_)))
    refine cN q (fun q=>?_) (fun q=>?_)
    ·refine gY (gY (gY (gI q (fun q=>?_))))
     refine gY (gY (gY (gY (cF (cI q (fun q=>?_) (fun q=>?_))))))
     ·cases sE q
      refine OL (E4 [] (R2 (AI TV TV)))
     refine EI (i64.wrap (i+1)) (AI q (E4 (iuR [1]) (R2 (AJ (AI rfl TV)))))
    refine gN (gN (gN (gN (gN (gN (gN (cT (cT (OL ?_)))))))))
    cases sE q
    refine E4 [] (R2 (AI TV TV))
   cases sE q
   refine E4 [] (AI rfl (AI TV TV))
  rcases z2 with z2a | z2b
  ·dsimp only [Ak] at q
   refine AI ?_ TV
   cases sE q
   refine AI rfl (E4 [] (R2 (AI TV TV)))
  dsimp only [Ak] at q
  refine AI (OL ?_) TV
  cases sE q
  refine AI rfl (E4 [] (R2 (AI TV TV)))
 dsimp only [Ak] at q
 refine AI ?_ TV
 cases sE q
 refine AI rfl (E4 [] (R2 (AI TV TV)))
theorem H6:HI C6 6:=hI Tryz.f6 rfl fun x=>V6 x
def f4_j1 (j:PTz5) (k:Int):Option (Sum Unit Unit):=
 Ac (f6 ((j.1.1,j.1.2),j.2.1,j.2.2.1,(j.2.2.2.1.1,j.2.2.2.1.2.1,j.2.2.2.1.2.2),j.2.2.2.2.1,j.2.2.2.2.2)) fun r4=>
 bif (!r4) then
 some (Sum.inr ())
 else
 bif (decide (k<0)) then
 some (Sum.inr ())
 else
 bif (decide (k>4)) then
 some (Sum.inr ())
 else
 some (Sum.inl ())
def f4_l2 (j:PTz5) (go:(Int×D5)→Option D5) (i:Int) (l2:D5):Option D5:=
 bif (decide (i≥0)) then
 Ad (0≤i∧i<j.2.2.2.2.1.length)<|
 Ad ((l2.length+List.length ([((rd (Ty.z T2) j.2.2.2.2.1 i).1,((rd (Ty.z T2) j.2.2.2.2.1 i).2).1,((rd (Ty.z T2) j.2.2.2.2.1 i).2).2)]))*56≤140737488355328)<|
 go ((i64.wrap (i-1)),(l2++([((rd (Ty.z T2) j.2.2.2.2.1 i).1,((rd (Ty.z T2) j.2.2.2.2.1 i).2).1,((rd (Ty.z T2) j.2.2.2.2.1 i).2).2)])))
 else
 some l2
def f4 (j:PTz5) (k:Int):Option Bool:=
 Ac (f5) fun r1=>
 bif (!r1) then
 some false
 else
 Ac (f4_j1 j k) fun z3=>
 Ak z3 (fun z3a=>
 Ac (Ag (fun go x=>f4_l2 j go x.1 x.2) Ah ((i64.wrap ((j.2.2.2.2.1.length:Int)-1)),[])) fun z5=>
 Ac (f11 ((j.1.1,j.1.2),j.2.1,(j.2.2.2.2.1.length:Int),(j.2.2.2.1.1,j.2.2.2.1.2.1,j.2.2.2.1.2.2),j.2.2.2.2.1,j.2.2.2.2.2) k) fun q11_10=>
 Ac (f11 ((j.1.1,j.1.2),j.2.1,(j.2.2.2.2.1.length:Int),(j.2.2.2.1.1,j.2.2.2.1.2.1,j.2.2.2.1.2.2),z5,j.2.2.2.2.2) k) fun r6=>
 bif ((q11_10.1==0)==(r6.1==0)) then
 Ac (f10 q11_10.2.1 r6.2.1) fun r7=>
 bif r7 then
 Ac (f10 q11_10.2.2 r6.2.2) fun r8=>
 some r8
 else
 some false
 else
 some false) (fun z3b=>
 some true)
def C4:Con where
 X:=PTz5×Int
 Y:=Bool
 e:=0
 args x:=[.dat T11 x.1,.dat T0 x.2]
 hin x:=[]
 F x:=f4 x.1 x.2
 ret y:=[.dat .bool y]
 hout y:=[]
 nout:=0
theorem V4 j k y (q:f4 j k=some y):VC Tryz.f4 C4 (j,k) y:=by
 unfold f4 at q
 refine OL (OL (OL ?_))
 obtain ⟨r1,h,q⟩:=bE q
 refine OL (cA H5 () h rfl (K0 (cI q (fun q=>?_) (fun q=>?_))))
 ·cases sE q
  refine OL (AI rfl (E4 [] (R2 (AI TV TV))))
 obtain ⟨z3,hz3,q⟩:=bE q
 refine OQ ⟨Sum.elim (fun z3a=>[(0,⟨[(1,.dat T0 k),(2,P0 0 0)],[(0,.cells [(.d T5 j.1.1),(.d T4 j.1.2),(.d T0 j.2.1),(.d T0 j.2.2.1),(.d T0 j.2.2.2.1.1),(.d T0 j.2.2.2.1.2.1),(.d T0 j.2.2.2.1.2.2),(.d T12 j.2.2.2.2.1),(.d T5 j.2.2.2.2.2)])],1⟩)]) (fun z3b=>[(1,⟨[(4,.dat .bool true)],[],0⟩)]) z3,?_,?_⟩
 ·have q:=hz3
  clear hz3
  unfold f4_j1 at q
  refine OL ?_
  obtain ⟨r4,h,q⟩:=bE q
  refine OL (cA H6 ((j.1.1,j.1.2),j.2.1,j.2.2.1,(j.2.2.2.1.1,j.2.2.2.1.2.1,j.2.2.2.1.2.2),j.2.2.2.2.1,j.2.2.2.2.2) h rfl (R2 (K0 (cN q (fun q=>?_) (fun q=>?_)))))
  ·refine gY (cF (cN q (fun q=>?_) (fun q=>?_)))
   ·refine gY (cF (cI q (fun q=>?_) (fun q=>?_)))
    ·cases sE q
     refine OL (E4 [] (R2 (AI TV TV)))
    cases sE q
    refine E4 (iuR [1]) (R2 (AJ (AI rfl TV)))
   refine gN (cT (cT (OL ?_)))
   cases sE q
   refine E4 [] (R2 (AI TV TV))
  refine gN (cT (gN (gN (cT (cT (OL ?_))))))
  cases sE q
  refine E4 [] (R2 (AI TV TV))
 rcases z3 with z3a | z3b
 ·dsimp only [Ak] at q
  refine AI (OL (OL (OL (OL (OL (OL (OL (OL ?_)))))))) TV
  obtain ⟨z5,hz5,q⟩:=bE q
  let h0:LH:=fun zz=>(0,.cells [(.d T5 j.1.1),(.d T4 j.1.2),(.d T0 j.2.1),(.d T0 (j.2.2.2.2.1.length:Int)),(.d T0 j.2.2.2.1.1),(.d T0 j.2.2.2.1.2.1),(.d T0 j.2.2.2.1.2.2),(.d T12 j.2.2.2.2.1),(.d T5 j.2.2.2.2.2)])::(1,.cells [(.d T5 j.1.1),(.d T4 j.1.2),(.d T0 j.2.1),(.d T0 (j.2.2.2.2.1.length:Int)),(.d T0 j.2.2.2.1.1),(.d T0 j.2.2.2.1.2.1),(.d T0 j.2.2.2.1.2.2),(.osl 2),(.d T5 j.2.2.2.2.2)])::zz
  refine lJ hz5 (fun x=>⟨[(1,.dat T0 k),(2,P0 0 0),(5,P0 1 0),(6,.dat T0 x.1)],h0 [(2,.arr 46 T2 x.2)],3⟩) (fun z=>[(2,⟨[(1,.dat T0 k),(2,P0 0 0),(5,P0 1 0)],h0 [(2,.arr 46 T2 z)],3⟩)]) (E4 (iuR [1,2,0]) (R3 (AI (R2 TV) (R3 TV)))) (fun m=>An (fun i=>fun l2 z q=>?_)) ?_
  ·have q:f4_l2 j _ i l2=some z:=q
   unfold f4_l2 at q
   refine OL (OL (cI q (fun q=>?_) (fun q=>?_)))
   ·refine OL (EI (tU 0 7 (.alt 7 (.alt 8 (.take 9 (.alt 10 .done .done)) .done) .done)) (EI [(10,[1])] (EI [] (AI rfl (gI q (fun q=>?_))))))
    refine AI TV (OL (AI TV (OL (gI q (fun q=>?_)))))
    refine AI TV (OL (EI ((i64.wrap (i-1)),(l2++([((rd (Ty.z T2) j.2.2.2.2.1 i).1,((rd (Ty.z T2) j.2.2.2.2.1 i).2).1,((rd (Ty.z T2) j.2.2.2.2.1 i).2).2)]))) (AI q (E4 (iuR [1,2,5]) (R3 (AI (R2 TV) (R3 TV)))))))
   cases sE q
   refine E4 I3 (R2 (AI (R2 TV) (R3 TV)))
  refine AI (OL ?_) TV
  obtain ⟨q11_10,h,q⟩:=bE q
  refine OL (cA H11 (((j.1.1,j.1.2),j.2.1,(j.2.2.2.2.1.length:Int),(j.2.2.2.1.1,j.2.2.2.1.2.1,j.2.2.2.1.2.2),j.2.2.2.2.1,j.2.2.2.2.2),k) h rfl (R3 (K0 (OL (OL ?_)))))
  obtain ⟨r6,h,q⟩:=bE q
  refine OL (cD H11 (((j.1.1,j.1.2),j.2.1,(j.2.2.2.2.1.length:Int),(j.2.2.2.1.1,j.2.2.2.1.2.1,j.2.2.2.1.2.2),z5,j.2.2.2.2.2),k) h rfl (R3 (AI (fun _=>rfl) (R2 (AI TV (AI TV (OL (OL (cI q (fun q=>?_) (fun q=>?_))))))))))
  ·refine gX (gX (gX (gX ?_)))
   obtain ⟨r7,h,q⟩:=bE q
   refine OL (cD H10 (q11_10.2.1,r6.2.1) h rfl (R2 (AI (fun _=>rfl) (R2 (AI TV (AI TV (cT (cI q (fun q=>?_) (fun q=>?_)))))))))
   ·refine gX (gX (gX (gX ?_)))
    obtain ⟨r8,h,q⟩:=bE q
    refine OL (cD H10 (q11_10.2.2,r6.2.2) h rfl (R2 (AI (fun _=>rfl) (R2 (AI TV (AI TV (cT ?_)))))))
    cases sE q
    refine AI rfl (E4 [] (R2 (AI TV TV)))
   refine gM (gM (gM (gM (cF ?_))))
   cases sE q
   refine AI rfl (E4 [] (R2 (AI TV TV)))
  refine gM (gM (gM (gM (cF (gM (gM (gM (gM (gM (cF ?_))))))))))
  cases sE q
  refine AI rfl (E4 [] (R2 (AI TV TV)))
 dsimp only [Ak] at q
 refine AI ?_ TV
 cases sE q
 refine AI rfl (E4 [] (R2 (AI TV TV)))
theorem H4:HI C4 4:=hI Tryz.f4 rfl fun x=>V4 x.1 x.2
end Go.Proofs
