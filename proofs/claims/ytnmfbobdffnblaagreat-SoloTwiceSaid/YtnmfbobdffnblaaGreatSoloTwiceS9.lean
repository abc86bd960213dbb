import Derived.Test.YtnmfbobdffnblaaGreatSoloTwiceS8
set_option linter.unusedVariables false
set_option maxRecDepth 100000
set_option maxHeartbeats 8000000
namespace Go.Proofs
open Go.AM
open IntKind (i64 u64 i32 u32 i16 u16 i8 u8)
def f5_j1 (r1:Bk) (r3a:Int):Option Unit:=
 bif (r1.1 != 0) then
 some ()
 else
 bif (r3a != 0) then
 some ()
 else
 some ()
def f5_j2 (r1:Bk):Option (Sum Unit Unit):=
 bif (r1.1 != 0) then
 some (Sum.inr ())
 else
 bif ((0:Int) != 0) then
 some (Sum.inr ())
 else
 bif ((r1.2.1.length:Int) != 2) then
 some (Sum.inr ())
 else
 bif ((r1.2.2.length:Int) != 2) then
 some (Sum.inr ())
 else
 some (Sum.inl ())
def f5:Option Bool:=
 Ac (f12) fun q7_21=>
 Ac (f11 (([(1:Int)],[((ByteArray.mk #[100,101,110,115,101]),(1:Int),(0:Int))]),(1:Int),(2:Int),((1073741824:Int),(2147483648:Int),(0:Int)),q7_21,[(0:Int),(0:Int)]) (0:Int)) fun r1=>
 Ac (f12) fun r2=>
 Ac (f7 (([(1:Int)],[((ByteArray.mk #[100,101,110,115,101]),(1:Int),(0:Int))]),(1:Int),(2:Int),((1073741824:Int),(2147483648:Int),(0:Int)),r2,[(0:Int),(0:Int)])) fun r3=>
 Ai r3 (fun r3a=>
 Ac (f5_j1 r1 r3a) fun z4=>
 some false) (fun r3b=>
 Ac (f5_j2 r1) fun z5=>
 Ai z5 (fun z5a=>
 Ac (f8 r3b.1 r3b.2.1 r3b.2.2.1 r3b.2.2.2.1 r3b.2.2.2.2.1 r3b.2.2.2.2.2.1 r3b.2.2.2.2.2.2.1 r3b.2.2.2.2.2.2.2.1 r3b.2.2.2.2.2.2.2.2.1 r3b.2.2.2.2.2.2.2.2.2.1 r3b.2.2.2.2.2.2.2.2.2.2 (0:Int) (0:Int) (0:Int)) fun r6=>
 Ac (f9 r6.2.1 r6.2.2.1 r6.2.2.2.1 r6.2.2.2.2.1 r6.2.2.2.2.2.1 r6.2.2.2.2.2.2.1 r6.2.2.2.2.2.2.2.1 r6.2.2.2.2.2.2.2.2.1 r6.2.2.2.2.2.2.2.2.2.1 r6.2.2.2.2.2.2.2.2.2.2.2.2.2.1 r6.2.2.2.2.2.2.2.2.2.2.2.2.2.2 r6.2.2.2.2.2.2.2.2.2.2.1 r6.2.2.2.2.2.2.2.2.2.2.2.1 r6.2.2.2.2.2.2.2.2.2.2.2.2.1) fun r7=>
 bif (r6.1==0) then
 Ac (f13 r7.2.2.1 r7.2.2.2.1 r7.2.2.2.2.1 r7.2.2.2.2.2.1 r7.2.2.2.2.2.2.1 r7.2.2.2.2.2.2.2.1 r7.2.2.2.2.2.2.2.2.1 r7.2.2.2.2.2.2.2.2.2.1 r7.2.2.2.2.2.2.2.2.2.2.1 r7.2.2.2.2.2.2.2.2.2.2.2.2.2.2.1 r7.2.2.2.2.2.2.2.2.2.2.2.2.2.2.2 r7.2.2.2.2.2.2.2.2.2.2.2.1 r7.2.2.2.2.2.2.2.2.2.2.2.2.1 r7.2.2.2.2.2.2.2.2.2.2.2.2.2.1) fun q7_4=>
 bif (q7_4.1==1) then
 Ac (f12) fun q7_9=>
 Ac (f16 (([(1:Int)],[((ByteArray.mk #[100,101,110,115,101]),(1:Int),(0:Int))]),(1:Int),(2:Int),((1073741824:Int),(2147483648:Int),(0:Int)),q7_9,[(0:Int),(0:Int)])) fun q7_10=>
 Ac (f15 ((q7_10.1,q7_10.2.2.2.2.2.2.2.1),q7_10.2.1,q7_10.2.2.1,(q7_10.2.2.2.1,q7_10.2.2.2.2.1,q7_10.2.2.2.2.2.1),q7_10.2.2.2.2.2.2.2.2,q7_10.2.2.2.2.2.2.1) (1:Int)) fun q7_11=>
 Ac (f14 (r7.1,r7.2.1) (q7_11.1,q7_11.2)) fun q7_12=>
 bif q7_12 then
 Ad (0≤(0:Int)∧0<(r7.1.length:Int))<|
 some ((rd 0 r7.1 0) != 0)
 else
 some false
 else
 some false
 else
 some false) (fun z5b=>
 some false))
def C5:Con:=⟨Unit,Bool,0,fun x=>[],NX,fun x=>f5,fun y=>[.dat .bool y],NX,0⟩
theorem V5 y (q:f5=some y):VC Tryz.f5 C5 () y:=by
 unfold f5 at q
 refine OL (OL ?_)
 obtain ⟨q7_21,h,q⟩:=bE q
 refine OL (cA H12 () h rfl (K0 ?_))
 obtain ⟨r1,h,q⟩:=bE q
 refine OL (cD H11 ((([(1:Int)],[((ByteArray.mk #[100,101,110,115,101]),(1:Int),(0:Int))]),(1:Int),(2:Int),((1073741824:Int),(2147483648:Int),(0:Int)),q7_21,[(0:Int),(0:Int)]),(0:Int)) h rfl (R3 (AI (fun _=>rfl) (R2 (AI TV (AI TV (OL (OL ?_))))))))
 obtain ⟨r2,h,q⟩:=bE q
 refine OL (cA H12 () h rfl (K0 ?_))
 obtain ⟨r3,hr3,q⟩:=bE q
 rcases r3 with r3a | r3b
 ·dsimp only [Ai] at q
  refine OL (cA H7 (([(1:Int)],[((ByteArray.mk #[100,101,110,115,101]),(1:Int),(0:Int))]),(1:Int),(2:Int),((1073741824:Int),(2147483648:Int),(0:Int)),r2,[(0:Int),(0:Int)]) hr3 rfl (R2 (K0 ?_)))
  obtain ⟨z4,hz4,q⟩:=bE q
  refine OQ ⟨[(1,⟨[(0,.dat .bool false)],[],0⟩)],?_,?_⟩
  ·have q:=hz4
   clear hz4
   unfold f5_j1 at q
   refine OL (cN q (fun q=>?_) (fun q=>?_))
   ·refine gY (cF (cN q (fun q=>?_) (fun q=>?_)))
    ·refine gY (cF (gN (gN (gN (gN (cT (gN (gN (gN (gN (cT (cT (OL ?_)))))))))))))
     cases sE q
     refine E4 [] (R2 (AI TV TV))
    refine gN (cT (gN (gN (gN (gN (cT (gN (gN (gN (gN (cT (cT (OL ?_)))))))))))))
    cases sE q
    refine E4 [] (R2 (AI TV TV))
   refine gN (cT (gN (gN (cT (gN (gN (gN (gN (cT (gN (gN (gN (gN (cT (cT (OL ?_))))))))))))))))
   cases sE q
   refine E4 [] (R2 (AI TV TV))
  refine AI ?_ TV
  cases sE q
  refine AI rfl (E4 [] (R2 (AI TV TV)))
 dsimp only [Ai] at q
 refine OL (cA H7 (([(1:Int)],[((ByteArray.mk #[100,101,110,115,101]),(1:Int),(0:Int))]),(1:Int),(2:Int),((1073741824:Int),(2147483648:Int),(0:Int)),r2,[(0:Int),(0:Int)]) hr3 rfl (R2 (K0 ?_)))
 obtain ⟨z5,hz5,q⟩:=bE q
 refine OQ ⟨Sum.elim (fun z5a=>[(0,⟨[(3,P0 0 0)],[(0,.cells [(.d T5 r3b.1),(.d T4 r3b.2.1),(.d T0 r3b.2.2.1),(.d T0 r3b.2.2.2.1),(.d T0 r3b.2.2.2.2.1),(.d T0 r3b.2.2.2.2.2.1),(.d T0 r3b.2.2.2.2.2.2.1),(.d T12 r3b.2.2.2.2.2.2.2.1),(.d T5 r3b.2.2.2.2.2.2.2.2.1),(.osl 1),(.osl 2),(.d T0 (0:Int)),(.d T0 (0:Int)),(.d T9 (0:Int))]),(1,.arr 26 T0 r3b.2.2.2.2.2.2.2.2.2.1),(2,.arr 26 T0 r3b.2.2.2.2.2.2.2.2.2.2)],3⟩)]) (fun z5b=>[(1,⟨[(0,.dat .bool false)],[],0⟩)]) z5,?_,?_⟩
 ·have q:=hz5
  clear hz5
  unfold f5_j2 at q
  refine OL (cN q (fun q=>?_) (fun q=>?_))
  ·refine gY (cF (cN q (fun q=>?_) (fun q=>?_)))
   ·refine gY (cF (gY (gY (gY (gY (cF (cN q (fun q=>?_) (fun q=>?_))))))))
    ·refine gY (gY (gY (cF (cI q (fun q=>?_) (fun q=>?_)))))
     ·cases sE q
      refine OL (E4 [] (R2 (AI TV TV)))
     cases sE q
     refine E4 (iuR [12,13,14]) (AI rfl (AJ (R3 TV)))
    refine gN (gN (gN (cT (cT (OL ?_)))))
    cases sE q
    refine E4 [] (R2 (AI TV TV))
   refine gN (cT (gN (gN (gN (gN (cT (gN (gN (gN (gN (cT (cT (OL ?_)))))))))))))
   cases sE q
   refine E4 [] (R2 (AI TV TV))
  refine gN (cT (gN (gN (cT (gN (gN (gN (gN (cT (gN (gN (gN (gN (cT (cT (OL ?_))))))))))))))))
  cases sE q
  refine E4 [] (R2 (AI TV TV))
 rcases z5 with z5a | z5b
 ·dsimp only [Ai] at q
  refine AI (OL ?_) TV
  obtain ⟨r6,h,q⟩:=bE q
  refine OL (cB H8 (r3b.1,r3b.2.1,r3b.2.2.1,r3b.2.2.2.1,r3b.2.2.2.2.1,r3b.2.2.2.2.2.1,r3b.2.2.2.2.2.2.1,r3b.2.2.2.2.2.2.2.1,r3b.2.2.2.2.2.2.2.2.1,r3b.2.2.2.2.2.2.2.2.2.1,r3b.2.2.2.2.2.2.2.2.2.2,(0:Int),(0:Int),(0:Int)) I3 false h rfl (AI NH (R2 (AJ (AI (R3 TV) (OL ?_))))))
  obtain ⟨r7,h,q⟩:=bE q
  refine OL (cB H9 (r6.2.1,r6.2.2.1,r6.2.2.2.1,r6.2.2.2.2.1,r6.2.2.2.2.2.1,r6.2.2.2.2.2.2.1,r6.2.2.2.2.2.2.2.1,r6.2.2.2.2.2.2.2.2.1,r6.2.2.2.2.2.2.2.2.2.1,r6.2.2.2.2.2.2.2.2.2.2.2.2.2.1,r6.2.2.2.2.2.2.2.2.2.2.2.2.2.2,r6.2.2.2.2.2.2.2.2.2.2.1,r6.2.2.2.2.2.2.2.2.2.2.2.1,r6.2.2.2.2.2.2.2.2.2.2.2.2.1) (iuR [1,7,8]) false h rfl (AI NH (R2 (AJ (AI (R3 TV) (OL (OL (EI (tU 0 4 (.alt 4 (tU 5 4 (.alt 9 (.alt 10 (.alt 11 (.alt 12 (tU 13 9 .done) .done) .done) .done) .done)) .done)) (EI [] (EI [] (AI rfl (cI q (fun q=>?_) (fun q=>?_)))))))))))))
  ·refine AI TV (gX ?_)
   obtain ⟨q7_4,h,q⟩:=bE q
   refine OL (cB H13 (r7.2.2.1,r7.2.2.2.1,r7.2.2.2.2.1,r7.2.2.2.2.2.1,r7.2.2.2.2.2.2.1,r7.2.2.2.2.2.2.2.1,r7.2.2.2.2.2.2.2.2.1,r7.2.2.2.2.2.2.2.2.2.1,r7.2.2.2.2.2.2.2.2.2.2.1,r7.2.2.2.2.2.2.2.2.2.2.2.2.2.2.1,r7.2.2.2.2.2.2.2.2.2.2.2.2.2.2.2,r7.2.2.2.2.2.2.2.2.2.2.2.1,r7.2.2.2.2.2.2.2.2.2.2.2.2.1,r7.2.2.2.2.2.2.2.2.2.2.2.2.2.1) (iuR [1,7,8]) false h rfl (AI NH (R2 (AJ (AI (R3 TV) (gX (cT (cI q (fun q=>?_) (fun q=>?_)))))))))
   ·refine AI TV (gX ?_)
    obtain ⟨q7_9,h,q⟩:=bE q
    refine OL (cA H12 () h rfl (K0 (AI TV (gX ?_))))
    obtain ⟨q7_10,h,q⟩:=bE q
    refine OL (cA H16 (([(1:Int)],[((ByteArray.mk #[100,101,110,115,101]),(1:Int),(0:Int))]),(1:Int),(2:Int),((1073741824:Int),(2147483648:Int),(0:Int)),q7_9,[(0:Int),(0:Int)]) h rfl (R2 (K0 (AI TV (gX ?_)))))
    obtain ⟨q7_11,h,q⟩:=bE q
    refine OL (cD H15 (((q7_10.1,q7_10.2.2.2.2.2.2.2.1),q7_10.2.1,q7_10.2.2.1,(q7_10.2.2.2.1,q7_10.2.2.2.2.1,q7_10.2.2.2.2.2.1),q7_10.2.2.2.2.2.2.2.2,q7_10.2.2.2.2.2.2.1),(1:Int)) h rfl (R3 (AI (fun _=>rfl) (R2 (AI TV (AI TV (AI TV (gX ?_))))))))
    obtain ⟨q7_12,h,q⟩:=bE q
    refine OL (cD H14 ((r7.1,r7.2.1),(q7_11.1,q7_11.2)) h rfl (R4 (AI (fun _=>rfl) (R2 (AI TV (AI TV (cT (cI q (fun q=>?_) (fun q=>?_)))))))))
    ·refine gX (gX (gI q (fun q=>?_)))
     refine gX (gX (cT ?_))
     cases sE q
     refine AI rfl (E4 [] (R2 (AI TV TV)))
    refine gM (gM (gM (gM (cF ?_))))
    cases sE q
    refine AI rfl (E4 [] (R2 (AI TV TV)))
   refine AI TV (gM (AI TV (gM (AI TV (gM (AI TV (gM (cF (gM (gM (gM (gM (gM (cF ?_))))))))))))))
   cases sE q
   refine AI rfl (E4 [] (R2 (AI TV TV)))
  refine AI TV (gM (gM (cF (gM (AI TV (gM (AI TV (gM (AI TV (gM (AI TV (gM (cF (gM (gM (gM (gM (gM (cF ?_)))))))))))))))))))
  cases sE q
  refine AI rfl (E4 [] (R2 (AI TV TV)))
 dsimp only [Ai] at q
 refine AI ?_ TV
 cases sE q
 refine AI rfl (E4 [] (R2 (AI TV TV)))
theorem H5:HI C5 5:=hI Tryz.f5 rfl fun x=>V5
def f6_j1 (j:PTz6):Option (Sum Unit Unit):=
 bif (decide ((j.1.1.length:Int)>4)) then
 some (Sum.inr ())
 else
 bif (decide ((j.1.2.length:Int)>5)) then
 some (Sum.inr ())
 else
 bif (decide ((j.2.2.2.2.1.length:Int)>8)) then
 some (Sum.inr ())
 else
 bif (decide ((j.2.2.2.2.2.length:Int)>50)) then
 some (Sum.inr ())
 else
 some (Sum.inl ())
def f6_l2 (j:PTz6) (go:Int→Option (Sum Unit Unit)) (i:Int):Option (Sum Unit Unit):=
 bif (decide (i<j.2.2.2.2.1.length)) then
 Ad (0≤i∧i<j.2.2.2.2.1.length)<|
 bif (decide ((List.length ((rd (Ty.z T2) j.2.2.2.2.1 i).1):Int)>30)) then
 some (Sum.inl ())
 else
 Ad (0≤i∧i<j.2.2.2.2.1.length)<|
 bif (decide ((List.length (((rd (Ty.z T2) j.2.2.2.2.1 i).2).1):Int)>30)) then
 some (Sum.inl ())
 else
 go (i64.wrap (i+1))
 else
 some (Sum.inr ())
def f6 (j:PTz6):Option Bool:=
 Ac (f6_j1 j) fun z1=>
 Ai z1 (fun z1a=>
 Ac (Ag (fun go x=>f6_l2 j go x) Ah (0:Int)) fun z2=>
 Ai z2 (fun z2a=>
 some false) (fun z2b=>
 some true)) (fun z1b=>
 some false)
def C6:Con:=⟨PTz6,Bool,0,fun x=>[.dat T11 x],NX,fun x=>f6 x,fun y=>[.dat .bool y],NX,0⟩
theorem V6 j y (q:f6 j=some y):VC Tryz.f6 C6 j y:=by
 unfold f6 at q
 refine OL ?_
 obtain ⟨z1,hz1,q⟩:=bE q
 let h0:LH:=fun zz=>(0,.cells [(.d T5 j.1.1),(.d T4 j.1.2),(.d T0 j.2.1),(.d T0 j.2.2.1),(.d T0 j.2.2.2.1.1),(.d T0 j.2.2.2.1.2.1),(.d T0 j.2.2.2.1.2.2),(.d T12 j.2.2.2.2.1),(.d T5 j.2.2.2.2.2)])::zz
 refine OQ ⟨Sum.elim (fun z1a=>[(0,⟨[(1,P0 0 0)],h0 [],1⟩)]) (fun z1b=>[(1,⟨[(2,.dat .bool false)],[],0⟩)]) z1,?_,?_⟩
 ·have q:=hz1
  clear hz1
  unfold f6_j1 at q
  refine OL (cN q (fun q=>?_) (fun q=>?_))
  ·refine gY (gY (gY (gY (cF (cN q (fun q=>?_) (fun q=>?_))))))
   ·refine gY (gY (gY (cF (cN q (fun q=>?_) (fun q=>?_)))))
    ·refine gY (gY (gY (cF (cI q (fun q=>?_) (fun q=>?_)))))
     ·cases sE q
      refine OL (E4 [] (R2 (AI TV TV)))
     cases sE q
     refine E4 (iuR [1]) (AI rfl (AJ (AI rfl TV)))
    refine gN (gN (gN (cT (cT (OL ?_)))))
    cases sE q
    refine E4 [] (R2 (AI TV TV))
   refine gN (gN (gN (cT (gN (gN (gN (gN (cT (cT (OL ?_))))))))))
   cases sE q
   refine E4 [] (R2 (AI TV TV))
  refine gN (gN (gN (gN (cT (gN (gN (gN (gN (cT (gN (gN (gN (gN (cT (cT (OL ?_))))))))))))))))
  cases sE q
  refine E4 [] (R2 (AI TV TV))
 rcases z1 with z1a | z1b
 ·dsimp only [Ai] at q
  refine AI (OL (OL ?_)) TV
  obtain ⟨z2,h,q⟩:=bE q
  refine lJ h (fun x=>⟨[(1,P0 0 0),(3,.dat T0 x)],h0 [],1⟩) (fun z=>Sum.elim (fun za=>[(1,⟨[(2,.dat .bool false)],[],0⟩)]) (fun zb=>[(2,⟨[],[],0⟩)]) z) (E4 (iuR [1]) (R2 (AJ (AI rfl TV)))) (fun m=>fun i z q=>?_) ?_
  ·have q:f6_l2 j _ i=some z:=q
   unfold f6_l2 at q
   refine OL (OL (cI q (fun q=>?_) (fun q=>?_)))
   ·refine OL (OL (gI q (fun q=>?_)))
    refine cN q (fun q=>?_) (fun q=>?_)
    ·refine gY (gY (gY (gI q (fun q=>?_))))
     refine gY (gY (gY (gY (cF (cI q (fun q=>?_) (fun q=>?_))))))
     ·cases sE q
      refine OL (E4 [] (R2 (AI TV TV)))
     refine EI (i64.wrap (i+1)) (AI q (E4 (iuR [1]) (R2 (AJ (AI rfl TV)))))
    refine gN (gN (gN (gN (gN (gN (gN (cT (cT (OL ?_)))))))))
    cases sE q
    refine E4 [] (R2 (AI TV TV))
   cases sE q
   refine E4 [] (AI rfl (AI TV TV))
  rcases z2 with z2a | z2b
  ·dsimp only [Ai] at q
   refine AI ?_ TV
   cases sE q
   refine AI rfl (E4 [] (R2 (AI TV TV)))
  dsimp only [Ai] at q
  refine AI (OL ?_) TV
  cases sE q
  refine AI rfl (E4 [] (R2 (AI TV TV)))
 dsimp only [Ai] at q
 refine AI ?_ TV
 cases sE q
 refine AI rfl (E4 [] (R2 (AI TV TV)))
theorem H6:HI C6 6:=hI Tryz.f6 rfl fun x=>V6 x
def f3_j1 (j:PTz6) (k:Int):Option (Sum Unit Unit):=
 Ac (f6 ((j.1.1,j.1.2),j.2.1,j.2.2.1,(j.2.2.2.1.1,j.2.2.2.1.2.1,j.2.2.2.1.2.2),j.2.2.2.2.1,j.2.2.2.2.2)) fun r4=>
 bif (!r4) then
 some (Sum.inr ())
 else
 bif (decide (k<0)) then
 some (Sum.inr ())
 else
 bif (decide (k>6)) then
 some (Sum.inr ())
 else
 some (Sum.inl ())
def f3_j4 (r5a r6a:Int):Option Bool:=
 bif (r5a != 0) then
 some true
 else
 some (r6a != 0)
def f3_j3 (r5a r6a:Int):Option (Sum Unit Unit):=
 Ac (f3_j4 r5a r6a) fun z9=>
 bif z9 then
 some (Sum.inr ())
 else
 some (Sum.inl ())
def f3_l5 (k:Int) (go:Unit→Option Unit):Option Unit:=
 bif (decide ((0:Int)<k)) then
 none
 else
 some ()
def f3_j8 (r5a:Int):Option Bool:=
 bif (r5a != 0) then
 some true
 else
 some ((0:Int) != 0)
def f3_j7 (r5a:Int):Option (Sum Unit Unit):=
 Ac (f3_j8 r5a) fun z13=>
 bif z13 then
 some (Sum.inr ())
 else
 some (Sum.inl ())
def f3_l9 (k:Int) (go:Unit→Option Unit):Option Unit:=
 bif (decide ((0:Int)<k)) then
 none
 else
 some ()
def f3_j12 (r15a:Int):Option Bool:=
 bif ((0:Int) != 0) then
 some true
 else
 some (r15a != 0)
def f3_j11 (r15a:Int):Option (Sum Unit Unit):=
 Ac (f3_j12 r15a) fun z18=>
 bif z18 then
 some (Sum.inr ())
 else
 some (Sum.inl ())
def f3_l13 (k:Int) (r5b:PTz22) (go:Unit→Option Unit):Option Unit:=
 bif (decide ((0:Int)<k)) then
 Ac (f8 r5b.1 r5b.2.1 r5b.2.2.1 r5b.2.2.2.1 r5b.2.2.2.2.1 r5b.2.2.2.2.2.1 r5b.2.2.2.2.2.2.1 r5b.2.2.2.2.2.2.2.1 r5b.2.2.2.2.2.2.2.2.1 r5b.2.2.2.2.2.2.2.2.2.1 r5b.2.2.2.2.2.2.2.2.2.2 (0:Int) (0:Int) (0:Int)) fun r22=>
 Ac (f9 r22.2.1 r22.2.2.1 r22.2.2.2.1 r22.2.2.2.2.1 r22.2.2.2.2.2.1 r22.2.2.2.2.2.2.1 r22.2.2.2.2.2.2.2.1 r22.2.2.2.2.2.2.2.2.1 r22.2.2.2.2.2.2.2.2.2.1 r22.2.2.2.2.2.2.2.2.2.2.2.2.2.1 r22.2.2.2.2.2.2.2.2.2.2.2.2.2.2 r22.2.2.2.2.2.2.2.2.2.2.1 r22.2.2.2.2.2.2.2.2.2.2.2.1 r22.2.2.2.2.2.2.2.2.2.2.2.2.1) fun r23=>
 bif (decide ((r23.1.length:Int)>0)) then
 Ad (0≤(0:Int)∧0<(r23.1.length:Int))<|
 Ad (0≤(0:Int)∧0<(r23.1.length:Int))<|
 Ad (0≤(0:Int)∧0<(r23.2.1.length:Int))<|
 none
 else
 none
 else
 some ()
def f3_j16:Option Bool:=
 bif ((0:Int) != 0) then
 some true
 else
 some ((0:Int) != 0)
def f3_j15:Option (Sum Unit Unit):=
 Ac (f3_j16) fun z27=>
 bif z27 then
 some (Sum.inr ())
 else
 some (Sum.inl ())
def f3_l17 (k:Int) (go:(Int×PTz12)→Option PTz12) (i:Int) (c0_0:LI) (c0_1:LTz0) (c0_2 c0_3 c0_4 c0_5 c0_6:Int) (c0_7:D5) (c0_8:LI) (c0_11 c0_12 c0_13:Int) (c1_0:LI) (c1_1:LTz0) (c1_2 c1_3 c1_4 c1_5 c1_6:Int) (c1_7:D5) (c1_8:LI) (c1_11 c1_12 c1_13:Int) (l2 l3 l4 l5:LI):Option PTz12:=
 bif (decide (i<k)) then
 Ac (f8 c0_0 c0_1 c0_2 c0_3 c0_4 c0_5 c0_6 c0_7 c0_8 l2 l3 c0_11 c0_12 c0_13) fun r35=>
 Ac (f9 r35.2.1 r35.2.2.1 r35.2.2.2.1 r35.2.2.2.2.1 r35.2.2.2.2.2.1 r35.2.2.2.2.2.2.1 r35.2.2.2.2.2.2.2.1 r35.2.2.2.2.2.2.2.2.1 r35.2.2.2.2.2.2.2.2.2.1 r35.2.2.2.2.2.2.2.2.2.2.2.2.2.1 r35.2.2.2.2.2.2.2.2.2.2.2.2.2.2 r35.2.2.2.2.2.2.2.2.2.2.1 r35.2.2.2.2.2.2.2.2.2.2.2.1 r35.2.2.2.2.2.2.2.2.2.2.2.2.1) fun r36=>
 bif (decide ((r36.1.length:Int)>0)) then
 Ad (0≤(0:Int)∧0<(r36.1.length:Int))<|
 Ad (0≤(0:Int)∧0<(r36.1.length:Int))<|
 Ad (0≤(0:Int)∧0<(r36.2.1.length:Int))<|
 Ac (f8 c1_0 c1_1 c1_2 c1_3 c1_4 c1_5 c1_6 c1_7 c1_8 l4 l5 c1_11 c1_12 c1_13) fun q15_8=>
 go ((i64.wrap (i+1)),r36.2.2.1,r36.2.2.2.1,r36.2.2.2.2.1,r36.2.2.2.2.2.1,r36.2.2.2.2.2.2.1,r36.2.2.2.2.2.2.2.1,r36.2.2.2.2.2.2.2.2.1,r36.2.2.2.2.2.2.2.2.2.1,r36.2.2.2.2.2.2.2.2.2.2.1,r36.2.2.2.2.2.2.2.2.2.2.2.1,r36.2.2.2.2.2.2.2.2.2.2.2.2.1,r36.2.2.2.2.2.2.2.2.2.2.2.2.2.1,q15_8.2.1,q15_8.2.2.1,q15_8.2.2.2.1,q15_8.2.2.2.2.1,q15_8.2.2.2.2.2.1,q15_8.2.2.2.2.2.2.1,q15_8.2.2.2.2.2.2.2.1,q15_8.2.2.2.2.2.2.2.2.1,q15_8.2.2.2.2.2.2.2.2.2.1,q15_8.2.2.2.2.2.2.2.2.2.2.1,q15_8.2.2.2.2.2.2.2.2.2.2.2.1,q15_8.2.2.2.2.2.2.2.2.2.2.2.2.1,r36.2.2.2.2.2.2.2.2.2.2.2.2.2.2.1,r36.2.2.2.2.2.2.2.2.2.2.2.2.2.2.2,q15_8.2.2.2.2.2.2.2.2.2.2.2.2.2.1,q15_8.2.2.2.2.2.2.2.2.2.2.2.2.2.2)
 else
 Ac (f8 c1_0 c1_1 c1_2 c1_3 c1_4 c1_5 c1_6 c1_7 c1_8 l4 l5 c1_11 c1_12 c1_13) fun r37=>
 go ((i64.wrap (i+1)),r36.2.2.1,r36.2.2.2.1,r36.2.2.2.2.1,r36.2.2.2.2.2.1,r36.2.2.2.2.2.2.1,r36.2.2.2.2.2.2.2.1,r36.2.2.2.2.2.2.2.2.1,r36.2.2.2.2.2.2.2.2.2.1,r36.2.2.2.2.2.2.2.2.2.2.1,r36.2.2.2.2.2.2.2.2.2.2.2.1,r36.2.2.2.2.2.2.2.2.2.2.2.2.1,r36.2.2.2.2.2.2.2.2.2.2.2.2.2.1,r37.2.1,r37.2.2.1,r37.2.2.2.1,r37.2.2.2.2.1,r37.2.2.2.2.2.1,r37.2.2.2.2.2.2.1,r37.2.2.2.2.2.2.2.1,r37.2.2.2.2.2.2.2.2.1,r37.2.2.2.2.2.2.2.2.2.1,r37.2.2.2.2.2.2.2.2.2.2.1,r37.2.2.2.2.2.2.2.2.2.2.2.1,r37.2.2.2.2.2.2.2.2.2.2.2.2.1,r36.2.2.2.2.2.2.2.2.2.2.2.2.2.2.1,r36.2.2.2.2.2.2.2.2.2.2.2.2.2.2.2,r37.2.2.2.2.2.2.2.2.2.2.2.2.2.1,r37.2.2.2.2.2.2.2.2.2.2.2.2.2.2)
 else
 some (c0_0,c0_1,c0_2,c0_3,c0_4,c0_5,c0_6,c0_7,c0_8,c0_11,c0_12,c0_13,c1_0,c1_1,c1_2,c1_3,c1_4,c1_5,c1_6,c1_7,c1_8,c1_11,c1_12,c1_13,l2,l3,l4,l5)
def f3 (j:PTz6) (k:Int):Option Bool:=
 Ac (f5) fun r1=>
 bif (!r1) then
 some false
 else
 Ac (f3_j1 j k) fun z3=>
 Ai z3 (fun z3a=>
 Ac (f7 ((j.1.1,j.1.2),j.2.1,j.2.2.1,(j.2.2.2.1.1,j.2.2.2.1.2.1,j.2.2.2.1.2.2),j.2.2.2.2.1,j.2.2.2.2.2)) fun r5=>
 Ai r5 (fun r5a=>
 Ac (f7 ((j.1.1,j.1.2),j.2.1,j.2.2.1,(j.2.2.2.1.1,j.2.2.2.1.2.1,j.2.2.2.1.2.2),j.2.2.2.2.1,j.2.2.2.2.2)) fun r6=>
 Ai r6 (fun r6a=>
 Ac (f3_j3 r5a r6a) fun z8=>
 Ai z8 (fun z8a=>
 Ac (Ag (fun go x=>f3_l5 k go) Ah ()) fun z10=>
 none) (fun z8b=>
 some (r5a==r6a))) (fun r6b=>
 Ac (f3_j7 r5a) fun z12=>
 Ai z12 (fun z12a=>
 Ac (Ag (fun go x=>f3_l9 k go) Ah ()) fun z14=>
 none) (fun z12b=>
 some (r5a==0)))) (fun r5b=>
 Ac (f7 ((j.1.1,j.1.2),j.2.1,j.2.2.1,(j.2.2.2.1.1,j.2.2.2.1.2.1,j.2.2.2.1.2.2),j.2.2.2.2.1,j.2.2.2.2.2)) fun r15=>
 Ai r15 (fun r15a=>
 Ac (f3_j11 r15a) fun z17=>
 Ai z17 (fun z17a=>
 Ac (Ag (fun go x=>f3_l13 k r5b go) Ah ()) fun z21=>
 Ac (f9 r5b.1 r5b.2.1 r5b.2.2.1 r5b.2.2.2.1 r5b.2.2.2.2.1 r5b.2.2.2.2.2.1 r5b.2.2.2.2.2.2.1 r5b.2.2.2.2.2.2.2.1 r5b.2.2.2.2.2.2.2.2.1 r5b.2.2.2.2.2.2.2.2.2.1 r5b.2.2.2.2.2.2.2.2.2.2 (0:Int) (0:Int) (0:Int)) fun r24=>
 none) (fun z17b=>
 some ((0:Int)==r15a))) (fun r15b=>
 Ac (f3_j15) fun z26=>
 Ai z26 (fun z26a=>
 Ac (Ag (fun go x=>f3_l17 k go x.1 x.2.1 x.2.2.1 x.2.2.2.1 x.2.2.2.2.1 x.2.2.2.2.2.1 x.2.2.2.2.2.2.1 x.2.2.2.2.2.2.2.1 x.2.2.2.2.2.2.2.2.1 x.2.2.2.2.2.2.2.2.2.1 x.2.2.2.2.2.2.2.2.2.2.1 x.2.2.2.2.2.2.2.2.2.2.2.1 x.2.2.2.2.2.2.2.2.2.2.2.2.1 x.2.2.2.2.2.2.2.2.2.2.2.2.2.1 x.2.2.2.2.2.2.2.2.2.2.2.2.2.2.1 x.2.2.2.2.2.2.2.2.2.2.2.2.2.2.2.1 x.2.2.2.2.2.2.2.2.2.2.2.2.2.2.2.2.1 x.2.2.2.2.2.2.2.2.2.2.2.2.2.2.2.2.2.1 x.2.2.2.2.2.2.2.2.2.2.2.2.2.2.2.2.2.2.1 x.2.2.2.2.2.2.2.2.2.2.2.2.2.2.2.2.2.2.2.1 x.2.2.2.2.2.2.2.2.2.2.2.2.2.2.2.2.2.2.2.2.1 x.2.2.2.2.2.2.2.2.2.2.2.2.2.2.2.2.2.2.2.2.2.1 x.2.2.2.2.2.2.2.2.2.2.2.2.2.2.2.2.2.2.2.2.2.2.1 x.2.2.2.2.2.2.2.2.2.2.2.2.2.2.2.2.2.2.2.2.2.2.2.1 x.2.2.2.2.2.2.2.2.2.2.2.2.2.2.2.2.2.2.2.2.2.2.2.2.1 x.2.2.2.2.2.2.2.2.2.2.2.2.2.2.2.2.2.2.2.2.2.2.2.2.2.1 x.2.2.2.2.2.2.2.2.2.2.2.2.2.2.2.2.2.2.2.2.2.2.2.2.2.2.1 x.2.2.2.2.2.2.2.2.2.2.2.2.2.2.2.2.2.2.2.2.2.2.2.2.2.2.2.1 x.2.2.2.2.2.2.2.2.2.2.2.2.2.2.2.2.2.2.2.2.2.2.2.2.2.2.2.2) Ah ((0:Int),r5b.1,r5b.2.1,r5b.2.2.1,r5b.2.2.2.1,r5b.2.2.2.2.1,r5b.2.2.2.2.2.1,r5b.2.2.2.2.2.2.1,r5b.2.2.2.2.2.2.2.1,r5b.2.2.2.2.2.2.2.2.1,(0:Int),(0:Int),(0:Int),r15b.1,r15b.2.1,r15b.2.2.1,r15b.2.2.2.1,r15b.2.2.2.2.1,r15b.2.2.2.2.2.1,r15b.2.2.2.2.2.2.1,r15b.2.2.2.2.2.2.2.1,r15b.2.2.2.2.2.2.2.2.1,(0:Int),(0:Int),(0:Int),r5b.2.2.2.2.2.2.2.2.2.1,r5b.2.2.2.2.2.2.2.2.2.2,r15b.2.2.2.2.2.2.2.2.2.1,r15b.2.2.2.2.2.2.2.2.2.2)) fun z34=>
 Ac (f9 z34.1 z34.2.1 z34.2.2.1 z34.2.2.2.1 z34.2.2.2.2.1 z34.2.2.2.2.2.1 z34.2.2.2.2.2.2.1 z34.2.2.2.2.2.2.2.1 z34.2.2.2.2.2.2.2.2.1 z34.2.2.2.2.2.2.2.2.2.2.2.2.2.2.2.2.2.2.2.2.2.2.2.2.1 z34.2.2.2.2.2.2.2.2.2.2.2.2.2.2.2.2.2.2.2.2.2.2.2.2.2.1 z34.2.2.2.2.2.2.2.2.2.1 z34.2.2.2.2.2.2.2.2.2.2.1 z34.2.2.2.2.2.2.2.2.2.2.2.1) fun r38=>
 Ac (f9 z34.2.2.2.2.2.2.2.2.2.2.2.2.1 z34.2.2.2.2.2.2.2.2.2.2.2.2.2.1 z34.2.2.2.2.2.2.2.2.2.2.2.2.2.2.1 z34.2.2.2.2.2.2.2.2.2.2.2.2.2.2.2.1 z34.2.2.2.2.2.2.2.2.2.2.2.2.2.2.2.2.1 z34.2.2.2.2.2.2.2.2.2.2.2.2.2.2.2.2.2.1 z34.2.2.2.2.2.2.2.2.2.2.2.2.2.2.2.2.2.2.1 z34.2.2.2.2.2.2.2.2.2.2.2.2.2.2.2.2.2.2.2.1 z34.2.2.2.2.2.2.2.2.2.2.2.2.2.2.2.2.2.2.2.2.1 z34.2.2.2.2.2.2.2.2.2.2.2.2.2.2.2.2.2.2.2.2.2.2.2.2.2.2.1 z34.2.2.2.2.2.2.2.2.2.2.2.2.2.2.2.2.2.2.2.2.2.2.2.2.2.2.2 z34.2.2.2.2.2.2.2.2.2.2.2.2.2.2.2.2.2.2.2.2.2.1 z34.2.2.2.2.2.2.2.2.2.2.2.2.2.2.2.2.2.2.2.2.2.2.1 z34.2.2.2.2.2.2.2.2.2.2.2.2.2.2.2.2.2.2.2.2.2.2.2.1) fun r39=>
 Ac (f10 r38.1 r39.1) fun r40=>
 bif r40 then
 Ac (f10 r38.2.1 r39.2.1) fun r41=>
 some r41
 else
 some false) (fun z26b=>
 some ((0:Int)==0))))) (fun z3b=>
 some true)
def C3:Con where
 X:=PTz6×Int
 Y:=Bool
 e:=0
 args x:=[.dat T11 x.1,.dat T0 x.2]
 hin x:=[]
 F x:=f3 x.1 x.2
 ret y:=[.dat .bool y]
 hout y:=[]
 nout:=0
theorem V3 j k y (q:f3 j k=some y):VC Tryz.f3 C3 (j,k) y:=by
 unfold f3 at q
 refine OL (OL (OL ?_))
 obtain ⟨r1,h,q⟩:=bE q
 refine OL (cA H5 () h rfl (K0 (cI q (fun q=>?_) (fun q=>?_))))
 ·cases sE q
  refine OL (AI rfl (E4 [] (R2 (AI TV TV))))
 obtain ⟨z3,hz3,q⟩:=bE q
 let e0:LE:=fun zz=>(1,.dat T0 k)::zz
 refine OQ ⟨Sum.elim (fun z3a=>[(0,⟨e0 [(2,P0 0 0)],[(0,.cells [(.d T5 j.1.1),(.d T4 j.1.2),(.d T0 j.2.1),(.d T0 j.2.2.1),(.d T0 j.2.2.2.1.1),(.d T0 j.2.2.2.1.2.1),(.d T0 j.2.2.2.1.2.2),(.d T12 j.2.2.2.2.1),(.d T5 j.2.2.2.2.2)])],1⟩)]) (fun z3b=>[(1,⟨[(4,.dat .bool true)],[],0⟩)]) z3,?_,?_⟩
 ·have q:=hz3
  clear hz3
  unfold f3_j1 at q
  refine OL ?_
  obtain ⟨r4,h,q⟩:=bE q
  refine OL (cA H6 ((j.1.1,j.1.2),j.2.1,j.2.2.1,(j.2.2.2.1.1,j.2.2.2.1.2.1,j.2.2.2.1.2.2),j.2.2.2.2.1,j.2.2.2.2.2) h rfl (R2 (K0 (cN q (fun q=>?_) (fun q=>?_)))))
  ·refine gY (cF (cN q (fun q=>?_) (fun q=>?_)))
   ·refine gY (cF (cI q (fun q=>?_) (fun q=>?_)))
    ·cases sE q
     refine OL (E4 [] (R2 (AI TV TV)))
    cases sE q
    refine E4 (iuR [1]) (R2 (AJ (AI rfl TV)))
   refine gN (cT (cT (OL ?_)))
   cases sE q
   refine E4 [] (R2 (AI TV TV))
  refine gN (cT (gN (gN (cT (cT (OL ?_))))))
  cases sE q
  refine E4 [] (R2 (AI TV TV))
 rcases z3 with z3a | z3b
 ·dsimp only [Ai] at q
  refine AI (OL ?_) TV
  obtain ⟨r5,hr5,q⟩:=bE q
  rcases r5 with r5a | r5b
  ·dsimp only [Ai] at q
   refine OL (cA H7 ((j.1.1,j.1.2),j.2.1,j.2.2.1,(j.2.2.2.1.1,j.2.2.2.1.2.1,j.2.2.2.1.2.2),j.2.2.2.2.1,j.2.2.2.2.2) hr5 rfl (R2 (K0 (OL ?_))))
   obtain ⟨r6,hr6,q⟩:=bE q
   rcases r6 with r6a | r6b
   ·dsimp only [Ai] at q
    refine OL (cA H7 ((j.1.1,j.1.2),j.2.1,j.2.2.1,(j.2.2.2.1.1,j.2.2.2.1.2.1,j.2.2.2.1.2.2),j.2.2.2.2.1,j.2.2.2.2.2) hr6 rfl (R2 (K0 ?_)))
    obtain ⟨z8,hz8,q⟩:=bE q
    let e1:LE:=fun zz=>e0 ((5,.raw false [(.c (.pointer none))])::zz)
    refine OQ ⟨Sum.elim (fun z8a=>[(0,⟨e1 [(7,.raw false [(.c (.pointer none))])],[],0⟩)]) (fun z8b=>[(1,⟨[(4,.dat .bool (r5a==r6a))],[],0⟩)]) z8,?_,?_⟩
    ·have q:=hz8
     clear hz8
     unfold f3_j3 at q
     obtain ⟨z9,hz9,q⟩:=bE q
     refine OQ ⟨[(0,⟨e1 [(6,.dat T0 r5a),(7,.raw false [(.c (.pointer none))]),(8,.dat T0 r6a),(41,.dat .bool z9)],[],0⟩)],?_,?_⟩
     ·have q:=hz9
      clear hz9
      unfold f3_j4 at q
      refine cN q (fun q=>?_) (fun q=>?_)
      ·refine gY (cF ?_)
       cases sE q
       refine E4 [] (R5 (AI (R2 TV) TV))
      refine gN (cT ?_)
      cases sE q
      refine E4 [] (R5 (AI (R2 TV) TV))
     refine AI (cI q (fun q=>?_) (fun q=>?_)) TV
     ·cases sE q
      refine OL (E4 [] (R2 (AI TV TV)))
     cases sE q
     refine E4 [] (R2 (AI (R2 TV) TV))
    rcases z8 with z8a | z8b
    ·dsimp only [Ai] at q
     refine AI (OL (OL ?_)) TV
     obtain ⟨z10,h,q⟩:=bE q
     refine lJ h (fun x=>⟨e1 [(7,.raw false [(.c (.pointer none))]),(9,D0 0)],[],0⟩) (fun z=>[(2,⟨[(5,.raw false [(.c (.pointer none))]),(7,.raw false [(.c (.pointer none))])],[],0⟩)]) (E4 [] (R3 (AI (R2 TV) TV))) (fun m=>fun x z q=>?_) ?_
     ·have q:f3_l5 k (Ag (fun go x=>f3_l5 k go) m)=some z:=q
      unfold f3_l5 at q
      refine OL (OL (cI q (fun q=>?_) (fun q=>?_)))
      ·refine OL (OL ?_)
       exact nomatch q
      cases sE q
      refine E4 [] (AI rfl (AI (R2 TV) TV))
     refine AI (OL ?_) TV
     exact nomatch q
    dsimp only [Ai] at q
    refine AI ?_ TV
    cases sE q
    refine AI rfl (E4 [] (R2 (AI TV TV)))
   dsimp only [Ai] at q
   refine OL (cA H7 ((j.1.1,j.1.2),j.2.1,j.2.2.1,(j.2.2.2.1.1,j.2.2.2.1.2.1,j.2.2.2.1.2.2),j.2.2.2.2.1,j.2.2.2.2.2) hr6 rfl (R2 (K0 ?_)))
   obtain ⟨z12,hz12,q⟩:=bE q
   let e2:LE:=fun zz=>e0 ((5,.raw false [(.c (.pointer none))])::zz)
   let h3:LH:=fun zz=>(0,.cells [(.d T5 r6b.1),(.d T4 r6b.2.1),(.d T0 r6b.2.2.1),(.d T0 r6b.2.2.2.1),(.d T0 r6b.2.2.2.2.1),(.d T0 r6b.2.2.2.2.2.1),(.d T0 r6b.2.2.2.2.2.2.1),(.d T12 r6b.2.2.2.2.2.2.2.1),(.d T5 r6b.2.2.2.2.2.2.2.2.1),(.osl 1),(.osl 2),(.d T0 (0:Int)),(.d T0 (0:Int)),(.d T9 (0:Int))])::(1,.arr 26 T0 r6b.2.2.2.2.2.2.2.2.2.1)::(2,.arr 26 T0 r6b.2.2.2.2.2.2.2.2.2.2)::zz
   refine OQ ⟨Sum.elim (fun z12a=>[(0,⟨e2 [(7,P0 0 0)],h3 [],3⟩)]) (fun z12b=>[(1,⟨[(4,.dat .bool (r5a==0))],[],0⟩)]) z12,?_,?_⟩
   ·have q:=hz12
    clear hz12
    unfold f3_j7 at q
    obtain ⟨z13,hz13,q⟩:=bE q
    refine OQ ⟨[(0,⟨e2 [(6,.dat T0 r5a),(7,P0 0 0),(8,D0 0),(41,.dat .bool z13)],h3 [],3⟩)],?_,?_⟩
    ·have q:=hz13
     clear hz13
     unfold f3_j8 at q
     refine cN q (fun q=>?_) (fun q=>?_)
     ·refine gY (cF ?_)
      cases sE q
      refine E4 (iuR [5,6,7]) (R5 (AI (R2 TV) (R3 TV)))
     refine gN (cT ?_)
     cases sE q
     refine E4 (iuR [5,6,7]) (R5 (AI (R2 TV) (R3 TV)))
    refine AI (cI q (fun q=>?_) (fun q=>?_)) TV
    ·cases sE q
     refine OL (E4 [] (R2 (AI TV TV)))
    cases sE q
    refine E4 I3 (R2 (AI (R2 TV) (R3 TV)))
   rcases z12 with z12a | z12b
   ·dsimp only [Ai] at q
    refine AI (OL (OL ?_)) TV
    obtain ⟨z14,h,q⟩:=bE q
    refine lJ h (fun x=>⟨e2 [(7,P0 0 0),(9,D0 0)],h3 [],3⟩) (fun z=>[(2,⟨[(5,.raw false [(.c (.pointer none))]),(7,P0 0 0)],h3 [],3⟩)]) (E4 I3 (R3 (AI (R2 TV) (R3 TV)))) (fun m=>fun x z q=>?_) ?_
    ·have q:f3_l9 k (Ag (fun go x=>f3_l9 k go) m)=some z:=q
     unfold f3_l9 at q
     refine OL (OL (cI q (fun q=>?_) (fun q=>?_)))
     ·refine OL (OL ?_)
      exact nomatch q
     cases sE q
     refine E4 I3 (AI rfl (AI (R2 TV) (R3 TV)))
    refine AI (OL ?_) TV
    exact nomatch q
   dsimp only [Ai] at q
   refine AI ?_ TV
   cases sE q
   refine AI rfl (E4 [] (R2 (AI TV TV)))
  dsimp only [Ai] at q
  refine OL (cA H7 ((j.1.1,j.1.2),j.2.1,j.2.2.1,(j.2.2.2.1.1,j.2.2.2.1.2.1,j.2.2.2.1.2.2),j.2.2.2.2.1,j.2.2.2.2.2) hr5 rfl (R2 (K0 (OL ?_))))
  obtain ⟨r15,hr15,q⟩:=bE q
  rcases r15 with r15a | r15b
  ·dsimp only [Ai] at q
   refine OL (cA H7 ((j.1.1,j.1.2),j.2.1,j.2.2.1,(j.2.2.2.1.1,j.2.2.2.1.2.1,j.2.2.2.1.2.2),j.2.2.2.2.1,j.2.2.2.2.2) hr15 rfl (R2 (K0 ?_)))
   obtain ⟨z17,hz17,q⟩:=bE q
   let h4:LH:=fun zz=>(0,.cells [(.d T5 r5b.1),(.d T4 r5b.2.1),(.d T0 r5b.2.2.1),(.d T0 r5b.2.2.2.1),(.d T0 r5b.2.2.2.2.1),(.d T0 r5b.2.2.2.2.2.1),(.d T0 r5b.2.2.2.2.2.2.1),(.d T12 r5b.2.2.2.2.2.2.2.1),(.d T5 r5b.2.2.2.2.2.2.2.2.1),(.osl 1),(.osl 2),(.d T0 (0:Int)),(.d T0 (0:Int)),(.d T9 (0:Int))])::(1,.arr 26 T0 r5b.2.2.2.2.2.2.2.2.2.1)::(2,.arr 26 T0 r5b.2.2.2.2.2.2.2.2.2.2)::zz
   refine OQ ⟨Sum.elim (fun z17a=>[(0,⟨e0 [(5,P0 0 0),(7,.raw false [(.c (.pointer none))])],h4 [],3⟩)]) (fun z17b=>[(1,⟨[(4,.dat .bool ((0:Int)==r15a))],[],0⟩)]) z17,?_,?_⟩
   ·have q:=hz17
    clear hz17
    unfold f3_j11 at q
    obtain ⟨z18,hz18,q⟩:=bE q
    refine OQ ⟨[(0,⟨e0 [(5,P0 0 0),(6,D0 0),(7,.raw false [(.c (.pointer none))]),(8,.dat T0 r15a),(41,.dat .bool z18)],h4 [],3⟩)],?_,?_⟩
    ·have q:=hz18
     clear hz18
     unfold f3_j12 at q
     refine cN q (fun q=>?_) (fun q=>?_)
     ·refine gY (cF ?_)
      cases sE q
      refine E4 (iuR [2,3,4]) (R5 (AI (R2 TV) (R3 TV)))
     refine gN (cT ?_)
     cases sE q
     refine E4 (iuR [2,3,4]) (R5 (AI (R2 TV) (R3 TV)))
    refine AI (cI q (fun q=>?_) (fun q=>?_)) TV
    ·cases sE q
     refine OL (E4 [] (R2 (AI TV TV)))
    cases sE q
    refine E4 I3 (R2 (AI (R2 TV) (R3 TV)))
   rcases z17 with z17a | z17b
   ·dsimp only [Ai] at q
    refine AI (OL (OL ?_)) TV
    obtain ⟨z21,h,q⟩:=bE q
    refine lJ h (fun x=>⟨e0 [(5,P0 0 0),(7,.raw false [(.c (.pointer none))]),(9,D0 0)],h4 [],3⟩) (fun z=>[(2,⟨[(5,P0 0 0),(7,.raw false [(.c (.pointer none))])],h4 [],3⟩)]) (E4 I3 (R3 (AI (R2 TV) (R3 TV)))) (fun m=>fun x z q=>?_) ?_
    ·have q:f3_l13 k r5b (Ag (fun go x=>f3_l13 k r5b go) m)=some z:=q
     unfold f3_l13 at q
     refine OL (OL (cI q (fun q=>?_) (fun q=>?_)))
     ·refine OL (OL ?_)
      obtain ⟨r22,h,q⟩:=bE q
      refine OL (cB H8 (r5b.1,r5b.2.1,r5b.2.2.1,r5b.2.2.2.1,r5b.2.2.2.2.1,r5b.2.2.2.2.2.1,r5b.2.2.2.2.2.2.1,r5b.2.2.2.2.2.2.2.1,r5b.2.2.2.2.2.2.2.2.1,r5b.2.2.2.2.2.2.2.2.2.1,r5b.2.2.2.2.2.2.2.2.2.2,(0:Int),(0:Int),(0:Int)) I3 false h rfl (AI NH (R2 (AJ (AI (R3 TV) (OL ?_))))))
      obtain ⟨r23,h,q⟩:=bE q
      refine OL (cB H9 (r22.2.1,r22.2.2.1,r22.2.2.2.1,r22.2.2.2.2.1,r22.2.2.2.2.2.1,r22.2.2.2.2.2.2.1,r22.2.2.2.2.2.2.2.1,r22.2.2.2.2.2.2.2.2.1,r22.2.2.2.2.2.2.2.2.2.1,r22.2.2.2.2.2.2.2.2.2.2.2.2.2.1,r22.2.2.2.2.2.2.2.2.2.2.2.2.2.2,r22.2.2.2.2.2.2.2.2.2.2.1,r22.2.2.2.2.2.2.2.2.2.2.2.1,r22.2.2.2.2.2.2.2.2.2.2.2.2.1) (iuR [1,7,8]) false h rfl (AI NH (R2 (AJ (AI (R3 TV) (OL (OL (OL (cI q (fun q=>?_) (fun q=>?_))))))))))
      ·refine OL (EI (tU 0 8 (.alt 8 .done .done)) (EI [(8,[11,14])] (EI [] (AI rfl (gI q (fun q=>?_))))))
       refine gI q (fun q=>?_)
       refine AI TV (OL (gI q (fun q=>?_)))
       refine OL ?_
       exact nomatch q
      exact nomatch q
     cases sE q
     refine E4 I3 (AI rfl (AI (R2 TV) (R3 TV)))
    refine AI (OL ?_) TV
    obtain ⟨r24,h,q⟩:=bE q
    refine OL (cB H9 (r5b.1,r5b.2.1,r5b.2.2.1,r5b.2.2.2.1,r5b.2.2.2.2.1,r5b.2.2.2.2.2.1,r5b.2.2.2.2.2.2.1,r5b.2.2.2.2.2.2.2.1,r5b.2.2.2.2.2.2.2.2.1,r5b.2.2.2.2.2.2.2.2.2.1,r5b.2.2.2.2.2.2.2.2.2.2,(0:Int),(0:Int),(0:Int)) I3 false h rfl (AI NH (R2 (AJ (AI (R3 TV) ?_)))))
    exact nomatch q
   dsimp only [Ai] at q
   refine AI ?_ TV
   cases sE q
   refine AI rfl (E4 [] (R2 (AI TV TV)))
  dsimp only [Ai] at q
  refine OL (cA H7 ((j.1.1,j.1.2),j.2.1,j.2.2.1,(j.2.2.2.1.1,j.2.2.2.1.2.1,j.2.2.2.1.2.2),j.2.2.2.2.1,j.2.2.2.2.2) hr15 rfl (R2 (K0 ?_)))
  obtain ⟨z26,hz26,q⟩:=bE q
  let h5:LH:=fun zz=>(0,.cells [(.d T5 r5b.1),(.d T4 r5b.2.1),(.d T0 r5b.2.2.1),(.d T0 r5b.2.2.2.1),(.d T0 r5b.2.2.2.2.1),(.d T0 r5b.2.2.2.2.2.1),(.d T0 r5b.2.2.2.2.2.2.1),(.d T12 r5b.2.2.2.2.2.2.2.1),(.d T5 r5b.2.2.2.2.2.2.2.2.1),(.osl 2),(.osl 3),(.d T0 (0:Int)),(.d T0 (0:Int)),(.d T9 (0:Int))])::(1,.cells [(.d T5 r15b.1),(.d T4 r15b.2.1),(.d T0 r15b.2.2.1),(.d T0 r15b.2.2.2.1),(.d T0 r15b.2.2.2.2.1),(.d T0 r15b.2.2.2.2.2.1),(.d T0 r15b.2.2.2.2.2.2.1),(.d T12 r15b.2.2.2.2.2.2.2.1),(.d T5 r15b.2.2.2.2.2.2.2.2.1),(.osl 4),(.osl 5),(.d T0 (0:Int)),(.d T0 (0:Int)),(.d T9 (0:Int))])::(2,.arr 26 T0 r5b.2.2.2.2.2.2.2.2.2.1)::(3,.arr 26 T0 r5b.2.2.2.2.2.2.2.2.2.2)::(4,.arr 26 T0 r15b.2.2.2.2.2.2.2.2.2.1)::(5,.arr 26 T0 r15b.2.2.2.2.2.2.2.2.2.2)::zz
  refine OQ ⟨Sum.elim (fun z26a=>[(0,⟨e0 [(5,P0 0 0),(7,P0 1 0)],h5 [],6⟩)]) (fun z26b=>[(1,⟨[(4,.dat .bool ((0:Int)==0))],[],0⟩)]) z26,?_,?_⟩
  ·have q:=hz26
   clear hz26
   unfold f3_j15 at q
   obtain ⟨z27,hz27,q⟩:=bE q
   refine OQ ⟨[(0,⟨e0 [(5,P0 0 0),(6,D0 0),(7,P0 1 0),(8,D0 0),(41,.dat .bool z27)],h5 [],6⟩)],?_,?_⟩
   ·have q:=hz27
    clear hz27
    unfold f3_j16 at q
    refine cN q (fun q=>?_) (fun q=>?_)
    ·refine gY (cF ?_)
     cases sE q
     refine E4 (iuR [2,5,3,4,6,7]) (R5 (AI (R2 TV) (R6 TV)))
    refine gN (cT ?_)
    cases sE q
    refine E4 (iuR [2,5,3,4,6,7]) (R5 (AI (R2 TV) (R6 TV)))
   refine AI (cI q (fun q=>?_) (fun q=>?_)) TV
   ·cases sE q
    refine OL (E4 [] (R2 (AI TV TV)))
   cases sE q
   refine E4 I6 (R2 (AI (R2 TV) (R6 TV)))
  rcases z26 with z26a | z26b
  ·dsimp only [Ai] at q
   refine AI (OL (OL ?_)) TV
   obtain ⟨z34,h,q⟩:=bE q
   refine lJ h (fun x=>⟨e0 [(5,P0 0 0),(7,P0 1 0),(9,.dat T0 x.1)],[(0,.cells [(.d T5 x.2.1),(.d T4 x.2.2.1),(.d T0 x.2.2.2.1),(.d T0 x.2.2.2.2.1),(.d T0 x.2.2.2.2.2.1),(.d T0 x.2.2.2.2.2.2.1),(.d T0 x.2.2.2.2.2.2.2.1),(.d T12 x.2.2.2.2.2.2.2.2.1),(.d T5 x.2.2.2.2.2.2.2.2.2.1),(.osl 2),(.osl 3),(.d T0 x.2.2.2.2.2.2.2.2.2.2.1),(.d T0 x.2.2.2.2.2.2.2.2.2.2.2.1),(.d T9 x.2.2.2.2.2.2.2.2.2.2.2.2.1)]),(1,.cells [(.d T5 x.2.2.2.2.2.2.2.2.2.2.2.2.2.1),(.d T4 x.2.2.2.2.2.2.2.2.2.2.2.2.2.2.1),(.d T0 x.2.2.2.2.2.2.2.2.2.2.2.2.2.2.2.1),(.d T0 x.2.2.2.2.2.2.2.2.2.2.2.2.2.2.2.2.1),(.d T0 x.2.2.2.2.2.2.2.2.2.2.2.2.2.2.2.2.2.1),(.d T0 x.2.2.2.2.2.2.2.2.2.2.2.2.2.2.2.2.2.2.1),(.d T0 x.2.2.2.2.2.2.2.2.2.2.2.2.2.2.2.2.2.2.2.1),(.d T12 x.2.2.2.2.2.2.2.2.2.2.2.2.2.2.2.2.2.2.2.2.1),(.d T5 x.2.2.2.2.2.2.2.2.2.2.2.2.2.2.2.2.2.2.2.2.2.1),(.osl 4),(.osl 5),(.d T0 x.2.2.2.2.2.2.2.2.2.2.2.2.2.2.2.2.2.2.2.2.2.2.1),(.d T0 x.2.2.2.2.2.2.2.2.2.2.2.2.2.2.2.2.2.2.2.2.2.2.2.1),(.d T9 x.2.2.2.2.2.2.2.2.2.2.2.2.2.2.2.2.2.2.2.2.2.2.2.2.1)]),(2,.arr 26 T0 x.2.2.2.2.2.2.2.2.2.2.2.2.2.2.2.2.2.2.2.2.2.2.2.2.2.1),(3,.arr 26 T0 x.2.2.2.2.2.2.2.2.2.2.2.2.2.2.2.2.2.2.2.2.2.2.2.2.2.2.1),(4,.arr 26 T0 x.2.2.2.2.2.2.2.2.2.2.2.2.2.2.2.2.2.2.2.2.2.2.2.2.2.2.2.1),(5,.arr 26 T0 x.2.2.2.2.2.2.2.2.2.2.2.2.2.2.2.2.2.2.2.2.2.2.2.2.2.2.2.2)],6⟩) (fun z=>[(2,⟨[(5,P0 0 0),(7,P0 1 0)],[(0,.cells [(.d T5 z.1),(.d T4 z.2.1),(.d T0 z.2.2.1),(.d T0 z.2.2.2.1),(.d T0 z.2.2.2.2.1),(.d T0 z.2.2.2.2.2.1),(.d T0 z.2.2.2.2.2.2.1),(.d T12 z.2.2.2.2.2.2.2.1),(.d T5 z.2.2.2.2.2.2.2.2.1),(.osl 2),(.osl 3),(.d T0 z.2.2.2.2.2.2.2.2.2.1),(.d T0 z.2.2.2.2.2.2.2.2.2.2.1),(.d T9 z.2.2.2.2.2.2.2.2.2.2.2.1)]),(1,.cells [(.d T5 z.2.2.2.2.2.2.2.2.2.2.2.2.1),(.d T4 z.2.2.2.2.2.2.2.2.2.2.2.2.2.1),(.d T0 z.2.2.2.2.2.2.2.2.2.2.2.2.2.2.1),(.d T0 z.2.2.2.2.2.2.2.2.2.2.2.2.2.2.2.1),(.d T0 z.2.2.2.2.2.2.2.2.2.2.2.2.2.2.2.2.1),(.d T0 z.2.2.2.2.2.2.2.2.2.2.2.2.2.2.2.2.2.1),(.d T0 z.2.2.2.2.2.2.2.2.2.2.2.2.2.2.2.2.2.2.1),(.d T12 z.2.2.2.2.2.2.2.2.2.2.2.2.2.2.2.2.2.2.2.1),(.d T5 z.2.2.2.2.2.2.2.2.2.2.2.2.2.2.2.2.2.2.2.2.1),(.osl 4),(.osl 5),(.d T0 z.2.2.2.2.2.2.2.2.2.2.2.2.2.2.2.2.2.2.2.2.2.1),(.d T0 z.2.2.2.2.2.2.2.2.2.2.2.2.2.2.2.2.2.2.2.2.2.2.1),(.d T9 z.2.2.2.2.2.2.2.2.2.2.2.2.2.2.2.2.2.2.2.2.2.2.2.1)]),(2,.arr 26 T0 z.2.2.2.2.2.2.2.2.2.2.2.2.2.2.2.2.2.2.2.2.2.2.2.2.1),(3,.arr 26 T0 z.2.2.2.2.2.2.2.2.2.2.2.2.2.2.2.2.2.2.2.2.2.2.2.2.2.1),(4,.arr 26 T0 z.2.2.2.2.2.2.2.2.2.2.2.2.2.2.2.2.2.2.2.2.2.2.2.2.2.2.1),(5,.arr 26 T0 z.2.2.2.2.2.2.2.2.2.2.2.2.2.2.2.2.2.2.2.2.2.2.2.2.2.2.2)],6⟩)]) (E4 I6 (R3 (AI (R2 TV) (R6 TV)))) (fun m=>An (fun i=>An (fun c0_0=>An (fun c0_1=>An (fun c0_2=>An (fun c0_3=>An (fun c0_4=>An (fun c0_5=>An (fun c0_6=>An (fun c0_7=>An (fun c0_8=>An (fun c0_11=>An (fun c0_12=>An (fun c0_13=>An (fun c1_0=>An (fun c1_1=>An (fun c1_2=>An (fun c1_3=>An (fun c1_4=>An (fun c1_5=>An (fun c1_6=>An (fun c1_7=>An (fun c1_8=>An (fun c1_11=>An (fun c1_12=>An (fun c1_13=>An (fun l2=>An (fun l3=>An (fun l4=>fun l5 z q=>?_))))))))))))))))))))))))))))) ?_
   ·have q:f3_l17 k _ i c0_0 c0_1 c0_2 c0_3 c0_4 c0_5 c0_6 c0_7 c0_8 c0_11 c0_12 c0_13 c1_0 c1_1 c1_2 c1_3 c1_4 c1_5 c1_6 c1_7 c1_8 c1_11 c1_12 c1_13 l2 l3 l4 l5=some z:=q
    unfold f3_l17 at q
    refine OL (OL (cI q (fun q=>?_) (fun q=>?_)))
    ·refine OL (OL ?_)
     obtain ⟨r35,h,q⟩:=bE q
     refine OL (cB H8 (c0_0,c0_1,c0_2,c0_3,c0_4,c0_5,c0_6,c0_7,c0_8,l2,l3,c0_11,c0_12,c0_13) (iuR [1,3,4]) false h rfl (AI NH (R2 (AJ (AI (R3 TV) (OL ?_))))))
     obtain ⟨r36,h,q⟩:=bE q
     refine OL (cB H9 (r35.2.1,r35.2.2.1,r35.2.2.2.1,r35.2.2.2.2.1,r35.2.2.2.2.2.1,r35.2.2.2.2.2.2.1,r35.2.2.2.2.2.2.2.1,r35.2.2.2.2.2.2.2.2.1,r35.2.2.2.2.2.2.2.2.2.1,r35.2.2.2.2.2.2.2.2.2.2.2.2.2.1,r35.2.2.2.2.2.2.2.2.2.2.2.2.2.2,r35.2.2.2.2.2.2.2.2.2.2.1,r35.2.2.2.2.2.2.2.2.2.2.2.1,r35.2.2.2.2.2.2.2.2.2.2.2.2.1) (iuR [1,10,11]) false h rfl (AI NH (R2 (AJ (AI (R3 TV) (OL (OL (OL (cI q (fun q=>?_) (fun q=>?_))))))))))
     ·refine OL (EI (tU 0 8 (.alt 8 .done .done)) (EI [(8,[11,14])] (EI [] (AI rfl (gI q (fun q=>?_))))))
      refine gI q (fun q=>?_)
      refine AI TV (OL (gI q (fun q=>?_)))
      refine OL ?_
      obtain ⟨q15_8,h,q⟩:=bE q
      refine OL (cB H8 (c1_0,c1_1,c1_2,c1_3,c1_4,c1_5,c1_6,c1_7,c1_8,l4,l5,c1_11,c1_12,c1_13) (iuR [2,5,6]) false h rfl (AI NH (R2 (AJ (AI (R3 TV) (EI ((i64.wrap (i+1)),r36.2.2.1,r36.2.2.2.1,r36.2.2.2.2.1,r36.2.2.2.2.2.1,r36.2.2.2.2.2.2.1,r36.2.2.2.2.2.2.2.1,r36.2.2.2.2.2.2.2.2.1,r36.2.2.2.2.2.2.2.2.2.1,r36.2.2.2.2.2.2.2.2.2.2.1,r36.2.2.2.2.2.2.2.2.2.2.2.1,r36.2.2.2.2.2.2.2.2.2.2.2.2.1,r36.2.2.2.2.2.2.2.2.2.2.2.2.2.1,q15_8.2.1,q15_8.2.2.1,q15_8.2.2.2.1,q15_8.2.2.2.2.1,q15_8.2.2.2.2.2.1,q15_8.2.2.2.2.2.2.1,q15_8.2.2.2.2.2.2.2.1,q15_8.2.2.2.2.2.2.2.2.1,q15_8.2.2.2.2.2.2.2.2.2.1,q15_8.2.2.2.2.2.2.2.2.2.2.1,q15_8.2.2.2.2.2.2.2.2.2.2.2.1,q15_8.2.2.2.2.2.2.2.2.2.2.2.2.1,r36.2.2.2.2.2.2.2.2.2.2.2.2.2.2.1,r36.2.2.2.2.2.2.2.2.2.2.2.2.2.2.2,q15_8.2.2.2.2.2.2.2.2.2.2.2.2.2.1,q15_8.2.2.2.2.2.2.2.2.2.2.2.2.2.2) (AI q (E4 (iuR [1,2,10,11,21,22]) (R3 (AI (R2 TV) (R6 TV)))))))))))
     obtain ⟨r37,h,q⟩:=bE q
     refine OL (cB H8 (c1_0,c1_1,c1_2,c1_3,c1_4,c1_5,c1_6,c1_7,c1_8,l4,l5,c1_11,c1_12,c1_13) (iuR [2,5,6]) false h rfl (AI NH (R2 (AJ (AI (R3 TV) (EI ((i64.wrap (i+1)),r36.2.2.1,r36.2.2.2.1,r36.2.2.2.2.1,r36.2.2.2.2.2.1,r36.2.2.2.2.2.2.1,r36.2.2.2.2.2.2.2.1,r36.2.2.2.2.2.2.2.2.1,r36.2.2.2.2.2.2.2.2.2.1,r36.2.2.2.2.2.2.2.2.2.2.1,r36.2.2.2.2.2.2.2.2.2.2.2.1,r36.2.2.2.2.2.2.2.2.2.2.2.2.1,r36.2.2.2.2.2.2.2.2.2.2.2.2.2.1,r37.2.1,r37.2.2.1,r37.2.2.2.1,r37.2.2.2.2.1,r37.2.2.2.2.2.1,r37.2.2.2.2.2.2.1,r37.2.2.2.2.2.2.2.1,r37.2.2.2.2.2.2.2.2.1,r37.2.2.2.2.2.2.2.2.2.1,r37.2.2.2.2.2.2.2.2.2.2.1,r37.2.2.2.2.2.2.2.2.2.2.2.1,r37.2.2.2.2.2.2.2.2.2.2.2.2.1,r36.2.2.2.2.2.2.2.2.2.2.2.2.2.2.1,r36.2.2.2.2.2.2.2.2.2.2.2.2.2.2.2,r37.2.2.2.2.2.2.2.2.2.2.2.2.2.1,r37.2.2.2.2.2.2.2.2.2.2.2.2.2.2) (AI q (E4 (iuR [1,2,10,11,21,22]) (R3 (AI (R2 TV) (R6 TV)))))))))))
    cases sE q
    refine E4 I6 (AI rfl (AI (R2 TV) (R6 TV)))
   refine AI (OL ?_) TV
   obtain ⟨r38,h,q⟩:=bE q
   refine OL (cB H9 (z34.1,z34.2.1,z34.2.2.1,z34.2.2.2.1,z34.2.2.2.2.1,z34.2.2.2.2.2.1,z34.2.2.2.2.2.2.1,z34.2.2.2.2.2.2.2.1,z34.2.2.2.2.2.2.2.2.1,z34.2.2.2.2.2.2.2.2.2.2.2.2.2.2.2.2.2.2.2.2.2.2.2.2.1,z34.2.2.2.2.2.2.2.2.2.2.2.2.2.2.2.2.2.2.2.2.2.2.2.2.2.1,z34.2.2.2.2.2.2.2.2.2.1,z34.2.2.2.2.2.2.2.2.2.2.1,z34.2.2.2.2.2.2.2.2.2.2.2.1) (iuR [1,3,4]) false h rfl (AI NH (R2 (AJ (AI (R3 TV) ?_)))))
   obtain ⟨r39,h,q⟩:=bE q
   refine OL (cB H9 (z34.2.2.2.2.2.2.2.2.2.2.2.2.1,z34.2.2.2.2.2.2.2.2.2.2.2.2.2.1,z34.2.2.2.2.2.2.2.2.2.2.2.2.2.2.1,z34.2.2.2.2.2.2.2.2.2.2.2.2.2.2.2.1,z34.2.2.2.2.2.2.2.2.2.2.2.2.2.2.2.2.1,z34.2.2.2.2.2.2.2.2.2.2.2.2.2.2.2.2.2.1,z34.2.2.2.2.2.2.2.2.2.2.2.2.2.2.2.2.2.2.1,z34.2.2.2.2.2.2.2.2.2.2.2.2.2.2.2.2.2.2.2.1,z34.2.2.2.2.2.2.2.2.2.2.2.2.2.2.2.2.2.2.2.2.1,z34.2.2.2.2.2.2.2.2.2.2.2.2.2.2.2.2.2.2.2.2.2.2.2.2.2.2.1,z34.2.2.2.2.2.2.2.2.2.2.2.2.2.2.2.2.2.2.2.2.2.2.2.2.2.2.2,z34.2.2.2.2.2.2.2.2.2.2.2.2.2.2.2.2.2.2.2.2.2.1,z34.2.2.2.2.2.2.2.2.2.2.2.2.2.2.2.2.2.2.2.2.2.2.1,z34.2.2.2.2.2.2.2.2.2.2.2.2.2.2.2.2.2.2.2.2.2.2.2.1) (iuR [2,5,6]) false h rfl (AI NH (R2 (AJ (AI (R3 TV) (OL (OL (OL ?_))))))))
   obtain ⟨r40,h,q⟩:=bE q
   refine OL (cD H10 (r38.1,r39.1) h rfl (R2 (AI (fun _=>rfl) (R2 (AI TV (AI TV (cI q (fun q=>?_) (fun q=>?_))))))))
   ·refine gX (gX (gX (gX ?_)))
    obtain ⟨r41,h,q⟩:=bE q
    refine OL (cD H10 (r38.2.1,r39.2.1) h rfl (R2 (AI (fun _=>rfl) (R2 (AI TV (AI TV (cT ?_)))))))
    cases sE q
    refine AI rfl (E4 [] (R2 (AI TV TV)))
   refine gM (gM (gM (gM (cF ?_))))
   cases sE q
   refine AI rfl (E4 [] (R2 (AI TV TV)))
  dsimp only [Ai] at q
  refine AI ?_ TV
  cases sE q
  refine AI rfl (E4 [] (R2 (AI TV TV)))
 dsimp only [Ai] at q
 refine AI ?_ TV
 cases sE q
 refine AI rfl (E4 [] (R2 (AI TV TV)))
theorem H3:HI C3 3:=hI Tryz.f3 rfl fun x=>V3 x.1 x.2
end Go.Proofs
