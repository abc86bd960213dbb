import Derived.Test.YtokgamncgleelaaGreatGradSaysS4
set_option linter.unusedVariables false
set_option maxRecDepth 100000
set_option maxHeartbeats 8000000
namespace Go.Proofs
open Go.AM
open IntKind (i64 u64 i32 u32 i16 u16 i8 u8)
def f3_j1 (b:LI) (e:PTz12) (a:PTz14):Option (Sum Unit Unit):=
 bif (!a.2) then
 some (Sum.inr ())
 else
 bif (decide ((b.length:Int)>100)) then
 some (Sum.inr ())
 else
 D4 (f9 (e.1,e.2.1,e.2.2)) fun c=>
 bif (!c) then
 some (Sum.inr ())
 else
 some (Sum.inl ())
def f3_l2 (n:Js) (g:Int) (m:LI) (e:PTz12) (l:LI) (k:Int→Option (Sum Unit Unit)) (h:Int):Option (Sum Unit Unit):=
 bif (decide (h<2)) then
 Ey (0≤h∧h<2)<|
 pickF h
 [(D4 (f11 (n.1,n.2) g m (e.1,e.2.1,e.2.2)) fun i=>
 D4 (f13 (n.1,n.2)) fun c=>
 D4 (f14 (e.1,e.2.1,e.2.2)) fun a=>
 D4 (f12 (c.1,c.2) g m (a.1,a.2.1,a.2.2)) fun b=>
 bif (i.2.1 != b.2.1) then
 some (Sum.inl ())
 else
 bif (i.1 != b.1) then
 some (Sum.inl ())
 else
 D4 (f15 i.2.2 b.2.2) fun d=>
 bif (!d) then
 some (Sum.inl ())
 else
 k (i64.wrap (h+1))),
 (D4 (f11 (n.1,n.2) g l (e.1,e.2.1,e.2.2)) fun j=>
 D4 (f13 (n.1,n.2)) fun c=>
 D4 (f14 (e.1,e.2.1,e.2.2)) fun a=>
 D4 (f12 (c.1,c.2) g l (a.1,a.2.1,a.2.2)) fun b=>
 bif (j.2.1 != b.2.1) then
 some (Sum.inl ())
 else
 bif (j.1 != b.1) then
 some (Sum.inl ())
 else
 D4 (f15 j.2.2 b.2.2) fun d=>
 bif (!d) then
 some (Sum.inl ())
 else
 k (i64.wrap (h+1)))]
 else
 some (Sum.inr ())
def f3 (n:Js) (a:Int) (c:LI) (e:PTz12):Option Bool:=
 D4 (f7) fun j=>
 bif (!j) then
 some false
 else
 D4 (f8 (n.1,n.2)) fun d=>
 D4 (f3_j1 c e d) fun o=>
 F5 o (fun m=>
 D4 (f10 c d.1) fun l=>
 D4 (Fp (fun k x=>f3_l2 n a c e l k x) Fq (0:Int)) fun b=>
 F5 b (fun g=>
 some false) (fun h=>
 some true)) (fun i=>
 some true)
instance H3 (n:Js) (c:Int) (p_:LI) (e:PTz12): HE 3 [.dat T2 n,.dat T0 c,.dat T4 p_,.dat T10 e] (f3 n c p_ e) (fun y=>[.dat .bool y]):=hd Tryz.f3 rfl fun y q=>by
 unfold f3 at q
 refine OL (OL (OL ?_))
 obtain ⟨r1,h,q⟩:=bE q
 refine cL h gW ?_
 refine AI rfl (AI (lQ rfl) (R2 (AI TV (AI TV (cI q (fun q=>?_) (fun q=>?_))))))
 ·refine OL ?_
  have p:=sE q
  subst p
  refine AI rfl (E4 [] (R2 (AI TV TV)))
 refine OL ?_
 obtain ⟨r2,h,q⟩:=bE q
 refine cL h gW ?_
 refine R3 (AI (lQ rfl) (R2 (AI TV (AI TV ?_))))
 obtain ⟨z4,w,q⟩:=bE q
 let h0:LH:=fun zz=>(0,.cells [(.d T4 n.1),(.d T3 n.2)])::(1,.cells [(.d T4 e.1),(.d T4 e.2.1),(.d T0 e.2.2)])::zz
 refine OQ ⟨Sum.elim (fun b2=>[(0,⟨[(1,.dat T0 c),(2,.dat T4 p_),(4,P0 0 0),(7,P0 1 0),(9,.dat T0 r2.1)],h0 [],2⟩)]) (fun b1=>[(1,⟨[(8,.dat .bool true)],[],0⟩)]) z4,?_,?_⟩
 ·have q:=w
  clear w
  unfold f3_j1 at q
  refine OL (cN q (fun q=>?_) (fun q=>?_))
  ·refine gY (gY (cF (cN q (fun q=>?_) (fun q=>?_))))
   ·refine gY ?_
    obtain ⟨r5,h,q⟩:=bE q
    refine cL h gW ?_
    refine R3 (AI (lQ rfl) (R2 (AI TV (AI TV (gY (cF (cI q (fun q=>?_) (fun q=>?_))))))))
    ·refine OL ?_
     have b:=sE q
     subst b
     refine E4 [] (R2 (AI TV TV))
    have b:=sE q
    subst b
    refine E4 I2 (R4 (AI (R2 TV) (R2 TV)))
   refine gN (gN (cT (cT (OL ?_))))
   have b:=sE q
   subst b
   refine E4 [] (R2 (AI TV TV))
  refine gN (gN (cT (gN (gN (gN (cT (cT (OL ?_))))))))
  have b:=sE q
  subst b
  refine E4 [] (R2 (AI TV TV))
 rcases z4 with b2 | b1
 ·dsimp only [F5] at q
  refine AI (OL (OL ?_)) TV
  obtain ⟨r6,h,q⟩:=bE q
  refine cL h gW ?_
  refine R3 (AI (lQ rfl) (R2 (AI TV (AI TV ?_))))
  obtain ⟨b0,h,q⟩:=bE q
  refine lJ h (fun x=>⟨[(1,.dat T0 c),(4,P0 0 0),(7,P0 1 0),(42,.raw true [(.d T4 p_),(.osl 2)]),(43,.dat T0 x)],h0 [(2,.arr 35 T0 r6)],3⟩) (fun z=>Sum.elim (fun za=>[(1,⟨[(8,.dat .bool false)],[],0⟩)]) (fun zb=>[(2,⟨[],[],0⟩)]) z) gV (fun m=>fun s z q=>?_) ?_
  ·have q:f3_l2 n c p_ e r6 _ s=some z:=q
   unfold f3_l2 at q
   refine OL (OL (cI q (fun q=>?_) (fun q=>?_)))
   ·refine OL (OL (gI q (fun q=>?_)))
    refine AI (fun d=>?_) ?_
    ·have q:=Jp q d
     dsimp only [nthO] at q
     refine OL ?_
     obtain ⟨b5,h,q⟩:=bE q
     refine cL h gW ?_
     refine R7 (AI (lQ rfl) (R2 (AI TV (AI TV (OL (EI (.take 0 (tU 2 3 (.alt 1 (.alt 5 (.alt 6 (tU 7 7 .done) .done) .done) .done))) (EI [] (EI [] (AI rfl (AI TV ?_))))))))))
     obtain ⟨v,k,q⟩:=bE q
     refine cL k gW ?_
     refine R3 (AI (lQ rfl) (R2 (AI TV (AI TV (AI TV ?_)))))
     obtain ⟨u,o,q⟩:=bE q
     refine cL o gW ?_
     refine R3 (AI (lQ rfl) (R2 (AI TV (AI TV (AI TV ?_)))))
     obtain ⟨t,j,q⟩:=bE q
     refine cL j gW ?_
     refine R7 (AI (lQ rfl) (R2 (AI TV (AI TV (OL (cN q (fun q=>?_) (fun q=>?_)))))))
     ·refine gY (gY (cF (cN q (fun q=>?_) (fun q=>?_))))
      ·refine gY (gY ?_)
       obtain ⟨l,i,q⟩:=bE q
       refine cL i gW ?_
       refine R3 (AI (lQ rfl) (R2 (AI TV (AI TV (gY (cF (cI q (fun q=>?_) (fun q=>?_))))))))
       ·refine OL ?_
        have b:=sE q
        subst b
        refine E4 [] (R2 (AI TV TV))
       refine EI (i64.wrap (s+1)) (AI q (E4 I3 (R3 (AI (R3 TV) (R3 TV)))))
      refine gN (gN (gN (cT (cT (OL ?_)))))
      have b:=sE q
      subst b
      refine E4 [] (R2 (AI TV TV))
     refine gN (gN (cT (gN (gN (gN (gN (cT (cT (OL ?_)))))))))
     have b:=sE q
     subst b
     refine E4 [] (R2 (AI TV TV))
    refine AI (fun d=>?_) TV
    have q:=Jp q d
    dsimp only [nthO] at q
    refine OL ?_
    obtain ⟨b6,h,q⟩:=bE q
    refine cL h gW ?_
    refine R7 (AI (lQ rfl) (R2 (AI TV (AI TV (OL (EI (.take 0 (tU 2 3 (.alt 1 (.alt 5 (.alt 6 (tU 7 7 .done) .done) .done) .done))) (EI [] (EI [] (AI rfl (AI TV ?_))))))))))
    obtain ⟨v,h,q⟩:=bE q
    refine cL h gW ?_
    refine R3 (AI (lQ rfl) (R2 (AI TV (AI TV (AI TV ?_)))))
    obtain ⟨u,h,q⟩:=bE q
    refine cL h gW ?_
    refine R3 (AI (lQ rfl) (R2 (AI TV (AI TV (AI TV ?_)))))
    obtain ⟨t,h,q⟩:=bE q
    refine cL h gW ?_
    refine R7 (AI (lQ rfl) (R2 (AI TV (AI TV (OL (cN q (fun q=>?_) (fun q=>?_)))))))
    ·refine gY (gY (cF (cN q (fun q=>?_) (fun q=>?_))))
     ·refine gY (gY ?_)
      obtain ⟨l,h,q⟩:=bE q
      refine cL h gW ?_
      refine R3 (AI (lQ rfl) (R2 (AI TV (AI TV (gY (cF (cI q (fun q=>?_) (fun q=>?_))))))))
      ·refine OL ?_
       have b:=sE q
       subst b
       refine E4 [] (R2 (AI TV TV))
      refine EI (i64.wrap (s+1)) (AI q (E4 I3 (R3 (AI (R3 TV) (R3 TV)))))
     refine gN (gN (gN (cT (cT (OL ?_)))))
     have b:=sE q
     subst b
     refine E4 [] (R2 (AI TV TV))
    refine gN (gN (cT (gN (gN (gN (gN (cT (cT (OL ?_)))))))))
    have b:=sE q
    subst b
    refine E4 [] (R2 (AI TV TV))
   have b:=sE q
   subst b
   refine E4 [] (AI rfl (AI TV TV))
  rcases b0 with b3 | b4
  ·dsimp only [F5] at q
   refine AI ?_ TV
   have p:=sE q
   subst p
   refine AI rfl (E4 [] (R2 (AI TV TV)))
  dsimp only [F5] at q
  refine AI (OL ?_) TV
  have p:=sE q
  subst p
  refine AI rfl (E4 [] (R2 (AI TV TV)))
 dsimp only [F5] at q
 refine AI ?_ TV
 have p:=sE q
 subst p
 refine AI rfl (E4 [] (R2 (AI TV TV)))
end Go.Proofs
