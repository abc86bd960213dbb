import Derived.Test.YtdnlicefpmiljaaGreatDoorModelSkipsS4
set_option linter.unusedVariables false
set_option maxRecDepth 100000
set_option maxHeartbeats 8000000
namespace Go.Proofs
open Go.AM
open IntKind (i64 u64 i32 u32 i16 u16 i8 u8)
def f79 (a:Int) : Option Int :=
 bindF (f56 (0:Int) a) fun r1 =>
 some r1
def C79 : Con where
 X := Int
 Y := Int
 e := 0
 args x := [.dat T1 x]
 hin x := []
 F x := f79 x
 ret y := [.dat T1 y]
 hout y := []
 nout := 0
theorem C79_vc (a:Int) (y:Int) (hF : f79 a = some y) : VC Tryz.f79 C79 a y := by
 unfold f79 at hF
 refine OL (OL ?_)
 obtain ⟨r1,hr1,hF⟩ := bindE hF
 refine OL (AI f56_in (callV0 (callI C56 ((0:Int),a) r1 [] false C56_holds hr1 rfl rfl (R2 (AI (fun h=>nomatch h) (R2 (AI TV (AI TV ?_))))))))
 have hy := someE hF
 subst hy
 refine AI rfl (E4 [] (R2 (AI TV TV)))
theorem C79_holds : C79.Holds Tryz.prog 79 := holds_of_vc tab_ok mixed (fn := Tryz.f79) (by kernel_rfl) rfl C79 (fun x y hF=>C79_vc x y hF)
theorem f79_in : InP 79 := ⟨Tryz.f79,by kernel_rfl,by kernel_rfl,by kernel_rfl⟩
def f52 (kind:Int) (x_:Int) : Option Int :=
 bif (kind == (1:Int)) then
 bif (decide (x_ < (0:Int))) then
 some (0:Int)
 else
 some x_
 else
 bif (kind == (2:Int)) then
 bif (decide (x_ > (0:Int))) then
 some x_
 else
 bindF (f78 (8:Int)) fun r1 =>
 bindF (f77 x_ r1) fun r2 =>
 some r2
 else
 bif (kind == (3:Int)) then
 bif (decide (x_ > (4294967296:Int))) then
 some (4294967296:Int)
 else
 bif (decide (x_ < (-4294967296:Int))) then
 some (-4294967296:Int)
 else
 some x_
 else
 bif (kind == (4:Int)) then
 bif (decide (x_ < (0:Int))) then
 bindF (f79 x_) fun r3 =>
 some r3
 else
 some x_
 else
 bindF (f78 (2:Int)) fun r4 =>
 bindF (f77 x_ r4) fun r5 =>
 bindF (f55 r5 (2147483648:Int)) fun r6 =>
 bif (decide (r6 < (0:Int))) then
 some (0:Int)
 else
 bif (decide (r6 > (4294967296:Int))) then
 some (4294967296:Int)
 else
 some r6
def C52 : Con where
 X := Int×Int
 Y := Int
 e := 0
 args x := [.dat T1 x.1,.dat T1 x.2]
 hin x := []
 F x := f52 x.1 x.2
 ret y := [.dat T1 y]
 hout y := []
 nout := 0
theorem C52_vc (kind:Int) (x_:Int) (y:Int) (hF : f52 kind x_ = some y) : VC Tryz.f52 C52 (kind,x_) y := by
 unfold f52 at hF
 refine OL (OL (OL (OL (condI hF (fun hF=>?_) (fun hF=>?_)))))
 ·refine OL (OL (condI hF (fun hF=>?_) (fun hF=>?_)))
  ·refine OL ?_
   have hy := someE hF
   subst hy
   refine AI rfl (E4 [] (R2 (AI TV TV)))
  refine OL ?_
  have hy := someE hF
  subst hy
  refine AI rfl (E4 [] (R2 (AI TV TV)))
 refine OL (condI hF (fun hF=>?_) (fun hF=>?_))
 ·refine OL (OL (condI hF (fun hF=>?_) (fun hF=>?_)))
  ·refine OL ?_
   have hy := someE hF
   subst hy
   refine AI rfl (E4 [] (R2 (AI TV TV)))
  refine OL ?_
  obtain ⟨r1,hr1,hF⟩ := bindE hF
  refine OL (AI f78_in (callV0 (callI C78 (8:Int) r1 [] false C78_holds hr1 rfl rfl (AI rfl (AI (fun h=>nomatch h) (R2 (AI TV (AI TV ?_))))))))
  obtain ⟨r2,hr2,hF⟩ := bindE hF
  refine OL (AI f77_in (callV0 (callI C77 (x_,r1) r2 [] false C77_holds hr2 rfl rfl (R2 (AI (fun h=>nomatch h) (R2 (AI TV (AI TV ?_))))))))
  have hy := someE hF
  subst hy
  refine AI rfl (E4 [] (R2 (AI TV TV)))
 refine OL (condI hF (fun hF=>?_) (fun hF=>?_))
 ·refine OL (OL (condI hF (fun hF=>?_) (fun hF=>?_)))
  ·refine OL ?_
   have hy := someE hF
   subst hy
   refine AI rfl (E4 [] (R2 (AI TV TV)))
  refine OL (OL (condI hF (fun hF=>?_) (fun hF=>?_)))
  ·refine OL ?_
   have hy := someE hF
   subst hy
   refine AI rfl (E4 [] (R2 (AI TV TV)))
  refine OL ?_
  have hy := someE hF
  subst hy
  refine AI rfl (E4 [] (R2 (AI TV TV)))
 refine OL (condI hF (fun hF=>?_) (fun hF=>?_))
 ·refine OL (OL (condI hF (fun hF=>?_) (fun hF=>?_)))
  ·refine OL ?_
   obtain ⟨r3,hr3,hF⟩ := bindE hF
   refine OL (AI f79_in (callV0 (callI C79 x_ r3 [] false C79_holds hr3 rfl rfl (AI rfl (AI (fun h=>nomatch h) (R2 (AI TV (AI TV ?_))))))))
   have hy := someE hF
   subst hy
   refine AI rfl (E4 [] (R2 (AI TV TV)))
  refine OL ?_
  have hy := someE hF
  subst hy
  refine AI rfl (E4 [] (R2 (AI TV TV)))
 refine OL ?_
 obtain ⟨r4,hr4,hF⟩ := bindE hF
 refine OL (AI f78_in (callV0 (callI C78 (2:Int) r4 [] false C78_holds hr4 rfl rfl (AI rfl (AI (fun h=>nomatch h) (R2 (AI TV (AI TV ?_))))))))
 obtain ⟨r5,hr5,hF⟩ := bindE hF
 refine OL (AI f77_in (callV0 (callI C77 (x_,r4) r5 [] false C77_holds hr5 rfl rfl (R2 (AI (fun h=>nomatch h) (R2 (AI TV (AI TV ?_))))))))
 obtain ⟨r6,hr6,hF⟩ := bindE hF
 refine OL (AI f55_in (callV0 (callI C55 (r5,(2147483648:Int)) r6 [] false C55_holds hr6 rfl rfl (R2 (AI (fun h=>nomatch h) (R2 (AI TV (AI TV (OL (OL (condI hF (fun hF=>?_) (fun hF=>?_))))))))))))
 ·refine OL ?_
  have hy := someE hF
  subst hy
  refine AI rfl (E4 [] (R2 (AI TV TV)))
 refine OL (OL (condI hF (fun hF=>?_) (fun hF=>?_)))
 ·refine OL ?_
  have hy := someE hF
  subst hy
  refine AI rfl (E4 [] (R2 (AI TV TV)))
 refine OL ?_
 have hy := someE hF
 subst hy
 refine AI rfl (E4 [] (R2 (AI TV TV)))
theorem C52_holds : C52.Holds Tryz.prog 52 := holds_of_vc tab_ok mixed (fn := Tryz.f52) (by kernel_rfl) rfl C52 (fun x y hF=>C52_vc x.1 x.2 y hF)
theorem f52_in : InP 52 := ⟨Tryz.f52,by kernel_rfl,by kernel_rfl,by kernel_rfl⟩
def f29_j3 (kind:Int) (t : (List Int)×(List Int)) : Option Bool :=
 bif (decide (kind < (1:Int))) then
 some true
 else
 bif (decide (kind > (5:Int))) then
 some true
 else
 bindF (f51 (t.1,t.2)) fun r6 =>
 some (!r6)
def f29_j2 (kind:Int) (t : (List Int)×(List Int)) : Option (Sum Unit Unit) :=
 bindF (f29_j3 kind t) fun z5 =>
 bif z5 then
 some (Sum.inr ())
 else
 some (Sum.inl ())
def f29_l4 (kind:Int) (t : (List Int)×(List Int)) (go : (Int×(List Int)) → Option (List Int)) (i:Int) (l4 : List Int) : Option (List Int) :=
 bif (decide (i < (List.length l4:Int))) then
 guardF (0 ≤ i ∧ i < (List.length t.2:Int)) <|
 bindF (f52 kind (rd (0:Int) t.2 i)) fun q7_9 =>
 guardF (0 ≤ i ∧ i < (List.length l4:Int)) <|
 go ((i64.wrap (i + (1:Int))),(List.set l4 (Int.toNat i) q7_9))
 else
 some l4
def f29 (kind:Int) (t : (List Int)×(List Int)) : Option (Int×(List Int)×(List Int)) :=
 bindF (f29_j2 kind t) fun z3 =>
 sumF z3 (fun z3a =>
 bindF (f28 t.1 (0:Int)) fun r7 =>
 bindF (loopF (fun go x=>f29_l4 kind t go x.1 x.2) fuelN ((0:Int),r7.2)) fun z8 =>
 some ((0:Int),r7.1,z8)) (fun z3b =>
 some ((1:Int),[],[]))
def C29 : Con where
 X := Int×((List Int)×(List Int))
 Y := Int×(List Int)×(List Int)
 e := 0
 args x := [.dat T1 x.1,.dat T9 x.2]
 hin x := []
 F x := f29 x.1 x.2
 ret y := [.raw true [(.osl 0),(.osl 1)],.dat T1 y.1]
 hout y := [(0,.arr 3 T1 y.2.1),(1,.arr 57 T1 y.2.2)]
 nout := 2
theorem C29_vc (kind:Int) (t : (List Int)×(List Int)) (y : Int×(List Int)×(List Int)) (hF : f29 kind t = some y) : VC Tryz.f29 C29 (kind,t) y := by
 unfold f29 at hF
 refine OL ?_
 obtain ⟨z3,hz3,hF⟩ := bindE hF
 refine OQ ⟨Sum.elim (fun z3a=>[(0,⟨[(0,.dat T1 kind),(3,P0 0 0),(4,P0 1 0)],[(0,.cells [(.d T6 t.1),(.d T6 t.2)]),(1,.cells [N0,N0])],2⟩)]) (fun z3b=>[(1,⟨[(4,P0 0 0),(5,D0 1)],[(0,.cells [N0,N0])],1⟩)]) z3,?_,?_⟩
 ·have hF := hz3
  clear hz3
  unfold f29_j2 at hF
  obtain ⟨z5,hz5,hF⟩ := bindE hF
  refine OQ ⟨[(0,⟨[(0,.dat T1 kind),(3,P0 0 0),(4,P0 1 0),(18,.dat .bool z5)],[(0,.cells [(.d T6 t.1),(.d T6 t.2)]),(1,.cells [N0,N0])],2⟩)],?_,?_⟩
  ·have hF := hz5
   clear hz5
   unfold f29_j3 at hF
   refine condN hF (fun hF=>?_) (fun hF=>?_)
   ·refine gdYF (condF (condN hF (fun hF=>?_) (fun hF=>?_)))
    ·refine gdYF ?_
     obtain ⟨r6,hr6,hF⟩ := bindE hF
     refine OL (AI f51_in (callV0 (callI C51 (t.1,t.2) r6 [] false C51_holds hr6 rfl rfl (R2 (AI (fun h=>nomatch h) (R2 (AI TV (AI TV (gdYF (condF ?_))))))))))
     have hz := someE hF
     subst hz
     refine E4 [(0,some 0),(1,some 1)] (R3 (AI (R2 TV) (R2 TV)))
    refine gdNF (gdNF (condT ?_))
    have hz := someE hF
    subst hz
    refine E4 [(0,some 0),(1,some 1)] (R3 (AI (R2 TV) (R2 TV)))
   refine gdNF (condT (gdNF (gdNF (gdNF (condT ?_)))))
   have hz := someE hF
   subst hz
   refine E4 [(0,some 0),(1,some 1)] (R3 (AI (R2 TV) (R2 TV)))
  refine AI (condI hF (fun hF=>?_) (fun hF=>?_)) TV
  ·refine OL (OL ?_)
   have hz := someE hF
   subst hz
   refine E4 [(0,some 1)] (R2 (AI (AI rfl TV) (AI rfl TV)))
  have hz := someE hF
  subst hz
  refine E4 [(0,some 0),(1,some 1)] (R2 (AI (R2 TV) (R2 TV)))
 rcases z3 with z3a | z3b
 ·dsimp only [sumF] at hF
  refine AI (OL ?_) TV
  obtain ⟨r7,hr7,hF⟩ := bindE hF
  refine OL (AI f28_in (callV0 (callI C28 (t.1,(0:Int)) r7 [] false C28_holds hr7 rfl rfl (R2 (AI (fun h=>nomatch h) (R2 (AI TV (AI TV (OL (OL (OL ?_)))))))))))
  obtain ⟨z8,hz8,hF⟩ := bindE hF
  refine loopI (Int×(List Int)) (List Int) (fun x=>⟨[(0,.dat T1 kind),(3,P0 0 0),(4,P0 1 0),(6,P0 2 0),(7,.dat T1 x.1)],[(0,.cells [(.d T6 t.1),(.d T6 t.2)]),(1,.cells [N0,N0]),(2,.cells [(.osl 3),(.osl 4)]),(3,.arr 3 T1 r7.1),(4,.arr 57 T1 x.2)],5⟩) (fun z=>[(2,⟨[(4,P0 0 0),(6,P0 1 0)],[(0,.cells [N0,N0]),(1,.cells [(.osl 2),(.osl 3)]),(2,.arr 3 T1 r7.1),(3,.arr 57 T1 z)],4⟩)]) (loopF (fun go x=>f29_l4 kind t go x.1 x.2)) fuelN ((0:Int),r7.2) z8 (AI hz8 (AI (E4 [(0,some 0),(1,some 1),(2,some 4),(3,some 2),(4,some 3)] (R3 (AI (R3 TV) (R5 TV)))) (AI (fun _ _ h=>loopZ h) (AI (fun m=>curI (fun i=>fun l4 z hF=>?_)) ?_))))
  ·have hF : f29_l4 kind t (loopF (fun go x=>f29_l4 kind t go x.1 x.2) m) i l4 = some z := hF
   unfold f29_l4 at hF
   refine OL (OL (condI hF (fun hF=>?_) (fun hF=>?_)))
   ·refine OL (EI (.take 0 (.take 1 (.take 2 (.take 3 (.take 4 (.take 5 (.take 6 (.take 7 (.take 8 (.alt 9 (.take 10 (.alt 11 .done .done)) .done)))))))))) (EI [] (EI [] (AI rfl (guardI hF (fun hF=>?_))))))
    refine AI TV ?_
    obtain ⟨q7_9,hq7_9,hF⟩ := bindE hF
    refine OL (AI f52_in (callV0 (callI C52 (kind,(rd (0:Int) t.2 i)) q7_9 [] false C52_holds hq7_9 rfl rfl (R2 (AI (fun h=>nomatch h) (R2 (AI TV (AI TV (guardI hF (fun hF=>?_))))))))))
    refine AI TV (OL (EI ((i64.wrap (i + (1:Int))),(List.set l4 (Int.toNat i) q7_9)) (AI hF (E4 [(0,some 0),(1,some 1),(2,some 2),(3,some 3),(4,some 4)] (R3 (AI (R3 TV) (R5 TV)))))))
   have hz := someE hF
   subst hz
   refine E4 [(0,some 1),(1,some 2),(2,some 3),(3,some 4)] (AI rfl (AI (R2 TV) (R4 TV)))
  refine AI (OL (OL ?_)) TV
  have hy := someE hF
  subst hy
  refine AI rfl (E4 [(0,some 2),(1,some 3)] (R2 (AI (AI rfl TV) (R2 TV))))
 dsimp only [sumF] at hF
 refine AI ?_ TV
 have hy := someE hF
 subst hy
 refine AI rfl (E4 [(0,none),(1,none)] (R2 (AI (AI rfl TV) (R2 TV))))
theorem C29_holds : C29.Holds Tryz.prog 29 := holds_of_vc tab_ok mixed (fn := Tryz.f29) (by kernel_rfl) rfl C29 (fun x y hF=>C29_vc x.1 x.2 y hF)
theorem f29_in : InP 29 := ⟨Tryz.f29,by kernel_rfl,by kernel_rfl,by kernel_rfl⟩
def f24_j1 (a : (List Int)×(List Int)) (b : (List Int)×(List Int)) : Option (Sum Unit Unit) :=
 bindF (f13 a.1 b.1) fun r2 =>
 bif (!r2) then
 some (Sum.inr ())
 else
 bif ((List.length a.2:Int) != (List.length b.2:Int)) then
 some (Sum.inr ())
 else
 some (Sum.inl ())
def f24_l2 (a : (List Int)×(List Int)) (b : (List Int)×(List Int)) (go : Int → Option (Sum Unit Unit)) (i:Int) : Option (Sum Unit Unit) :=
 bif (decide (i < (List.length a.2:Int))) then
 guardF (0 ≤ i ∧ i < (List.length a.2:Int)) <|
 guardF (0 ≤ i ∧ i < (List.length b.2:Int)) <|
 bif ((rd (0:Int) a.2 i) != (rd (0:Int) b.2 i)) then
 some (Sum.inl ())
 else
 go (i64.wrap (i + (1:Int)))
 else
 some (Sum.inr ())
def f24 (a : (List Int)×(List Int)) (b : (List Int)×(List Int)) : Option Bool :=
 bindF (f24_j1 a b) fun z1 =>
 sumF z1 (fun z1a =>
 bindF (loopF (fun go x=>f24_l2 a b go x) fuelN (0:Int)) fun z3 =>
 sumF z3 (fun z3a =>
 some false) (fun z3b =>
 some true)) (fun z1b =>
 some false)
def C24 : Con where
 X := ((List Int)×(List Int))×((List Int)×(List Int))
 Y := Bool
 e := 0
 args x := [.dat T9 x.1,.dat T9 x.2]
 hin x := []
 F x := f24 x.1 x.2
 ret y := [.dat .bool y]
 hout y := []
 nout := 0
theorem C24_vc (a : (List Int)×(List Int)) (b : (List Int)×(List Int)) (y : Bool) (hF : f24 a b = some y) : VC Tryz.f24 C24 (a,b) y := by
 unfold f24 at hF
 refine OL ?_
 obtain ⟨z1,hz1,hF⟩ := bindE hF
 refine OQ ⟨Sum.elim (fun z1a=>[(0,⟨[(2,P0 0 0),(3,P0 1 0)],[(0,.cells [(.d T6 a.1),(.d T6 a.2)]),(1,.cells [(.d T6 b.1),(.d T6 b.2)])],2⟩)]) (fun z1b=>[(1,⟨[(4,.dat .bool false)],[],0⟩)]) z1,?_,?_⟩
 ·have hF := hz1
  clear hz1
  unfold f24_j1 at hF
  refine OL ?_
  obtain ⟨r2,hr2,hF⟩ := bindE hF
  refine OL (AI f13_in (callV0 (callI C13 (a.1,b.1) r2 [] false C13_holds hr2 rfl rfl (R2 (AI (fun h=>nomatch h) (R2 (AI TV (AI TV (condN hF (fun hF=>?_) (fun hF=>?_))))))))))
  ·refine gdYF (gdYF (gdYF (gdYF (gdYF (gdYF (condF (condI hF (fun hF=>?_) (fun hF=>?_))))))))
   ·refine OL ?_
    have hz := someE hF
    subst hz
    refine E4 [] (R2 (AI TV TV))
   have hz := someE hF
   subst hz
   refine E4 [(0,some 0),(1,some 1)] (AI rfl (AI (R2 TV) (R2 TV)))
  refine gdNF (gdNF (gdNF (gdNF (gdNF (gdNF (condT (condT (OL ?_))))))))
  have hz := someE hF
  subst hz
  refine E4 [] (R2 (AI TV TV))
 rcases z1 with z1a | z1b
 ·dsimp only [sumF] at hF
  refine AI (OL (OL ?_)) TV
  obtain ⟨z3,hz3,hF⟩ := bindE hF
  refine loopI Int (Sum Unit Unit) (fun x=>⟨[(2,P0 0 0),(3,P0 1 0),(5,.dat T1 x)],[(0,.cells [(.d T6 a.1),(.d T6 a.2)]),(1,.cells [(.d T6 b.1),(.d T6 b.2)])],2⟩) (fun z=>Sum.elim (fun za=>[(1,⟨[(4,.dat .bool false)],[],0⟩)]) (fun zb=>[(2,⟨[],[],0⟩)]) z) (loopF (fun go x=>f24_l2 a b go x)) fuelN (0:Int) z3 (AI hz3 (AI (E4 [(0,some 0),(1,some 1)] (R2 (AI (R2 TV) (R2 TV)))) (AI (fun _ _ h=>loopZ h) (AI (fun m=>fun i z hF=>?_) ?_))))
  ·have hF : f24_l2 a b (loopF (fun go x=>f24_l2 a b go x) m) i = some z := hF
   unfold f24_l2 at hF
   refine OL (OL (condI hF (fun hF=>?_) (fun hF=>?_)))
   ·refine OL (OL (EI (.take 0 (.take 1 (.take 2 (.take 3 (.take 4 (.take 5 (.take 6 (.take 7 (.take 8 (.take 9 (.take 10 .done))))))))))) (EI [] (EI [] (AI rfl (guardI hF (fun hF=>?_)))))))
    refine guardI hF (fun hF=>?_)
    refine condI hF (fun hF=>?_) (fun hF=>?_)
    ·refine OL ?_
     have hz := someE hF
     subst hz
     refine E4 [] (R2 (AI TV TV))
    refine EI (i64.wrap (i + (1:Int))) (AI hF (E4 [(0,some 0),(1,some 1)] (R2 (AI (R2 TV) (R2 TV)))))
   have hz := someE hF
   subst hz
   refine E4 [] (AI rfl (AI TV TV))
  rcases z3 with z3a | z3b
  ·dsimp only [sumF] at hF
   refine AI ?_ TV
   have hy := someE hF
   subst hy
   refine AI rfl (E4 [] (R2 (AI TV TV)))
  dsimp only [sumF] at hF
  refine AI (OL ?_) TV
  have hy := someE hF
  subst hy
  refine AI rfl (E4 [] (R2 (AI TV TV)))
 dsimp only [sumF] at hF
 refine AI ?_ TV
 have hy := someE hF
 subst hy
 refine AI rfl (E4 [] (R2 (AI TV TV)))
theorem C24_holds : C24.Holds Tryz.prog 24 := holds_of_vc tab_ok mixed (fn := Tryz.f24) (by kernel_rfl) rfl C24 (fun x y hF=>C24_vc x.1 x.2 y hF)
theorem f24_in : InP 24 := ⟨Tryz.f24,by kernel_rfl,by kernel_rfl,by kernel_rfl⟩
def f7_j1 (x_ : List Int) (kind:Int) : Option (Sum Unit Unit) :=
 bif (decide ((List.length x_:Int) < (1:Int))) then
 some (Sum.inr ())
 else
 bif (decide ((List.length x_:Int) > (40:Int))) then
 some (Sum.inr ())
 else
 bif (decide (kind < (1:Int))) then
 some (Sum.inr ())
 else
 bif (decide (kind > (5:Int))) then
 some (Sum.inr ())
 else
 some (Sum.inl ())
def f7 (x_ : List Int) (kind:Int) : Option Bool :=
 bindF (f9) fun r1 =>
 bif (!r1) then
 some false
 else
 bindF (f7_j1 x_ kind) fun z2 =>
 sumF z2 (fun z2a =>
 bindF (f20) fun r3 =>
 bindF (f21 ([]) ([(List.length x_:Int)],[((ByteArray.mk #[98,101,110,100]),kind,(0:Int)),((ByteArray.mk #[115,107,105,112]),(0:Int),(0:Int))]) ([]) x_) fun r4 =>
 bindF (f27 r4.2.2.2 r4.1) fun r5 =>
 bindF (f28 ([(List.length x_:Int)]) (0:Int)) fun r6 =>
 bindF (f29 kind (r6.1,(over r6.2 (0:Int) (List.take (Int.toNat (List.length r6.2:Int) - Int.toNat (0:Int)) x_)))) fun r7 =>
 bindF (f30 (0:Int) (r6.1,(over r6.2 (0:Int) (List.take (Int.toNat (List.length r6.2:Int) - Int.toNat (0:Int)) x_))) (r7.2.1,r7.2.2)) fun r8 =>
 bif (r4.2.1 == (0:Int)) then
 bif r5.1 then
 bif ((List.length r4.2.2.1:Int) == (0:Int)) then
 bindF (f24 (r5.2.1,r5.2.2.1) (r8.2.1,r8.2.2)) fun r9 =>
 some r9
 else
 some false
 else
 some false
 else
 some false) (fun z2b =>
 some true)
def C7 : Con where
 X := (List Int)×Int
 Y := Bool
 e := 0
 args x := [.dat T6 x.1,.dat T1 x.2]
 hin x := []
 F x := f7 x.1 x.2
 ret y := [.dat .bool y]
 hout y := []
 nout := 0
theorem C7_vc (x_ : List Int) (kind:Int) (y : Bool) (hF : f7 x_ kind = some y) : VC Tryz.f7 C7 (x_,kind) y := by
 unfold f7 at hF
 refine OL (OL (OL ?_))
 obtain ⟨r1,hr1,hF⟩ := bindE hF
 refine OL (AI f9_in (callV0 (callI C9 () r1 [] false C9_holds hr1 rfl rfl (AI (fun h=>nomatch h) (R2 (AI TV (AI TV (condI hF (fun hF=>?_) (fun hF=>?_)))))))))
 ·refine OL ?_
  have hy := someE hF
  subst hy
  refine AI rfl (E4 [] (R2 (AI TV TV)))
 obtain ⟨z2,hz2,hF⟩ := bindE hF
 refine OQ ⟨Sum.elim (fun z2a=>[(0,⟨[(0,.dat T6 x_),(1,.dat T1 kind)],[],0⟩)]) (fun z2b=>[(1,⟨[(4,.dat .bool true)],[],0⟩)]) z2,?_,?_⟩
 ·have hF := hz2
  clear hz2
  unfold f7_j1 at hF
  refine OL (condN hF (fun hF=>?_) (fun hF=>?_))
  ·refine gdYF (gdYF (condF (condN hF (fun hF=>?_) (fun hF=>?_))))
   ·refine gdYF (condF (condN hF (fun hF=>?_) (fun hF=>?_)))
    ·refine gdYF (condF (condI hF (fun hF=>?_) (fun hF=>?_)))
     ·refine OL ?_
      have hz := someE hF
      subst hz
      refine E4 [] (R2 (AI TV TV))
     have hz := someE hF
     subst hz
     refine E4 [] (R3 (AI TV TV))
    refine gdNF (condT (condT (OL ?_)))
    have hz := someE hF
    subst hz
    refine E4 [] (R2 (AI TV TV))
   refine gdNF (condT (gdNF (gdNF (condT (condT (OL ?_))))))
   have hz := someE hF
   subst hz
   refine E4 [] (R2 (AI TV TV))
  refine gdNF (gdNF (condT (gdNF (gdNF (condT (gdNF (gdNF (condT (condT (OL ?_))))))))))
  have hz := someE hF
  subst hz
  refine E4 [] (R2 (AI TV TV))
 rcases z2 with z2a | z2b
 ·dsimp only [sumF] at hF
  refine AI (OL ?_) TV
  obtain ⟨r3,hr3,hF⟩ := bindE hF
  refine OL (AI f20_in (callV0 (callI C20 () r3 [] false C20_holds hr3 rfl rfl (AI (fun h=>nomatch h) (R2 (AI TV (AI TV (OL (OL (OL ?_))))))))))
  obtain ⟨r4,hr4,hF⟩ := bindE hF
  refine OL (AI f21_in (callV0 (callI C21 ([],([(List.length x_:Int)],[((ByteArray.mk #[98,101,110,100]),kind,(0:Int)),((ByteArray.mk #[115,107,105,112]),(0:Int),(0:Int))]),[],x_) r4 [(0,some 0),(1,some 1)] false C21_holds hr4 rfl rfl (R4 (AI (fun h=>nomatch h) (R2 (AI (AI rfl TV) (AI (R2 TV) (OL ?_)))))))))
  obtain ⟨r5,hr5,hF⟩ := bindE hF
  refine OL (AI f27_in (callV0 (callI C27 (r4.2.2.2,r4.1) r5 [(0,some 0),(1,some 7)] false C27_holds hr5 rfl rfl (AI rfl (AI (fun h=>nomatch h) (R2 (AI (AI rfl TV) (AI (R2 TV) (OL (OL (OL ?_)))))))))))
  obtain ⟨r6,hr6,hF⟩ := bindE hF
  refine OL (AI f28_in (callV0 (callI C28 ([(List.length x_:Int)],(0:Int)) r6 [] true C28_holds hr6 rfl rfl (R2 (AI (fun _=>rfl) (R2 (AI TV (AI TV (OL (OL (OL ?_)))))))))))
  obtain ⟨r7,hr7,hF⟩ := bindE hF
  refine OL (AI f29_in (callV0 (callI C29 (kind,(r6.1,(over r6.2 (0:Int) (List.take (Int.toNat (List.length r6.2:Int) - Int.toNat (0:Int)) x_)))) r7 [] true C29_holds hr7 rfl rfl (R3 (AI (fun _=>rfl) (R2 (AI TV (AI TV (OL (OL ?_))))))))))
  obtain ⟨r8,hr8,hF⟩ := bindE hF
  refine OL (AI f30_in (callV0 (callI C30 ((0:Int),(r6.1,(over r6.2 (0:Int) (List.take (Int.toNat (List.length r6.2:Int) - Int.toNat (0:Int)) x_))),(r7.2.1,r7.2.2)) r8 [] true C30_holds hr8 rfl rfl (R5 (AI (fun _=>rfl) (R2 (AI TV (AI TV (OL (OL (condI hF (fun hF=>?_) (fun hF=>?_))))))))))))
  ·refine condT (condI hF (fun hF=>?_) (fun hF=>?_))
   ·refine gdYT (gdYT (condT (condI hF (fun hF=>?_) (fun hF=>?_))))
    ·refine gdYT (gdYT ?_)
     obtain ⟨r9,hr9,hF⟩ := bindE hF
     refine OL (AI f24_in (callV0 (callI C24 ((r5.2.1,r5.2.2.1),(r8.2.1,r8.2.2)) r9 [] true C24_holds hr9 rfl rfl (R4 (AI (fun _=>rfl) (R2 (AI TV (AI TV (condT ?_)))))))))
     have hy := someE hF
     subst hy
     refine AI rfl (E4 [] (R2 (AI TV TV)))
    refine gdNT (gdNT (condF ?_))
    have hy := someE hF
    subst hy
    refine AI rfl (E4 [] (R2 (AI TV TV)))
   refine gdNT (gdNT (condF (gdNT (gdNT (gdNT (condF ?_))))))
   have hy := someE hF
   subst hy
   refine AI rfl (E4 [] (R2 (AI TV TV)))
  refine condF (gdNT (gdNT (gdNT (condF (gdNT (gdNT (gdNT (condF ?_))))))))
  have hy := someE hF
  subst hy
  refine AI rfl (E4 [] (R2 (AI TV TV)))
 dsimp only [sumF] at hF
 refine AI ?_ TV
 have hy := someE hF
 subst hy
 refine AI rfl (E4 [] (R2 (AI TV TV)))
theorem C7_holds : C7.Holds Tryz.prog 7 := holds_of_vc tab_ok mixed (fn := Tryz.f7) (by kernel_rfl) rfl C7 (fun x y hF=>C7_vc x.1 x.2 y hF)
theorem f7_in : InP 7 := ⟨Tryz.f7,by kernel_rfl,by kernel_rfl,by kernel_rfl⟩
end Go.Proofs
