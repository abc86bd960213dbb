import Derived.Test.YtoicgngppmpapaaGreatGradTurnsS4
set_option linter.unusedVariables false
set_option maxRecDepth 100000
set_option maxHeartbeats 8000000
namespace Go.Proofs
open Go.AM
open IntKind (i64 u64 i32 u32 i16 u16 i8 u8)
def f79_j54 (n : LI×(List (ByteArray×Int×Int))) (great : Bool) (i:Int) (r74:Int) : Option Bool :=
 bif great then
 some true
 else
 some (decide ((i64.wrap ((((rd (Ty.z T6) n.2 i).2).1) * r74)) > (4096:Int)))
def f79_j57 (n : LI×(List (ByteArray×Int×Int))) (i:Int) (l1 : List LI) : Option Bool :=
 bif ((List.length (rd (Ty.z T1) l1 (i64.wrap ((List.length l1:Int) - (1:Int)))):Int) != (2:Int)) then
 some true
 else
 guardF (0 ≤ (1:Int) ∧ (1:Int) < (List.length (rd (Ty.z T1) l1 (i64.wrap ((List.length l1:Int) - (1:Int)))):Int)) <|
 some (decide ((((rd (Ty.z T6) n.2 i).2).2) > (rd (0:Int) (rd (Ty.z T1) l1 (i64.wrap ((List.length l1:Int) - (1:Int)))) (1:Int))))
def f79_j56 (n : LI×(List (ByteArray×Int×Int))) (i:Int) (l1 : List LI) : Option (Sum Unit Unit) :=
 bindF (f79_j57 n i l1) fun z78 =>
 bif z78 then
 some (Sum.inr ())
 else
 some (Sum.inl ())
def f79_j58 (n : LI×(List (ByteArray×Int×Int))) (great : Bool) (i:Int) (l1 : List LI) : Option Bool :=
 bif great then
 some true
 else
 guardF (0 ≤ (0:Int) ∧ (0:Int) < (List.length (rd (Ty.z T1) l1 (i64.wrap ((List.length l1:Int) - (1:Int)))):Int)) <|
 some (decide ((i64.wrap ((i64.wrap ((((rd (Ty.z T6) n.2 i).2).1) * (rd (0:Int) (rd (Ty.z T1) l1 (i64.wrap ((List.length l1:Int) - (1:Int)))) (0:Int)))) * (((rd (Ty.z T6) n.2 i).2).2))) > (4096:Int)))
def f79_j61 (n : LI×(List (ByteArray×Int×Int))) (i:Int) (l1 : List LI) : Option Bool :=
 bif ((List.length (rd (Ty.z T1) l1 (i64.wrap ((List.length l1:Int) - (1:Int)))):Int) != (2:Int)) then
 some true
 else
 guardF (0 ≤ (1:Int) ∧ (1:Int) < (List.length (rd (Ty.z T1) l1 (i64.wrap ((List.length l1:Int) - (1:Int)))):Int)) <|
 some (decide ((((rd (Ty.z T6) n.2 i).2).1) > (rd (0:Int) (rd (Ty.z T1) l1 (i64.wrap ((List.length l1:Int) - (1:Int)))) (1:Int))))
def f79_j60 (n : LI×(List (ByteArray×Int×Int))) (i:Int) (l1 : List LI) : Option (Sum Unit Unit) :=
 bindF (f79_j61 n i l1) fun z82 =>
 bif z82 then
 some (Sum.inr ())
 else
 some (Sum.inl ())
def f79_j62 (n : LI×(List (ByteArray×Int×Int))) (i:Int) (l1 : List LI) : Option Bool :=
 bif (i == (0:Int)) then
 some true
 else
 guardF (0 ≤ (i64.wrap (i - (1:Int))) ∧ (i64.wrap (i - (1:Int))) < (List.length n.2:Int)) <|
 bif (ByteArray.toList ((rd (Ty.z T6) n.2 (i64.wrap (i - (1:Int)))).1) == ByteArray.toList (ByteArray.mk #[115,107,105,112])) then
 some true
 else
 guardF (0 ≤ (i64.wrap ((List.length l1:Int) - (2:Int))) ∧ (i64.wrap ((List.length l1:Int) - (2:Int))) < (List.length l1:Int)) <|
 bindF (f73 (rd (Ty.z T1) l1 (i64.wrap ((List.length l1:Int) - (2:Int)))) (rd (Ty.z T1) l1 (i64.wrap ((List.length l1:Int) - (1:Int))))) fun r85 =>
 some (!r85)
def f79_j53 (n : LI×(List (ByteArray×Int×Int))) (all:Int) (great : Bool) (i:Int) (l1 : List LI) : Option (Sum (Int×Bool×LI) Unit) :=
 bif (ByteArray.toList ((rd (Ty.z T6) n.2 i).1) == ByteArray.toList (ByteArray.mk #[100,101,110,115,101])) then
 bindF (f133 (rd (Ty.z T1) l1 (i64.wrap ((List.length l1:Int) - (1:Int))))) fun r74 =>
 bindF (f79_j54 n great i r74) fun z75 =>
 some (Sum.inl ((i64.wrap ((i64.wrap (all + (i64.wrap ((((rd (Ty.z T6) n.2 i).2).1) * r74)))) + (((rd (Ty.z T6) n.2 i).2).1))),z75,[((rd (Ty.z T6) n.2 i).2).1]))
 else
 bif (ByteArray.toList ((rd (Ty.z T6) n.2 i).1) == ByteArray.toList (ByteArray.mk #[99,111,110,118])) then
 bindF (f79_j56 n i l1) fun z77 =>
 sumF z77 (fun z77a =>
 bindF (f79_j58 n great i l1) fun z79 =>
 guardF (0 ≤ (0:Int) ∧ (0:Int) < (List.length (rd (Ty.z T1) l1 (i64.wrap ((List.length l1:Int) - (1:Int)))):Int)) <|
 guardF (0 ≤ (1:Int) ∧ (1:Int) < (List.length (rd (Ty.z T1) l1 (i64.wrap ((List.length l1:Int) - (1:Int)))):Int)) <|
 some (Sum.inl ((i64.wrap (all + (i64.wrap ((i64.wrap ((((rd (Ty.z T6) n.2 i).2).1) * (rd (0:Int) (rd (Ty.z T1) l1 (i64.wrap ((List.length l1:Int) - (1:Int)))) (0:Int)))) * (((rd (Ty.z T6) n.2 i).2).2))))),z79,[((rd (Ty.z T6) n.2 i).2).1,(i64.wrap ((i64.wrap ((rd (0:Int) (rd (Ty.z T1) l1 (i64.wrap ((List.length l1:Int) - (1:Int)))) (1:Int)) - (((rd (Ty.z T6) n.2 i).2).2))) + (1:Int)))]))) (fun z77b =>
 some (Sum.inr ()))
 else
 bif (ByteArray.toList ((rd (Ty.z T6) n.2 i).1) == ByteArray.toList (ByteArray.mk #[112,111,111,108])) then
 bindF (f79_j60 n i l1) fun z81 =>
 sumF z81 (fun z81a =>
 guardF (0 ≤ (0:Int) ∧ (0:Int) < (List.length (rd (Ty.z T1) l1 (i64.wrap ((List.length l1:Int) - (1:Int)))):Int)) <|
 guardF (0 ≤ (1:Int) ∧ (1:Int) < (List.length (rd (Ty.z T1) l1 (i64.wrap ((List.length l1:Int) - (1:Int)))):Int)) <|
 guardF ((((rd (Ty.z T6) n.2 i).2).1) ≠ 0) <|
 some (Sum.inl (all,great,[(rd (0:Int) (rd (Ty.z T1) l1 (i64.wrap ((List.length l1:Int) - (1:Int)))) (0:Int)),(i64.wrap (Int.tdiv (rd (0:Int) (rd (Ty.z T1) l1 (i64.wrap ((List.length l1:Int) - (1:Int)))) (1:Int)) (((rd (Ty.z T6) n.2 i).2).1)))]))) (fun z81b =>
 some (Sum.inr ()))
 else
 bif (ByteArray.toList ((rd (Ty.z T6) n.2 i).1) == ByteArray.toList (ByteArray.mk #[115,107,105,112])) then
 bindF (f79_j62 n i l1) fun z84 =>
 bif z84 then
 some (Sum.inr ())
 else
 some (Sum.inl (all,great,(rd (Ty.z T1) l1 (i64.wrap ((List.length l1:Int) - (1:Int))))))
 else
 some (Sum.inl (all,great,(rd (Ty.z T1) l1 (i64.wrap ((List.length l1:Int) - (1:Int))))))
def f79_j63 (z73a : Int×Bool×LI) : Option Bool :=
 bif z73a.2.1 then
 some true
 else
 bindF (f133 z73a.2.2) fun r88 =>
 some (decide (r88 > (4096:Int)))
def f79_j64 (z73a : Int×Bool×LI) (z87 : Bool) : Option (Int×Bool) :=
 bif (decide (z73a.1 > (4096:Int))) then
 some ((4097:Int),true)
 else
 some (z73a.1,z87)
def f79_l43 (n : LI×(List (ByteArray×Int×Int))) (go : (Int×Bool×Int×(List LI)) → Option (Sum Unit (Int×Bool×(List LI)))) (all:Int) (great : Bool) (i:Int) (l1 : List LI) : Option (Sum Unit (Int×Bool×(List LI))) :=
 bif (decide (i < (List.length n.2:Int))) then
 guardF (0 ≤ (i64.wrap ((List.length l1:Int) - (1:Int))) ∧ (i64.wrap ((List.length l1:Int) - (1:Int))) < (List.length l1:Int)) <|
 guardF (0 ≤ i ∧ i < (List.length n.2:Int)) <|
 bindF (f79_j53 n all great i l1) fun z73 =>
 sumF z73 (fun z73a =>
 bindF (f79_j63 z73a) fun z87 =>
 bindF (f79_j64 z73a z87) fun z89 =>
 guardF ((List.length ([] : LI) + List.length z73a.2.2) * 8 ≤ 140737488355328) <|
 guardF ((List.length l1 + List.length ([(([] : LI) ++ z73a.2.2)])) * 24 ≤ 140737488355328) <|
 go (z89.1,z89.2,(i64.wrap (i + (1:Int))),(l1 ++ ([(([] : LI) ++ z73a.2.2)])))) (fun z73b =>
 some (Sum.inl ()))
 else
 some (Sum.inr (all,great,l1))
def f79_j67 (n : LI×(List (ByteArray×Int×Int))) (z60b : Int×Bool×(List LI)) : Option Bool :=
 bif z60b.2.1 then
 some true
 else
 bindF (f133 n.1) fun r96 =>
 some (decide (r96 > (4096:Int)))
def f79_j66 (n : LI×(List (ByteArray×Int×Int))) (z60b : Int×Bool×(List LI)) : Option (Sum Unit Unit) :=
 bindF (f79_j67 n z60b) fun z95 =>
 bif z95 then
 some (Sum.inr ())
 else
 some (Sum.inl ())
def f79 (n : LI×(List (ByteArray×Int×Int))) : Option (Int×Int×(List LI)) :=
 bindF (f132 (n.1,n.2)) fun r1 =>
 bif (!r1) then
 some ((0:Int),(1:Int),[])
 else
 guardF ((List.length ([] : LI) + List.length n.1) * 8 ≤ 140737488355328) <|
 bindF (loopF (fun go x=>f79_l43 n go x.1 x.2.1 x.2.2.1 x.2.2.2) fuelN ((0:Int),(decide ((List.length n.2:Int) > (16:Int))),(0:Int),[(([] : LI) ++ n.1)])) fun z60 =>
 sumF z60 (fun z60a =>
 some ((0:Int),(4:Int),[])) (fun z60b =>
 bindF (f79_j66 n z60b) fun z93 =>
 sumF z93 (fun z93a =>
 some (z60b.1,(0:Int),z60b.2.2)) (fun z93b =>
 some ((0:Int),(2:Int),[])))
def C79 : Con where
 X := LI×(List (ByteArray×Int×Int))
 Y := Int×Int×(List LI)
 e := 0
 args x := [.dat T7 x]
 hin x := []
 F x := f79 x
 ret y := [O0 0,.dat T2 y.1,.dat T2 y.2.1]
 hout y := [(0,.arr 33 T1 y.2.2)]
 nout := 1
theorem C79_vc (n : LI×(List (ByteArray×Int×Int))) (y : Int×Int×(List LI)) (q : f79 n = some y) : VC Tryz.f79 C79 n y := by
 unfold f79 at q
 refine OL (OL (OL ?_))
 obtain ⟨r1,hr1,q⟩ := bE q
 refine OL (AI f132_in (cV (cQ C132 (n.1,n.2) r1 [] false C132_holds hr1 rfl rfl (R2 (K0 (cI q (fun q=>?_) (fun q=>?_)))))))
 ·cases sE q
  refine OL (AI rfl (E4 [(0,none)] (R3 (AJ (AI rfl TV)))))
 refine OL (OL (OL (gI q (fun q=>?_))))
 refine OL (OL (EI (.take 0 (.take 1 (.take 2 (.take 3 (.take 4 (.take 5 .done)))))) (EI [] (EI [] (AI rfl (OL (OL ?_)))))))
 obtain ⟨z60,hz60,q⟩ := bE q
 refine lI (Int×Bool×Int×(List LI)) (Sum Unit (Int×Bool×(List LI))) (fun x=>⟨[(1,P0 0 0),(5,O0 1),(6,.dat T2 x.1),(7,.dat .bool x.2.1),(8,.dat T2 x.2.2.1)],[(0,.cells [(.d T1 n.1),(.d T8 n.2)]),(1,.arr 33 T1 x.2.2.2)],2⟩) (fun z=>Sum.elim (fun za=>[(1,⟨[(2,.raw false [N0]),(3,D0 0),(4,D0 4)],[],0⟩)]) (fun zb=>[(2,⟨[(1,P0 0 0),(5,O0 1),(6,.dat T2 zb.1),(7,.dat .bool zb.2.1)],[(0,.cells [(.d T1 n.1),(.d T8 n.2)]),(1,.arr 33 T1 zb.2.2)],2⟩)]) z) (loopF (fun go x=>f79_l43 n go x.1 x.2.1 x.2.2.1 x.2.2.2)) fuelN ((0:Int),(decide ((List.length n.2:Int) > (16:Int))),(0:Int),[(([] : LI) ++ n.1)]) z60 (AI hz60 (AI (E4 [(0,some 0),(1,some 3)] (R4 (AI (R2 TV) (R2 TV)))) (AI (fun _ _ h=>lZ h) (AI (fun m=>curI (fun all=>curI (fun great=>curI (fun i=>fun l1 z q=>?_)))) ?_))))
 ·have q : f79_l43 n (loopF (fun go x=>f79_l43 n go x.1 x.2.1 x.2.2.1 x.2.2.2) m) all great i l1 = some z := q
  unfold f79_l43 at q
  refine OL (OL (cI q (fun q=>?_) (fun q=>?_)))
  ·refine OL (OL (gI q (fun q=>?_)))
   refine OL (gI q (fun q=>?_))
   refine OL ?_
   obtain ⟨z73,hz73,q⟩ := bE q
   refine OQ ⟨Sum.elim (fun z73a=>[(0,⟨[(1,P0 0 0),(5,O0 1),(6,.dat T2 z73a.1),(7,.dat .bool z73a.2.1),(8,.dat T2 i),(9,.dat T1 z73a.2.2)],[(0,.cells [(.d T1 n.1),(.d T8 n.2)]),(1,.arr 33 T1 l1)],2⟩)]) (fun z73b=>[(1,⟨[(2,.raw false [N0]),(3,D0 0),(4,D0 4)],[],0⟩)]) z73,?_,?_⟩
   ·have q := hz73
    clear hz73
    unfold f79_j53 at q
    refine OL (OL (cI q (fun q=>?_) (fun q=>?_)))
    ·refine OL ?_
     obtain ⟨r74,hr74,q⟩ := bE q
     refine OL (AI f133_in (cV (cQ C133 (rd (Ty.z T1) l1 (i64.wrap ((List.length l1:Int) - (1:Int)))) r74 [] false C133_holds hr74 rfl rfl (AI rfl (K0 ?_)))))
     obtain ⟨z75,hz75,q⟩ := bE q
     refine OQ ⟨[(0,⟨[(1,P0 0 0),(5,O0 1),(6,.dat T2 all),(7,.dat .bool z75),(8,.dat T2 i),(10,P0 2 0),(11,.dat T2 r74)],[(0,.cells [(.d T1 n.1),(.d T8 n.2)]),(1,.arr 33 T1 l1),(2,.cells [(.d .str ((rd (Ty.z T6) n.2 i).1)),(.d T2 (((rd (Ty.z T6) n.2 i).2).1)),(.d T2 (((rd (Ty.z T6) n.2 i).2).2))])],3⟩)],?_,?_⟩
     ·have q := hz75
      clear hz75
      unfold f79_j54 at q
      refine cN q (fun q=>?_) (fun q=>?_)
      ·refine gY (gY (gY (gY (cF ?_))))
       cases sE q
       refine E4 I3 (R5 (AI (R3 TV) (R3 TV)))
      refine gN (gN (gN (gN (cT ?_))))
      cases sE q
      refine E4 I3 (R5 (AI (R3 TV) (R3 TV)))
     refine AI (OL (OL ?_)) TV
     cases sE q
     refine E4 I2 (R5 (AI (R2 TV) (R2 TV)))
    refine OL (cI q (fun q=>?_) (fun q=>?_))
    ·obtain ⟨z77,hz77,q⟩ := bE q
     refine OQ ⟨Sum.elim (fun z77a=>[(0,⟨[(1,P0 0 0),(5,O0 1),(6,.dat T2 all),(7,.dat .bool great),(8,.dat T2 i),(9,.dat T1 (rd (Ty.z T1) l1 (i64.wrap ((List.length l1:Int) - (1:Int))))),(10,P0 2 0)],[(0,.cells [(.d T1 n.1),(.d T8 n.2)]),(1,.arr 33 T1 l1),(2,.cells [(.d .str ((rd (Ty.z T6) n.2 i).1)),(.d T2 (((rd (Ty.z T6) n.2 i).2).1)),(.d T2 (((rd (Ty.z T6) n.2 i).2).2))])],3⟩)]) (fun z77b=>[(1,⟨[(2,.raw false [N0]),(3,D0 0),(4,D0 4)],[],0⟩)]) z77,?_,?_⟩
     ·have q := hz77
      clear hz77
      unfold f79_j56 at q
      obtain ⟨z78,hz78,q⟩ := bE q
      refine OQ ⟨[(0,⟨[(1,P0 0 0),(5,O0 1),(6,.dat T2 all),(7,.dat .bool great),(8,.dat T2 i),(9,.dat T1 (rd (Ty.z T1) l1 (i64.wrap ((List.length l1:Int) - (1:Int))))),(10,P0 2 0),(80,.dat .bool z78)],[(0,.cells [(.d T1 n.1),(.d T8 n.2)]),(1,.arr 33 T1 l1),(2,.cells [(.d .str ((rd (Ty.z T6) n.2 i).1)),(.d T2 (((rd (Ty.z T6) n.2 i).2).1)),(.d T2 (((rd (Ty.z T6) n.2 i).2).2))])],3⟩)],?_,?_⟩
      ·have q := hz78
       clear hz78
       unfold f79_j57 at q
       refine EI (.take 0 (.take 1 (.take 2 (.take 3 (.take 4 (.take 5 (.take 6 (.take 7 (.take 8 (.take 9 (.take 10 .done))))))))))) (EI [] (EI [] (AI rfl (cN q (fun q=>?_) (fun q=>?_)))))
       ·refine gY (gY (gY (gI q (fun q=>?_))))
        refine gY (gY (cF ?_))
        cases sE q
        refine E4 I3 (R6 (AI (R3 TV) (R3 TV)))
       refine gN (gN (gN (gN (gN (cT ?_)))))
       cases sE q
       refine E4 I3 (R6 (AI (R3 TV) (R3 TV)))
      refine AI (cI q (fun q=>?_) (fun q=>?_)) TV
      ·cases sE q
       refine OL (E4 [] (R3 (AJ TV)))
      cases sE q
      refine E4 I3 (R5 (AI (R3 TV) (R3 TV)))
     rcases z77 with z77a | z77b
     ·dsimp only [sumF] at q
      refine AI ?_ TV
      obtain ⟨z79,hz79,q⟩ := bE q
      refine OQ ⟨[(0,⟨[(1,P0 0 0),(5,O0 1),(6,.dat T2 all),(7,.dat .bool z79),(8,.dat T2 i),(9,.dat T1 (rd (Ty.z T1) l1 (i64.wrap ((List.length l1:Int) - (1:Int))))),(10,P0 2 0)],[(0,.cells [(.d T1 n.1),(.d T8 n.2)]),(1,.arr 33 T1 l1),(2,.cells [(.d .str ((rd (Ty.z T6) n.2 i).1)),(.d T2 (((rd (Ty.z T6) n.2 i).2).1)),(.d T2 (((rd (Ty.z T6) n.2 i).2).2))])],3⟩)],?_,?_⟩
      ·have q := hz79
       clear hz79
       unfold f79_j58 at q
       refine EI (.take 0 (.take 1 (.take 2 (.take 3 (.take 4 (.take 5 (.take 6 (.take 7 (.take 8 (.take 9 (.take 10 (.take 11 (.take 12 (.take 13 .done)))))))))))))) (EI [] (EI [] (AI rfl (cN q (fun q=>?_) (fun q=>?_)))))
       ·refine gY (gY (gY (gI q (fun q=>?_))))
        refine gY (gY (gY (gY (gY (gY (cF ?_))))))
        cases sE q
        refine E4 I3 (R5 (AI (R3 TV) (R3 TV)))
       refine gN (gN (gN (gN (gN (gN (gN (gN (gN (cT ?_)))))))))
       cases sE q
       refine E4 I3 (R5 (AI (R3 TV) (R3 TV)))
      refine AI (OL (EI (.take 0 (.take 1 (.take 2 (.take 3 (.take 4 (.take 5 (.take 6 (.take 7 (.take 8 (.take 9 (.take 10 (.take 11 .done)))))))))))) (EI [] (EI [] (AI rfl (gI q (fun q=>?_))))))) TV
      refine EI (.take 0 (.take 1 (.take 2 (.take 3 (.take 4 (.take 5 (.take 6 (.take 7 (.take 8 (.alt 9 (.take 10 .done) .done)))))))))) (EI [] (EI [] (AI rfl (gI q (fun q=>?_)))))
      refine AI TV (OL ?_)
      cases sE q
      refine E4 I2 (R5 (AI (R2 TV) (R2 TV)))
     dsimp only [sumF] at q
     refine AI ?_ TV
     cases sE q
     refine E4 [] (R3 (AJ TV))
    refine OL (cI q (fun q=>?_) (fun q=>?_))
    ·obtain ⟨z81,hz81,q⟩ := bE q
     refine OQ ⟨Sum.elim (fun z81a=>[(0,⟨[(1,P0 0 0),(5,O0 1),(6,.dat T2 all),(7,.dat .bool great),(8,.dat T2 i),(9,.dat T1 (rd (Ty.z T1) l1 (i64.wrap ((List.length l1:Int) - (1:Int))))),(10,P0 2 0)],[(0,.cells [(.d T1 n.1),(.d T8 n.2)]),(1,.arr 33 T1 l1),(2,.cells [(.d .str ((rd (Ty.z T6) n.2 i).1)),(.d T2 (((rd (Ty.z T6) n.2 i).2).1)),(.d T2 (((rd (Ty.z T6) n.2 i).2).2))])],3⟩)]) (fun z81b=>[(1,⟨[(2,.raw false [N0]),(3,D0 0),(4,D0 4)],[],0⟩)]) z81,?_,?_⟩
     ·have q := hz81
      clear hz81
      unfold f79_j60 at q
      obtain ⟨z82,hz82,q⟩ := bE q
      refine OQ ⟨[(0,⟨[(1,P0 0 0),(5,O0 1),(6,.dat T2 all),(7,.dat .bool great),(8,.dat T2 i),(9,.dat T1 (rd (Ty.z T1) l1 (i64.wrap ((List.length l1:Int) - (1:Int))))),(10,P0 2 0),(127,.dat .bool z82)],[(0,.cells [(.d T1 n.1),(.d T8 n.2)]),(1,.arr 33 T1 l1),(2,.cells [(.d .str ((rd (Ty.z T6) n.2 i).1)),(.d T2 (((rd (Ty.z T6) n.2 i).2).1)),(.d T2 (((rd (Ty.z T6) n.2 i).2).2))])],3⟩)],?_,?_⟩
      ·have q := hz82
       clear hz82
       unfold f79_j61 at q
       refine EI (.take 0 (.take 1 (.take 2 (.take 3 (.take 4 (.take 5 (.take 6 (.take 7 (.take 8 (.take 9 (.take 10 .done))))))))))) (EI [] (EI [] (AI rfl (cN q (fun q=>?_) (fun q=>?_)))))
       ·refine gY (gY (gY (gI q (fun q=>?_))))
        refine gY (gY (cF ?_))
        cases sE q
        refine E4 I3 (R6 (AI (R3 TV) (R3 TV)))
       refine gN (gN (gN (gN (gN (cT ?_)))))
       cases sE q
       refine E4 I3 (R6 (AI (R3 TV) (R3 TV)))
      refine AI (cI q (fun q=>?_) (fun q=>?_)) TV
      ·cases sE q
       refine OL (E4 [] (R3 (AJ TV)))
      cases sE q
      refine E4 I3 (R5 (AI (R3 TV) (R3 TV)))
     rcases z81 with z81a | z81b
     ·dsimp only [sumF] at q
      refine AI (EI (.take 0 (.take 1 (.take 2 (.take 3 (.take 4 (.take 5 (.take 6 (.take 7 (.take 8 (.alt 9 (.take 10 .done) .done)))))))))) (EI [] (EI [] (AI rfl (gI q (fun q=>?_)))))) TV
      refine gI q (fun q=>?_)
      refine gI q (fun q=>?_)
      refine AI TV (OL ?_)
      cases sE q
      refine E4 I2 (R5 (AI (R2 TV) (R2 TV)))
     dsimp only [sumF] at q
     refine AI ?_ TV
     cases sE q
     refine E4 [] (R3 (AJ TV))
    refine OL (cI q (fun q=>?_) (fun q=>?_))
    ·obtain ⟨z84,hz84,q⟩ := bE q
     refine OQ ⟨[(0,⟨[(1,P0 0 0),(5,O0 1),(6,.dat T2 all),(7,.dat .bool great),(8,.dat T2 i),(9,.dat T1 (rd (Ty.z T1) l1 (i64.wrap ((List.length l1:Int) - (1:Int))))),(162,.dat .bool z84)],[(0,.cells [(.d T1 n.1),(.d T8 n.2)]),(1,.arr 33 T1 l1)],2⟩)],?_,?_⟩
     ·have q := hz84
      clear hz84
      unfold f79_j62 at q
      refine cN q (fun q=>?_) (fun q=>?_)
      ·refine gY (gY (gY (gY (gI q (fun q=>?_)))))
       refine gY (gY (gY (cF (cN q (fun q=>?_) (fun q=>?_)))))
       ·refine gY (gY (gY (gY (gI q (fun q=>?_)))))
        refine gY (gY (gY ?_))
        obtain ⟨r85,hr85,q⟩ := bE q
        refine OL (AI f73_in (cV (cQ C73 ((rd (Ty.z T1) l1 (i64.wrap ((List.length l1:Int) - (2:Int)))),(rd (Ty.z T1) l1 (i64.wrap ((List.length l1:Int) - (1:Int))))) r85 [] false C73_holds hr85 rfl rfl (R2 (K0 (gY (cF ?_)))))))
        cases sE q
        refine E4 I2 (R6 (AI (R2 TV) (R2 TV)))
       refine gN (gN (gN (gN (gN (gN (gN (gN (cT ?_))))))))
       cases sE q
       refine E4 I2 (R6 (AI (R2 TV) (R2 TV)))
      refine gN (gN (gN (gN (gN (gN (gN (cT (gN (gN (gN (gN (gN (gN (gN (gN (gN (cT ?_)))))))))))))))))
      cases sE q
      refine E4 I2 (R6 (AI (R2 TV) (R2 TV)))
     refine AI (cI q (fun q=>?_) (fun q=>?_)) TV
     ·cases sE q
      refine OL (E4 [] (R3 (AJ TV)))
     cases sE q
     refine E4 I2 (R5 (AI (R2 TV) (R2 TV)))
    cases sE q
    refine E4 I2 (R5 (AI (R2 TV) (R2 TV)))
   rcases z73 with z73a | z73b
   ·dsimp only [sumF] at q
    refine AI ?_ TV
    obtain ⟨z87,hz87,q⟩ := bE q
    refine OQ ⟨[(0,⟨[(1,P0 0 0),(5,O0 1),(6,.dat T2 z73a.1),(7,.dat .bool z87),(8,.dat T2 i),(9,.dat T1 z73a.2.2)],[(0,.cells [(.d T1 n.1),(.d T8 n.2)]),(1,.arr 33 T1 l1)],2⟩)],?_,?_⟩
    ·have q := hz87
     clear hz87
     unfold f79_j63 at q
     refine cN q (fun q=>?_) (fun q=>?_)
     ·refine gY ?_
      obtain ⟨r88,hr88,q⟩ := bE q
      refine OL (AI f133_in (cV (cQ C133 z73a.2.2 r88 [] false C133_holds hr88 rfl rfl (AI rfl (K0 (gY (cF ?_)))))))
      cases sE q
      refine E4 I2 (R5 (AI (R2 TV) (R2 TV)))
     refine gN (gN (cT ?_))
     cases sE q
     refine E4 I2 (R5 (AI (R2 TV) (R2 TV)))
    refine AI ?_ TV
    obtain ⟨z89,hz89,q⟩ := bE q
    refine OQ ⟨[(0,⟨[(1,P0 0 0),(5,O0 1),(6,.dat T2 z89.1),(7,.dat .bool z89.2),(8,.dat T2 i),(9,.dat T1 z73a.2.2)],[(0,.cells [(.d T1 n.1),(.d T8 n.2)]),(1,.arr 33 T1 l1)],2⟩)],?_,?_⟩
    ·have q := hz89
     clear hz89
     unfold f79_j64 at q
     refine OL (cI q (fun q=>?_) (fun q=>?_))
     ·cases sE q
      refine OL (E4 I2 (R5 (AI (R2 TV) (R2 TV))))
     cases sE q
     refine E4 I2 (R5 (AI (R2 TV) (R2 TV)))
    refine AI (OL (OL (gI q (fun q=>?_)))) TV
    refine OL (OL (gI q (fun q=>?_)))
    refine EI (z89.1,z89.2,(i64.wrap (i + (1:Int))),(l1 ++ ([(([] : LI) ++ z73a.2.2)]))) (AI q (E4 [(0,some 0),(1,some 5)] (R4 (AI (R2 TV) (R2 TV)))))
   dsimp only [sumF] at q
   refine AI ?_ TV
   cases sE q
   refine E4 [] (R3 (AJ TV))
  cases sE q
  refine E4 I2 (R3 (AI (R2 TV) (R2 TV)))
 rcases z60 with z60a | z60b
 ·dsimp only [sumF] at q
  refine AI ?_ TV
  cases sE q
  refine AI rfl (E4 [(0,none)] (R3 (AJ (AI rfl TV))))
 dsimp only [sumF] at q
 refine AI ?_ TV
 obtain ⟨z93,hz93,q⟩ := bE q
 refine OQ ⟨Sum.elim (fun z93a=>[(0,⟨[(5,O0 0),(6,.dat T2 z60b.1)],[(0,.arr 33 T1 z60b.2.2)],1⟩)]) (fun z93b=>[(1,⟨[(2,.raw false [N0]),(3,D0 0),(4,D0 2)],[],0⟩)]) z93,?_,?_⟩
 ·have q := hz93
  clear hz93
  unfold f79_j66 at q
  obtain ⟨z95,hz95,q⟩ := bE q
  refine OQ ⟨[(0,⟨[(5,O0 0),(6,.dat T2 z60b.1),(183,.dat .bool z95)],[(0,.arr 33 T1 z60b.2.2)],1⟩)],?_,?_⟩
  ·have q := hz95
   clear hz95
   unfold f79_j67 at q
   refine cN q (fun q=>?_) (fun q=>?_)
   ·refine gY (gY ?_)
    obtain ⟨r96,hr96,q⟩ := bE q
    refine OL (AI f133_in (cV (cQ C133 n.1 r96 [] false C133_holds hr96 rfl rfl (AI rfl (K0 (gY (cF ?_)))))))
    cases sE q
    refine E4 [(0,some 1)] (R3 (AJ (AI rfl TV)))
   refine gN (gN (gN (cT ?_)))
   cases sE q
   refine E4 [(0,some 1)] (R3 (AJ (AI rfl TV)))
  refine AI (cI q (fun q=>?_) (fun q=>?_)) TV
  ·cases sE q
   refine OL (E4 [] (R3 (AJ TV)))
  cases sE q
  refine E4 [(0,some 0)] (R2 (AJ (AI rfl TV)))
 rcases z93 with z93a | z93b
 ·dsimp only [sumF] at q
  refine AI (OL ?_) TV
  cases sE q
  refine AI rfl (E4 [(0,some 0)] (R3 (AJ (AI rfl TV))))
 dsimp only [sumF] at q
 refine AI ?_ TV
 cases sE q
 refine AI rfl (E4 [(0,none)] (R3 (AJ (AI rfl TV))))
theorem C79_holds : HP C79 79 := hH Tryz.f79 (by kernel_rfl) rfl (fun x y q=>C79_vc x y q)
theorem f79_in : InP 79 := inP (by kernel_rfl)
def f30_j1 (n : LI×(List (ByteArray×Int×Int))) : Option (Sum Unit Unit) :=
 bif (decide ((List.length n.1:Int) > (4:Int))) then
 some (Sum.inr ())
 else
 bif (decide ((List.length n.2:Int) > (6:Int))) then
 some (Sum.inr ())
 else
 some (Sum.inl ())
def f30 (n : LI×(List (ByteArray×Int×Int))) : Option (Int×Bool) :=
 bindF (f30_j1 n) fun z1 =>
 sumF z1 (fun z1a =>
 bindF (f35 (n.1,n.2)) fun r2 =>
 bindF (f79 (r2.1,r2.2)) fun r3 =>
 bif (r3.2.1 == (0:Int)) then
 some (r3.1,(decide (r3.1 ≤ (80:Int))))
 else
 some (r3.1,false)) (fun z1b =>
 some ((0:Int),false))
def C30 : Con where
 X := LI×(List (ByteArray×Int×Int))
 Y := Int×Bool
 e := 0
 args x := [.dat T7 x]
 hin x := []
 F x := f30 x
 ret y := [.dat T2 y.1,.dat .bool y.2]
 hout y := []
 nout := 0
theorem C30_vc (n : LI×(List (ByteArray×Int×Int))) (y : Int×Bool) (q : f30 n = some y) : VC Tryz.f30 C30 n y := by
 unfold f30 at q
 refine OL ?_
 obtain ⟨z1,hz1,q⟩ := bE q
 refine OQ ⟨Sum.elim (fun z1a=>[(0,⟨[(1,P0 0 0)],[(0,.cells [(.d T1 n.1),(.d T8 n.2)])],1⟩)]) (fun z1b=>[(1,⟨[(2,D0 0),(3,.dat .bool false)],[],0⟩)]) z1,?_,?_⟩
 ·have q := hz1
  clear hz1
  unfold f30_j1 at q
  refine OL (cN q (fun q=>?_) (fun q=>?_))
  ·refine gY (gY (gY (cF (cI q (fun q=>?_) (fun q=>?_)))))
   ·cases sE q
    refine OL (E4 [] (R3 (AI TV TV)))
   cases sE q
   refine E4 [(0,some 0)] (AI rfl (AJ (AI rfl TV)))
  refine gN (gN (gN (cT (cT (OL ?_)))))
  cases sE q
  refine E4 [] (R3 (AI TV TV))
 rcases z1 with z1a | z1b
 ·dsimp only [sumF] at q
  refine AI (OL ?_) TV
  obtain ⟨r2,hr2,q⟩ := bE q
  refine OL (AI f35_in (cV (cQ C35 (n.1,n.2) r2 [] false C35_holds hr2 rfl rfl (R2 (K0 ?_)))))
  obtain ⟨r3,hr3,q⟩ := bE q
  refine OL (AI f79_in (cV (cQ C79 (r2.1,r2.2) r3 [] false C79_holds hr3 rfl rfl (R2 (K0 (OL (cI q (fun q=>?_) (fun q=>?_))))))))
  ·refine gX (cT ?_)
   cases sE q
   refine AI rfl (E4 [] (R3 (AI TV TV)))
  refine gM (cF ?_)
  cases sE q
  refine AI rfl (E4 [] (R3 (AI TV TV)))
 dsimp only [sumF] at q
 refine AI ?_ TV
 cases sE q
 refine AI rfl (E4 [] (R3 (AI TV TV)))
theorem C30_holds : HP C30 30 := hH Tryz.f30 (by kernel_rfl) rfl (fun x y q=>C30_vc x y q)
theorem f30_in : InP 30 := inP (by kernel_rfl)
def f31 (e : LI×LI×Int) : Option Bool :=
 bif (decide ((List.length e.1:Int) ≤ (60:Int))) then
 some (decide ((List.length e.2.1:Int) ≤ (60:Int)))
 else
 some false
def C31 : Con where
 X := LI×LI×Int
 Y := Bool
 e := 0
 args x := [.dat T10 x]
 hin x := []
 F x := f31 x
 ret y := [.dat .bool y]
 hout y := []
 nout := 0
theorem C31_vc (e : LI×LI×Int) (y : Bool) (q : f31 e = some y) : VC Tryz.f31 C31 e y := by
 unfold f31 at q
 refine OL (OL (cI q (fun q=>?_) (fun q=>?_)))
 ·refine gX (gX (gX (cT ?_)))
  cases sE q
  refine AI rfl (E4 [] (R2 (AI TV TV)))
 refine gM (gM (gM (cF ?_)))
 cases sE q
 refine AI rfl (E4 [] (R2 (AI TV TV)))
theorem C31_holds : HP C31 31 := hH Tryz.f31 (by kernel_rfl) rfl (fun x y q=>C31_vc x y q)
theorem f31_in : InP 31 := inP (by kernel_rfl)
def f32_j4 (l : LI) (n:Int) (i:Int) : Option (Sum Unit Unit) :=
 bif (decide (i < n)) then
 bif (decide ((List.length l:Int) > (0:Int))) then
 some (Sum.inl ())
 else
 some (Sum.inr ())
 else
 some (Sum.inr ())
def f32_l3 (l : LI) (n:Int) (go : (Int×LI) → Option LI) (i:Int) (l0 : LI) : Option LI :=
 bindF (f32_j4 l n i) fun z4 =>
 sumF z4 (fun z4a =>
 guardF ((List.length l:Int) ≠ 0) <|
 guardF (0 ≤ (Int.tmod i (List.length l:Int)) ∧ (Int.tmod i (List.length l:Int)) < (List.length l:Int)) <|
 guardF (0 ≤ i ∧ i < (List.length l0:Int)) <|
 go ((i64.wrap (i + (1:Int))),(List.set l0 (Int.toNat i) (rd (0:Int) l (Int.tmod i (List.length l:Int)))))) (fun z4b =>
 some l0)
def f32 (l : LI) (n:Int) : Option LI :=
 guardF (0 ≤ n ∧ n ≤ n ∧ Int.toNat n * 8 ≤ 140737488355328) <|
 bindF (loopF (fun go x=>f32_l3 l n go x.1 x.2) fuelN ((0:Int),(List.replicate (Int.toNat n) (0:Int)))) fun z3 =>
 some z3
def C32 : Con where
 X := LI×Int
 Y := LI
 e := 0
 args x := [.dat T1 x.1,.dat T2 x.2]
 hin x := []
 F x := f32 x.1 x.2
 ret y := [O0 0]
 hout y := [(0,.arr 40 T2 y)]
 nout := 1
theorem C32_vc (l : LI) (n:Int) (y : LI) (q : f32 l n = some y) : VC Tryz.f32 C32 (l,n) y := by
 unfold f32 at q
 refine OL (OL (gI q (fun q=>?_)))
 refine OL (OL ?_)
 obtain ⟨z3,hz3,q⟩ := bE q
 refine lI (Int×LI) LI (fun x=>⟨[(0,.dat T1 l),(1,.dat T2 n),(5,O0 0),(6,.dat T2 x.1)],[(0,.arr 40 T2 x.2)],1⟩) (fun z=>[(2,⟨[(5,O0 0)],[(0,.arr 40 T2 z)],1⟩)]) (loopF (fun go x=>f32_l3 l n go x.1 x.2)) fuelN ((0:Int),(List.replicate (Int.toNat n) (0:Int))) z3 (AI hz3 (AI (E4 [(0,some 0)] (R4 (AJ (AI rfl TV)))) (AI (fun _ _ h=>lZ h) (AI (fun m=>curI (fun i=>fun l0 z q=>?_)) ?_))))
 ·have q : f32_l3 l n (loopF (fun go x=>f32_l3 l n go x.1 x.2) m) i l0 = some z := q
  unfold f32_l3 at q
  obtain ⟨z4,hz4,q⟩ := bE q
  refine OQ ⟨Sum.elim (fun z4a=>[(0,⟨[(0,.dat T1 l),(1,.dat T2 n),(5,O0 0),(6,.dat T2 i)],[(0,.arr 40 T2 l0)],1⟩)]) (fun z4b=>[(2,⟨[(5,O0 0)],[(0,.arr 40 T2 l0)],1⟩)]) z4,?_,?_⟩
  ·have q := hz4
   clear hz4
   unfold f32_j4 at q
   refine OL (cI q (fun q=>?_) (fun q=>?_))
   ·refine gX (gX (cT (cI q (fun q=>?_) (fun q=>?_))))
    ·cases sE q
     refine E4 [(0,some 0)] (R4 (AJ (AI rfl TV)))
    cases sE q
    refine E4 [(0,some 0)] (AI rfl (AJ (AI rfl TV)))
   refine gM (gM (cF (cF ?_)))
   cases sE q
   refine E4 [(0,some 0)] (AI rfl (AJ (AI rfl TV)))
  rcases z4 with z4a | z4b
  ·dsimp only [sumF] at q
   refine AI (OL (gI q (fun q=>?_))) TV
   refine gI q (fun q=>?_)
   refine gI q (fun q=>?_)
   refine OL (EI ((i64.wrap (i + (1:Int))),(List.set l0 (Int.toNat i) (rd (0:Int) l (Int.tmod i (List.length l:Int))))) (AI q (E4 [(0,some 0)] (R4 (AJ (AI rfl TV))))))
  dsimp only [sumF] at q
  refine AI ?_ TV
  cases sE q
  refine E4 [(0,some 0)] (AI rfl (AJ (AI rfl TV)))
 refine AI (OL ?_) TV
 cases sE q
 refine AI rfl (E4 [(0,some 0)] (AI rfl (AJ (AI rfl TV))))
theorem C32_holds : HP C32 32 := hH Tryz.f32 (by kernel_rfl) rfl (fun x y q=>C32_vc x.1 x.2 y q)
theorem f32_in : InP 32 := inP (by kernel_rfl)
def f40_l1 (a : List (Int×Int)) (b : List (Int×Int)) (go : Int → Option (Sum Unit Unit)) (i:Int) : Option (Sum Unit Unit) :=
 bif (decide (i < (List.length a:Int))) then
 guardF (0 ≤ i ∧ i < (List.length a:Int)) <|
 guardF (0 ≤ i ∧ i < (List.length b:Int)) <|
 bif (!(((rd (Ty.z T5) a i).1) == ((rd (Ty.z T5) b i).1) && ((rd (Ty.z T5) a i).2) == ((rd (Ty.z T5) b i).2))) then
 some (Sum.inl ())
 else
 go (i64.wrap (i + (1:Int)))
 else
 some (Sum.inr ())
def f40 (a : List (Int×Int)) (b : List (Int×Int)) : Option Bool :=
 bif ((List.length a:Int) != (List.length b:Int)) then
 some false
 else
 bindF (loopF (fun go x=>f40_l1 a b go x) fuelN (0:Int)) fun z1 =>
 sumF z1 (fun z1a =>
 some false) (fun z1b =>
 some true)
def C40 : Con where
 X := (List (Int×Int))×(List (Int×Int))
 Y := Bool
 e := 0
 args x := [.dat T12 x.1,.dat T12 x.2]
 hin x := []
 F x := f40 x.1 x.2
 ret y := [.dat .bool y]
 hout y := []
 nout := 0
theorem C40_vc (a : List (Int×Int)) (b : List (Int×Int)) (y : Bool) (q : f40 a b = some y) : VC Tryz.f40 C40 (a,b) y := by
 unfold f40 at q
 refine OL (OL (OL (cI q (fun q=>?_) (fun q=>?_))))
 ·cases sE q
  refine OL (AI rfl (E4 [] (R2 (AI TV TV))))
 refine OL (OL ?_)
 obtain ⟨z1,hz1,q⟩ := bE q
 refine lI Int (Sum Unit Unit) (fun x=>⟨[(0,.dat T12 a),(1,.dat T12 b),(5,.dat T2 x)],[],0⟩) (fun z=>Sum.elim (fun za=>[(1,⟨[(4,.dat .bool false)],[],0⟩)]) (fun zb=>[(2,⟨[],[],0⟩)]) z) (loopF (fun go x=>f40_l1 a b go x)) fuelN (0:Int) z1 (AI hz1 (AI (E4 [] (R4 (AI TV TV))) (AI (fun _ _ h=>lZ h) (AI (fun m=>fun i z q=>?_) ?_))))
 ·have q : f40_l1 a b (loopF (fun go x=>f40_l1 a b go x) m) i = some z := q
  unfold f40_l1 at q
  refine OL (OL (cI q (fun q=>?_) (fun q=>?_)))
  ·refine OL (OL (EI (.take 0 (.take 1 (.take 2 (.take 3 (.take 4 (.take 5 (.take 6 (.take 7 (.take 8 .done))))))))) (EI [] (EI [] (AI rfl (gI q (fun q=>?_)))))))
   refine gI q (fun q=>?_)
   refine AI ⟨by kernel_rfl,by kernel_rfl,by decide,by decide⟩ ?_
   refine cI q (fun q=>?_) (fun q=>?_)
   ·cases sE q
    refine OL (E4 [] (R2 (AI TV TV)))
   refine EI (i64.wrap (i + (1:Int))) (AI q (E4 [] (R4 (AI TV TV))))
  cases sE q
  refine E4 [] (AI rfl (AI TV TV))
 rcases z1 with z1a | z1b
 ·dsimp only [sumF] at q
  refine AI ?_ TV
  cases sE q
  refine AI rfl (E4 [] (R2 (AI TV TV)))
 dsimp only [sumF] at q
 refine AI (OL ?_) TV
 cases sE q
 refine AI rfl (E4 [] (R2 (AI TV TV)))
theorem C40_holds : HP C40 40 := hH Tryz.f40 (by kernel_rfl) rfl (fun x y q=>C40_vc x.1 x.2 y q)
theorem f40_in : InP 40 := inP (by kernel_rfl)
def f6_j1 (p_ : LI) (l : List (LI×LI×Int)) (r2 : Int×Bool) : Option (Sum Unit Unit) :=
 bif (!r2.2) then
 some (Sum.inr ())
 else
 bif (decide ((List.length l:Int) > (5:Int))) then
 some (Sum.inr ())
 else
 bif (decide ((List.length p_:Int) > (100:Int))) then
 some (Sum.inr ())
 else
 some (Sum.inl ())
def f6_l2 (l : List (LI×LI×Int)) (go : (Int×(List (LI×LI×Int))) → Option (Sum Unit (List (LI×LI×Int)))) (i:Int) (l1 : List (LI×LI×Int)) : Option (Sum Unit (List (LI×LI×Int))) :=
 bif (decide (i ≥ (0:Int))) then
 guardF (0 ≤ i ∧ i < (List.length l:Int)) <|
 bindF (f31 ((rd (Ty.z T10) l i).1,((rd (Ty.z T10) l i).2).1,((rd (Ty.z T10) l i).2).2)) fun r7 =>
 bif (!r7) then
 some (Sum.inl ())
 else
 guardF (0 ≤ i ∧ i < (List.length l:Int)) <|
 guardF ((List.length l1 + List.length ([((rd (Ty.z T10) l i).1,((rd (Ty.z T10) l i).2).1,((rd (Ty.z T10) l i).2).2)])) * 56 ≤ 140737488355328) <|
 go ((i64.wrap (i - (1:Int))),(l1 ++ ([((rd (Ty.z T10) l i).1,((rd (Ty.z T10) l i).2).1,((rd (Ty.z T10) l i).2).2)])))
 else
 some (Sum.inr l1)
def f6 (n : LI×(List (ByteArray×Int×Int))) (kind:Int) (p_ : LI) (l : List (LI×LI×Int)) : Option Bool :=
 bindF (f29) fun r1 =>
 bif (!r1) then
 some false
 else
 bindF (f30 (n.1,n.2)) fun r2 =>
 bindF (f6_j1 p_ l r2) fun z3 =>
 sumF z3 (fun z3a =>
 bindF (loopF (fun go x=>f6_l2 l go x.1 x.2) fuelN ((i64.wrap ((List.length l:Int) - (1:Int))),[])) fun z6 =>
 sumF z6 (fun z6a =>
 some true) (fun z6b =>
 bindF (f32 p_ r2.1) fun r8 =>
 bindF (f38 (n.1,n.2) kind r8 l) fun r9 =>
 bindF (f38 (n.1,n.2) kind r8 z6b) fun r10 =>
 bif ((r9.2.2.1 == (0:Int)) == (r10.2.2.1 == (0:Int))) then
 bif (r9.1 == r10.1 && r9.2.1 == r10.2.1) then
 bindF (f40 r9.2.2.2 r10.2.2.2) fun r11 =>
 some r11
 else
 some false
 else
 some false)) (fun z3b =>
 some true)
def C6 : Con where
 X := (LI×(List (ByteArray×Int×Int)))×Int×LI×(List (LI×LI×Int))
 Y := Bool
 e := 0
 args x := [.dat T7 x.1,.dat T2 x.2.1,.dat T1 x.2.2.1,.dat T11 x.2.2.2]
 hin x := []
 F x := f6 x.1 x.2.1 x.2.2.1 x.2.2.2
 ret y := [.dat .bool y]
 hout y := []
 nout := 0
theorem C6_vc (n : LI×(List (ByteArray×Int×Int))) (kind:Int) (p_ : LI) (l : List (LI×LI×Int)) (y : Bool) (q : f6 n kind p_ l = some y) : VC Tryz.f6 C6 (n,kind,p_,l) y := by
 unfold f6 at q
 refine OL (OL (OL ?_))
 obtain ⟨r1,hr1,q⟩ := bE q
 refine OL (AI f29_in (cV (cQ C29 () r1 [] false C29_holds hr1 rfl rfl (K0 (cI q (fun q=>?_) (fun q=>?_))))))
 ·cases sE q
  refine OL (AI rfl (E4 [] (R2 (AI TV TV))))
 refine OL ?_
 obtain ⟨r2,hr2,q⟩ := bE q
 refine OL (AI f30_in (cV (cQ C30 (n.1,n.2) r2 [] false C30_holds hr2 rfl rfl (R2 (K0 ?_)))))
 obtain ⟨z3,hz3,q⟩ := bE q
 refine OQ ⟨Sum.elim (fun z3a=>[(0,⟨[(1,.dat T2 kind),(2,.dat T1 p_),(3,.dat T11 l),(4,P0 0 0),(9,.dat T2 r2.1)],[(0,.cells [(.d T1 n.1),(.d T8 n.2)])],1⟩)]) (fun z3b=>[(1,⟨[(8,.dat .bool true)],[],0⟩)]) z3,?_,?_⟩
 ·have q := hz3
  clear hz3
  unfold f6_j1 at q
  refine OL (cN q (fun q=>?_) (fun q=>?_))
  ·refine gY (gY (cF (cN q (fun q=>?_) (fun q=>?_))))
   ·refine gY (gY (cF (cI q (fun q=>?_) (fun q=>?_))))
    ·cases sE q
     refine OL (E4 [] (R2 (AI TV TV)))
    cases sE q
    refine E4 [(0,some 0)] (R5 (AJ (AI rfl TV)))
   refine gN (gN (cT (cT (OL ?_))))
   cases sE q
   refine E4 [] (R2 (AI TV TV))
  refine gN (gN (cT (gN (gN (gN (cT (cT (OL ?_))))))))
  cases sE q
  refine E4 [] (R2 (AI TV TV))
 rcases z3 with z3a | z3b
 ·dsimp only [sumF] at q
  refine AI (OL (OL (OL ?_))) TV
  obtain ⟨z6,hz6,q⟩ := bE q
  refine lI (Int×(List (LI×LI×Int))) (Sum Unit (List (LI×LI×Int))) (fun x=>⟨[(1,.dat T2 kind),(2,.dat T1 p_),(3,.dat T11 l),(4,P0 0 0),(9,.dat T2 r2.1),(11,O0 1),(12,.dat T2 x.1)],[(0,.cells [(.d T1 n.1),(.d T8 n.2)]),(1,.arr 57 T10 x.2)],2⟩) (fun z=>Sum.elim (fun za=>[(1,⟨[(8,.dat .bool true)],[],0⟩)]) (fun zb=>[(2,⟨[(1,.dat T2 kind),(2,.dat T1 p_),(3,.dat T11 l),(4,P0 0 0),(9,.dat T2 r2.1),(11,O0 1)],[(0,.cells [(.d T1 n.1),(.d T8 n.2)]),(1,.arr 57 T10 zb)],2⟩)]) z) (loopF (fun go x=>f6_l2 l go x.1 x.2)) fuelN ((i64.wrap ((List.length l:Int) - (1:Int))),[]) z6 (AI hz6 (AI (E4 [(0,some 0),(1,none)] (R6 (AI (R2 TV) (R2 TV)))) (AI (fun _ _ h=>lZ h) (AI (fun m=>curI (fun i=>fun l1 z q=>?_)) ?_))))
  ·have q : f6_l2 l (loopF (fun go x=>f6_l2 l go x.1 x.2) m) i l1 = some z := q
   unfold f6_l2 at q
   refine OL (OL (cI q (fun q=>?_) (fun q=>?_)))
   ·refine OL (OL (OL (gI q (fun q=>?_))))
    obtain ⟨r7,hr7,q⟩ := bE q
    refine OL (AI f31_in (cV (cQ C31 ((rd (Ty.z T10) l i).1,((rd (Ty.z T10) l i).2).1,((rd (Ty.z T10) l i).2).2) r7 [] false C31_holds hr7 rfl rfl (R2 (K0 (cI q (fun q=>?_) (fun q=>?_)))))))
    ·cases sE q
     refine OL (E4 [] (R2 (AI TV TV)))
    refine gI q (fun q=>?_)
    refine OL (OL (gI q (fun q=>?_)))
    refine EI ((i64.wrap (i - (1:Int))),(l1 ++ ([((rd (Ty.z T10) l i).1,((rd (Ty.z T10) l i).2).1,((rd (Ty.z T10) l i).2).2)]))) (AI q (E4 [(0,some 0),(1,some 3)] (R6 (AI (R2 TV) (R2 TV)))))
   cases sE q
   refine E4 I2 (R5 (AI (R2 TV) (R2 TV)))
  rcases z6 with z6a | z6b
  ·dsimp only [sumF] at q
   refine AI ?_ TV
   cases sE q
   refine AI rfl (E4 [] (R2 (AI TV TV)))
  dsimp only [sumF] at q
  refine AI (OL ?_) TV
  obtain ⟨r8,hr8,q⟩ := bE q
  refine OL (AI f32_in (cV (cQ C32 (p_,r2.1) r8 [] false C32_holds hr8 rfl rfl (R2 (K0 (OL ?_))))))
  obtain ⟨r9,hr9,q⟩ := bE q
  refine OL (AI f38_in (cV (cQ C38 ((n.1,n.2),kind,r8,l) r9 [] true C38_holds hr9 rfl rfl (R5 (AI (fun _=>rfl) (R2 (AI TV (AI TV (OL (OL ?_))))))))))
  obtain ⟨r10,hr10,q⟩ := bE q
  refine OL (AI f38_in (cV (cQ C38 ((n.1,n.2),kind,r8,z6b) r10 [] true C38_holds hr10 rfl rfl (R5 (AI (fun _=>rfl) (R2 (AI TV (AI TV (OL (OL (cI q (fun q=>?_) (fun q=>?_))))))))))))
  ·refine gX (gX (AI ⟨by kernel_rfl,by kernel_rfl,by decide,by decide⟩ ?_))
   refine cT (cI q (fun q=>?_) (fun q=>?_))
   ·refine gX (gX ?_)
    obtain ⟨r11,hr11,q⟩ := bE q
    refine OL (AI f40_in (cV (cQ C40 (r9.2.2.2,r10.2.2.2) r11 [] true C40_holds hr11 rfl rfl (R2 (AI (fun _=>rfl) (R2 (AI TV (AI TV (cT ?_)))))))))
    cases sE q
    refine AI rfl (E4 [] (R2 (AI TV TV)))
   refine gM (gM (cF ?_))
   cases sE q
   refine AI rfl (E4 [] (R2 (AI TV TV)))
  refine gM (gM (cF (gM (gM (gM (cF ?_))))))
  cases sE q
  refine AI rfl (E4 [] (R2 (AI TV TV)))
 dsimp only [sumF] at q
 refine AI ?_ TV
 cases sE q
 refine AI rfl (E4 [] (R2 (AI TV TV)))
theorem C6_holds : HP C6 6 := hH Tryz.f6 (by kernel_rfl) rfl (fun x y q=>C6_vc x.1 x.2.1 x.2.2.1 x.2.2.2 y q)
theorem f6_in : InP 6 := inP (by kernel_rfl)
end Go.Proofs
