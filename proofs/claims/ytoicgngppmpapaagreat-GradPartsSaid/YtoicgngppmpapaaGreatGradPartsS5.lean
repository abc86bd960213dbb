import Derived.Test.YtoicgngppmpapaaGreatGradPartsS4
set_option linter.unusedVariables false
set_option maxRecDepth 100000
set_option maxHeartbeats 8000000
namespace Go.Proofs
open Go.AM
open IntKind (i64 u64 i32 u32 i16 u16 i8 u8)
def f79_j54 (n : LI×(List (ByteArray×Int×Int))) (great : Bool) (i:Int) (r74:Int) : Option Bool :=
 bif great then
 some true
 else
 some (decide ((i64.wrap ((((rd (Ty.z T6) n.2 i).2).1) * r74)) > (4096:Int)))
def f79_j57 (n : LI×(List (ByteArray×Int×Int))) (i:Int) (l1 : List LI) : Option Bool :=
 bif ((List.length (rd (Ty.z T1) l1 (i64.wrap ((List.length l1:Int) - (1:Int)))):Int) != (2:Int)) then
 some true
 else
 guardF (0 ≤ (1:Int) ∧ (1:Int) < (List.length (rd (Ty.z T1) l1 (i64.wrap ((List.length l1:Int) - (1:Int)))):Int)) <|
 some (decide ((((rd (Ty.z T6) n.2 i).2).2) > (rd (0:Int) (rd (Ty.z T1) l1 (i64.wrap ((List.length l1:Int) - (1:Int)))) (1:Int))))
def f79_j56 (n : LI×(List (ByteArray×Int×Int))) (i:Int) (l1 : List LI) : Option (Sum Unit Unit) :=
 bindF (f79_j57 n i l1) fun z78 =>
 bif z78 then
 some (Sum.inr ())
 else
 some (Sum.inl ())
def f79_j58 (n : LI×(List (ByteArray×Int×Int))) (great : Bool) (i:Int) (l1 : List LI) : Option Bool :=
 bif great then
 some true
 else
 guardF (0 ≤ (0:Int) ∧ (0:Int) < (List.length (rd (Ty.z T1) l1 (i64.wrap ((List.length l1:Int) - (1:Int)))):Int)) <|
 some (decide ((i64.wrap ((i64.wrap ((((rd (Ty.z T6) n.2 i).2).1) * (rd (0:Int) (rd (Ty.z T1) l1 (i64.wrap ((List.length l1:Int) - (1:Int)))) (0:Int)))) * (((rd (Ty.z T6) n.2 i).2).2))) > (4096:Int)))
def f79_j61 (n : LI×(List (ByteArray×Int×Int))) (i:Int) (l1 : List LI) : Option Bool :=
 bif ((List.length (rd (Ty.z T1) l1 (i64.wrap ((List.length l1:Int) - (1:Int)))):Int) != (2:Int)) then
 some true
 else
 guardF (0 ≤ (1:Int) ∧ (1:Int) < (List.length (rd (Ty.z T1) l1 (i64.wrap ((List.length l1:Int) - (1:Int)))):Int)) <|
 some (decide ((((rd (Ty.z T6) n.2 i).2).1) > (rd (0:Int) (rd (Ty.z T1) l1 (i64.wrap ((List.length l1:Int) - (1:Int)))) (1:Int))))
def f79_j60 (n : LI×(List (ByteArray×Int×Int))) (i:Int) (l1 : List LI) : Option (Sum Unit Unit) :=
 bindF (f79_j61 n i l1) fun z82 =>
 bif z82 then
 some (Sum.inr ())
 else
 some (Sum.inl ())
def f79_j62 (n : LI×(List (ByteArray×Int×Int))) (i:Int) (l1 : List LI) : Option Bool :=
 bif (i == (0:Int)) then
 some true
 else
 guardF (0 ≤ (i64.wrap (i - (1:Int))) ∧ (i64.wrap (i - (1:Int))) < (List.length n.2:Int)) <|
 bif (ByteArray.toList ((rd (Ty.z T6) n.2 (i64.wrap (i - (1:Int)))).1) == ByteArray.toList (ByteArray.mk #[115,107,105,112])) then
 some true
 else
 guardF (0 ≤ (i64.wrap ((List.length l1:Int) - (2:Int))) ∧ (i64.wrap ((List.length l1:Int) - (2:Int))) < (List.length l1:Int)) <|
 bindF (f73 (rd (Ty.z T1) l1 (i64.wrap ((List.length l1:Int) - (2:Int)))) (rd (Ty.z T1) l1 (i64.wrap ((List.length l1:Int) - (1:Int))))) fun r85 =>
 some (!r85)
def f79_j53 (n : LI×(List (ByteArray×Int×Int))) (all:Int) (great : Bool) (i:Int) (l1 : List LI) : Option (Sum (Int×Bool×LI) Unit) :=
 bif (ByteArray.toList ((rd (Ty.z T6) n.2 i).1) == ByteArray.toList (ByteArray.mk #[100,101,110,115,101])) then
 bindF (f133 (rd (Ty.z T1) l1 (i64.wrap ((List.length l1:Int) - (1:Int))))) fun r74 =>
 bindF (f79_j54 n great i r74) fun z75 =>
 some (Sum.inl ((i64.wrap ((i64.wrap (all + (i64.wrap ((((rd (Ty.z T6) n.2 i).2).1) * r74)))) + (((rd (Ty.z T6) n.2 i).2).1))),z75,[((rd (Ty.z T6) n.2 i).2).1]))
 else
 bif (ByteArray.toList ((rd (Ty.z T6) n.2 i).1) == ByteArray.toList (ByteArray.mk #[99,111,110,118])) then
 bindF (f79_j56 n i l1) fun z77 =>
 sumF z77 (fun z77a =>
 bindF (f79_j58 n great i l1) fun z79 =>
 guardF (0 ≤ (0:Int) ∧ (0:Int) < (List.length (rd (Ty.z T1) l1 (i64.wrap ((List.length l1:Int) - (1:Int)))):Int)) <|
 guardF (0 ≤ (1:Int) ∧ (1:Int) < (List.length (rd (Ty.z T1) l1 (i64.wrap ((List.length l1:Int) - (1:Int)))):Int)) <|
 some (Sum.inl ((i64.wrap (all + (i64.wrap ((i64.wrap ((((rd (Ty.z T6) n.2 i).2).1) * (rd (0:Int) (rd (Ty.z T1) l1 (i64.wrap ((List.length l1:Int) - (1:Int)))) (0:Int)))) * (((rd (Ty.z T6) n.2 i).2).2))))),z79,[((rd (Ty.z T6) n.2 i).2).1,(i64.wrap ((i64.wrap ((rd (0:Int) (rd (Ty.z T1) l1 (i64.wrap ((List.length l1:Int) - (1:Int)))) (1:Int)) - (((rd (Ty.z T6) n.2 i).2).2))) + (1:Int)))]))) (fun z77b =>
 some (Sum.inr ()))
 else
 bif (ByteArray.toList ((rd (Ty.z T6) n.2 i).1) == ByteArray.toList (ByteArray.mk #[112,111,111,108])) then
 bindF (f79_j60 n i l1) fun z81 =>
 sumF z81 (fun z81a =>
 guardF (0 ≤ (0:Int) ∧ (0:Int) < (List.length (rd (Ty.z T1) l1 (i64.wrap ((List.length l1:Int) - (1:Int)))):Int)) <|
 guardF (0 ≤ (1:Int) ∧ (1:Int) < (List.length (rd (Ty.z T1) l1 (i64.wrap ((List.length l1:Int) - (1:Int)))):Int)) <|
 guardF ((((rd (Ty.z T6) n.2 i).2).1) ≠ 0) <|
 some (Sum.inl (all,great,[(rd (0:Int) (rd (Ty.z T1) l1 (i64.wrap ((List.length l1:Int) - (1:Int)))) (0:Int)),(i64.wrap (Int.tdiv (rd (0:Int) (rd (Ty.z T1) l1 (i64.wrap ((List.length l1:Int) - (1:Int)))) (1:Int)) (((rd (Ty.z T6) n.2 i).2).1)))]))) (fun z81b =>
 some (Sum.inr ()))
 else
 bif (ByteArray.toList ((rd (Ty.z T6) n.2 i).1) == ByteArray.toList (ByteArray.mk #[115,107,105,112])) then
 bindF (f79_j62 n i l1) fun z84 =>
 bif z84 then
 some (Sum.inr ())
 else
 some (Sum.inl (all,great,(rd (Ty.z T1) l1 (i64.wrap ((List.length l1:Int) - (1:Int))))))
 else
 some (Sum.inl (all,great,(rd (Ty.z T1) l1 (i64.wrap ((List.length l1:Int) - (1:Int))))))
def f79_j63 (z73a : Int×Bool×LI) : Option Bool :=
 bif z73a.2.1 then
 some true
 else
 bindF (f133 z73a.2.2) fun r88 =>
 some (decide (r88 > (4096:Int)))
def f79_j64 (z73a : Int×Bool×LI) (z87 : Bool) : Option (Int×Bool) :=
 bif (decide (z73a.1 > (4096:Int))) then
 some ((4097:Int),true)
 else
 some (z73a.1,z87)
def f79_l43 (n : LI×(List (ByteArray×Int×Int))) (go : (Int×Bool×Int×(List LI)) → Option (Sum Unit (Int×Bool×(List LI)))) (all:Int) (great : Bool) (i:Int) (l1 : List LI) : Option (Sum Unit (Int×Bool×(List LI))) :=
 bif (decide (i < (List.length n.2:Int))) then
 guardF (0 ≤ (i64.wrap ((List.length l1:Int) - (1:Int))) ∧ (i64.wrap ((List.length l1:Int) - (1:Int))) < (List.length l1:Int)) <|
 guardF (0 ≤ i ∧ i < (List.length n.2:Int)) <|
 bindF (f79_j53 n all great i l1) fun z73 =>
 sumF z73 (fun z73a =>
 bindF (f79_j63 z73a) fun z87 =>
 bindF (f79_j64 z73a z87) fun z89 =>
 guardF ((List.length ([] : LI) + List.length z73a.2.2) * 8 ≤ 140737488355328) <|
 guardF ((List.length l1 + List.length ([(([] : LI) ++ z73a.2.2)])) * 24 ≤ 140737488355328) <|
 go (z89.1,z89.2,(i64.wrap (i + (1:Int))),(l1 ++ ([(([] : LI) ++ z73a.2.2)])))) (fun z73b =>
 some (Sum.inl ()))
 else
 some (Sum.inr (all,great,l1))
def f79_j67 (n : LI×(List (ByteArray×Int×Int))) (z60b : Int×Bool×(List LI)) : Option Bool :=
 bif z60b.2.1 then
 some true
 else
 bindF (f133 n.1) fun r96 =>
 some (decide (r96 > (4096:Int)))
def f79_j66 (n : LI×(List (ByteArray×Int×Int))) (z60b : Int×Bool×(List LI)) : Option (Sum Unit Unit) :=
 bindF (f79_j67 n z60b) fun z95 =>
 bif z95 then
 some (Sum.inr ())
 else
 some (Sum.inl ())
def f79 (n : LI×(List (ByteArray×Int×Int))) : Option (Int×Int×(List LI)) :=
 bindF (f132 (n.1,n.2)) fun r1 =>
 bif (!r1) then
 some ((0:Int),(1:Int),[])
 else
 guardF ((List.length ([] : LI) + List.length n.1) * 8 ≤ 140737488355328) <|
 bindF (loopF (fun go x=>f79_l43 n go x.1 x.2.1 x.2.2.1 x.2.2.2) fuelN ((0:Int),(decide ((List.length n.2:Int) > (16:Int))),(0:Int),[(([] : LI) ++ n.1)])) fun z60 =>
 sumF z60 (fun z60a =>
 some ((0:Int),(4:Int),[])) (fun z60b =>
 bindF (f79_j66 n z60b) fun z93 =>
 sumF z93 (fun z93a =>
 some (z60b.1,(0:Int),z60b.2.2)) (fun z93b =>
 some ((0:Int),(2:Int),[])))
def C79 : Con where
 X := LI×(List (ByteArray×Int×Int))
 Y := Int×Int×(List LI)
 e := 0
 args x := [.dat T7 x]
 hin x := []
 F x := f79 x
 ret y := [O0 0,.dat T2 y.1,.dat T2 y.2.1]
 hout y := [(0,.arr 33 T1 y.2.2)]
 nout := 1
theorem C79_vc (n : LI×(List (ByteArray×Int×Int))) (y : Int×Int×(List LI)) (q : f79 n = some y) : VC Tryz.f79 C79 n y := by
 unfold f79 at q
 refine OL (OL (OL ?_))
 obtain ⟨r1,hr1,q⟩ := bE q
 refine OL (AI f132_in (cV (cQ C132 (n.1,n.2) r1 [] false C132_holds hr1 rfl rfl (R2 (K0 (cI q (fun q=>?_) (fun q=>?_)))))))
 ·cases sE q
  refine OL (AI rfl (E4 [(0,none)] (R3 (AJ (AI rfl TV)))))
 refine OL (OL (OL (gI q (fun q=>?_))))
 refine OL (OL (EI (.take 0 (.take 1 (.take 2 (.take 3 (.take 4 (.take 5 .done)))))) (EI [] (EI [] (AI rfl (OL (OL ?_)))))))
 obtain ⟨z60,hz60,q⟩ := bE q
 refine lI (Int×Bool×Int×(List LI)) (Sum Unit (Int×Bool×(List LI))) (fun x=>⟨[(1,P0 0 0),(5,O0 1),(6,.dat T2 x.1),(7,.dat .bool x.2.1),(8,.dat T2 x.2.2.1)],[(0,.cells [(.d T1 n.1),(.d T8 n.2)]),(1,.arr 33 T1 x.2.2.2)],2⟩) (fun z=>Sum.elim (fun za=>[(1,⟨[(2,.raw false [N0]),(3,D0 0),(4,D0 4)],[],0⟩)]) (fun zb=>[(2,⟨[(1,P0 0 0),(5,O0 1),(6,.dat T2 zb.1),(7,.dat .bool zb.2.1)],[(0,.cells [(.d T1 n.1),(.d T8 n.2)]),(1,.arr 33 T1 zb.2.2)],2⟩)]) z) (loopF (fun go x=>f79_l43 n go x.1 x.2.1 x.2.2.1 x.2.2.2)) fuelN ((0:Int),(decide ((List.length n.2:Int) > (16:Int))),(0:Int),[(([] : LI) ++ n.1)]) z60 (AI hz60 (AI (E4 [(0,some 0),(1,some 3)] (R4 (AI (R2 TV) (R2 TV)))) (AI (fun _ _ h=>lZ h) (AI (fun m=>curI (fun all=>curI (fun great=>curI (fun i=>fun l1 z q=>?_)))) ?_))))
 ·have q : f79_l43 n (loopF (fun go x=>f79_l43 n go x.1 x.2.1 x.2.2.1 x.2.2.2) m) all great i l1 = some z := q
  unfold f79_l43 at q
  refine OL (OL (cI q (fun q=>?_) (fun q=>?_)))
  ·refine OL (OL (gI q (fun q=>?_)))
   refine OL (gI q (fun q=>?_))
   refine OL ?_
   obtain ⟨z73,hz73,q⟩ := bE q
   refine OQ ⟨Sum.elim (fun z73a=>[(0,⟨[(1,P0 0 0),(5,O0 1),(6,.dat T2 z73a.1),(7,.dat .bool z73a.2.1),(8,.dat T2 i),(9,.dat T1 z73a.2.2)],[(0,.cells [(.d T1 n.1),(.d T8 n.2)]),(1,.arr 33 T1 l1)],2⟩)]) (fun z73b=>[(1,⟨[(2,.raw false [N0]),(3,D0 0),(4,D0 4)],[],0⟩)]) z73,?_,?_⟩
   ·have q := hz73
    clear hz73
    unfold f79_j53 at q
    refine OL (OL (cI q (fun q=>?_) (fun q=>?_)))
    ·refine OL ?_
     obtain ⟨r74,hr74,q⟩ := bE q
     refine OL (AI f133_in (cV (cQ C133 (rd (Ty.z T1) l1 (i64.wrap ((List.length l1:Int) - (1:Int)))) r74 [] false C133_holds hr74 rfl rfl (AI rfl (K0 ?_)))))
     obtain ⟨z75,hz75,q⟩ := bE q
     refine OQ ⟨[(0,⟨[(1,P0 0 0),(5,O0 1),(6,.dat T2 all),(7,.dat .bool z75),(8,.dat T2 i),(10,P0 2 0),(11,.dat T2 r74)],[(0,.cells [(.d T1 n.1),(.d T8 n.2)]),(1,.arr 33 T1 l1),(2,.cells [(.d .str ((rd (Ty.z T6) n.2 i).1)),(.d T2 (((rd (Ty.z T6) n.2 i).2).1)),(.d T2 (((rd (Ty.z T6) n.2 i).2).2))])],3⟩)],?_,?_⟩
     ·have q := hz75
      clear hz75
      unfold f79_j54 at q
      refine cN q (fun q=>?_) (fun q=>?_)
      ·refine gY (gY (gY (gY (cF ?_))))
       cases sE q
       refine E4 I3 (R5 (AI (R3 TV) (R3 TV)))
      refine gN (gN (gN (gN (cT ?_))))
      cases sE q
      refine E4 I3 (R5 (AI (R3 TV) (R3 TV)))
     refine AI (OL (OL ?_)) TV
     cases sE q
     refine E4 I2 (R5 (AI (R2 TV) (R2 TV)))
    refine OL (cI q (fun q=>?_) (fun q=>?_))
    ·obtain ⟨z77,hz77,q⟩ := bE q
     refine OQ ⟨Sum.elim (fun z77a=>[(0,⟨[(1,P0 0 0),(5,O0 1),(6,.dat T2 all),(7,.dat .bool great),(8,.dat T2 i),(9,.dat T1 (rd (Ty.z T1) l1 (i64.wrap ((List.length l1:Int) - (1:Int))))),(10,P0 2 0)],[(0,.cells [(.d T1 n.1),(.d T8 n.2)]),(1,.arr 33 T1 l1),(2,.cells [(.d .str ((rd (Ty.z T6) n.2 i).1)),(.d T2 (((rd (Ty.z T6) n.2 i).2).1)),(.d T2 (((rd (Ty.z T6) n.2 i).2).2))])],3⟩)]) (fun z77b=>[(1,⟨[(2,.raw false [N0]),(3,D0 0),(4,D0 4)],[],0⟩)]) z77,?_,?_⟩
     ·have q := hz77
      clear hz77
      unfold f79_j56 at q
      obtain ⟨z78,hz78,q⟩ := bE q
      refine OQ ⟨[(0,⟨[(1,P0 0 0),(5,O0 1),(6,.dat T2 all),(7,.dat .bool great),(8,.dat T2 i),(9,.dat T1 (rd (Ty.z T1) l1 (i64.wrap ((List.length l1:Int) - (1:Int))))),(10,P0 2 0),(80,.dat .bool z78)],[(0,.cells [(.d T1 n.1),(.d T8 n.2)]),(1,.arr 33 T1 l1),(2,.cells [(.d .str ((rd (Ty.z T6) n.2 i).1)),(.d T2 (((rd (Ty.z T6) n.2 i).2).1)),(.d T2 (((rd (Ty.z T6) n.2 i).2).2))])],3⟩)],?_,?_⟩
      ·have q := hz78
       clear hz78
       unfold f79_j57 at q
       refine EI (.take 0 (.take 1 (.take 2 (.take 3 (.take 4 (.take 5 (.take 6 (.take 7 (.take 8 (.take 9 (.take 10 .done))))))))))) (EI [] (EI [] (AI rfl (cN q (fun q=>?_) (fun q=>?_)))))
       ·refine gY (gY (gY (gI q (fun q=>?_))))
        refine gY (gY (cF ?_))
        cases sE q
        refine E4 I3 (R6 (AI (R3 TV) (R3 TV)))
       refine gN (gN (gN (gN (gN (cT ?_)))))
       cases sE q
       refine E4 I3 (R6 (AI (R3 TV) (R3 TV)))
      refine AI (cI q (fun q=>?_) (fun q=>?_)) TV
      ·cases sE q
       refine OL (E4 [] (R3 (AJ TV)))
      cases sE q
      refine E4 I3 (R5 (AI (R3 TV) (R3 TV)))
     rcases z77 with z77a | z77b
     ·dsimp only [sumF] at q
      refine AI ?_ TV
      obtain ⟨z79,hz79,q⟩ := bE q
      refine OQ ⟨[(0,⟨[(1,P0 0 0),(5,O0 1),(6,.dat T2 all),(7,.dat .bool z79),(8,.dat T2 i),(9,.dat T1 (rd (Ty.z T1) l1 (i64.wrap ((List.length l1:Int) - (1:Int))))),(10,P0 2 0)],[(0,.cells [(.d T1 n.1),(.d T8 n.2)]),(1,.arr 33 T1 l1),(2,.cells [(.d .str ((rd (Ty.z T6) n.2 i).1)),(.d T2 (((rd (Ty.z T6) n.2 i).2).1)),(.d T2 (((rd (Ty.z T6) n.2 i).2).2))])],3⟩)],?_,?_⟩
      ·have q := hz79
       clear hz79
       unfold f79_j58 at q
       refine EI (.take 0 (.take 1 (.take 2 (.take 3 (.take 4 (.take 5 (.take 6 (.take 7 (.take 8 (.take 9 (.take 10 (.take 11 (.take 12 (.take 13 .done)))))))))))))) (EI [] (EI [] (AI rfl (cN q (fun q=>?_) (fun q=>?_)))))
       ·refine gY (gY (gY (gI q (fun q=>?_))))
        refine gY (gY (gY (gY (gY (gY (cF ?_))))))
        cases sE q
        refine E4 I3 (R5 (AI (R3 TV) (R3 TV)))
       refine gN (gN (gN (gN (gN (gN (gN (gN (gN (cT ?_)))))))))
       cases sE q
       refine E4 I3 (R5 (AI (R3 TV) (R3 TV)))
      refine AI (OL (EI (.take 0 (.take 1 (.take 2 (.take 3 (.take 4 (.take 5 (.take 6 (.take 7 (.take 8 (.take 9 (.take 10 (.take 11 .done)))))))))))) (EI [] (EI [] (AI rfl (gI q (fun q=>?_))))))) TV
      refine EI (.take 0 (.take 1 (.take 2 (.take 3 (.take 4 (.take 5 (.take 6 (.take 7 (.take 8 (.alt 9 (.take 10 .done) .done)))))))))) (EI [] (EI [] (AI rfl (gI q (fun q=>?_)))))
      refine AI TV (OL ?_)
      cases sE q
      refine E4 I2 (R5 (AI (R2 TV) (R2 TV)))
     dsimp only [sumF] at q
     refine AI ?_ TV
     cases sE q
     refine E4 [] (R3 (AJ TV))
    refine OL (cI q (fun q=>?_) (fun q=>?_))
    ·obtain ⟨z81,hz81,q⟩ := bE q
     refine OQ ⟨Sum.elim (fun z81a=>[(0,⟨[(1,P0 0 0),(5,O0 1),(6,.dat T2 all),(7,.dat .bool great),(8,.dat T2 i),(9,.dat T1 (rd (Ty.z T1) l1 (i64.wrap ((List.length l1:Int) - (1:Int))))),(10,P0 2 0)],[(0,.cells [(.d T1 n.1),(.d T8 n.2)]),(1,.arr 33 T1 l1),(2,.cells [(.d .str ((rd (Ty.z T6) n.2 i).1)),(.d T2 (((rd (Ty.z T6) n.2 i).2).1)),(.d T2 (((rd (Ty.z T6) n.2 i).2).2))])],3⟩)]) (fun z81b=>[(1,⟨[(2,.raw false [N0]),(3,D0 0),(4,D0 4)],[],0⟩)]) z81,?_,?_⟩
     ·have q := hz81
      clear hz81
      unfold f79_j60 at q
      obtain ⟨z82,hz82,q⟩ := bE q
      refine OQ ⟨[(0,⟨[(1,P0 0 0),(5,O0 1),(6,.dat T2 all),(7,.dat .bool great),(8,.dat T2 i),(9,.dat T1 (rd (Ty.z T1) l1 (i64.wrap ((List.length l1:Int) - (1:Int))))),(10,P0 2 0),(127,.dat .bool z82)],[(0,.cells [(.d T1 n.1),(.d T8 n.2)]),(1,.arr 33 T1 l1),(2,.cells [(.d .str ((rd (Ty.z T6) n.2 i).1)),(.d T2 (((rd (Ty.z T6) n.2 i).2).1)),(.d T2 (((rd (Ty.z T6) n.2 i).2).2))])],3⟩)],?_,?_⟩
      ·have q := hz82
       clear hz82
       unfold f79_j61 at q
       refine EI (.take 0 (.take 1 (.take 2 (.take 3 (.take 4 (.take 5 (.take 6 (.take 7 (.take 8 (.take 9 (.take 10 .done))))))))))) (EI [] (EI [] (AI rfl (cN q (fun q=>?_) (fun q=>?_)))))
       ·refine gY (gY (gY (gI q (fun q=>?_))))
        refine gY (gY (cF ?_))
        cases sE q
        refine E4 I3 (R6 (AI (R3 TV) (R3 TV)))
       refine gN (gN (gN (gN (gN (cT ?_)))))
       cases sE q
       refine E4 I3 (R6 (AI (R3 TV) (R3 TV)))
      refine AI (cI q (fun q=>?_) (fun q=>?_)) TV
      ·cases sE q
       refine OL (E4 [] (R3 (AJ TV)))
      cases sE q
      refine E4 I3 (R5 (AI (R3 TV) (R3 TV)))
     rcases z81 with z81a | z81b
     ·dsimp only [sumF] at q
      refine AI (EI (.take 0 (.take 1 (.take 2 (.take 3 (.take 4 (.take 5 (.take 6 (.take 7 (.take 8 (.alt 9 (.take 10 .done) .done)))))))))) (EI [] (EI [] (AI rfl (gI q (fun q=>?_)))))) TV
      refine gI q (fun q=>?_)
      refine gI q (fun q=>?_)
      refine AI TV (OL ?_)
      cases sE q
      refine E4 I2 (R5 (AI (R2 TV) (R2 TV)))
     dsimp only [sumF] at q
     refine AI ?_ TV
     cases sE q
     refine E4 [] (R3 (AJ TV))
    refine OL (cI q (fun q=>?_) (fun q=>?_))
    ·obtain ⟨z84,hz84,q⟩ := bE q
     refine OQ ⟨[(0,⟨[(1,P0 0 0),(5,O0 1),(6,.dat T2 all),(7,.dat .bool great),(8,.dat T2 i),(9,.dat T1 (rd (Ty.z T1) l1 (i64.wrap ((List.length l1:Int) - (1:Int))))),(162,.dat .bool z84)],[(0,.cells [(.d T1 n.1),(.d T8 n.2)]),(1,.arr 33 T1 l1)],2⟩)],?_,?_⟩
     ·have q := hz84
      clear hz84
      unfold f79_j62 at q
      refine cN q (fun q=>?_) (fun q=>?_)
      ·refine gY (gY (gY (gY (gI q (fun q=>?_)))))
       refine gY (gY (gY (cF (cN q (fun q=>?_) (fun q=>?_)))))
       ·refine gY (gY (gY (gY (gI q (fun q=>?_)))))
        refine gY (gY (gY ?_))
        obtain ⟨r85,hr85,q⟩ := bE q
        refine OL (AI f73_in (cV (cQ C73 ((rd (Ty.z T1) l1 (i64.wrap ((List.length l1:Int) - (2:Int)))),(rd (Ty.z T1) l1 (i64.wrap ((List.length l1:Int) - (1:Int))))) r85 [] false C73_holds hr85 rfl rfl (R2 (K0 (gY (cF ?_)))))))
        cases sE q
        refine E4 I2 (R6 (AI (R2 TV) (R2 TV)))
       refine gN (gN (gN (gN (gN (gN (gN (gN (cT ?_))))))))
       cases sE q
       refine E4 I2 (R6 (AI (R2 TV) (R2 TV)))
      refine gN (gN (gN (gN (gN (gN (gN (cT (gN (gN (gN (gN (gN (gN (gN (gN (gN (cT ?_)))))))))))))))))
      cases sE q
      refine E4 I2 (R6 (AI (R2 TV) (R2 TV)))
     refine AI (cI q (fun q=>?_) (fun q=>?_)) TV
     ·cases sE q
      refine OL (E4 [] (R3 (AJ TV)))
     cases sE q
     refine E4 I2 (R5 (AI (R2 TV) (R2 TV)))
    cases sE q
    refine E4 I2 (R5 (AI (R2 TV) (R2 TV)))
   rcases z73 with z73a | z73b
   ·dsimp only [sumF] at q
    refine AI ?_ TV
    obtain ⟨z87,hz87,q⟩ := bE q
    refine OQ ⟨[(0,⟨[(1,P0 0 0),(5,O0 1),(6,.dat T2 z73a.1),(7,.dat .bool z87),(8,.dat T2 i),(9,.dat T1 z73a.2.2)],[(0,.cells [(.d T1 n.1),(.d T8 n.2)]),(1,.arr 33 T1 l1)],2⟩)],?_,?_⟩
    ·have q := hz87
     clear hz87
     unfold f79_j63 at q
     refine cN q (fun q=>?_) (fun q=>?_)
     ·refine gY ?_
      obtain ⟨r88,hr88,q⟩ := bE q
      refine OL (AI f133_in (cV (cQ C133 z73a.2.2 r88 [] false C133_holds hr88 rfl rfl (AI rfl (K0 (gY (cF ?_)))))))
      cases sE q
      refine E4 I2 (R5 (AI (R2 TV) (R2 TV)))
     refine gN (gN (cT ?_))
     cases sE q
     refine E4 I2 (R5 (AI (R2 TV) (R2 TV)))
    refine AI ?_ TV
    obtain ⟨z89,hz89,q⟩ := bE q
    refine OQ ⟨[(0,⟨[(1,P0 0 0),(5,O0 1),(6,.dat T2 z89.1),(7,.dat .bool z89.2),(8,.dat T2 i),(9,.dat T1 z73a.2.2)],[(0,.cells [(.d T1 n.1),(.d T8 n.2)]),(1,.arr 33 T1 l1)],2⟩)],?_,?_⟩
    ·have q := hz89
     clear hz89
     unfold f79_j64 at q
     refine OL (cI q (fun q=>?_) (fun q=>?_))
     ·cases sE q
      refine OL (E4 I2 (R5 (AI (R2 TV) (R2 TV))))
     cases sE q
     refine E4 I2 (R5 (AI (R2 TV) (R2 TV)))
    refine AI (OL (OL (gI q (fun q=>?_)))) TV
    refine OL (OL (gI q (fun q=>?_)))
    refine EI (z89.1,z89.2,(i64.wrap (i + (1:Int))),(l1 ++ ([(([] : LI) ++ z73a.2.2)]))) (AI q (E4 [(0,some 0),(1,some 5)] (R4 (AI (R2 TV) (R2 TV)))))
   dsimp only [sumF] at q
   refine AI ?_ TV
   cases sE q
   refine E4 [] (R3 (AJ TV))
  cases sE q
  refine E4 I2 (R3 (AI (R2 TV) (R2 TV)))
 rcases z60 with z60a | z60b
 ·dsimp only [sumF] at q
  refine AI ?_ TV
  cases sE q
  refine AI rfl (E4 [(0,none)] (R3 (AJ (AI rfl TV))))
 dsimp only [sumF] at q
 refine AI ?_ TV
 obtain ⟨z93,hz93,q⟩ := bE q
 refine OQ ⟨Sum.elim (fun z93a=>[(0,⟨[(5,O0 0),(6,.dat T2 z60b.1)],[(0,.arr 33 T1 z60b.2.2)],1⟩)]) (fun z93b=>[(1,⟨[(2,.raw false [N0]),(3,D0 0),(4,D0 2)],[],0⟩)]) z93,?_,?_⟩
 ·have q := hz93
  clear hz93
  unfold f79_j66 at q
  obtain ⟨z95,hz95,q⟩ := bE q
  refine OQ ⟨[(0,⟨[(5,O0 0),(6,.dat T2 z60b.1),(183,.dat .bool z95)],[(0,.arr 33 T1 z60b.2.2)],1⟩)],?_,?_⟩
  ·have q := hz95
   clear hz95
   unfold f79_j67 at q
   refine cN q (fun q=>?_) (fun q=>?_)
   ·refine gY (gY ?_)
    obtain ⟨r96,hr96,q⟩ := bE q
    refine OL (AI f133_in (cV (cQ C133 n.1 r96 [] false C133_holds hr96 rfl rfl (AI rfl (K0 (gY (cF ?_)))))))
    cases sE q
    refine E4 [(0,some 1)] (R3 (AJ (AI rfl TV)))
   refine gN (gN (gN (cT ?_)))
   cases sE q
   refine E4 [(0,some 1)] (R3 (AJ (AI rfl TV)))
  refine AI (cI q (fun q=>?_) (fun q=>?_)) TV
  ·cases sE q
   refine OL (E4 [] (R3 (AJ TV)))
  cases sE q
  refine E4 [(0,some 0)] (R2 (AJ (AI rfl TV)))
 rcases z93 with z93a | z93b
 ·dsimp only [sumF] at q
  refine AI (OL ?_) TV
  cases sE q
  refine AI rfl (E4 [(0,some 0)] (R3 (AJ (AI rfl TV))))
 dsimp only [sumF] at q
 refine AI ?_ TV
 cases sE q
 refine AI rfl (E4 [(0,none)] (R3 (AJ (AI rfl TV))))
theorem C79_holds : HP C79 79 := hH Tryz.f79 (by kernel_rfl) rfl (fun x y q=>C79_vc x y q)
theorem f79_in : InP 79 := inP (by kernel_rfl)
def f30_j1 (n : LI×(List (ByteArray×Int×Int))) : Option (Sum Unit Unit) :=
 bif (decide ((List.length n.1:Int) > (4:Int))) then
 some (Sum.inr ())
 else
 bif (decide ((List.length n.2:Int) > (6:Int))) then
 some (Sum.inr ())
 else
 some (Sum.inl ())
def f30 (n : LI×(List (ByteArray×Int×Int))) : Option (Int×Bool) :=
 bindF (f30_j1 n) fun z1 =>
 sumF z1 (fun z1a =>
 bindF (f35 (n.1,n.2)) fun r2 =>
 bindF (f79 (r2.1,r2.2)) fun r3 =>
 bif (r3.2.1 == (0:Int)) then
 some (r3.1,(decide (r3.1 ≤ (80:Int))))
 else
 some (r3.1,false)) (fun z1b =>
 some ((0:Int),false))
def C30 : Con where
 X := LI×(List (ByteArray×Int×Int))
 Y := Int×Bool
 e := 0
 args x := [.dat T7 x]
 hin x := []
 F x := f30 x
 ret y := [.dat T2 y.1,.dat .bool y.2]
 hout y := []
 nout := 0
theorem C30_vc (n : LI×(List (ByteArray×Int×Int))) (y : Int×Bool) (q : f30 n = some y) : VC Tryz.f30 C30 n y := by
 unfold f30 at q
 refine OL ?_
 obtain ⟨z1,hz1,q⟩ := bE q
 refine OQ ⟨Sum.elim (fun z1a=>[(0,⟨[(1,P0 0 0)],[(0,.cells [(.d T1 n.1),(.d T8 n.2)])],1⟩)]) (fun z1b=>[(1,⟨[(2,D0 0),(3,.dat .bool false)],[],0⟩)]) z1,?_,?_⟩
 ·have q := hz1
  clear hz1
  unfold f30_j1 at q
  refine OL (cN q (fun q=>?_) (fun q=>?_))
  ·refine gY (gY (gY (cF (cI q (fun q=>?_) (fun q=>?_)))))
   ·cases sE q
    refine OL (E4 [] (R3 (AI TV TV)))
   cases sE q
   refine E4 [(0,some 0)] (AI rfl (AJ (AI rfl TV)))
  refine gN (gN (gN (cT (cT (OL ?_)))))
  cases sE q
  refine E4 [] (R3 (AI TV TV))
 rcases z1 with z1a | z1b
 ·dsimp only [sumF] at q
  refine AI (OL ?_) TV
  obtain ⟨r2,hr2,q⟩ := bE q
  refine OL (AI f35_in (cV (cQ C35 (n.1,n.2) r2 [] false C35_holds hr2 rfl rfl (R2 (K0 ?_)))))
  obtain ⟨r3,hr3,q⟩ := bE q
  refine OL (AI f79_in (cV (cQ C79 (r2.1,r2.2) r3 [] false C79_holds hr3 rfl rfl (R2 (K0 (OL (cI q (fun q=>?_) (fun q=>?_))))))))
  ·refine gX (cT ?_)
   cases sE q
   refine AI rfl (E4 [] (R3 (AI TV TV)))
  refine gM (cF ?_)
  cases sE q
  refine AI rfl (E4 [] (R3 (AI TV TV)))
 dsimp only [sumF] at q
 refine AI ?_ TV
 cases sE q
 refine AI rfl (E4 [] (R3 (AI TV TV)))
theorem C30_holds : HP C30 30 := hH Tryz.f30 (by kernel_rfl) rfl (fun x y q=>C30_vc x y q)
theorem f30_in : InP 30 := inP (by kernel_rfl)
def f31 (e : LI×LI×Int) : Option Bool :=
 bif (decide ((List.length e.1:Int) ≤ (60:Int))) then
 some (decide ((List.length e.2.1:Int) ≤ (60:Int)))
 else
 some false
def C31 : Con where
 X := LI×LI×Int
 Y := Bool
 e := 0
 args x := [.dat T10 x]
 hin x := []
 F x := f31 x
 ret y := [.dat .bool y]
 hout y := []
 nout := 0
theorem C31_vc (e : LI×LI×Int) (y : Bool) (q : f31 e = some y) : VC Tryz.f31 C31 e y := by
 unfold f31 at q
 refine OL (OL (cI q (fun q=>?_) (fun q=>?_)))
 ·refine gX (gX (gX (cT ?_)))
  cases sE q
  refine AI rfl (E4 [] (R2 (AI TV TV)))
 refine gM (gM (gM (cF ?_)))
 cases sE q
 refine AI rfl (E4 [] (R2 (AI TV TV)))
theorem C31_holds : HP C31 31 := hH Tryz.f31 (by kernel_rfl) rfl (fun x y q=>C31_vc x y q)
theorem f31_in : InP 31 := inP (by kernel_rfl)
def f32_j4 (l : LI) (n:Int) (i:Int) : Option (Sum Unit Unit) :=
 bif (decide (i < n)) then
 bif (decide ((List.length l:Int) > (0:Int))) then
 some (Sum.inl ())
 else
 some (Sum.inr ())
 else
 some (Sum.inr ())
def f32_l3 (l : LI) (n:Int) (go : (Int×LI) → Option LI) (i:Int) (l0 : LI) : Option LI :=
 bindF (f32_j4 l n i) fun z4 =>
 sumF z4 (fun z4a =>
 guardF ((List.length l:Int) ≠ 0) <|
 guardF (0 ≤ (Int.tmod i (List.length l:Int)) ∧ (Int.tmod i (List.length l:Int)) < (List.length l:Int)) <|
 guardF (0 ≤ i ∧ i < (List.length l0:Int)) <|
 go ((i64.wrap (i + (1:Int))),(List.set l0 (Int.toNat i) (rd (0:Int) l (Int.tmod i (List.length l:Int)))))) (fun z4b =>
 some l0)
def f32 (l : LI) (n:Int) : Option LI :=
 guardF (0 ≤ n ∧ n ≤ n ∧ Int.toNat n * 8 ≤ 140737488355328) <|
 bindF (loopF (fun go x=>f32_l3 l n go x.1 x.2) fuelN ((0:Int),(List.replicate (Int.toNat n) (0:Int)))) fun z3 =>
 some z3
def C32 : Con where
 X := LI×Int
 Y := LI
 e := 0
 args x := [.dat T1 x.1,.dat T2 x.2]
 hin x := []
 F x := f32 x.1 x.2
 ret y := [O0 0]
 hout y := [(0,.arr 40 T2 y)]
 nout := 1
theorem C32_vc (l : LI) (n:Int) (y : LI) (q : f32 l n = some y) : VC Tryz.f32 C32 (l,n) y := by
 unfold f32 at q
 refine OL (OL (gI q (fun q=>?_)))
 refine OL (OL ?_)
 obtain ⟨z3,hz3,q⟩ := bE q
 refine lI (Int×LI) LI (fun x=>⟨[(0,.dat T1 l),(1,.dat T2 n),(5,O0 0),(6,.dat T2 x.1)],[(0,.arr 40 T2 x.2)],1⟩) (fun z=>[(2,⟨[(5,O0 0)],[(0,.arr 40 T2 z)],1⟩)]) (loopF (fun go x=>f32_l3 l n go x.1 x.2)) fuelN ((0:Int),(List.replicate (Int.toNat n) (0:Int))) z3 (AI hz3 (AI (E4 [(0,some 0)] (R4 (AJ (AI rfl TV)))) (AI (fun _ _ h=>lZ h) (AI (fun m=>curI (fun i=>fun l0 z q=>?_)) ?_))))
 ·have q : f32_l3 l n (loopF (fun go x=>f32_l3 l n go x.1 x.2) m) i l0 = some z := q
  unfold f32_l3 at q
  obtain ⟨z4,hz4,q⟩ := bE q
  refine OQ ⟨Sum.elim (fun z4a=>[(0,⟨[(0,.dat T1 l),(1,.dat T2 n),(5,O0 0),(6,.dat T2 i)],[(0,.arr 40 T2 l0)],1⟩)]) (fun z4b=>[(2,⟨[(5,O0 0)],[(0,.arr 40 T2 l0)],1⟩)]) z4,?_,?_⟩
  ·have q := hz4
   clear hz4
   unfold f32_j4 at q
   refine OL (cI q (fun q=>?_) (fun q=>?_))
   ·refine gX (gX (cT (cI q (fun q=>?_) (fun q=>?_))))
    ·cases sE q
     refine E4 [(0,some 0)] (R4 (AJ (AI rfl TV)))
    cases sE q
    refine E4 [(0,some 0)] (AI rfl (AJ (AI rfl TV)))
   refine gM (gM (cF (cF ?_)))
   cases sE q
   refine E4 [(0,some 0)] (AI rfl (AJ (AI rfl TV)))
  rcases z4 with z4a | z4b
  ·dsimp only [sumF] at q
   refine AI (OL (gI q (fun q=>?_))) TV
   refine gI q (fun q=>?_)
   refine gI q (fun q=>?_)
   refine OL (EI ((i64.wrap (i + (1:Int))),(List.set l0 (Int.toNat i) (rd (0:Int) l (Int.tmod i (List.length l:Int))))) (AI q (E4 [(0,some 0)] (R4 (AJ (AI rfl TV))))))
  dsimp only [sumF] at q
  refine AI ?_ TV
  cases sE q
  refine E4 [(0,some 0)] (AI rfl (AJ (AI rfl TV)))
 refine AI (OL ?_) TV
 cases sE q
 refine AI rfl (E4 [(0,some 0)] (AI rfl (AJ (AI rfl TV))))
theorem C32_holds : HP C32 32 := hH Tryz.f32 (by kernel_rfl) rfl (fun x y q=>C32_vc x.1 x.2 y q)
theorem f32_in : InP 32 := inP (by kernel_rfl)
def f40_l1 (a : List (Int×Int)) (b : List (Int×Int)) (go : Int → Option (Sum Unit Unit)) (i:Int) : Option (Sum Unit Unit) :=
 bif (decide (i < (List.length a:Int))) then
 guardF (0 ≤ i ∧ i < (List.length a:Int)) <|
 guardF (0 ≤ i ∧ i < (List.length b:Int)) <|
 bif (!(((rd (Ty.z T5) a i).1) == ((rd (Ty.z T5) b i).1) && ((rd (Ty.z T5) a i).2) == ((rd (Ty.z T5) b i).2))) then
 some (Sum.inl ())
 else
 go (i64.wrap (i + (1:Int)))
 else
 some (Sum.inr ())
def f40 (a : List (Int×Int)) (b : List (Int×Int)) : Option Bool :=
 bif ((List.length a:Int) != (List.length b:Int)) then
 some false
 else
 bindF (loopF (fun go x=>f40_l1 a b go x) fuelN (0:Int)) fun z1 =>
 sumF z1 (fun z1a =>
 some false) (fun z1b =>
 some true)
def C40 : Con where
 X := (List (Int×Int))×(List (Int×Int))
 Y := Bool
 e := 0
 args x := [.dat T12 x.1,.dat T12 x.2]
 hin x := []
 F x := f40 x.1 x.2
 ret y := [.dat .bool y]
 hout y := []
 nout := 0
theorem C40_vc (a : List (Int×Int)) (b : List (Int×Int)) (y : Bool) (q : f40 a b = some y) : VC Tryz.f40 C40 (a,b) y := by
 unfold f40 at q
 refine OL (OL (OL (cI q (fun q=>?_) (fun q=>?_))))
 ·cases sE q
  refine OL (AI rfl (E4 [] (R2 (AI TV TV))))
 refine OL (OL ?_)
 obtain ⟨z1,hz1,q⟩ := bE q
 refine lI Int (Sum Unit Unit) (fun x=>⟨[(0,.dat T12 a),(1,.dat T12 b),(5,.dat T2 x)],[],0⟩) (fun z=>Sum.elim (fun za=>[(1,⟨[(4,.dat .bool false)],[],0⟩)]) (fun zb=>[(2,⟨[],[],0⟩)]) z) (loopF (fun go x=>f40_l1 a b go x)) fuelN (0:Int) z1 (AI hz1 (AI (E4 [] (R4 (AI TV TV))) (AI (fun _ _ h=>lZ h) (AI (fun m=>fun i z q=>?_) ?_))))
 ·have q : f40_l1 a b (loopF (fun go x=>f40_l1 a b go x) m) i = some z := q
  unfold f40_l1 at q
  refine OL (OL (cI q (fun q=>?_) (fun q=>?_)))
  ·refine OL (OL (EI (.take 0 (.take 1 (.take 2 (.take 3 (.take 4 (.take 5 (.take 6 (.take 7 (.take 8 .done))))))))) (EI [] (EI [] (AI rfl (gI q (fun q=>?_)))))))
   refine gI q (fun q=>?_)
   refine AI ⟨by kernel_rfl,by kernel_rfl,by decide,by decide⟩ ?_
   refine cI q (fun q=>?_) (fun q=>?_)
   ·cases sE q
    refine OL (E4 [] (R2 (AI TV TV)))
   refine EI (i64.wrap (i + (1:Int))) (AI q (E4 [] (R4 (AI TV TV))))
  cases sE q
  refine E4 [] (AI rfl (AI TV TV))
 rcases z1 with z1a | z1b
 ·dsimp only [sumF] at q
  refine AI ?_ TV
  cases sE q
  refine AI rfl (E4 [] (R2 (AI TV TV)))
 dsimp only [sumF] at q
 refine AI (OL ?_) TV
 cases sE q
 refine AI rfl (E4 [] (R2 (AI TV TV)))
theorem C40_holds : HP C40 40 := hH Tryz.f40 (by kernel_rfl) rfl (fun x y q=>C40_vc x.1 x.2 y q)
theorem f40_in : InP 40 := inP (by kernel_rfl)
def f41_l1 (a : List (Int×Int)) (b : List (Int×Int)) (go : (Int×(List (Int×Int))) → Option (List (Int×Int))) (v16:Int) (l0 : List (Int×Int)) : Option (List (Int×Int)) :=
 bif (decide (v16 < (List.length a:Int))) then
 guardF (0 ≤ v16 ∧ v16 < (List.length a:Int)) <|
 guardF (0 ≤ v16 ∧ v16 < (List.length b:Int)) <|
 bindF (f42 ((rd (Ty.z T5) a v16).1,(rd (Ty.z T5) a v16).2) ((rd (Ty.z T5) b v16).1,(rd (Ty.z T5) b v16).2)) fun q7_6 =>
 guardF ((List.length l0 + List.length ([(q7_6.1,q7_6.2)])) * 16 ≤ 140737488355328) <|
 go ((i64.wrap (v16 + (1:Int))),(l0 ++ ([(q7_6.1,q7_6.2)])))
 else
 some l0
def f41 (a : List (Int×Int)) (b : List (Int×Int)) : Option (Int×(List (Int×Int))) :=
 bif ((List.length a:Int) != (List.length b:Int)) then
 some ((4:Int),[])
 else
 bindF (loopF (fun go x=>f41_l1 a b go x.1 x.2) fuelN ((0:Int),[])) fun z1 =>
 some ((0:Int),z1)
def C41 : Con where
 X := (List (Int×Int))×(List (Int×Int))
 Y := Int×(List (Int×Int))
 e := 0
 args x := [.dat T12 x.1,.dat T12 x.2]
 hin x := []
 F x := f41 x.1 x.2
 ret y := [O0 0,.dat T2 y.1]
 hout y := [(0,.arr 79 T5 y.2)]
 nout := 1
theorem C41_vc (a : List (Int×Int)) (b : List (Int×Int)) (y : Int×(List (Int×Int))) (q : f41 a b = some y) : VC Tryz.f41 C41 (a,b) y := by
 unfold f41 at q
 refine OL (OL (OL (cI q (fun q=>?_) (fun q=>?_))))
 ·cases sE q
  refine OL (AI rfl (E4 [(0,none)] (R2 (AJ (AI rfl TV)))))
 refine OL (OL (OL ?_))
 obtain ⟨z1,hz1,q⟩ := bE q
 refine lI (Int×(List (Int×Int))) (List (Int×Int)) (fun x=>⟨[(1,.dat T12 b),(6,O0 0),(14,.dat T12 a),(15,.dat T2 (List.length a:Int)),(16,.dat T2 x.1)],[(0,.arr 79 T5 x.2)],1⟩) (fun z=>[(2,⟨[(6,O0 0)],[(0,.arr 79 T5 z)],1⟩)]) (loopF (fun go x=>f41_l1 a b go x.1 x.2)) fuelN ((0:Int),[]) z1 (AI hz1 (AI (E4 [(0,none)] (R5 (AJ (AI rfl TV)))) (AI (fun _ _ h=>lZ h) (AI (fun m=>curI (fun v16=>fun l0 z q=>?_)) ?_))))
 ·have q : f41_l1 a b (loopF (fun go x=>f41_l1 a b go x.1 x.2) m) v16 l0 = some z := q
  unfold f41_l1 at q
  refine OL (OL (cI q (fun q=>?_) (fun q=>?_)))
  ·refine OL (OL (gI q (fun q=>?_)))
   refine OL (EI (.take 0 (.take 1 (.take 2 (.take 3 (.take 4 (.take 5 (.alt 6 (.alt 7 (.alt 8 (.take 9 .done) .done) .done) .done))))))) (EI [] (EI [] (AI rfl (gI q (fun q=>?_))))))
   refine AI TV ?_
   obtain ⟨q7_6,hq7_6,q⟩ := bE q
   refine OL (AI f42_in (cV (cQ C42 (((rd (Ty.z T5) a v16).1,(rd (Ty.z T5) a v16).2),((rd (Ty.z T5) b v16).1,(rd (Ty.z T5) b v16).2)) q7_6 [] false C42_holds hq7_6 rfl rfl (R4 (K0 (AI TV (OL (AI TV (OL (gI q (fun q=>?_)))))))))))
   refine EI ((i64.wrap (v16 + (1:Int))),(l0 ++ ([(q7_6.1,q7_6.2)]))) (AI q (E4 [(0,some 3)] (R5 (AJ (AI rfl TV)))))
  cases sE q
  refine E4 [(0,some 0)] (AI rfl (AJ (AI rfl TV)))
 refine AI (OL ?_) TV
 cases sE q
 refine AI rfl (E4 [(0,some 0)] (R2 (AJ (AI rfl TV))))
theorem C41_holds : HP C41 41 := hH Tryz.f41 (by kernel_rfl) rfl (fun x y q=>C41_vc x.1 x.2 y q)
theorem f41_in : InP 41 := inP (by kernel_rfl)
def f7_j1 (p_ : LI) (l : List (LI×LI×Int)) (cut:Int) (r1 : Int×Bool) : Option (Sum Unit Unit) :=
 bif (!r1.2) then
 some (Sum.inr ())
 else
 bif (decide ((List.length l:Int) > (6:Int))) then
 some (Sum.inr ())
 else
 bif (decide ((List.length p_:Int) > (100:Int))) then
 some (Sum.inr ())
 else
 bif (decide (cut < (0:Int))) then
 some (Sum.inr ())
 else
 bif (decide (cut > (List.length l:Int))) then
 some (Sum.inr ())
 else
 some (Sum.inl ())
def f7_l2 (l : List (LI×LI×Int)) (go : Int → Option (Sum Unit Unit)) (i:Int) : Option (Sum Unit Unit) :=
 bif (decide (i < (List.length l:Int))) then
 guardF (0 ≤ i ∧ i < (List.length l:Int)) <|
 bindF (f31 ((rd (Ty.z T10) l i).1,((rd (Ty.z T10) l i).2).1,((rd (Ty.z T10) l i).2).2)) fun r6 =>
 bif (!r6) then
 some (Sum.inl ())
 else
 go (i64.wrap (i + (1:Int)))
 else
 some (Sum.inr ())
def f7_j3 (n : LI×(List (ByteArray×Int×Int))) (kind:Int) (l : List (LI×LI×Int)) (cut:Int) (r7 : LI) : Option (Int×(List (Int×Int))×Int×Int) :=
 guardF (0 ≤ cut ∧ cut ≤ (List.length l:Int)) <|
 bindF (f38 (n.1,n.2) kind r7 (List.take (Int.toNat cut) l)) fun q15_6 =>
 some (q15_6.2.2.1,q15_6.2.2.2,q15_6.1,q15_6.2.1)
def f7_j4 (n : LI×(List (ByteArray×Int×Int))) (kind:Int) (l : List (LI×LI×Int)) (cut:Int) (r7 : LI) : Option (Int×(List (Int×Int))×Int×Int) :=
 guardF (0 ≤ cut ∧ cut ≤ (List.length l:Int)) <|
 bindF (f38 (n.1,n.2) kind r7 (List.drop (Int.toNat cut) l)) fun q16_6 =>
 some (q16_6.2.2.1,q16_6.2.2.2,q16_6.1,q16_6.2.1)
def f7 (n : LI×(List (ByteArray×Int×Int))) (kind:Int) (p_ : LI) (l : List (LI×LI×Int)) (cut:Int) : Option Bool :=
 bindF (f29) fun q19_31 =>
 bif (!q19_31) then
 some false
 else
 bindF (f30 (n.1,n.2)) fun r1 =>
 bindF (f7_j1 p_ l cut r1) fun z2 =>
 sumF z2 (fun z2a =>
 bindF (loopF (fun go x=>f7_l2 l go x) fuelN (0:Int)) fun z5 =>
 sumF z5 (fun z5a =>
 some true) (fun z5b =>
 bindF (f32 p_ r1.1) fun r7 =>
 bindF (f38 (n.1,n.2) kind r7 l) fun r8 =>
 bif (r8.2.2.1 != (0:Int)) then
 some true
 else
 bindF (f7_j3 n kind l cut r7) fun z9 =>
 bindF (f7_j4 n kind l cut r7) fun z10 =>
 bindF (f41 z9.2.1 z10.2.1) fun q16_14 =>
 bindF (f41 z10.2.1 z9.2.1) fun r11 =>
 bif (z9.1 == (0:Int)) then
 bif (z10.1 == (0:Int)) then
 bif (q16_14.1 == (0:Int)) then
 bif (r11.1 == (0:Int)) then
 bindF (f40 q16_14.2 r8.2.2.2) fun q19_17 =>
 bif q19_17 then
 bindF (f40 r11.2 r8.2.2.2) fun q19_22 =>
 bif q19_22 then
 bindF (f42 (z9.2.2.1,z9.2.2.2) (z10.2.2.1,z10.2.2.2)) fun q19_27 =>
 some (q19_27.1 == r8.1 && q19_27.2 == r8.2.1)
 else
 some false
 else
 some false
 else
 some false
 else
 some false
 else
 some false
 else
 some false)) (fun z2b =>
 some true)
def C7 : Con where
 X := (LI×(List (ByteArray×Int×Int)))×Int×LI×(List (LI×LI×Int))×Int
 Y := Bool
 e := 0
 args x := [.dat T7 x.1,.dat T2 x.2.1,.dat T1 x.2.2.1,.dat T11 x.2.2.2.1,.dat T2 x.2.2.2.2]
 hin x := []
 F x := f7 x.1 x.2.1 x.2.2.1 x.2.2.2.1 x.2.2.2.2
 ret y := [.dat .bool y]
 hout y := []
 nout := 0
theorem C7_vc (n : LI×(List (ByteArray×Int×Int))) (kind:Int) (p_ : LI) (l : List (LI×LI×Int)) (cut:Int) (y : Bool) (q : f7 n kind p_ l cut = some y) : VC Tryz.f7 C7 (n,kind,p_,l,cut) y := by
 unfold f7 at q
 refine OL (OL (OL ?_))
 obtain ⟨q19_31,hq19_31,q⟩ := bE q
 refine OL (AI f29_in (cV (cQ C29 () q19_31 [] false C29_holds hq19_31 rfl rfl (K0 (cI q (fun q=>?_) (fun q=>?_))))))
 ·cases sE q
  refine OL (AI rfl (E4 [] (R2 (AI TV TV))))
 refine OL ?_
 obtain ⟨r1,hr1,q⟩ := bE q
 refine OL (AI f30_in (cV (cQ C30 (n.1,n.2) r1 [] false C30_holds hr1 rfl rfl (R2 (K0 ?_)))))
 obtain ⟨z2,hz2,q⟩ := bE q
 refine OQ ⟨Sum.elim (fun z2a=>[(0,⟨[(1,.dat T2 kind),(2,.dat T1 p_),(3,.dat T11 l),(4,.dat T2 cut),(5,P0 0 0),(11,.dat T2 r1.1)],[(0,.cells [(.d T1 n.1),(.d T8 n.2)])],1⟩)]) (fun z2b=>[(1,⟨[(10,.dat .bool true)],[],0⟩)]) z2,?_,?_⟩
 ·have q := hz2
  clear hz2
  unfold f7_j1 at q
  refine OL (cN q (fun q=>?_) (fun q=>?_))
  ·refine gY (gY (cF (cN q (fun q=>?_) (fun q=>?_))))
   ·refine gY (gY (cF (cN q (fun q=>?_) (fun q=>?_))))
    ·refine gY (cF (cN q (fun q=>?_) (fun q=>?_)))
     ·refine gY (gY (gY (cF (cI q (fun q=>?_) (fun q=>?_)))))
      ·cases sE q
       refine OL (E4 [] (R2 (AI TV TV)))
      cases sE q
      refine E4 [(0,some 0)] (R6 (AJ (AI rfl TV)))
     refine gN (gN (gN (cT (cT (OL ?_)))))
     cases sE q
     refine E4 [] (R2 (AI TV TV))
    refine gN (cT (gN (gN (gN (gN (cT (cT (OL ?_))))))))
    cases sE q
    refine E4 [] (R2 (AI TV TV))
   refine gN (gN (cT (gN (gN (cT (gN (gN (gN (gN (cT (cT (OL ?_))))))))))))
   cases sE q
   refine E4 [] (R2 (AI TV TV))
  refine gN (gN (cT (gN (gN (gN (cT (gN (gN (cT (gN (gN (gN (gN (cT (cT (OL ?_))))))))))))))))
  cases sE q
  refine E4 [] (R2 (AI TV TV))
 rcases z2 with z2a | z2b
 ·dsimp only [sumF] at q
  refine AI (OL (OL ?_)) TV
  obtain ⟨z5,hz5,q⟩ := bE q
  refine lI Int (Sum Unit Unit) (fun x=>⟨[(1,.dat T2 kind),(2,.dat T1 p_),(3,.dat T11 l),(4,.dat T2 cut),(5,P0 0 0),(11,.dat T2 r1.1),(13,.dat T2 x)],[(0,.cells [(.d T1 n.1),(.d T8 n.2)])],1⟩) (fun z=>Sum.elim (fun za=>[(1,⟨[(10,.dat .bool true)],[],0⟩)]) (fun zb=>[(2,⟨[(1,.dat T2 kind),(2,.dat T1 p_),(3,.dat T11 l),(4,.dat T2 cut),(5,P0 0 0),(11,.dat T2 r1.1)],[(0,.cells [(.d T1 n.1),(.d T8 n.2)])],1⟩)]) z) (loopF (fun go x=>f7_l2 l go x)) fuelN (0:Int) z5 (AI hz5 (AI (E4 [(0,some 0)] (R7 (AJ (AI rfl TV)))) (AI (fun _ _ h=>lZ h) (AI (fun m=>fun i z q=>?_) ?_))))
  ·have q : f7_l2 l (loopF (fun go x=>f7_l2 l go x) m) i = some z := q
   unfold f7_l2 at q
   refine OL (OL (cI q (fun q=>?_) (fun q=>?_)))
   ·refine OL (OL (gI q (fun q=>?_)))
    obtain ⟨r6,hr6,q⟩ := bE q
    refine OL (AI f31_in (cV (cQ C31 ((rd (Ty.z T10) l i).1,((rd (Ty.z T10) l i).2).1,((rd (Ty.z T10) l i).2).2) r6 [] false C31_holds hr6 rfl rfl (R2 (K0 (cI q (fun q=>?_) (fun q=>?_)))))))
    ·cases sE q
     refine OL (E4 [] (R2 (AI TV TV)))
    refine EI (i64.wrap (i + (1:Int))) (AI q (E4 [(0,some 0)] (R7 (AJ (AI rfl TV)))))
   cases sE q
   refine E4 [(0,some 0)] (R6 (AJ (AI rfl TV)))
  rcases z5 with z5a | z5b
  ·dsimp only [sumF] at q
   refine AI ?_ TV
   cases sE q
   refine AI rfl (E4 [] (R2 (AI TV TV)))
  dsimp only [sumF] at q
  refine AI (OL ?_) TV
  obtain ⟨r7,hr7,q⟩ := bE q
  refine OL (AI f32_in (cV (cQ C32 (p_,r1.1) r7 [] false C32_holds hr7 rfl rfl (R2 (K0 (OL ?_))))))
  obtain ⟨r8,hr8,q⟩ := bE q
  refine OL (AI f38_in (cV (cQ C38 ((n.1,n.2),kind,r7,l) r8 [] true C38_holds hr8 rfl rfl (R5 (AI (fun _=>rfl) (R2 (AI TV (AI TV (OL (OL (OL (cI q (fun q=>?_) (fun q=>?_)))))))))))))
  ·cases sE q
   refine OL (AI rfl (E4 [] (R2 (AI TV TV))))
  obtain ⟨z9,hz9,q⟩ := bE q
  refine OQ ⟨[(0,⟨[(1,.dat T2 kind),(3,.dat T11 l),(4,.dat T2 cut),(5,P0 0 0),(14,O0 1),(15,O0 2),(16,P0 3 0),(18,O0 4),(19,P0 5 0),(20,.dat T2 z9.1)],[(0,.cells [(.d T1 n.1),(.d T8 n.2)]),(1,.arr 40 T2 r7),(2,.arr 79 T5 r8.2.2.2),(3,.cells [(.d T2 r8.1),(.d T4 r8.2.1)]),(4,.arr 79 T5 z9.2.1),(5,.cells [(.d T2 z9.2.2.1),(.d T4 z9.2.2.2)])],6⟩)],?_,?_⟩
  ·have q := hz9
   clear hz9
   unfold f7_j3 at q
   obtain ⟨g15_0,q⟩ := gE q
   obtain ⟨q15_6,hq15_6,q⟩ := bE q
   refine EI (.take 0 (.take 1 (.take 2 (.take 3 (.take 4 (.take 5 (.alt 6 (.take 7 (.take 8 (.take 9 (.take 10 (.alt 11 (.take 12 (.alt 13 (.take 14 .done) .done)) .done))))) (.alt 11 (.alt 6 (.take 7 (.take 8 (.take 9 (.take 10 (.take 12 (.alt 13 (.take 14 .done) .done)))))) .done) .done)))))))) (EI [] (EI [] (AI rfl (AI g15_0 (AI (AI TV ?_) ?_)))))
   ·refine AI TV (OL (AI f38_in (cV (cQ C38 ((n.1,n.2),kind,r7,(List.take (Int.toNat cut) l)) q15_6 [] true C38_holds hq15_6 rfl rfl (R5 (AI (fun _=>rfl) (R2 (AI TV (AI TV (AI TV (OL ?_)))))))))))
    cases sE q
    refine E4 [(0,some 0),(1,some 1),(2,some 2),(3,some 3),(4,some 5),(5,some 4)] (R5 (AI (R6 TV) (R6 TV)))
   refine OL (AI f38_in (cV (cQ C38 ((n.1,n.2),kind,r7,(List.take (Int.toNat cut) l)) q15_6 [] true C38_holds hq15_6 rfl rfl (R5 (AI (fun _=>rfl) (R2 (AI TV (AI TV (AI TV (AI TV (OL ?_)))))))))))
   cases sE q
   refine E4 I6 (R5 (AI (R6 TV) (R6 TV)))
  refine AI ?_ TV
  obtain ⟨z10,hz10,q⟩ := bE q
  refine OQ ⟨[(0,⟨[(15,O0 0),(16,P0 1 0),(18,O0 2),(19,P0 3 0),(20,.dat T2 z9.1),(21,O0 4),(22,P0 5 0),(23,.dat T2 z10.1)],[(0,.arr 79 T5 r8.2.2.2),(1,.cells [(.d T2 r8.1),(.d T4 r8.2.1)]),(2,.arr 79 T5 z9.2.1),(3,.cells [(.d T2 z9.2.2.1),(.d T4 z9.2.2.2)]),(4,.arr 79 T5 z10.2.1),(5,.cells [(.d T2 z10.2.2.1),(.d T4 z10.2.2.2)])],6⟩)],?_,?_⟩
  ·have q := hz10
   clear hz10
   unfold f7_j4 at q
   obtain ⟨g16_0,q⟩ := gE q
   obtain ⟨q16_6,hq16_6,q⟩ := bE q
   refine EI (.take 0 (.take 1 (.take 2 (.take 3 (.take 4 (.take 5 (.alt 6 (.take 7 (.take 8 (.take 9 (.take 10 (.alt 11 (.take 12 (.alt 13 (.take 14 .done) .done)) .done))))) (.alt 11 (.alt 6 (.take 7 (.take 8 (.take 9 (.take 10 (.take 12 (.alt 13 (.take 14 .done) .done)))))) .done) .done)))))))) (EI [] (EI [] (AI rfl (AI g16_0 (AI (AI TV ?_) ?_)))))
   ·refine AI TV (OL (AI f38_in (cV (cQ C38 ((n.1,n.2),kind,r7,(List.drop (Int.toNat cut) l)) q16_6 [] true C38_holds hq16_6 rfl rfl (R5 (AI (fun _=>rfl) (R2 (AI TV (AI TV (AI TV (OL ?_)))))))))))
    cases sE q
    refine E4 [(0,some 2),(1,some 3),(2,some 4),(3,some 5),(4,some 7),(5,some 6)] (R3 (AI (R6 TV) (R6 TV)))
   refine OL (AI f38_in (cV (cQ C38 ((n.1,n.2),kind,r7,(List.drop (Int.toNat cut) l)) q16_6 [] true C38_holds hq16_6 rfl rfl (R5 (AI (fun _=>rfl) (R2 (AI TV (AI TV (AI TV (AI TV (OL ?_)))))))))))
   cases sE q
   refine E4 [(0,some 2),(1,some 3),(2,some 4),(3,some 5),(4,some 6),(5,some 7)] (R3 (AI (R6 TV) (R6 TV)))
  refine AI (OL ?_) TV
  obtain ⟨q16_14,hq16_14,q⟩ := bE q
  refine OL (AI f41_in (cV (cQ C41 (z9.2.1,z10.2.1) q16_14 [] true C41_holds hq16_14 rfl rfl (R2 (AI (fun _=>rfl) (R2 (AI TV (AI TV (OL ?_)))))))))
  obtain ⟨r11,hr11,q⟩ := bE q
  refine OL (AI f41_in (cV (cQ C41 (z10.2.1,z9.2.1) r11 [] true C41_holds hr11 rfl rfl (R2 (AI (fun _=>rfl) (R2 (AI TV (AI TV (OL (EI (.take 0 (.take 1 (.take 2 (.take 3 (.take 4 (.take 5 (.take 6 (.take 7 (.take 8 (.take 9 (.take 10 (.take 11 (.take 12 (.take 13 (.take 14 (.take 15 (.take 16 (.alt 17 (.take 18 (.take 19 (.take 20 (.take 21 (.alt 22 (.take 23 (.take 24 (.take 25 (.take 26 (.take 28 (.alt 27 (.take 29 (.take 30 (.take 31 .done))) .done)))))) .done))))) .done)))))))))))))))))) (EI [] (EI [] (AI rfl (cI q (fun q=>?_) (fun q=>?_)))))))))))))))
  ·refine gX (cT (cI q (fun q=>?_) (fun q=>?_)))
   ·refine gX (cT (cI q (fun q=>?_) (fun q=>?_)))
    ·refine gX (cT (cI q (fun q=>?_) (fun q=>?_)))
     ·refine gX (AI TV (gX ?_))
      obtain ⟨q19_17,hq19_17,q⟩ := bE q
      refine OL (AI f40_in (cV (cQ C40 (q16_14.2,r8.2.2.2) q19_17 [] true C40_holds hq19_17 rfl rfl (R2 (AI (fun _=>rfl) (R2 (AI TV (AI TV (cT (cI q (fun q=>?_) (fun q=>?_)))))))))))
      ·refine gX (AI TV (gX ?_))
       obtain ⟨q19_22,hq19_22,q⟩ := bE q
       refine OL (AI f40_in (cV (cQ C40 (r11.2,r8.2.2.2) q19_22 [] true C40_holds hq19_22 rfl rfl (R2 (AI (fun _=>rfl) (R2 (AI TV (AI TV (cT (cI q (fun q=>?_) (fun q=>?_)))))))))))
       ·refine gX (gX (AI TV (gX ?_)))
        obtain ⟨q19_27,hq19_27,q⟩ := bE q
        refine OL (AI f42_in (cV (cQ C42 ((z9.2.2.1,z9.2.2.2),(z10.2.2.1,z10.2.2.2)) q19_27 [] false C42_holds hq19_27 rfl rfl (R4 (K0 (gX (AI ⟨by kernel_rfl,by kernel_rfl,by decide,by decide⟩ ?_)))))))
        cases sE q
        refine cT (AI rfl (E4 [] (R2 (AI TV TV))))
       refine gM (gM (AI TV (gM (gM (cF ?_)))))
       cases sE q
       refine AI rfl (E4 [] (R2 (AI TV TV)))
      refine gM (AI TV (gM (cF (gM (gM (gM (AI TV (gM (gM (cF ?_))))))))))
      cases sE q
      refine AI rfl (E4 [] (R2 (AI TV TV)))
     refine gM (AI TV (gM (cF (gM (gM (AI TV (gM (cF (gM (gM (gM (AI TV (gM (gM (cF ?_)))))))))))))))
     cases sE q
     refine AI rfl (E4 [] (R2 (AI TV TV)))
    refine gM (cF (gM (gM (AI TV (gM (cF (gM (gM (AI TV (gM (cF (gM (gM (gM (AI TV (gM (gM (cF ?_))))))))))))))))))
    cases sE q
    refine AI rfl (E4 [] (R2 (AI TV TV)))
   refine gM (cF (gM (gM (cF (gM (gM (AI TV (gM (cF (gM (gM (AI TV (gM (cF (gM (gM (gM (AI TV (gM (gM (cF ?_)))))))))))))))))))))
   cases sE q
   refine AI rfl (E4 [] (R2 (AI TV TV)))
  refine gM (cF (gM (gM (cF (gM (gM (cF (gM (gM (AI TV (gM (cF (gM (gM (AI TV (gM (cF (gM (gM (gM (AI TV (gM (gM (cF ?_))))))))))))))))))))))))
  cases sE q
  refine AI rfl (E4 [] (R2 (AI TV TV)))
 dsimp only [sumF] at q
 refine AI ?_ TV
 cases sE q
 refine AI rfl (E4 [] (R2 (AI TV TV)))
theorem C7_holds : HP C7 7 := hH Tryz.f7 (by kernel_rfl) rfl (fun x y q=>C7_vc x.1 x.2.1 x.2.2.1 x.2.2.2.1 x.2.2.2.2 y q)
theorem f7_in : InP 7 := inP (by kernel_rfl)
end Go.Proofs
