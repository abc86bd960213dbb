import Derived.Test.YtclonpepjjeciaaGreatTapePlaysS2
set_option linter.unusedVariables false
set_option maxRecDepth 100000
set_option maxHeartbeats 8000000
namespace Go.Proofs
open Go.AM
open IntKind (i64 u64 i32 u32 i16 u16 i8 u8)
def f27 (t : LI×LI) : Option Bool :=
 bindF (f49 t.1) fun q1_2 =>
 bif q1_2 then
 bindF (f50 t.1) fun q1_9 =>
 some ((List.length t.2:Int) == q1_9)
 else
 some false
def C27 : Con where
 X := LI×LI
 Y := Bool
 e := 0
 args x := [.dat T3 x]
 hin x := []
 F x := f27 x
 ret y := [.dat .bool y]
 hout y := []
 nout := 0
theorem C27_vc (t : LI×LI) (y : Bool) (q : f27 t = some y) : VC Tryz.f27 C27 t y := by
 unfold f27 at q
 refine OL (OL (EI (.take 0 (.take 1 (.alt 2 (.take 3 (.take 4 (.take 5 (.take 6 (.take 7 (.take 8 (.alt 9 (.take 10 (.take 11 (.take 12 .done))) .done))))))) .done))) (EI [] (EI [] (AI rfl (AI TV ?_))))))
 obtain ⟨q1_2,hq1_2,q⟩ := bE q
 refine OL (AI f49_in (cV (cQ C49 t.1 q1_2 [] false C49_holds hq1_2 rfl rfl (AI rfl (K0 (cI q (fun q=>?_) (fun q=>?_)))))))
 ·refine gX (gX (gX (gX (AI TV (gX ?_)))))
  obtain ⟨q1_9,hq1_9,q⟩ := bE q
  refine OL (AI f50_in (cV (cQ C50 t.1 q1_9 [] false C50_holds hq1_9 rfl rfl (AI rfl (K0 (gX (cT ?_)))))))
  cases sE q
  refine AI rfl (E4 [] (R2 (AI TV TV)))
 refine gM (gM (gM (gM (AI TV (gM (gM (cF ?_)))))))
 cases sE q
 refine AI rfl (E4 [] (R2 (AI TV TV)))
theorem C27_holds : HP C27 27 := hH Tryz.f27 (by kernel_rfl) rfl (fun x y q=>C27_vc x y q)
theorem f27_in : InP 27 := inP (by kernel_rfl)
def f15_j1 (x_ : LI×LI) : Option Unit :=
 guardF ((List.length ([] : LI) + List.length x_.1) * 8 ≤ 140737488355328) <|
 guardF ((List.length ([] : LI) + List.length x_.2) * 8 ≤ 140737488355328) <|
 some ()
def f15 (t_L : NL) (x_ : LI×LI) : Option (Int×Int×NL) :=
 bif (decide ((List.length t_L:Int) ≥ (512:Int))) then
 some ((0:Int),(2:Int),t_L)
 else
 bindF (f27 (x_.1,x_.2)) fun r1 =>
 bif (!r1) then
 some ((0:Int),(1:Int),t_L)
 else
 bindF (f15_j1 x_) fun z2 =>
 guardF ((List.length t_L + List.length ([((1:Int),(-1:Int),(-1:Int),(0:Int),(([] : LI) ++ x_.1),(([] : LI) ++ x_.2))])) * 80 ≤ 140737488355328) <|
 some ((i64.wrap ((List.length (t_L ++ ([((1:Int),(-1:Int),(-1:Int),(0:Int),(([] : LI) ++ x_.1),(([] : LI) ++ x_.2))])):Int) - (1:Int))),(0:Int),(t_L ++ ([((1:Int),(-1:Int),(-1:Int),(0:Int),(([] : LI) ++ x_.1),(([] : LI) ++ x_.2))])))
def C15 : Con where
 X := NL×(LI×LI)
 Y := Int×Int×NL
 e := 2
 args x := [P0 0 0,.dat T3 x.2]
 hin x := [(0,.cells [(.osl 1)]),(1,.arr 44 T0 x.1)]
 F x := f15 x.1 x.2
 ret y := [.dat T2 y.1,.dat T2 y.2.1]
 hout y := [(0,.cells [(.osl 2)]),(2,.arr 44 T0 y.2.2)]
 nout := 3
theorem C15_vc (t_L : NL) (x_ : LI×LI) (y : Int×Int×NL) (q : f15 t_L x_ = some y) : VE Tryz.f15 2 C15 (t_L,x_) y := by
 unfold f15 at q
 refine OL (OL (OL (cI q (fun q=>?_) (fun q=>?_))))
 ·cases sE q
  refine OL (AI rfl (E4 [(0,some 0),(2,some 1)] (R3 (AI TV (R2 TV)))))
 refine OL (OL ?_)
 obtain ⟨r1,hr1,q⟩ := bE q
 refine OL (AI f27_in (cV (cQ C27 (x_.1,x_.2) r1 [] false C27_holds hr1 rfl rfl (R2 (K0 (cI q (fun q=>?_) (fun q=>?_)))))))
 ·cases sE q
  refine OL (AI rfl (E4 [(0,some 0),(2,some 1)] (R3 (AI TV (R2 TV)))))
 obtain ⟨z2,hz2,q⟩ := bE q
 refine OQ ⟨[(0,⟨[(0,P0 0 0),(6,P0 2 0)],[(0,.cells [(.osl 1)]),(1,.arr 44 T0 t_L),(2,.cells [(.osl 3),(.osl 4)]),(3,.arr 3 T2 (([] : LI) ++ x_.1)),(4,.arr 33 T2 (([] : LI) ++ x_.2))],5⟩)],?_,?_⟩
 ·have q := hz2
  clear hz2
  unfold f15_j1 at q
  obtain ⟨g5_0,q⟩ := gE q
  obtain ⟨g5_1,q⟩ := gE q
  refine EI (.take 1 (.take 2 (.take 5 (.take 6 (.alt 0 (.alt 3 (.alt 4 (.alt 7 (.take 8 (.alt 9 (.alt 10 .done .done) .done)) (.alt 9 (.alt 7 (.take 8 (.alt 10 .done .done)) .done) .done)) (.alt 9 (.alt 4 (.alt 7 (.take 8 (.alt 10 .done .done)) .done) .done) .done)) (.alt 4 (.alt 3 (.alt 7 (.take 8 (.alt 9 (.alt 10 .done .done) .done)) (.alt 9 (.alt 7 (.take 8 (.alt 10 .done .done)) .done) .done)) (.alt 9 (.alt 3 (.alt 7 (.take 8 (.alt 10 .done .done)) .done) .done) .done)) (.alt 9 (.alt 3 (.alt 4 (.alt 7 (.take 8 (.alt 10 .done .done)) .done) .done) (.alt 4 (.alt 3 (.alt 7 (.take 8 (.alt 10 .done .done)) .done) .done) .done)) .done))) (.alt 4 (.alt 0 (.alt 3 (.alt 7 (.take 8 (.alt 9 (.alt 10 .done .done) .done)) (.alt 9 (.alt 7 (.take 8 (.alt 10 .done .done)) .done) .done)) (.alt 9 (.alt 3 (.alt 7 (.take 8 (.alt 10 .done .done)) .done) .done) .done)) (.alt 9 (.alt 0 (.alt 3 (.alt 7 (.take 8 (.alt 10 .done .done)) .done) .done) .done) .done)) (.alt 9 (.alt 0 (.alt 3 (.alt 4 (.alt 7 (.take 8 (.alt 10 .done .done)) .done) .done) (.alt 4 (.alt 3 (.alt 7 (.take 8 (.alt 10 .done .done)) .done) .done) .done)) (.alt 4 (.alt 0 (.alt 3 (.alt 7 (.take 8 (.alt 10 .done .done)) .done) .done) .done) .done)) .done))))))) (EI [] (EI [] (AI rfl ?_)))
  refine AI (AI (AI TV ?_) ?_) ?_
  ·refine AI (AI TV ?_) ?_
   ·refine OL (AI TV (OL (AI TV (OL (AI g5_0 (AI TV (OL (AI g5_1 (AI TV (OL ?_))))))))))
    cases sE q
    refine E4 [(0,some 0),(1,some 1),(2,some 3),(3,some 6),(4,some 7)] (AI rfl (AI (R2 TV) (R5 TV)))
   refine OL (AI (AI TV ?_) ?_)
   ·refine OL (AI TV (OL (AI g5_0 (AI TV (OL (AI g5_1 (AI TV (OL ?_))))))))
    cases sE q
    refine E4 [(0,some 0),(1,some 1),(2,some 3),(3,some 6),(4,some 7)] (AI rfl (AI (R2 TV) (R5 TV)))
   refine OL (AI g5_0 (AI TV (OL (AI TV (OL (AI g5_1 (AI TV (OL ?_))))))))
   cases sE q
   refine E4 [(0,some 0),(1,some 1),(2,some 3),(3,some 5),(4,some 7)] (AI rfl (AI (R2 TV) (R5 TV)))
  ·refine OL (AI (AI TV ?_) ?_)
   ·refine AI TV (OL (AI TV (OL (AI g5_0 (AI TV (OL (AI g5_1 (AI TV (OL ?_)))))))))
    cases sE q
    refine E4 [(0,some 0),(1,some 1),(2,some 4),(3,some 6),(4,some 7)] (AI rfl (AI (R2 TV) (R5 TV)))
   refine OL (AI (AI TV ?_) ?_)
   ·refine AI TV (OL (AI g5_0 (AI TV (OL (AI g5_1 (AI TV (OL ?_)))))))
    cases sE q
    refine E4 [(0,some 0),(1,some 1),(2,some 5),(3,some 6),(4,some 7)] (AI rfl (AI (R2 TV) (R5 TV)))
   refine OL (AI g5_0 (AI (AI TV ?_) ?_))
   ·refine AI TV (OL (AI g5_1 (AI TV (OL ?_))))
    cases sE q
    refine E4 [(0,some 0),(1,some 1),(2,some 6),(3,some 5),(4,some 7)] (AI rfl (AI (R2 TV) (R5 TV)))
   refine OL (AI g5_1 (AI TV (AI TV (OL ?_))))
   cases sE q
   refine E4 [(0,some 0),(1,some 1),(2,some 7),(3,some 5),(4,some 6)] (AI rfl (AI (R2 TV) (R5 TV)))
  refine OL (AI (AI (AI TV ?_) ?_) ?_)
  ·refine AI (AI TV ?_) ?_
   ·refine OL (AI TV (OL (AI g5_0 (AI TV (OL (AI g5_1 (AI TV (OL ?_))))))))
    cases sE q
    refine E4 [(0,some 0),(1,some 1),(2,some 4),(3,some 6),(4,some 7)] (AI rfl (AI (R2 TV) (R5 TV)))
   refine OL (AI g5_0 (AI TV (OL (AI TV (OL (AI g5_1 (AI TV (OL ?_))))))))
   cases sE q
   refine E4 [(0,some 0),(1,some 1),(2,some 4),(3,some 5),(4,some 7)] (AI rfl (AI (R2 TV) (R5 TV)))
  ·refine OL (AI (AI TV ?_) ?_)
   ·refine AI TV (OL (AI g5_0 (AI TV (OL (AI g5_1 (AI TV (OL ?_)))))))
    cases sE q
    refine E4 [(0,some 0),(1,some 1),(2,some 5),(3,some 6),(4,some 7)] (AI rfl (AI (R2 TV) (R5 TV)))
   refine OL (AI g5_0 (AI (AI TV ?_) ?_))
   ·refine AI TV (OL (AI g5_1 (AI TV (OL ?_))))
    cases sE q
    refine E4 [(0,some 0),(1,some 1),(2,some 6),(3,some 5),(4,some 7)] (AI rfl (AI (R2 TV) (R5 TV)))
   refine OL (AI g5_1 (AI TV (AI TV (OL ?_))))
   cases sE q
   refine E4 [(0,some 0),(1,some 1),(2,some 7),(3,some 5),(4,some 6)] (AI rfl (AI (R2 TV) (R5 TV)))
  refine OL (AI g5_0 (AI (AI TV ?_) ?_))
  ·refine AI TV (OL (AI TV (OL (AI g5_1 (AI TV (OL ?_))))))
   cases sE q
   refine E4 [(0,some 0),(1,some 1),(2,some 5),(3,some 4),(4,some 7)] (AI rfl (AI (R2 TV) (R5 TV)))
  refine OL (AI (AI TV ?_) ?_)
  ·refine AI TV (OL (AI g5_1 (AI TV (OL ?_))))
   cases sE q
   refine E4 [(0,some 0),(1,some 1),(2,some 6),(3,some 4),(4,some 7)] (AI rfl (AI (R2 TV) (R5 TV)))
  refine OL (AI g5_1 (AI TV (AI TV (OL ?_))))
  cases sE q
  refine E4 [(0,some 0),(1,some 1),(2,some 7),(3,some 4),(4,some 6)] (AI rfl (AI (R2 TV) (R5 TV)))
 refine AI (OL (EI (.take 0 (.take 1 (.take 2 (.take 3 (.take 4 (.take 5 (.take 6 (.alt 7 (.alt 8 (.take 9 (.take 10 (.alt 11 .done .done))) .done) .done)))))))) (EI [(11,[0])] (EI [] (AI rfl (AI TV (OL (AI TV (OL (gI q (fun q=>?_))))))))))) TV
 refine AI TV (OL (OL ?_))
 cases sE q
 refine AI rfl (E4 [(0,some 0),(2,some 6)] (R3 (AI TV (R2 TV))))
theorem C15_holds : HP C15 15 := hH Tryz.f15 (by kernel_rfl) rfl (fun x y q=>C15_vc x.1 x.2 y q)
theorem f15_in : InP 15 := inP (by kernel_rfl)
def f28 (op:Int) : Option Bool :=
 bif (op == (2:Int)) then
 some true
 else
 bif (op == (3:Int)) then
 some true
 else
 bif (op == (4:Int)) then
 some true
 else
 bif (op == (6:Int)) then
 some true
 else
 some (op == (12:Int))
def C28 : Con where
 X := Int
 Y := Bool
 e := 0
 args x := [.dat T2 x]
 hin x := []
 F x := f28 x
 ret y := [.dat .bool y]
 hout y := []
 nout := 0
theorem C28_vc (op:Int) (y : Bool) (q : f28 op = some y) : VC Tryz.f28 C28 op y := by
 unfold f28 at q
 refine OL (OL (cN q (fun q=>?_) (fun q=>?_)))
 ·refine gY (cF (cN q (fun q=>?_) (fun q=>?_)))
  ·refine gY (cF (cN q (fun q=>?_) (fun q=>?_)))
   ·refine gY (cF (cN q (fun q=>?_) (fun q=>?_)))
    ·refine gY (cF ?_)
     cases sE q
     refine AI rfl (E4 [] (R2 (AI TV TV)))
    refine gN (cT ?_)
    cases sE q
    refine AI rfl (E4 [] (R2 (AI TV TV)))
   refine gN (cT (gN (gN (cT ?_))))
   cases sE q
   refine AI rfl (E4 [] (R2 (AI TV TV)))
  refine gN (cT (gN (gN (cT (gN (gN (cT ?_)))))))
  cases sE q
  refine AI rfl (E4 [] (R2 (AI TV TV)))
 refine gN (cT (gN (gN (cT (gN (gN (cT (gN (gN (cT ?_))))))))))
 cases sE q
 refine AI rfl (E4 [] (R2 (AI TV TV)))
theorem C28_holds : HP C28 28 := hH Tryz.f28 (by kernel_rfl) rfl (fun x y q=>C28_vc x y q)
theorem f28_in : InP 28 := inP (by kernel_rfl)
def f29 (op:Int) : Option Bool :=
 bif (op == (5:Int)) then
 some true
 else
 bif (op == (8:Int)) then
 some true
 else
 bif (op == (11:Int)) then
 some true
 else
 bif (op == (12:Int)) then
 some true
 else
 some (op == (13:Int))
def C29 : Con where
 X := Int
 Y := Bool
 e := 0
 args x := [.dat T2 x]
 hin x := []
 F x := f29 x
 ret y := [.dat .bool y]
 hout y := []
 nout := 0
theorem C29_vc (op:Int) (y : Bool) (q : f29 op = some y) : VC Tryz.f29 C29 op y := by
 unfold f29 at q
 refine OL (OL (cN q (fun q=>?_) (fun q=>?_)))
 ·refine gY (cF (cN q (fun q=>?_) (fun q=>?_)))
  ·refine gY (cF (cN q (fun q=>?_) (fun q=>?_)))
   ·refine gY (cF (cN q (fun q=>?_) (fun q=>?_)))
    ·refine gY (cF ?_)
     cases sE q
     refine AI rfl (E4 [] (R2 (AI TV TV)))
    refine gN (cT ?_)
    cases sE q
    refine AI rfl (E4 [] (R2 (AI TV TV)))
   refine gN (cT (gN (gN (cT ?_))))
   cases sE q
   refine AI rfl (E4 [] (R2 (AI TV TV)))
  refine gN (cT (gN (gN (cT (gN (gN (cT ?_)))))))
  cases sE q
  refine AI rfl (E4 [] (R2 (AI TV TV)))
 refine gN (cT (gN (gN (cT (gN (gN (cT (gN (gN (cT ?_))))))))))
 cases sE q
 refine AI rfl (E4 [] (R2 (AI TV TV)))
theorem C29_holds : HP C29 29 := hH Tryz.f29 (by kernel_rfl) rfl (fun x y q=>C29_vc x y q)
theorem f29_in : InP 29 := inP (by kernel_rfl)
def f86_j1 (a : LI) (b : LI) : Option (Sum Unit Unit) :=
 bindF (f49 a) fun r4 =>
 bif (!r4) then
 some (Sum.inr ())
 else
 bindF (f49 b) fun r5 =>
 bif (!r5) then
 some (Sum.inr ())
 else
 some (Sum.inl ())
def f86_j2 (a : LI) (b : LI) : Option Int :=
 bif (decide ((List.length b:Int) > (List.length a:Int))) then
 some (List.length b:Int)
 else
 some (List.length a:Int)
def f86_j12 (a : LI) (i:Int) : Option Int :=
 bif (decide (i ≤ (List.length a:Int))) then
 guardF (0 ≤ (i64.wrap ((List.length a:Int) - i)) ∧ (i64.wrap ((List.length a:Int) - i)) < (List.length a:Int)) <|
 some (rd (0:Int) a (i64.wrap ((List.length a:Int) - i)))
 else
 some (1:Int)
def f86_j13 (b : LI) (i:Int) : Option Int :=
 bif (decide (i ≤ (List.length b:Int))) then
 guardF (0 ≤ (i64.wrap ((List.length b:Int) - i)) ∧ (i64.wrap ((List.length b:Int) - i)) < (List.length b:Int)) <|
 some (rd (0:Int) b (i64.wrap ((List.length b:Int) - i)))
 else
 some (1:Int)
def f86_j14 (z16:Int) (z17:Int) : Option (Sum Unit Unit) :=
 bif (z16 != z17) then
 bif (z16 != (1:Int)) then
 bif (z17 != (1:Int)) then
 some (Sum.inr ())
 else
 some (Sum.inl ())
 else
 some (Sum.inl ())
 else
 some (Sum.inl ())
def f86_j15 (z16:Int) (z17:Int) : Option Int :=
 bif (decide (z17 > z16)) then
 some z17
 else
 some z16
def f86_l11 (a : LI) (b : LI) (z6:Int) (go : (Int×LI) → Option (Sum Unit LI)) (i:Int) (l0 : LI) : Option (Sum Unit LI) :=
 bif (decide (i ≤ z6)) then
 bindF (f86_j12 a i) fun z16 =>
 bindF (f86_j13 b i) fun z17 =>
 bindF (f86_j14 z16 z17) fun z18 =>
 sumF z18 (fun z18a =>
 bindF (f86_j15 z16 z17) fun z19 =>
 guardF (0 ≤ (i64.wrap (z6 - i)) ∧ (i64.wrap (z6 - i)) < (List.length l0:Int)) <|
 go ((i64.wrap (i + (1:Int))),(List.set l0 (Int.toNat (i64.wrap (z6 - i))) z19))) (fun z18b =>
 some (Sum.inl ()))
 else
 some (Sum.inr l0)
def f86 (a : LI) (b : LI) : Option (Int×LI) :=
 bindF (f86_j1 a b) fun z3 =>
 sumF z3 (fun z3a =>
 bindF (f86_j2 a b) fun z6 =>
 guardF (0 ≤ z6 ∧ z6 ≤ z6 ∧ Int.toNat z6 * 8 ≤ 140737488355328) <|
 bindF (loopF (fun go x=>f86_l11 a b z6 go x.1 x.2) fuelN ((1:Int),(List.replicate (Int.toNat z6) (0:Int)))) fun z15 =>
 sumF z15 (fun z15a =>
 some ((4:Int),[])) (fun z15b =>
 bindF (f49 z15b) fun r20 =>
 bif (!r20) then
 some ((2:Int),[])
 else
 some ((0:Int),z15b))) (fun z3b =>
 some ((1:Int),[]))
def C86 : Con where
 X := LI×LI
 Y := Int×LI
 e := 0
 args x := [.dat T1 x.1,.dat T1 x.2]
 hin x := []
 F x := f86 x.1 x.2
 ret y := [O0 0,.dat T2 y.1]
 hout y := [(0,.arr 3 T2 y.2)]
 nout := 1
theorem C86_vc (a : LI) (b : LI) (y : Int×LI) (q : f86 a b = some y) : VC Tryz.f86 C86 (a,b) y := by
 unfold f86 at q
 refine OL ?_
 obtain ⟨z3,hz3,q⟩ := bE q
 refine OQ ⟨Sum.elim (fun z3a=>[(0,⟨[(0,.dat T1 a),(1,.dat T1 b)],[],0⟩)]) (fun z3b=>[(1,⟨[(4,.raw false [N0]),(5,D0 1)],[],0⟩)]) z3,?_,?_⟩
 ·have q := hz3
  clear hz3
  unfold f86_j1 at q
  refine OL ?_
  obtain ⟨r4,hr4,q⟩ := bE q
  refine OL (AI f49_in (cV (cQ C49 a r4 [] false C49_holds hr4 rfl rfl (AI rfl (K0 (cN q (fun q=>?_) (fun q=>?_)))))))
  ·refine gY ?_
   obtain ⟨r5,hr5,q⟩ := bE q
   refine OL (AI f49_in (cV (cQ C49 b r5 [] false C49_holds hr5 rfl rfl (AI rfl (K0 (gY (cF (cI q (fun q=>?_) (fun q=>?_)))))))))
   ·cases sE q
    refine OL (E4 [] (R2 (AJ TV)))
   cases sE q
   refine E4 [] (R3 (AI TV TV))
  refine gN (gN (cT (cT (OL ?_))))
  cases sE q
  refine E4 [] (R2 (AJ TV))
 rcases z3 with z3a | z3b
 ·dsimp only [sumF] at q
  refine AI (OL ?_) TV
  obtain ⟨z6,hz6,q⟩ := bE q
  refine OQ ⟨[(0,⟨[(0,.dat T1 a),(1,.dat T1 b),(6,.dat T2 z6)],[],0⟩)],?_,?_⟩
  ·have q := hz6
   clear hz6
   unfold f86_j2 at q
   refine OL (cI q (fun q=>?_) (fun q=>?_))
   ·cases sE q
    refine E4 [] (R4 (AI TV TV))
   cases sE q
   refine E4 [] (R4 (AI TV TV))
  refine AI (OL (gI q (fun q=>?_))) TV
  refine OL (OL ?_)
  obtain ⟨z15,hz15,q⟩ := bE q
  refine lI (Int×LI) (Sum Unit LI) (fun x=>⟨[(0,.dat T1 a),(1,.dat T1 b),(6,.dat T2 z6),(7,O0 0),(8,.dat T2 x.1)],[(0,.arr 3 T2 x.2)],1⟩) (fun z=>Sum.elim (fun za=>[(1,⟨[(4,.raw false [N0]),(5,D0 4)],[],0⟩)]) (fun zb=>[(2,⟨[(7,O0 0)],[(0,.arr 3 T2 zb)],1⟩)]) z) (loopF (fun go x=>f86_l11 a b z6 go x.1 x.2)) fuelN ((1:Int),(List.replicate (Int.toNat z6) (0:Int))) z15 (AI hz15 (AI (E4 [(0,some 0)] (R5 (AJ (AI rfl TV)))) (AI (fun _ _ h=>lZ h) (AI (fun m=>curI (fun i=>fun l0 z q=>?_)) ?_))))
  ·have q : f86_l11 a b z6 (loopF (fun go x=>f86_l11 a b z6 go x.1 x.2) m) i l0 = some z := q
   unfold f86_l11 at q
   refine OL (OL (cI q (fun q=>?_) (fun q=>?_)))
   ·refine OL (OL ?_)
    obtain ⟨z16,hz16,q⟩ := bE q
    refine OQ ⟨[(0,⟨[(0,.dat T1 a),(1,.dat T1 b),(6,.dat T2 z6),(7,O0 0),(8,.dat T2 i),(9,.dat T2 z16),(10,D0 1)],[(0,.arr 3 T2 l0)],1⟩)],?_,?_⟩
    ·have q := hz16
     clear hz16
     unfold f86_j12 at q
     refine OL (cI q (fun q=>?_) (fun q=>?_))
     ·refine gI q (fun q=>?_)
      cases sE q
      refine E4 [(0,some 0)] (R7 (AJ (AI rfl TV)))
     cases sE q
     refine E4 [(0,some 0)] (R7 (AJ (AI rfl TV)))
    refine AI ?_ TV
    obtain ⟨z17,hz17,q⟩ := bE q
    refine OQ ⟨[(0,⟨[(0,.dat T1 a),(1,.dat T1 b),(6,.dat T2 z6),(7,O0 0),(8,.dat T2 i),(9,.dat T2 z16),(10,.dat T2 z17)],[(0,.arr 3 T2 l0)],1⟩)],?_,?_⟩
    ·have q := hz17
     clear hz17
     unfold f86_j13 at q
     refine OL (cI q (fun q=>?_) (fun q=>?_))
     ·refine gI q (fun q=>?_)
      cases sE q
      refine E4 [(0,some 0)] (R7 (AJ (AI rfl TV)))
     cases sE q
     refine E4 [(0,some 0)] (R7 (AJ (AI rfl TV)))
    refine AI ?_ TV
    obtain ⟨z18,hz18,q⟩ := bE q
    refine OQ ⟨Sum.elim (fun z18a=>[(0,⟨[(0,.dat T1 a),(1,.dat T1 b),(6,.dat T2 z6),(7,O0 0),(8,.dat T2 i),(9,.dat T2 z16),(10,.dat T2 z17)],[(0,.arr 3 T2 l0)],1⟩)]) (fun z18b=>[(1,⟨[(4,.raw false [N0]),(5,D0 4)],[],0⟩)]) z18,?_,?_⟩
    ·have q := hz18
     clear hz18
     unfold f86_j14 at q
     refine OL (cI q (fun q=>?_) (fun q=>?_))
     ·refine gX (cT (cI q (fun q=>?_) (fun q=>?_)))
      ·refine gX (cT (cI q (fun q=>?_) (fun q=>?_)))
       ·cases sE q
        refine OL (E4 [] (R2 (AJ TV)))
       cases sE q
       refine E4 [(0,some 0)] (R7 (AJ (AI rfl TV)))
      refine gM (cF (cF ?_))
      cases sE q
      refine E4 [(0,some 0)] (R7 (AJ (AI rfl TV)))
     refine gM (cF (gM (gM (cF (cF ?_)))))
     cases sE q
     refine E4 [(0,some 0)] (R7 (AJ (AI rfl TV)))
    rcases z18 with z18a | z18b
    ·dsimp only [sumF] at q
     refine AI ?_ TV
     obtain ⟨z19,hz19,q⟩ := bE q
     refine OQ ⟨[(0,⟨[(0,.dat T1 a),(1,.dat T1 b),(6,.dat T2 z6),(7,O0 0),(8,.dat T2 i),(9,.dat T2 z19)],[(0,.arr 3 T2 l0)],1⟩)],?_,?_⟩
     ·have q := hz19
      clear hz19
      unfold f86_j15 at q
      refine OL (cI q (fun q=>?_) (fun q=>?_))
      ·cases sE q
       refine E4 [(0,some 0)] (R6 (AJ (AI rfl TV)))
      cases sE q
      refine E4 [(0,some 0)] (R6 (AJ (AI rfl TV)))
     refine AI (gI q (fun q=>?_)) TV
     refine OL (EI ((i64.wrap (i + (1:Int))),(List.set l0 (Int.toNat (i64.wrap (z6 - i))) z19)) (AI q (E4 [(0,some 0)] (R5 (AJ (AI rfl TV))))))
    dsimp only [sumF] at q
    refine AI ?_ TV
    cases sE q
    refine E4 [] (R2 (AJ TV))
   cases sE q
   refine E4 [(0,some 0)] (AI rfl (AJ (AI rfl TV)))
  rcases z15 with z15a | z15b
  ·dsimp only [sumF] at q
   refine AI ?_ TV
   cases sE q
   refine AI rfl (E4 [(0,none)] (R2 (AJ (AI rfl TV))))
  dsimp only [sumF] at q
  refine AI (OL (OL ?_)) TV
  obtain ⟨r20,hr20,q⟩ := bE q
  refine OL (AI f49_in (cV (cQ C49 z15b r20 [] true C49_holds hr20 rfl rfl (AI rfl (AI (fun _=>rfl) (R2 (AI TV (AI TV (cI q (fun q=>?_) (fun q=>?_))))))))))
  ·cases sE q
   refine OL (AI rfl (E4 [(0,none)] (R2 (AJ (AI rfl TV)))))
  cases sE q
  refine OL (AI rfl (E4 [(0,some 0)] (R2 (AJ (AI rfl TV)))))
 dsimp only [sumF] at q
 refine AI ?_ TV
 cases sE q
 refine AI rfl (E4 [(0,none)] (R2 (AJ (AI rfl TV))))
theorem C86_holds : HP C86 86 := hH Tryz.f86 (by kernel_rfl) rfl (fun x y q=>C86_vc x.1 x.2 y q)
theorem f86_in : InP 86 := inP (by kernel_rfl)
def f87_l1 (v:Int) (go : (Int×LI) → Option LI) (i:Int) (l3 : LI) : Option LI :=
 bif (decide (i < (List.length l3:Int))) then
 guardF (0 ≤ i ∧ i < (List.length l3:Int)) <|
 go ((i64.wrap (i + (1:Int))),(List.set l3 (Int.toNat i) v))
 else
 some l3
def f87 (d : LI) (v:Int) : Option (LI×LI) :=
 guardF ((List.length ([] : LI) + List.length d) * 8 ≤ 140737488355328) <|
 bindF (f50 d) fun r1 =>
 guardF (0 ≤ r1 ∧ r1 ≤ r1 ∧ Int.toNat r1 * 8 ≤ 140737488355328) <|
 bindF (loopF (fun go x=>f87_l1 v go x.1 x.2) fuelN ((0:Int),(List.replicate (Int.toNat r1) (0:Int)))) fun z2 =>
 some ((([] : LI) ++ d),z2)
def C87 : Con where
 X := LI×Int
 Y := LI×LI
 e := 0
 args x := [.dat T1 x.1,.dat T2 x.2]
 hin x := []
 F x := f87 x.1 x.2
 ret y := [.raw true [(.osl 0),(.osl 1)]]
 hout y := [(0,.arr 3 T2 y.1),(1,.arr 33 T2 y.2)]
 nout := 2
theorem C87_vc (d : LI) (v:Int) (y : LI×LI) (q : f87 d v = some y) : VC Tryz.f87 C87 (d,v) y := by
 unfold f87 at q
 refine OL (OL (OL (OL (gI q (fun q=>?_)))))
 obtain ⟨r1,hr1,q⟩ := bE q
 refine OL (AI f50_in (cV (cQ C50 d r1 [] false C50_holds hr1 rfl rfl (AI rfl (K0 (gI q (fun q=>?_)))))))
 refine OL (OL (OL ?_))
 obtain ⟨z2,hz2,q⟩ := bE q
 refine lI (Int×LI) LI (fun x=>⟨[(1,.dat T2 v),(4,P0 0 0),(5,P0 1 0),(6,.dat T2 x.1)],[(0,.cells [N0,N0]),(1,.cells [(.osl 2),(.osl 3)]),(2,.arr 3 T2 (([] : LI) ++ d)),(3,.arr 33 T2 x.2)],4⟩) (fun z=>[(2,⟨[(4,P0 0 0),(5,P0 1 0)],[(0,.cells [N0,N0]),(1,.cells [(.osl 2),(.osl 3)]),(2,.arr 3 T2 (([] : LI) ++ d)),(3,.arr 33 T2 z)],4⟩)]) (loopF (fun go x=>f87_l1 v go x.1 x.2)) fuelN ((0:Int),(List.replicate (Int.toNat r1) (0:Int))) z2 (AI hz2 (AI (E4 [(0,some 0),(1,some 4),(2,some 2),(3,some 3)] (R3 (AI (R2 TV) (R4 TV)))) (AI (fun _ _ h=>lZ h) (AI (fun m=>curI (fun i=>fun l3 z q=>?_)) ?_))))
 ·have q : f87_l1 v (loopF (fun go x=>f87_l1 v go x.1 x.2) m) i l3 = some z := q
  unfold f87_l1 at q
  refine OL (OL (cI q (fun q=>?_) (fun q=>?_)))
  ·refine OL (gI q (fun q=>?_))
   refine OL (EI ((i64.wrap (i + (1:Int))),(List.set l3 (Int.toNat i) v)) (AI q (E4 I4 (R3 (AI (R2 TV) (R4 TV))))))
  cases sE q
  refine E4 I4 (AI rfl (AI (R2 TV) (R4 TV)))
 refine AI (OL (OL ?_)) TV
 cases sE q
 refine AI rfl (E4 [(0,some 2),(1,some 3)] (AI rfl (AJ (R2 TV))))
theorem C87_holds : HP C87 87 := hH Tryz.f87 (by kernel_rfl) rfl (fun x y q=>C87_vc x.1 x.2 y q)
theorem f87_in : InP 87 := inP (by kernel_rfl)
def f97_j1 (d : LI) (at_:Int) : Option (Sum Unit Unit) :=
 bindF (f49 d) fun r4 =>
 bif (!r4) then
 some (Sum.inr ())
 else
 bif (decide (at_ < (0:Int))) then
 some (Sum.inr ())
 else
 bindF (f50 d) fun r5 =>
 bif (decide (at_ ≥ r5)) then
 some (Sum.inr ())
 else
 some (Sum.inl ())
def f97_l2 (d : LI) (go : (Int×Int×LI) → Option LI) (at__2:Int) (i:Int) (l0 : LI) : Option LI :=
 bif (decide (i ≥ (0:Int))) then
 guardF (0 ≤ i ∧ i < (List.length d:Int)) <|
 guardF ((rd (0:Int) d i) ≠ 0) <|
 guardF (0 ≤ i ∧ i < (List.length l0:Int)) <|
 guardF (0 ≤ i ∧ i < (List.length d:Int)) <|
 guardF ((rd (0:Int) d i) ≠ 0) <|
 go ((i64.wrap (Int.tdiv at__2 (rd (0:Int) d i))),(i64.wrap (i - (1:Int))),(List.set l0 (Int.toNat i) (Int.tmod at__2 (rd (0:Int) d i))))
 else
 some l0
def f97 (d : LI) (at_:Int) : Option (Bool×LI) :=
 bindF (f97_j1 d at_) fun z3 =>
 sumF z3 (fun z3a =>
 guardF (0 ≤ (List.length d:Int) ∧ (List.length d:Int) ≤ (List.length d:Int) ∧ Int.toNat (List.length d:Int) * 8 ≤ 140737488355328) <|
 bindF (loopF (fun go x=>f97_l2 d go x.1 x.2.1 x.2.2) fuelN (at_,(i64.wrap ((List.length d:Int) - (1:Int))),(List.replicate (Int.toNat (List.length d:Int)) (0:Int)))) fun z6 =>
 some (true,z6)) (fun z3b =>
 some (false,[]))
def C97 : Con where
 X := LI×Int
 Y := Bool×LI
 e := 0
 args x := [.dat T1 x.1,.dat T2 x.2]
 hin x := []
 F x := f97 x.1 x.2
 ret y := [O0 0,.dat .bool y.1]
 hout y := [(0,.arr 3 T2 y.2)]
 nout := 1
theorem C97_vc (d : LI) (at_:Int) (y : Bool×LI) (q : f97 d at_ = some y) : VC Tryz.f97 C97 (d,at_) y := by
 unfold f97 at q
 refine OL ?_
 obtain ⟨z3,hz3,q⟩ := bE q
 refine OQ ⟨Sum.elim (fun z3a=>[(0,⟨[(0,.dat T1 d),(1,.dat T2 at_)],[],0⟩)]) (fun z3b=>[(1,⟨[(4,.raw false [N0]),(5,.dat .bool false)],[],0⟩)]) z3,?_,?_⟩
 ·have q := hz3
  clear hz3
  unfold f97_j1 at q
  refine OL ?_
  obtain ⟨r4,hr4,q⟩ := bE q
  refine OL (AI f49_in (cV (cQ C49 d r4 [] false C49_holds hr4 rfl rfl (AI rfl (K0 (cN q (fun q=>?_) (fun q=>?_)))))))
  ·refine gY (cF (cN q (fun q=>?_) (fun q=>?_)))
   ·refine gY (gY ?_)
    obtain ⟨r5,hr5,q⟩ := bE q
    refine OL (AI f50_in (cV (cQ C50 d r5 [] false C50_holds hr5 rfl rfl (AI rfl (K0 (gY (cF (cI q (fun q=>?_) (fun q=>?_)))))))))
    ·cases sE q
     refine OL (E4 [] (R2 (AJ TV)))
    cases sE q
    refine E4 [] (R3 (AI TV TV))
   refine gN (gN (gN (cT (cT (OL ?_)))))
   cases sE q
   refine E4 [] (R2 (AJ TV))
  refine gN (cT (gN (gN (gN (gN (cT (cT (OL ?_))))))))
  cases sE q
  refine E4 [] (R2 (AJ TV))
 rcases z3 with z3a | z3b
 ·dsimp only [sumF] at q
  refine AI (OL (gI q (fun q=>?_))) TV
  refine OL (OL ?_)
  obtain ⟨z6,hz6,q⟩ := bE q
  refine lI (Int×Int×LI) LI (fun x=>⟨[(0,.dat T1 d),(1,.dat T2 x.1),(6,O0 0),(7,.dat T2 x.2.1)],[(0,.arr 3 T2 x.2.2)],1⟩) (fun z=>[(2,⟨[(6,O0 0)],[(0,.arr 3 T2 z)],1⟩)]) (loopF (fun go x=>f97_l2 d go x.1 x.2.1 x.2.2)) fuelN (at_,(i64.wrap ((List.length d:Int) - (1:Int))),(List.replicate (Int.toNat (List.length d:Int)) (0:Int))) z6 (AI hz6 (AI (E4 [(0,some 0)] (R4 (AJ (AI rfl TV)))) (AI (fun _ _ h=>lZ h) (AI (fun m=>curI (fun at__2=>curI (fun i=>fun l0 z q=>?_))) ?_))))
  ·have q : f97_l2 d (loopF (fun go x=>f97_l2 d go x.1 x.2.1 x.2.2) m) at__2 i l0 = some z := q
   unfold f97_l2 at q
   refine OL (OL (cI q (fun q=>?_) (fun q=>?_)))
   ·refine OL (OL (gI q (fun q=>?_)))
    refine gI q (fun q=>?_)
    refine gI q (fun q=>?_)
    refine OL (gI q (fun q=>?_))
    refine gI q (fun q=>?_)
    refine EI ((i64.wrap (Int.tdiv at__2 (rd (0:Int) d i))),(i64.wrap (i - (1:Int))),(List.set l0 (Int.toNat i) (Int.tmod at__2 (rd (0:Int) d i)))) (AI q (E4 [(0,some 0)] (R4 (AJ (AI rfl TV)))))
   cases sE q
   refine E4 [(0,some 0)] (AI rfl (AJ (AI rfl TV)))
  refine AI (OL ?_) TV
  cases sE q
  refine AI rfl (E4 [(0,some 0)] (R2 (AJ (AI rfl TV))))
 dsimp only [sumF] at q
 refine AI ?_ TV
 cases sE q
 refine AI rfl (E4 [(0,none)] (R2 (AJ (AI rfl TV))))
theorem C97_holds : HP C97 97 := hH Tryz.f97 (by kernel_rfl) rfl (fun x y q=>C97_vc x.1 x.2 y q)
theorem f97_in : InP 97 := inP (by kernel_rfl)
def f88_j1 (big : LI) (r1 : Int×LI) : Option (Sum Unit Unit) :=
 bif (r1.1 != (0:Int)) then
 some (Sum.inr ())
 else
 bindF (f20 r1.2 big) fun r4 =>
 bif (!r4) then
 some (Sum.inr ())
 else
 some (Sum.inl ())
def f88_j5 (d : LI) (r5 : Bool×LI) (i:Int) : Option Int :=
 guardF (0 ≤ i ∧ i < (List.length d:Int)) <|
 bif ((rd (0:Int) d i) == (1:Int)) then
 some (0:Int)
 else
 some (rd (0:Int) r5.2 (i64.wrap ((i64.wrap ((List.length r5.2:Int) - (List.length d:Int))) + i)))
def f88_l4 (d : LI) (r5 : Bool×LI) (go : (Int×Int) → Option Int) (n:Int) (i:Int) : Option Int :=
 bif (decide (i < (List.length d:Int))) then
 guardF (0 ≤ (i64.wrap ((i64.wrap ((List.length r5.2:Int) - (List.length d:Int))) + i)) ∧ (i64.wrap ((i64.wrap ((List.length r5.2:Int) - (List.length d:Int))) + i)) < (List.length r5.2:Int)) <|
 bindF (f88_j5 d r5 i) fun z9 =>
 guardF (0 ≤ i ∧ i < (List.length d:Int)) <|
 go ((i64.wrap ((i64.wrap (n * (rd (0:Int) d i))) + z9)),(i64.wrap (i + (1:Int))))
 else
 some n
def f88 (d : LI) (big : LI) (at_:Int) : Option (Int×Bool) :=
 bindF (f86 d big) fun r1 =>
 bindF (f88_j1 big r1) fun z3 =>
 sumF z3 (fun z3a =>
 bindF (f97 big at_) fun r5 =>
 bif (!r5.1) then
 some ((0:Int),false)
 else
 bindF (loopF (fun go x=>f88_l4 d r5 go x.1 x.2) fuelN ((0:Int),(0:Int))) fun z8 =>
 some (z8,true)) (fun z3b =>
 some ((0:Int),false))
def C88 : Con where
 X := LI×LI×Int
 Y := Int×Bool
 e := 0
 args x := [.dat T1 x.1,.dat T1 x.2.1,.dat T2 x.2.2]
 hin x := []
 F x := f88 x.1 x.2.1 x.2.2
 ret y := [.dat T2 y.1,.dat .bool y.2]
 hout y := []
 nout := 0
theorem C88_vc (d : LI) (big : LI) (at_:Int) (y : Int×Bool) (q : f88 d big at_ = some y) : VC Tryz.f88 C88 (d,big,at_) y := by
 unfold f88 at q
 refine OL (OL ?_)
 obtain ⟨r1,hr1,q⟩ := bE q
 refine OL (AI f86_in (cV (cQ C86 (d,big) r1 [] false C86_holds hr1 rfl rfl (R2 (K0 ?_)))))
 obtain ⟨z3,hz3,q⟩ := bE q
 refine OQ ⟨Sum.elim (fun z3a=>[(0,⟨[(0,.dat T1 d),(1,.dat T1 big),(2,.dat T2 at_)],[],0⟩)]) (fun z3b=>[(1,⟨[(6,D0 0),(7,.dat .bool false)],[],0⟩)]) z3,?_,?_⟩
 ·have q := hz3
  clear hz3
  unfold f88_j1 at q
  refine OL (cN q (fun q=>?_) (fun q=>?_))
  ·refine gY (gY ?_)
   obtain ⟨r4,hr4,q⟩ := bE q
   refine OL (AI f20_in (cV (cQ C20 (r1.2,big) r4 [] true C20_holds hr4 rfl rfl (R2 (AI (fun _=>rfl) (R2 (AI TV (AI TV (gY (cF (cI q (fun q=>?_) (fun q=>?_))))))))))))
   ·cases sE q
    refine OL (E4 [] (R3 (AI TV TV)))
   cases sE q
   refine E4 [] (R4 (AI TV TV))
  refine gN (gN (gN (cT (cT (OL ?_)))))
  cases sE q
  refine E4 [] (R3 (AI TV TV))
 rcases z3 with z3a | z3b
 ·dsimp only [sumF] at q
  refine AI (OL ?_) TV
  obtain ⟨r5,hr5,q⟩ := bE q
  refine OL (AI f97_in (cV (cQ C97 (big,at_) r5 [] false C97_holds hr5 rfl rfl (R2 (K0 (OL (OL (cI q (fun q=>?_) (fun q=>?_)))))))))
  ·cases sE q
   refine OL (AI rfl (E4 [] (R3 (AI TV TV))))
  refine OL (OL (OL ?_))
  obtain ⟨z8,hz8,q⟩ := bE q
  refine lI (Int×Int) Int (fun x=>⟨[(0,.dat T1 d),(10,O0 0),(12,.dat T2 x.1),(13,.dat T2 x.2)],[(0,.arr 3 T2 r5.2)],1⟩) (fun z=>[(2,⟨[(12,.dat T2 z)],[],0⟩)]) (loopF (fun go x=>f88_l4 d r5 go x.1 x.2)) fuelN ((0:Int),(0:Int)) z8 (AI hz8 (AI (E4 [(0,some 0)] (R4 (AJ (AI rfl TV)))) (AI (fun _ _ h=>lZ h) (AI (fun m=>curI (fun n=>fun i z q=>?_)) ?_))))
  ·have q : f88_l4 d r5 (loopF (fun go x=>f88_l4 d r5 go x.1 x.2) m) n i = some z := q
   unfold f88_l4 at q
   refine OL (OL (cI q (fun q=>?_) (fun q=>?_)))
   ·refine OL (OL (gI q (fun q=>?_)))
    obtain ⟨z9,hz9,q⟩ := bE q
    refine OQ ⟨[(0,⟨[(0,.dat T1 d),(10,O0 0),(12,.dat T2 n),(13,.dat T2 i),(14,.dat T2 z9)],[(0,.arr 3 T2 r5.2)],1⟩)],?_,?_⟩
    ·have q := hz9
     clear hz9
     unfold f88_j5 at q
     refine OL (gI q (fun q=>?_))
     refine cI q (fun q=>?_) (fun q=>?_)
     ·cases sE q
      refine E4 [(0,some 0)] (R5 (AJ (AI rfl TV)))
     cases sE q
     refine E4 [(0,some 0)] (R5 (AJ (AI rfl TV)))
    refine AI (gI q (fun q=>?_)) TV
    refine EI ((i64.wrap ((i64.wrap (n * (rd (0:Int) d i))) + z9)),(i64.wrap (i + (1:Int)))) (AI q (E4 [(0,some 0)] (R4 (AJ (AI rfl TV)))))
   cases sE q
   refine E4 [] (R2 (AI TV TV))
  refine AI (OL ?_) TV
  cases sE q
  refine AI rfl (E4 [] (R3 (AI TV TV)))
 dsimp only [sumF] at q
 refine AI ?_ TV
 cases sE q
 refine AI rfl (E4 [] (R3 (AI TV TV)))
theorem C88_holds : HP C88 88 := hH Tryz.f88 (by kernel_rfl) rfl (fun x y q=>C88_vc x.1 x.2.1 x.2.2 y q)
theorem f88_in : InP 88 := inP (by kernel_rfl)
def f128 (n:Int) : Option Int :=
 bif (decide (n < (0:Int))) then
 some (u64.wrap ((u64.wrap (i64.wrap (0 - (i64.wrap (n + (1:Int)))))) + (1:Int)))
 else
 some (u64.wrap n)
def C128 : Con where
 X := Int
 Y := Int
 e := 0
 args x := [.dat T2 x]
 hin x := []
 F x := f128 x
 ret y := [.dat T4 y]
 hout y := []
 nout := 0
theorem C128_vc (n:Int) (y:Int) (q : f128 n = some y) : VC Tryz.f128 C128 n y := by
 unfold f128 at q
 refine OL (OL (OL (cI q (fun q=>?_) (fun q=>?_))))
 ·cases sE q
  refine OL (AI rfl (E4 [] (R2 (AI TV TV))))
 cases sE q
 refine OL (AI rfl (E4 [] (R2 (AI TV TV))))
theorem C128_holds : HP C128 128 := hH Tryz.f128 (by kernel_rfl) rfl (fun x y q=>C128_vc x y q)
theorem f128_in : InP 128 := inP (by kernel_rfl)
def f99 (n:Int) : Option (Bool×Int) :=
 bindF (f128 n) fun r1 =>
 some ((decide (n < (0:Int))),r1)
def C99 : Con where
 X := Int
 Y := Bool×Int
 e := 0
 args x := [.dat T2 x]
 hin x := []
 F x := f99 x
 ret y := [.raw true [(.d .bool y.1),(.d T4 y.2),(.d T4 (0:Int)),(.d T4 (0:Int)),(.d T4 (0:Int))]]
 hout y := []
 nout := 0
theorem C99_vc (n:Int) (y : Bool×Int) (q : f99 n = some y) : VC Tryz.f99 C99 n y := by
 unfold f99 at q
 refine OL (OL ?_)
 obtain ⟨r1,hr1,q⟩ := bE q
 refine OL (AI f128_in (cV (cQ C128 n r1 [] false C128_holds hr1 rfl rfl (AI rfl (K0 (OL ?_))))))
 cases sE q
 refine AI rfl (E4 [] (AI rfl (AJ TV)))
theorem C99_holds : HP C99 99 := hH Tryz.f99 (by kernel_rfl) rfl (fun x y q=>C99_vc x y q)
theorem f99_in : InP 99 := inP (by kernel_rfl)
def f125_l1 (a_0:Int) (a_1:Int) (a_2:Int) (a_3:Int) (b_0:Int) (b_1:Int) (b_2:Int) (b_3:Int) (go : (Int×Int×Int×Int×Int×Int) → Option (Int×Int×Int×Int)) (carry:Int) (i:Int) (c3_0:Int) (c3_1:Int) (c3_2:Int) (c3_3:Int) : Option (Int×Int×Int×Int) :=
 bif (decide (i < (4:Int))) then
 guardF (0 ≤ i ∧ i < (4:Int)) <|
 pickF i
 [(bif (decide ((u64.wrap (a_0 + b_0)) < a_0)) then
 go ((1:Int),(i64.wrap (i + (1:Int))),(u64.wrap ((u64.wrap (a_0 + b_0)) + carry)),c3_1,c3_2,c3_3)
 else
 bif (decide ((u64.wrap ((u64.wrap (a_0 + b_0)) + carry)) < (u64.wrap (a_0 + b_0)))) then
 go ((1:Int),(i64.wrap (i + (1:Int))),(u64.wrap ((u64.wrap (a_0 + b_0)) + carry)),c3_1,c3_2,c3_3)
 else
 go ((0:Int),(i64.wrap (i + (1:Int))),(u64.wrap ((u64.wrap (a_0 + b_0)) + carry)),c3_1,c3_2,c3_3)),
 (bif (decide ((u64.wrap (a_1 + b_1)) < a_1)) then
 go ((1:Int),(i64.wrap (i + (1:Int))),c3_0,(u64.wrap ((u64.wrap (a_1 + b_1)) + carry)),c3_2,c3_3)
 else
 bif (decide ((u64.wrap ((u64.wrap (a_1 + b_1)) + carry)) < (u64.wrap (a_1 + b_1)))) then
 go ((1:Int),(i64.wrap (i + (1:Int))),c3_0,(u64.wrap ((u64.wrap (a_1 + b_1)) + carry)),c3_2,c3_3)
 else
 go ((0:Int),(i64.wrap (i + (1:Int))),c3_0,(u64.wrap ((u64.wrap (a_1 + b_1)) + carry)),c3_2,c3_3)),
 (bif (decide ((u64.wrap (a_2 + b_2)) < a_2)) then
 go ((1:Int),(i64.wrap (i + (1:Int))),c3_0,c3_1,(u64.wrap ((u64.wrap (a_2 + b_2)) + carry)),c3_3)
 else
 bif (decide ((u64.wrap ((u64.wrap (a_2 + b_2)) + carry)) < (u64.wrap (a_2 + b_2)))) then
 go ((1:Int),(i64.wrap (i + (1:Int))),c3_0,c3_1,(u64.wrap ((u64.wrap (a_2 + b_2)) + carry)),c3_3)
 else
 go ((0:Int),(i64.wrap (i + (1:Int))),c3_0,c3_1,(u64.wrap ((u64.wrap (a_2 + b_2)) + carry)),c3_3)),
 (bif (decide ((u64.wrap (a_3 + b_3)) < a_3)) then
 go ((1:Int),(i64.wrap (i + (1:Int))),c3_0,c3_1,c3_2,(u64.wrap ((u64.wrap (a_3 + b_3)) + carry)))
 else
 bif (decide ((u64.wrap ((u64.wrap (a_3 + b_3)) + carry)) < (u64.wrap (a_3 + b_3)))) then
 go ((1:Int),(i64.wrap (i + (1:Int))),c3_0,c3_1,c3_2,(u64.wrap ((u64.wrap (a_3 + b_3)) + carry)))
 else
 go ((0:Int),(i64.wrap (i + (1:Int))),c3_0,c3_1,c3_2,(u64.wrap ((u64.wrap (a_3 + b_3)) + carry))))]
 else
 some (c3_0,c3_1,c3_2,c3_3)
def f125 (a_0:Int) (a_1:Int) (a_2:Int) (a_3:Int) (b_0:Int) (b_1:Int) (b_2:Int) (b_3:Int) : Option (Int×Int×Int×Int) :=
 bindF (loopF (fun go x=>f125_l1 a_0 a_1 a_2 a_3 b_0 b_1 b_2 b_3 go x.1 x.2.1 x.2.2.1 x.2.2.2.1 x.2.2.2.2.1 x.2.2.2.2.2) fuelN ((0:Int),(0:Int),(0:Int),(0:Int),(0:Int),(0:Int))) fun z3 =>
 some (z3.1,z3.2.1,z3.2.2.1,z3.2.2.2)
def C125 : Con where
 X := Int×Int×Int×Int×Int×Int×Int×Int
 Y := Int×Int×Int×Int
 e := 0
 args x := [.raw true [(.d T4 x.1),(.d T4 x.2.1),(.d T4 x.2.2.1),(.d T4 x.2.2.2.1)],.raw true [(.d T4 x.2.2.2.2.1),(.d T4 x.2.2.2.2.2.1),(.d T4 x.2.2.2.2.2.2.1),(.d T4 x.2.2.2.2.2.2.2)]]
 hin x := []
 F x := f125 x.1 x.2.1 x.2.2.1 x.2.2.2.1 x.2.2.2.2.1 x.2.2.2.2.2.1 x.2.2.2.2.2.2.1 x.2.2.2.2.2.2.2
 ret y := [.raw true [(.d T4 y.1),(.d T4 y.2.1),(.d T4 y.2.2.1),(.d T4 y.2.2.2)]]
 hout y := []
 nout := 0
theorem C125_vc (a_0:Int) (a_1:Int) (a_2:Int) (a_3:Int) (b_0:Int) (b_1:Int) (b_2:Int) (b_3:Int) (y : Int×Int×Int×Int) (q : f125 a_0 a_1 a_2 a_3 b_0 b_1 b_2 b_3 = some y) : VC Tryz.f125 C125 (a_0,a_1,a_2,a_3,b_0,b_1,b_2,b_3) y := by
 unfold f125 at q
 refine OL (OL (OL (OL (OL ?_))))
 obtain ⟨z3,hz3,q⟩ := bE q
 refine lI (Int×Int×Int×Int×Int×Int) (Int×Int×Int×Int) (fun x=>⟨[(2,P0 0 0),(3,P0 1 0),(4,P0 2 0),(5,P0 3 0),(6,.dat T4 x.1),(7,.dat T2 x.2.1)],[(0,.cells [(.d T4 a_0),(.d T4 a_1),(.d T4 a_2),(.d T4 a_3)]),(1,.cells [(.d T4 b_0),(.d T4 b_1),(.d T4 b_2),(.d T4 b_3)]),(2,.cells [(.d T4 (0:Int)),(.d T4 (0:Int)),(.d T4 (0:Int)),(.d T4 (0:Int))]),(3,.cells [(.d T4 x.2.2.1),(.d T4 x.2.2.2.1),(.d T4 x.2.2.2.2.1),(.d T4 x.2.2.2.2.2)])],4⟩) (fun z=>[(2,⟨[(4,P0 0 0),(5,P0 1 0)],[(0,.cells [(.d T4 (0:Int)),(.d T4 (0:Int)),(.d T4 (0:Int)),(.d T4 (0:Int))]),(1,.cells [(.d T4 z.1),(.d T4 z.2.1),(.d T4 z.2.2.1),(.d T4 z.2.2.2)])],2⟩)]) (loopF (fun go x=>f125_l1 a_0 a_1 a_2 a_3 b_0 b_1 b_2 b_3 go x.1 x.2.1 x.2.2.1 x.2.2.2.1 x.2.2.2.2.1 x.2.2.2.2.2)) fuelN ((0:Int),(0:Int),(0:Int),(0:Int),(0:Int),(0:Int)) z3 (AI hz3 (AI (E4 I4 (R3 (AI (R4 TV) (R4 TV)))) (AI (fun _ _ h=>lZ h) (AI (fun m=>curI (fun carry=>curI (fun i=>curI (fun c3_0=>curI (fun c3_1=>curI (fun c3_2=>fun c3_3 z q=>?_)))))) ?_))))
 ·have q : f125_l1 a_0 a_1 a_2 a_3 b_0 b_1 b_2 b_3 (loopF (fun go x=>f125_l1 a_0 a_1 a_2 a_3 b_0 b_1 b_2 b_3 go x.1 x.2.1 x.2.2.1 x.2.2.2.1 x.2.2.2.2.1 x.2.2.2.2.2) m) carry i c3_0 c3_1 c3_2 c3_3 = some z := q
  unfold f125_l1 at q
  refine OL (OL (cI q (fun q=>?_) (fun q=>?_)))
  ·refine OL (OL (EI (.take 0 (.take 1 (.take 2 (.take 3 (.take 4 (.take 5 (.take 6 (.take 7 .done)))))))) (EI [] (EI [] (AI rfl (gI q (fun q=>?_)))))))
   refine AI (fun hk4=>?_) ?_
   ·have q := pickE q hk4
    dsimp only [nthO] at q
    refine AI (rE hk4 (by decide)) (AI (fun _=>?_) (AI (fun h=>absurd (hk4.symm.trans h) (by decide)) (AI (fun h=>absurd (hk4.symm.trans h) (by decide)) (AI (fun h=>absurd (hk4.symm.trans h) (by decide)) TV))))
    refine OL (OL (AI (rE hk4 (by decide)) (AI (fun _=>?_) (AI (fun h=>absurd (hk4.symm.trans h) (by decide)) (AI (fun h=>absurd (hk4.symm.trans h) (by decide)) (AI (fun h=>absurd (hk4.symm.trans h) (by decide)) TV))))))
    refine OL (OL (AI (rE hk4 (by decide)) (AI (fun _=>?_) (AI (fun h=>absurd (hk4.symm.trans h) (by decide)) (AI (fun h=>absurd (hk4.symm.trans h) (by decide)) (AI (fun h=>absurd (hk4.symm.trans h) (by decide)) TV))))))
    refine cN q (fun q=>?_) (fun q=>?_)
    ·refine gY (gY (cF (cI q (fun q=>?_) (fun q=>?_))))
     ·refine EI ((1:Int),(i64.wrap (i + (1:Int))),(u64.wrap ((u64.wrap (a_0 + b_0)) + carry)),c3_1,c3_2,c3_3) (AI q (E4 I4 (R3 (AI (R4 TV) (R4 TV)))))
     refine EI ((0:Int),(i64.wrap (i + (1:Int))),(u64.wrap ((u64.wrap (a_0 + b_0)) + carry)),c3_1,c3_2,c3_3) (AI q (E4 I4 (R3 (AI (R4 TV) (R4 TV)))))
    refine gN (gN (cT (cT (EI ((1:Int),(i64.wrap (i + (1:Int))),(u64.wrap ((u64.wrap (a_0 + b_0)) + carry)),c3_1,c3_2,c3_3) (AI q (E4 I4 (R3 (AI (R4 TV) (R4 TV)))))))))
   refine AI (fun hk4=>?_) ?_
   ·have q := pickE q hk4
    dsimp only [nthO] at q
    refine AI (rE hk4 (by decide)) (AI (fun h=>absurd (hk4.symm.trans h) (by decide)) ?_)
    refine AI (fun _=>?_) (AI (fun h=>absurd (hk4.symm.trans h) (by decide)) (AI (fun h=>absurd (hk4.symm.trans h) (by decide)) TV))
    refine OL (OL (AI (rE hk4 (by decide)) (AI (fun h=>absurd (hk4.symm.trans h) (by decide)) ?_)))
    refine AI (fun _=>?_) (AI (fun h=>absurd (hk4.symm.trans h) (by decide)) (AI (fun h=>absurd (hk4.symm.trans h) (by decide)) TV))
    refine OL (OL (AI (rE hk4 (by decide)) (AI (fun h=>absurd (hk4.symm.trans h) (by decide)) ?_)))
    refine AI (fun _=>?_) (AI (fun h=>absurd (hk4.symm.trans h) (by decide)) (AI (fun h=>absurd (hk4.symm.trans h) (by decide)) TV))
    refine cN q (fun q=>?_) (fun q=>?_)
    ·refine gY (gY (cF (cI q (fun q=>?_) (fun q=>?_))))
     ·refine EI ((1:Int),(i64.wrap (i + (1:Int))),c3_0,(u64.wrap ((u64.wrap (a_1 + b_1)) + carry)),c3_2,c3_3) (AI q (E4 I4 (R3 (AI (R4 TV) (R4 TV)))))
     refine EI ((0:Int),(i64.wrap (i + (1:Int))),c3_0,(u64.wrap ((u64.wrap (a_1 + b_1)) + carry)),c3_2,c3_3) (AI q (E4 I4 (R3 (AI (R4 TV) (R4 TV)))))
    refine gN (gN (cT (cT (EI ((1:Int),(i64.wrap (i + (1:Int))),c3_0,(u64.wrap ((u64.wrap (a_1 + b_1)) + carry)),c3_2,c3_3) (AI q (E4 I4 (R3 (AI (R4 TV) (R4 TV)))))))))
   refine AI (fun hk4=>?_) ?_
   ·have q := pickE q hk4
    dsimp only [nthO] at q
    refine AI (rE hk4 (by decide)) (AI (fun h=>absurd (hk4.symm.trans h) (by decide)) ?_)
    refine AI (fun h=>absurd (hk4.symm.trans h) (by decide)) ?_
    refine AI (fun _=>?_) (AI (fun h=>absurd (hk4.symm.trans h) (by decide)) TV)
    refine OL (OL (AI (rE hk4 (by decide)) (AI (fun h=>absurd (hk4.symm.trans h) (by decide)) ?_)))
    refine AI (fun h=>absurd (hk4.symm.trans h) (by decide)) ?_
    refine AI (fun _=>?_) (AI (fun h=>absurd (hk4.symm.trans h) (by decide)) TV)
    refine OL (OL (AI (rE hk4 (by decide)) (AI (fun h=>absurd (hk4.symm.trans h) (by decide)) ?_)))
    refine AI (fun h=>absurd (hk4.symm.trans h) (by decide)) ?_
    refine AI (fun _=>?_) (AI (fun h=>absurd (hk4.symm.trans h) (by decide)) TV)
    refine cN q (fun q=>?_) (fun q=>?_)
    ·refine gY (gY (cF (cI q (fun q=>?_) (fun q=>?_))))
     ·refine EI ((1:Int),(i64.wrap (i + (1:Int))),c3_0,c3_1,(u64.wrap ((u64.wrap (a_2 + b_2)) + carry)),c3_3) (AI q (E4 I4 (R3 (AI (R4 TV) (R4 TV)))))
     refine EI ((0:Int),(i64.wrap (i + (1:Int))),c3_0,c3_1,(u64.wrap ((u64.wrap (a_2 + b_2)) + carry)),c3_3) (AI q (E4 I4 (R3 (AI (R4 TV) (R4 TV)))))
    refine gN (gN (cT (cT (EI ((1:Int),(i64.wrap (i + (1:Int))),c3_0,c3_1,(u64.wrap ((u64.wrap (a_2 + b_2)) + carry)),c3_3) (AI q (E4 I4 (R3 (AI (R4 TV) (R4 TV)))))))))
   refine AI (fun hk4=>?_) TV
   have q := pickE q hk4
   dsimp only [nthO] at q
   refine AI (rE hk4 (by decide)) (AI (fun h=>absurd (hk4.symm.trans h) (by decide)) ?_)
   refine AI (fun h=>absurd (hk4.symm.trans h) (by decide)) ?_
   refine AI (fun h=>absurd (hk4.symm.trans h) (by decide)) ?_
   refine AI (fun _=>?_) TV
   refine OL (OL (AI (rE hk4 (by decide)) (AI (fun h=>absurd (hk4.symm.trans h) (by decide)) ?_)))
   refine AI (fun h=>absurd (hk4.symm.trans h) (by decide)) ?_
   refine AI (fun h=>absurd (hk4.symm.trans h) (by decide)) ?_
   refine AI (fun _=>?_) TV
   refine OL (OL (AI (rE hk4 (by decide)) (AI (fun h=>absurd (hk4.symm.trans h) (by decide)) ?_)))
   refine AI (fun h=>absurd (hk4.symm.trans h) (by decide)) ?_
   refine AI (fun h=>absurd (hk4.symm.trans h) (by decide)) ?_
   refine AI (fun _=>?_) TV
   refine cN q (fun q=>?_) (fun q=>?_)
   ·refine gY (gY (cF (cI q (fun q=>?_) (fun q=>?_))))
    ·refine EI ((1:Int),(i64.wrap (i + (1:Int))),c3_0,c3_1,c3_2,(u64.wrap ((u64.wrap (a_3 + b_3)) + carry))) (AI q (E4 I4 (R3 (AI (R4 TV) (R4 TV)))))
    refine EI ((0:Int),(i64.wrap (i + (1:Int))),c3_0,c3_1,c3_2,(u64.wrap ((u64.wrap (a_3 + b_3)) + carry))) (AI q (E4 I4 (R3 (AI (R4 TV) (R4 TV)))))
   refine gN (gN (cT (cT (EI ((1:Int),(i64.wrap (i + (1:Int))),c3_0,c3_1,c3_2,(u64.wrap ((u64.wrap (a_3 + b_3)) + carry))) (AI q (E4 I4 (R3 (AI (R4 TV) (R4 TV)))))))))
  cases sE q
  refine E4 [(0,some 2),(1,some 3)] (AI rfl (AI (R2 TV) (R2 TV)))
 refine AI (OL (OL ?_)) TV
 cases sE q
 refine AI rfl (E4 [] (AI rfl (AJ TV)))
theorem C125_holds : HP C125 125 := hH Tryz.f125 (by kernel_rfl) rfl (fun x y q=>C125_vc x.1 x.2.1 x.2.2.1 x.2.2.2.1 x.2.2.2.2.1 x.2.2.2.2.2.1 x.2.2.2.2.2.2.1 x.2.2.2.2.2.2.2 y q)
theorem f125_in : InP 125 := inP (by kernel_rfl)
def f126_l1 (a_0:Int) (a_1:Int) (a_2:Int) (a_3:Int) (b_0:Int) (b_1:Int) (b_2:Int) (b_3:Int) (go : Int → Option (Sum Bool Unit)) (i:Int) : Option (Sum Bool Unit) :=
 bif (decide (i ≥ (0:Int))) then
 guardF (0 ≤ i ∧ i < (4:Int)) <|
 pickF i
 [(bif (a_0 != b_0) then
 some (Sum.inl (decide (a_0 < b_0)))
 else
 go (i64.wrap (i - (1:Int)))),
 (bif (a_1 != b_1) then
 some (Sum.inl (decide (a_1 < b_1)))
 else
 go (i64.wrap (i - (1:Int)))),
 (bif (a_2 != b_2) then
 some (Sum.inl (decide (a_2 < b_2)))
 else
 go (i64.wrap (i - (1:Int)))),
 (bif (a_3 != b_3) then
 some (Sum.inl (decide (a_3 < b_3)))
 else
 go (i64.wrap (i - (1:Int))))]
 else
 some (Sum.inr ())
def f126 (a_0:Int) (a_1:Int) (a_2:Int) (a_3:Int) (b_0:Int) (b_1:Int) (b_2:Int) (b_3:Int) : Option Bool :=
 bindF (loopF (fun go x=>f126_l1 a_0 a_1 a_2 a_3 b_0 b_1 b_2 b_3 go x) fuelN (3:Int)) fun z2 =>
 sumF z2 (fun z2a =>
 some z2a) (fun z2b =>
 some false)
def C126 : Con where
 X := Int×Int×Int×Int×Int×Int×Int×Int
 Y := Bool
 e := 0
 args x := [.raw true [(.d T4 x.1),(.d T4 x.2.1),(.d T4 x.2.2.1),(.d T4 x.2.2.2.1)],.raw true [(.d T4 x.2.2.2.2.1),(.d T4 x.2.2.2.2.2.1),(.d T4 x.2.2.2.2.2.2.1),(.d T4 x.2.2.2.2.2.2.2)]]
 hin x := []
 F x := f126 x.1 x.2.1 x.2.2.1 x.2.2.2.1 x.2.2.2.2.1 x.2.2.2.2.2.1 x.2.2.2.2.2.2.1 x.2.2.2.2.2.2.2
 ret y := [.dat .bool y]
 hout y := []
 nout := 0
theorem C126_vc (a_0:Int) (a_1:Int) (a_2:Int) (a_3:Int) (b_0:Int) (b_1:Int) (b_2:Int) (b_3:Int) (y : Bool) (q : f126 a_0 a_1 a_2 a_3 b_0 b_1 b_2 b_3 = some y) : VC Tryz.f126 C126 (a_0,a_1,a_2,a_3,b_0,b_1,b_2,b_3) y := by
 unfold f126 at q
 refine OL (OL (OL ?_))
 obtain ⟨z2,hz2,q⟩ := bE q
 refine lI Int (Sum Bool Unit) (fun x=>⟨[(2,P0 0 0),(3,P0 1 0),(5,.dat T2 x)],[(0,.cells [(.d T4 a_0),(.d T4 a_1),(.d T4 a_2),(.d T4 a_3)]),(1,.cells [(.d T4 b_0),(.d T4 b_1),(.d T4 b_2),(.d T4 b_3)])],2⟩) (fun z=>Sum.elim (fun za=>[(1,⟨[(4,.dat .bool za)],[],0⟩)]) (fun zb=>[(2,⟨[],[],0⟩)]) z) (loopF (fun go x=>f126_l1 a_0 a_1 a_2 a_3 b_0 b_1 b_2 b_3 go x)) fuelN (3:Int) z2 (AI hz2 (AI (E4 I2 (R2 (AI (R2 TV) (R2 TV)))) (AI (fun _ _ h=>lZ h) (AI (fun m=>fun i z q=>?_) ?_))))
 ·have q : f126_l1 a_0 a_1 a_2 a_3 b_0 b_1 b_2 b_3 (loopF (fun go x=>f126_l1 a_0 a_1 a_2 a_3 b_0 b_1 b_2 b_3 go x) m) i = some z := q
  unfold f126_l1 at q
  refine OL (OL (cI q (fun q=>?_) (fun q=>?_)))
  ·refine OL (OL (EI (.take 0 (.take 1 (.take 2 (.take 3 (.take 4 (.take 5 (.take 6 .done))))))) (EI [] (EI [] (AI rfl (gI q (fun q=>?_)))))))
   refine AI (fun hk3=>?_) ?_
   ·have q := pickE q hk3
    dsimp only [nthO] at q
    refine AI (rE hk3 (by decide)) (AI (fun _=>?_) (AI (fun h=>absurd (hk3.symm.trans h) (by decide)) (AI (fun h=>absurd (hk3.symm.trans h) (by decide)) (AI (fun h=>absurd (hk3.symm.trans h) (by decide)) TV))))
    refine cI q (fun q=>?_) (fun q=>?_)
    ·refine OL (EI (.take 0 (.take 1 (.take 2 (.take 3 (.take 4 (.take 5 (.take 6 (.take 7 .done)))))))) (EI [] (EI [] (AI rfl (AI (rE hk3 (by decide)) (AI (fun _=>?_) (AI (fun h=>absurd (hk3.symm.trans h) (by decide)) (AI (fun h=>absurd (hk3.symm.trans h) (by decide)) (AI (fun h=>absurd (hk3.symm.trans h) (by decide)) TV)))))))))
     refine AI (rE hk3 (by decide)) (AI (fun _=>?_) (AI (fun h=>absurd (hk3.symm.trans h) (by decide)) (AI (fun h=>absurd (hk3.symm.trans h) (by decide)) (AI (fun h=>absurd (hk3.symm.trans h) (by decide)) TV))))
     cases sE q
     refine E4 [] (R2 (AI TV TV))
    refine EI (i64.wrap (i - (1:Int))) (AI q (E4 I2 (R2 (AI (R2 TV) (R2 TV)))))
   refine AI (fun hk3=>?_) ?_
   ·have q := pickE q hk3
    dsimp only [nthO] at q
    refine AI (rE hk3 (by decide)) (AI (fun h=>absurd (hk3.symm.trans h) (by decide)) ?_)
    refine AI (fun _=>?_) (AI (fun h=>absurd (hk3.symm.trans h) (by decide)) (AI (fun h=>absurd (hk3.symm.trans h) (by decide)) TV))
    refine cI q (fun q=>?_) (fun q=>?_)
    ·refine OL (EI (.take 0 (.take 1 (.take 2 (.take 3 (.take 4 (.take 5 (.take 6 (.take 7 .done)))))))) (EI [] (EI [] (AI rfl (AI (rE hk3 (by decide)) (AI (fun h=>absurd (hk3.symm.trans h) (by decide)) ?_))))))
     refine AI (fun _=>?_) (AI (fun h=>absurd (hk3.symm.trans h) (by decide)) (AI (fun h=>absurd (hk3.symm.trans h) (by decide)) TV))
     refine AI (rE hk3 (by decide)) (AI (fun h=>absurd (hk3.symm.trans h) (by decide)) ?_)
     refine AI (fun _=>?_) (AI (fun h=>absurd (hk3.symm.trans h) (by decide)) (AI (fun h=>absurd (hk3.symm.trans h) (by decide)) TV))
     cases sE q
     refine E4 [] (R2 (AI TV TV))
    refine EI (i64.wrap (i - (1:Int))) (AI q (E4 I2 (R2 (AI (R2 TV) (R2 TV)))))
   refine AI (fun hk3=>?_) ?_
   ·have q := pickE q hk3
    dsimp only [nthO] at q
    refine AI (rE hk3 (by decide)) (AI (fun h=>absurd (hk3.symm.trans h) (by decide)) ?_)
    refine AI (fun h=>absurd (hk3.symm.trans h) (by decide)) ?_
    refine AI (fun _=>?_) (AI (fun h=>absurd (hk3.symm.trans h) (by decide)) TV)
    refine cI q (fun q=>?_) (fun q=>?_)
    ·refine OL (EI (.take 0 (.take 1 (.take 2 (.take 3 (.take 4 (.take 5 (.take 6 (.take 7 .done)))))))) (EI [] (EI [] (AI rfl (AI (rE hk3 (by decide)) (AI (fun h=>absurd (hk3.symm.trans h) (by decide)) ?_))))))
     refine AI (fun h=>absurd (hk3.symm.trans h) (by decide)) ?_
     refine AI (fun _=>?_) (AI (fun h=>absurd (hk3.symm.trans h) (by decide)) TV)
     refine AI (rE hk3 (by decide)) (AI (fun h=>absurd (hk3.symm.trans h) (by decide)) ?_)
     refine AI (fun h=>absurd (hk3.symm.trans h) (by decide)) ?_
     refine AI (fun _=>?_) (AI (fun h=>absurd (hk3.symm.trans h) (by decide)) TV)
     cases sE q
     refine E4 [] (R2 (AI TV TV))
    refine EI (i64.wrap (i - (1:Int))) (AI q (E4 I2 (R2 (AI (R2 TV) (R2 TV)))))
   refine AI (fun hk3=>?_) TV
   have q := pickE q hk3
   dsimp only [nthO] at q
   refine AI (rE hk3 (by decide)) (AI (fun h=>absurd (hk3.symm.trans h) (by decide)) ?_)
   refine AI (fun h=>absurd (hk3.symm.trans h) (by decide)) ?_
   refine AI (fun h=>absurd (hk3.symm.trans h) (by decide)) ?_
   refine AI (fun _=>?_) TV
   refine cI q (fun q=>?_) (fun q=>?_)
   ·refine OL (EI (.take 0 (.take 1 (.take 2 (.take 3 (.take 4 (.take 5 (.take 6 (.take 7 .done)))))))) (EI [] (EI [] (AI rfl (AI (rE hk3 (by decide)) (AI (fun h=>absurd (hk3.symm.trans h) (by decide)) ?_))))))
    refine AI (fun h=>absurd (hk3.symm.trans h) (by decide)) ?_
    refine AI (fun h=>absurd (hk3.symm.trans h) (by decide)) ?_
    refine AI (fun _=>?_) TV
    refine AI (rE hk3 (by decide)) (AI (fun h=>absurd (hk3.symm.trans h) (by decide)) ?_)
    refine AI (fun h=>absurd (hk3.symm.trans h) (by decide)) ?_
    refine AI (fun h=>absurd (hk3.symm.trans h) (by decide)) ?_
    refine AI (fun _=>?_) TV
    cases sE q
    refine E4 [] (R2 (AI TV TV))
   refine EI (i64.wrap (i - (1:Int))) (AI q (E4 I2 (R2 (AI (R2 TV) (R2 TV)))))
  cases sE q
  refine E4 [] (AI rfl (AI TV TV))
 rcases z2 with z2a | z2b
 ·dsimp only [sumF] at q
  refine AI ?_ TV
  cases sE q
  refine AI rfl (E4 [] (R2 (AI TV TV)))
 dsimp only [sumF] at q
 refine AI (OL ?_) TV
 cases sE q
 refine AI rfl (E4 [] (R2 (AI TV TV)))
theorem C126_holds : HP C126 126 := hH Tryz.f126 (by kernel_rfl) rfl (fun x y q=>C126_vc x.1 x.2.1 x.2.2.1 x.2.2.2.1 x.2.2.2.2.1 x.2.2.2.2.2.1 x.2.2.2.2.2.2.1 x.2.2.2.2.2.2.2 y q)
theorem f126_in : InP 126 := inP (by kernel_rfl)
def f127_l1 (a_0:Int) (a_1:Int) (a_2:Int) (a_3:Int) (b_0:Int) (b_1:Int) (b_2:Int) (b_3:Int) (go : (Int×Int×Int×Int×Int×Int) → Option (Int×Int×Int×Int)) (borrow:Int) (i:Int) (c3_0:Int) (c3_1:Int) (c3_2:Int) (c3_3:Int) : Option (Int×Int×Int×Int) :=
 bif (decide (i < (4:Int))) then
 guardF (0 ≤ i ∧ i < (4:Int)) <|
 pickF i
 [(bif (decide (a_0 < b_0)) then
 go ((1:Int),(i64.wrap (i + (1:Int))),(u64.wrap ((u64.wrap (a_0 - b_0)) - borrow)),c3_1,c3_2,c3_3)
 else
 bif (decide ((u64.wrap (a_0 - b_0)) < borrow)) then
 go ((1:Int),(i64.wrap (i + (1:Int))),(u64.wrap ((u64.wrap (a_0 - b_0)) - borrow)),c3_1,c3_2,c3_3)
 else
 go ((0:Int),(i64.wrap (i + (1:Int))),(u64.wrap ((u64.wrap (a_0 - b_0)) - borrow)),c3_1,c3_2,c3_3)),
 (bif (decide (a_1 < b_1)) then
 go ((1:Int),(i64.wrap (i + (1:Int))),c3_0,(u64.wrap ((u64.wrap (a_1 - b_1)) - borrow)),c3_2,c3_3)
 else
 bif (decide ((u64.wrap (a_1 - b_1)) < borrow)) then
 go ((1:Int),(i64.wrap (i + (1:Int))),c3_0,(u64.wrap ((u64.wrap (a_1 - b_1)) - borrow)),c3_2,c3_3)
 else
 go ((0:Int),(i64.wrap (i + (1:Int))),c3_0,(u64.wrap ((u64.wrap (a_1 - b_1)) - borrow)),c3_2,c3_3)),
 (bif (decide (a_2 < b_2)) then
 go ((1:Int),(i64.wrap (i + (1:Int))),c3_0,c3_1,(u64.wrap ((u64.wrap (a_2 - b_2)) - borrow)),c3_3)
 else
 bif (decide ((u64.wrap (a_2 - b_2)) < borrow)) then
 go ((1:Int),(i64.wrap (i + (1:Int))),c3_0,c3_1,(u64.wrap ((u64.wrap (a_2 - b_2)) - borrow)),c3_3)
 else
 go ((0:Int),(i64.wrap (i + (1:Int))),c3_0,c3_1,(u64.wrap ((u64.wrap (a_2 - b_2)) - borrow)),c3_3)),
 (bif (decide (a_3 < b_3)) then
 go ((1:Int),(i64.wrap (i + (1:Int))),c3_0,c3_1,c3_2,(u64.wrap ((u64.wrap (a_3 - b_3)) - borrow)))
 else
 bif (decide ((u64.wrap (a_3 - b_3)) < borrow)) then
 go ((1:Int),(i64.wrap (i + (1:Int))),c3_0,c3_1,c3_2,(u64.wrap ((u64.wrap (a_3 - b_3)) - borrow)))
 else
 go ((0:Int),(i64.wrap (i + (1:Int))),c3_0,c3_1,c3_2,(u64.wrap ((u64.wrap (a_3 - b_3)) - borrow))))]
 else
 some (c3_0,c3_1,c3_2,c3_3)
def f127 (a_0:Int) (a_1:Int) (a_2:Int) (a_3:Int) (b_0:Int) (b_1:Int) (b_2:Int) (b_3:Int) : Option (Int×Int×Int×Int) :=
 bindF (loopF (fun go x=>f127_l1 a_0 a_1 a_2 a_3 b_0 b_1 b_2 b_3 go x.1 x.2.1 x.2.2.1 x.2.2.2.1 x.2.2.2.2.1 x.2.2.2.2.2) fuelN ((0:Int),(0:Int),(0:Int),(0:Int),(0:Int),(0:Int))) fun z3 =>
 some (z3.1,z3.2.1,z3.2.2.1,z3.2.2.2)
def C127 : Con where
 X := Int×Int×Int×Int×Int×Int×Int×Int
 Y := Int×Int×Int×Int
 e := 0
 args x := [.raw true [(.d T4 x.1),(.d T4 x.2.1),(.d T4 x.2.2.1),(.d T4 x.2.2.2.1)],.raw true [(.d T4 x.2.2.2.2.1),(.d T4 x.2.2.2.2.2.1),(.d T4 x.2.2.2.2.2.2.1),(.d T4 x.2.2.2.2.2.2.2)]]
 hin x := []
 F x := f127 x.1 x.2.1 x.2.2.1 x.2.2.2.1 x.2.2.2.2.1 x.2.2.2.2.2.1 x.2.2.2.2.2.2.1 x.2.2.2.2.2.2.2
 ret y := [.raw true [(.d T4 y.1),(.d T4 y.2.1),(.d T4 y.2.2.1),(.d T4 y.2.2.2)]]
 hout y := []
 nout := 0
theorem C127_vc (a_0:Int) (a_1:Int) (a_2:Int) (a_3:Int) (b_0:Int) (b_1:Int) (b_2:Int) (b_3:Int) (y : Int×Int×Int×Int) (q : f127 a_0 a_1 a_2 a_3 b_0 b_1 b_2 b_3 = some y) : VC Tryz.f127 C127 (a_0,a_1,a_2,a_3,b_0,b_1,b_2,b_3) y := by
 unfold f127 at q
 refine OL (OL (OL (OL (OL ?_))))
 obtain ⟨z3,hz3,q⟩ := bE q
 refine lI (Int×Int×Int×Int×Int×Int) (Int×Int×Int×Int) (fun x=>⟨[(2,P0 0 0),(3,P0 1 0),(4,P0 2 0),(5,P0 3 0),(6,.dat T4 x.1),(7,.dat T2 x.2.1)],[(0,.cells [(.d T4 a_0),(.d T4 a_1),(.d T4 a_2),(.d T4 a_3)]),(1,.cells [(.d T4 b_0),(.d T4 b_1),(.d T4 b_2),(.d T4 b_3)]),(2,.cells [(.d T4 (0:Int)),(.d T4 (0:Int)),(.d T4 (0:Int)),(.d T4 (0:Int))]),(3,.cells [(.d T4 x.2.2.1),(.d T4 x.2.2.2.1),(.d T4 x.2.2.2.2.1),(.d T4 x.2.2.2.2.2)])],4⟩) (fun z=>[(2,⟨[(4,P0 0 0),(5,P0 1 0)],[(0,.cells [(.d T4 (0:Int)),(.d T4 (0:Int)),(.d T4 (0:Int)),(.d T4 (0:Int))]),(1,.cells [(.d T4 z.1),(.d T4 z.2.1),(.d T4 z.2.2.1),(.d T4 z.2.2.2)])],2⟩)]) (loopF (fun go x=>f127_l1 a_0 a_1 a_2 a_3 b_0 b_1 b_2 b_3 go x.1 x.2.1 x.2.2.1 x.2.2.2.1 x.2.2.2.2.1 x.2.2.2.2.2)) fuelN ((0:Int),(0:Int),(0:Int),(0:Int),(0:Int),(0:Int)) z3 (AI hz3 (AI (E4 I4 (R3 (AI (R4 TV) (R4 TV)))) (AI (fun _ _ h=>lZ h) (AI (fun m=>curI (fun borrow=>curI (fun i=>curI (fun c3_0=>curI (fun c3_1=>curI (fun c3_2=>fun c3_3 z q=>?_)))))) ?_))))
 ·have q : f127_l1 a_0 a_1 a_2 a_3 b_0 b_1 b_2 b_3 (loopF (fun go x=>f127_l1 a_0 a_1 a_2 a_3 b_0 b_1 b_2 b_3 go x.1 x.2.1 x.2.2.1 x.2.2.2.1 x.2.2.2.2.1 x.2.2.2.2.2) m) borrow i c3_0 c3_1 c3_2 c3_3 = some z := q
  unfold f127_l1 at q
  refine OL (OL (cI q (fun q=>?_) (fun q=>?_)))
  ·refine OL (OL (EI (.take 0 (.take 1 (.take 2 (.take 3 (.take 4 (.take 5 (.take 6 (.take 7 .done)))))))) (EI [] (EI [] (AI rfl (gI q (fun q=>?_)))))))
   refine AI (fun hk4=>?_) ?_
   ·have q := pickE q hk4
    dsimp only [nthO] at q
    refine AI (rE hk4 (by decide)) (AI (fun _=>?_) (AI (fun h=>absurd (hk4.symm.trans h) (by decide)) (AI (fun h=>absurd (hk4.symm.trans h) (by decide)) (AI (fun h=>absurd (hk4.symm.trans h) (by decide)) TV))))
    refine OL (OL (AI (rE hk4 (by decide)) (AI (fun _=>?_) (AI (fun h=>absurd (hk4.symm.trans h) (by decide)) (AI (fun h=>absurd (hk4.symm.trans h) (by decide)) (AI (fun h=>absurd (hk4.symm.trans h) (by decide)) TV))))))
    refine OL (OL (EI (.take 0 (.take 1 (.take 2 (.take 3 (.take 4 (.take 5 (.take 6 (.take 7 (.take 8 (.take 9 (.take 10 (.take 11 .done)))))))))))) (EI [] (EI [] (AI rfl (AI (rE hk4 (by decide)) (AI (fun _=>?_) (AI (fun h=>absurd (hk4.symm.trans h) (by decide)) (AI (fun h=>absurd (hk4.symm.trans h) (by decide)) (AI (fun h=>absurd (hk4.symm.trans h) (by decide)) TV))))))))))
    refine AI (rE hk4 (by decide)) (AI (fun _=>?_) (AI (fun h=>absurd (hk4.symm.trans h) (by decide)) (AI (fun h=>absurd (hk4.symm.trans h) (by decide)) (AI (fun h=>absurd (hk4.symm.trans h) (by decide)) TV))))
    refine cN q (fun q=>?_) (fun q=>?_)
    ·refine gY (gY (cF (cI q (fun q=>?_) (fun q=>?_))))
     ·refine EI ((1:Int),(i64.wrap (i + (1:Int))),(u64.wrap ((u64.wrap (a_0 - b_0)) - borrow)),c3_1,c3_2,c3_3) (AI q (E4 I4 (R3 (AI (R4 TV) (R4 TV)))))
     refine EI ((0:Int),(i64.wrap (i + (1:Int))),(u64.wrap ((u64.wrap (a_0 - b_0)) - borrow)),c3_1,c3_2,c3_3) (AI q (E4 I4 (R3 (AI (R4 TV) (R4 TV)))))
    refine gN (gN (cT (cT (EI ((1:Int),(i64.wrap (i + (1:Int))),(u64.wrap ((u64.wrap (a_0 - b_0)) - borrow)),c3_1,c3_2,c3_3) (AI q (E4 I4 (R3 (AI (R4 TV) (R4 TV)))))))))
   refine AI (fun hk4=>?_) ?_
   ·have q := pickE q hk4
    dsimp only [nthO] at q
    refine AI (rE hk4 (by decide)) (AI (fun h=>absurd (hk4.symm.trans h) (by decide)) ?_)
    refine AI (fun _=>?_) (AI (fun h=>absurd (hk4.symm.trans h) (by decide)) (AI (fun h=>absurd (hk4.symm.trans h) (by decide)) TV))
    refine OL (OL (AI (rE hk4 (by decide)) (AI (fun h=>absurd (hk4.symm.trans h) (by decide)) ?_)))
    refine AI (fun _=>?_) (AI (fun h=>absurd (hk4.symm.trans h) (by decide)) (AI (fun h=>absurd (hk4.symm.trans h) (by decide)) TV))
    refine OL (OL (EI (.take 0 (.take 1 (.take 2 (.take 3 (.take 4 (.take 5 (.take 6 (.take 7 (.take 8 (.take 9 (.take 10 (.take 11 .done)))))))))))) (EI [] (EI [] (AI rfl (AI (rE hk4 (by decide)) (AI (fun h=>absurd (hk4.symm.trans h) (by decide)) ?_)))))))
    refine AI (fun _=>?_) (AI (fun h=>absurd (hk4.symm.trans h) (by decide)) (AI (fun h=>absurd (hk4.symm.trans h) (by decide)) TV))
    refine AI (rE hk4 (by decide)) (AI (fun h=>absurd (hk4.symm.trans h) (by decide)) ?_)
    refine AI (fun _=>?_) (AI (fun h=>absurd (hk4.symm.trans h) (by decide)) (AI (fun h=>absurd (hk4.symm.trans h) (by decide)) TV))
    refine cN q (fun q=>?_) (fun q=>?_)
    ·refine gY (gY (cF (cI q (fun q=>?_) (fun q=>?_))))
     ·refine EI ((1:Int),(i64.wrap (i + (1:Int))),c3_0,(u64.wrap ((u64.wrap (a_1 - b_1)) - borrow)),c3_2,c3_3) (AI q (E4 I4 (R3 (AI (R4 TV) (R4 TV)))))
     refine EI ((0:Int),(i64.wrap (i + (1:Int))),c3_0,(u64.wrap ((u64.wrap (a_1 - b_1)) - borrow)),c3_2,c3_3) (AI q (E4 I4 (R3 (AI (R4 TV) (R4 TV)))))
    refine gN (gN (cT (cT (EI ((1:Int),(i64.wrap (i + (1:Int))),c3_0,(u64.wrap ((u64.wrap (a_1 - b_1)) - borrow)),c3_2,c3_3) (AI q (E4 I4 (R3 (AI (R4 TV) (R4 TV)))))))))
   refine AI (fun hk4=>?_) ?_
   ·have q := pickE q hk4
    dsimp only [nthO] at q
    refine AI (rE hk4 (by decide)) (AI (fun h=>absurd (hk4.symm.trans h) (by decide)) ?_)
    refine AI (fun h=>absurd (hk4.symm.trans h) (by decide)) ?_
    refine AI (fun _=>?_) (AI (fun h=>absurd (hk4.symm.trans h) (by decide)) TV)
    refine OL (OL (AI (rE hk4 (by decide)) (AI (fun h=>absurd (hk4.symm.trans h) (by decide)) ?_)))
    refine AI (fun h=>absurd (hk4.symm.trans h) (by decide)) ?_
    refine AI (fun _=>?_) (AI (fun h=>absurd (hk4.symm.trans h) (by decide)) TV)
    refine OL (OL (EI (.take 0 (.take 1 (.take 2 (.take 3 (.take 4 (.take 5 (.take 6 (.take 7 (.take 8 (.take 9 (.take 10 (.take 11 .done)))))))))))) (EI [] (EI [] (AI rfl (AI (rE hk4 (by decide)) (AI (fun h=>absurd (hk4.symm.trans h) (by decide)) ?_)))))))
    refine AI (fun h=>absurd (hk4.symm.trans h) (by decide)) ?_
    refine AI (fun _=>?_) (AI (fun h=>absurd (hk4.symm.trans h) (by decide)) TV)
    refine AI (rE hk4 (by decide)) (AI (fun h=>absurd (hk4.symm.trans h) (by decide)) ?_)
    refine AI (fun h=>absurd (hk4.symm.trans h) (by decide)) ?_
    refine AI (fun _=>?_) (AI (fun h=>absurd (hk4.symm.trans h) (by decide)) TV)
    refine cN q (fun q=>?_) (fun q=>?_)
    ·refine gY (gY (cF (cI q (fun q=>?_) (fun q=>?_))))
     ·refine EI ((1:Int),(i64.wrap (i + (1:Int))),c3_0,c3_1,(u64.wrap ((u64.wrap (a_2 - b_2)) - borrow)),c3_3) (AI q (E4 I4 (R3 (AI (R4 TV) (R4 TV)))))
     refine EI ((0:Int),(i64.wrap (i + (1:Int))),c3_0,c3_1,(u64.wrap ((u64.wrap (a_2 - b_2)) - borrow)),c3_3) (AI q (E4 I4 (R3 (AI (R4 TV) (R4 TV)))))
    refine gN (gN (cT (cT (EI ((1:Int),(i64.wrap (i + (1:Int))),c3_0,c3_1,(u64.wrap ((u64.wrap (a_2 - b_2)) - borrow)),c3_3) (AI q (E4 I4 (R3 (AI (R4 TV) (R4 TV)))))))))
   refine AI (fun hk4=>?_) TV
   have q := pickE q hk4
   dsimp only [nthO] at q
   refine AI (rE hk4 (by decide)) (AI (fun h=>absurd (hk4.symm.trans h) (by decide)) ?_)
   refine AI (fun h=>absurd (hk4.symm.trans h) (by decide)) ?_
   refine AI (fun h=>absurd (hk4.symm.trans h) (by decide)) ?_
   refine AI (fun _=>?_) TV
   refine OL (OL (AI (rE hk4 (by decide)) (AI (fun h=>absurd (hk4.symm.trans h) (by decide)) ?_)))
   refine AI (fun h=>absurd (hk4.symm.trans h) (by decide)) ?_
   refine AI (fun h=>absurd (hk4.symm.trans h) (by decide)) ?_
   refine AI (fun _=>?_) TV
   refine OL (OL (EI (.take 0 (.take 1 (.take 2 (.take 3 (.take 4 (.take 5 (.take 6 (.take 7 (.take 8 (.take 9 (.take 10 (.take 11 .done)))))))))))) (EI [] (EI [] (AI rfl (AI (rE hk4 (by decide)) (AI (fun h=>absurd (hk4.symm.trans h) (by decide)) ?_)))))))
   refine AI (fun h=>absurd (hk4.symm.trans h) (by decide)) ?_
   refine AI (fun h=>absurd (hk4.symm.trans h) (by decide)) ?_
   refine AI (fun _=>?_) TV
   refine AI (rE hk4 (by decide)) (AI (fun h=>absurd (hk4.symm.trans h) (by decide)) ?_)
   refine AI (fun h=>absurd (hk4.symm.trans h) (by decide)) ?_
   refine AI (fun h=>absurd (hk4.symm.trans h) (by decide)) ?_
   refine AI (fun _=>?_) TV
   refine cN q (fun q=>?_) (fun q=>?_)
   ·refine gY (gY (cF (cI q (fun q=>?_) (fun q=>?_))))
    ·refine EI ((1:Int),(i64.wrap (i + (1:Int))),c3_0,c3_1,c3_2,(u64.wrap ((u64.wrap (a_3 - b_3)) - borrow))) (AI q (E4 I4 (R3 (AI (R4 TV) (R4 TV)))))
    refine EI ((0:Int),(i64.wrap (i + (1:Int))),c3_0,c3_1,c3_2,(u64.wrap ((u64.wrap (a_3 - b_3)) - borrow))) (AI q (E4 I4 (R3 (AI (R4 TV) (R4 TV)))))
   refine gN (gN (cT (cT (EI ((1:Int),(i64.wrap (i + (1:Int))),c3_0,c3_1,c3_2,(u64.wrap ((u64.wrap (a_3 - b_3)) - borrow))) (AI q (E4 I4 (R3 (AI (R4 TV) (R4 TV)))))))))
  cases sE q
  refine E4 [(0,some 2),(1,some 3)] (AI rfl (AI (R2 TV) (R2 TV)))
 refine AI (OL (OL ?_)) TV
 cases sE q
 refine AI rfl (E4 [] (AI rfl (AJ TV)))
theorem C127_holds : HP C127 127 := hH Tryz.f127 (by kernel_rfl) rfl (fun x y q=>C127_vc x.1 x.2.1 x.2.2.1 x.2.2.2.1 x.2.2.2.2.1 x.2.2.2.2.2.1 x.2.2.2.2.2.2.1 x.2.2.2.2.2.2.2 y q)
theorem f127_in : InP 127 := inP (by kernel_rfl)
def f92 (a_Neg : Bool) (a_M_0:Int) (a_M_1:Int) (a_M_2:Int) (a_M_3:Int) (b_Neg : Bool) (b_M_0:Int) (b_M_1:Int) (b_M_2:Int) (b_M_3:Int) : Option (Bool×Int×Int×Int×Int) :=
 bif (a_Neg == b_Neg) then
 bindF (f125 a_M_0 a_M_1 a_M_2 a_M_3 b_M_0 b_M_1 b_M_2 b_M_3) fun q2_6 =>
 some (a_Neg,q2_6.1,q2_6.2.1,q2_6.2.2.1,q2_6.2.2.2)
 else
 bindF (f126 a_M_0 a_M_1 a_M_2 a_M_3 b_M_0 b_M_1 b_M_2 b_M_3) fun q2_8 =>
 bif q2_8 then
 bindF (f127 b_M_0 b_M_1 b_M_2 b_M_3 a_M_0 a_M_1 a_M_2 a_M_3) fun q4_6 =>
 some (b_Neg,q4_6.1,q4_6.2.1,q4_6.2.2.1,q4_6.2.2.2)
 else
 bindF (f127 a_M_0 a_M_1 a_M_2 a_M_3 b_M_0 b_M_1 b_M_2 b_M_3) fun q5_6 =>
 some (a_Neg,q5_6.1,q5_6.2.1,q5_6.2.2.1,q5_6.2.2.2)
def C92 : Con where
 X := Bool×Int×Int×Int×Int×Bool×Int×Int×Int×Int
 Y := Bool×Int×Int×Int×Int
 e := 0
 args x := [.raw true [(.d .bool x.1),(.d T4 x.2.1),(.d T4 x.2.2.1),(.d T4 x.2.2.2.1),(.d T4 x.2.2.2.2.1)],.raw true [(.d .bool x.2.2.2.2.2.1),(.d T4 x.2.2.2.2.2.2.1),(.d T4 x.2.2.2.2.2.2.2.1),(.d T4 x.2.2.2.2.2.2.2.2.1),(.d T4 x.2.2.2.2.2.2.2.2.2)]]
 hin x := []
 F x := f92 x.1 x.2.1 x.2.2.1 x.2.2.2.1 x.2.2.2.2.1 x.2.2.2.2.2.1 x.2.2.2.2.2.2.1 x.2.2.2.2.2.2.2.1 x.2.2.2.2.2.2.2.2.1 x.2.2.2.2.2.2.2.2.2
 ret y := [.raw true [(.d .bool y.1),(.d T4 y.2.1),(.d T4 y.2.2.1),(.d T4 y.2.2.2.1),(.d T4 y.2.2.2.2)]]
 hout y := []
 nout := 0
theorem C92_vc (a_Neg : Bool) (a_M_0:Int) (a_M_1:Int) (a_M_2:Int) (a_M_3:Int) (b_Neg : Bool) (b_M_0:Int) (b_M_1:Int) (b_M_2:Int) (b_M_3:Int) (y : Bool×Int×Int×Int×Int) (q : f92 a_Neg a_M_0 a_M_1 a_M_2 a_M_3 b_Neg b_M_0 b_M_1 b_M_2 b_M_3 = some y) : VC Tryz.f92 C92 (a_Neg,a_M_0,a_M_1,a_M_2,a_M_3,b_Neg,b_M_0,b_M_1,b_M_2,b_M_3) y := by
 unfold f92 at q
 refine OL (OL (OL (cI q (fun q=>?_) (fun q=>?_))))
 ·refine OL (EI (.take 0 (.take 1 (.take 2 (.take 3 (.take 4 (.take 5 (.alt 6 (.take 7 (.alt 8 .done .done)) .done))))))) (EI [] (EI [] (AI rfl (AI TV ?_)))))
  obtain ⟨q2_6,hq2_6,q⟩ := bE q
  refine OL (AI f125_in (cV (cQ C125 (a_M_0,a_M_1,a_M_2,a_M_3,b_M_0,b_M_1,b_M_2,b_M_3) q2_6 [] false C125_holds hq2_6 rfl rfl (AI NH (R2 (AI (R2 TV) (AI TV (AI TV (OL ?_)))))))))
  cases sE q
  refine AI rfl (E4 [] (AI rfl (AJ TV)))
 refine OL (OL ?_)
 obtain ⟨q2_8,hq2_8,q⟩ := bE q
 refine OL (AI f126_in (cV (cQ C126 (a_M_0,a_M_1,a_M_2,a_M_3,b_M_0,b_M_1,b_M_2,b_M_3) q2_8 [] false C126_holds hq2_8 rfl rfl (AI NH (R2 (AI (R2 TV) (AI TV (cI q (fun q=>?_) (fun q=>?_)))))))))
 ·refine OL (EI (.take 0 (.take 1 (.take 2 (.take 3 (.take 4 (.take 5 (.alt 6 (.take 7 (.alt 8 .done .done)) .done))))))) (EI [] (EI [] (AI rfl (AI TV ?_)))))
  obtain ⟨q4_6,hq4_6,q⟩ := bE q
  refine OL (AI f127_in (cV (cQ C127 (b_M_0,b_M_1,b_M_2,b_M_3,a_M_0,a_M_1,a_M_2,a_M_3) q4_6 [] false C127_holds hq4_6 rfl rfl (AI NH (R2 (AI (R2 TV) (AI TV (AI TV (OL ?_)))))))))
  cases sE q
  refine AI rfl (E4 [] (AI rfl (AJ TV)))
 refine OL (EI (.take 0 (.take 1 (.take 2 (.take 3 (.take 4 (.take 5 (.alt 6 (.take 7 (.alt 8 .done .done)) .done))))))) (EI [] (EI [] (AI rfl (AI TV ?_)))))
 obtain ⟨q5_6,hq5_6,q⟩ := bE q
 refine OL (AI f127_in (cV (cQ C127 (a_M_0,a_M_1,a_M_2,a_M_3,b_M_0,b_M_1,b_M_2,b_M_3) q5_6 [] false C127_holds hq5_6 rfl rfl (AI NH (R2 (AI (R2 TV) (AI TV (AI TV (OL ?_)))))))))
 cases sE q
 refine AI rfl (E4 [] (AI rfl (AJ TV)))
theorem C92_holds : HP C92 92 := hH Tryz.f92 (by kernel_rfl) rfl (fun x y q=>C92_vc x.1 x.2.1 x.2.2.1 x.2.2.2.1 x.2.2.2.2.1 x.2.2.2.2.2.1 x.2.2.2.2.2.2.1 x.2.2.2.2.2.2.2.1 x.2.2.2.2.2.2.2.2.1 x.2.2.2.2.2.2.2.2.2 y q)
theorem f92_in : InP 92 := inP (by kernel_rfl)
def f94_j3 (a_M_0:Int) (a_M_1:Int) (a_M_2:Int) (a_M_3:Int) : Option Bool :=
 bif ((bitsOf IntKind.u64 (fun p q=>p ||| q) (bitsOf IntKind.u64 (fun p q=>p ||| q) a_M_1 a_M_2) a_M_3) != (0:Int)) then
 some true
 else
 some (decide (a_M_0 ≥ (9223372036854775808:Int)))
def f94_j2 (a_Neg : Bool) (a_M_0:Int) (a_M_1:Int) (a_M_2:Int) (a_M_3:Int) : Option (Sum Unit Int) :=
 bindF (f94_j3 a_M_0 a_M_1 a_M_2 a_M_3) fun z3 =>
 bif z3 then
 bif a_Neg then
 some (Sum.inr (-9223372036854775808:Int))
 else
 some (Sum.inr (9223372036854775807:Int))
 else
 some (Sum.inl ())
def f94 (a_Neg : Bool) (a_M_0:Int) (a_M_1:Int) (a_M_2:Int) (a_M_3:Int) : Option Int :=
 bindF (f94_j2 a_Neg a_M_0 a_M_1 a_M_2 a_M_3) fun z2 =>
 sumF z2 (fun z2a =>
 bif a_Neg then
 some (i64.wrap (0 - (i64.wrap a_M_0)))
 else
 some (i64.wrap a_M_0)) (fun z2b =>
 some z2b)
def C94 : Con where
 X := Bool×Int×Int×Int×Int
 Y := Int
 e := 0
 args x := [.raw true [(.d .bool x.1),(.d T4 x.2.1),(.d T4 x.2.2.1),(.d T4 x.2.2.2.1),(.d T4 x.2.2.2.2)]]
 hin x := []
 F x := f94 x.1 x.2.1 x.2.2.1 x.2.2.2.1 x.2.2.2.2
 ret y := [.dat T2 y]
 hout y := []
 nout := 0
theorem C94_vc (a_Neg : Bool) (a_M_0:Int) (a_M_1:Int) (a_M_2:Int) (a_M_3:Int) (y:Int) (q : f94 a_Neg a_M_0 a_M_1 a_M_2 a_M_3 = some y) : VC Tryz.f94 C94 (a_Neg,a_M_0,a_M_1,a_M_2,a_M_3) y := by
 unfold f94 at q
 refine OL ?_
 obtain ⟨z2,hz2,q⟩ := bE q
 refine OQ ⟨Sum.elim (fun z2a=>[(0,⟨[(1,P0 0 0)],[(0,.cells [(.d .bool a_Neg),(.d T4 a_M_0),(.d T4 a_M_1),(.d T4 a_M_2),(.d T4 a_M_3)])],1⟩)]) (fun z2b=>[(1,⟨[(2,.dat T2 z2b)],[],0⟩)]) z2,?_,?_⟩
 ·have q := hz2
  clear hz2
  unfold f94_j2 at q
  obtain ⟨z3,hz3,q⟩ := bE q
  refine OQ ⟨[(0,⟨[(1,P0 0 0),(20,.dat .bool z3)],[(0,.cells [(.d .bool a_Neg),(.d T4 a_M_0),(.d T4 a_M_1),(.d T4 a_M_2),(.d T4 a_M_3)])],1⟩)],?_,?_⟩
  ·have q := hz3
   clear hz3
   unfold f94_j3 at q
   refine AI (by decide) (AI (fun h=>absurd h (by decide)) ?_)
   refine AI (fun _=>?_) (AI (fun h=>absurd h (by decide)) (AI (fun h=>absurd h (by decide)) TV))
   refine AI (by decide) (AI (fun h=>absurd h (by decide)) ?_)
   refine AI (fun h=>absurd h (by decide)) ?_
   refine AI (fun _=>?_) (AI (fun h=>absurd h (by decide)) TV)
   refine AI (by decide) (AI (fun h=>absurd h (by decide)) ?_)
   refine AI (fun h=>absurd h (by decide)) ?_
   refine AI (fun h=>absurd h (by decide)) ?_
   refine AI (fun _=>?_) TV
   refine cN q (fun q=>?_) (fun q=>?_)
   ·refine gY (AI (by decide) (AI (fun _=>?_) (AI (fun h=>absurd h (by decide)) (AI (fun h=>absurd h (by decide)) (AI (fun h=>absurd h (by decide)) TV)))))
    refine gY (gY (cF ?_))
    cases sE q
    refine E4 [(0,some 0)] (R2 (AJ (AI rfl TV)))
   refine gN (gN (gN (cT ?_)))
   cases sE q
   refine E4 [(0,some 0)] (R2 (AJ (AI rfl TV)))
  refine AI (cI q (fun q=>?_) (fun q=>?_)) TV
  ·refine OL (OL (cI q (fun q=>?_) (fun q=>?_)))
   ·cases sE q
    refine OL (E4 [] (R2 (AI TV TV)))
   cases sE q
   refine OL (E4 [] (R2 (AI TV TV)))
  cases sE q
  refine E4 [(0,some 0)] (AI rfl (AJ (AI rfl TV)))
 rcases z2 with z2a | z2b
 ·dsimp only [sumF] at q
  refine AI (OL (OL (cI q (fun q=>?_) (fun q=>?_)))) TV
  ·refine OL (AI (by decide) (AI (fun _=>?_) (AI (fun h=>absurd h (by decide)) (AI (fun h=>absurd h (by decide)) (AI (fun h=>absurd h (by decide)) TV)))))
   cases sE q
   refine AI rfl (E4 [] (R2 (AI TV TV)))
  refine OL (AI (by decide) (AI (fun _=>?_) (AI (fun h=>absurd h (by decide)) (AI (fun h=>absurd h (by decide)) (AI (fun h=>absurd h (by decide)) TV)))))
  cases sE q
  refine AI rfl (E4 [] (R2 (AI TV TV)))
 dsimp only [sumF] at q
 refine AI ?_ TV
 cases sE q
 refine AI rfl (E4 [] (R2 (AI TV TV)))
theorem C94_holds : HP C94 94 := hH Tryz.f94 (by kernel_rfl) rfl (fun x y q=>C94_vc x.1 x.2.1 x.2.2.1 x.2.2.2.1 x.2.2.2.2 y q)
theorem f94_in : InP 94 := inP (by kernel_rfl)
def f89 (a:Int) (b:Int) : Option Int :=
 bindF (f99 a) fun r1 =>
 bindF (f99 b) fun r2 =>
 bindF (f92 r1.1 r1.2 (0:Int) (0:Int) (0:Int) r2.1 r2.2 (0:Int) (0:Int) (0:Int)) fun r3 =>
 bindF (f94 r3.1 r3.2.1 r3.2.2.1 r3.2.2.2.1 r3.2.2.2.2) fun r4 =>
 some r4
def C89 : Con where
 X := Int×Int
 Y := Int
 e := 0
 args x := [.dat T2 x.1,.dat T2 x.2]
 hin x := []
 F x := f89 x.1 x.2
 ret y := [.dat T2 y]
 hout y := []
 nout := 0
theorem C89_vc (a:Int) (b:Int) (y:Int) (q : f89 a b = some y) : VC Tryz.f89 C89 (a,b) y := by
 unfold f89 at q
 refine OL (OL ?_)
 obtain ⟨r1,hr1,q⟩ := bE q
 refine OL (AI f99_in (cV (cQ C99 a r1 [] false C99_holds hr1 rfl rfl (AI rfl (K0 ?_)))))
 obtain ⟨r2,hr2,q⟩ := bE q
 refine OL (AI f99_in (cV (cQ C99 b r2 [] false C99_holds hr2 rfl rfl (AI rfl (K0 ?_)))))
 obtain ⟨r3,hr3,q⟩ := bE q
 refine OL (AI f92_in (cV (cQ C92 (r1.1,r1.2,(0:Int),(0:Int),(0:Int),r2.1,r2.2,(0:Int),(0:Int),(0:Int)) r3 [] false C92_holds hr3 rfl rfl (AI NH (R2 (AI (R2 TV) (AI TV ?_)))))))
 obtain ⟨r4,hr4,q⟩ := bE q
 refine OL (AI f94_in (cV (cQ C94 (r3.1,r3.2.1,r3.2.2.1,r3.2.2.2.1,r3.2.2.2.2) r4 [] false C94_holds hr4 rfl rfl (AI NH (R2 (AJ (AI TV ?_)))))))
 cases sE q
 refine AI rfl (E4 [] (R2 (AI TV TV)))
theorem C89_holds : HP C89 89 := hH Tryz.f89 (by kernel_rfl) rfl (fun x y q=>C89_vc x.1 x.2 y q)
theorem f89_in : InP 89 := inP (by kernel_rfl)
def f124 (a_Neg : Bool) (a_M_0:Int) (a_M_1:Int) (a_M_2:Int) (a_M_3:Int) : Option (Bool×Int×Int×Int×Int) :=
 some ((!a_Neg),a_M_0,a_M_1,a_M_2,a_M_3)
def C124 : Con where
 X := Bool×Int×Int×Int×Int
 Y := Bool×Int×Int×Int×Int
 e := 0
 args x := [.raw true [(.d .bool x.1),(.d T4 x.2.1),(.d T4 x.2.2.1),(.d T4 x.2.2.2.1),(.d T4 x.2.2.2.2)]]
 hin x := []
 F x := f124 x.1 x.2.1 x.2.2.1 x.2.2.2.1 x.2.2.2.2
 ret y := [.raw true [(.d .bool y.1),(.d T4 y.2.1),(.d T4 y.2.2.1),(.d T4 y.2.2.2.1),(.d T4 y.2.2.2.2)]]
 hout y := []
 nout := 0
theorem C124_vc (a_Neg : Bool) (a_M_0:Int) (a_M_1:Int) (a_M_2:Int) (a_M_3:Int) (y : Bool×Int×Int×Int×Int) (q : f124 a_Neg a_M_0 a_M_1 a_M_2 a_M_3 = some y) : VC Tryz.f124 C124 (a_Neg,a_M_0,a_M_1,a_M_2,a_M_3) y := by
 unfold f124 at q
 refine OL (OL (OL ?_))
 cases sE q
 refine AI rfl (E4 [] (AI rfl (AJ TV)))
theorem C124_holds : HP C124 124 := hH Tryz.f124 (by kernel_rfl) rfl (fun x y q=>C124_vc x.1 x.2.1 x.2.2.1 x.2.2.2.1 x.2.2.2.2 y q)
theorem f124_in : InP 124 := inP (by kernel_rfl)
def f90 (a:Int) (b:Int) : Option Int :=
 bindF (f99 a) fun r1 =>
 bindF (f99 b) fun r2 =>
 bindF (f124 r2.1 r2.2 (0:Int) (0:Int) (0:Int)) fun r3 =>
 bindF (f92 r1.1 r1.2 (0:Int) (0:Int) (0:Int) r3.1 r3.2.1 r3.2.2.1 r3.2.2.2.1 r3.2.2.2.2) fun r4 =>
 bindF (f94 r4.1 r4.2.1 r4.2.2.1 r4.2.2.2.1 r4.2.2.2.2) fun r5 =>
 some r5
def C90 : Con where
 X := Int×Int
 Y := Int
 e := 0
 args x := [.dat T2 x.1,.dat T2 x.2]
 hin x := []
 F x := f90 x.1 x.2
 ret y := [.dat T2 y]
 hout y := []
 nout := 0
theorem C90_vc (a:Int) (b:Int) (y:Int) (q : f90 a b = some y) : VC Tryz.f90 C90 (a,b) y := by
 unfold f90 at q
 refine OL (OL ?_)
 obtain ⟨r1,hr1,q⟩ := bE q
 refine OL (AI f99_in (cV (cQ C99 a r1 [] false C99_holds hr1 rfl rfl (AI rfl (K0 ?_)))))
 obtain ⟨r2,hr2,q⟩ := bE q
 refine OL (AI f99_in (cV (cQ C99 b r2 [] false C99_holds hr2 rfl rfl (AI rfl (K0 ?_)))))
 obtain ⟨r3,hr3,q⟩ := bE q
 refine OL (AI f124_in (cV (cQ C124 (r2.1,r2.2,(0:Int),(0:Int),(0:Int)) r3 [] false C124_holds hr3 rfl rfl (AI NH (R2 (AJ (AI TV ?_)))))))
 obtain ⟨r4,hr4,q⟩ := bE q
 refine OL (AI f92_in (cV (cQ C92 (r1.1,r1.2,(0:Int),(0:Int),(0:Int),r3.1,r3.2.1,r3.2.2.1,r3.2.2.2.1,r3.2.2.2.2) r4 [] false C92_holds hr4 rfl rfl (AI NH (R2 (AI (R2 TV) (AI TV ?_)))))))
 obtain ⟨r5,hr5,q⟩ := bE q
 refine OL (AI f94_in (cV (cQ C94 (r4.1,r4.2.1,r4.2.2.1,r4.2.2.2.1,r4.2.2.2.2) r5 [] false C94_holds hr5 rfl rfl (AI NH (R2 (AJ (AI TV ?_)))))))
 cases sE q
 refine AI rfl (E4 [] (R2 (AI TV TV)))
theorem C90_holds : HP C90 90 := hH Tryz.f90 (by kernel_rfl) rfl (fun x y q=>C90_vc x.1 x.2 y q)
theorem f90_in : InP 90 := inP (by kernel_rfl)
def f93_l1 (r1:Int) (r2:Int) (go : (Int×Int×Int×Int×Int) → Option (Int×Int×Int×Int)) (v40:Int) (c1_0:Int) (c1_1:Int) (c1_2:Int) (c1_3:Int) : Option (Int×Int×Int×Int) :=
 bif (decide (v40 < (2:Int))) then
 guardF (0 ≤ v40 ∧ v40 < (2:Int)) <|
 pickF v40
 [(bindF (f125 c1_0 c1_1 c1_2 c1_3 (u64.wrap ((u64.wrap ((bitsOf IntKind.u64 (fun p q=>p &&& q) r1 (4294967295:Int)) * (Int.fdiv r2 (2 ^ min (Int.toNat (32:Int)) u64.bits)))) * 2 ^ min (Int.toNat (32:Int)) u64.bits)) (Int.fdiv (u64.wrap ((bitsOf IntKind.u64 (fun p q=>p &&& q) r1 (4294967295:Int)) * (Int.fdiv r2 (2 ^ min (Int.toNat (32:Int)) u64.bits)))) (2 ^ min (Int.toNat (32:Int)) u64.bits)) (0:Int) (0:Int)) fun r9 =>
 go ((i64.wrap (v40 + (1:Int))),r9.1,r9.2.1,r9.2.2.1,r9.2.2.2)),
 (bindF (f125 c1_0 c1_1 c1_2 c1_3 (u64.wrap ((u64.wrap ((Int.fdiv r1 (2 ^ min (Int.toNat (32:Int)) u64.bits)) * (bitsOf IntKind.u64 (fun p q=>p &&& q) r2 (4294967295:Int)))) * 2 ^ min (Int.toNat (32:Int)) u64.bits)) (Int.fdiv (u64.wrap ((Int.fdiv r1 (2 ^ min (Int.toNat (32:Int)) u64.bits)) * (bitsOf IntKind.u64 (fun p q=>p &&& q) r2 (4294967295:Int)))) (2 ^ min (Int.toNat (32:Int)) u64.bits)) (0:Int) (0:Int)) fun r10 =>
 go ((i64.wrap (v40 + (1:Int))),r10.1,r10.2.1,r10.2.2.1,r10.2.2.2))]
 else
 some (c1_0,c1_1,c1_2,c1_3)
def f93 (a:Int) (b:Int) : Option (Bool×Int×Int×Int×Int) :=
 bindF (f128 a) fun r1 =>
 bindF (f128 b) fun r2 =>
 bindF (loopF (fun go x=>f93_l1 r1 r2 go x.1 x.2.1 x.2.2.1 x.2.2.2.1 x.2.2.2.2) fuelN ((0:Int),(u64.wrap ((bitsOf IntKind.u64 (fun p q=>p &&& q) r1 (4294967295:Int)) * (bitsOf IntKind.u64 (fun p q=>p &&& q) r2 (4294967295:Int)))),(u64.wrap ((Int.fdiv r1 (2 ^ min (Int.toNat (32:Int)) u64.bits)) * (Int.fdiv r2 (2 ^ min (Int.toNat (32:Int)) u64.bits)))),(0:Int),(0:Int))) fun z7 =>
 some ((!((decide (a < (0:Int))) == (decide (b < (0:Int))))),z7.1,z7.2.1,z7.2.2.1,z7.2.2.2)
def C93 : Con where
 X := Int×Int
 Y := Bool×Int×Int×Int×Int
 e := 0
 args x := [.dat T2 x.1,.dat T2 x.2]
 hin x := []
 F x := f93 x.1 x.2
 ret y := [.raw true [(.d .bool y.1),(.d T4 y.2.1),(.d T4 y.2.2.1),(.d T4 y.2.2.2.1),(.d T4 y.2.2.2.2)]]
 hout y := []
 nout := 0
theorem C93_vc (a:Int) (b:Int) (y : Bool×Int×Int×Int×Int) (q : f93 a b = some y) : VC Tryz.f93 C93 (a,b) y := by
 unfold f93 at q
 refine OL (OL ?_)
 obtain ⟨r1,hr1,q⟩ := bE q
 refine OL (AI f128_in (cV (cQ C128 a r1 [] false C128_holds hr1 rfl rfl (AI rfl (K0 ?_)))))
 obtain ⟨r2,hr2,q⟩ := bE q
 refine OL (AI f128_in (cV (cQ C128 b r2 [] false C128_holds hr2 rfl rfl (AI rfl (K0 (OL (AI (by decide) (AI (by decide) (OL (OL (OL (OL ?_))))))))))))
 obtain ⟨z7,hz7,q⟩ := bE q
 refine lI (Int×Int×Int×Int×Int) (Int×Int×Int×Int) (fun x=>⟨[(0,.dat T2 a),(1,.dat T2 b),(4,P0 0 0),(11,P0 1 0),(39,.raw true [(.d T4 (u64.wrap ((bitsOf IntKind.u64 (fun p q=>p &&& q) r1 (4294967295:Int)) * (Int.fdiv r2 (2 ^ min (Int.toNat (32:Int)) u64.bits))))),(.d T4 (u64.wrap ((Int.fdiv r1 (2 ^ min (Int.toNat (32:Int)) u64.bits)) * (bitsOf IntKind.u64 (fun p q=>p &&& q) r2 (4294967295:Int)))))]),(40,.dat T2 x.1)],[(0,.cells [(.d .bool false),(.d T4 (0:Int)),(.d T4 (0:Int)),(.d T4 (0:Int)),(.d T4 (0:Int))]),(1,.cells [(.d T4 x.2.1),(.d T4 x.2.2.1),(.d T4 x.2.2.2.1),(.d T4 x.2.2.2.2)])],2⟩) (fun z=>[(2,⟨[(0,.dat T2 a),(1,.dat T2 b),(4,P0 0 0),(11,P0 1 0)],[(0,.cells [(.d .bool false),(.d T4 (0:Int)),(.d T4 (0:Int)),(.d T4 (0:Int)),(.d T4 (0:Int))]),(1,.cells [(.d T4 z.1),(.d T4 z.2.1),(.d T4 z.2.2.1),(.d T4 z.2.2.2)])],2⟩)]) (loopF (fun go x=>f93_l1 r1 r2 go x.1 x.2.1 x.2.2.1 x.2.2.2.1 x.2.2.2.2)) fuelN ((0:Int),(u64.wrap ((bitsOf IntKind.u64 (fun p q=>p &&& q) r1 (4294967295:Int)) * (bitsOf IntKind.u64 (fun p q=>p &&& q) r2 (4294967295:Int)))),(u64.wrap ((Int.fdiv r1 (2 ^ min (Int.toNat (32:Int)) u64.bits)) * (Int.fdiv r2 (2 ^ min (Int.toNat (32:Int)) u64.bits)))),(0:Int),(0:Int)) z7 (AI hz7 (AI (E4 I2 (R4 (AI (R3 TV) (R2 TV)))) (AI (fun _ _ h=>lZ h) (AI (fun m=>curI (fun v40=>curI (fun c1_0=>curI (fun c1_1=>curI (fun c1_2=>fun c1_3 z q=>?_))))) ?_))))
 ·have q : f93_l1 r1 r2 (loopF (fun go x=>f93_l1 r1 r2 go x.1 x.2.1 x.2.2.1 x.2.2.2.1 x.2.2.2.2) m) v40 c1_0 c1_1 c1_2 c1_3 = some z := q
  unfold f93_l1 at q
  refine OL (OL (cI q (fun q=>?_) (fun q=>?_)))
  ·refine OL (OL (gI q (fun q=>?_)))
   refine AI (fun hk8=>?_) ?_
   ·have q := pickE q hk8
    dsimp only [nthO] at q
    refine AI (by decide) (AI (by decide) ?_)
    obtain ⟨r9,hr9,q⟩ := bE q
    refine OL (AI f125_in (cV (cQ C125 (c1_0,c1_1,c1_2,c1_3,(u64.wrap ((u64.wrap ((bitsOf IntKind.u64 (fun p q=>p &&& q) r1 (4294967295:Int)) * (Int.fdiv r2 (2 ^ min (Int.toNat (32:Int)) u64.bits)))) * 2 ^ min (Int.toNat (32:Int)) u64.bits)),(Int.fdiv (u64.wrap ((bitsOf IntKind.u64 (fun p q=>p &&& q) r1 (4294967295:Int)) * (Int.fdiv r2 (2 ^ min (Int.toNat (32:Int)) u64.bits)))) (2 ^ min (Int.toNat (32:Int)) u64.bits)),(0:Int),(0:Int)) r9 [] false C125_holds hr9 rfl rfl ?_)))
    refine AI NH (R2 (AI (R2 TV) (AI TV (OL (EI ((i64.wrap (v40 + (1:Int))),r9.1,r9.2.1,r9.2.2.1,r9.2.2.2) (AI q (E4 I2 (R4 (AI (R3 TV) (R2 TV))))))))))
   refine AI (fun hk8=>?_) TV
   have q := pickE q hk8
   dsimp only [nthO] at q
   refine AI (by decide) (AI (by decide) ?_)
   obtain ⟨r10,hr10,q⟩ := bE q
   refine OL (AI f125_in (cV (cQ C125 (c1_0,c1_1,c1_2,c1_3,(u64.wrap ((u64.wrap ((Int.fdiv r1 (2 ^ min (Int.toNat (32:Int)) u64.bits)) * (bitsOf IntKind.u64 (fun p q=>p &&& q) r2 (4294967295:Int)))) * 2 ^ min (Int.toNat (32:Int)) u64.bits)),(Int.fdiv (u64.wrap ((Int.fdiv r1 (2 ^ min (Int.toNat (32:Int)) u64.bits)) * (bitsOf IntKind.u64 (fun p q=>p &&& q) r2 (4294967295:Int)))) (2 ^ min (Int.toNat (32:Int)) u64.bits)),(0:Int),(0:Int)) r10 [] false C125_holds hr10 rfl rfl ?_)))
   refine AI NH (R2 (AI (R2 TV) (AI TV (OL (EI ((i64.wrap (v40 + (1:Int))),r10.1,r10.2.1,r10.2.2.1,r10.2.2.2) (AI q (E4 I2 (R4 (AI (R3 TV) (R2 TV))))))))))
  cases sE q
  refine E4 I2 (R3 (AI (R2 TV) (R2 TV)))
 refine AI (OL (OL ?_)) TV
 cases sE q
 refine AI rfl (E4 [] (AI rfl (AJ TV)))
theorem C93_holds : HP C93 93 := hH Tryz.f93 (by kernel_rfl) rfl (fun x y q=>C93_vc x.1 x.2 y q)
theorem f93_in : InP 93 := inP (by kernel_rfl)
def f129 (m_0:Int) (m_1:Int) (m_2:Int) (m_3:Int) (i:Int) : Option Int :=
 guardF (0 ≤ (i64.wrap (Int.tdiv i (64:Int))) ∧ (i64.wrap (Int.tdiv i (64:Int))) < (4:Int)) <|
 pickF (i64.wrap (Int.tdiv i (64:Int)))
 [(guardF (0 ≤ (u64.wrap (Int.tmod i (64:Int)))) <|
 some (bitsOf IntKind.u64 (fun p q=>p &&& q) (Int.fdiv m_0 (2 ^ min (Int.toNat (u64.wrap (Int.tmod i (64:Int)))) u64.bits)) (1:Int))),
 (guardF (0 ≤ (u64.wrap (Int.tmod i (64:Int)))) <|
 some (bitsOf IntKind.u64 (fun p q=>p &&& q) (Int.fdiv m_1 (2 ^ min (Int.toNat (u64.wrap (Int.tmod i (64:Int)))) u64.bits)) (1:Int))),
 (guardF (0 ≤ (u64.wrap (Int.tmod i (64:Int)))) <|
 some (bitsOf IntKind.u64 (fun p q=>p &&& q) (Int.fdiv m_2 (2 ^ min (Int.toNat (u64.wrap (Int.tmod i (64:Int)))) u64.bits)) (1:Int))),
 (guardF (0 ≤ (u64.wrap (Int.tmod i (64:Int)))) <|
 some (bitsOf IntKind.u64 (fun p q=>p &&& q) (Int.fdiv m_3 (2 ^ min (Int.toNat (u64.wrap (Int.tmod i (64:Int)))) u64.bits)) (1:Int)))]
def C129 : Con where
 X := Int×Int×Int×Int×Int
 Y := Int
 e := 0
 args x := [.raw true [(.d T4 x.1),(.d T4 x.2.1),(.d T4 x.2.2.1),(.d T4 x.2.2.2.1)],.dat T2 x.2.2.2.2]
 hin x := []
 F x := f129 x.1 x.2.1 x.2.2.1 x.2.2.2.1 x.2.2.2.2
 ret y := [.dat T4 y]
 hout y := []
 nout := 0
theorem C129_vc (m_0:Int) (m_1:Int) (m_2:Int) (m_3:Int) (i:Int) (y:Int) (q : f129 m_0 m_1 m_2 m_3 i = some y) : VC Tryz.f129 C129 (m_0,m_1,m_2,m_3,i) y := by
 unfold f129 at q
 refine OL (OL (AI (by decide) (gI q (fun q=>?_))))
 refine AI (fun hk1=>?_) ?_
 ·have q := pickE q hk1
  dsimp only [nthO] at q
  refine AI (by decide) (gI q (fun q=>?_))
  cases sE q
  refine AI rfl (E4 [] (R2 (AI TV TV)))
 refine AI (fun hk1=>?_) ?_
 ·have q := pickE q hk1
  dsimp only [nthO] at q
  refine AI (by decide) (gI q (fun q=>?_))
  cases sE q
  refine AI rfl (E4 [] (R2 (AI TV TV)))
 refine AI (fun hk1=>?_) ?_
 ·have q := pickE q hk1
  dsimp only [nthO] at q
  refine AI (by decide) (gI q (fun q=>?_))
  cases sE q
  refine AI rfl (E4 [] (R2 (AI TV TV)))
 refine AI (fun hk1=>?_) TV
 have q := pickE q hk1
 dsimp only [nthO] at q
 refine AI (by decide) (gI q (fun q=>?_))
 cases sE q
 refine AI rfl (E4 [] (R2 (AI TV TV)))
theorem C129_holds : HP C129 129 := hH Tryz.f129 (by kernel_rfl) rfl (fun x y q=>C129_vc x.1 x.2.1 x.2.2.1 x.2.2.2.1 x.2.2.2.2 y q)
theorem f129_in : InP 129 := inP (by kernel_rfl)
def f95_l1 (a_M_0:Int) (a_M_1:Int) (a_M_2:Int) (a_M_3:Int) (n:Int) (go : (Int×Int×Int×Int×Int) → Option (Int×Int×Int×Int)) (i:Int) (c2_1:Int) (c2_2:Int) (c2_3:Int) (c2_4:Int) : Option (Int×Int×Int×Int) :=
 bif (decide (i < (256:Int))) then
 bindF (f129 a_M_0 a_M_1 a_M_2 a_M_3 i) fun r6 =>
 bif (r6 == (1:Int)) then
 guardF (0 ≤ (i64.wrap (Int.tdiv (i64.wrap (i - n)) (64:Int))) ∧ (i64.wrap (Int.tdiv (i64.wrap (i - n)) (64:Int))) < (4:Int)) <|
 pickF (i64.wrap (Int.tdiv (i64.wrap (i - n)) (64:Int)))
 [(guardF (0 ≤ (u64.wrap (Int.tmod (i64.wrap (i - n)) (64:Int)))) <|
 go ((i64.wrap (i + (1:Int))),(bitsOf IntKind.u64 (fun p q=>p ||| q) c2_1 (u64.wrap ((1:Int) * 2 ^ min (Int.toNat (u64.wrap (Int.tmod (i64.wrap (i - n)) (64:Int)))) u64.bits))),c2_2,c2_3,c2_4)),
 (guardF (0 ≤ (u64.wrap (Int.tmod (i64.wrap (i - n)) (64:Int)))) <|
 go ((i64.wrap (i + (1:Int))),c2_1,(bitsOf IntKind.u64 (fun p q=>p ||| q) c2_2 (u64.wrap ((1:Int) * 2 ^ min (Int.toNat (u64.wrap (Int.tmod (i64.wrap (i - n)) (64:Int)))) u64.bits))),c2_3,c2_4)),
 (guardF (0 ≤ (u64.wrap (Int.tmod (i64.wrap (i - n)) (64:Int)))) <|
 go ((i64.wrap (i + (1:Int))),c2_1,c2_2,(bitsOf IntKind.u64 (fun p q=>p ||| q) c2_3 (u64.wrap ((1:Int) * 2 ^ min (Int.toNat (u64.wrap (Int.tmod (i64.wrap (i - n)) (64:Int)))) u64.bits))),c2_4)),
 (guardF (0 ≤ (u64.wrap (Int.tmod (i64.wrap (i - n)) (64:Int)))) <|
 go ((i64.wrap (i + (1:Int))),c2_1,c2_2,c2_3,(bitsOf IntKind.u64 (fun p q=>p ||| q) c2_4 (u64.wrap ((1:Int) * 2 ^ min (Int.toNat (u64.wrap (Int.tmod (i64.wrap (i - n)) (64:Int)))) u64.bits)))))]
 else
 go ((i64.wrap (i + (1:Int))),c2_1,c2_2,c2_3,c2_4)
 else
 some (c2_1,c2_2,c2_3,c2_4)
def f95_j2 (a_M_0:Int) (a_M_1:Int) (a_M_2:Int) (a_M_3:Int) (n:Int) : Option (Sum Unit Unit) :=
 bif (n == (0:Int)) then
 some (Sum.inr ())
 else
 bindF (f129 a_M_0 a_M_1 a_M_2 a_M_3 (i64.wrap (n - (1:Int)))) fun r10 =>
 bif (r10 == (0:Int)) then
 some (Sum.inr ())
 else
 some (Sum.inl ())
def f95_l3 (a_M_0:Int) (a_M_1:Int) (a_M_2:Int) (a_M_3:Int) (n:Int) (go : (Bool×Int) → Option Bool) (more : Bool) (i:Int) : Option Bool :=
 bif (decide (i < (i64.wrap (n - (1:Int))))) then
 bif more then
 go (true,(i64.wrap (i + (1:Int))))
 else
 bindF (f129 a_M_0 a_M_1 a_M_2 a_M_3 i) fun r14 =>
 go ((r14 == (1:Int)),(i64.wrap (i + (1:Int))))
 else
 some more
def f95 (a_Neg : Bool) (a_M_0:Int) (a_M_1:Int) (a_M_2:Int) (a_M_3:Int) (n:Int) : Option (Bool×Int×Int×Int×Int) :=
 bindF (loopF (fun go x=>f95_l1 a_M_0 a_M_1 a_M_2 a_M_3 n go x.1 x.2.1 x.2.2.1 x.2.2.2.1 x.2.2.2.2) fuelN (n,(0:Int),(0:Int),(0:Int),(0:Int))) fun z5 =>
 bindF (f95_j2 a_M_0 a_M_1 a_M_2 a_M_3 n) fun z9 =>
 sumF z9 (fun z9a =>
 bindF (loopF (fun go x=>f95_l3 a_M_0 a_M_1 a_M_2 a_M_3 n go x.1 x.2) fuelN (((bitsOf IntKind.u64 (fun p q=>p &&& q) z5.1 (1:Int)) == (1:Int)),(0:Int))) fun z13 =>
 bif z13 then
 bindF (f125 z5.1 z5.2.1 z5.2.2.1 z5.2.2.2 (1:Int) (0:Int) (0:Int) (0:Int)) fun r15 =>
 some (a_Neg,r15.1,r15.2.1,r15.2.2.1,r15.2.2.2)
 else
 some (a_Neg,z5.1,z5.2.1,z5.2.2.1,z5.2.2.2)) (fun z9b =>
 some (a_Neg,z5.1,z5.2.1,z5.2.2.1,z5.2.2.2))
def C95 : Con where
 X := Bool×Int×Int×Int×Int×Int
 Y := Bool×Int×Int×Int×Int
 e := 0
 args x := [.raw true [(.d .bool x.1),(.d T4 x.2.1),(.d T4 x.2.2.1),(.d T4 x.2.2.2.1),(.d T4 x.2.2.2.2.1)],.dat T2 x.2.2.2.2.2]
 hin x := []
 F x := f95 x.1 x.2.1 x.2.2.1 x.2.2.2.1 x.2.2.2.2.1 x.2.2.2.2.2
 ret y := [.raw true [(.d .bool y.1),(.d T4 y.2.1),(.d T4 y.2.2.1),(.d T4 y.2.2.2.1),(.d T4 y.2.2.2.2)]]
 hout y := []
 nout := 0
theorem C95_vc (a_Neg : Bool) (a_M_0:Int) (a_M_1:Int) (a_M_2:Int) (a_M_3:Int) (n:Int) (y : Bool×Int×Int×Int×Int) (q : f95 a_Neg a_M_0 a_M_1 a_M_2 a_M_3 n = some y) : VC Tryz.f95 C95 (a_Neg,a_M_0,a_M_1,a_M_2,a_M_3,n) y := by
 unfold f95 at q
 refine OL (OL (OL (OL (OL ?_))))
 obtain ⟨z5,hz5,q⟩ := bE q
 refine lI (Int×Int×Int×Int×Int) (Int×Int×Int×Int) (fun x=>⟨[(1,.dat T2 n),(2,P0 0 0),(4,P0 1 0),(5,P0 2 0),(6,.dat T2 x.1)],[(0,.cells [(.d .bool a_Neg),(.d T4 a_M_0),(.d T4 a_M_1),(.d T4 a_M_2),(.d T4 a_M_3)]),(1,.cells [(.d .bool false),(.d T4 (0:Int)),(.d T4 (0:Int)),(.d T4 (0:Int)),(.d T4 (0:Int))]),(2,.cells [(.d .bool a_Neg),(.d T4 x.2.1),(.d T4 x.2.2.1),(.d T4 x.2.2.2.1),(.d T4 x.2.2.2.2)])],3⟩) (fun z=>[(2,⟨[(1,.dat T2 n),(2,P0 0 0),(4,P0 1 0),(5,P0 2 0)],[(0,.cells [(.d .bool a_Neg),(.d T4 a_M_0),(.d T4 a_M_1),(.d T4 a_M_2),(.d T4 a_M_3)]),(1,.cells [(.d .bool false),(.d T4 (0:Int)),(.d T4 (0:Int)),(.d T4 (0:Int)),(.d T4 (0:Int))]),(2,.cells [(.d .bool a_Neg),(.d T4 z.1),(.d T4 z.2.1),(.d T4 z.2.2.1),(.d T4 z.2.2.2)])],3⟩)]) (loopF (fun go x=>f95_l1 a_M_0 a_M_1 a_M_2 a_M_3 n go x.1 x.2.1 x.2.2.1 x.2.2.2.1 x.2.2.2.2)) fuelN (n,(0:Int),(0:Int),(0:Int),(0:Int)) z5 (AI hz5 (AI (E4 I3 (R3 (AI (R3 TV) (R3 TV)))) (AI (fun _ _ h=>lZ h) (AI (fun m=>curI (fun i=>curI (fun c2_1=>curI (fun c2_2=>curI (fun c2_3=>fun c2_4 z q=>?_))))) ?_))))
 ·have q : f95_l1 a_M_0 a_M_1 a_M_2 a_M_3 n (loopF (fun go x=>f95_l1 a_M_0 a_M_1 a_M_2 a_M_3 n go x.1 x.2.1 x.2.2.1 x.2.2.2.1 x.2.2.2.2) m) i c2_1 c2_2 c2_3 c2_4 = some z := q
  unfold f95_l1 at q
  refine OL (OL (cI q (fun q=>?_) (fun q=>?_)))
  ·refine OL (OL ?_)
   obtain ⟨r6,hr6,q⟩ := bE q
   refine OL (AI f129_in (cV (cQ C129 (a_M_0,a_M_1,a_M_2,a_M_3,i) r6 [] false C129_holds hr6 rfl rfl (AI rfl (AI NH (R2 (AJ (AI TV (cI q (fun q=>?_) (fun q=>?_))))))))))
   ·refine AI (by decide) (AI (by decide) (gI q (fun q=>?_)))
    refine AI (fun hk7=>?_) ?_
    ·have q := pickE q hk7
     dsimp only [nthO] at q
     refine AI (by decide) (gI q (fun q=>?_))
     refine AI (rE hk7 (by decide)) (AI (fun _=>?_) (AI (fun h=>absurd (hk7.symm.trans h) (by decide)) (AI (fun h=>absurd (hk7.symm.trans h) (by decide)) (AI (fun h=>absurd (hk7.symm.trans h) (by decide)) TV))))
     refine OL (EI ((i64.wrap (i + (1:Int))),(bitsOf IntKind.u64 (fun p q=>p ||| q) c2_1 (u64.wrap ((1:Int) * 2 ^ min (Int.toNat (u64.wrap (Int.tmod (i64.wrap (i - n)) (64:Int)))) u64.bits))),c2_2,c2_3,c2_4) (AI q (E4 I3 (R3 (AI (R3 TV) (R3 TV))))))
    refine AI (fun hk7=>?_) ?_
    ·have q := pickE q hk7
     dsimp only [nthO] at q
     refine AI (by decide) (gI q (fun q=>?_))
     refine AI (rE hk7 (by decide)) (AI (fun h=>absurd (hk7.symm.trans h) (by decide)) ?_)
     refine AI (fun _=>?_) (AI (fun h=>absurd (hk7.symm.trans h) (by decide)) (AI (fun h=>absurd (hk7.symm.trans h) (by decide)) TV))
     refine OL (EI ((i64.wrap (i + (1:Int))),c2_1,(bitsOf IntKind.u64 (fun p q=>p ||| q) c2_2 (u64.wrap ((1:Int) * 2 ^ min (Int.toNat (u64.wrap (Int.tmod (i64.wrap (i - n)) (64:Int)))) u64.bits))),c2_3,c2_4) (AI q (E4 I3 (R3 (AI (R3 TV) (R3 TV))))))
    refine AI (fun hk7=>?_) ?_
    ·have q := pickE q hk7
     dsimp only [nthO] at q
     refine AI (by decide) (gI q (fun q=>?_))
     refine AI (rE hk7 (by decide)) (AI (fun h=>absurd (hk7.symm.trans h) (by decide)) ?_)
     refine AI (fun h=>absurd (hk7.symm.trans h) (by decide)) ?_
     refine AI (fun _=>?_) (AI (fun h=>absurd (hk7.symm.trans h) (by decide)) TV)
     refine OL (EI ((i64.wrap (i + (1:Int))),c2_1,c2_2,(bitsOf IntKind.u64 (fun p q=>p ||| q) c2_3 (u64.wrap ((1:Int) * 2 ^ min (Int.toNat (u64.wrap (Int.tmod (i64.wrap (i - n)) (64:Int)))) u64.bits))),c2_4) (AI q (E4 I3 (R3 (AI (R3 TV) (R3 TV))))))
    refine AI (fun hk7=>?_) TV
    have q := pickE q hk7
    dsimp only [nthO] at q
    refine AI (by decide) (gI q (fun q=>?_))
    refine AI (rE hk7 (by decide)) (AI (fun h=>absurd (hk7.symm.trans h) (by decide)) ?_)
    refine AI (fun h=>absurd (hk7.symm.trans h) (by decide)) ?_
    refine AI (fun h=>absurd (hk7.symm.trans h) (by decide)) ?_
    refine AI (fun _=>?_) TV
    refine OL (EI ((i64.wrap (i + (1:Int))),c2_1,c2_2,c2_3,(bitsOf IntKind.u64 (fun p q=>p ||| q) c2_4 (u64.wrap ((1:Int) * 2 ^ min (Int.toNat (u64.wrap (Int.tmod (i64.wrap (i - n)) (64:Int)))) u64.bits)))) (AI q (E4 I3 (R3 (AI (R3 TV) (R3 TV))))))
   refine EI ((i64.wrap (i + (1:Int))),c2_1,c2_2,c2_3,c2_4) (AI q (E4 I3 (R3 (AI (R3 TV) (R3 TV)))))
  cases sE q
  refine E4 I3 (R2 (AI (R3 TV) (R3 TV)))
 refine AI ?_ TV
 obtain ⟨z9,hz9,q⟩ := bE q
 refine OQ ⟨Sum.elim (fun z9a=>[(0,⟨[(1,.dat T2 n),(2,P0 0 0),(4,P0 1 0),(5,P0 2 0)],[(0,.cells [(.d .bool a_Neg),(.d T4 a_M_0),(.d T4 a_M_1),(.d T4 a_M_2),(.d T4 a_M_3)]),(1,.cells [(.d .bool false),(.d T4 (0:Int)),(.d T4 (0:Int)),(.d T4 (0:Int)),(.d T4 (0:Int))]),(2,.cells [(.d .bool a_Neg),(.d T4 z5.1),(.d T4 z5.2.1),(.d T4 z5.2.2.1),(.d T4 z5.2.2.2)])],3⟩)]) (fun z9b=>[(1,⟨[(4,P0 0 0)],[(0,.cells [(.d .bool a_Neg),(.d T4 z5.1),(.d T4 z5.2.1),(.d T4 z5.2.2.1),(.d T4 z5.2.2.2)])],1⟩)]) z9,?_,?_⟩
 ·have q := hz9
  clear hz9
  unfold f95_j2 at q
  refine OL (cN q (fun q=>?_) (fun q=>?_))
  ·refine gY (gY (gY (gY ?_)))
   obtain ⟨r10,hr10,q⟩ := bE q
   refine OL (AI f129_in (cV (cQ C129 (a_M_0,a_M_1,a_M_2,a_M_3,(i64.wrap (n - (1:Int)))) r10 [] false C129_holds hr10 rfl rfl (AI rfl (AI NH (R2 (AJ (AI TV (gY (cF (cI q (fun q=>?_) (fun q=>?_))))))))))))
   ·refine OL (OL ?_)
    cases sE q
    refine E4 [(0,some 1)] (AI rfl (AJ (AI rfl TV)))
   cases sE q
   refine E4 I3 (R2 (AI (R3 TV) (R3 TV)))
  refine gN (gN (gN (gN (gN (cT (cT (OL (OL ?_))))))))
  cases sE q
  refine E4 [(0,some 1)] (AI rfl (AJ (AI rfl TV)))
 rcases z9 with z9a | z9b
 ·dsimp only [sumF] at q
  refine AI (OL (AI (by decide) (AI (fun _=>?_) (AI (fun h=>absurd h (by decide)) (AI (fun h=>absurd h (by decide)) (AI (fun h=>absurd h (by decide)) TV)))))) TV
  refine OL (OL ?_)
  obtain ⟨z13,hz13,q⟩ := bE q
  refine lI (Bool×Int) Bool (fun x=>⟨[(1,.dat T2 n),(2,P0 0 0),(4,P0 1 0),(5,P0 2 0),(7,.dat .bool x.1),(8,.dat T2 x.2)],[(0,.cells [(.d .bool a_Neg),(.d T4 a_M_0),(.d T4 a_M_1),(.d T4 a_M_2),(.d T4 a_M_3)]),(1,.cells [(.d .bool false),(.d T4 (0:Int)),(.d T4 (0:Int)),(.d T4 (0:Int)),(.d T4 (0:Int))]),(2,.cells [(.d .bool a_Neg),(.d T4 z5.1),(.d T4 z5.2.1),(.d T4 z5.2.2.1),(.d T4 z5.2.2.2)])],3⟩) (fun z=>[(4,⟨[(4,P0 0 0),(5,P0 1 0),(7,.dat .bool z)],[(0,.cells [(.d .bool false),(.d T4 (0:Int)),(.d T4 (0:Int)),(.d T4 (0:Int)),(.d T4 (0:Int))]),(1,.cells [(.d .bool a_Neg),(.d T4 z5.1),(.d T4 z5.2.1),(.d T4 z5.2.2.1),(.d T4 z5.2.2.2)])],2⟩)]) (loopF (fun go x=>f95_l3 a_M_0 a_M_1 a_M_2 a_M_3 n go x.1 x.2)) fuelN (((bitsOf IntKind.u64 (fun p q=>p &&& q) z5.1 (1:Int)) == (1:Int)),(0:Int)) z13 (AI hz13 (AI (E4 I3 (R4 (AI (R3 TV) (R3 TV)))) (AI (fun _ _ h=>lZ h) (AI (fun m=>curI (fun more=>fun i z q=>?_)) ?_))))
  ·have q : f95_l3 a_M_0 a_M_1 a_M_2 a_M_3 n (loopF (fun go x=>f95_l3 a_M_0 a_M_1 a_M_2 a_M_3 n go x.1 x.2) m) more i = some z := q
   unfold f95_l3 at q
   refine OL (OL (cI q (fun q=>?_) (fun q=>?_)))
   ·refine OL (cN q (fun q=>?_) (fun q=>?_))
    ·refine gY (gY (gY ?_))
     obtain ⟨r14,hr14,q⟩ := bE q
     refine OL (AI f129_in (cV (cQ C129 (a_M_0,a_M_1,a_M_2,a_M_3,i) r14 [] false C129_holds hr14 rfl rfl (AI rfl (AI NH (R2 (AJ (AI TV (gY (cF (EI ((r14 == (1:Int)),(i64.wrap (i + (1:Int)))) (AI q (E4 I3 (R4 (AI (R3 TV) (R3 TV))))))))))))))))
    refine gN (gN (gN (gN (cT (EI (true,(i64.wrap (i + (1:Int)))) (AI q (E4 I3 (R4 (AI (R3 TV) (R3 TV))))))))))
   cases sE q
   refine E4 [(0,some 1),(1,some 2)] (R2 (AI (R2 TV) (R2 TV)))
  refine AI (OL (OL (cI q (fun q=>?_) (fun q=>?_)))) TV
  ·obtain ⟨r15,hr15,q⟩ := bE q
   refine OL (AI f125_in (cV (cQ C125 (z5.1,z5.2.1,z5.2.2.1,z5.2.2.2,(1:Int),(0:Int),(0:Int),(0:Int)) r15 [] false C125_holds hr15 rfl rfl (AI NH (R2 (AI (R2 TV) (AI TV (OL (OL (OL ?_))))))))))
   cases sE q
   refine AI rfl (E4 [] (AI rfl (AJ TV)))
  refine OL (OL ?_)
  cases sE q
  refine AI rfl (E4 [] (AI rfl (AJ TV)))
 dsimp only [sumF] at q
 refine AI ?_ TV
 cases sE q
 refine AI rfl (E4 [] (AI rfl (AJ TV)))
theorem C95_holds : HP C95 95 := hH Tryz.f95 (by kernel_rfl) rfl (fun x y q=>C95_vc x.1 x.2.1 x.2.2.1 x.2.2.2.1 x.2.2.2.2.1 x.2.2.2.2.2 y q)
theorem f95_in : InP 95 := inP (by kernel_rfl)
def f91 (a:Int) (b:Int) : Option Int :=
 bindF (f93 a b) fun r1 =>
 bindF (f95 r1.1 r1.2.1 r1.2.2.1 r1.2.2.2.1 r1.2.2.2.2 (32:Int)) fun r2 =>
 bindF (f94 r2.1 r2.2.1 r2.2.2.1 r2.2.2.2.1 r2.2.2.2.2) fun r3 =>
 some r3
def C91 : Con where
 X := Int×Int
 Y := Int
 e := 0
 args x := [.dat T2 x.1,.dat T2 x.2]
 hin x := []
 F x := f91 x.1 x.2
 ret y := [.dat T2 y]
 hout y := []
 nout := 0
theorem C91_vc (a:Int) (b:Int) (y:Int) (q : f91 a b = some y) : VC Tryz.f91 C91 (a,b) y := by
 unfold f91 at q
 refine OL (OL ?_)
 obtain ⟨r1,hr1,q⟩ := bE q
 refine OL (AI f93_in (cV (cQ C93 (a,b) r1 [] false C93_holds hr1 rfl rfl (R2 (K0 ?_)))))
 obtain ⟨r2,hr2,q⟩ := bE q
 refine OL (AI f95_in (cV (cQ C95 (r1.1,r1.2.1,r1.2.2.1,r1.2.2.2.1,r1.2.2.2.2,(32:Int)) r2 [] false C95_holds hr2 rfl rfl (AI rfl (AI NH (R2 (AJ (AI TV ?_))))))))
 obtain ⟨r3,hr3,q⟩ := bE q
 refine OL (AI f94_in (cV (cQ C94 (r2.1,r2.2.1,r2.2.2.1,r2.2.2.2.1,r2.2.2.2.2) r3 [] false C94_holds hr3 rfl rfl (AI NH (R2 (AJ (AI TV ?_)))))))
 cases sE q
 refine AI rfl (E4 [] (R2 (AI TV TV)))
theorem C91_holds : HP C91 91 := hH Tryz.f91 (by kernel_rfl) rfl (fun x y q=>C91_vc x.1 x.2 y q)
theorem f91_in : InP 91 := inP (by kernel_rfl)
end Go.Proofs
