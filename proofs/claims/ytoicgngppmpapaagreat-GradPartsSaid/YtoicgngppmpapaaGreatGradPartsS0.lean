import Derived.Test.YtoicgngppmpapaaGreatFc
set_option linter.unusedVariables false
set_option maxRecDepth 100000
set_option maxHeartbeats 8000000
namespace Go.Proofs
open Go.AM
open IntKind (i64 u64 i32 u32 i16 u16 i8 u8)
def f16 : Option Unit :=
 some ()
def C16 : Con where
 X := Unit
 Y := Unit
 e := 0
 args x := []
 hin x := []
 F x := f16
 ret y := [P0 0 0]
 hout y := [(0,.cells [(.osl 1)]),(1,.arr 42 T0 ([]))]
 nout := 2
theorem C16_vc (y : Unit) (q : f16 = some y) : VC Tryz.f16 C16 () y := by
 unfold f16 at q
 refine OL (OL ?_)
 cases sE q
 refine AI rfl (E4 [(0,some 0),(1,none)] (AI rfl (AJ (R2 TV))))
theorem C16_holds : HP C16 16 := hH Tryz.f16 (by kernel_rfl) rfl (fun x y q=>C16_vc y q)
theorem f16_in : InP 16 := inP (by kernel_rfl)
def f148_j4 (d : LI) (v11:Int) : Option (Sum Unit Unit) :=
 bif (decide ((rd (0:Int) d v11) < (1:Int))) then
 some (Sum.inr ())
 else
 bif (decide ((rd (0:Int) d v11) > (4096:Int))) then
 some (Sum.inr ())
 else
 some (Sum.inl ())
def f148_l3 (d : LI) (go : (Int×Int) → Option (Sum Unit Int)) (n:Int) (v11:Int) : Option (Sum Unit Int) :=
 bif (decide (v11 < (List.length d:Int))) then
 guardF (0 ≤ v11 ∧ v11 < (List.length d:Int)) <|
 bindF (f148_j4 d v11) fun z4 =>
 sumF z4 (fun z4a =>
 bif (decide ((i64.wrap (n * (rd (0:Int) d v11))) > (4096:Int))) then
 some (Sum.inl ())
 else
 go ((i64.wrap (n * (rd (0:Int) d v11))),(i64.wrap (v11 + (1:Int))))) (fun z4b =>
 some (Sum.inl ()))
 else
 some (Sum.inr n)
def f148 (d : LI) : Option Int :=
 bif (decide ((List.length d:Int) > (4:Int))) then
 some (0:Int)
 else
 bindF (loopF (fun go x=>f148_l3 d go x.1 x.2) fuelN ((1:Int),(0:Int))) fun z3 =>
 sumF z3 (fun z3a =>
 some (0:Int)) (fun z3b =>
 some z3b)
def C148 : Con where
 X := LI
 Y := Int
 e := 0
 args x := [.dat T1 x]
 hin x := []
 F x := f148 x
 ret y := [.dat T2 y]
 hout y := []
 nout := 0
theorem C148_vc (d : LI) (y:Int) (q : f148 d = some y) : VC Tryz.f148 C148 d y := by
 unfold f148 at q
 refine OL (OL (OL (cI q (fun q=>?_) (fun q=>?_))))
 ·cases sE q
  refine OL (AI rfl (E4 [] (R2 (AI TV TV))))
 refine OL (OL (OL ?_))
 obtain ⟨z3,hz3,q⟩ := bE q
 refine lI (Int×Int) (Sum Unit Int) (fun x=>⟨[(3,.dat T2 x.1),(9,.dat T1 d),(10,.dat T2 (List.length d:Int)),(11,.dat T2 x.2)],[],0⟩) (fun z=>Sum.elim (fun za=>[(1,⟨[(2,D0 0)],[],0⟩)]) (fun zb=>[(2,⟨[(3,.dat T2 zb)],[],0⟩)]) z) (loopF (fun go x=>f148_l3 d go x.1 x.2)) fuelN ((1:Int),(0:Int)) z3 (AI hz3 (AI (E4 [] (R5 (AI TV TV))) (AI (fun _ _ h=>lZ h) (AI (fun m=>curI (fun n=>fun v11 z q=>?_)) ?_))))
 ·have q : f148_l3 d (loopF (fun go x=>f148_l3 d go x.1 x.2) m) n v11 = some z := q
  unfold f148_l3 at q
  refine OL (OL (cI q (fun q=>?_) (fun q=>?_)))
  ·refine OL (OL (gI q (fun q=>?_)))
   obtain ⟨z4,hz4,q⟩ := bE q
   refine OQ ⟨Sum.elim (fun z4a=>[(0,⟨[(3,.dat T2 n),(5,.dat T2 (rd (0:Int) d v11)),(9,.dat T1 d),(10,.dat T2 (List.length d:Int)),(11,.dat T2 v11)],[],0⟩)]) (fun z4b=>[(1,⟨[(2,D0 0)],[],0⟩)]) z4,?_,?_⟩
   ·have q := hz4
    clear hz4
    unfold f148_j4 at q
    refine OL (cN q (fun q=>?_) (fun q=>?_))
    ·refine gY (cF (cI q (fun q=>?_) (fun q=>?_)))
     ·cases sE q
      refine OL (E4 [] (R2 (AI TV TV)))
     cases sE q
     refine E4 [] (R6 (AI TV TV))
    refine gN (cT (cT (OL ?_)))
    cases sE q
    refine E4 [] (R2 (AI TV TV))
   rcases z4 with z4a | z4b
   ·dsimp only [sumF] at q
    refine AI (OL (OL (cI q (fun q=>?_) (fun q=>?_)))) TV
    ·cases sE q
     refine OL (E4 [] (R2 (AI TV TV)))
    refine EI ((i64.wrap (n * (rd (0:Int) d v11))),(i64.wrap (v11 + (1:Int)))) (AI q (E4 [] (R5 (AI TV TV))))
   dsimp only [sumF] at q
   refine AI ?_ TV
   cases sE q
   refine E4 [] (R2 (AI TV TV))
  cases sE q
  refine E4 [] (R2 (AI TV TV))
 rcases z3 with z3a | z3b
 ·dsimp only [sumF] at q
  refine AI ?_ TV
  cases sE q
  refine AI rfl (E4 [] (R2 (AI TV TV)))
 dsimp only [sumF] at q
 refine AI (OL ?_) TV
 cases sE q
 refine AI rfl (E4 [] (R2 (AI TV TV)))
theorem C148_holds : HP C148 148 := hH Tryz.f148 (by kernel_rfl) rfl (fun x y q=>C148_vc x y q)
theorem f148_in : InP 148 := inP (by kernel_rfl)
def f99 (d : LI) : Option Bool :=
 bindF (f148 d) fun r1 =>
 some (decide (r1 > (0:Int)))
def C99 : Con where
 X := LI
 Y := Bool
 e := 0
 args x := [.dat T1 x]
 hin x := []
 F x := f99 x
 ret y := [.dat .bool y]
 hout y := []
 nout := 0
theorem C99_vc (d : LI) (y : Bool) (q : f99 d = some y) : VC Tryz.f99 C99 d y := by
 unfold f99 at q
 refine OL (OL ?_)
 obtain ⟨r1,hr1,q⟩ := bE q
 refine OL (AI f148_in (cV (cQ C148 d r1 [] false C148_holds hr1 rfl rfl (AI rfl (K0 ?_)))))
 cases sE q
 refine AI rfl (E4 [] (R2 (AI TV TV)))
theorem C99_holds : HP C99 99 := hH Tryz.f99 (by kernel_rfl) rfl (fun x y q=>C99_vc x y q)
theorem f99_in : InP 99 := inP (by kernel_rfl)
def f100 (d : LI) : Option Int :=
 bindF (f148 d) fun r1 =>
 some r1
def C100 : Con where
 X := LI
 Y := Int
 e := 0
 args x := [.dat T1 x]
 hin x := []
 F x := f100 x
 ret y := [.dat T2 y]
 hout y := []
 nout := 0
theorem C100_vc (d : LI) (y:Int) (q : f100 d = some y) : VC Tryz.f100 C100 d y := by
 unfold f100 at q
 refine OL (OL ?_)
 obtain ⟨r1,hr1,q⟩ := bE q
 refine OL (AI f148_in (cV (cQ C148 d r1 [] false C148_holds hr1 rfl rfl (AI rfl (K0 ?_)))))
 cases sE q
 refine AI rfl (E4 [] (R2 (AI TV TV)))
theorem C100_holds : HP C100 100 := hH Tryz.f100 (by kernel_rfl) rfl (fun x y q=>C100_vc x y q)
theorem f100_in : InP 100 := inP (by kernel_rfl)
def f59 (t : LI×LI) : Option Bool :=
 bindF (f99 t.1) fun q1_2 =>
 bif q1_2 then
 bindF (f100 t.1) fun q1_9 =>
 some ((List.length t.2:Int) == q1_9)
 else
 some false
def C59 : Con where
 X := LI×LI
 Y := Bool
 e := 0
 args x := [.dat T3 x]
 hin x := []
 F x := f59 x
 ret y := [.dat .bool y]
 hout y := []
 nout := 0
theorem C59_vc (t : LI×LI) (y : Bool) (q : f59 t = some y) : VC Tryz.f59 C59 t y := by
 unfold f59 at q
 refine OL (OL (EI (.take 0 (.take 1 (.alt 2 (.take 3 (.take 4 (.take 5 (.take 6 (.take 7 (.take 8 (.alt 9 (.take 10 (.take 11 (.take 12 .done))) .done))))))) .done))) (EI [] (EI [] (AI rfl (AI TV ?_))))))
 obtain ⟨q1_2,hq1_2,q⟩ := bE q
 refine OL (AI f99_in (cV (cQ C99 t.1 q1_2 [] false C99_holds hq1_2 rfl rfl (AI rfl (K0 (cI q (fun q=>?_) (fun q=>?_)))))))
 ·refine gX (gX (gX (gX (AI TV (gX ?_)))))
  obtain ⟨q1_9,hq1_9,q⟩ := bE q
  refine OL (AI f100_in (cV (cQ C100 t.1 q1_9 [] false C100_holds hq1_9 rfl rfl (AI rfl (K0 (gX (cT ?_)))))))
  cases sE q
  refine AI rfl (E4 [] (R2 (AI TV TV)))
 refine gM (gM (gM (gM (AI TV (gM (gM (cF ?_)))))))
 cases sE q
 refine AI rfl (E4 [] (R2 (AI TV TV)))
theorem C59_holds : HP C59 59 := hH Tryz.f59 (by kernel_rfl) rfl (fun x y q=>C59_vc x y q)
theorem f59_in : InP 59 := inP (by kernel_rfl)
def f101 (s : LI) : Option LI :=
 nilF s
 (some ([]))
 (guardF ((List.length ([] : LI) + List.length s) * 8 ≤ 140737488355328) <|
 some (([] : LI) ++ s))
def C101 : Con where
 X := LI
 Y := LI
 e := 0
 args x := [.dat T1 x]
 hin x := []
 F x := f101 x
 ret y := [O0 0]
 hout y := [(0,.arr 3 T2 y)]
 nout := 1
theorem C101_vc (s : LI) (y : LI) (q : f101 s = some y) : VC Tryz.f101 C101 s y := by
 unfold f101 at q
 refine OL (OL (OL (nilI q (fun q=>?_) (fun q=>?_))))
 ·refine cT (OL ?_)
  cases sE q
  refine AI rfl (E4 [(0,none)] (AI rfl (AJ (AI rfl TV))))
 refine cF (OL (OL (OL (gI q (fun q=>?_)))))
 cases sE q
 refine AI rfl (E4 [(0,some 1)] (AI rfl (AJ (AI rfl TV))))
theorem C101_holds : HP C101 101 := hH Tryz.f101 (by kernel_rfl) rfl (fun x y q=>C101_vc x y q)
theorem f101_in : InP 101 := inP (by kernel_rfl)
def f96 (s : LI) : Option LI :=
 nilF s
 (some ([]))
 (guardF ((List.length ([] : LI) + List.length s) * 8 ≤ 140737488355328) <|
 some (([] : LI) ++ s))
def C96 : Con where
 X := LI
 Y := LI
 e := 0
 args x := [.dat T1 x]
 hin x := []
 F x := f96 x
 ret y := [O0 0]
 hout y := [(0,.arr 40 T2 y)]
 nout := 1
theorem C96_vc (s : LI) (y : LI) (q : f96 s = some y) : VC Tryz.f96 C96 s y := by
 unfold f96 at q
 refine OL (OL (OL (nilI q (fun q=>?_) (fun q=>?_))))
 ·refine cT (OL ?_)
  cases sE q
  refine AI rfl (E4 [(0,none)] (AI rfl (AJ (AI rfl TV))))
 refine cF (OL (OL (OL (gI q (fun q=>?_)))))
 cases sE q
 refine AI rfl (E4 [(0,some 1)] (AI rfl (AJ (AI rfl TV))))
theorem C96_holds : HP C96 96 := hH Tryz.f96 (by kernel_rfl) rfl (fun x y q=>C96_vc x y q)
theorem f96_in : InP 96 := inP (by kernel_rfl)
def f61 (t : LI×LI) : Option (LI×LI) :=
 bindF (f101 t.1) fun q1_2 =>
 bindF (f96 t.2) fun q1_5 =>
 some (q1_2,q1_5)
def C61 : Con where
 X := LI×LI
 Y := LI×LI
 e := 0
 args x := [.dat T3 x]
 hin x := []
 F x := f61 x
 ret y := [.raw true [(.osl 0),(.osl 1)]]
 hout y := [(0,.arr 3 T2 y.1),(1,.arr 40 T2 y.2)]
 nout := 2
theorem C61_vc (t : LI×LI) (y : LI×LI) (q : f61 t = some y) : VC Tryz.f61 C61 t y := by
 unfold f61 at q
 refine OL (OL (EI (.take 0 (.take 1 (.take 3 (.take 4 (.alt 2 (.alt 5 (.take 6 (.alt 7 .done .done)) .done) .done))))) (EI [] (EI [] (AI rfl (AI TV ?_))))))
 obtain ⟨q1_2,hq1_2,q⟩ := bE q
 refine OL (AI f101_in (cV (cQ C101 t.1 q1_2 [] false C101_holds hq1_2 rfl rfl (AI rfl (K0 (AI TV ?_))))))
 obtain ⟨q1_5,hq1_5,q⟩ := bE q
 refine OL (AI f96_in (cV (cQ C96 t.2 q1_5 [] false C96_holds hq1_5 rfl rfl (AI rfl (K0 (AI TV (OL ?_)))))))
 cases sE q
 refine AI rfl (E4 [(0,some 2),(1,some 3)] (AI rfl (AJ (R2 TV))))
theorem C61_holds : HP C61 61 := hH Tryz.f61 (by kernel_rfl) rfl (fun x y q=>C61_vc x y q)
theorem f61_in : InP 61 := inP (by kernel_rfl)
def f60 (t_l : NL) (n : ND) : Option (Int×NL) :=
 guardF ((List.length t_l + List.length ([(n.1,n.2.1,n.2.2.1,n.2.2.2.1,n.2.2.2.2.1,n.2.2.2.2.2)])) * 80 ≤ 140737488355328) <|
 some ((i64.wrap ((List.length (t_l ++ ([(n.1,n.2.1,n.2.2.1,n.2.2.2.1,n.2.2.2.2.1,n.2.2.2.2.2)])):Int) - (1:Int))),(t_l ++ ([(n.1,n.2.1,n.2.2.1,n.2.2.2.1,n.2.2.2.2.1,n.2.2.2.2.2)])))
def C60 : Con where
 X := NL×(ND)
 Y := Int×NL
 e := 2
 args x := [P0 0 0,.dat T0 x.2]
 hin x := [(0,.cells [(.osl 1)]),(1,.arr 42 T0 x.1)]
 F x := f60 x.1 x.2
 ret y := [.dat T2 y.1,D0 0]
 hout y := [(0,.cells [(.osl 2)]),(2,.arr 42 T0 y.2)]
 nout := 3
theorem C60_vc (t_l : NL) (n : ND) (y : Int×NL) (q : f60 t_l n = some y) : VE Tryz.f60 2 C60 (t_l,n) y := by
 unfold f60 at q
 refine OL (OL (EI (.take 0 (.take 1 (.take 2 (.take 3 (.take 4 (.take 5 (.alt 6 (.alt 7 (.take 8 (.take 9 (.alt 10 .done .done))) .done) .done))))))) (EI [(10,[0])] (EI [] (AI rfl (AI TV (OL (AI TV (OL (gI q (fun q=>?_)))))))))))
 refine AI TV (OL (OL ?_))
 cases sE q
 refine AI rfl (E4 [(0,some 0),(2,some 4)] (R3 (AI TV (R2 TV))))
theorem C60_holds : HP C60 60 := hH Tryz.f60 (by kernel_rfl) rfl (fun x y q=>C60_vc x.1 x.2 y q)
theorem f60_in : InP 60 := inP (by kernel_rfl)
def f17 (t_l : NL) (x_ : LI×LI) : Option (Int×Int×NL) :=
 bif (decide ((List.length t_l:Int) ≥ (512:Int))) then
 some ((0:Int),(2:Int),t_l)
 else
 bindF (f59 (x_.1,x_.2)) fun r1 =>
 bif (!r1) then
 some ((0:Int),(1:Int),t_l)
 else
 bindF (f61 (x_.1,x_.2)) fun r2 =>
 bindF (f60 t_l ((1:Int),(-1:Int),(-1:Int),(0:Int),r2.1,r2.2)) fun r3 =>
 some (r3.1,(0:Int),r3.2)
def C17 : Con where
 X := NL×(LI×LI)
 Y := Int×Int×NL
 e := 2
 args x := [P0 0 0,.dat T3 x.2]
 hin x := [(0,.cells [(.osl 1)]),(1,.arr 42 T0 x.1)]
 F x := f17 x.1 x.2
 ret y := [.dat T2 y.1,.dat T2 y.2.1]
 hout y := [(0,.cells [(.osl 2)]),(2,.arr 42 T0 y.2.2)]
 nout := 3
theorem C17_vc (t_l : NL) (x_ : LI×LI) (y : Int×Int×NL) (q : f17 t_l x_ = some y) : VE Tryz.f17 2 C17 (t_l,x_) y := by
 unfold f17 at q
 refine OL (OL (OL (cI q (fun q=>?_) (fun q=>?_))))
 ·cases sE q
  refine OL (AI rfl (E4 [(0,some 0),(2,some 1)] (R3 (AI TV (R2 TV)))))
 refine OL ?_
 obtain ⟨r1,hr1,q⟩ := bE q
 refine OL (AI f59_in (cV (cQ C59 (x_.1,x_.2) r1 [] false C59_holds hr1 rfl rfl (R2 (K0 (cI q (fun q=>?_) (fun q=>?_)))))))
 ·cases sE q
  refine OL (AI rfl (E4 [(0,some 0),(2,some 1)] (R3 (AI TV (R2 TV)))))
 refine OL ?_
 obtain ⟨r2,hr2,q⟩ := bE q
 refine OL (AI f61_in (cV (cQ C61 (x_.1,x_.2) r2 [] false C61_holds hr2 rfl rfl (R2 (K0 ?_)))))
 obtain ⟨r3,hr3,q⟩ := bE q
 have hr3 : C60.F (t_l,((1:Int),(-1:Int),(-1:Int),(0:Int),r2.1,r2.2)) = some r3 := hr3
 refine OL (AI f60_in (cV (cQ C60 _ r3 I2 false C60_holds hr3 rfl rfl (R2 (AI NH (R2 (AJ (AI (R2 TV) ?_))))))))
 cases sE q
 refine AI rfl (E4 [(0,some 0),(2,some 7)] (R3 (AI TV (R2 TV))))
theorem C17_holds : HP C17 17 := hH Tryz.f17 (by kernel_rfl) rfl (fun x y q=>C17_vc x.1 x.2 y q)
theorem f17_in : InP 17 := inP (by kernel_rfl)
def f72 (t_l : NL) (n:Int) : Option (Bool×NL) :=
 bif (decide (n ≥ (0:Int))) then
 some ((decide (n < (List.length t_l:Int))),t_l)
 else
 some (false,t_l)
def C72 : Con where
 X := NL×Int
 Y := Bool×NL
 e := 2
 args x := [P0 0 0,.dat T2 x.2]
 hin x := [(0,.cells [(.osl 1)]),(1,.arr 42 T0 x.1)]
 F x := f72 x.1 x.2
 ret y := [.dat .bool y.1]
 hout y := [(0,.cells [(.osl 1)]),(1,.arr 42 T0 y.2)]
 nout := 2
theorem C72_vc (t_l : NL) (n:Int) (y : Bool×NL) (q : f72 t_l n = some y) : VE Tryz.f72 2 C72 (t_l,n) y := by
 unfold f72 at q
 refine OL (OL (cI q (fun q=>?_) (fun q=>?_)))
 ·refine gX (gX (gX (gX (gX (gX (cT ?_))))))
  cases sE q
  refine AI rfl (E4 I2 (R2 (AI TV (R2 TV))))
 refine gM (gM (gM (gM (gM (gM (cF ?_))))))
 cases sE q
 refine AI rfl (E4 I2 (R2 (AI TV (R2 TV))))
theorem C72_holds : HP C72 72 := hH Tryz.f72 (by kernel_rfl) rfl (fun x y q=>C72_vc x.1 x.2 y q)
theorem f72_in : InP 72 := inP (by kernel_rfl)
def f24 (t_l : NL) (n:Int) : Option (Int×Int×Int×Int×Bool×LI×LI×NL) :=
 bindF (f72 t_l n) fun r1 =>
 bif (!r1.1) then
 some ((0:Int),(0:Int),(0:Int),(0:Int),false,[],[],r1.2)
 else
 guardF (0 ≤ n ∧ n < (List.length r1.2:Int)) <|
 bindF (f61 ((((((rd (Ty.z T0) r1.2 n).2).2).2).2).1,(((((rd (Ty.z T0) r1.2 n).2).2).2).2).2)) fun r2 =>
 some ((rd (Ty.z T0) r1.2 n).1,((rd (Ty.z T0) r1.2 n).2).1,(((rd (Ty.z T0) r1.2 n).2).2).1,((((rd (Ty.z T0) r1.2 n).2).2).2).1,true,r2.1,r2.2,r1.2)
def C24 : Con where
 X := NL×Int
 Y := Int×Int×Int×Int×Bool×LI×LI×NL
 e := 2
 args x := [P0 0 0,.dat T2 x.2]
 hin x := [(0,.cells [(.osl 1)]),(1,.arr 42 T0 x.1)]
 F x := f24 x.1 x.2
 ret y := [.raw true [(.d T2 y.1),(.d T2 y.2.1),(.d T2 y.2.2.1),(.d T2 y.2.2.2.1),(.osl 2),(.osl 3)],.dat .bool y.2.2.2.2.1]
 hout y := [(0,.cells [(.osl 1)]),(1,.arr 42 T0 y.2.2.2.2.2.2.2),(2,.arr 3 T2 y.2.2.2.2.2.1),(3,.arr 40 T2 y.2.2.2.2.2.2.1)]
 nout := 4
theorem C24_vc (t_l : NL) (n:Int) (y : Int×Int×Int×Int×Bool×LI×LI×NL) (q : f24 t_l n = some y) : VE Tryz.f24 2 C24 (t_l,n) y := by
 unfold f24 at q
 refine OL (OL (OL ?_))
 obtain ⟨r1,hr1,q⟩ := bE q
 refine OL (AI f72_in (cV (cQ C72 (t_l,n) r1 I2 false C72_holds hr1 rfl rfl (AI rfl (AI NH (R2 (AJ (AI (R2 TV) (cI q (fun q=>?_) (fun q=>?_))))))))))
 ·refine OL (OL ?_)
  cases sE q
  refine AI rfl (E4 [(0,some 0),(1,some 1),(2,none),(3,none)] (R2 (AJ (R4 TV))))
 refine OL (gI q (fun q=>?_))
 refine OL (OL ?_)
 obtain ⟨r2,hr2,q⟩ := bE q
 refine OL (AI f61_in (cV (cQ C61 ((((((rd (Ty.z T0) r1.2 n).2).2).2).2).1,(((((rd (Ty.z T0) r1.2 n).2).2).2).2).2) r2 [] false C61_holds hr2 rfl rfl (R2 (K0 (OL (OL (OL ?_))))))))
 cases sE q
 refine AI rfl (E4 [(0,some 0),(1,some 1),(2,some 6),(3,some 7)] (R2 (AJ (R4 TV))))
theorem C24_holds : HP C24 24 := hH Tryz.f24 (by kernel_rfl) rfl (fun x y q=>C24_vc x.1 x.2 y q)
theorem f24_in : InP 24 := inP (by kernel_rfl)
def f58 (t_l : NL) (n:Int) : Option (Bool×LI×LI×NL) :=
 bindF (f24 t_l n) fun r1 =>
 some (r1.2.2.2.2.1,r1.2.2.2.2.2.1,r1.2.2.2.2.2.2.1,r1.2.2.2.2.2.2.2)
def C58 : Con where
 X := NL×Int
 Y := Bool×LI×LI×NL
 e := 2
 args x := [P0 0 0,.dat T2 x.2]
 hin x := [(0,.cells [(.osl 1)]),(1,.arr 42 T0 x.1)]
 F x := f58 x.1 x.2
 ret y := [.raw true [(.osl 2),(.osl 3)],.dat .bool y.1]
 hout y := [(0,.cells [(.osl 1)]),(1,.arr 42 T0 y.2.2.2),(2,.arr 3 T2 y.2.1),(3,.arr 40 T2 y.2.2.1)]
 nout := 4
theorem C58_vc (t_l : NL) (n:Int) (y : Bool×LI×LI×NL) (q : f58 t_l n = some y) : VE Tryz.f58 2 C58 (t_l,n) y := by
 unfold f58 at q
 refine OL (OL ?_)
 obtain ⟨r1,hr1,q⟩ := bE q
 refine OL (AI f24_in (cV (cQ C24 (t_l,n) r1 I2 false C24_holds hr1 rfl rfl (AI rfl (AI NH (R2 (AJ (AI (R2 TV) (OL (OL (OL ?_)))))))))))
 cases sE q
 refine AI rfl (E4 [(0,some 0),(1,some 1),(2,some 5),(3,some 6)] (R2 (AJ (R4 TV))))
theorem C58_holds : HP C58 58 := hH Tryz.f58 (by kernel_rfl) rfl (fun x y q=>C58_vc x.1 x.2 y q)
theorem f58_in : InP 58 := inP (by kernel_rfl)
def f63_j1 (want : LI) (r1 : Bool×LI×LI×NL) : Option Bool :=
 bif (!r1.1) then
 some true
 else
 some ((List.length want:Int) != (List.length r1.2.2.1:Int))
def f63 (t_l : NL) (out:Int) (want : LI) : Option (Int×NL) :=
 bindF (f58 t_l out) fun r1 =>
 bindF (f63_j1 want r1) fun z2 =>
 bif z2 then
 some ((1:Int),r1.2.2.2)
 else
 bif ((List.length r1.2.1:Int) != (1:Int)) then
 some ((4:Int),r1.2.2.2)
 else
 some ((0:Int),r1.2.2.2)
def C63 : Con where
 X := NL×Int×LI
 Y := Int×NL
 e := 2
 args x := [P0 0 0,.dat T2 x.2.1,.dat T1 x.2.2]
 hin x := [(0,.cells [(.osl 1)]),(1,.arr 42 T0 x.1)]
 F x := f63 x.1 x.2.1 x.2.2
 ret y := [.dat T2 y.1]
 hout y := [(0,.cells [(.osl 1)]),(1,.arr 42 T0 y.2)]
 nout := 2
theorem C63_vc (t_l : NL) (out:Int) (want : LI) (y : Int×NL) (q : f63 t_l out want = some y) : VE Tryz.f63 2 C63 (t_l,out,want) y := by
 unfold f63 at q
 refine OL (OL ?_)
 obtain ⟨r1,hr1,q⟩ := bE q
 refine OL (AI f58_in (cV (cQ C58 (t_l,out) r1 I2 false C58_holds hr1 rfl rfl (AI rfl (AI NH (R2 (AJ (AI (R2 TV) (OL (OL ?_))))))))))
 obtain ⟨z2,hz2,q⟩ := bE q
 refine OQ ⟨[(0,⟨[(7,P0 2 0),(15,.dat .bool z2)],[(0,.cells [(.osl 1)]),(1,.arr 42 T0 r1.2.2.2),(2,.cells [(.osl 3),(.osl 4)]),(3,.arr 3 T2 r1.2.1),(4,.arr 40 T2 r1.2.2.1)],5⟩)],?_,?_⟩
 ·have q := hz2
  clear hz2
  unfold f63_j1 at q
  refine cN q (fun q=>?_) (fun q=>?_)
  ·refine gY (gY (gY (gY (gY (cF ?_)))))
   cases sE q
   refine E4 [(0,some 0),(1,some 1),(2,some 6),(3,some 4),(4,some 5)] (R2 (AJ (R5 TV)))
  refine gN (gN (gN (gN (gN (cT ?_)))))
  cases sE q
  refine E4 [(0,some 0),(1,some 1),(2,some 6),(3,some 4),(4,some 5)] (R2 (AJ (R5 TV)))
 refine AI (cI q (fun q=>?_) (fun q=>?_)) TV
 ·cases sE q
  refine OL (AI rfl (E4 I2 (R2 (AI TV (R2 TV)))))
 refine OL (cI q (fun q=>?_) (fun q=>?_))
 ·cases sE q
  refine OL (AI rfl (E4 I2 (R2 (AI TV (R2 TV)))))
 cases sE q
 refine OL (AI rfl (E4 I2 (R2 (AI TV (R2 TV)))))
theorem C63_holds : HP C63 63 := hH Tryz.f63 (by kernel_rfl) rfl (fun x y q=>C63_vc x.1 x.2.1 x.2.2 y q)
theorem f63_in : InP 63 := inP (by kernel_rfl)
def f28 (t_l : NL) : Option (Int×NL) :=
 some ((List.length t_l:Int),t_l)
def C28 : Con where
 X := NL
 Y := Int×NL
 e := 2
 args x := [P0 0 0]
 hin x := [(0,.cells [(.osl 1)]),(1,.arr 42 T0 x)]
 F x := f28 x
 ret y := [.dat T2 y.1]
 hout y := [(0,.cells [(.osl 1)]),(1,.arr 42 T0 y.2)]
 nout := 2
theorem C28_vc (t_l : NL) (y : Int×NL) (q : f28 t_l = some y) : VE Tryz.f28 2 C28 t_l y := by
 unfold f28 at q
 refine OL (OL ?_)
 cases sE q
 refine AI rfl (E4 I2 (R2 (AI TV (R2 TV))))
theorem C28_holds : HP C28 28 := hH Tryz.f28 (by kernel_rfl) rfl (fun x y q=>C28_vc x y q)
theorem f28_in : InP 28 := inP (by kernel_rfl)
def f64 (t_l : NL) : Option (Int×NL) :=
 bindF (f28 t_l) fun r1 =>
 some (r1.1,r1.2)
def C64 : Con where
 X := NL
 Y := Int×NL
 e := 2
 args x := [P0 0 0]
 hin x := [(0,.cells [(.osl 1)]),(1,.arr 42 T0 x)]
 F x := f64 x
 ret y := [P0 2 0]
 hout y := [(0,.cells [(.osl 1)]),(1,.arr 42 T0 y.2),(2,.cells [(.ptr 0 0),(.d T2 y.1),(.d T2 (0:Int))])]
 nout := 3
theorem C64_vc (t_l : NL) (y : Int×NL) (q : f64 t_l = some y) : VE Tryz.f64 2 C64 t_l y := by
 unfold f64 at q
 refine OL (OL ?_)
 obtain ⟨r1,hr1,q⟩ := bE q
 refine OL (AI f28_in (cV (cQ C28 t_l r1 I2 false C28_holds hr1 rfl rfl (AI NH (R2 (AJ (AI (R2 TV) ?_)))))))
 cases sE q
 refine AI rfl (E4 [(0,some 0),(1,some 1),(2,some 4)] (AI rfl (AJ (R3 TV))))
theorem C64_holds : HP C64 64 := hH Tryz.f64 (by kernel_rfl) rfl (fun x y q=>C64_vc x y q)
theorem f64_in : InP 64 := inP (by kernel_rfl)
def f66 (s_t_l : NL) (s_was:Int) (s_e:Int) (v : LI) : Option (Int×Int×Int×NL) :=
 bif (s_e != (0:Int)) then
 some ((0:Int),s_was,s_e,s_t_l)
 else
 bindF (f17 s_t_l ([(List.length v:Int)],v)) fun r1 =>
 some (r1.1,s_was,r1.2.1,r1.2.2)
def C66 : Con where
 X := NL×Int×Int×LI
 Y := Int×Int×Int×NL
 e := 3
 args x := [P0 0 0,.dat T1 x.2.2.2]
 hin x := [(0,.cells [(.ptr 1 0),(.d T2 x.2.1),(.d T2 x.2.2.1)]),(1,.cells [(.osl 2)]),(2,.arr 42 T0 x.1)]
 F x := f66 x.1 x.2.1 x.2.2.1 x.2.2.2
 ret y := [.dat T2 y.1]
 hout y := [(0,.cells [(.ptr 1 0),(.d T2 y.2.1),(.d T2 y.2.2.1)]),(1,.cells [(.osl 3)]),(3,.arr 42 T0 y.2.2.2)]
 nout := 4
theorem C66_vc (s_t_l : NL) (s_was:Int) (s_e:Int) (v : LI) (y : Int×Int×Int×NL) (q : f66 s_t_l s_was s_e v = some y) : VE Tryz.f66 3 C66 (s_t_l,s_was,s_e,v) y := by
 unfold f66 at q
 refine OL (OL (OL (cI q (fun q=>?_) (fun q=>?_))))
 ·cases sE q
  refine OL (AI rfl (E4 [(0,some 0),(1,some 1),(3,some 2)] (R2 (AI TV (R3 TV)))))
 refine OL (OL ?_)
 obtain ⟨r1,hr1,q⟩ := bE q
 refine OL (AI f17_in (cV (cQ C17 (s_t_l,([(List.length v:Int)],v)) r1 [(0,some 1),(1,some 2)] false C17_holds hr1 rfl rfl (R2 (AI NH (R2 (AJ (AI (R2 TV) (OL (OL (OL ?_)))))))))))
 cases sE q
 refine AI rfl (E4 [(0,some 0),(1,some 1),(3,some 6)] (R2 (AI TV (R3 TV))))
theorem C66_holds : HP C66 66 := hH Tryz.f66 (by kernel_rfl) rfl (fun x y q=>C66_vc x.1 x.2.1 x.2.2.1 x.2.2.2 y q)
theorem f66_in : InP 66 := inP (by kernel_rfl)
def f149 (op:Int) : Option Bool :=
 bif (op == (2:Int)) then
 some true
 else
 bif (op == (3:Int)) then
 some true
 else
 bif (op == (4:Int)) then
 some true
 else
 bif (op == (6:Int)) then
 some true
 else
 some (op == (12:Int))
def C149 : Con where
 X := Int
 Y := Bool
 e := 0
 args x := [.dat T2 x]
 hin x := []
 F x := f149 x
 ret y := [.dat .bool y]
 hout y := []
 nout := 0
theorem C149_vc (op:Int) (y : Bool) (q : f149 op = some y) : VC Tryz.f149 C149 op y := by
 unfold f149 at q
 refine OL (OL (cN q (fun q=>?_) (fun q=>?_)))
 ·refine gY (cF (cN q (fun q=>?_) (fun q=>?_)))
  ·refine gY (cF (cN q (fun q=>?_) (fun q=>?_)))
   ·refine gY (cF (cN q (fun q=>?_) (fun q=>?_)))
    ·refine gY (cF ?_)
     cases sE q
     refine AI rfl (E4 [] (R2 (AI TV TV)))
    refine gN (cT ?_)
    cases sE q
    refine AI rfl (E4 [] (R2 (AI TV TV)))
   refine gN (cT (gN (gN (cT ?_))))
   cases sE q
   refine AI rfl (E4 [] (R2 (AI TV TV)))
  refine gN (cT (gN (gN (cT (gN (gN (cT ?_)))))))
  cases sE q
  refine AI rfl (E4 [] (R2 (AI TV TV)))
 refine gN (cT (gN (gN (cT (gN (gN (cT (gN (gN (cT ?_))))))))))
 cases sE q
 refine AI rfl (E4 [] (R2 (AI TV TV)))
theorem C149_holds : HP C149 149 := hH Tryz.f149 (by kernel_rfl) rfl (fun x y q=>C149_vc x y q)
theorem f149_in : InP 149 := inP (by kernel_rfl)
def f150 (op:Int) : Option Bool :=
 bif (op == (5:Int)) then
 some true
 else
 bif (op == (8:Int)) then
 some true
 else
 bif (op == (11:Int)) then
 some true
 else
 bif (op == (12:Int)) then
 some true
 else
 some (op == (13:Int))
def C150 : Con where
 X := Int
 Y := Bool
 e := 0
 args x := [.dat T2 x]
 hin x := []
 F x := f150 x
 ret y := [.dat .bool y]
 hout y := []
 nout := 0
theorem C150_vc (op:Int) (y : Bool) (q : f150 op = some y) : VC Tryz.f150 C150 op y := by
 unfold f150 at q
 refine OL (OL (cN q (fun q=>?_) (fun q=>?_)))
 ·refine gY (cF (cN q (fun q=>?_) (fun q=>?_)))
  ·refine gY (cF (cN q (fun q=>?_) (fun q=>?_)))
   ·refine gY (cF (cN q (fun q=>?_) (fun q=>?_)))
    ·refine gY (cF ?_)
     cases sE q
     refine AI rfl (E4 [] (R2 (AI TV TV)))
    refine gN (cT ?_)
    cases sE q
    refine AI rfl (E4 [] (R2 (AI TV TV)))
   refine gN (cT (gN (gN (cT ?_))))
   cases sE q
   refine AI rfl (E4 [] (R2 (AI TV TV)))
  refine gN (cT (gN (gN (cT (gN (gN (cT ?_)))))))
  cases sE q
  refine AI rfl (E4 [] (R2 (AI TV TV)))
 refine gN (cT (gN (gN (cT (gN (gN (cT (gN (gN (cT ?_))))))))))
 cases sE q
 refine AI rfl (E4 [] (R2 (AI TV TV)))
theorem C150_holds : HP C150 150 := hH Tryz.f150 (by kernel_rfl) rfl (fun x y q=>C150_vc x y q)
theorem f150_in : InP 150 := inP (by kernel_rfl)
def f241 (d : LI) (i:Int) : Option Int :=
 bif (decide (i ≥ (List.length d:Int))) then
 some (1:Int)
 else
 guardF (0 ≤ (i64.wrap ((i64.wrap ((List.length d:Int) - (1:Int))) - i)) ∧ (i64.wrap ((i64.wrap ((List.length d:Int) - (1:Int))) - i)) < (List.length d:Int)) <|
 some (rd (0:Int) d (i64.wrap ((i64.wrap ((List.length d:Int) - (1:Int))) - i)))
def C241 : Con where
 X := LI×Int
 Y := Int
 e := 0
 args x := [.dat T1 x.1,.dat T2 x.2]
 hin x := []
 F x := f241 x.1 x.2
 ret y := [.dat T2 y]
 hout y := []
 nout := 0
theorem C241_vc (d : LI) (i:Int) (y:Int) (q : f241 d i = some y) : VC Tryz.f241 C241 (d,i) y := by
 unfold f241 at q
 refine OL (OL (OL (cI q (fun q=>?_) (fun q=>?_))))
 ·cases sE q
  refine OL (AI rfl (E4 [] (R2 (AI TV TV))))
 refine OL (gI q (fun q=>?_))
 cases sE q
 refine AI rfl (E4 [] (R2 (AI TV TV)))
theorem C241_holds : HP C241 241 := hH Tryz.f241 (by kernel_rfl) rfl (fun x y q=>C241_vc x.1 x.2 y q)
theorem f241_in : InP 241 := inP (by kernel_rfl)
def f209_j1 (a : LI) (b : LI) : Option (Sum Unit Unit) :=
 bindF (f99 a) fun r4 =>
 bif (!r4) then
 some (Sum.inr ())
 else
 bindF (f99 b) fun r5 =>
 bif (!r5) then
 some (Sum.inr ())
 else
 some (Sum.inl ())
def f209_j5 (r13:Int) (r14:Int) : Option (Sum Unit Unit) :=
 bif (r13 != r14) then
 bif (r13 != (1:Int)) then
 bif (r14 != (1:Int)) then
 some (Sum.inr ())
 else
 some (Sum.inl ())
 else
 some (Sum.inl ())
 else
 some (Sum.inl ())
def f209_l4 (a : LI) (b : LI) (go : (Int×LI) → Option (Sum Unit LI)) (v26:Int) (l0 : LI) : Option (Sum Unit LI) :=
 bif (decide (v26 < (List.length (List.replicate (Int.toNat (if (List.length b:Int) > (List.length a:Int) then (List.length b:Int) else (List.length a:Int))) (0:Int)):Int))) then
 bindF (f241 a v26) fun r13 =>
 bindF (f241 b v26) fun r14 =>
 bindF (f209_j5 r13 r14) fun z15 =>
 sumF z15 (fun z15a =>
 guardF (0 ≤ (i64.wrap ((i64.wrap ((List.length l0:Int) - (1:Int))) - v26)) ∧ (i64.wrap ((i64.wrap ((List.length l0:Int) - (1:Int))) - v26)) < (List.length l0:Int)) <|
 go ((i64.wrap (v26 + (1:Int))),(List.set l0 (Int.toNat (i64.wrap ((i64.wrap ((List.length l0:Int) - (1:Int))) - v26))) (if r14 > r13 then r14 else r13)))) (fun z15b =>
 some (Sum.inl ()))
 else
 some (Sum.inr l0)
def f209 (a : LI) (b : LI) : Option (Int×LI) :=
 bindF (f209_j1 a b) fun z3 =>
 sumF z3 (fun z3a =>
 guardF (0 ≤ (if (List.length b:Int) > (List.length a:Int) then (List.length b:Int) else (List.length a:Int)) ∧ (if (List.length b:Int) > (List.length a:Int) then (List.length b:Int) else (List.length a:Int)) ≤ (if (List.length b:Int) > (List.length a:Int) then (List.length b:Int) else (List.length a:Int)) ∧ Int.toNat (if (List.length b:Int) > (List.length a:Int) then (List.length b:Int) else (List.length a:Int)) * 8 ≤ 140737488355328) <|
 bindF (loopF (fun go x=>f209_l4 a b go x.1 x.2) fuelN ((0:Int),(List.replicate (Int.toNat (if (List.length b:Int) > (List.length a:Int) then (List.length b:Int) else (List.length a:Int))) (0:Int)))) fun z12 =>
 sumF z12 (fun z12a =>
 some ((4:Int),[])) (fun z12b =>
 bindF (f99 z12b) fun r16 =>
 bif (!r16) then
 some ((2:Int),[])
 else
 some ((0:Int),z12b))) (fun z3b =>
 some ((1:Int),[]))
def C209 : Con where
 X := LI×LI
 Y := Int×LI
 e := 0
 args x := [.dat T1 x.1,.dat T1 x.2]
 hin x := []
 F x := f209 x.1 x.2
 ret y := [O0 0,.dat T2 y.1]
 hout y := [(0,.arr 3 T2 y.2)]
 nout := 1
theorem C209_vc (a : LI) (b : LI) (y : Int×LI) (q : f209 a b = some y) : VC Tryz.f209 C209 (a,b) y := by
 unfold f209 at q
 refine OL ?_
 obtain ⟨z3,hz3,q⟩ := bE q
 refine OQ ⟨Sum.elim (fun z3a=>[(0,⟨[(0,.dat T1 a),(1,.dat T1 b)],[],0⟩)]) (fun z3b=>[(1,⟨[(4,.raw false [N0]),(5,D0 1)],[],0⟩)]) z3,?_,?_⟩
 ·have q := hz3
  clear hz3
  unfold f209_j1 at q
  refine OL ?_
  obtain ⟨r4,hr4,q⟩ := bE q
  refine OL (AI f99_in (cV (cQ C99 a r4 [] false C99_holds hr4 rfl rfl (AI rfl (K0 (cN q (fun q=>?_) (fun q=>?_)))))))
  ·refine gY ?_
   obtain ⟨r5,hr5,q⟩ := bE q
   refine OL (AI f99_in (cV (cQ C99 b r5 [] false C99_holds hr5 rfl rfl (AI rfl (K0 (gY (cF (cI q (fun q=>?_) (fun q=>?_)))))))))
   ·cases sE q
    refine OL (E4 [] (R2 (AJ TV)))
   cases sE q
   refine E4 [] (R3 (AI TV TV))
  refine gN (gN (cT (cT (OL ?_))))
  cases sE q
  refine E4 [] (R2 (AJ TV))
 rcases z3 with z3a | z3b
 ·dsimp only [sumF] at q
  refine AI (OL (gI q (fun q=>?_))) TV
  refine OL (OL ?_)
  obtain ⟨z12,hz12,q⟩ := bE q
  refine lI (Int×LI) (Sum Unit LI) (fun x=>⟨[(0,.dat T1 a),(1,.dat T1 b),(6,O0 0),(25,.dat T2 (List.length (List.replicate (Int.toNat (if (List.length b:Int) > (List.length a:Int) then (List.length b:Int) else (List.length a:Int))) (0:Int)):Int)),(26,.dat T2 x.1)],[(0,.arr 3 T2 x.2)],1⟩) (fun z=>Sum.elim (fun za=>[(1,⟨[(4,.raw false [N0]),(5,D0 4)],[],0⟩)]) (fun zb=>[(2,⟨[(6,O0 0)],[(0,.arr 3 T2 zb)],1⟩)]) z) (loopF (fun go x=>f209_l4 a b go x.1 x.2)) fuelN ((0:Int),(List.replicate (Int.toNat (if (List.length b:Int) > (List.length a:Int) then (List.length b:Int) else (List.length a:Int))) (0:Int))) z12 (AI hz12 (AI (E4 [(0,some 0)] (R5 (AJ (AI rfl TV)))) (AI (fun _ _ h=>lZ h) (AI (fun m=>curI (fun v26=>fun l0 z q=>?_)) ?_))))
  ·have q : f209_l4 a b (loopF (fun go x=>f209_l4 a b go x.1 x.2) m) v26 l0 = some z := q
   unfold f209_l4 at q
   refine OL (OL (cI q (fun q=>?_) (fun q=>?_)))
   ·refine OL (OL (OL ?_))
    obtain ⟨r13,hr13,q⟩ := bE q
    refine OL (AI f241_in (cV (cQ C241 (a,v26) r13 [] false C241_holds hr13 rfl rfl (R2 (K0 ?_)))))
    obtain ⟨r14,hr14,q⟩ := bE q
    refine OL (AI f241_in (cV (cQ C241 (b,v26) r14 [] false C241_holds hr14 rfl rfl (R2 (K0 ?_)))))
    obtain ⟨z15,hz15,q⟩ := bE q
    refine OQ ⟨Sum.elim (fun z15a=>[(0,⟨[(0,.dat T1 a),(1,.dat T1 b),(6,O0 0),(7,.dat T2 v26),(8,.dat T2 r13),(9,.dat T2 r14),(25,.dat T2 (List.length (List.replicate (Int.toNat (if (List.length b:Int) > (List.length a:Int) then (List.length b:Int) else (List.length a:Int))) (0:Int)):Int)),(26,.dat T2 v26)],[(0,.arr 3 T2 l0)],1⟩)]) (fun z15b=>[(1,⟨[(4,.raw false [N0]),(5,D0 4)],[],0⟩)]) z15,?_,?_⟩
    ·have q := hz15
     clear hz15
     unfold f209_j5 at q
     refine OL (cI q (fun q=>?_) (fun q=>?_))
     ·refine gX (cT (cI q (fun q=>?_) (fun q=>?_)))
      ·refine gX (cT (cI q (fun q=>?_) (fun q=>?_)))
       ·cases sE q
        refine OL (E4 [] (R2 (AJ TV)))
       cases sE q
       refine E4 [(0,some 0)] (R8 (AJ (AI rfl TV)))
      refine gM (cF (cF ?_))
      cases sE q
      refine E4 [(0,some 0)] (R8 (AJ (AI rfl TV)))
     refine gM (cF (gM (gM (cF (cF ?_)))))
     cases sE q
     refine E4 [(0,some 0)] (R8 (AJ (AI rfl TV)))
    rcases z15 with z15a | z15b
    ·dsimp only [sumF] at q
     refine AI (gI q (fun q=>?_)) TV
     refine OL (EI ((i64.wrap (v26 + (1:Int))),(List.set l0 (Int.toNat (i64.wrap ((i64.wrap ((List.length l0:Int) - (1:Int))) - v26))) (if r14 > r13 then r14 else r13))) (AI q (E4 [(0,some 0)] (R5 (AJ (AI rfl TV))))))
    dsimp only [sumF] at q
    refine AI ?_ TV
    cases sE q
    refine E4 [] (R2 (AJ TV))
   cases sE q
   refine E4 [(0,some 0)] (AI rfl (AJ (AI rfl TV)))
  rcases z12 with z12a | z12b
  ·dsimp only [sumF] at q
   refine AI ?_ TV
   cases sE q
   refine AI rfl (E4 [(0,none)] (R2 (AJ (AI rfl TV))))
  dsimp only [sumF] at q
  refine AI (OL (OL ?_)) TV
  obtain ⟨r16,hr16,q⟩ := bE q
  refine OL (AI f99_in (cV (cQ C99 z12b r16 [] true C99_holds hr16 rfl rfl (AI rfl (AI (fun _=>rfl) (R2 (AI TV (AI TV (cI q (fun q=>?_) (fun q=>?_))))))))))
  ·cases sE q
   refine OL (AI rfl (E4 [(0,none)] (R2 (AJ (AI rfl TV)))))
  cases sE q
  refine OL (AI rfl (E4 [(0,some 0)] (R2 (AJ (AI rfl TV)))))
 dsimp only [sumF] at q
 refine AI ?_ TV
 cases sE q
 refine AI rfl (E4 [(0,none)] (R2 (AJ (AI rfl TV))))
theorem C209_holds : HP C209 209 := hH Tryz.f209 (by kernel_rfl) rfl (fun x y q=>C209_vc x.1 x.2 y q)
theorem f209_in : InP 209 := inP (by kernel_rfl)
def f154 (x_:Int) (y_:Int) : Option (Int×Int) :=
 some ((u64.wrap ((u64.wrap ((u64.wrap ((Int.fdiv x_ (2 ^ min (Int.toNat (32:Int)) u64.bits)) * (Int.fdiv y_ (2 ^ min (Int.toNat (32:Int)) u64.bits)))) + (Int.fdiv (u64.wrap ((u64.wrap ((Int.fdiv x_ (2 ^ min (Int.toNat (32:Int)) u64.bits)) * (bitsOf IntKind.u64 (fun p q=>p &&& q) y_ (4294967295:Int)))) + (Int.fdiv (u64.wrap ((bitsOf IntKind.u64 (fun p q=>p &&& q) x_ (4294967295:Int)) * (bitsOf IntKind.u64 (fun p q=>p &&& q) y_ (4294967295:Int)))) (2 ^ min (Int.toNat (32:Int)) u64.bits)))) (2 ^ min (Int.toNat (32:Int)) u64.bits)))) + (Int.fdiv (u64.wrap ((bitsOf IntKind.u64 (fun p q=>p &&& q) (u64.wrap ((u64.wrap ((Int.fdiv x_ (2 ^ min (Int.toNat (32:Int)) u64.bits)) * (bitsOf IntKind.u64 (fun p q=>p &&& q) y_ (4294967295:Int)))) + (Int.fdiv (u64.wrap ((bitsOf IntKind.u64 (fun p q=>p &&& q) x_ (4294967295:Int)) * (bitsOf IntKind.u64 (fun p q=>p &&& q) y_ (4294967295:Int)))) (2 ^ min (Int.toNat (32:Int)) u64.bits)))) (4294967295:Int)) + (u64.wrap ((bitsOf IntKind.u64 (fun p q=>p &&& q) x_ (4294967295:Int)) * (Int.fdiv y_ (2 ^ min (Int.toNat (32:Int)) u64.bits)))))) (2 ^ min (Int.toNat (32:Int)) u64.bits)))),(u64.wrap (x_ * y_)))
def C154 : Con where
 X := Int×Int
 Y := Int×Int
 e := 0
 args x := [.dat T4 x.1,.dat T4 x.2]
 hin x := []
 F x := f154 x.1 x.2
 ret y := [.dat T4 y.1,.dat T4 y.2]
 hout y := []
 nout := 0
theorem C154_vc (x_:Int) (y_:Int) (y : Int×Int) (q : f154 x_ y_ = some y) : VC Tryz.f154 C154 (x_,y_) y := by
 unfold f154 at q
 refine OL (OL (OL (AI (by decide) (OL (OL (AI (by decide) (OL (OL (AI (by decide) (OL (OL (AI (by decide) (OL (OL (AI (by decide) (OL ?_))))))))))))))))
 cases sE q
 refine AI rfl (E4 [] (R3 (AI TV TV)))
theorem C154_holds : HP C154 154 := hH Tryz.f154 (by kernel_rfl) rfl (fun x y q=>C154_vc x.1 x.2 y q)
theorem f154_in : InP 154 := inP (by kernel_rfl)
def f106 (x_:Int) (y_:Int) : Option (Int×Int) :=
 bindF (f154 x_ y_) fun r1 =>
 some (r1.1,r1.2)
def C106 : Con where
 X := Int×Int
 Y := Int×Int
 e := 0
 args x := [.dat T4 x.1,.dat T4 x.2]
 hin x := []
 F x := f106 x.1 x.2
 ret y := [.dat T4 y.1,.dat T4 y.2]
 hout y := []
 nout := 0
theorem C106_vc (x_:Int) (y_:Int) (y : Int×Int) (q : f106 x_ y_ = some y) : VC Tryz.f106 C106 (x_,y_) y := by
 unfold f106 at q
 refine OL (OL (cF (OL ?_)))
 obtain ⟨r1,hr1,q⟩ := bE q
 refine OL (AI f154_in (cV (cQ C154 (x_,y_) r1 [] false C154_holds hr1 rfl rfl (R2 (K0 (OL ?_))))))
 cases sE q
 refine AI rfl (E4 [] (R3 (AI TV TV)))
theorem C106_holds : HP C106 106 := hH Tryz.f106 (by kernel_rfl) rfl (fun x y q=>C106_vc x.1 x.2 y q)
theorem f106_in : InP 106 := inP (by kernel_rfl)
def f69_j1 (r1 : Int×Int) : Option Unit :=
 bif (decide (r1.1 > (0:Int))) then
 none
 else
 bif (decide (r1.2 > (9223372036854775807:Int))) then
 none
 else
 some ()
def f69_l2 (go : (Int×LI) → Option LI) (n:Int) (l0 : LI) : Option LI :=
 bif (decide (n < (List.length l0:Int))) then
 guardF (0 ≤ n ∧ n ≤ (List.length l0:Int)) <|
 guardF (0 ≤ n ∧ n ≤ (List.length l0:Int)) <|
 go ((i64.wrap (n + (List.length (List.take (Int.toNat (List.length l0:Int) - Int.toNat n) (List.drop (Int.toNat (0:Int)) (List.take (Int.toNat n) l0))):Int))),(over l0 n (List.take (Int.toNat (List.length l0:Int) - Int.toNat n) (List.drop (Int.toNat (0:Int)) (List.take (Int.toNat n) l0)))))
 else
 some l0
def f69 (x_ : LI) (count:Int) : Option LI :=
 bif (decide (count < (0:Int))) then
 none
 else
 bindF (f106 (u64.wrap (List.length x_:Int)) (u64.wrap count)) fun r1 =>
 bindF (f69_j1 r1) fun z2 =>
 guardF (0 ≤ (i64.wrap r1.2) ∧ (i64.wrap r1.2) ≤ (i64.wrap r1.2) ∧ Int.toNat (i64.wrap r1.2) * 8 ≤ 140737488355328) <|
 bindF (loopF (fun go x=>f69_l2 go x.1 x.2) fuelN ((List.length (List.take (Int.toNat (List.length (List.replicate (Int.toNat (i64.wrap r1.2)) (0:Int)):Int) - Int.toNat (0:Int)) x_):Int),(over (List.replicate (Int.toNat (i64.wrap r1.2)) (0:Int)) (0:Int) (List.take (Int.toNat (List.length (List.replicate (Int.toNat (i64.wrap r1.2)) (0:Int)):Int) - Int.toNat (0:Int)) x_)))) fun z3 =>
 some z3
def C69 : Con where
 X := LI×Int
 Y := LI
 e := 0
 args x := [.dat T1 x.1,.dat T2 x.2]
 hin x := []
 F x := f69 x.1 x.2
 ret y := [O0 0]
 hout y := [(0,.arr 40 T2 y)]
 nout := 1
theorem C69_vc (x_ : LI) (count:Int) (y : LI) (q : f69 x_ count = some y) : VC Tryz.f69 C69 (x_,count) y := by
 unfold f69 at q
 refine OL (OL (OL (cI q (fun q=>?_) (fun q=>?_))))
 ·exact nomatch q
 refine OL ?_
 obtain ⟨r1,hr1,q⟩ := bE q
 refine OL (AI f106_in (cV (cQ C106 ((u64.wrap (List.length x_:Int)),(u64.wrap count)) r1 [] false C106_holds hr1 rfl rfl (R2 (K0 ?_)))))
 obtain ⟨z2,hz2,q⟩ := bE q
 refine OQ ⟨[(0,⟨[(0,.dat T1 x_),(6,.dat T4 r1.2)],[],0⟩)],?_,?_⟩
 ·have q := hz2
  clear hz2
  unfold f69_j1 at q
  refine OL (cN q (fun q=>?_) (fun q=>?_))
  ·refine gY (cF (cI q (fun q=>?_) (fun q=>?_)))
   ·exact nomatch q
   cases sE q
   refine E4 [] (R3 (AI TV TV))
  refine gN (cT (cT ?_))
  exact nomatch q
 refine AI (OL (gI q (fun q=>?_))) TV
 refine OL (OL ?_)
 obtain ⟨z3,hz3,q⟩ := bE q
 refine lI (Int×LI) LI (fun x=>⟨[(7,O0 0),(8,.dat T2 x.1)],[(0,.arr 40 T2 x.2)],1⟩) (fun z=>[(2,⟨[(7,O0 0)],[(0,.arr 40 T2 z)],1⟩)]) (loopF (fun go x=>f69_l2 go x.1 x.2)) fuelN ((List.length (List.take (Int.toNat (List.length (List.replicate (Int.toNat (i64.wrap r1.2)) (0:Int)):Int) - Int.toNat (0:Int)) x_):Int),(over (List.replicate (Int.toNat (i64.wrap r1.2)) (0:Int)) (0:Int) (List.take (Int.toNat (List.length (List.replicate (Int.toNat (i64.wrap r1.2)) (0:Int)):Int) - Int.toNat (0:Int)) x_))) z3 (AI hz3 (AI (E4 [(0,some 0)] (R2 (AJ (AI rfl TV)))) (AI (fun _ _ h=>lZ h) (AI (fun m=>curI (fun n=>fun l0 z q=>?_)) ?_))))
 ·have q : f69_l2 (loopF (fun go x=>f69_l2 go x.1 x.2) m) n l0 = some z := q
  unfold f69_l2 at q
  refine OL (OL (cI q (fun q=>?_) (fun q=>?_)))
  ·refine EI (.take 0 (.take 1 (.take 2 (.take 3 (.take 4 (.take 5 (.take 6 (.alt 7 (.take 8 (.take 9 .done)) .done)))))))) (EI [] (EI [] (AI rfl (gI q (fun q=>?_)))))
   refine gI q (fun q=>?_)
   refine AI TV (EI ((i64.wrap (n + (List.length (List.take (Int.toNat (List.length l0:Int) - Int.toNat n) (List.drop (Int.toNat (0:Int)) (List.take (Int.toNat n) l0))):Int))),(over l0 n (List.take (Int.toNat (List.length l0:Int) - Int.toNat n) (List.drop (Int.toNat (0:Int)) (List.take (Int.toNat n) l0))))) (AI q (E4 [(0,some 0)] (R2 (AJ (AI rfl TV))))))
  cases sE q
  refine E4 [(0,some 0)] (AI rfl (AJ (AI rfl TV)))
 refine AI (OL ?_) TV
 cases sE q
 refine AI rfl (E4 [(0,some 0)] (AI rfl (AJ (AI rfl TV))))
theorem C69_holds : HP C69 69 := hH Tryz.f69 (by kernel_rfl) rfl (fun x y q=>C69_vc x.1 x.2 y q)
theorem f69_in : InP 69 := inP (by kernel_rfl)
def f68 (d : LI) (v:Int) : Option (Int×LI×LI) :=
 bindF (f99 d) fun r1 =>
 bif (!r1) then
 some ((1:Int),[],[])
 else
 bindF (f101 d) fun r2 =>
 bindF (f100 d) fun r3 =>
 bindF (f69 ([v]) r3) fun r4 =>
 some ((0:Int),r2,r4)
def C68 : Con where
 X := LI×Int
 Y := Int×LI×LI
 e := 0
 args x := [.dat T1 x.1,.dat T2 x.2]
 hin x := []
 F x := f68 x.1 x.2
 ret y := [.raw true [(.osl 0),(.osl 1)],.dat T2 y.1]
 hout y := [(0,.arr 3 T2 y.2.1),(1,.arr 40 T2 y.2.2)]
 nout := 2
theorem C68_vc (d : LI) (v:Int) (y : Int×LI×LI) (q : f68 d v = some y) : VC Tryz.f68 C68 (d,v) y := by
 unfold f68 at q
 refine OL (OL (OL ?_))
 obtain ⟨r1,hr1,q⟩ := bE q
 refine OL (AI f99_in (cV (cQ C99 d r1 [] false C99_holds hr1 rfl rfl (AI rfl (K0 (cI q (fun q=>?_) (fun q=>?_)))))))
 ·refine OL (OL ?_)
  cases sE q
  refine AI rfl (E4 [(0,none),(1,none)] (R2 (AJ (R2 TV))))
 refine OL ?_
 obtain ⟨r2,hr2,q⟩ := bE q
 refine OL (AI f101_in (cV (cQ C101 d r2 [] false C101_holds hr2 rfl rfl (AI rfl (K0 (OL ?_))))))
 obtain ⟨r3,hr3,q⟩ := bE q
 refine OL (AI f100_in (cV (cQ C100 d r3 [] false C100_holds hr3 rfl rfl (AI rfl (K0 ?_)))))
 obtain ⟨r4,hr4,q⟩ := bE q
 refine OL (AI f69_in (cV (cQ C69 ([v],r3) r4 [] true C69_holds hr4 rfl rfl (R2 (AI (fun _=>rfl) (R2 (AI TV (AI TV (OL ?_)))))))))
 cases sE q
 refine AI rfl (E4 [(0,some 1),(1,some 3)] (R2 (AJ (R2 TV))))
theorem C68_holds : HP C68 68 := hH Tryz.f68 (by kernel_rfl) rfl (fun x y q=>C68_vc x.1 x.2 y q)
theorem f68_in : InP 68 := inP (by kernel_rfl)
def f235_l1 (d : LI) (go : (Int×Int×LI) → Option LI) (n:Int) (i:Int) (l0 : LI) : Option LI :=
 bif (decide (i ≥ (0:Int))) then
 guardF (0 ≤ i ∧ i < (List.length l0:Int)) <|
 guardF (0 ≤ i ∧ i < (List.length d:Int)) <|
 go ((i64.wrap (n * (rd (0:Int) d i))),(i64.wrap (i - (1:Int))),(List.set l0 (Int.toNat i) n))
 else
 some l0
def f235 (d : LI) : Option LI :=
 bindF (f99 d) fun r1 =>
 bif (!r1) then
 some ([])
 else
 guardF (0 ≤ (List.length d:Int) ∧ (List.length d:Int) ≤ (List.length d:Int) ∧ Int.toNat (List.length d:Int) * 8 ≤ 140737488355328) <|
 bindF (loopF (fun go x=>f235_l1 d go x.1 x.2.1 x.2.2) fuelN ((1:Int),(i64.wrap ((List.length d:Int) - (1:Int))),(List.replicate (Int.toNat (List.length d:Int)) (0:Int)))) fun z2 =>
 some z2
def C235 : Con where
 X := LI
 Y := LI
 e := 0
 args x := [.dat T1 x]
 hin x := []
 F x := f235 x
 ret y := [O0 0]
 hout y := [(0,.arr 3 T2 y)]
 nout := 1
theorem C235_vc (d : LI) (y : LI) (q : f235 d = some y) : VC Tryz.f235 C235 d y := by
 unfold f235 at q
 refine OL (OL (OL ?_))
 obtain ⟨r1,hr1,q⟩ := bE q
 refine OL (AI f99_in (cV (cQ C99 d r1 [] false C99_holds hr1 rfl rfl (AI rfl (K0 (cI q (fun q=>?_) (fun q=>?_)))))))
 ·cases sE q
  refine OL (AI rfl (E4 [(0,none)] (AI rfl (AJ (AI rfl TV)))))
 refine OL (gI q (fun q=>?_))
 refine OL (OL (OL ?_))
 obtain ⟨z2,hz2,q⟩ := bE q
 refine lI (Int×Int×LI) LI (fun x=>⟨[(0,.dat T1 d),(3,O0 0),(4,.dat T2 x.1),(5,.dat T2 x.2.1)],[(0,.arr 3 T2 x.2.2)],1⟩) (fun z=>[(2,⟨[(3,O0 0)],[(0,.arr 3 T2 z)],1⟩)]) (loopF (fun go x=>f235_l1 d go x.1 x.2.1 x.2.2)) fuelN ((1:Int),(i64.wrap ((List.length d:Int) - (1:Int))),(List.replicate (Int.toNat (List.length d:Int)) (0:Int))) z2 (AI hz2 (AI (E4 [(0,some 0)] (R4 (AJ (AI rfl TV)))) (AI (fun _ _ h=>lZ h) (AI (fun m=>curI (fun n=>curI (fun i=>fun l0 z q=>?_))) ?_))))
 ·have q : f235_l1 d (loopF (fun go x=>f235_l1 d go x.1 x.2.1 x.2.2) m) n i l0 = some z := q
  unfold f235_l1 at q
  refine OL (OL (cI q (fun q=>?_) (fun q=>?_)))
  ·refine OL (OL (gI q (fun q=>?_)))
   refine OL (gI q (fun q=>?_))
   refine EI ((i64.wrap (n * (rd (0:Int) d i))),(i64.wrap (i - (1:Int))),(List.set l0 (Int.toNat i) n)) (AI q (E4 [(0,some 0)] (R4 (AJ (AI rfl TV)))))
  cases sE q
  refine E4 [(0,some 0)] (AI rfl (AJ (AI rfl TV)))
 refine AI (OL ?_) TV
 cases sE q
 refine AI rfl (E4 [(0,some 0)] (AI rfl (AJ (AI rfl TV))))
theorem C235_holds : HP C235 235 := hH Tryz.f235 (by kernel_rfl) rfl (fun x y q=>C235_vc x y q)
theorem f235_in : InP 235 := inP (by kernel_rfl)
def f210_j13 (d : LI) (big : LI) (q11_19 : LI) (v23:Int) (rest:Int) (i:Int) (l1_2 : LI) : Option LI :=
 guardF (0 ≤ (i64.wrap (i - (i64.wrap ((List.length big:Int) - (List.length d:Int))))) ∧ (i64.wrap (i - (i64.wrap ((List.length big:Int) - (List.length d:Int))))) < (List.length d:Int)) <|
 bif (decide ((rd (0:Int) d (i64.wrap (i - (i64.wrap ((List.length big:Int) - (List.length d:Int)))))) > (1:Int))) then
 guardF (0 ≤ v23 ∧ v23 < (List.length l1_2:Int)) <|
 guardF (0 ≤ i ∧ i < (List.length big:Int)) <|
 guardF ((rd (0:Int) big i) ≠ 0) <|
 guardF (0 ≤ (i64.wrap (i - (i64.wrap ((List.length big:Int) - (List.length d:Int))))) ∧ (i64.wrap (i - (i64.wrap ((List.length big:Int) - (List.length d:Int))))) < (List.length q11_19:Int)) <|
 guardF (0 ≤ v23 ∧ v23 < (List.length l1_2:Int)) <|
 some (List.set l1_2 (Int.toNat v23) (i64.wrap ((rd (0:Int) l1_2 v23) + (i64.wrap ((Int.tmod rest (rd (0:Int) big i)) * (rd (0:Int) q11_19 (i64.wrap (i - (i64.wrap ((List.length big:Int) - (List.length d:Int)))))))))))
 else
 some l1_2
def f210_l12 (d : LI) (big : LI) (q11_19 : LI) (v23:Int) (go : (Int×Int×LI) → Option LI) (rest:Int) (i:Int) (l1_2 : LI) : Option LI :=
 bif (decide (i ≥ (i64.wrap ((List.length big:Int) - (List.length d:Int))))) then
 bindF (f210_j13 d big q11_19 v23 rest i l1_2) fun z14 =>
 guardF (0 ≤ i ∧ i < (List.length big:Int)) <|
 guardF ((rd (0:Int) big i) ≠ 0) <|
 go ((i64.wrap (Int.tdiv rest (rd (0:Int) big i))),(i64.wrap (i - (1:Int))),z14)
 else
 some l1_2
def f210_l9 (d : LI) (big : LI) (q11_19 : LI) (r1:Int) (go : (Int×LI) → Option LI) (v23:Int) (l1 : LI) : Option LI :=
 bif (decide (v23 < (List.length (List.replicate (Int.toNat r1) (0:Int)):Int))) then
 bindF (loopF (fun go x=>f210_l12 d big q11_19 v23 go x.1 x.2.1 x.2.2) fuelN (v23,(i64.wrap ((List.length big:Int) - (1:Int))),l1)) fun z13 =>
 go ((i64.wrap (v23 + (1:Int))),z13)
 else
 some l1
def f210 (d : LI) (big : LI) : Option LI :=
 bindF (f235 d) fun q11_19 =>
 bindF (f100 big) fun r1 =>
 guardF (0 ≤ r1 ∧ r1 ≤ r1 ∧ Int.toNat r1 * 8 ≤ 140737488355328) <|
 bindF (loopF (fun go x=>f210_l9 d big q11_19 r1 go x.1 x.2) fuelN ((0:Int),(List.replicate (Int.toNat r1) (0:Int)))) fun z10 =>
 some z10
def C210 : Con where
 X := LI×LI
 Y := LI
 e := 0
 args x := [.dat T1 x.1,.dat T1 x.2]
 hin x := []
 F x := f210 x.1 x.2
 ret y := [O0 0]
 hout y := [(0,.arr 3 T2 y)]
 nout := 1
theorem C210_vc (d : LI) (big : LI) (y : LI) (q : f210 d big = some y) : VC Tryz.f210 C210 (d,big) y := by
 unfold f210 at q
 refine OL (OL ?_)
 obtain ⟨q11_19,hq11_19,q⟩ := bE q
 refine OL (AI f235_in (cV (cQ C235 d q11_19 [] false C235_holds hq11_19 rfl rfl (AI rfl (K0 (OL ?_))))))
 obtain ⟨r1,hr1,q⟩ := bE q
 refine OL (AI f100_in (cV (cQ C100 big r1 [] false C100_holds hr1 rfl rfl (AI rfl (K0 (gI q (fun q=>?_)))))))
 refine OL (OL ?_)
 obtain ⟨z10,hz10,q⟩ := bE q
 refine lI (Int×LI) LI (fun x=>⟨[(0,.dat T1 d),(1,.dat T1 big),(5,O0 0),(6,.dat T2 (i64.wrap ((List.length big:Int) - (List.length d:Int)))),(7,O0 1),(22,.dat T2 (List.length (List.replicate (Int.toNat r1) (0:Int)):Int)),(23,.dat T2 x.1)],[(0,.arr 3 T2 q11_19),(1,.arr 3 T2 x.2)],2⟩) (fun z=>[(2,⟨[(7,O0 0)],[(0,.arr 3 T2 z)],1⟩)]) (loopF (fun go x=>f210_l9 d big q11_19 r1 go x.1 x.2)) fuelN ((0:Int),(List.replicate (Int.toNat r1) (0:Int))) z10 (AI hz10 (AI (E4 I2 (R6 (AI (R2 TV) (R2 TV)))) (AI (fun _ _ h=>lZ h) (AI (fun m=>curI (fun v23=>fun l1 z q=>?_)) ?_))))
 ·have q : f210_l9 d big q11_19 r1 (loopF (fun go x=>f210_l9 d big q11_19 r1 go x.1 x.2) m) v23 l1 = some z := q
  unfold f210_l9 at q
  refine OL (OL (cI q (fun q=>?_) (fun q=>?_)))
  ·refine OL (OL (OL (OL ?_)))
   obtain ⟨z13,hz13,q⟩ := bE q
   refine lI (Int×Int×LI) LI (fun x=>⟨[(0,.dat T1 d),(1,.dat T1 big),(5,O0 0),(6,.dat T2 (i64.wrap ((List.length big:Int) - (List.length d:Int)))),(7,O0 1),(8,.dat T2 v23),(9,.dat T2 x.1),(10,.dat T2 x.2.1),(22,.dat T2 (List.length (List.replicate (Int.toNat r1) (0:Int)):Int)),(23,.dat T2 v23)],[(0,.arr 3 T2 q11_19),(1,.arr 3 T2 x.2.2)],2⟩) (fun z=>[(4,⟨[(0,.dat T1 d),(1,.dat T1 big),(5,O0 0),(6,.dat T2 (i64.wrap ((List.length big:Int) - (List.length d:Int)))),(7,O0 1),(22,.dat T2 (List.length (List.replicate (Int.toNat r1) (0:Int)):Int)),(23,.dat T2 v23)],[(0,.arr 3 T2 q11_19),(1,.arr 3 T2 z)],2⟩)]) (loopF (fun go x=>f210_l12 d big q11_19 v23 go x.1 x.2.1 x.2.2)) fuelN (v23,(i64.wrap ((List.length big:Int) - (1:Int))),l1) z13 (AI hz13 (AI (E4 I2 (R9 (AI (R2 TV) (R2 TV)))) (AI (fun _ _ h=>lZ h) (AI (fun m=>curI (fun rest=>curI (fun i=>fun l1_2 z q=>?_))) ?_))))
   ·have q : f210_l12 d big q11_19 v23 (loopF (fun go x=>f210_l12 d big q11_19 v23 go x.1 x.2.1 x.2.2) m) rest i l1_2 = some z := q
    unfold f210_l12 at q
    refine OL (OL (cI q (fun q=>?_) (fun q=>?_)))
    ·refine OL ?_
     obtain ⟨z14,hz14,q⟩ := bE q
     refine OQ ⟨[(0,⟨[(0,.dat T1 d),(1,.dat T1 big),(5,O0 0),(6,.dat T2 (i64.wrap ((List.length big:Int) - (List.length d:Int)))),(7,O0 1),(8,.dat T2 v23),(9,.dat T2 rest),(10,.dat T2 i),(22,.dat T2 (List.length (List.replicate (Int.toNat r1) (0:Int)):Int)),(23,.dat T2 v23)],[(0,.arr 3 T2 q11_19),(1,.arr 3 T2 z14)],2⟩)],?_,?_⟩
     ·have q := hz14
      clear hz14
      unfold f210_j13 at q
      refine OL (gI q (fun q=>?_))
      refine cI q (fun q=>?_) (fun q=>?_)
      ·refine EI (.take 0 (.take 1 (.take 2 (.take 3 (.take 4 (.take 5 (.take 6 (.take 7 (.take 8 (.take 9 (.take 10 (.take 11 (.take 12 (.take 13 (.take 14 (.take 15 (.take 16 (.take 17 (.take 18 (.alt 19 .done .done)))))))))))))))))))) (EI [(19,[1])] (EI [] (AI rfl (gI q (fun q=>?_)))))
       refine gI q (fun q=>?_)
       refine gI q (fun q=>?_)
       refine gI q (fun q=>?_)
       refine gI q (fun q=>?_)
       refine AI TV (OL ?_)
       cases sE q
       refine E4 I2 (R9 (AI (R2 TV) (R2 TV)))
      cases sE q
      refine E4 I2 (R9 (AI (R2 TV) (R2 TV)))
     refine AI (gI q (fun q=>?_)) TV
     refine gI q (fun q=>?_)
     refine EI ((i64.wrap (Int.tdiv rest (rd (0:Int) big i))),(i64.wrap (i - (1:Int))),z14) (AI q (E4 I2 (R9 (AI (R2 TV) (R2 TV)))))
    cases sE q
    refine E4 I2 (R6 (AI (R2 TV) (R2 TV)))
   refine AI (EI ((i64.wrap (v23 + (1:Int))),z13) (AI q (E4 I2 (R6 (AI (R2 TV) (R2 TV)))))) TV
  cases sE q
  refine E4 [(0,some 1)] (AI rfl (AJ (AI rfl TV)))
 refine AI (OL ?_) TV
 cases sE q
 refine AI rfl (E4 [(0,some 0)] (AI rfl (AJ (AI rfl TV))))
theorem C210_holds : HP C210 210 := hH Tryz.f210 (by kernel_rfl) rfl (fun x y q=>C210_vc x.1 x.2 y q)
theorem f210_in : InP 210 := inP (by kernel_rfl)
def f143_j1 (a:Int) (b:Int) : Option (Sum Unit Unit) :=
 bif (!((decide (a < (0:Int))) == (decide (b < (0:Int))))) then
 some (Sum.inr ())
 else
 bif ((decide ((i64.wrap (a + b)) < (0:Int))) == (decide (a < (0:Int)))) then
 some (Sum.inr ())
 else
 some (Sum.inl ())
def f143 (a:Int) (b:Int) : Option Int :=
 bindF (f143_j1 a b) fun z1 =>
 sumF z1 (fun z1a =>
 bif (decide (a < (0:Int))) then
 some (-9223372036854775808:Int)
 else
 some (9223372036854775807:Int)) (fun z1b =>
 some (i64.wrap (a + b)))
def C143 : Con where
 X := Int×Int
 Y := Int
 e := 0
 args x := [.dat T2 x.1,.dat T2 x.2]
 hin x := []
 F x := f143 x.1 x.2
 ret y := [.dat T2 y]
 hout y := []
 nout := 0
theorem C143_vc (a:Int) (b:Int) (y:Int) (q : f143 a b = some y) : VC Tryz.f143 C143 (a,b) y := by
 unfold f143 at q
 refine OL (OL ?_)
 obtain ⟨z1,hz1,q⟩ := bE q
 refine OQ ⟨Sum.elim (fun z1a=>[(0,⟨[(0,.dat T2 a)],[],0⟩)]) (fun z1b=>[(1,⟨[(4,.dat T2 (i64.wrap (a + b)))],[],0⟩)]) z1,?_,?_⟩
 ·have q := hz1
  clear hz1
  unfold f143_j1 at q
  refine OL (cN q (fun q=>?_) (fun q=>?_))
  ·refine gY (gY (gY (gY (cF (cI q (fun q=>?_) (fun q=>?_))))))
   ·cases sE q
    refine OL (E4 [] (R2 (AI TV TV)))
   cases sE q
   refine E4 [] (R2 (AI TV TV))
  refine gN (gN (gN (gN (cT (cT (OL ?_))))))
  cases sE q
  refine E4 [] (R2 (AI TV TV))
 rcases z1 with z1a | z1b
 ·dsimp only [sumF] at q
  refine AI (OL (OL (cI q (fun q=>?_) (fun q=>?_)))) TV
  ·cases sE q
   refine OL (AI rfl (E4 [] (R2 (AI TV TV))))
  cases sE q
  refine OL (AI rfl (E4 [] (R2 (AI TV TV))))
 dsimp only [sumF] at q
 refine AI ?_ TV
 cases sE q
 refine AI rfl (E4 [] (R2 (AI TV TV)))
theorem C143_holds : HP C143 143 := hH Tryz.f143 (by kernel_rfl) rfl (fun x y q=>C143_vc x.1 x.2 y q)
theorem f143_in : InP 143 := inP (by kernel_rfl)
def f176_143_j3 (a : LI×LI) (b : LI×LI) : Option Bool :=
 bindF (f59 (a.1,a.2)) fun r9 =>
 bif (!r9) then
 some true
 else
 bindF (f59 (b.1,b.2)) fun r10 =>
 some (!r10)
def f176_143_j2 (a : LI×LI) (b : LI×LI) : Option (Sum Unit Unit) :=
 bindF (f176_143_j3 a b) fun z8 =>
 bif z8 then
 some (Sum.inr ())
 else
 some (Sum.inl ())
def f176_143_l4 (a : LI×LI) (b : LI×LI) (r12 : Int×LI×LI) (q7_3 : LI) (q7_7 : LI) (go : (Int×LI) → Option LI) (v52:Int) (l7 : LI) : Option LI :=
 bif (decide (v52 < (List.length r12.2.2:Int))) then
 guardF (0 ≤ v52 ∧ v52 < (List.length q7_3:Int)) <|
 guardF (0 ≤ (rd (0:Int) q7_3 v52) ∧ (rd (0:Int) q7_3 v52) < (List.length a.2:Int)) <|
 guardF (0 ≤ v52 ∧ v52 < (List.length q7_7:Int)) <|
 guardF (0 ≤ (rd (0:Int) q7_7 v52) ∧ (rd (0:Int) q7_7 v52) < (List.length b.2:Int)) <|
 bindF (f143 (rd (0:Int) a.2 (rd (0:Int) q7_3 v52)) (rd (0:Int) b.2 (rd (0:Int) q7_7 v52))) fun q11_20 =>
 guardF (0 ≤ v52 ∧ v52 < (List.length l7:Int)) <|
 go ((i64.wrap (v52 + (1:Int))),(List.set l7 (Int.toNat v52) q11_20))
 else
 some l7
def f176_143 (a : LI×LI) (b : LI×LI) : Option (Int×LI×LI) :=
 bindF (f176_143_j2 a b) fun z5 =>
 sumF z5 (fun z5a =>
 bindF (f209 a.1 b.1) fun r11 =>
 bif (r11.1 != (0:Int)) then
 some (r11.1,[],[])
 else
 bindF (f68 r11.2 (0:Int)) fun r12 =>
 bindF (f210 a.1 r11.2) fun q7_3 =>
 bindF (f210 b.1 r11.2) fun q7_7 =>
 bindF (loopF (fun go x=>f176_143_l4 a b r12 q7_3 q7_7 go x.1 x.2) fuelN ((0:Int),r12.2.2)) fun z13 =>
 some ((0:Int),r12.2.1,z13)) (fun z5b =>
 some ((1:Int),[],[]))
def C176_143 : Con where
 X := (LI×LI)×(LI×LI)
 Y := Int×LI×LI
 e := 0
 args x := [.dat T3 x.1,.dat T3 x.2,.raw false [(.c (.func (.func 143) #[] #[]))]]
 hin x := []
 F x := f176_143 x.1 x.2
 ret y := [.raw true [(.osl 0),(.osl 1)],.dat T2 y.1]
 hout y := [(0,.arr 3 T2 y.2.1),(1,.arr 40 T2 y.2.2)]
 nout := 2
theorem C176_143_vc (a : LI×LI) (b : LI×LI) (y : Int×LI×LI) (q : f176_143 a b = some y) : VC Tryz.f176 C176_143 (a,b) y := by
 unfold f176_143 at q
 refine OL ?_
 obtain ⟨z5,hz5,q⟩ := bE q
 refine OQ ⟨Sum.elim (fun z5a=>[(0,⟨[(2,.raw false [(.c (.func (.func 143) #[] #[]))]),(3,P0 0 0),(4,P0 1 0),(6,P0 2 0)],[(0,.cells [(.d T1 a.1),(.d T1 a.2)]),(1,.cells [(.d T1 b.1),(.d T1 b.2)]),(2,.cells [N0,N0])],3⟩)]) (fun z5b=>[(1,⟨[(6,P0 0 0),(7,D0 1)],[(0,.cells [N0,N0])],1⟩)]) z5,?_,?_⟩
 ·have q := hz5
  clear hz5
  unfold f176_143_j2 at q
  obtain ⟨z8,hz8,q⟩ := bE q
  refine OQ ⟨[(0,⟨[(2,.raw false [(.c (.func (.func 143) #[] #[]))]),(3,P0 0 0),(4,P0 1 0),(6,P0 2 0),(22,.dat .bool z8)],[(0,.cells [(.d T1 a.1),(.d T1 a.2)]),(1,.cells [(.d T1 b.1),(.d T1 b.2)]),(2,.cells [N0,N0])],3⟩)],?_,?_⟩
  ·have q := hz8
   clear hz8
   unfold f176_143_j3 at q
   obtain ⟨r9,hr9,q⟩ := bE q
   refine OL (AI f59_in (cV (cQ C59 (a.1,a.2) r9 [] false C59_holds hr9 rfl rfl (R2 (K0 (cN q (fun q=>?_) (fun q=>?_)))))))
   ·refine gY ?_
    obtain ⟨r10,hr10,q⟩ := bE q
    refine OL (AI f59_in (cV (cQ C59 (b.1,b.2) r10 [] false C59_holds hr10 rfl rfl (R2 (K0 (gY (cF ?_)))))))
    cases sE q
    refine E4 I3 (R2 (AI (R4 TV) (R3 TV)))
   refine gN (gN (cT ?_))
   cases sE q
   refine E4 I3 (R2 (AI (R4 TV) (R3 TV)))
  refine AI (cI q (fun q=>?_) (fun q=>?_)) TV
  ·refine OL (OL ?_)
   cases sE q
   refine E4 [(0,some 2)] (R2 (AJ (AI rfl TV)))
  cases sE q
  refine E4 I3 (AI rfl (AI (R4 TV) (R3 TV)))
 rcases z5 with z5a | z5b
 ·dsimp only [sumF] at q
  refine AI (OL ?_) TV
  obtain ⟨r11,hr11,q⟩ := bE q
  refine OL (AI f209_in (cV (cQ C209 (a.1,b.1) r11 [] false C209_holds hr11 rfl rfl (R2 (K0 (OL (OL (cI q (fun q=>?_) (fun q=>?_)))))))))
  ·refine OL (OL ?_)
   cases sE q
   refine AI rfl (E4 [(0,none),(1,none)] (R2 (AJ (R2 TV))))
  refine OL ?_
  obtain ⟨r12,hr12,q⟩ := bE q
  refine OL (AI f68_in (cV (cQ C68 (r11.2,(0:Int)) r12 [] true C68_holds hr12 rfl rfl (R2 (AI (fun _=>rfl) (R2 (AI TV (AI TV (OL (OL (EI (.take 0 (.take 1 (.take 2 (.take 4 (.take 5 (.take 6 (.alt 3 (.alt 7 (.take 8 (.take 9 .done)) .done) .done))))))) (EI [] (EI [] (AI rfl (AI TV ?_)))))))))))))))
  obtain ⟨q7_3,hq7_3,q⟩ := bE q
  refine OL (AI f210_in (cV (cQ C210 (a.1,r11.2) q7_3 [] true C210_holds hq7_3 rfl rfl (R2 (AI (fun _=>rfl) (R2 (AI TV (AI TV (AI TV ?_)))))))))
  obtain ⟨q7_7,hq7_7,q⟩ := bE q
  refine OL (AI f210_in (cV (cQ C210 (b.1,r11.2) q7_7 [] true C210_holds hq7_7 rfl rfl (R2 (AI (fun _=>rfl) (R2 (AI TV (AI TV (OL (OL ?_))))))))))
  obtain ⟨z13,hz13,q⟩ := bE q
  refine lI (Int×LI) LI (fun x=>⟨[(2,.raw false [(.c (.func (.func 143) #[] #[]))]),(3,P0 0 0),(4,P0 1 0),(6,P0 2 0),(10,P0 3 0),(12,O0 4),(13,O0 5),(51,.dat T2 (List.length r12.2.2:Int)),(52,.dat T2 x.1)],[(0,.cells [(.d T1 a.1),(.d T1 a.2)]),(1,.cells [(.d T1 b.1),(.d T1 b.2)]),(2,.cells [N0,N0]),(3,.cells [(.osl 6),(.osl 7)]),(4,.arr 3 T2 q7_3),(5,.arr 3 T2 q7_7),(6,.arr 3 T2 r12.2.1),(7,.arr 40 T2 x.2)],8⟩) (fun z=>[(2,⟨[(6,P0 0 0),(10,P0 1 0)],[(0,.cells [N0,N0]),(1,.cells [(.osl 2),(.osl 3)]),(2,.arr 3 T2 r12.2.1),(3,.arr 40 T2 z)],4⟩)]) (loopF (fun go x=>f176_143_l4 a b r12 q7_3 q7_7 go x.1 x.2)) fuelN ((0:Int),r12.2.2) z13 (AI hz13 (AI (E4 [(0,some 0),(1,some 1),(2,some 2),(3,some 6),(4,some 7),(5,some 8),(6,some 4),(7,some 5)] (R3 (AI (R7 TV) (R8 TV)))) (AI (fun _ _ h=>lZ h) (AI (fun m=>curI (fun v52=>fun l7 z q=>?_)) ?_))))
  ·have q : f176_143_l4 a b r12 q7_3 q7_7 (loopF (fun go x=>f176_143_l4 a b r12 q7_3 q7_7 go x.1 x.2) m) v52 l7 = some z := q
   unfold f176_143_l4 at q
   refine OL (OL (cI q (fun q=>?_) (fun q=>?_)))
   ·refine OL (OL (EI (.take 0 (.take 1 (.take 2 (.take 3 (.take 4 (.take 5 (.take 6 (.take 7 (.take 8 (.take 9 (.take 10 (.take 11 (.take 12 (.take 13 (.take 14 (.take 15 (.take 16 (.take 17 (.take 18 (.take 19 (.alt 20 (.take 21 (.alt 22 .done .done)) .done))))))))))))))))))))) (EI [] (EI [] (AI rfl (gI q (fun q=>?_)))))))
    refine gI q (fun q=>?_)
    refine gI q (fun q=>?_)
    refine gI q (fun q=>?_)
    refine AI TV ?_
    obtain ⟨q11_20,hq11_20,q⟩ := bE q
    refine OL (AI f143_in (cV (cQ C143 ((rd (0:Int) a.2 (rd (0:Int) q7_3 v52)),(rd (0:Int) b.2 (rd (0:Int) q7_7 v52))) q11_20 [] false C143_holds hq11_20 rfl rfl (R2 (K0 (gI q (fun q=>?_)))))))
    refine AI TV (OL (EI ((i64.wrap (v52 + (1:Int))),(List.set l7 (Int.toNat v52) q11_20)) (AI q (E4 I8 (R3 (AI (R7 TV) (R8 TV)))))))
   cases sE q
   refine E4 [(0,some 2),(1,some 3),(2,some 6),(3,some 7)] (AI rfl (AI (R2 TV) (R4 TV)))
  refine AI (OL (OL ?_)) TV
  cases sE q
  refine AI rfl (E4 [(0,some 2),(1,some 3)] (R2 (AJ (R2 TV))))
 dsimp only [sumF] at q
 refine AI ?_ TV
 cases sE q
 refine AI rfl (E4 [(0,none),(1,none)] (R2 (AJ (R2 TV))))
theorem C176_143_holds : HP C176_143 176 := hH Tryz.f176 (by kernel_rfl) rfl (fun x y q=>C176_143_vc x.1 x.2 y q)
theorem f176_143_in : ∃ fn,Tryz.prog.funcs[176]? = some fn ∧ fn.body.isSome = true ∧ (fn.name == "runtime.NumGoroutine") = false := ⟨Tryz.f176,by kernel_rfl,by kernel_rfl,by kernel_rfl⟩
def f113 (a : LI×LI) (b : LI×LI) : Option (Int×LI×LI) :=
 bindF (f176_143 (a.1,a.2) (b.1,b.2)) fun r1 =>
 some (r1.1,r1.2.1,r1.2.2)
def C113 : Con where
 X := (LI×LI)×(LI×LI)
 Y := Int×LI×LI
 e := 0
 args x := [.dat T3 x.1,.dat T3 x.2]
 hin x := []
 F x := f113 x.1 x.2
 ret y := [.raw true [(.osl 0),(.osl 1)],.dat T2 y.1]
 hout y := [(0,.arr 3 T2 y.2.1),(1,.arr 40 T2 y.2.2)]
 nout := 2
theorem C113_vc (a : LI×LI) (b : LI×LI) (y : Int×LI×LI) (q : f113 a b = some y) : VC Tryz.f113 C113 (a,b) y := by
 unfold f113 at q
 refine OL (OL ?_)
 obtain ⟨r1,hr1,q⟩ := bE q
 refine OL (AI f176_143_in (cV (cQ C176_143 ((a.1,a.2),(b.1,b.2)) r1 [] false C176_143_holds hr1 rfl rfl (R4 (AI NH (R2 (AJ (AI TV (OL ?_)))))))))
 cases sE q
 refine AI rfl (E4 [(0,some 3),(1,some 4)] (R2 (AJ (R2 TV))))
theorem C113_holds : HP C113 113 := hH Tryz.f113 (by kernel_rfl) rfl (fun x y q=>C113_vc x.1 x.2 y q)
theorem f113_in : InP 113 := inP (by kernel_rfl)
def f146_j1 (a:Int) (b:Int) : Option (Sum Unit Unit) :=
 bif ((decide (a < (0:Int))) == (decide (b < (0:Int)))) then
 some (Sum.inr ())
 else
 bif ((decide ((i64.wrap (a - b)) < (0:Int))) == (decide (a < (0:Int)))) then
 some (Sum.inr ())
 else
 some (Sum.inl ())
def f146 (a:Int) (b:Int) : Option Int :=
 bindF (f146_j1 a b) fun z1 =>
 sumF z1 (fun z1a =>
 bif (decide (a < (0:Int))) then
 some (-9223372036854775808:Int)
 else
 some (9223372036854775807:Int)) (fun z1b =>
 some (i64.wrap (a - b)))
def C146 : Con where
 X := Int×Int
 Y := Int
 e := 0
 args x := [.dat T2 x.1,.dat T2 x.2]
 hin x := []
 F x := f146 x.1 x.2
 ret y := [.dat T2 y]
 hout y := []
 nout := 0
theorem C146_vc (a:Int) (b:Int) (y:Int) (q : f146 a b = some y) : VC Tryz.f146 C146 (a,b) y := by
 unfold f146 at q
 refine OL (OL ?_)
 obtain ⟨z1,hz1,q⟩ := bE q
 refine OQ ⟨Sum.elim (fun z1a=>[(0,⟨[(0,.dat T2 a)],[],0⟩)]) (fun z1b=>[(1,⟨[(4,.dat T2 (i64.wrap (a - b)))],[],0⟩)]) z1,?_,?_⟩
 ·have q := hz1
  clear hz1
  unfold f146_j1 at q
  refine OL (cN q (fun q=>?_) (fun q=>?_))
  ·refine gY (gY (gY (gY (cF (cI q (fun q=>?_) (fun q=>?_))))))
   ·cases sE q
    refine OL (E4 [] (R2 (AI TV TV)))
   cases sE q
   refine E4 [] (R2 (AI TV TV))
  refine gN (gN (gN (gN (cT (cT (OL ?_))))))
  cases sE q
  refine E4 [] (R2 (AI TV TV))
 rcases z1 with z1a | z1b
 ·dsimp only [sumF] at q
  refine AI (OL (OL (cI q (fun q=>?_) (fun q=>?_)))) TV
  ·cases sE q
   refine OL (AI rfl (E4 [] (R2 (AI TV TV))))
  cases sE q
  refine OL (AI rfl (E4 [] (R2 (AI TV TV))))
 dsimp only [sumF] at q
 refine AI ?_ TV
 cases sE q
 refine AI rfl (E4 [] (R2 (AI TV TV)))
theorem C146_holds : HP C146 146 := hH Tryz.f146 (by kernel_rfl) rfl (fun x y q=>C146_vc x.1 x.2 y q)
theorem f146_in : InP 146 := inP (by kernel_rfl)
def f176_146_j3 (a : LI×LI) (b : LI×LI) : Option Bool :=
 bindF (f59 (a.1,a.2)) fun r9 =>
 bif (!r9) then
 some true
 else
 bindF (f59 (b.1,b.2)) fun r10 =>
 some (!r10)
def f176_146_j2 (a : LI×LI) (b : LI×LI) : Option (Sum Unit Unit) :=
 bindF (f176_146_j3 a b) fun z8 =>
 bif z8 then
 some (Sum.inr ())
 else
 some (Sum.inl ())
def f176_146_l4 (a : LI×LI) (b : LI×LI) (r12 : Int×LI×LI) (q7_3 : LI) (q7_7 : LI) (go : (Int×LI) → Option LI) (v52:Int) (l7 : LI) : Option LI :=
 bif (decide (v52 < (List.length r12.2.2:Int))) then
 guardF (0 ≤ v52 ∧ v52 < (List.length q7_3:Int)) <|
 guardF (0 ≤ (rd (0:Int) q7_3 v52) ∧ (rd (0:Int) q7_3 v52) < (List.length a.2:Int)) <|
 guardF (0 ≤ v52 ∧ v52 < (List.length q7_7:Int)) <|
 guardF (0 ≤ (rd (0:Int) q7_7 v52) ∧ (rd (0:Int) q7_7 v52) < (List.length b.2:Int)) <|
 bindF (f146 (rd (0:Int) a.2 (rd (0:Int) q7_3 v52)) (rd (0:Int) b.2 (rd (0:Int) q7_7 v52))) fun q11_20 =>
 guardF (0 ≤ v52 ∧ v52 < (List.length l7:Int)) <|
 go ((i64.wrap (v52 + (1:Int))),(List.set l7 (Int.toNat v52) q11_20))
 else
 some l7
def f176_146 (a : LI×LI) (b : LI×LI) : Option (Int×LI×LI) :=
 bindF (f176_146_j2 a b) fun z5 =>
 sumF z5 (fun z5a =>
 bindF (f209 a.1 b.1) fun r11 =>
 bif (r11.1 != (0:Int)) then
 some (r11.1,[],[])
 else
 bindF (f68 r11.2 (0:Int)) fun r12 =>
 bindF (f210 a.1 r11.2) fun q7_3 =>
 bindF (f210 b.1 r11.2) fun q7_7 =>
 bindF (loopF (fun go x=>f176_146_l4 a b r12 q7_3 q7_7 go x.1 x.2) fuelN ((0:Int),r12.2.2)) fun z13 =>
 some ((0:Int),r12.2.1,z13)) (fun z5b =>
 some ((1:Int),[],[]))
def C176_146 : Con where
 X := (LI×LI)×(LI×LI)
 Y := Int×LI×LI
 e := 0
 args x := [.dat T3 x.1,.dat T3 x.2,.raw false [(.c (.func (.func 146) #[] #[]))]]
 hin x := []
 F x := f176_146 x.1 x.2
 ret y := [.raw true [(.osl 0),(.osl 1)],.dat T2 y.1]
 hout y := [(0,.arr 3 T2 y.2.1),(1,.arr 40 T2 y.2.2)]
 nout := 2
theorem C176_146_vc (a : LI×LI) (b : LI×LI) (y : Int×LI×LI) (q : f176_146 a b = some y) : VC Tryz.f176 C176_146 (a,b) y := by
 unfold f176_146 at q
 refine OL ?_
 obtain ⟨z5,hz5,q⟩ := bE q
 refine OQ ⟨Sum.elim (fun z5a=>[(0,⟨[(2,.raw false [(.c (.func (.func 146) #[] #[]))]),(3,P0 0 0),(4,P0 1 0),(6,P0 2 0)],[(0,.cells [(.d T1 a.1),(.d T1 a.2)]),(1,.cells [(.d T1 b.1),(.d T1 b.2)]),(2,.cells [N0,N0])],3⟩)]) (fun z5b=>[(1,⟨[(6,P0 0 0),(7,D0 1)],[(0,.cells [N0,N0])],1⟩)]) z5,?_,?_⟩
 ·have q := hz5
  clear hz5
  unfold f176_146_j2 at q
  obtain ⟨z8,hz8,q⟩ := bE q
  refine OQ ⟨[(0,⟨[(2,.raw false [(.c (.func (.func 146) #[] #[]))]),(3,P0 0 0),(4,P0 1 0),(6,P0 2 0),(22,.dat .bool z8)],[(0,.cells [(.d T1 a.1),(.d T1 a.2)]),(1,.cells [(.d T1 b.1),(.d T1 b.2)]),(2,.cells [N0,N0])],3⟩)],?_,?_⟩
  ·have q := hz8
   clear hz8
   unfold f176_146_j3 at q
   obtain ⟨r9,hr9,q⟩ := bE q
   refine OL (AI f59_in (cV (cQ C59 (a.1,a.2) r9 [] false C59_holds hr9 rfl rfl (R2 (K0 (cN q (fun q=>?_) (fun q=>?_)))))))
   ·refine gY ?_
    obtain ⟨r10,hr10,q⟩ := bE q
    refine OL (AI f59_in (cV (cQ C59 (b.1,b.2) r10 [] false C59_holds hr10 rfl rfl (R2 (K0 (gY (cF ?_)))))))
    cases sE q
    refine E4 I3 (R2 (AI (R4 TV) (R3 TV)))
   refine gN (gN (cT ?_))
   cases sE q
   refine E4 I3 (R2 (AI (R4 TV) (R3 TV)))
  refine AI (cI q (fun q=>?_) (fun q=>?_)) TV
  ·refine OL (OL ?_)
   cases sE q
   refine E4 [(0,some 2)] (R2 (AJ (AI rfl TV)))
  cases sE q
  refine E4 I3 (AI rfl (AI (R4 TV) (R3 TV)))
 rcases z5 with z5a | z5b
 ·dsimp only [sumF] at q
  refine AI (OL ?_) TV
  obtain ⟨r11,hr11,q⟩ := bE q
  refine OL (AI f209_in (cV (cQ C209 (a.1,b.1) r11 [] false C209_holds hr11 rfl rfl (R2 (K0 (OL (OL (cI q (fun q=>?_) (fun q=>?_)))))))))
  ·refine OL (OL ?_)
   cases sE q
   refine AI rfl (E4 [(0,none),(1,none)] (R2 (AJ (R2 TV))))
  refine OL ?_
  obtain ⟨r12,hr12,q⟩ := bE q
  refine OL (AI f68_in (cV (cQ C68 (r11.2,(0:Int)) r12 [] true C68_holds hr12 rfl rfl (R2 (AI (fun _=>rfl) (R2 (AI TV (AI TV (OL (OL (EI (.take 0 (.take 1 (.take 2 (.take 4 (.take 5 (.take 6 (.alt 3 (.alt 7 (.take 8 (.take 9 .done)) .done) .done))))))) (EI [] (EI [] (AI rfl (AI TV ?_)))))))))))))))
  obtain ⟨q7_3,hq7_3,q⟩ := bE q
  refine OL (AI f210_in (cV (cQ C210 (a.1,r11.2) q7_3 [] true C210_holds hq7_3 rfl rfl (R2 (AI (fun _=>rfl) (R2 (AI TV (AI TV (AI TV ?_)))))))))
  obtain ⟨q7_7,hq7_7,q⟩ := bE q
  refine OL (AI f210_in (cV (cQ C210 (b.1,r11.2) q7_7 [] true C210_holds hq7_7 rfl rfl (R2 (AI (fun _=>rfl) (R2 (AI TV (AI TV (OL (OL ?_))))))))))
  obtain ⟨z13,hz13,q⟩ := bE q
  refine lI (Int×LI) LI (fun x=>⟨[(2,.raw false [(.c (.func (.func 146) #[] #[]))]),(3,P0 0 0),(4,P0 1 0),(6,P0 2 0),(10,P0 3 0),(12,O0 4),(13,O0 5),(51,.dat T2 (List.length r12.2.2:Int)),(52,.dat T2 x.1)],[(0,.cells [(.d T1 a.1),(.d T1 a.2)]),(1,.cells [(.d T1 b.1),(.d T1 b.2)]),(2,.cells [N0,N0]),(3,.cells [(.osl 6),(.osl 7)]),(4,.arr 3 T2 q7_3),(5,.arr 3 T2 q7_7),(6,.arr 3 T2 r12.2.1),(7,.arr 40 T2 x.2)],8⟩) (fun z=>[(2,⟨[(6,P0 0 0),(10,P0 1 0)],[(0,.cells [N0,N0]),(1,.cells [(.osl 2),(.osl 3)]),(2,.arr 3 T2 r12.2.1),(3,.arr 40 T2 z)],4⟩)]) (loopF (fun go x=>f176_146_l4 a b r12 q7_3 q7_7 go x.1 x.2)) fuelN ((0:Int),r12.2.2) z13 (AI hz13 (AI (E4 [(0,some 0),(1,some 1),(2,some 2),(3,some 6),(4,some 7),(5,some 8),(6,some 4),(7,some 5)] (R3 (AI (R7 TV) (R8 TV)))) (AI (fun _ _ h=>lZ h) (AI (fun m=>curI (fun v52=>fun l7 z q=>?_)) ?_))))
  ·have q : f176_146_l4 a b r12 q7_3 q7_7 (loopF (fun go x=>f176_146_l4 a b r12 q7_3 q7_7 go x.1 x.2) m) v52 l7 = some z := q
   unfold f176_146_l4 at q
   refine OL (OL (cI q (fun q=>?_) (fun q=>?_)))
   ·refine OL (OL (EI (.take 0 (.take 1 (.take 2 (.take 3 (.take 4 (.take 5 (.take 6 (.take 7 (.take 8 (.take 9 (.take 10 (.take 11 (.take 12 (.take 13 (.take 14 (.take 15 (.take 16 (.take 17 (.take 18 (.take 19 (.alt 20 (.take 21 (.alt 22 .done .done)) .done))))))))))))))))))))) (EI [] (EI [] (AI rfl (gI q (fun q=>?_)))))))
    refine gI q (fun q=>?_)
    refine gI q (fun q=>?_)
    refine gI q (fun q=>?_)
    refine AI TV ?_
    obtain ⟨q11_20,hq11_20,q⟩ := bE q
    refine OL (AI f146_in (cV (cQ C146 ((rd (0:Int) a.2 (rd (0:Int) q7_3 v52)),(rd (0:Int) b.2 (rd (0:Int) q7_7 v52))) q11_20 [] false C146_holds hq11_20 rfl rfl (R2 (K0 (gI q (fun q=>?_)))))))
    refine AI TV (OL (EI ((i64.wrap (v52 + (1:Int))),(List.set l7 (Int.toNat v52) q11_20)) (AI q (E4 I8 (R3 (AI (R7 TV) (R8 TV)))))))
   cases sE q
   refine E4 [(0,some 2),(1,some 3),(2,some 6),(3,some 7)] (AI rfl (AI (R2 TV) (R4 TV)))
  refine AI (OL (OL ?_)) TV
  cases sE q
  refine AI rfl (E4 [(0,some 2),(1,some 3)] (R2 (AJ (R2 TV))))
 dsimp only [sumF] at q
 refine AI ?_ TV
 cases sE q
 refine AI rfl (E4 [(0,none),(1,none)] (R2 (AJ (R2 TV))))
theorem C176_146_holds : HP C176_146 176 := hH Tryz.f176 (by kernel_rfl) rfl (fun x y q=>C176_146_vc x.1 x.2 y q)
theorem f176_146_in : ∃ fn,Tryz.prog.funcs[176]? = some fn ∧ fn.body.isSome = true ∧ (fn.name == "runtime.NumGoroutine") = false := ⟨Tryz.f176,by kernel_rfl,by kernel_rfl,by kernel_rfl⟩
def f198 (a : LI×LI) (b : LI×LI) : Option (Int×LI×LI) :=
 bindF (f176_146 (a.1,a.2) (b.1,b.2)) fun r1 =>
 some (r1.1,r1.2.1,r1.2.2)
def C198 : Con where
 X := (LI×LI)×(LI×LI)
 Y := Int×LI×LI
 e := 0
 args x := [.dat T3 x.1,.dat T3 x.2]
 hin x := []
 F x := f198 x.1 x.2
 ret y := [.raw true [(.osl 0),(.osl 1)],.dat T2 y.1]
 hout y := [(0,.arr 3 T2 y.2.1),(1,.arr 40 T2 y.2.2)]
 nout := 2
theorem C198_vc (a : LI×LI) (b : LI×LI) (y : Int×LI×LI) (q : f198 a b = some y) : VC Tryz.f198 C198 (a,b) y := by
 unfold f198 at q
 refine OL (OL ?_)
 obtain ⟨r1,hr1,q⟩ := bE q
 refine OL (AI f176_146_in (cV (cQ C176_146 ((a.1,a.2),(b.1,b.2)) r1 [] false C176_146_holds hr1 rfl rfl (R4 (AI NH (R2 (AJ (AI TV (OL ?_)))))))))
 cases sE q
 refine AI rfl (E4 [(0,some 3),(1,some 4)] (R2 (AJ (R2 TV))))
theorem C198_holds : HP C198 198 := hH Tryz.f198 (by kernel_rfl) rfl (fun x y q=>C198_vc x.1 x.2 y q)
theorem f198_in : InP 198 := inP (by kernel_rfl)
def f194 (v:Int) : Option Int :=
 bif (decide (v < (0:Int))) then
 some (u64.wrap (0 - (u64.wrap v)))
 else
 some (u64.wrap v)
def C194 : Con where
 X := Int
 Y := Int
 e := 0
 args x := [.dat T2 x]
 hin x := []
 F x := f194 x
 ret y := [.dat T4 y]
 hout y := []
 nout := 0
theorem C194_vc (v:Int) (y:Int) (q : f194 v = some y) : VC Tryz.f194 C194 v y := by
 unfold f194 at q
 refine OL (OL (OL (cI q (fun q=>?_) (fun q=>?_))))
 ·cases sE q
  refine OL (AI rfl (E4 [] (R2 (AI TV TV))))
 cases sE q
 refine OL (AI rfl (E4 [] (R2 (AI TV TV))))
theorem C194_holds : HP C194 194 := hH Tryz.f194 (by kernel_rfl) rfl (fun x y q=>C194_vc x y q)
theorem f194_in : InP 194 := inP (by kernel_rfl)
def f195_j1 (hi:Int) (lo:Int) (below : Bool) : Option Bool :=
 bif below then
 bif (decide (hi > (0:Int))) then
 some true
 else
 some (decide (lo ≥ (9223372036854775808:Int)))
 else
 some false
def f195 (hi:Int) (lo:Int) (below : Bool) : Option Int :=
 bindF (f195_j1 hi lo below) fun z1 =>
 bif z1 then
 some (-9223372036854775808:Int)
 else
 bif below then
 some (i64.wrap (0 - (i64.wrap lo)))
 else
 bif (decide (hi > (0:Int))) then
 some (9223372036854775807:Int)
 else
 bif (decide (lo ≥ (9223372036854775808:Int))) then
 some (9223372036854775807:Int)
 else
 some (i64.wrap lo)
def C195 : Con where
 X := Int×Int×Bool
 Y := Int
 e := 0
 args x := [.dat T4 x.1,.dat T4 x.2.1,.dat .bool x.2.2]
 hin x := []
 F x := f195 x.1 x.2.1 x.2.2
 ret y := [.dat T2 y]
 hout y := []
 nout := 0
theorem C195_vc (hi:Int) (lo:Int) (below : Bool) (y:Int) (q : f195 hi lo below = some y) : VC Tryz.f195 C195 (hi,lo,below) y := by
 unfold f195 at q
 refine OL (OL ?_)
 obtain ⟨z1,hz1,q⟩ := bE q
 refine OQ ⟨[(0,⟨[(0,.dat T4 hi),(1,.dat T4 lo),(2,.dat .bool below),(7,.dat .bool z1)],[],0⟩)],?_,?_⟩
 ·have q := hz1
  clear hz1
  unfold f195_j1 at q
  refine cI q (fun q=>?_) (fun q=>?_)
  ·refine gX (gX (cN q (fun q=>?_) (fun q=>?_)))
   ·refine gY (gX (cF (cT ?_)))
    cases sE q
    refine E4 [] (R5 (AI TV TV))
   refine gN (gX (cT (cT ?_)))
   cases sE q
   refine E4 [] (R5 (AI TV TV))
  refine gM (gM (gM (cF ?_)))
  cases sE q
  refine E4 [] (R5 (AI TV TV))
 refine AI (cI q (fun q=>?_) (fun q=>?_)) TV
 ·cases sE q
  refine OL (AI rfl (E4 [] (R2 (AI TV TV))))
 refine OL (cI q (fun q=>?_) (fun q=>?_))
 ·cases sE q
  refine OL (AI rfl (E4 [] (R2 (AI TV TV))))
 refine OL (cN q (fun q=>?_) (fun q=>?_))
 ·refine gY (cF (cI q (fun q=>?_) (fun q=>?_)))
  ·cases sE q
   refine OL (AI rfl (E4 [] (R2 (AI TV TV))))
  cases sE q
  refine OL (AI rfl (E4 [] (R2 (AI TV TV))))
 refine gN (cT (cT (OL ?_)))
 cases sE q
 refine AI rfl (E4 [] (R2 (AI TV TV)))
theorem C195_holds : HP C195 195 := hH Tryz.f195 (by kernel_rfl) rfl (fun x y q=>C195_vc x.1 x.2.1 x.2.2 y q)
theorem f195_in : InP 195 := inP (by kernel_rfl)
def f144_j3 (r3 : Int×Int) : Option Bool :=
 bif (decide ((bitsOf IntKind.u64 (fun p q=>p &&& q) r3.2 (4294967295:Int)) > (2147483648:Int))) then
 some true
 else
 bif ((bitsOf IntKind.u64 (fun p q=>p &&& q) r3.2 (4294967295:Int)) == (2147483648:Int)) then
 some ((bitsOf IntKind.u64 (fun p q=>p &&& q) (bitsOf IntKind.u64 (fun p q=>p ||| q) (u64.wrap (r3.1 * 2 ^ min (Int.toNat (32:Int)) u64.bits)) (Int.fdiv r3.2 (2 ^ min (Int.toNat (32:Int)) u64.bits))) (1:Int)) == (1:Int))
 else
 some false
def f144_j2 (r3 : Int×Int) : Option (Int×Int) :=
 bindF (f144_j3 r3) fun z7 =>
 bif z7 then
 bindF (add64 (bitsOf IntKind.u64 (fun p q=>p ||| q) (u64.wrap (r3.1 * 2 ^ min (Int.toNat (32:Int)) u64.bits)) (Int.fdiv r3.2 (2 ^ min (Int.toNat (32:Int)) u64.bits))) (1:Int) (0:Int)) fun r8 =>
 some (r8.1,(u64.wrap ((Int.fdiv r3.1 (2 ^ min (Int.toNat (32:Int)) u64.bits)) + r8.2)))
 else
 some ((bitsOf IntKind.u64 (fun p q=>p ||| q) (u64.wrap (r3.1 * 2 ^ min (Int.toNat (32:Int)) u64.bits)) (Int.fdiv r3.2 (2 ^ min (Int.toNat (32:Int)) u64.bits))),(Int.fdiv r3.1 (2 ^ min (Int.toNat (32:Int)) u64.bits)))
def f144 (a:Int) (b:Int) : Option Int :=
 bindF (f194 a) fun r1 =>
 bindF (f194 b) fun r2 =>
 bindF (f154 r1 r2) fun r3 =>
 bindF (f144_j2 r3) fun z6 =>
 bindF (f195 z6.2 z6.1 (!((decide (a < (0:Int))) == (decide (b < (0:Int)))))) fun r9 =>
 some r9
def C144 : Con where
 X := Int×Int
 Y := Int
 e := 0
 args x := [.dat T2 x.1,.dat T2 x.2]
 hin x := []
 F x := f144 x.1 x.2
 ret y := [.dat T2 y]
 hout y := []
 nout := 0
theorem C144_vc (a:Int) (b:Int) (y:Int) (q : f144 a b = some y) : VC Tryz.f144 C144 (a,b) y := by
 unfold f144 at q
 refine OL (OL ?_)
 obtain ⟨r1,hr1,q⟩ := bE q
 refine OL (AI f194_in (cV (cQ C194 a r1 [] false C194_holds hr1 rfl rfl (AI rfl (K0 ?_)))))
 obtain ⟨r2,hr2,q⟩ := bE q
 refine OL (AI f194_in (cV (cQ C194 b r2 [] false C194_holds hr2 rfl rfl (AI rfl (K0 ?_)))))
 obtain ⟨r3,hr3,q⟩ := bE q
 refine OL (AI f154_in (cV (cQ C154 (r1,r2) r3 [] false C154_holds hr3 rfl rfl (R2 (K0 (OL (OL (AI (by decide) (AI (by decide) (OL (AI (by decide) ?_)))))))))))
 obtain ⟨z6,hz6,q⟩ := bE q
 refine OQ ⟨[(0,⟨[(0,.dat T2 a),(1,.dat T2 b),(8,.dat T4 z6.1),(9,.dat T4 z6.2)],[],0⟩)],?_,?_⟩
 ·have q := hz6
  clear hz6
  unfold f144_j2 at q
  obtain ⟨z7,hz7,q⟩ := bE q
  refine OQ ⟨[(0,⟨[(0,.dat T2 a),(1,.dat T2 b),(8,.dat T4 (bitsOf IntKind.u64 (fun p q=>p ||| q) (u64.wrap (r3.1 * 2 ^ min (Int.toNat (32:Int)) u64.bits)) (Int.fdiv r3.2 (2 ^ min (Int.toNat (32:Int)) u64.bits)))),(9,.dat T4 (Int.fdiv r3.1 (2 ^ min (Int.toNat (32:Int)) u64.bits))),(38,.dat .bool z7)],[],0⟩)],?_,?_⟩
  ·have q := hz7
   clear hz7
   unfold f144_j3 at q
   refine cN q (fun q=>?_) (fun q=>?_)
   ·refine gY (gY (cI q (fun q=>?_) (fun q=>?_)))
    ·refine gX (gX (gY (cT (cF ?_))))
     cases sE q
     refine E4 [] (R6 (AI TV TV))
    refine gM (gM (gY (cF (cF ?_))))
    cases sE q
    refine E4 [] (R6 (AI TV TV))
   refine gN (gN (gN (cT ?_)))
   cases sE q
   refine E4 [] (R6 (AI TV TV))
  refine AI (cI q (fun q=>?_) (fun q=>?_)) TV
  ·refine OL (OL ?_)
   obtain ⟨r8,hr8,q⟩ := bE q
   refine OQ ⟨ext3 add64,[r8.1,r8.2],add64_ok,AI (ext3I hr8) ?_⟩
   cases sE q
   refine E4 [] (R5 (AI TV TV))
  cases sE q
  refine E4 [] (R5 (AI TV TV))
 refine AI (OL ?_) TV
 obtain ⟨r9,hr9,q⟩ := bE q
 refine OL (AI f195_in (cV (cQ C195 (z6.2,z6.1,(!((decide (a < (0:Int))) == (decide (b < (0:Int)))))) r9 [] false C195_holds hr9 rfl rfl (R3 (K0 ?_)))))
 cases sE q
 refine AI rfl (E4 [] (R2 (AI TV TV)))
theorem C144_holds : HP C144 144 := hH Tryz.f144 (by kernel_rfl) rfl (fun x y q=>C144_vc x.1 x.2 y q)
theorem f144_in : InP 144 := inP (by kernel_rfl)
def f176_144_j3 (a : LI×LI) (b : LI×LI) : Option Bool :=
 bindF (f59 (a.1,a.2)) fun r9 =>
 bif (!r9) then
 some true
 else
 bindF (f59 (b.1,b.2)) fun r10 =>
 some (!r10)
def f176_144_j2 (a : LI×LI) (b : LI×LI) : Option (Sum Unit Unit) :=
 bindF (f176_144_j3 a b) fun z8 =>
 bif z8 then
 some (Sum.inr ())
 else
 some (Sum.inl ())
def f176_144_l4 (a : LI×LI) (b : LI×LI) (r12 : Int×LI×LI) (q7_3 : LI) (q7_7 : LI) (go : (Int×LI) → Option LI) (v52:Int) (l7 : LI) : Option LI :=
 bif (decide (v52 < (List.length r12.2.2:Int))) then
 guardF (0 ≤ v52 ∧ v52 < (List.length q7_3:Int)) <|
 guardF (0 ≤ (rd (0:Int) q7_3 v52) ∧ (rd (0:Int) q7_3 v52) < (List.length a.2:Int)) <|
 guardF (0 ≤ v52 ∧ v52 < (List.length q7_7:Int)) <|
 guardF (0 ≤ (rd (0:Int) q7_7 v52) ∧ (rd (0:Int) q7_7 v52) < (List.length b.2:Int)) <|
 bindF (f144 (rd (0:Int) a.2 (rd (0:Int) q7_3 v52)) (rd (0:Int) b.2 (rd (0:Int) q7_7 v52))) fun q11_20 =>
 guardF (0 ≤ v52 ∧ v52 < (List.length l7:Int)) <|
 go ((i64.wrap (v52 + (1:Int))),(List.set l7 (Int.toNat v52) q11_20))
 else
 some l7
def f176_144 (a : LI×LI) (b : LI×LI) : Option (Int×LI×LI) :=
 bindF (f176_144_j2 a b) fun z5 =>
 sumF z5 (fun z5a =>
 bindF (f209 a.1 b.1) fun r11 =>
 bif (r11.1 != (0:Int)) then
 some (r11.1,[],[])
 else
 bindF (f68 r11.2 (0:Int)) fun r12 =>
 bindF (f210 a.1 r11.2) fun q7_3 =>
 bindF (f210 b.1 r11.2) fun q7_7 =>
 bindF (loopF (fun go x=>f176_144_l4 a b r12 q7_3 q7_7 go x.1 x.2) fuelN ((0:Int),r12.2.2)) fun z13 =>
 some ((0:Int),r12.2.1,z13)) (fun z5b =>
 some ((1:Int),[],[]))
def C176_144 : Con where
 X := (LI×LI)×(LI×LI)
 Y := Int×LI×LI
 e := 0
 args x := [.dat T3 x.1,.dat T3 x.2,.raw false [(.c (.func (.func 144) #[] #[]))]]
 hin x := []
 F x := f176_144 x.1 x.2
 ret y := [.raw true [(.osl 0),(.osl 1)],.dat T2 y.1]
 hout y := [(0,.arr 3 T2 y.2.1),(1,.arr 40 T2 y.2.2)]
 nout := 2
theorem C176_144_vc (a : LI×LI) (b : LI×LI) (y : Int×LI×LI) (q : f176_144 a b = some y) : VC Tryz.f176 C176_144 (a,b) y := by
 unfold f176_144 at q
 refine OL ?_
 obtain ⟨z5,hz5,q⟩ := bE q
 refine OQ ⟨Sum.elim (fun z5a=>[(0,⟨[(2,.raw false [(.c (.func (.func 144) #[] #[]))]),(3,P0 0 0),(4,P0 1 0),(6,P0 2 0)],[(0,.cells [(.d T1 a.1),(.d T1 a.2)]),(1,.cells [(.d T1 b.1),(.d T1 b.2)]),(2,.cells [N0,N0])],3⟩)]) (fun z5b=>[(1,⟨[(6,P0 0 0),(7,D0 1)],[(0,.cells [N0,N0])],1⟩)]) z5,?_,?_⟩
 ·have q := hz5
  clear hz5
  unfold f176_144_j2 at q
  obtain ⟨z8,hz8,q⟩ := bE q
  refine OQ ⟨[(0,⟨[(2,.raw false [(.c (.func (.func 144) #[] #[]))]),(3,P0 0 0),(4,P0 1 0),(6,P0 2 0),(22,.dat .bool z8)],[(0,.cells [(.d T1 a.1),(.d T1 a.2)]),(1,.cells [(.d T1 b.1),(.d T1 b.2)]),(2,.cells [N0,N0])],3⟩)],?_,?_⟩
  ·have q := hz8
   clear hz8
   unfold f176_144_j3 at q
   obtain ⟨r9,hr9,q⟩ := bE q
   refine OL (AI f59_in (cV (cQ C59 (a.1,a.2) r9 [] false C59_holds hr9 rfl rfl (R2 (K0 (cN q (fun q=>?_) (fun q=>?_)))))))
   ·refine gY ?_
    obtain ⟨r10,hr10,q⟩ := bE q
    refine OL (AI f59_in (cV (cQ C59 (b.1,b.2) r10 [] false C59_holds hr10 rfl rfl (R2 (K0 (gY (cF ?_)))))))
    cases sE q
    refine E4 I3 (R2 (AI (R4 TV) (R3 TV)))
   refine gN (gN (cT ?_))
   cases sE q
   refine E4 I3 (R2 (AI (R4 TV) (R3 TV)))
  refine AI (cI q (fun q=>?_) (fun q=>?_)) TV
  ·refine OL (OL ?_)
   cases sE q
   refine E4 [(0,some 2)] (R2 (AJ (AI rfl TV)))
  cases sE q
  refine E4 I3 (AI rfl (AI (R4 TV) (R3 TV)))
 rcases z5 with z5a | z5b
 ·dsimp only [sumF] at q
  refine AI (OL ?_) TV
  obtain ⟨r11,hr11,q⟩ := bE q
  refine OL (AI f209_in (cV (cQ C209 (a.1,b.1) r11 [] false C209_holds hr11 rfl rfl (R2 (K0 (OL (OL (cI q (fun q=>?_) (fun q=>?_)))))))))
  ·refine OL (OL ?_)
   cases sE q
   refine AI rfl (E4 [(0,none),(1,none)] (R2 (AJ (R2 TV))))
  refine OL ?_
  obtain ⟨r12,hr12,q⟩ := bE q
  refine OL (AI f68_in (cV (cQ C68 (r11.2,(0:Int)) r12 [] true C68_holds hr12 rfl rfl (R2 (AI (fun _=>rfl) (R2 (AI TV (AI TV (OL (OL (EI (.take 0 (.take 1 (.take 2 (.take 4 (.take 5 (.take 6 (.alt 3 (.alt 7 (.take 8 (.take 9 .done)) .done) .done))))))) (EI [] (EI [] (AI rfl (AI TV ?_)))))))))))))))
  obtain ⟨q7_3,hq7_3,q⟩ := bE q
  refine OL (AI f210_in (cV (cQ C210 (a.1,r11.2) q7_3 [] true C210_holds hq7_3 rfl rfl (R2 (AI (fun _=>rfl) (R2 (AI TV (AI TV (AI TV ?_)))))))))
  obtain ⟨q7_7,hq7_7,q⟩ := bE q
  refine OL (AI f210_in (cV (cQ C210 (b.1,r11.2) q7_7 [] true C210_holds hq7_7 rfl rfl (R2 (AI (fun _=>rfl) (R2 (AI TV (AI TV (OL (OL ?_))))))))))
  obtain ⟨z13,hz13,q⟩ := bE q
  refine lI (Int×LI) LI (fun x=>⟨[(2,.raw false [(.c (.func (.func 144) #[] #[]))]),(3,P0 0 0),(4,P0 1 0),(6,P0 2 0),(10,P0 3 0),(12,O0 4),(13,O0 5),(51,.dat T2 (List.length r12.2.2:Int)),(52,.dat T2 x.1)],[(0,.cells [(.d T1 a.1),(.d T1 a.2)]),(1,.cells [(.d T1 b.1),(.d T1 b.2)]),(2,.cells [N0,N0]),(3,.cells [(.osl 6),(.osl 7)]),(4,.arr 3 T2 q7_3),(5,.arr 3 T2 q7_7),(6,.arr 3 T2 r12.2.1),(7,.arr 40 T2 x.2)],8⟩) (fun z=>[(2,⟨[(6,P0 0 0),(10,P0 1 0)],[(0,.cells [N0,N0]),(1,.cells [(.osl 2),(.osl 3)]),(2,.arr 3 T2 r12.2.1),(3,.arr 40 T2 z)],4⟩)]) (loopF (fun go x=>f176_144_l4 a b r12 q7_3 q7_7 go x.1 x.2)) fuelN ((0:Int),r12.2.2) z13 (AI hz13 (AI (E4 [(0,some 0),(1,some 1),(2,some 2),(3,some 6),(4,some 7),(5,some 8),(6,some 4),(7,some 5)] (R3 (AI (R7 TV) (R8 TV)))) (AI (fun _ _ h=>lZ h) (AI (fun m=>curI (fun v52=>fun l7 z q=>?_)) ?_))))
  ·have q : f176_144_l4 a b r12 q7_3 q7_7 (loopF (fun go x=>f176_144_l4 a b r12 q7_3 q7_7 go x.1 x.2) m) v52 l7 = some z := q
   unfold f176_144_l4 at q
   refine OL (OL (cI q (fun q=>?_) (fun q=>?_)))
   ·refine OL (OL (EI (.take 0 (.take 1 (.take 2 (.take 3 (.take 4 (.take 5 (.take 6 (.take 7 (.take 8 (.take 9 (.take 10 (.take 11 (.take 12 (.take 13 (.take 14 (.take 15 (.take 16 (.take 17 (.take 18 (.take 19 (.alt 20 (.take 21 (.alt 22 .done .done)) .done))))))))))))))))))))) (EI [] (EI [] (AI rfl (gI q (fun q=>?_)))))))
    refine gI q (fun q=>?_)
    refine gI q (fun q=>?_)
    refine gI q (fun q=>?_)
    refine AI TV ?_
    obtain ⟨q11_20,hq11_20,q⟩ := bE q
    refine OL (AI f144_in (cV (cQ C144 ((rd (0:Int) a.2 (rd (0:Int) q7_3 v52)),(rd (0:Int) b.2 (rd (0:Int) q7_7 v52))) q11_20 [] false C144_holds hq11_20 rfl rfl (R2 (K0 (gI q (fun q=>?_)))))))
    refine AI TV (OL (EI ((i64.wrap (v52 + (1:Int))),(List.set l7 (Int.toNat v52) q11_20)) (AI q (E4 I8 (R3 (AI (R7 TV) (R8 TV)))))))
   cases sE q
   refine E4 [(0,some 2),(1,some 3),(2,some 6),(3,some 7)] (AI rfl (AI (R2 TV) (R4 TV)))
  refine AI (OL (OL ?_)) TV
  cases sE q
  refine AI rfl (E4 [(0,some 2),(1,some 3)] (R2 (AJ (R2 TV))))
 dsimp only [sumF] at q
 refine AI ?_ TV
 cases sE q
 refine AI rfl (E4 [(0,none),(1,none)] (R2 (AJ (R2 TV))))
theorem C176_144_holds : HP C176_144 176 := hH Tryz.f176 (by kernel_rfl) rfl (fun x y q=>C176_144_vc x.1 x.2 y q)
theorem f176_144_in : ∃ fn,Tryz.prog.funcs[176]? = some fn ∧ fn.body.isSome = true ∧ (fn.name == "runtime.NumGoroutine") = false := ⟨Tryz.f176,by kernel_rfl,by kernel_rfl,by kernel_rfl⟩
def f164 (a : LI×LI) (b : LI×LI) : Option (Int×LI×LI) :=
 bindF (f176_144 (a.1,a.2) (b.1,b.2)) fun r1 =>
 some (r1.1,r1.2.1,r1.2.2)
def C164 : Con where
 X := (LI×LI)×(LI×LI)
 Y := Int×LI×LI
 e := 0
 args x := [.dat T3 x.1,.dat T3 x.2]
 hin x := []
 F x := f164 x.1 x.2
 ret y := [.raw true [(.osl 0),(.osl 1)],.dat T2 y.1]
 hout y := [(0,.arr 3 T2 y.2.1),(1,.arr 40 T2 y.2.2)]
 nout := 2
theorem C164_vc (a : LI×LI) (b : LI×LI) (y : Int×LI×LI) (q : f164 a b = some y) : VC Tryz.f164 C164 (a,b) y := by
 unfold f164 at q
 refine OL (OL ?_)
 obtain ⟨r1,hr1,q⟩ := bE q
 refine OL (AI f176_144_in (cV (cQ C176_144 ((a.1,a.2),(b.1,b.2)) r1 [] false C176_144_holds hr1 rfl rfl (R4 (AI NH (R2 (AJ (AI TV (OL ?_)))))))))
 cases sE q
 refine AI rfl (E4 [(0,some 3),(1,some 4)] (R2 (AJ (R2 TV))))
theorem C164_holds : HP C164 164 := hH Tryz.f164 (by kernel_rfl) rfl (fun x y q=>C164_vc x.1 x.2 y q)
theorem f164_in : InP 164 := inP (by kernel_rfl)
def f213_j1 (d : LI) (at_:Int) : Option (Sum Unit Unit) :=
 bif (decide (at_ < (0:Int))) then
 some (Sum.inr ())
 else
 bindF (f100 d) fun r3 =>
 bif (decide (at_ ≥ r3)) then
 some (Sum.inr ())
 else
 some (Sum.inl ())
def f213_l2 (d : LI) (go : (Int×Int×LI) → Option LI) (at__2:Int) (i:Int) (l0 : LI) : Option LI :=
 bif (decide (i ≥ (0:Int))) then
 guardF (0 ≤ i ∧ i < (List.length d:Int)) <|
 guardF ((rd (0:Int) d i) ≠ 0) <|
 guardF (0 ≤ i ∧ i < (List.length l0:Int)) <|
 guardF (0 ≤ i ∧ i < (List.length d:Int)) <|
 guardF ((rd (0:Int) d i) ≠ 0) <|
 go ((i64.wrap (Int.tdiv at__2 (rd (0:Int) d i))),(i64.wrap (i - (1:Int))),(List.set l0 (Int.toNat i) (Int.tmod at__2 (rd (0:Int) d i))))
 else
 some l0
def f213 (d : LI) (at_:Int) : Option (Bool×LI) :=
 bindF (f213_j1 d at_) fun z2 =>
 sumF z2 (fun z2a =>
 guardF (0 ≤ (List.length d:Int) ∧ (List.length d:Int) ≤ (List.length d:Int) ∧ Int.toNat (List.length d:Int) * 8 ≤ 140737488355328) <|
 bindF (loopF (fun go x=>f213_l2 d go x.1 x.2.1 x.2.2) fuelN (at_,(i64.wrap ((List.length d:Int) - (1:Int))),(List.replicate (Int.toNat (List.length d:Int)) (0:Int)))) fun z4 =>
 some (true,z4)) (fun z2b =>
 some (false,[]))
def C213 : Con where
 X := LI×Int
 Y := Bool×LI
 e := 0
 args x := [.dat T1 x.1,.dat T2 x.2]
 hin x := []
 F x := f213 x.1 x.2
 ret y := [O0 0,.dat .bool y.1]
 hout y := [(0,.arr 3 T2 y.2)]
 nout := 1
theorem C213_vc (d : LI) (at_:Int) (y : Bool×LI) (q : f213 d at_ = some y) : VC Tryz.f213 C213 (d,at_) y := by
 unfold f213 at q
 refine OL ?_
 obtain ⟨z2,hz2,q⟩ := bE q
 refine OQ ⟨Sum.elim (fun z2a=>[(0,⟨[(0,.dat T1 d),(1,.dat T2 at_)],[],0⟩)]) (fun z2b=>[(1,⟨[(4,.raw false [N0]),(5,.dat .bool false)],[],0⟩)]) z2,?_,?_⟩
 ·have q := hz2
  clear hz2
  unfold f213_j1 at q
  refine OL (cN q (fun q=>?_) (fun q=>?_))
  ·refine gY (gY ?_)
   obtain ⟨r3,hr3,q⟩ := bE q
   refine OL (AI f100_in (cV (cQ C100 d r3 [] false C100_holds hr3 rfl rfl (AI rfl (K0 (gY (cF (cI q (fun q=>?_) (fun q=>?_)))))))))
   ·cases sE q
    refine OL (E4 [] (R2 (AJ TV)))
   cases sE q
   refine E4 [] (R3 (AI TV TV))
  refine gN (gN (gN (cT (cT (OL ?_)))))
  cases sE q
  refine E4 [] (R2 (AJ TV))
 rcases z2 with z2a | z2b
 ·dsimp only [sumF] at q
  refine AI (OL (gI q (fun q=>?_))) TV
  refine OL (OL ?_)
  obtain ⟨z4,hz4,q⟩ := bE q
  refine lI (Int×Int×LI) LI (fun x=>⟨[(0,.dat T1 d),(1,.dat T2 x.1),(6,O0 0),(7,.dat T2 x.2.1)],[(0,.arr 3 T2 x.2.2)],1⟩) (fun z=>[(2,⟨[(6,O0 0)],[(0,.arr 3 T2 z)],1⟩)]) (loopF (fun go x=>f213_l2 d go x.1 x.2.1 x.2.2)) fuelN (at_,(i64.wrap ((List.length d:Int) - (1:Int))),(List.replicate (Int.toNat (List.length d:Int)) (0:Int))) z4 (AI hz4 (AI (E4 [(0,some 0)] (R4 (AJ (AI rfl TV)))) (AI (fun _ _ h=>lZ h) (AI (fun m=>curI (fun at__2=>curI (fun i=>fun l0 z q=>?_))) ?_))))
  ·have q : f213_l2 d (loopF (fun go x=>f213_l2 d go x.1 x.2.1 x.2.2) m) at__2 i l0 = some z := q
   unfold f213_l2 at q
   refine OL (OL (cI q (fun q=>?_) (fun q=>?_)))
   ·refine OL (OL (gI q (fun q=>?_)))
    refine gI q (fun q=>?_)
    refine gI q (fun q=>?_)
    refine OL (gI q (fun q=>?_))
    refine gI q (fun q=>?_)
    refine EI ((i64.wrap (Int.tdiv at__2 (rd (0:Int) d i))),(i64.wrap (i - (1:Int))),(List.set l0 (Int.toNat i) (Int.tmod at__2 (rd (0:Int) d i)))) (AI q (E4 [(0,some 0)] (R4 (AJ (AI rfl TV)))))
   cases sE q
   refine E4 [(0,some 0)] (AI rfl (AJ (AI rfl TV)))
  refine AI (OL ?_) TV
  cases sE q
  refine AI rfl (E4 [(0,some 0)] (R2 (AJ (AI rfl TV))))
 dsimp only [sumF] at q
 refine AI ?_ TV
 cases sE q
 refine AI rfl (E4 [(0,none)] (R2 (AJ (AI rfl TV))))
theorem C213_holds : HP C213 213 := hH Tryz.f213 (by kernel_rfl) rfl (fun x y q=>C213_vc x.1 x.2 y q)
theorem f213_in : InP 213 := inP (by kernel_rfl)
def f214_j1 (d : LI) (place_ : LI) : Option (Sum Unit Unit) :=
 bindF (f99 d) fun r3 =>
 bif (!r3) then
 some (Sum.inr ())
 else
 bif ((List.length place_:Int) != (List.length d:Int)) then
 some (Sum.inr ())
 else
 some (Sum.inl ())
def f214_j5 (d : LI) (place_ : LI) (v21:Int) : Option (Sum Unit Unit) :=
 bif (decide ((rd (0:Int) place_ v21) < (0:Int))) then
 some (Sum.inr ())
 else
 guardF (0 ≤ v21 ∧ v21 < (List.length d:Int)) <|
 bif (decide ((rd (0:Int) place_ v21) ≥ (rd (0:Int) d v21))) then
 some (Sum.inr ())
 else
 some (Sum.inl ())
def f214_l4 (d : LI) (place_ : LI) (go : (Int×Int) → Option (Sum Unit Int)) (at_:Int) (v21:Int) : Option (Sum Unit Int) :=
 bif (decide (v21 < (List.length place_:Int))) then
 guardF (0 ≤ v21 ∧ v21 < (List.length place_:Int)) <|
 bindF (f214_j5 d place_ v21) fun z7 =>
 sumF z7 (fun z7a =>
 guardF (0 ≤ v21 ∧ v21 < (List.length d:Int)) <|
 go ((i64.wrap ((i64.wrap (at_ * (rd (0:Int) d v21))) + (rd (0:Int) place_ v21))),(i64.wrap (v21 + (1:Int))))) (fun z7b =>
 some (Sum.inl ()))
 else
 some (Sum.inr at_)
def f214 (d : LI) (place_ : LI) : Option (Int×Bool) :=
 bindF (f214_j1 d place_) fun z2 =>
 sumF z2 (fun z2a =>
 bindF (loopF (fun go x=>f214_l4 d place_ go x.1 x.2) fuelN ((0:Int),(0:Int))) fun z6 =>
 sumF z6 (fun z6a =>
 some ((0:Int),false)) (fun z6b =>
 some (z6b,true))) (fun z2b =>
 some ((0:Int),false))
def C214 : Con where
 X := LI×LI
 Y := Int×Bool
 e := 0
 args x := [.dat T1 x.1,.dat T1 x.2]
 hin x := []
 F x := f214 x.1 x.2
 ret y := [.dat T2 y.1,.dat .bool y.2]
 hout y := []
 nout := 0
theorem C214_vc (d : LI) (place_ : LI) (y : Int×Bool) (q : f214 d place_ = some y) : VC Tryz.f214 C214 (d,place_) y := by
 unfold f214 at q
 refine OL ?_
 obtain ⟨z2,hz2,q⟩ := bE q
 refine OQ ⟨Sum.elim (fun z2a=>[(0,⟨[(0,.dat T1 d),(1,.dat T1 place_)],[],0⟩)]) (fun z2b=>[(1,⟨[(4,D0 0),(5,.dat .bool false)],[],0⟩)]) z2,?_,?_⟩
 ·have q := hz2
  clear hz2
  unfold f214_j1 at q
  refine OL ?_
  obtain ⟨r3,hr3,q⟩ := bE q
  refine OL (AI f99_in (cV (cQ C99 d r3 [] false C99_holds hr3 rfl rfl (AI rfl (K0 (cN q (fun q=>?_) (fun q=>?_)))))))
  ·refine gY (gY (gY (gY (cF (cI q (fun q=>?_) (fun q=>?_))))))
   ·cases sE q
    refine OL (E4 [] (R3 (AI TV TV)))
   cases sE q
   refine E4 [] (R3 (AI TV TV))
  refine gN (gN (gN (gN (cT (cT (OL ?_))))))
  cases sE q
  refine E4 [] (R3 (AI TV TV))
 rcases z2 with z2a | z2b
 ·dsimp only [sumF] at q
  refine AI (OL (OL (OL ?_))) TV
  obtain ⟨z6,hz6,q⟩ := bE q
  refine lI (Int×Int) (Sum Unit Int) (fun x=>⟨[(0,.dat T1 d),(6,.dat T2 x.1),(19,.dat T1 place_),(20,.dat T2 (List.length place_:Int)),(21,.dat T2 x.2)],[],0⟩) (fun z=>Sum.elim (fun za=>[(1,⟨[(4,D0 0),(5,.dat .bool false)],[],0⟩)]) (fun zb=>[(2,⟨[(6,.dat T2 zb)],[],0⟩)]) z) (loopF (fun go x=>f214_l4 d place_ go x.1 x.2)) fuelN ((0:Int),(0:Int)) z6 (AI hz6 (AI (E4 [] (R6 (AI TV TV))) (AI (fun _ _ h=>lZ h) (AI (fun m=>curI (fun at_=>fun v21 z q=>?_)) ?_))))
  ·have q : f214_l4 d place_ (loopF (fun go x=>f214_l4 d place_ go x.1 x.2) m) at_ v21 = some z := q
   unfold f214_l4 at q
   refine OL (OL (cI q (fun q=>?_) (fun q=>?_)))
   ·refine OL (OL (gI q (fun q=>?_)))
    obtain ⟨z7,hz7,q⟩ := bE q
    refine OQ ⟨Sum.elim (fun z7a=>[(0,⟨[(0,.dat T1 d),(6,.dat T2 at_),(7,.dat T2 v21),(8,.dat T2 (rd (0:Int) place_ v21)),(19,.dat T1 place_),(20,.dat T2 (List.length place_:Int)),(21,.dat T2 v21)],[],0⟩)]) (fun z7b=>[(1,⟨[(4,D0 0),(5,.dat .bool false)],[],0⟩)]) z7,?_,?_⟩
    ·have q := hz7
     clear hz7
     unfold f214_j5 at q
     refine OL (cN q (fun q=>?_) (fun q=>?_))
     ·refine gY (gY (gY (gI q (fun q=>?_))))
      refine gY (gY (cF (cI q (fun q=>?_) (fun q=>?_))))
      ·cases sE q
       refine OL (E4 [] (R3 (AI TV TV)))
      cases sE q
      refine E4 [] (R8 (AI TV TV))
     refine gN (gN (gN (gN (gN (cT (cT (OL ?_)))))))
     cases sE q
     refine E4 [] (R3 (AI TV TV))
    rcases z7 with z7a | z7b
    ·dsimp only [sumF] at q
     refine AI (gI q (fun q=>?_)) TV
     refine EI ((i64.wrap ((i64.wrap (at_ * (rd (0:Int) d v21))) + (rd (0:Int) place_ v21))),(i64.wrap (v21 + (1:Int)))) (AI q (E4 [] (R6 (AI TV TV))))
    dsimp only [sumF] at q
    refine AI ?_ TV
    cases sE q
    refine E4 [] (R3 (AI TV TV))
   cases sE q
   refine E4 [] (R2 (AI TV TV))
  rcases z6 with z6a | z6b
  ·dsimp only [sumF] at q
   refine AI ?_ TV
   cases sE q
   refine AI rfl (E4 [] (R3 (AI TV TV)))
  dsimp only [sumF] at q
  refine AI (OL ?_) TV
  cases sE q
  refine AI rfl (E4 [] (R3 (AI TV TV)))
 dsimp only [sumF] at q
 refine AI ?_ TV
 cases sE q
 refine AI rfl (E4 [] (R3 (AI TV TV)))
theorem C214_holds : HP C214 214 := hH Tryz.f214 (by kernel_rfl) rfl (fun x y q=>C214_vc x.1 x.2 y q)
theorem f214_in : InP 214 := inP (by kernel_rfl)
end Go.Proofs
