import Derived.Test.YtclonpepjjeciaaGreatFc
set_option linter.unusedVariables false
set_option maxRecDepth 100000
set_option maxHeartbeats 8000000
namespace Go.Proofs
open Go.AM
open IntKind (i64 u64 i32 u32 i16 u16 i8 u8)
def f11 : Option Unit :=
 some ()
def C11 : Con where
 X := Unit
 Y := Unit
 e := 0
 args x := []
 hin x := []
 F x := f11
 ret y := [P0 0 0]
 hout y := [(0,.cells [(.osl 1)]),(1,.arr 39 T0 ([]))]
 nout := 2
theorem C11_vc (y : Unit) (q : f11 = some y) : VC Tryz.f11 C11 () y := by
 unfold f11 at q
 refine OL (OL ?_)
 cases sE q
 refine AI rfl (E4 [(0,some 0),(1,none)] (AI rfl (AJ (R2 TV))))
theorem C11_holds : HP C11 11 := hH Tryz.f11 (by kernel_rfl) rfl (fun x y q=>C11_vc y q)
theorem f11_in : InP 11 := inP (by kernel_rfl)
def f13 (v : LI) : Option (LI×LI) :=
 some (v,[(List.length v:Int)])
def C13 : Con where
 X := LI
 Y := LI×LI
 e := 0
 args x := [.dat T1 x]
 hin x := []
 F x := f13 x
 ret y := [.raw true [(.osl 0),(.d T1 y.1)]]
 hout y := [(0,.arr 3 T2 y.2)]
 nout := 1
theorem C13_vc (v : LI) (y : LI×LI) (q : f13 v = some y) : VC Tryz.f13 C13 v y := by
 unfold f13 at q
 refine OL (OL (OL (OL ?_)))
 cases sE q
 refine AI rfl (E4 [(0,some 1)] (AI rfl (AJ (AI rfl TV))))
theorem C13_holds : HP C13 13 := hH Tryz.f13 (by kernel_rfl) rfl (fun x y q=>C13_vc x y q)
theorem f13_in : InP 13 := inP (by kernel_rfl)
def f64_j4 (d : LI) (v11:Int) : Option (Sum Unit Unit) :=
 bif (decide ((rd (0:Int) d v11) < (1:Int))) then
 some (Sum.inr ())
 else
 bif (decide ((rd (0:Int) d v11) > (4096:Int))) then
 some (Sum.inr ())
 else
 some (Sum.inl ())
def f64_l3 (d : LI) (go : (Int×Int) → Option (Sum Unit Int)) (n:Int) (v11:Int) : Option (Sum Unit Int) :=
 bif (decide (v11 < (List.length d:Int))) then
 guardF (0 ≤ v11 ∧ v11 < (List.length d:Int)) <|
 bindF (f64_j4 d v11) fun z4 =>
 sumF z4 (fun z4a =>
 bif (decide ((i64.wrap (n * (rd (0:Int) d v11))) > (4096:Int))) then
 some (Sum.inl ())
 else
 go ((i64.wrap (n * (rd (0:Int) d v11))),(i64.wrap (v11 + (1:Int))))) (fun z4b =>
 some (Sum.inl ()))
 else
 some (Sum.inr n)
def f64 (d : LI) : Option Int :=
 bif (decide ((List.length d:Int) > (4:Int))) then
 some (0:Int)
 else
 bindF (loopF (fun go x=>f64_l3 d go x.1 x.2) fuelN ((1:Int),(0:Int))) fun z3 =>
 sumF z3 (fun z3a =>
 some (0:Int)) (fun z3b =>
 some z3b)
def C64 : Con where
 X := LI
 Y := Int
 e := 0
 args x := [.dat T1 x]
 hin x := []
 F x := f64 x
 ret y := [.dat T2 y]
 hout y := []
 nout := 0
theorem C64_vc (d : LI) (y:Int) (q : f64 d = some y) : VC Tryz.f64 C64 d y := by
 unfold f64 at q
 refine OL (OL (OL (cI q (fun q=>?_) (fun q=>?_))))
 ·cases sE q
  refine OL (AI rfl (E4 [] (R2 (AI TV TV))))
 refine OL (OL (OL ?_))
 obtain ⟨z3,hz3,q⟩ := bE q
 refine lI (Int×Int) (Sum Unit Int) (fun x=>⟨[(3,.dat T2 x.1),(9,.dat T1 d),(10,.dat T2 (List.length d:Int)),(11,.dat T2 x.2)],[],0⟩) (fun z=>Sum.elim (fun za=>[(1,⟨[(2,D0 0)],[],0⟩)]) (fun zb=>[(2,⟨[(3,.dat T2 zb)],[],0⟩)]) z) (loopF (fun go x=>f64_l3 d go x.1 x.2)) fuelN ((1:Int),(0:Int)) z3 (AI hz3 (AI (E4 [] (R5 (AI TV TV))) (AI (fun _ _ h=>lZ h) (AI (fun m=>curI (fun n=>fun v11 z q=>?_)) ?_))))
 ·have q : f64_l3 d (loopF (fun go x=>f64_l3 d go x.1 x.2) m) n v11 = some z := q
  unfold f64_l3 at q
  refine OL (OL (cI q (fun q=>?_) (fun q=>?_)))
  ·refine OL (OL (gI q (fun q=>?_)))
   obtain ⟨z4,hz4,q⟩ := bE q
   refine OQ ⟨Sum.elim (fun z4a=>[(0,⟨[(3,.dat T2 n),(5,.dat T2 (rd (0:Int) d v11)),(9,.dat T1 d),(10,.dat T2 (List.length d:Int)),(11,.dat T2 v11)],[],0⟩)]) (fun z4b=>[(1,⟨[(2,D0 0)],[],0⟩)]) z4,?_,?_⟩
   ·have q := hz4
    clear hz4
    unfold f64_j4 at q
    refine OL (cN q (fun q=>?_) (fun q=>?_))
    ·refine gY (cF (cI q (fun q=>?_) (fun q=>?_)))
     ·cases sE q
      refine OL (E4 [] (R2 (AI TV TV)))
     cases sE q
     refine E4 [] (R6 (AI TV TV))
    refine gN (cT (cT (OL ?_)))
    cases sE q
    refine E4 [] (R2 (AI TV TV))
   rcases z4 with z4a | z4b
   ·dsimp only [sumF] at q
    refine AI (OL (OL (cI q (fun q=>?_) (fun q=>?_)))) TV
    ·cases sE q
     refine OL (E4 [] (R2 (AI TV TV)))
    refine EI ((i64.wrap (n * (rd (0:Int) d v11))),(i64.wrap (v11 + (1:Int)))) (AI q (E4 [] (R5 (AI TV TV))))
   dsimp only [sumF] at q
   refine AI ?_ TV
   cases sE q
   refine E4 [] (R2 (AI TV TV))
  cases sE q
  refine E4 [] (R2 (AI TV TV))
 rcases z3 with z3a | z3b
 ·dsimp only [sumF] at q
  refine AI ?_ TV
  cases sE q
  refine AI rfl (E4 [] (R2 (AI TV TV)))
 dsimp only [sumF] at q
 refine AI (OL ?_) TV
 cases sE q
 refine AI rfl (E4 [] (R2 (AI TV TV)))
theorem C64_holds : HP C64 64 := hH Tryz.f64 (by kernel_rfl) rfl (fun x y q=>C64_vc x y q)
theorem f64_in : InP 64 := inP (by kernel_rfl)
def f33 (d : LI) : Option Bool :=
 bindF (f64 d) fun r1 =>
 some (decide (r1 > (0:Int)))
def C33 : Con where
 X := LI
 Y := Bool
 e := 0
 args x := [.dat T1 x]
 hin x := []
 F x := f33 x
 ret y := [.dat .bool y]
 hout y := []
 nout := 0
theorem C33_vc (d : LI) (y : Bool) (q : f33 d = some y) : VC Tryz.f33 C33 d y := by
 unfold f33 at q
 refine OL (OL ?_)
 obtain ⟨r1,hr1,q⟩ := bE q
 refine OL (AI f64_in (cV (cQ C64 d r1 [] false C64_holds hr1 rfl rfl (AI rfl (K0 ?_)))))
 cases sE q
 refine AI rfl (E4 [] (R2 (AI TV TV)))
theorem C33_holds : HP C33 33 := hH Tryz.f33 (by kernel_rfl) rfl (fun x y q=>C33_vc x y q)
theorem f33_in : InP 33 := inP (by kernel_rfl)
def f34 (d : LI) : Option Int :=
 bindF (f64 d) fun r1 =>
 some r1
def C34 : Con where
 X := LI
 Y := Int
 e := 0
 args x := [.dat T1 x]
 hin x := []
 F x := f34 x
 ret y := [.dat T2 y]
 hout y := []
 nout := 0
theorem C34_vc (d : LI) (y:Int) (q : f34 d = some y) : VC Tryz.f34 C34 d y := by
 unfold f34 at q
 refine OL (OL ?_)
 obtain ⟨r1,hr1,q⟩ := bE q
 refine OL (AI f64_in (cV (cQ C64 d r1 [] false C64_holds hr1 rfl rfl (AI rfl (K0 ?_)))))
 cases sE q
 refine AI rfl (E4 [] (R2 (AI TV TV)))
theorem C34_holds : HP C34 34 := hH Tryz.f34 (by kernel_rfl) rfl (fun x y q=>C34_vc x y q)
theorem f34_in : InP 34 := inP (by kernel_rfl)
def f21 (t : LI×LI) : Option Bool :=
 bindF (f33 t.1) fun q1_2 =>
 bif q1_2 then
 bindF (f34 t.1) fun q1_9 =>
 some ((List.length t.2:Int) == q1_9)
 else
 some false
def C21 : Con where
 X := LI×LI
 Y := Bool
 e := 0
 args x := [.dat T3 x]
 hin x := []
 F x := f21 x
 ret y := [.dat .bool y]
 hout y := []
 nout := 0
theorem C21_vc (t : LI×LI) (y : Bool) (q : f21 t = some y) : VC Tryz.f21 C21 t y := by
 unfold f21 at q
 refine OL (OL (EI (.take 0 (.take 1 (.alt 2 (.take 3 (.take 4 (.take 5 (.take 6 (.take 7 (.take 8 (.alt 9 (.take 10 (.take 11 (.take 12 .done))) .done))))))) .done))) (EI [] (EI [] (AI rfl (AI TV ?_))))))
 obtain ⟨q1_2,hq1_2,q⟩ := bE q
 refine OL (AI f33_in (cV (cQ C33 t.1 q1_2 [] false C33_holds hq1_2 rfl rfl (AI rfl (K0 (cI q (fun q=>?_) (fun q=>?_)))))))
 ·refine gX (gX (gX (gX (AI TV (gX ?_)))))
  obtain ⟨q1_9,hq1_9,q⟩ := bE q
  refine OL (AI f34_in (cV (cQ C34 t.1 q1_9 [] false C34_holds hq1_9 rfl rfl (AI rfl (K0 (gX (cT ?_)))))))
  cases sE q
  refine AI rfl (E4 [] (R2 (AI TV TV)))
 refine gM (gM (gM (gM (AI TV (gM (gM (cF ?_)))))))
 cases sE q
 refine AI rfl (E4 [] (R2 (AI TV TV)))
theorem C21_holds : HP C21 21 := hH Tryz.f21 (by kernel_rfl) rfl (fun x y q=>C21_vc x y q)
theorem f21_in : InP 21 := inP (by kernel_rfl)
def f31 (s : LI) : Option LI :=
 nilF s
 (some ([]))
 (guardF ((List.length ([] : LI) + List.length s) * 8 ≤ 140737488355328) <|
 some (([] : LI) ++ s))
def C31 : Con where
 X := LI
 Y := LI
 e := 0
 args x := [.dat T1 x]
 hin x := []
 F x := f31 x
 ret y := [O0 0]
 hout y := [(0,.arr 3 T2 y)]
 nout := 1
theorem C31_vc (s : LI) (y : LI) (q : f31 s = some y) : VC Tryz.f31 C31 s y := by
 unfold f31 at q
 refine OL (OL (OL (nilI q (fun q=>?_) (fun q=>?_))))
 ·refine cT (OL ?_)
  cases sE q
  refine AI rfl (E4 [(0,none)] (AI rfl (AJ (AI rfl TV))))
 refine cF (OL (OL (OL (gI q (fun q=>?_)))))
 cases sE q
 refine AI rfl (E4 [(0,some 1)] (AI rfl (AJ (AI rfl TV))))
theorem C31_holds : HP C31 31 := hH Tryz.f31 (by kernel_rfl) rfl (fun x y q=>C31_vc x y q)
theorem f31_in : InP 31 := inP (by kernel_rfl)
def f32 (s : LI) : Option LI :=
 nilF s
 (some ([]))
 (guardF ((List.length ([] : LI) + List.length s) * 8 ≤ 140737488355328) <|
 some (([] : LI) ++ s))
def C32 : Con where
 X := LI
 Y := LI
 e := 0
 args x := [.dat T1 x]
 hin x := []
 F x := f32 x
 ret y := [O0 0]
 hout y := [(0,.arr 33 T2 y)]
 nout := 1
theorem C32_vc (s : LI) (y : LI) (q : f32 s = some y) : VC Tryz.f32 C32 s y := by
 unfold f32 at q
 refine OL (OL (OL (nilI q (fun q=>?_) (fun q=>?_))))
 ·refine cT (OL ?_)
  cases sE q
  refine AI rfl (E4 [(0,none)] (AI rfl (AJ (AI rfl TV))))
 refine cF (OL (OL (OL (gI q (fun q=>?_)))))
 cases sE q
 refine AI rfl (E4 [(0,some 1)] (AI rfl (AJ (AI rfl TV))))
theorem C32_holds : HP C32 32 := hH Tryz.f32 (by kernel_rfl) rfl (fun x y q=>C32_vc x y q)
theorem f32_in : InP 32 := inP (by kernel_rfl)
def f19 (t : LI×LI) : Option (LI×LI) :=
 bindF (f31 t.1) fun q1_2 =>
 bindF (f32 t.2) fun q1_5 =>
 some (q1_2,q1_5)
def C19 : Con where
 X := LI×LI
 Y := LI×LI
 e := 0
 args x := [.dat T3 x]
 hin x := []
 F x := f19 x
 ret y := [.raw true [(.osl 0),(.osl 1)]]
 hout y := [(0,.arr 3 T2 y.1),(1,.arr 33 T2 y.2)]
 nout := 2
theorem C19_vc (t : LI×LI) (y : LI×LI) (q : f19 t = some y) : VC Tryz.f19 C19 t y := by
 unfold f19 at q
 refine OL (OL (EI (.take 0 (.take 1 (.take 3 (.take 4 (.alt 2 (.alt 5 (.take 6 (.alt 7 .done .done)) .done) .done))))) (EI [] (EI [] (AI rfl (AI TV ?_))))))
 obtain ⟨q1_2,hq1_2,q⟩ := bE q
 refine OL (AI f31_in (cV (cQ C31 t.1 q1_2 [] false C31_holds hq1_2 rfl rfl (AI rfl (K0 (AI TV ?_))))))
 obtain ⟨q1_5,hq1_5,q⟩ := bE q
 refine OL (AI f32_in (cV (cQ C32 t.2 q1_5 [] false C32_holds hq1_5 rfl rfl (AI rfl (K0 (AI TV (OL ?_)))))))
 cases sE q
 refine AI rfl (E4 [(0,some 2),(1,some 3)] (AI rfl (AJ (R2 TV))))
theorem C19_holds : HP C19 19 := hH Tryz.f19 (by kernel_rfl) rfl (fun x y q=>C19_vc x y q)
theorem f19_in : InP 19 := inP (by kernel_rfl)
def f22 (t_l : NL) (n : ND) : Option (Int×NL) :=
 guardF ((List.length t_l + List.length ([(n.1,n.2.1,n.2.2.1,n.2.2.2.1,n.2.2.2.2.1,n.2.2.2.2.2)])) * 80 ≤ 140737488355328) <|
 some ((i64.wrap ((List.length (t_l ++ ([(n.1,n.2.1,n.2.2.1,n.2.2.2.1,n.2.2.2.2.1,n.2.2.2.2.2)])):Int) - (1:Int))),(t_l ++ ([(n.1,n.2.1,n.2.2.1,n.2.2.2.1,n.2.2.2.2.1,n.2.2.2.2.2)])))
def C22 : Con where
 X := NL×(ND)
 Y := Int×NL
 e := 2
 args x := [P0 0 0,.dat T0 x.2]
 hin x := [(0,.cells [(.osl 1)]),(1,.arr 39 T0 x.1)]
 F x := f22 x.1 x.2
 ret y := [.dat T2 y.1,D0 0]
 hout y := [(0,.cells [(.osl 2)]),(2,.arr 39 T0 y.2)]
 nout := 3
theorem C22_vc (t_l : NL) (n : ND) (y : Int×NL) (q : f22 t_l n = some y) : VE Tryz.f22 2 C22 (t_l,n) y := by
 unfold f22 at q
 refine OL (OL (EI (.take 0 (.take 1 (.take 2 (.take 3 (.take 4 (.take 5 (.alt 6 (.alt 7 (.take 8 (.take 9 (.alt 10 .done .done))) .done) .done))))))) (EI [(10,[0])] (EI [] (AI rfl (AI TV (OL (AI TV (OL (gI q (fun q=>?_)))))))))))
 refine AI TV (OL (OL ?_))
 cases sE q
 refine AI rfl (E4 [(0,some 0),(2,some 4)] (R3 (AI TV (R2 TV))))
theorem C22_holds : HP C22 22 := hH Tryz.f22 (by kernel_rfl) rfl (fun x y q=>C22_vc x.1 x.2 y q)
theorem f22_in : InP 22 := inP (by kernel_rfl)
def f12 (t_l : NL) (x_ : LI×LI) : Option (Int×Int×NL) :=
 bif (decide ((List.length t_l:Int) ≥ (512:Int))) then
 some ((0:Int),(2:Int),t_l)
 else
 bindF (f21 (x_.1,x_.2)) fun r1 =>
 bif (!r1) then
 some ((0:Int),(1:Int),t_l)
 else
 bindF (f19 (x_.1,x_.2)) fun r2 =>
 bindF (f22 t_l ((1:Int),(-1:Int),(-1:Int),(0:Int),r2.1,r2.2)) fun r3 =>
 some (r3.1,(0:Int),r3.2)
def C12 : Con where
 X := NL×(LI×LI)
 Y := Int×Int×NL
 e := 2
 args x := [P0 0 0,.dat T3 x.2]
 hin x := [(0,.cells [(.osl 1)]),(1,.arr 39 T0 x.1)]
 F x := f12 x.1 x.2
 ret y := [.dat T2 y.1,.dat T2 y.2.1]
 hout y := [(0,.cells [(.osl 2)]),(2,.arr 39 T0 y.2.2)]
 nout := 3
theorem C12_vc (t_l : NL) (x_ : LI×LI) (y : Int×Int×NL) (q : f12 t_l x_ = some y) : VE Tryz.f12 2 C12 (t_l,x_) y := by
 unfold f12 at q
 refine OL (OL (OL (cI q (fun q=>?_) (fun q=>?_))))
 ·cases sE q
  refine OL (AI rfl (E4 [(0,some 0),(2,some 1)] (R3 (AI TV (R2 TV)))))
 refine OL ?_
 obtain ⟨r1,hr1,q⟩ := bE q
 refine OL (AI f21_in (cV (cQ C21 (x_.1,x_.2) r1 [] false C21_holds hr1 rfl rfl (R2 (K0 (cI q (fun q=>?_) (fun q=>?_)))))))
 ·cases sE q
  refine OL (AI rfl (E4 [(0,some 0),(2,some 1)] (R3 (AI TV (R2 TV)))))
 refine OL ?_
 obtain ⟨r2,hr2,q⟩ := bE q
 refine OL (AI f19_in (cV (cQ C19 (x_.1,x_.2) r2 [] false C19_holds hr2 rfl rfl (R2 (K0 ?_)))))
 obtain ⟨r3,hr3,q⟩ := bE q
 have hr3 : C22.F (t_l,((1:Int),(-1:Int),(-1:Int),(0:Int),r2.1,r2.2)) = some r3 := hr3
 refine OL (AI f22_in (cV (cQ C22 _ r3 I2 false C22_holds hr3 rfl rfl (R2 (AI NH (R2 (AJ (AI (R2 TV) ?_))))))))
 cases sE q
 refine AI rfl (E4 [(0,some 0),(2,some 7)] (R3 (AI TV (R2 TV))))
theorem C12_holds : HP C12 12 := hH Tryz.f12 (by kernel_rfl) rfl (fun x y q=>C12_vc x.1 x.2 y q)
theorem f12_in : InP 12 := inP (by kernel_rfl)
def f18 (t_l : NL) (n:Int) : Option (Bool×NL) :=
 bif (decide (n ≥ (0:Int))) then
 some ((decide (n < (List.length t_l:Int))),t_l)
 else
 some (false,t_l)
def C18 : Con where
 X := NL×Int
 Y := Bool×NL
 e := 2
 args x := [P0 0 0,.dat T2 x.2]
 hin x := [(0,.cells [(.osl 1)]),(1,.arr 39 T0 x.1)]
 F x := f18 x.1 x.2
 ret y := [.dat .bool y.1]
 hout y := [(0,.cells [(.osl 1)]),(1,.arr 39 T0 y.2)]
 nout := 2
theorem C18_vc (t_l : NL) (n:Int) (y : Bool×NL) (q : f18 t_l n = some y) : VE Tryz.f18 2 C18 (t_l,n) y := by
 unfold f18 at q
 refine OL (OL (cI q (fun q=>?_) (fun q=>?_)))
 ·refine gX (gX (gX (gX (gX (gX (cT ?_))))))
  cases sE q
  refine AI rfl (E4 I2 (R2 (AI TV (R2 TV))))
 refine gM (gM (gM (gM (gM (gM (cF ?_))))))
 cases sE q
 refine AI rfl (E4 I2 (R2 (AI TV (R2 TV))))
theorem C18_holds : HP C18 18 := hH Tryz.f18 (by kernel_rfl) rfl (fun x y q=>C18_vc x.1 x.2 y q)
theorem f18_in : InP 18 := inP (by kernel_rfl)
def f23 (op:Int) : Option Bool :=
 bif (op == (2:Int)) then
 some true
 else
 bif (op == (3:Int)) then
 some true
 else
 bif (op == (4:Int)) then
 some true
 else
 bif (op == (6:Int)) then
 some true
 else
 some (op == (12:Int))
def C23 : Con where
 X := Int
 Y := Bool
 e := 0
 args x := [.dat T2 x]
 hin x := []
 F x := f23 x
 ret y := [.dat .bool y]
 hout y := []
 nout := 0
theorem C23_vc (op:Int) (y : Bool) (q : f23 op = some y) : VC Tryz.f23 C23 op y := by
 unfold f23 at q
 refine OL (OL (cN q (fun q=>?_) (fun q=>?_)))
 ·refine gY (cF (cN q (fun q=>?_) (fun q=>?_)))
  ·refine gY (cF (cN q (fun q=>?_) (fun q=>?_)))
   ·refine gY (cF (cN q (fun q=>?_) (fun q=>?_)))
    ·refine gY (cF ?_)
     cases sE q
     refine AI rfl (E4 [] (R2 (AI TV TV)))
    refine gN (cT ?_)
    cases sE q
    refine AI rfl (E4 [] (R2 (AI TV TV)))
   refine gN (cT (gN (gN (cT ?_))))
   cases sE q
   refine AI rfl (E4 [] (R2 (AI TV TV)))
  refine gN (cT (gN (gN (cT (gN (gN (cT ?_)))))))
  cases sE q
  refine AI rfl (E4 [] (R2 (AI TV TV)))
 refine gN (cT (gN (gN (cT (gN (gN (cT (gN (gN (cT ?_))))))))))
 cases sE q
 refine AI rfl (E4 [] (R2 (AI TV TV)))
theorem C23_holds : HP C23 23 := hH Tryz.f23 (by kernel_rfl) rfl (fun x y q=>C23_vc x y q)
theorem f23_in : InP 23 := inP (by kernel_rfl)
def f24 (op:Int) : Option Bool :=
 bif (op == (5:Int)) then
 some true
 else
 bif (op == (8:Int)) then
 some true
 else
 bif (op == (11:Int)) then
 some true
 else
 bif (op == (12:Int)) then
 some true
 else
 some (op == (13:Int))
def C24 : Con where
 X := Int
 Y := Bool
 e := 0
 args x := [.dat T2 x]
 hin x := []
 F x := f24 x
 ret y := [.dat .bool y]
 hout y := []
 nout := 0
theorem C24_vc (op:Int) (y : Bool) (q : f24 op = some y) : VC Tryz.f24 C24 op y := by
 unfold f24 at q
 refine OL (OL (cN q (fun q=>?_) (fun q=>?_)))
 ·refine gY (cF (cN q (fun q=>?_) (fun q=>?_)))
  ·refine gY (cF (cN q (fun q=>?_) (fun q=>?_)))
   ·refine gY (cF (cN q (fun q=>?_) (fun q=>?_)))
    ·refine gY (cF ?_)
     cases sE q
     refine AI rfl (E4 [] (R2 (AI TV TV)))
    refine gN (cT ?_)
    cases sE q
    refine AI rfl (E4 [] (R2 (AI TV TV)))
   refine gN (cT (gN (gN (cT ?_))))
   cases sE q
   refine AI rfl (E4 [] (R2 (AI TV TV)))
  refine gN (cT (gN (gN (cT (gN (gN (cT ?_)))))))
  cases sE q
  refine AI rfl (E4 [] (R2 (AI TV TV)))
 refine gN (cT (gN (gN (cT (gN (gN (cT (gN (gN (cT ?_))))))))))
 cases sE q
 refine AI rfl (E4 [] (R2 (AI TV TV)))
theorem C24_holds : HP C24 24 := hH Tryz.f24 (by kernel_rfl) rfl (fun x y q=>C24_vc x y q)
theorem f24_in : InP 24 := inP (by kernel_rfl)
def f133 (d : LI) (i:Int) : Option Int :=
 bif (decide (i ≥ (List.length d:Int))) then
 some (1:Int)
 else
 guardF (0 ≤ (i64.wrap ((i64.wrap ((List.length d:Int) - (1:Int))) - i)) ∧ (i64.wrap ((i64.wrap ((List.length d:Int) - (1:Int))) - i)) < (List.length d:Int)) <|
 some (rd (0:Int) d (i64.wrap ((i64.wrap ((List.length d:Int) - (1:Int))) - i)))
def C133 : Con where
 X := LI×Int
 Y := Int
 e := 0
 args x := [.dat T1 x.1,.dat T2 x.2]
 hin x := []
 F x := f133 x.1 x.2
 ret y := [.dat T2 y]
 hout y := []
 nout := 0
theorem C133_vc (d : LI) (i:Int) (y:Int) (q : f133 d i = some y) : VC Tryz.f133 C133 (d,i) y := by
 unfold f133 at q
 refine OL (OL (OL (cI q (fun q=>?_) (fun q=>?_))))
 ·cases sE q
  refine OL (AI rfl (E4 [] (R2 (AI TV TV))))
 refine OL (gI q (fun q=>?_))
 cases sE q
 refine AI rfl (E4 [] (R2 (AI TV TV)))
theorem C133_holds : HP C133 133 := hH Tryz.f133 (by kernel_rfl) rfl (fun x y q=>C133_vc x.1 x.2 y q)
theorem f133_in : InP 133 := inP (by kernel_rfl)
def f103_j1 (a : LI) (b : LI) : Option (Sum Unit Unit) :=
 bindF (f33 a) fun r4 =>
 bif (!r4) then
 some (Sum.inr ())
 else
 bindF (f33 b) fun r5 =>
 bif (!r5) then
 some (Sum.inr ())
 else
 some (Sum.inl ())
def f103_j5 (r13:Int) (r14:Int) : Option (Sum Unit Unit) :=
 bif (r13 != r14) then
 bif (r13 != (1:Int)) then
 bif (r14 != (1:Int)) then
 some (Sum.inr ())
 else
 some (Sum.inl ())
 else
 some (Sum.inl ())
 else
 some (Sum.inl ())
def f103_l4 (a : LI) (b : LI) (go : (Int×LI) → Option (Sum Unit LI)) (v26:Int) (l0 : LI) : Option (Sum Unit LI) :=
 bif (decide (v26 < (List.length (List.replicate (Int.toNat (if (List.length b:Int) > (List.length a:Int) then (List.length b:Int) else (List.length a:Int))) (0:Int)):Int))) then
 bindF (f133 a v26) fun r13 =>
 bindF (f133 b v26) fun r14 =>
 bindF (f103_j5 r13 r14) fun z15 =>
 sumF z15 (fun z15a =>
 guardF (0 ≤ (i64.wrap ((i64.wrap ((List.length l0:Int) - (1:Int))) - v26)) ∧ (i64.wrap ((i64.wrap ((List.length l0:Int) - (1:Int))) - v26)) < (List.length l0:Int)) <|
 go ((i64.wrap (v26 + (1:Int))),(List.set l0 (Int.toNat (i64.wrap ((i64.wrap ((List.length l0:Int) - (1:Int))) - v26))) (if r14 > r13 then r14 else r13)))) (fun z15b =>
 some (Sum.inl ()))
 else
 some (Sum.inr l0)
def f103 (a : LI) (b : LI) : Option (Int×LI) :=
 bindF (f103_j1 a b) fun z3 =>
 sumF z3 (fun z3a =>
 guardF (0 ≤ (if (List.length b:Int) > (List.length a:Int) then (List.length b:Int) else (List.length a:Int)) ∧ (if (List.length b:Int) > (List.length a:Int) then (List.length b:Int) else (List.length a:Int)) ≤ (if (List.length b:Int) > (List.length a:Int) then (List.length b:Int) else (List.length a:Int)) ∧ Int.toNat (if (List.length b:Int) > (List.length a:Int) then (List.length b:Int) else (List.length a:Int)) * 8 ≤ 140737488355328) <|
 bindF (loopF (fun go x=>f103_l4 a b go x.1 x.2) fuelN ((0:Int),(List.replicate (Int.toNat (if (List.length b:Int) > (List.length a:Int) then (List.length b:Int) else (List.length a:Int))) (0:Int)))) fun z12 =>
 sumF z12 (fun z12a =>
 some ((4:Int),[])) (fun z12b =>
 bindF (f33 z12b) fun r16 =>
 bif (!r16) then
 some ((2:Int),[])
 else
 some ((0:Int),z12b))) (fun z3b =>
 some ((1:Int),[]))
def C103 : Con where
 X := LI×LI
 Y := Int×LI
 e := 0
 args x := [.dat T1 x.1,.dat T1 x.2]
 hin x := []
 F x := f103 x.1 x.2
 ret y := [O0 0,.dat T2 y.1]
 hout y := [(0,.arr 3 T2 y.2)]
 nout := 1
theorem C103_vc (a : LI) (b : LI) (y : Int×LI) (q : f103 a b = some y) : VC Tryz.f103 C103 (a,b) y := by
 unfold f103 at q
 refine OL ?_
 obtain ⟨z3,hz3,q⟩ := bE q
 refine OQ ⟨Sum.elim (fun z3a=>[(0,⟨[(0,.dat T1 a),(1,.dat T1 b)],[],0⟩)]) (fun z3b=>[(1,⟨[(4,.raw false [N0]),(5,D0 1)],[],0⟩)]) z3,?_,?_⟩
 ·have q := hz3
  clear hz3
  unfold f103_j1 at q
  refine OL ?_
  obtain ⟨r4,hr4,q⟩ := bE q
  refine OL (AI f33_in (cV (cQ C33 a r4 [] false C33_holds hr4 rfl rfl (AI rfl (K0 (cN q (fun q=>?_) (fun q=>?_)))))))
  ·refine gY ?_
   obtain ⟨r5,hr5,q⟩ := bE q
   refine OL (AI f33_in (cV (cQ C33 b r5 [] false C33_holds hr5 rfl rfl (AI rfl (K0 (gY (cF (cI q (fun q=>?_) (fun q=>?_)))))))))
   ·cases sE q
    refine OL (E4 [] (R2 (AJ TV)))
   cases sE q
   refine E4 [] (R3 (AI TV TV))
  refine gN (gN (cT (cT (OL ?_))))
  cases sE q
  refine E4 [] (R2 (AJ TV))
 rcases z3 with z3a | z3b
 ·dsimp only [sumF] at q
  refine AI (OL (gI q (fun q=>?_))) TV
  refine OL (OL ?_)
  obtain ⟨z12,hz12,q⟩ := bE q
  refine lI (Int×LI) (Sum Unit LI) (fun x=>⟨[(0,.dat T1 a),(1,.dat T1 b),(6,O0 0),(25,.dat T2 (List.length (List.replicate (Int.toNat (if (List.length b:Int) > (List.length a:Int) then (List.length b:Int) else (List.length a:Int))) (0:Int)):Int)),(26,.dat T2 x.1)],[(0,.arr 3 T2 x.2)],1⟩) (fun z=>Sum.elim (fun za=>[(1,⟨[(4,.raw false [N0]),(5,D0 4)],[],0⟩)]) (fun zb=>[(2,⟨[(6,O0 0)],[(0,.arr 3 T2 zb)],1⟩)]) z) (loopF (fun go x=>f103_l4 a b go x.1 x.2)) fuelN ((0:Int),(List.replicate (Int.toNat (if (List.length b:Int) > (List.length a:Int) then (List.length b:Int) else (List.length a:Int))) (0:Int))) z12 (AI hz12 (AI (E4 [(0,some 0)] (R5 (AJ (AI rfl TV)))) (AI (fun _ _ h=>lZ h) (AI (fun m=>curI (fun v26=>fun l0 z q=>?_)) ?_))))
  ·have q : f103_l4 a b (loopF (fun go x=>f103_l4 a b go x.1 x.2) m) v26 l0 = some z := q
   unfold f103_l4 at q
   refine OL (OL (cI q (fun q=>?_) (fun q=>?_)))
   ·refine OL (OL (OL ?_))
    obtain ⟨r13,hr13,q⟩ := bE q
    refine OL (AI f133_in (cV (cQ C133 (a,v26) r13 [] false C133_holds hr13 rfl rfl (R2 (K0 ?_)))))
    obtain ⟨r14,hr14,q⟩ := bE q
    refine OL (AI f133_in (cV (cQ C133 (b,v26) r14 [] false C133_holds hr14 rfl rfl (R2 (K0 ?_)))))
    obtain ⟨z15,hz15,q⟩ := bE q
    refine OQ ⟨Sum.elim (fun z15a=>[(0,⟨[(0,.dat T1 a),(1,.dat T1 b),(6,O0 0),(7,.dat T2 v26),(8,.dat T2 r13),(9,.dat T2 r14),(25,.dat T2 (List.length (List.replicate (Int.toNat (if (List.length b:Int) > (List.length a:Int) then (List.length b:Int) else (List.length a:Int))) (0:Int)):Int)),(26,.dat T2 v26)],[(0,.arr 3 T2 l0)],1⟩)]) (fun z15b=>[(1,⟨[(4,.raw false [N0]),(5,D0 4)],[],0⟩)]) z15,?_,?_⟩
    ·have q := hz15
     clear hz15
     unfold f103_j5 at q
     refine OL (cI q (fun q=>?_) (fun q=>?_))
     ·refine gX (cT (cI q (fun q=>?_) (fun q=>?_)))
      ·refine gX (cT (cI q (fun q=>?_) (fun q=>?_)))
       ·cases sE q
        refine OL (E4 [] (R2 (AJ TV)))
       cases sE q
       refine E4 [(0,some 0)] (R8 (AJ (AI rfl TV)))
      refine gM (cF (cF ?_))
      cases sE q
      refine E4 [(0,some 0)] (R8 (AJ (AI rfl TV)))
     refine gM (cF (gM (gM (cF (cF ?_)))))
     cases sE q
     refine E4 [(0,some 0)] (R8 (AJ (AI rfl TV)))
    rcases z15 with z15a | z15b
    ·dsimp only [sumF] at q
     refine AI (gI q (fun q=>?_)) TV
     refine OL (EI ((i64.wrap (v26 + (1:Int))),(List.set l0 (Int.toNat (i64.wrap ((i64.wrap ((List.length l0:Int) - (1:Int))) - v26))) (if r14 > r13 then r14 else r13))) (AI q (E4 [(0,some 0)] (R5 (AJ (AI rfl TV))))))
    dsimp only [sumF] at q
    refine AI ?_ TV
    cases sE q
    refine E4 [] (R2 (AJ TV))
   cases sE q
   refine E4 [(0,some 0)] (AI rfl (AJ (AI rfl TV)))
  rcases z12 with z12a | z12b
  ·dsimp only [sumF] at q
   refine AI ?_ TV
   cases sE q
   refine AI rfl (E4 [(0,none)] (R2 (AJ (AI rfl TV))))
  dsimp only [sumF] at q
  refine AI (OL (OL ?_)) TV
  obtain ⟨r16,hr16,q⟩ := bE q
  refine OL (AI f33_in (cV (cQ C33 z12b r16 [] true C33_holds hr16 rfl rfl (AI rfl (AI (fun _=>rfl) (R2 (AI TV (AI TV (cI q (fun q=>?_) (fun q=>?_))))))))))
  ·cases sE q
   refine OL (AI rfl (E4 [(0,none)] (R2 (AJ (AI rfl TV)))))
  cases sE q
  refine OL (AI rfl (E4 [(0,some 0)] (R2 (AJ (AI rfl TV)))))
 dsimp only [sumF] at q
 refine AI ?_ TV
 cases sE q
 refine AI rfl (E4 [(0,none)] (R2 (AJ (AI rfl TV))))
theorem C103_holds : HP C103 103 := hH Tryz.f103 (by kernel_rfl) rfl (fun x y q=>C103_vc x.1 x.2 y q)
theorem f103_in : InP 103 := inP (by kernel_rfl)
def f105 (x_:Int) (y_:Int) : Option (Int×Int) :=
 some ((u64.wrap ((u64.wrap ((u64.wrap ((Int.fdiv x_ (2 ^ min (Int.toNat (32:Int)) u64.bits)) * (Int.fdiv y_ (2 ^ min (Int.toNat (32:Int)) u64.bits)))) + (Int.fdiv (u64.wrap ((u64.wrap ((Int.fdiv x_ (2 ^ min (Int.toNat (32:Int)) u64.bits)) * (bitsOf IntKind.u64 (fun p q=>p &&& q) y_ (4294967295:Int)))) + (Int.fdiv (u64.wrap ((bitsOf IntKind.u64 (fun p q=>p &&& q) x_ (4294967295:Int)) * (bitsOf IntKind.u64 (fun p q=>p &&& q) y_ (4294967295:Int)))) (2 ^ min (Int.toNat (32:Int)) u64.bits)))) (2 ^ min (Int.toNat (32:Int)) u64.bits)))) + (Int.fdiv (u64.wrap ((bitsOf IntKind.u64 (fun p q=>p &&& q) (u64.wrap ((u64.wrap ((Int.fdiv x_ (2 ^ min (Int.toNat (32:Int)) u64.bits)) * (bitsOf IntKind.u64 (fun p q=>p &&& q) y_ (4294967295:Int)))) + (Int.fdiv (u64.wrap ((bitsOf IntKind.u64 (fun p q=>p &&& q) x_ (4294967295:Int)) * (bitsOf IntKind.u64 (fun p q=>p &&& q) y_ (4294967295:Int)))) (2 ^ min (Int.toNat (32:Int)) u64.bits)))) (4294967295:Int)) + (u64.wrap ((bitsOf IntKind.u64 (fun p q=>p &&& q) x_ (4294967295:Int)) * (Int.fdiv y_ (2 ^ min (Int.toNat (32:Int)) u64.bits)))))) (2 ^ min (Int.toNat (32:Int)) u64.bits)))),(u64.wrap (x_ * y_)))
def C105 : Con where
 X := Int×Int
 Y := Int×Int
 e := 0
 args x := [.dat T4 x.1,.dat T4 x.2]
 hin x := []
 F x := f105 x.1 x.2
 ret y := [.dat T4 y.1,.dat T4 y.2]
 hout y := []
 nout := 0
theorem C105_vc (x_:Int) (y_:Int) (y : Int×Int) (q : f105 x_ y_ = some y) : VC Tryz.f105 C105 (x_,y_) y := by
 unfold f105 at q
 refine OL (OL (OL (AI (by decide) (OL (OL (AI (by decide) (OL (OL (AI (by decide) (OL (OL (AI (by decide) (OL (OL (AI (by decide) (OL ?_))))))))))))))))
 cases sE q
 refine AI rfl (E4 [] (R3 (AI TV TV)))
theorem C105_holds : HP C105 105 := hH Tryz.f105 (by kernel_rfl) rfl (fun x y q=>C105_vc x.1 x.2 y q)
theorem f105_in : InP 105 := inP (by kernel_rfl)
def f134 (x_:Int) (y_:Int) : Option (Int×Int) :=
 bindF (f105 x_ y_) fun r1 =>
 some (r1.1,r1.2)
def C134 : Con where
 X := Int×Int
 Y := Int×Int
 e := 0
 args x := [.dat T4 x.1,.dat T4 x.2]
 hin x := []
 F x := f134 x.1 x.2
 ret y := [.dat T4 y.1,.dat T4 y.2]
 hout y := []
 nout := 0
theorem C134_vc (x_:Int) (y_:Int) (y : Int×Int) (q : f134 x_ y_ = some y) : VC Tryz.f134 C134 (x_,y_) y := by
 unfold f134 at q
 refine OL (OL (cF (OL ?_)))
 obtain ⟨r1,hr1,q⟩ := bE q
 refine OL (AI f105_in (cV (cQ C105 (x_,y_) r1 [] false C105_holds hr1 rfl rfl (R2 (K0 (OL ?_))))))
 cases sE q
 refine AI rfl (E4 [] (R3 (AI TV TV)))
theorem C134_holds : HP C134 134 := hH Tryz.f134 (by kernel_rfl) rfl (fun x y q=>C134_vc x.1 x.2 y q)
theorem f134_in : InP 134 := inP (by kernel_rfl)
def f109_j1 (r1 : Int×Int) : Option Unit :=
 bif (decide (r1.1 > (0:Int))) then
 none
 else
 bif (decide (r1.2 > (9223372036854775807:Int))) then
 none
 else
 some ()
def f109_l2 (go : (Int×LI) → Option LI) (n:Int) (l0 : LI) : Option LI :=
 bif (decide (n < (List.length l0:Int))) then
 guardF (0 ≤ n ∧ n ≤ (List.length l0:Int)) <|
 guardF (0 ≤ n ∧ n ≤ (List.length l0:Int)) <|
 go ((i64.wrap (n + (List.length (List.take (Int.toNat (List.length l0:Int) - Int.toNat n) (List.drop (Int.toNat (0:Int)) (List.take (Int.toNat n) l0))):Int))),(over l0 n (List.take (Int.toNat (List.length l0:Int) - Int.toNat n) (List.drop (Int.toNat (0:Int)) (List.take (Int.toNat n) l0)))))
 else
 some l0
def f109 (x_ : LI) (count:Int) : Option LI :=
 bif (decide (count < (0:Int))) then
 none
 else
 bindF (f134 (u64.wrap (List.length x_:Int)) (u64.wrap count)) fun r1 =>
 bindF (f109_j1 r1) fun z2 =>
 guardF (0 ≤ (i64.wrap r1.2) ∧ (i64.wrap r1.2) ≤ (i64.wrap r1.2) ∧ Int.toNat (i64.wrap r1.2) * 8 ≤ 140737488355328) <|
 bindF (loopF (fun go x=>f109_l2 go x.1 x.2) fuelN ((List.length (List.take (Int.toNat (List.length (List.replicate (Int.toNat (i64.wrap r1.2)) (0:Int)):Int) - Int.toNat (0:Int)) x_):Int),(over (List.replicate (Int.toNat (i64.wrap r1.2)) (0:Int)) (0:Int) (List.take (Int.toNat (List.length (List.replicate (Int.toNat (i64.wrap r1.2)) (0:Int)):Int) - Int.toNat (0:Int)) x_)))) fun z3 =>
 some z3
def C109 : Con where
 X := LI×Int
 Y := LI
 e := 0
 args x := [.dat T1 x.1,.dat T2 x.2]
 hin x := []
 F x := f109 x.1 x.2
 ret y := [O0 0]
 hout y := [(0,.arr 33 T2 y)]
 nout := 1
theorem C109_vc (x_ : LI) (count:Int) (y : LI) (q : f109 x_ count = some y) : VC Tryz.f109 C109 (x_,count) y := by
 unfold f109 at q
 refine OL (OL (OL (cI q (fun q=>?_) (fun q=>?_))))
 ·exact nomatch q
 refine OL ?_
 obtain ⟨r1,hr1,q⟩ := bE q
 refine OL (AI f134_in (cV (cQ C134 ((u64.wrap (List.length x_:Int)),(u64.wrap count)) r1 [] false C134_holds hr1 rfl rfl (R2 (K0 ?_)))))
 obtain ⟨z2,hz2,q⟩ := bE q
 refine OQ ⟨[(0,⟨[(0,.dat T1 x_),(6,.dat T4 r1.2)],[],0⟩)],?_,?_⟩
 ·have q := hz2
  clear hz2
  unfold f109_j1 at q
  refine OL (cN q (fun q=>?_) (fun q=>?_))
  ·refine gY (cF (cI q (fun q=>?_) (fun q=>?_)))
   ·exact nomatch q
   cases sE q
   refine E4 [] (R3 (AI TV TV))
  refine gN (cT (cT ?_))
  exact nomatch q
 refine AI (OL (gI q (fun q=>?_))) TV
 refine OL (OL ?_)
 obtain ⟨z3,hz3,q⟩ := bE q
 refine lI (Int×LI) LI (fun x=>⟨[(7,O0 0),(8,.dat T2 x.1)],[(0,.arr 33 T2 x.2)],1⟩) (fun z=>[(2,⟨[(7,O0 0)],[(0,.arr 33 T2 z)],1⟩)]) (loopF (fun go x=>f109_l2 go x.1 x.2)) fuelN ((List.length (List.take (Int.toNat (List.length (List.replicate (Int.toNat (i64.wrap r1.2)) (0:Int)):Int) - Int.toNat (0:Int)) x_):Int),(over (List.replicate (Int.toNat (i64.wrap r1.2)) (0:Int)) (0:Int) (List.take (Int.toNat (List.length (List.replicate (Int.toNat (i64.wrap r1.2)) (0:Int)):Int) - Int.toNat (0:Int)) x_))) z3 (AI hz3 (AI (E4 [(0,some 0)] (R2 (AJ (AI rfl TV)))) (AI (fun _ _ h=>lZ h) (AI (fun m=>curI (fun n=>fun l0 z q=>?_)) ?_))))
 ·have q : f109_l2 (loopF (fun go x=>f109_l2 go x.1 x.2) m) n l0 = some z := q
  unfold f109_l2 at q
  refine OL (OL (cI q (fun q=>?_) (fun q=>?_)))
  ·refine EI (.take 0 (.take 1 (.take 2 (.take 3 (.take 4 (.take 5 (.take 6 (.alt 7 (.take 8 (.take 9 .done)) .done)))))))) (EI [] (EI [] (AI rfl (gI q (fun q=>?_)))))
   refine gI q (fun q=>?_)
   refine AI TV (EI ((i64.wrap (n + (List.length (List.take (Int.toNat (List.length l0:Int) - Int.toNat n) (List.drop (Int.toNat (0:Int)) (List.take (Int.toNat n) l0))):Int))),(over l0 n (List.take (Int.toNat (List.length l0:Int) - Int.toNat n) (List.drop (Int.toNat (0:Int)) (List.take (Int.toNat n) l0))))) (AI q (E4 [(0,some 0)] (R2 (AJ (AI rfl TV))))))
  cases sE q
  refine E4 [(0,some 0)] (AI rfl (AJ (AI rfl TV)))
 refine AI (OL ?_) TV
 cases sE q
 refine AI rfl (E4 [(0,some 0)] (AI rfl (AJ (AI rfl TV))))
theorem C109_holds : HP C109 109 := hH Tryz.f109 (by kernel_rfl) rfl (fun x y q=>C109_vc x.1 x.2 y q)
theorem f109_in : InP 109 := inP (by kernel_rfl)
def f70 (d : LI) (v:Int) : Option (Int×LI×LI) :=
 bindF (f33 d) fun r1 =>
 bif (!r1) then
 some ((1:Int),[],[])
 else
 bindF (f31 d) fun r2 =>
 bindF (f34 d) fun r3 =>
 bindF (f109 ([v]) r3) fun r4 =>
 some ((0:Int),r2,r4)
def C70 : Con where
 X := LI×Int
 Y := Int×LI×LI
 e := 0
 args x := [.dat T1 x.1,.dat T2 x.2]
 hin x := []
 F x := f70 x.1 x.2
 ret y := [.raw true [(.osl 0),(.osl 1)],.dat T2 y.1]
 hout y := [(0,.arr 3 T2 y.2.1),(1,.arr 33 T2 y.2.2)]
 nout := 2
theorem C70_vc (d : LI) (v:Int) (y : Int×LI×LI) (q : f70 d v = some y) : VC Tryz.f70 C70 (d,v) y := by
 unfold f70 at q
 refine OL (OL (OL ?_))
 obtain ⟨r1,hr1,q⟩ := bE q
 refine OL (AI f33_in (cV (cQ C33 d r1 [] false C33_holds hr1 rfl rfl (AI rfl (K0 (cI q (fun q=>?_) (fun q=>?_)))))))
 ·refine OL (OL ?_)
  cases sE q
  refine AI rfl (E4 [(0,none),(1,none)] (R2 (AJ (R2 TV))))
 refine OL ?_
 obtain ⟨r2,hr2,q⟩ := bE q
 refine OL (AI f31_in (cV (cQ C31 d r2 [] false C31_holds hr2 rfl rfl (AI rfl (K0 (OL ?_))))))
 obtain ⟨r3,hr3,q⟩ := bE q
 refine OL (AI f34_in (cV (cQ C34 d r3 [] false C34_holds hr3 rfl rfl (AI rfl (K0 ?_)))))
 obtain ⟨r4,hr4,q⟩ := bE q
 refine OL (AI f109_in (cV (cQ C109 ([v],r3) r4 [] true C109_holds hr4 rfl rfl (R2 (AI (fun _=>rfl) (R2 (AI TV (AI TV (OL ?_)))))))))
 cases sE q
 refine AI rfl (E4 [(0,some 1),(1,some 3)] (R2 (AJ (R2 TV))))
theorem C70_holds : HP C70 70 := hH Tryz.f70 (by kernel_rfl) rfl (fun x y q=>C70_vc x.1 x.2 y q)
theorem f70_in : InP 70 := inP (by kernel_rfl)
def f78_l1 (d : LI) (go : (Int×Int×LI) → Option LI) (n:Int) (i:Int) (l0 : LI) : Option LI :=
 bif (decide (i ≥ (0:Int))) then
 guardF (0 ≤ i ∧ i < (List.length l0:Int)) <|
 guardF (0 ≤ i ∧ i < (List.length d:Int)) <|
 go ((i64.wrap (n * (rd (0:Int) d i))),(i64.wrap (i - (1:Int))),(List.set l0 (Int.toNat i) n))
 else
 some l0
def f78 (d : LI) : Option LI :=
 bindF (f33 d) fun r1 =>
 bif (!r1) then
 some ([])
 else
 guardF (0 ≤ (List.length d:Int) ∧ (List.length d:Int) ≤ (List.length d:Int) ∧ Int.toNat (List.length d:Int) * 8 ≤ 140737488355328) <|
 bindF (loopF (fun go x=>f78_l1 d go x.1 x.2.1 x.2.2) fuelN ((1:Int),(i64.wrap ((List.length d:Int) - (1:Int))),(List.replicate (Int.toNat (List.length d:Int)) (0:Int)))) fun z2 =>
 some z2
def C78 : Con where
 X := LI
 Y := LI
 e := 0
 args x := [.dat T1 x]
 hin x := []
 F x := f78 x
 ret y := [O0 0]
 hout y := [(0,.arr 3 T2 y)]
 nout := 1
theorem C78_vc (d : LI) (y : LI) (q : f78 d = some y) : VC Tryz.f78 C78 d y := by
 unfold f78 at q
 refine OL (OL (OL ?_))
 obtain ⟨r1,hr1,q⟩ := bE q
 refine OL (AI f33_in (cV (cQ C33 d r1 [] false C33_holds hr1 rfl rfl (AI rfl (K0 (cI q (fun q=>?_) (fun q=>?_)))))))
 ·cases sE q
  refine OL (AI rfl (E4 [(0,none)] (AI rfl (AJ (AI rfl TV)))))
 refine OL (gI q (fun q=>?_))
 refine OL (OL (OL ?_))
 obtain ⟨z2,hz2,q⟩ := bE q
 refine lI (Int×Int×LI) LI (fun x=>⟨[(0,.dat T1 d),(3,O0 0),(4,.dat T2 x.1),(5,.dat T2 x.2.1)],[(0,.arr 3 T2 x.2.2)],1⟩) (fun z=>[(2,⟨[(3,O0 0)],[(0,.arr 3 T2 z)],1⟩)]) (loopF (fun go x=>f78_l1 d go x.1 x.2.1 x.2.2)) fuelN ((1:Int),(i64.wrap ((List.length d:Int) - (1:Int))),(List.replicate (Int.toNat (List.length d:Int)) (0:Int))) z2 (AI hz2 (AI (E4 [(0,some 0)] (R4 (AJ (AI rfl TV)))) (AI (fun _ _ h=>lZ h) (AI (fun m=>curI (fun n=>curI (fun i=>fun l0 z q=>?_))) ?_))))
 ·have q : f78_l1 d (loopF (fun go x=>f78_l1 d go x.1 x.2.1 x.2.2) m) n i l0 = some z := q
  unfold f78_l1 at q
  refine OL (OL (cI q (fun q=>?_) (fun q=>?_)))
  ·refine OL (OL (gI q (fun q=>?_)))
   refine OL (gI q (fun q=>?_))
   refine EI ((i64.wrap (n * (rd (0:Int) d i))),(i64.wrap (i - (1:Int))),(List.set l0 (Int.toNat i) n)) (AI q (E4 [(0,some 0)] (R4 (AJ (AI rfl TV)))))
  cases sE q
  refine E4 [(0,some 0)] (AI rfl (AJ (AI rfl TV)))
 refine AI (OL ?_) TV
 cases sE q
 refine AI rfl (E4 [(0,some 0)] (AI rfl (AJ (AI rfl TV))))
theorem C78_holds : HP C78 78 := hH Tryz.f78 (by kernel_rfl) rfl (fun x y q=>C78_vc x y q)
theorem f78_in : InP 78 := inP (by kernel_rfl)
def f104_j13 (d : LI) (big : LI) (q11_19 : LI) (v23:Int) (rest:Int) (i:Int) (l1_2 : LI) : Option LI :=
 guardF (0 ≤ (i64.wrap (i - (i64.wrap ((List.length big:Int) - (List.length d:Int))))) ∧ (i64.wrap (i - (i64.wrap ((List.length big:Int) - (List.length d:Int))))) < (List.length d:Int)) <|
 bif (decide ((rd (0:Int) d (i64.wrap (i - (i64.wrap ((List.length big:Int) - (List.length d:Int)))))) > (1:Int))) then
 guardF (0 ≤ v23 ∧ v23 < (List.length l1_2:Int)) <|
 guardF (0 ≤ i ∧ i < (List.length big:Int)) <|
 guardF ((rd (0:Int) big i) ≠ 0) <|
 guardF (0 ≤ (i64.wrap (i - (i64.wrap ((List.length big:Int) - (List.length d:Int))))) ∧ (i64.wrap (i - (i64.wrap ((List.length big:Int) - (List.length d:Int))))) < (List.length q11_19:Int)) <|
 guardF (0 ≤ v23 ∧ v23 < (List.length l1_2:Int)) <|
 some (List.set l1_2 (Int.toNat v23) (i64.wrap ((rd (0:Int) l1_2 v23) + (i64.wrap ((Int.tmod rest (rd (0:Int) big i)) * (rd (0:Int) q11_19 (i64.wrap (i - (i64.wrap ((List.length big:Int) - (List.length d:Int)))))))))))
 else
 some l1_2
def f104_l12 (d : LI) (big : LI) (q11_19 : LI) (v23:Int) (go : (Int×Int×LI) → Option LI) (rest:Int) (i:Int) (l1_2 : LI) : Option LI :=
 bif (decide (i ≥ (i64.wrap ((List.length big:Int) - (List.length d:Int))))) then
 bindF (f104_j13 d big q11_19 v23 rest i l1_2) fun z14 =>
 guardF (0 ≤ i ∧ i < (List.length big:Int)) <|
 guardF ((rd (0:Int) big i) ≠ 0) <|
 go ((i64.wrap (Int.tdiv rest (rd (0:Int) big i))),(i64.wrap (i - (1:Int))),z14)
 else
 some l1_2
def f104_l9 (d : LI) (big : LI) (q11_19 : LI) (r1:Int) (go : (Int×LI) → Option LI) (v23:Int) (l1 : LI) : Option LI :=
 bif (decide (v23 < (List.length (List.replicate (Int.toNat r1) (0:Int)):Int))) then
 bindF (loopF (fun go x=>f104_l12 d big q11_19 v23 go x.1 x.2.1 x.2.2) fuelN (v23,(i64.wrap ((List.length big:Int) - (1:Int))),l1)) fun z13 =>
 go ((i64.wrap (v23 + (1:Int))),z13)
 else
 some l1
def f104 (d : LI) (big : LI) : Option LI :=
 bindF (f78 d) fun q11_19 =>
 bindF (f34 big) fun r1 =>
 guardF (0 ≤ r1 ∧ r1 ≤ r1 ∧ Int.toNat r1 * 8 ≤ 140737488355328) <|
 bindF (loopF (fun go x=>f104_l9 d big q11_19 r1 go x.1 x.2) fuelN ((0:Int),(List.replicate (Int.toNat r1) (0:Int)))) fun z10 =>
 some z10
def C104 : Con where
 X := LI×LI
 Y := LI
 e := 0
 args x := [.dat T1 x.1,.dat T1 x.2]
 hin x := []
 F x := f104 x.1 x.2
 ret y := [O0 0]
 hout y := [(0,.arr 3 T2 y)]
 nout := 1
theorem C104_vc (d : LI) (big : LI) (y : LI) (q : f104 d big = some y) : VC Tryz.f104 C104 (d,big) y := by
 unfold f104 at q
 refine OL (OL ?_)
 obtain ⟨q11_19,hq11_19,q⟩ := bE q
 refine OL (AI f78_in (cV (cQ C78 d q11_19 [] false C78_holds hq11_19 rfl rfl (AI rfl (K0 (OL ?_))))))
 obtain ⟨r1,hr1,q⟩ := bE q
 refine OL (AI f34_in (cV (cQ C34 big r1 [] false C34_holds hr1 rfl rfl (AI rfl (K0 (gI q (fun q=>?_)))))))
 refine OL (OL ?_)
 obtain ⟨z10,hz10,q⟩ := bE q
 refine lI (Int×LI) LI (fun x=>⟨[(0,.dat T1 d),(1,.dat T1 big),(5,O0 0),(6,.dat T2 (i64.wrap ((List.length big:Int) - (List.length d:Int)))),(7,O0 1),(22,.dat T2 (List.length (List.replicate (Int.toNat r1) (0:Int)):Int)),(23,.dat T2 x.1)],[(0,.arr 3 T2 q11_19),(1,.arr 3 T2 x.2)],2⟩) (fun z=>[(2,⟨[(7,O0 0)],[(0,.arr 3 T2 z)],1⟩)]) (loopF (fun go x=>f104_l9 d big q11_19 r1 go x.1 x.2)) fuelN ((0:Int),(List.replicate (Int.toNat r1) (0:Int))) z10 (AI hz10 (AI (E4 I2 (R6 (AI (R2 TV) (R2 TV)))) (AI (fun _ _ h=>lZ h) (AI (fun m=>curI (fun v23=>fun l1 z q=>?_)) ?_))))
 ·have q : f104_l9 d big q11_19 r1 (loopF (fun go x=>f104_l9 d big q11_19 r1 go x.1 x.2) m) v23 l1 = some z := q
  unfold f104_l9 at q
  refine OL (OL (cI q (fun q=>?_) (fun q=>?_)))
  ·refine OL (OL (OL (OL ?_)))
   obtain ⟨z13,hz13,q⟩ := bE q
   refine lI (Int×Int×LI) LI (fun x=>⟨[(0,.dat T1 d),(1,.dat T1 big),(5,O0 0),(6,.dat T2 (i64.wrap ((List.length big:Int) - (List.length d:Int)))),(7,O0 1),(8,.dat T2 v23),(9,.dat T2 x.1),(10,.dat T2 x.2.1),(22,.dat T2 (List.length (List.replicate (Int.toNat r1) (0:Int)):Int)),(23,.dat T2 v23)],[(0,.arr 3 T2 q11_19),(1,.arr 3 T2 x.2.2)],2⟩) (fun z=>[(4,⟨[(0,.dat T1 d),(1,.dat T1 big),(5,O0 0),(6,.dat T2 (i64.wrap ((List.length big:Int) - (List.length d:Int)))),(7,O0 1),(22,.dat T2 (List.length (List.replicate (Int.toNat r1) (0:Int)):Int)),(23,.dat T2 v23)],[(0,.arr 3 T2 q11_19),(1,.arr 3 T2 z)],2⟩)]) (loopF (fun go x=>f104_l12 d big q11_19 v23 go x.1 x.2.1 x.2.2)) fuelN (v23,(i64.wrap ((List.length big:Int) - (1:Int))),l1) z13 (AI hz13 (AI (E4 I2 (R9 (AI (R2 TV) (R2 TV)))) (AI (fun _ _ h=>lZ h) (AI (fun m=>curI (fun rest=>curI (fun i=>fun l1_2 z q=>?_))) ?_))))
   ·have q : f104_l12 d big q11_19 v23 (loopF (fun go x=>f104_l12 d big q11_19 v23 go x.1 x.2.1 x.2.2) m) rest i l1_2 = some z := q
    unfold f104_l12 at q
    refine OL (OL (cI q (fun q=>?_) (fun q=>?_)))
    ·refine OL ?_
     obtain ⟨z14,hz14,q⟩ := bE q
     refine OQ ⟨[(0,⟨[(0,.dat T1 d),(1,.dat T1 big),(5,O0 0),(6,.dat T2 (i64.wrap ((List.length big:Int) - (List.length d:Int)))),(7,O0 1),(8,.dat T2 v23),(9,.dat T2 rest),(10,.dat T2 i),(22,.dat T2 (List.length (List.replicate (Int.toNat r1) (0:Int)):Int)),(23,.dat T2 v23)],[(0,.arr 3 T2 q11_19),(1,.arr 3 T2 z14)],2⟩)],?_,?_⟩
     ·have q := hz14
      clear hz14
      unfold f104_j13 at q
      refine OL (gI q (fun q=>?_))
      refine cI q (fun q=>?_) (fun q=>?_)
      ·refine EI (.take 0 (.take 1 (.take 2 (.take 3 (.take 4 (.take 5 (.take 6 (.take 7 (.take 8 (.take 9 (.take 10 (.take 11 (.take 12 (.take 13 (.take 14 (.take 15 (.take 16 (.take 17 (.take 18 (.alt 19 .done .done)))))))))))))))))))) (EI [(19,[1])] (EI [] (AI rfl (gI q (fun q=>?_)))))
       refine gI q (fun q=>?_)
       refine gI q (fun q=>?_)
       refine gI q (fun q=>?_)
       refine gI q (fun q=>?_)
       refine AI TV (OL ?_)
       cases sE q
       refine E4 I2 (R9 (AI (R2 TV) (R2 TV)))
      cases sE q
      refine E4 I2 (R9 (AI (R2 TV) (R2 TV)))
     refine AI (gI q (fun q=>?_)) TV
     refine gI q (fun q=>?_)
     refine EI ((i64.wrap (Int.tdiv rest (rd (0:Int) big i))),(i64.wrap (i - (1:Int))),z14) (AI q (E4 I2 (R9 (AI (R2 TV) (R2 TV)))))
    cases sE q
    refine E4 I2 (R6 (AI (R2 TV) (R2 TV)))
   refine AI (EI ((i64.wrap (v23 + (1:Int))),z13) (AI q (E4 I2 (R6 (AI (R2 TV) (R2 TV)))))) TV
  cases sE q
  refine E4 [(0,some 1)] (AI rfl (AJ (AI rfl TV)))
 refine AI (OL ?_) TV
 cases sE q
 refine AI rfl (E4 [(0,some 0)] (AI rfl (AJ (AI rfl TV))))
theorem C104_holds : HP C104 104 := hH Tryz.f104 (by kernel_rfl) rfl (fun x y q=>C104_vc x.1 x.2 y q)
theorem f104_in : InP 104 := inP (by kernel_rfl)
def f66_j1 (a:Int) (b:Int) : Option (Sum Unit Unit) :=
 bif (!((decide (a < (0:Int))) == (decide (b < (0:Int))))) then
 some (Sum.inr ())
 else
 bif ((decide ((i64.wrap (a + b)) < (0:Int))) == (decide (a < (0:Int)))) then
 some (Sum.inr ())
 else
 some (Sum.inl ())
def f66 (a:Int) (b:Int) : Option Int :=
 bindF (f66_j1 a b) fun z1 =>
 sumF z1 (fun z1a =>
 bif (decide (a < (0:Int))) then
 some (-9223372036854775808:Int)
 else
 some (9223372036854775807:Int)) (fun z1b =>
 some (i64.wrap (a + b)))
def C66 : Con where
 X := Int×Int
 Y := Int
 e := 0
 args x := [.dat T2 x.1,.dat T2 x.2]
 hin x := []
 F x := f66 x.1 x.2
 ret y := [.dat T2 y]
 hout y := []
 nout := 0
theorem C66_vc (a:Int) (b:Int) (y:Int) (q : f66 a b = some y) : VC Tryz.f66 C66 (a,b) y := by
 unfold f66 at q
 refine OL (OL ?_)
 obtain ⟨z1,hz1,q⟩ := bE q
 refine OQ ⟨Sum.elim (fun z1a=>[(0,⟨[(0,.dat T2 a)],[],0⟩)]) (fun z1b=>[(1,⟨[(4,.dat T2 (i64.wrap (a + b)))],[],0⟩)]) z1,?_,?_⟩
 ·have q := hz1
  clear hz1
  unfold f66_j1 at q
  refine OL (cN q (fun q=>?_) (fun q=>?_))
  ·refine gY (gY (gY (gY (cF (cI q (fun q=>?_) (fun q=>?_))))))
   ·cases sE q
    refine OL (E4 [] (R2 (AI TV TV)))
   cases sE q
   refine E4 [] (R2 (AI TV TV))
  refine gN (gN (gN (gN (cT (cT (OL ?_))))))
  cases sE q
  refine E4 [] (R2 (AI TV TV))
 rcases z1 with z1a | z1b
 ·dsimp only [sumF] at q
  refine AI (OL (OL (cI q (fun q=>?_) (fun q=>?_)))) TV
  ·cases sE q
   refine OL (AI rfl (E4 [] (R2 (AI TV TV))))
  cases sE q
  refine OL (AI rfl (E4 [] (R2 (AI TV TV))))
 dsimp only [sumF] at q
 refine AI ?_ TV
 cases sE q
 refine AI rfl (E4 [] (R2 (AI TV TV)))
theorem C66_holds : HP C66 66 := hH Tryz.f66 (by kernel_rfl) rfl (fun x y q=>C66_vc x.1 x.2 y q)
theorem f66_in : InP 66 := inP (by kernel_rfl)
def f65_66_j3 (a : LI×LI) (b : LI×LI) : Option Bool :=
 bindF (f21 (a.1,a.2)) fun r9 =>
 bif (!r9) then
 some true
 else
 bindF (f21 (b.1,b.2)) fun r10 =>
 some (!r10)
def f65_66_j2 (a : LI×LI) (b : LI×LI) : Option (Sum Unit Unit) :=
 bindF (f65_66_j3 a b) fun z8 =>
 bif z8 then
 some (Sum.inr ())
 else
 some (Sum.inl ())
def f65_66_l4 (a : LI×LI) (b : LI×LI) (r12 : Int×LI×LI) (q7_3 : LI) (q7_7 : LI) (go : (Int×LI) → Option LI) (v52:Int) (l7 : LI) : Option LI :=
 bif (decide (v52 < (List.length r12.2.2:Int))) then
 guardF (0 ≤ v52 ∧ v52 < (List.length q7_3:Int)) <|
 guardF (0 ≤ (rd (0:Int) q7_3 v52) ∧ (rd (0:Int) q7_3 v52) < (List.length a.2:Int)) <|
 guardF (0 ≤ v52 ∧ v52 < (List.length q7_7:Int)) <|
 guardF (0 ≤ (rd (0:Int) q7_7 v52) ∧ (rd (0:Int) q7_7 v52) < (List.length b.2:Int)) <|
 bindF (f66 (rd (0:Int) a.2 (rd (0:Int) q7_3 v52)) (rd (0:Int) b.2 (rd (0:Int) q7_7 v52))) fun q11_20 =>
 guardF (0 ≤ v52 ∧ v52 < (List.length l7:Int)) <|
 go ((i64.wrap (v52 + (1:Int))),(List.set l7 (Int.toNat v52) q11_20))
 else
 some l7
def f65_66 (a : LI×LI) (b : LI×LI) : Option (Int×LI×LI) :=
 bindF (f65_66_j2 a b) fun z5 =>
 sumF z5 (fun z5a =>
 bindF (f103 a.1 b.1) fun r11 =>
 bif (r11.1 != (0:Int)) then
 some (r11.1,[],[])
 else
 bindF (f70 r11.2 (0:Int)) fun r12 =>
 bindF (f104 a.1 r11.2) fun q7_3 =>
 bindF (f104 b.1 r11.2) fun q7_7 =>
 bindF (loopF (fun go x=>f65_66_l4 a b r12 q7_3 q7_7 go x.1 x.2) fuelN ((0:Int),r12.2.2)) fun z13 =>
 some ((0:Int),r12.2.1,z13)) (fun z5b =>
 some ((1:Int),[],[]))
def C65_66 : Con where
 X := (LI×LI)×(LI×LI)
 Y := Int×LI×LI
 e := 0
 args x := [.dat T3 x.1,.dat T3 x.2,.raw false [(.c (.func (.func 66) #[] #[]))]]
 hin x := []
 F x := f65_66 x.1 x.2
 ret y := [.raw true [(.osl 0),(.osl 1)],.dat T2 y.1]
 hout y := [(0,.arr 3 T2 y.2.1),(1,.arr 33 T2 y.2.2)]
 nout := 2
theorem C65_66_vc (a : LI×LI) (b : LI×LI) (y : Int×LI×LI) (q : f65_66 a b = some y) : VC Tryz.f65 C65_66 (a,b) y := by
 unfold f65_66 at q
 refine OL ?_
 obtain ⟨z5,hz5,q⟩ := bE q
 refine OQ ⟨Sum.elim (fun z5a=>[(0,⟨[(2,.raw false [(.c (.func (.func 66) #[] #[]))]),(3,P0 0 0),(4,P0 1 0),(6,P0 2 0)],[(0,.cells [(.d T1 a.1),(.d T1 a.2)]),(1,.cells [(.d T1 b.1),(.d T1 b.2)]),(2,.cells [N0,N0])],3⟩)]) (fun z5b=>[(1,⟨[(6,P0 0 0),(7,D0 1)],[(0,.cells [N0,N0])],1⟩)]) z5,?_,?_⟩
 ·have q := hz5
  clear hz5
  unfold f65_66_j2 at q
  obtain ⟨z8,hz8,q⟩ := bE q
  refine OQ ⟨[(0,⟨[(2,.raw false [(.c (.func (.func 66) #[] #[]))]),(3,P0 0 0),(4,P0 1 0),(6,P0 2 0),(22,.dat .bool z8)],[(0,.cells [(.d T1 a.1),(.d T1 a.2)]),(1,.cells [(.d T1 b.1),(.d T1 b.2)]),(2,.cells [N0,N0])],3⟩)],?_,?_⟩
  ·have q := hz8
   clear hz8
   unfold f65_66_j3 at q
   obtain ⟨r9,hr9,q⟩ := bE q
   refine OL (AI f21_in (cV (cQ C21 (a.1,a.2) r9 [] false C21_holds hr9 rfl rfl (R2 (K0 (cN q (fun q=>?_) (fun q=>?_)))))))
   ·refine gY ?_
    obtain ⟨r10,hr10,q⟩ := bE q
    refine OL (AI f21_in (cV (cQ C21 (b.1,b.2) r10 [] false C21_holds hr10 rfl rfl (R2 (K0 (gY (cF ?_)))))))
    cases sE q
    refine E4 I3 (R2 (AI (R4 TV) (R3 TV)))
   refine gN (gN (cT ?_))
   cases sE q
   refine E4 I3 (R2 (AI (R4 TV) (R3 TV)))
  refine AI (cI q (fun q=>?_) (fun q=>?_)) TV
  ·refine OL (OL ?_)
   cases sE q
   refine E4 [(0,some 2)] (R2 (AJ (AI rfl TV)))
  cases sE q
  refine E4 I3 (AI rfl (AI (R4 TV) (R3 TV)))
 rcases z5 with z5a | z5b
 ·dsimp only [sumF] at q
  refine AI (OL ?_) TV
  obtain ⟨r11,hr11,q⟩ := bE q
  refine OL (AI f103_in (cV (cQ C103 (a.1,b.1) r11 [] false C103_holds hr11 rfl rfl (R2 (K0 (OL (OL (cI q (fun q=>?_) (fun q=>?_)))))))))
  ·refine OL (OL ?_)
   cases sE q
   refine AI rfl (E4 [(0,none),(1,none)] (R2 (AJ (R2 TV))))
  refine OL ?_
  obtain ⟨r12,hr12,q⟩ := bE q
  refine OL (AI f70_in (cV (cQ C70 (r11.2,(0:Int)) r12 [] true C70_holds hr12 rfl rfl (R2 (AI (fun _=>rfl) (R2 (AI TV (AI TV (OL (OL (EI (.take 0 (.take 1 (.take 2 (.take 4 (.take 5 (.take 6 (.alt 3 (.alt 7 (.take 8 (.take 9 .done)) .done) .done))))))) (EI [] (EI [] (AI rfl (AI TV ?_)))))))))))))))
  obtain ⟨q7_3,hq7_3,q⟩ := bE q
  refine OL (AI f104_in (cV (cQ C104 (a.1,r11.2) q7_3 [] true C104_holds hq7_3 rfl rfl (R2 (AI (fun _=>rfl) (R2 (AI TV (AI TV (AI TV ?_)))))))))
  obtain ⟨q7_7,hq7_7,q⟩ := bE q
  refine OL (AI f104_in (cV (cQ C104 (b.1,r11.2) q7_7 [] true C104_holds hq7_7 rfl rfl (R2 (AI (fun _=>rfl) (R2 (AI TV (AI TV (OL (OL ?_))))))))))
  obtain ⟨z13,hz13,q⟩ := bE q
  refine lI (Int×LI) LI (fun x=>⟨[(2,.raw false [(.c (.func (.func 66) #[] #[]))]),(3,P0 0 0),(4,P0 1 0),(6,P0 2 0),(10,P0 3 0),(12,O0 4),(13,O0 5),(51,.dat T2 (List.length r12.2.2:Int)),(52,.dat T2 x.1)],[(0,.cells [(.d T1 a.1),(.d T1 a.2)]),(1,.cells [(.d T1 b.1),(.d T1 b.2)]),(2,.cells [N0,N0]),(3,.cells [(.osl 6),(.osl 7)]),(4,.arr 3 T2 q7_3),(5,.arr 3 T2 q7_7),(6,.arr 3 T2 r12.2.1),(7,.arr 33 T2 x.2)],8⟩) (fun z=>[(2,⟨[(6,P0 0 0),(10,P0 1 0)],[(0,.cells [N0,N0]),(1,.cells [(.osl 2),(.osl 3)]),(2,.arr 3 T2 r12.2.1),(3,.arr 33 T2 z)],4⟩)]) (loopF (fun go x=>f65_66_l4 a b r12 q7_3 q7_7 go x.1 x.2)) fuelN ((0:Int),r12.2.2) z13 (AI hz13 (AI (E4 [(0,some 0),(1,some 1),(2,some 2),(3,some 6),(4,some 7),(5,some 8),(6,some 4),(7,some 5)] (R3 (AI (R7 TV) (R8 TV)))) (AI (fun _ _ h=>lZ h) (AI (fun m=>curI (fun v52=>fun l7 z q=>?_)) ?_))))
  ·have q : f65_66_l4 a b r12 q7_3 q7_7 (loopF (fun go x=>f65_66_l4 a b r12 q7_3 q7_7 go x.1 x.2) m) v52 l7 = some z := q
   unfold f65_66_l4 at q
   refine OL (OL (cI q (fun q=>?_) (fun q=>?_)))
   ·refine OL (OL (EI (.take 0 (.take 1 (.take 2 (.take 3 (.take 4 (.take 5 (.take 6 (.take 7 (.take 8 (.take 9 (.take 10 (.take 11 (.take 12 (.take 13 (.take 14 (.take 15 (.take 16 (.take 17 (.take 18 (.take 19 (.alt 20 (.take 21 (.alt 22 .done .done)) .done))))))))))))))))))))) (EI [] (EI [] (AI rfl (gI q (fun q=>?_)))))))
    refine gI q (fun q=>?_)
    refine gI q (fun q=>?_)
    refine gI q (fun q=>?_)
    refine AI TV ?_
    obtain ⟨q11_20,hq11_20,q⟩ := bE q
    refine OL (AI f66_in (cV (cQ C66 ((rd (0:Int) a.2 (rd (0:Int) q7_3 v52)),(rd (0:Int) b.2 (rd (0:Int) q7_7 v52))) q11_20 [] false C66_holds hq11_20 rfl rfl (R2 (K0 (gI q (fun q=>?_)))))))
    refine AI TV (OL (EI ((i64.wrap (v52 + (1:Int))),(List.set l7 (Int.toNat v52) q11_20)) (AI q (E4 I8 (R3 (AI (R7 TV) (R8 TV)))))))
   cases sE q
   refine E4 [(0,some 2),(1,some 3),(2,some 6),(3,some 7)] (AI rfl (AI (R2 TV) (R4 TV)))
  refine AI (OL (OL ?_)) TV
  cases sE q
  refine AI rfl (E4 [(0,some 2),(1,some 3)] (R2 (AJ (R2 TV))))
 dsimp only [sumF] at q
 refine AI ?_ TV
 cases sE q
 refine AI rfl (E4 [(0,none),(1,none)] (R2 (AJ (R2 TV))))
theorem C65_66_holds : HP C65_66 65 := hH Tryz.f65 (by kernel_rfl) rfl (fun x y q=>C65_66_vc x.1 x.2 y q)
theorem f65_66_in : ∃ fn,Tryz.prog.funcs[65]? = some fn ∧ fn.body.isSome = true ∧ (fn.name == "runtime.NumGoroutine") = false := ⟨Tryz.f65,by kernel_rfl,by kernel_rfl,by kernel_rfl⟩
def f35 (a : LI×LI) (b : LI×LI) : Option (Int×LI×LI) :=
 bindF (f65_66 (a.1,a.2) (b.1,b.2)) fun r1 =>
 some (r1.1,r1.2.1,r1.2.2)
def C35 : Con where
 X := (LI×LI)×(LI×LI)
 Y := Int×LI×LI
 e := 0
 args x := [.dat T3 x.1,.dat T3 x.2]
 hin x := []
 F x := f35 x.1 x.2
 ret y := [.raw true [(.osl 0),(.osl 1)],.dat T2 y.1]
 hout y := [(0,.arr 3 T2 y.2.1),(1,.arr 33 T2 y.2.2)]
 nout := 2
theorem C35_vc (a : LI×LI) (b : LI×LI) (y : Int×LI×LI) (q : f35 a b = some y) : VC Tryz.f35 C35 (a,b) y := by
 unfold f35 at q
 refine OL (OL ?_)
 obtain ⟨r1,hr1,q⟩ := bE q
 refine OL (AI f65_66_in (cV (cQ C65_66 ((a.1,a.2),(b.1,b.2)) r1 [] false C65_66_holds hr1 rfl rfl (R4 (AI NH (R2 (AJ (AI TV (OL ?_)))))))))
 cases sE q
 refine AI rfl (E4 [(0,some 3),(1,some 4)] (R2 (AJ (R2 TV))))
theorem C35_holds : HP C35 35 := hH Tryz.f35 (by kernel_rfl) rfl (fun x y q=>C35_vc x.1 x.2 y q)
theorem f35_in : InP 35 := inP (by kernel_rfl)
def f67_j1 (a:Int) (b:Int) : Option (Sum Unit Unit) :=
 bif ((decide (a < (0:Int))) == (decide (b < (0:Int)))) then
 some (Sum.inr ())
 else
 bif ((decide ((i64.wrap (a - b)) < (0:Int))) == (decide (a < (0:Int)))) then
 some (Sum.inr ())
 else
 some (Sum.inl ())
def f67 (a:Int) (b:Int) : Option Int :=
 bindF (f67_j1 a b) fun z1 =>
 sumF z1 (fun z1a =>
 bif (decide (a < (0:Int))) then
 some (-9223372036854775808:Int)
 else
 some (9223372036854775807:Int)) (fun z1b =>
 some (i64.wrap (a - b)))
def C67 : Con where
 X := Int×Int
 Y := Int
 e := 0
 args x := [.dat T2 x.1,.dat T2 x.2]
 hin x := []
 F x := f67 x.1 x.2
 ret y := [.dat T2 y]
 hout y := []
 nout := 0
theorem C67_vc (a:Int) (b:Int) (y:Int) (q : f67 a b = some y) : VC Tryz.f67 C67 (a,b) y := by
 unfold f67 at q
 refine OL (OL ?_)
 obtain ⟨z1,hz1,q⟩ := bE q
 refine OQ ⟨Sum.elim (fun z1a=>[(0,⟨[(0,.dat T2 a)],[],0⟩)]) (fun z1b=>[(1,⟨[(4,.dat T2 (i64.wrap (a - b)))],[],0⟩)]) z1,?_,?_⟩
 ·have q := hz1
  clear hz1
  unfold f67_j1 at q
  refine OL (cN q (fun q=>?_) (fun q=>?_))
  ·refine gY (gY (gY (gY (cF (cI q (fun q=>?_) (fun q=>?_))))))
   ·cases sE q
    refine OL (E4 [] (R2 (AI TV TV)))
   cases sE q
   refine E4 [] (R2 (AI TV TV))
  refine gN (gN (gN (gN (cT (cT (OL ?_))))))
  cases sE q
  refine E4 [] (R2 (AI TV TV))
 rcases z1 with z1a | z1b
 ·dsimp only [sumF] at q
  refine AI (OL (OL (cI q (fun q=>?_) (fun q=>?_)))) TV
  ·cases sE q
   refine OL (AI rfl (E4 [] (R2 (AI TV TV))))
  cases sE q
  refine OL (AI rfl (E4 [] (R2 (AI TV TV))))
 dsimp only [sumF] at q
 refine AI ?_ TV
 cases sE q
 refine AI rfl (E4 [] (R2 (AI TV TV)))
theorem C67_holds : HP C67 67 := hH Tryz.f67 (by kernel_rfl) rfl (fun x y q=>C67_vc x.1 x.2 y q)
theorem f67_in : InP 67 := inP (by kernel_rfl)
def f65_67_j3 (a : LI×LI) (b : LI×LI) : Option Bool :=
 bindF (f21 (a.1,a.2)) fun r9 =>
 bif (!r9) then
 some true
 else
 bindF (f21 (b.1,b.2)) fun r10 =>
 some (!r10)
def f65_67_j2 (a : LI×LI) (b : LI×LI) : Option (Sum Unit Unit) :=
 bindF (f65_67_j3 a b) fun z8 =>
 bif z8 then
 some (Sum.inr ())
 else
 some (Sum.inl ())
def f65_67_l4 (a : LI×LI) (b : LI×LI) (r12 : Int×LI×LI) (q7_3 : LI) (q7_7 : LI) (go : (Int×LI) → Option LI) (v52:Int) (l7 : LI) : Option LI :=
 bif (decide (v52 < (List.length r12.2.2:Int))) then
 guardF (0 ≤ v52 ∧ v52 < (List.length q7_3:Int)) <|
 guardF (0 ≤ (rd (0:Int) q7_3 v52) ∧ (rd (0:Int) q7_3 v52) < (List.length a.2:Int)) <|
 guardF (0 ≤ v52 ∧ v52 < (List.length q7_7:Int)) <|
 guardF (0 ≤ (rd (0:Int) q7_7 v52) ∧ (rd (0:Int) q7_7 v52) < (List.length b.2:Int)) <|
 bindF (f67 (rd (0:Int) a.2 (rd (0:Int) q7_3 v52)) (rd (0:Int) b.2 (rd (0:Int) q7_7 v52))) fun q11_20 =>
 guardF (0 ≤ v52 ∧ v52 < (List.length l7:Int)) <|
 go ((i64.wrap (v52 + (1:Int))),(List.set l7 (Int.toNat v52) q11_20))
 else
 some l7
def f65_67 (a : LI×LI) (b : LI×LI) : Option (Int×LI×LI) :=
 bindF (f65_67_j2 a b) fun z5 =>
 sumF z5 (fun z5a =>
 bindF (f103 a.1 b.1) fun r11 =>
 bif (r11.1 != (0:Int)) then
 some (r11.1,[],[])
 else
 bindF (f70 r11.2 (0:Int)) fun r12 =>
 bindF (f104 a.1 r11.2) fun q7_3 =>
 bindF (f104 b.1 r11.2) fun q7_7 =>
 bindF (loopF (fun go x=>f65_67_l4 a b r12 q7_3 q7_7 go x.1 x.2) fuelN ((0:Int),r12.2.2)) fun z13 =>
 some ((0:Int),r12.2.1,z13)) (fun z5b =>
 some ((1:Int),[],[]))
def C65_67 : Con where
 X := (LI×LI)×(LI×LI)
 Y := Int×LI×LI
 e := 0
 args x := [.dat T3 x.1,.dat T3 x.2,.raw false [(.c (.func (.func 67) #[] #[]))]]
 hin x := []
 F x := f65_67 x.1 x.2
 ret y := [.raw true [(.osl 0),(.osl 1)],.dat T2 y.1]
 hout y := [(0,.arr 3 T2 y.2.1),(1,.arr 33 T2 y.2.2)]
 nout := 2
theorem C65_67_vc (a : LI×LI) (b : LI×LI) (y : Int×LI×LI) (q : f65_67 a b = some y) : VC Tryz.f65 C65_67 (a,b) y := by
 unfold f65_67 at q
 refine OL ?_
 obtain ⟨z5,hz5,q⟩ := bE q
 refine OQ ⟨Sum.elim (fun z5a=>[(0,⟨[(2,.raw false [(.c (.func (.func 67) #[] #[]))]),(3,P0 0 0),(4,P0 1 0),(6,P0 2 0)],[(0,.cells [(.d T1 a.1),(.d T1 a.2)]),(1,.cells [(.d T1 b.1),(.d T1 b.2)]),(2,.cells [N0,N0])],3⟩)]) (fun z5b=>[(1,⟨[(6,P0 0 0),(7,D0 1)],[(0,.cells [N0,N0])],1⟩)]) z5,?_,?_⟩
 ·have q := hz5
  clear hz5
  unfold f65_67_j2 at q
  obtain ⟨z8,hz8,q⟩ := bE q
  refine OQ ⟨[(0,⟨[(2,.raw false [(.c (.func (.func 67) #[] #[]))]),(3,P0 0 0),(4,P0 1 0),(6,P0 2 0),(22,.dat .bool z8)],[(0,.cells [(.d T1 a.1),(.d T1 a.2)]),(1,.cells [(.d T1 b.1),(.d T1 b.2)]),(2,.cells [N0,N0])],3⟩)],?_,?_⟩
  ·have q := hz8
   clear hz8
   unfold f65_67_j3 at q
   obtain ⟨r9,hr9,q⟩ := bE q
   refine OL (AI f21_in (cV (cQ C21 (a.1,a.2) r9 [] false C21_holds hr9 rfl rfl (R2 (K0 (cN q (fun q=>?_) (fun q=>?_)))))))
   ·refine gY ?_
    obtain ⟨r10,hr10,q⟩ := bE q
    refine OL (AI f21_in (cV (cQ C21 (b.1,b.2) r10 [] false C21_holds hr10 rfl rfl (R2 (K0 (gY (cF ?_)))))))
    cases sE q
    refine E4 I3 (R2 (AI (R4 TV) (R3 TV)))
   refine gN (gN (cT ?_))
   cases sE q
   refine E4 I3 (R2 (AI (R4 TV) (R3 TV)))
  refine AI (cI q (fun q=>?_) (fun q=>?_)) TV
  ·refine OL (OL ?_)
   cases sE q
   refine E4 [(0,some 2)] (R2 (AJ (AI rfl TV)))
  cases sE q
  refine E4 I3 (AI rfl (AI (R4 TV) (R3 TV)))
 rcases z5 with z5a | z5b
 ·dsimp only [sumF] at q
  refine AI (OL ?_) TV
  obtain ⟨r11,hr11,q⟩ := bE q
  refine OL (AI f103_in (cV (cQ C103 (a.1,b.1) r11 [] false C103_holds hr11 rfl rfl (R2 (K0 (OL (OL (cI q (fun q=>?_) (fun q=>?_)))))))))
  ·refine OL (OL ?_)
   cases sE q
   refine AI rfl (E4 [(0,none),(1,none)] (R2 (AJ (R2 TV))))
  refine OL ?_
  obtain ⟨r12,hr12,q⟩ := bE q
  refine OL (AI f70_in (cV (cQ C70 (r11.2,(0:Int)) r12 [] true C70_holds hr12 rfl rfl (R2 (AI (fun _=>rfl) (R2 (AI TV (AI TV (OL (OL (EI (.take 0 (.take 1 (.take 2 (.take 4 (.take 5 (.take 6 (.alt 3 (.alt 7 (.take 8 (.take 9 .done)) .done) .done))))))) (EI [] (EI [] (AI rfl (AI TV ?_)))))))))))))))
  obtain ⟨q7_3,hq7_3,q⟩ := bE q
  refine OL (AI f104_in (cV (cQ C104 (a.1,r11.2) q7_3 [] true C104_holds hq7_3 rfl rfl (R2 (AI (fun _=>rfl) (R2 (AI TV (AI TV (AI TV ?_)))))))))
  obtain ⟨q7_7,hq7_7,q⟩ := bE q
  refine OL (AI f104_in (cV (cQ C104 (b.1,r11.2) q7_7 [] true C104_holds hq7_7 rfl rfl (R2 (AI (fun _=>rfl) (R2 (AI TV (AI TV (OL (OL ?_))))))))))
  obtain ⟨z13,hz13,q⟩ := bE q
  refine lI (Int×LI) LI (fun x=>⟨[(2,.raw false [(.c (.func (.func 67) #[] #[]))]),(3,P0 0 0),(4,P0 1 0),(6,P0 2 0),(10,P0 3 0),(12,O0 4),(13,O0 5),(51,.dat T2 (List.length r12.2.2:Int)),(52,.dat T2 x.1)],[(0,.cells [(.d T1 a.1),(.d T1 a.2)]),(1,.cells [(.d T1 b.1),(.d T1 b.2)]),(2,.cells [N0,N0]),(3,.cells [(.osl 6),(.osl 7)]),(4,.arr 3 T2 q7_3),(5,.arr 3 T2 q7_7),(6,.arr 3 T2 r12.2.1),(7,.arr 33 T2 x.2)],8⟩) (fun z=>[(2,⟨[(6,P0 0 0),(10,P0 1 0)],[(0,.cells [N0,N0]),(1,.cells [(.osl 2),(.osl 3)]),(2,.arr 3 T2 r12.2.1),(3,.arr 33 T2 z)],4⟩)]) (loopF (fun go x=>f65_67_l4 a b r12 q7_3 q7_7 go x.1 x.2)) fuelN ((0:Int),r12.2.2) z13 (AI hz13 (AI (E4 [(0,some 0),(1,some 1),(2,some 2),(3,some 6),(4,some 7),(5,some 8),(6,some 4),(7,some 5)] (R3 (AI (R7 TV) (R8 TV)))) (AI (fun _ _ h=>lZ h) (AI (fun m=>curI (fun v52=>fun l7 z q=>?_)) ?_))))
  ·have q : f65_67_l4 a b r12 q7_3 q7_7 (loopF (fun go x=>f65_67_l4 a b r12 q7_3 q7_7 go x.1 x.2) m) v52 l7 = some z := q
   unfold f65_67_l4 at q
   refine OL (OL (cI q (fun q=>?_) (fun q=>?_)))
   ·refine OL (OL (EI (.take 0 (.take 1 (.take 2 (.take 3 (.take 4 (.take 5 (.take 6 (.take 7 (.take 8 (.take 9 (.take 10 (.take 11 (.take 12 (.take 13 (.take 14 (.take 15 (.take 16 (.take 17 (.take 18 (.take 19 (.alt 20 (.take 21 (.alt 22 .done .done)) .done))))))))))))))))))))) (EI [] (EI [] (AI rfl (gI q (fun q=>?_)))))))
    refine gI q (fun q=>?_)
    refine gI q (fun q=>?_)
    refine gI q (fun q=>?_)
    refine AI TV ?_
    obtain ⟨q11_20,hq11_20,q⟩ := bE q
    refine OL (AI f67_in (cV (cQ C67 ((rd (0:Int) a.2 (rd (0:Int) q7_3 v52)),(rd (0:Int) b.2 (rd (0:Int) q7_7 v52))) q11_20 [] false C67_holds hq11_20 rfl rfl (R2 (K0 (gI q (fun q=>?_)))))))
    refine AI TV (OL (EI ((i64.wrap (v52 + (1:Int))),(List.set l7 (Int.toNat v52) q11_20)) (AI q (E4 I8 (R3 (AI (R7 TV) (R8 TV)))))))
   cases sE q
   refine E4 [(0,some 2),(1,some 3),(2,some 6),(3,some 7)] (AI rfl (AI (R2 TV) (R4 TV)))
  refine AI (OL (OL ?_)) TV
  cases sE q
  refine AI rfl (E4 [(0,some 2),(1,some 3)] (R2 (AJ (R2 TV))))
 dsimp only [sumF] at q
 refine AI ?_ TV
 cases sE q
 refine AI rfl (E4 [(0,none),(1,none)] (R2 (AJ (R2 TV))))
theorem C65_67_holds : HP C65_67 65 := hH Tryz.f65 (by kernel_rfl) rfl (fun x y q=>C65_67_vc x.1 x.2 y q)
theorem f65_67_in : ∃ fn,Tryz.prog.funcs[65]? = some fn ∧ fn.body.isSome = true ∧ (fn.name == "runtime.NumGoroutine") = false := ⟨Tryz.f65,by kernel_rfl,by kernel_rfl,by kernel_rfl⟩
def f36 (a : LI×LI) (b : LI×LI) : Option (Int×LI×LI) :=
 bindF (f65_67 (a.1,a.2) (b.1,b.2)) fun r1 =>
 some (r1.1,r1.2.1,r1.2.2)
def C36 : Con where
 X := (LI×LI)×(LI×LI)
 Y := Int×LI×LI
 e := 0
 args x := [.dat T3 x.1,.dat T3 x.2]
 hin x := []
 F x := f36 x.1 x.2
 ret y := [.raw true [(.osl 0),(.osl 1)],.dat T2 y.1]
 hout y := [(0,.arr 3 T2 y.2.1),(1,.arr 33 T2 y.2.2)]
 nout := 2
theorem C36_vc (a : LI×LI) (b : LI×LI) (y : Int×LI×LI) (q : f36 a b = some y) : VC Tryz.f36 C36 (a,b) y := by
 unfold f36 at q
 refine OL (OL ?_)
 obtain ⟨r1,hr1,q⟩ := bE q
 refine OL (AI f65_67_in (cV (cQ C65_67 ((a.1,a.2),(b.1,b.2)) r1 [] false C65_67_holds hr1 rfl rfl (R4 (AI NH (R2 (AJ (AI TV (OL ?_)))))))))
 cases sE q
 refine AI rfl (E4 [(0,some 3),(1,some 4)] (R2 (AJ (R2 TV))))
theorem C36_holds : HP C36 36 := hH Tryz.f36 (by kernel_rfl) rfl (fun x y q=>C36_vc x.1 x.2 y q)
theorem f36_in : InP 36 := inP (by kernel_rfl)
def f106 (v:Int) : Option Int :=
 bif (decide (v < (0:Int))) then
 some (u64.wrap (0 - (u64.wrap v)))
 else
 some (u64.wrap v)
def C106 : Con where
 X := Int
 Y := Int
 e := 0
 args x := [.dat T2 x]
 hin x := []
 F x := f106 x
 ret y := [.dat T4 y]
 hout y := []
 nout := 0
theorem C106_vc (v:Int) (y:Int) (q : f106 v = some y) : VC Tryz.f106 C106 v y := by
 unfold f106 at q
 refine OL (OL (OL (cI q (fun q=>?_) (fun q=>?_))))
 ·cases sE q
  refine OL (AI rfl (E4 [] (R2 (AI TV TV))))
 cases sE q
 refine OL (AI rfl (E4 [] (R2 (AI TV TV))))
theorem C106_holds : HP C106 106 := hH Tryz.f106 (by kernel_rfl) rfl (fun x y q=>C106_vc x y q)
theorem f106_in : InP 106 := inP (by kernel_rfl)
def f108_j1 (hi:Int) (lo:Int) (below : Bool) : Option Bool :=
 bif below then
 bif (decide (hi > (0:Int))) then
 some true
 else
 some (decide (lo ≥ (9223372036854775808:Int)))
 else
 some false
def f108 (hi:Int) (lo:Int) (below : Bool) : Option Int :=
 bindF (f108_j1 hi lo below) fun z1 =>
 bif z1 then
 some (-9223372036854775808:Int)
 else
 bif below then
 some (i64.wrap (0 - (i64.wrap lo)))
 else
 bif (decide (hi > (0:Int))) then
 some (9223372036854775807:Int)
 else
 bif (decide (lo ≥ (9223372036854775808:Int))) then
 some (9223372036854775807:Int)
 else
 some (i64.wrap lo)
def C108 : Con where
 X := Int×Int×Bool
 Y := Int
 e := 0
 args x := [.dat T4 x.1,.dat T4 x.2.1,.dat .bool x.2.2]
 hin x := []
 F x := f108 x.1 x.2.1 x.2.2
 ret y := [.dat T2 y]
 hout y := []
 nout := 0
theorem C108_vc (hi:Int) (lo:Int) (below : Bool) (y:Int) (q : f108 hi lo below = some y) : VC Tryz.f108 C108 (hi,lo,below) y := by
 unfold f108 at q
 refine OL (OL ?_)
 obtain ⟨z1,hz1,q⟩ := bE q
 refine OQ ⟨[(0,⟨[(0,.dat T4 hi),(1,.dat T4 lo),(2,.dat .bool below),(7,.dat .bool z1)],[],0⟩)],?_,?_⟩
 ·have q := hz1
  clear hz1
  unfold f108_j1 at q
  refine cI q (fun q=>?_) (fun q=>?_)
  ·refine gX (gX (cN q (fun q=>?_) (fun q=>?_)))
   ·refine gY (gX (cF (cT ?_)))
    cases sE q
    refine E4 [] (R5 (AI TV TV))
   refine gN (gX (cT (cT ?_)))
   cases sE q
   refine E4 [] (R5 (AI TV TV))
  refine gM (gM (gM (cF ?_)))
  cases sE q
  refine E4 [] (R5 (AI TV TV))
 refine AI (cI q (fun q=>?_) (fun q=>?_)) TV
 ·cases sE q
  refine OL (AI rfl (E4 [] (R2 (AI TV TV))))
 refine OL (cI q (fun q=>?_) (fun q=>?_))
 ·cases sE q
  refine OL (AI rfl (E4 [] (R2 (AI TV TV))))
 refine OL (cN q (fun q=>?_) (fun q=>?_))
 ·refine gY (cF (cI q (fun q=>?_) (fun q=>?_)))
  ·cases sE q
   refine OL (AI rfl (E4 [] (R2 (AI TV TV))))
  cases sE q
  refine OL (AI rfl (E4 [] (R2 (AI TV TV))))
 refine gN (cT (cT (OL ?_)))
 cases sE q
 refine AI rfl (E4 [] (R2 (AI TV TV)))
theorem C108_holds : HP C108 108 := hH Tryz.f108 (by kernel_rfl) rfl (fun x y q=>C108_vc x.1 x.2.1 x.2.2 y q)
theorem f108_in : InP 108 := inP (by kernel_rfl)
def f68_j3 (r3 : Int×Int) : Option Bool :=
 bif (decide ((bitsOf IntKind.u64 (fun p q=>p &&& q) r3.2 (4294967295:Int)) > (2147483648:Int))) then
 some true
 else
 bif ((bitsOf IntKind.u64 (fun p q=>p &&& q) r3.2 (4294967295:Int)) == (2147483648:Int)) then
 some ((bitsOf IntKind.u64 (fun p q=>p &&& q) (bitsOf IntKind.u64 (fun p q=>p ||| q) (u64.wrap (r3.1 * 2 ^ min (Int.toNat (32:Int)) u64.bits)) (Int.fdiv r3.2 (2 ^ min (Int.toNat (32:Int)) u64.bits))) (1:Int)) == (1:Int))
 else
 some false
def f68_j2 (r3 : Int×Int) : Option (Int×Int) :=
 bindF (f68_j3 r3) fun z7 =>
 bif z7 then
 bindF (add64 (bitsOf IntKind.u64 (fun p q=>p ||| q) (u64.wrap (r3.1 * 2 ^ min (Int.toNat (32:Int)) u64.bits)) (Int.fdiv r3.2 (2 ^ min (Int.toNat (32:Int)) u64.bits))) (1:Int) (0:Int)) fun r8 =>
 some (r8.1,(u64.wrap ((Int.fdiv r3.1 (2 ^ min (Int.toNat (32:Int)) u64.bits)) + r8.2)))
 else
 some ((bitsOf IntKind.u64 (fun p q=>p ||| q) (u64.wrap (r3.1 * 2 ^ min (Int.toNat (32:Int)) u64.bits)) (Int.fdiv r3.2 (2 ^ min (Int.toNat (32:Int)) u64.bits))),(Int.fdiv r3.1 (2 ^ min (Int.toNat (32:Int)) u64.bits)))
def f68 (a:Int) (b:Int) : Option Int :=
 bindF (f106 a) fun r1 =>
 bindF (f106 b) fun r2 =>
 bindF (f105 r1 r2) fun r3 =>
 bindF (f68_j2 r3) fun z6 =>
 bindF (f108 z6.2 z6.1 (!((decide (a < (0:Int))) == (decide (b < (0:Int)))))) fun r9 =>
 some r9
def C68 : Con where
 X := Int×Int
 Y := Int
 e := 0
 args x := [.dat T2 x.1,.dat T2 x.2]
 hin x := []
 F x := f68 x.1 x.2
 ret y := [.dat T2 y]
 hout y := []
 nout := 0
theorem C68_vc (a:Int) (b:Int) (y:Int) (q : f68 a b = some y) : VC Tryz.f68 C68 (a,b) y := by
 unfold f68 at q
 refine OL (OL ?_)
 obtain ⟨r1,hr1,q⟩ := bE q
 refine OL (AI f106_in (cV (cQ C106 a r1 [] false C106_holds hr1 rfl rfl (AI rfl (K0 ?_)))))
 obtain ⟨r2,hr2,q⟩ := bE q
 refine OL (AI f106_in (cV (cQ C106 b r2 [] false C106_holds hr2 rfl rfl (AI rfl (K0 ?_)))))
 obtain ⟨r3,hr3,q⟩ := bE q
 refine OL (AI f105_in (cV (cQ C105 (r1,r2) r3 [] false C105_holds hr3 rfl rfl (R2 (K0 (OL (OL (AI (by decide) (AI (by decide) (OL (AI (by decide) ?_)))))))))))
 obtain ⟨z6,hz6,q⟩ := bE q
 refine OQ ⟨[(0,⟨[(0,.dat T2 a),(1,.dat T2 b),(8,.dat T4 z6.1),(9,.dat T4 z6.2)],[],0⟩)],?_,?_⟩
 ·have q := hz6
  clear hz6
  unfold f68_j2 at q
  obtain ⟨z7,hz7,q⟩ := bE q
  refine OQ ⟨[(0,⟨[(0,.dat T2 a),(1,.dat T2 b),(8,.dat T4 (bitsOf IntKind.u64 (fun p q=>p ||| q) (u64.wrap (r3.1 * 2 ^ min (Int.toNat (32:Int)) u64.bits)) (Int.fdiv r3.2 (2 ^ min (Int.toNat (32:Int)) u64.bits)))),(9,.dat T4 (Int.fdiv r3.1 (2 ^ min (Int.toNat (32:Int)) u64.bits))),(38,.dat .bool z7)],[],0⟩)],?_,?_⟩
  ·have q := hz7
   clear hz7
   unfold f68_j3 at q
   refine cN q (fun q=>?_) (fun q=>?_)
   ·refine gY (gY (cI q (fun q=>?_) (fun q=>?_)))
    ·refine gX (gX (gY (cT (cF ?_))))
     cases sE q
     refine E4 [] (R6 (AI TV TV))
    refine gM (gM (gY (cF (cF ?_))))
    cases sE q
    refine E4 [] (R6 (AI TV TV))
   refine gN (gN (gN (cT ?_)))
   cases sE q
   refine E4 [] (R6 (AI TV TV))
  refine AI (cI q (fun q=>?_) (fun q=>?_)) TV
  ·refine OL (OL ?_)
   obtain ⟨r8,hr8,q⟩ := bE q
   refine OQ ⟨ext3 add64,[r8.1,r8.2],add64_ok,AI (ext3I hr8) ?_⟩
   cases sE q
   refine E4 [] (R5 (AI TV TV))
  cases sE q
  refine E4 [] (R5 (AI TV TV))
 refine AI (OL ?_) TV
 obtain ⟨r9,hr9,q⟩ := bE q
 refine OL (AI f108_in (cV (cQ C108 (z6.2,z6.1,(!((decide (a < (0:Int))) == (decide (b < (0:Int)))))) r9 [] false C108_holds hr9 rfl rfl (R3 (K0 ?_)))))
 cases sE q
 refine AI rfl (E4 [] (R2 (AI TV TV)))
theorem C68_holds : HP C68 68 := hH Tryz.f68 (by kernel_rfl) rfl (fun x y q=>C68_vc x.1 x.2 y q)
theorem f68_in : InP 68 := inP (by kernel_rfl)
def f65_68_j3 (a : LI×LI) (b : LI×LI) : Option Bool :=
 bindF (f21 (a.1,a.2)) fun r9 =>
 bif (!r9) then
 some true
 else
 bindF (f21 (b.1,b.2)) fun r10 =>
 some (!r10)
def f65_68_j2 (a : LI×LI) (b : LI×LI) : Option (Sum Unit Unit) :=
 bindF (f65_68_j3 a b) fun z8 =>
 bif z8 then
 some (Sum.inr ())
 else
 some (Sum.inl ())
def f65_68_l4 (a : LI×LI) (b : LI×LI) (r12 : Int×LI×LI) (q7_3 : LI) (q7_7 : LI) (go : (Int×LI) → Option LI) (v52:Int) (l7 : LI) : Option LI :=
 bif (decide (v52 < (List.length r12.2.2:Int))) then
 guardF (0 ≤ v52 ∧ v52 < (List.length q7_3:Int)) <|
 guardF (0 ≤ (rd (0:Int) q7_3 v52) ∧ (rd (0:Int) q7_3 v52) < (List.length a.2:Int)) <|
 guardF (0 ≤ v52 ∧ v52 < (List.length q7_7:Int)) <|
 guardF (0 ≤ (rd (0:Int) q7_7 v52) ∧ (rd (0:Int) q7_7 v52) < (List.length b.2:Int)) <|
 bindF (f68 (rd (0:Int) a.2 (rd (0:Int) q7_3 v52)) (rd (0:Int) b.2 (rd (0:Int) q7_7 v52))) fun q11_20 =>
 guardF (0 ≤ v52 ∧ v52 < (List.length l7:Int)) <|
 go ((i64.wrap (v52 + (1:Int))),(List.set l7 (Int.toNat v52) q11_20))
 else
 some l7
def f65_68 (a : LI×LI) (b : LI×LI) : Option (Int×LI×LI) :=
 bindF (f65_68_j2 a b) fun z5 =>
 sumF z5 (fun z5a =>
 bindF (f103 a.1 b.1) fun r11 =>
 bif (r11.1 != (0:Int)) then
 some (r11.1,[],[])
 else
 bindF (f70 r11.2 (0:Int)) fun r12 =>
 bindF (f104 a.1 r11.2) fun q7_3 =>
 bindF (f104 b.1 r11.2) fun q7_7 =>
 bindF (loopF (fun go x=>f65_68_l4 a b r12 q7_3 q7_7 go x.1 x.2) fuelN ((0:Int),r12.2.2)) fun z13 =>
 some ((0:Int),r12.2.1,z13)) (fun z5b =>
 some ((1:Int),[],[]))
def C65_68 : Con where
 X := (LI×LI)×(LI×LI)
 Y := Int×LI×LI
 e := 0
 args x := [.dat T3 x.1,.dat T3 x.2,.raw false [(.c (.func (.func 68) #[] #[]))]]
 hin x := []
 F x := f65_68 x.1 x.2
 ret y := [.raw true [(.osl 0),(.osl 1)],.dat T2 y.1]
 hout y := [(0,.arr 3 T2 y.2.1),(1,.arr 33 T2 y.2.2)]
 nout := 2
theorem C65_68_vc (a : LI×LI) (b : LI×LI) (y : Int×LI×LI) (q : f65_68 a b = some y) : VC Tryz.f65 C65_68 (a,b) y := by
 unfold f65_68 at q
 refine OL ?_
 obtain ⟨z5,hz5,q⟩ := bE q
 refine OQ ⟨Sum.elim (fun z5a=>[(0,⟨[(2,.raw false [(.c (.func (.func 68) #[] #[]))]),(3,P0 0 0),(4,P0 1 0),(6,P0 2 0)],[(0,.cells [(.d T1 a.1),(.d T1 a.2)]),(1,.cells [(.d T1 b.1),(.d T1 b.2)]),(2,.cells [N0,N0])],3⟩)]) (fun z5b=>[(1,⟨[(6,P0 0 0),(7,D0 1)],[(0,.cells [N0,N0])],1⟩)]) z5,?_,?_⟩
 ·have q := hz5
  clear hz5
  unfold f65_68_j2 at q
  obtain ⟨z8,hz8,q⟩ := bE q
  refine OQ ⟨[(0,⟨[(2,.raw false [(.c (.func (.func 68) #[] #[]))]),(3,P0 0 0),(4,P0 1 0),(6,P0 2 0),(22,.dat .bool z8)],[(0,.cells [(.d T1 a.1),(.d T1 a.2)]),(1,.cells [(.d T1 b.1),(.d T1 b.2)]),(2,.cells [N0,N0])],3⟩)],?_,?_⟩
  ·have q := hz8
   clear hz8
   unfold f65_68_j3 at q
   obtain ⟨r9,hr9,q⟩ := bE q
   refine OL (AI f21_in (cV (cQ C21 (a.1,a.2) r9 [] false C21_holds hr9 rfl rfl (R2 (K0 (cN q (fun q=>?_) (fun q=>?_)))))))
   ·refine gY ?_
    obtain ⟨r10,hr10,q⟩ := bE q
    refine OL (AI f21_in (cV (cQ C21 (b.1,b.2) r10 [] false C21_holds hr10 rfl rfl (R2 (K0 (gY (cF ?_)))))))
    cases sE q
    refine E4 I3 (R2 (AI (R4 TV) (R3 TV)))
   refine gN (gN (cT ?_))
   cases sE q
   refine E4 I3 (R2 (AI (R4 TV) (R3 TV)))
  refine AI (cI q (fun q=>?_) (fun q=>?_)) TV
  ·refine OL (OL ?_)
   cases sE q
   refine E4 [(0,some 2)] (R2 (AJ (AI rfl TV)))
  cases sE q
  refine E4 I3 (AI rfl (AI (R4 TV) (R3 TV)))
 rcases z5 with z5a | z5b
 ·dsimp only [sumF] at q
  refine AI (OL ?_) TV
  obtain ⟨r11,hr11,q⟩ := bE q
  refine OL (AI f103_in (cV (cQ C103 (a.1,b.1) r11 [] false C103_holds hr11 rfl rfl (R2 (K0 (OL (OL (cI q (fun q=>?_) (fun q=>?_)))))))))
  ·refine OL (OL ?_)
   cases sE q
   refine AI rfl (E4 [(0,none),(1,none)] (R2 (AJ (R2 TV))))
  refine OL ?_
  obtain ⟨r12,hr12,q⟩ := bE q
  refine OL (AI f70_in (cV (cQ C70 (r11.2,(0:Int)) r12 [] true C70_holds hr12 rfl rfl (R2 (AI (fun _=>rfl) (R2 (AI TV (AI TV (OL (OL (EI (.take 0 (.take 1 (.take 2 (.take 4 (.take 5 (.take 6 (.alt 3 (.alt 7 (.take 8 (.take 9 .done)) .done) .done))))))) (EI [] (EI [] (AI rfl (AI TV ?_)))))))))))))))
  obtain ⟨q7_3,hq7_3,q⟩ := bE q
  refine OL (AI f104_in (cV (cQ C104 (a.1,r11.2) q7_3 [] true C104_holds hq7_3 rfl rfl (R2 (AI (fun _=>rfl) (R2 (AI TV (AI TV (AI TV ?_)))))))))
  obtain ⟨q7_7,hq7_7,q⟩ := bE q
  refine OL (AI f104_in (cV (cQ C104 (b.1,r11.2) q7_7 [] true C104_holds hq7_7 rfl rfl (R2 (AI (fun _=>rfl) (R2 (AI TV (AI TV (OL (OL ?_))))))))))
  obtain ⟨z13,hz13,q⟩ := bE q
  refine lI (Int×LI) LI (fun x=>⟨[(2,.raw false [(.c (.func (.func 68) #[] #[]))]),(3,P0 0 0),(4,P0 1 0),(6,P0 2 0),(10,P0 3 0),(12,O0 4),(13,O0 5),(51,.dat T2 (List.length r12.2.2:Int)),(52,.dat T2 x.1)],[(0,.cells [(.d T1 a.1),(.d T1 a.2)]),(1,.cells [(.d T1 b.1),(.d T1 b.2)]),(2,.cells [N0,N0]),(3,.cells [(.osl 6),(.osl 7)]),(4,.arr 3 T2 q7_3),(5,.arr 3 T2 q7_7),(6,.arr 3 T2 r12.2.1),(7,.arr 33 T2 x.2)],8⟩) (fun z=>[(2,⟨[(6,P0 0 0),(10,P0 1 0)],[(0,.cells [N0,N0]),(1,.cells [(.osl 2),(.osl 3)]),(2,.arr 3 T2 r12.2.1),(3,.arr 33 T2 z)],4⟩)]) (loopF (fun go x=>f65_68_l4 a b r12 q7_3 q7_7 go x.1 x.2)) fuelN ((0:Int),r12.2.2) z13 (AI hz13 (AI (E4 [(0,some 0),(1,some 1),(2,some 2),(3,some 6),(4,some 7),(5,some 8),(6,some 4),(7,some 5)] (R3 (AI (R7 TV) (R8 TV)))) (AI (fun _ _ h=>lZ h) (AI (fun m=>curI (fun v52=>fun l7 z q=>?_)) ?_))))
  ·have q : f65_68_l4 a b r12 q7_3 q7_7 (loopF (fun go x=>f65_68_l4 a b r12 q7_3 q7_7 go x.1 x.2) m) v52 l7 = some z := q
   unfold f65_68_l4 at q
   refine OL (OL (cI q (fun q=>?_) (fun q=>?_)))
   ·refine OL (OL (EI (.take 0 (.take 1 (.take 2 (.take 3 (.take 4 (.take 5 (.take 6 (.take 7 (.take 8 (.take 9 (.take 10 (.take 11 (.take 12 (.take 13 (.take 14 (.take 15 (.take 16 (.take 17 (.take 18 (.take 19 (.alt 20 (.take 21 (.alt 22 .done .done)) .done))))))))))))))))))))) (EI [] (EI [] (AI rfl (gI q (fun q=>?_)))))))
    refine gI q (fun q=>?_)
    refine gI q (fun q=>?_)
    refine gI q (fun q=>?_)
    refine AI TV ?_
    obtain ⟨q11_20,hq11_20,q⟩ := bE q
    refine OL (AI f68_in (cV (cQ C68 ((rd (0:Int) a.2 (rd (0:Int) q7_3 v52)),(rd (0:Int) b.2 (rd (0:Int) q7_7 v52))) q11_20 [] false C68_holds hq11_20 rfl rfl (R2 (K0 (gI q (fun q=>?_)))))))
    refine AI TV (OL (EI ((i64.wrap (v52 + (1:Int))),(List.set l7 (Int.toNat v52) q11_20)) (AI q (E4 I8 (R3 (AI (R7 TV) (R8 TV)))))))
   cases sE q
   refine E4 [(0,some 2),(1,some 3),(2,some 6),(3,some 7)] (AI rfl (AI (R2 TV) (R4 TV)))
  refine AI (OL (OL ?_)) TV
  cases sE q
  refine AI rfl (E4 [(0,some 2),(1,some 3)] (R2 (AJ (R2 TV))))
 dsimp only [sumF] at q
 refine AI ?_ TV
 cases sE q
 refine AI rfl (E4 [(0,none),(1,none)] (R2 (AJ (R2 TV))))
theorem C65_68_holds : HP C65_68 65 := hH Tryz.f65 (by kernel_rfl) rfl (fun x y q=>C65_68_vc x.1 x.2 y q)
theorem f65_68_in : ∃ fn,Tryz.prog.funcs[65]? = some fn ∧ fn.body.isSome = true ∧ (fn.name == "runtime.NumGoroutine") = false := ⟨Tryz.f65,by kernel_rfl,by kernel_rfl,by kernel_rfl⟩
def f37 (a : LI×LI) (b : LI×LI) : Option (Int×LI×LI) :=
 bindF (f65_68 (a.1,a.2) (b.1,b.2)) fun r1 =>
 some (r1.1,r1.2.1,r1.2.2)
def C37 : Con where
 X := (LI×LI)×(LI×LI)
 Y := Int×LI×LI
 e := 0
 args x := [.dat T3 x.1,.dat T3 x.2]
 hin x := []
 F x := f37 x.1 x.2
 ret y := [.raw true [(.osl 0),(.osl 1)],.dat T2 y.1]
 hout y := [(0,.arr 3 T2 y.2.1),(1,.arr 33 T2 y.2.2)]
 nout := 2
theorem C37_vc (a : LI×LI) (b : LI×LI) (y : Int×LI×LI) (q : f37 a b = some y) : VC Tryz.f37 C37 (a,b) y := by
 unfold f37 at q
 refine OL (OL ?_)
 obtain ⟨r1,hr1,q⟩ := bE q
 refine OL (AI f65_68_in (cV (cQ C65_68 ((a.1,a.2),(b.1,b.2)) r1 [] false C65_68_holds hr1 rfl rfl (R4 (AI NH (R2 (AJ (AI TV (OL ?_)))))))))
 cases sE q
 refine AI rfl (E4 [(0,some 3),(1,some 4)] (R2 (AJ (R2 TV))))
theorem C37_holds : HP C37 37 := hH Tryz.f37 (by kernel_rfl) rfl (fun x y q=>C37_vc x.1 x.2 y q)
theorem f37_in : InP 37 := inP (by kernel_rfl)
def f69 (t : LI×LI) : Option Bool :=
 some ((List.length t.1:Int) == (2:Int))
def C69 : Con where
 X := LI×LI
 Y := Bool
 e := 0
 args x := [.dat T3 x]
 hin x := []
 F x := f69 x
 ret y := [.dat .bool y]
 hout y := []
 nout := 0
theorem C69_vc (t : LI×LI) (y : Bool) (q : f69 t = some y) : VC Tryz.f69 C69 t y := by
 unfold f69 at q
 refine OL (OL ?_)
 cases sE q
 refine AI rfl (E4 [] (R2 (AI TV TV)))
theorem C69_holds : HP C69 69 := hH Tryz.f69 (by kernel_rfl) rfl (fun x y q=>C69_vc x y q)
theorem f69_in : InP 69 := inP (by kernel_rfl)
def f142_l1 (s : LI) (v:Int) (go : Int → Option (Sum Int Unit)) (v8:Int) : Option (Sum Int Unit) :=
 bif (decide (v8 < (List.length s:Int))) then
 guardF (0 ≤ v8 ∧ v8 < (List.length s:Int)) <|
 bif (v == (rd (0:Int) s v8)) then
 some (Sum.inl v8)
 else
 go (i64.wrap (v8 + (1:Int)))
 else
 some (Sum.inr ())
def f142 (s : LI) (v:Int) : Option Int :=
 bindF (loopF (fun go x=>f142_l1 s v go x) fuelN (0:Int)) fun z1 =>
 sumF z1 (fun z1a =>
 some z1a) (fun z1b =>
 some (-1:Int))
def C142 : Con where
 X := LI×Int
 Y := Int
 e := 0
 args x := [.dat T1 x.1,.dat T2 x.2]
 hin x := []
 F x := f142 x.1 x.2
 ret y := [.dat T2 y]
 hout y := []
 nout := 0
theorem C142_vc (s : LI) (v:Int) (y:Int) (q : f142 s v = some y) : VC Tryz.f142 C142 (s,v) y := by
 unfold f142 at q
 refine OL (OL (OL ?_))
 obtain ⟨z1,hz1,q⟩ := bE q
 refine lI Int (Sum Int Unit) (fun x=>⟨[(0,.dat T1 s),(1,.dat T2 v),(7,.dat T2 (List.length s:Int)),(8,.dat T2 x)],[],0⟩) (fun z=>Sum.elim (fun za=>[(1,⟨[(4,.dat T2 za)],[],0⟩)]) (fun zb=>[(2,⟨[],[],0⟩)]) z) (loopF (fun go x=>f142_l1 s v go x)) fuelN (0:Int) z1 (AI hz1 (AI (E4 [] (R5 (AI TV TV))) (AI (fun _ _ h=>lZ h) (AI (fun m=>fun v8 z q=>?_) ?_))))
 ·have q : f142_l1 s v (loopF (fun go x=>f142_l1 s v go x) m) v8 = some z := q
  unfold f142_l1 at q
  refine OL (OL (cI q (fun q=>?_) (fun q=>?_)))
  ·refine OL (OL (OL (gI q (fun q=>?_))))
   refine cI q (fun q=>?_) (fun q=>?_)
   ·cases sE q
    refine OL (E4 [] (R2 (AI TV TV)))
   refine EI (i64.wrap (v8 + (1:Int))) (AI q (E4 [] (R5 (AI TV TV))))
  cases sE q
  refine E4 [] (AI rfl (AI TV TV))
 rcases z1 with z1a | z1b
 ·dsimp only [sumF] at q
  refine AI ?_ TV
  cases sE q
  refine AI rfl (E4 [] (R2 (AI TV TV)))
 dsimp only [sumF] at q
 refine AI (OL ?_) TV
 cases sE q
 refine AI rfl (E4 [] (R2 (AI TV TV)))
theorem C142_holds : HP C142 142 := hH Tryz.f142 (by kernel_rfl) rfl (fun x y q=>C142_vc x.1 x.2 y q)
theorem f142_in : InP 142 := inP (by kernel_rfl)
def f136 (s : LI) (v:Int) : Option Bool :=
 bindF (f142 s v) fun r1 =>
 some (decide (r1 ≥ (0:Int)))
def C136 : Con where
 X := LI×Int
 Y := Bool
 e := 0
 args x := [.dat T1 x.1,.dat T2 x.2]
 hin x := []
 F x := f136 x.1 x.2
 ret y := [.dat .bool y]
 hout y := []
 nout := 0
theorem C136_vc (s : LI) (v:Int) (y : Bool) (q : f136 s v = some y) : VC Tryz.f136 C136 (s,v) y := by
 unfold f136 at q
 refine OL (OL ?_)
 obtain ⟨r1,hr1,q⟩ := bE q
 refine OL (AI f142_in (cV (cQ C142 (s,v) r1 [] false C142_holds hr1 rfl rfl (R2 (K0 ?_)))))
 cases sE q
 refine AI rfl (E4 [] (R2 (AI TV TV)))
theorem C136_holds : HP C136 136 := hH Tryz.f136 (by kernel_rfl) rfl (fun x y q=>C136_vc x.1 x.2 y q)
theorem f136_in : InP 136 := inP (by kernel_rfl)
def f112_l1 (order : LI) (n:Int) (go : Int → Option (Sum Unit Unit)) (v11:Int) : Option (Sum Unit Unit) :=
 bif (decide (v11 < n)) then
 bindF (f136 order v11) fun r4 =>
 bif (!r4) then
 some (Sum.inl ())
 else
 go (i64.wrap (v11 + (1:Int)))
 else
 some (Sum.inr ())
def f112 (order : LI) (n:Int) : Option Bool :=
 bif ((List.length order:Int) != n) then
 some false
 else
 bindF (loopF (fun go x=>f112_l1 order n go x) fuelN (0:Int)) fun z3 =>
 sumF z3 (fun z3a =>
 some false) (fun z3b =>
 some true)
def C112 : Con where
 X := LI×Int
 Y := Bool
 e := 0
 args x := [.dat T1 x.1,.dat T2 x.2]
 hin x := []
 F x := f112 x.1 x.2
 ret y := [.dat .bool y]
 hout y := []
 nout := 0
theorem C112_vc (order : LI) (n:Int) (y : Bool) (q : f112 order n = some y) : VC Tryz.f112 C112 (order,n) y := by
 unfold f112 at q
 refine OL (OL (OL (cI q (fun q=>?_) (fun q=>?_))))
 ·cases sE q
  refine OL (AI rfl (E4 [] (R2 (AI TV TV))))
 refine OL (OL ?_)
 obtain ⟨z3,hz3,q⟩ := bE q
 refine lI Int (Sum Unit Unit) (fun x=>⟨[(0,.dat T1 order),(10,.dat T2 n),(11,.dat T2 x)],[],0⟩) (fun z=>Sum.elim (fun za=>[(1,⟨[(4,.dat .bool false)],[],0⟩)]) (fun zb=>[(2,⟨[],[],0⟩)]) z) (loopF (fun go x=>f112_l1 order n go x)) fuelN (0:Int) z3 (AI hz3 (AI (E4 [] (R4 (AI TV TV))) (AI (fun _ _ h=>lZ h) (AI (fun m=>fun v11 z q=>?_) ?_))))
 ·have q : f112_l1 order n (loopF (fun go x=>f112_l1 order n go x) m) v11 = some z := q
  unfold f112_l1 at q
  refine OL (OL (cI q (fun q=>?_) (fun q=>?_)))
  ·refine OL (OL (OL ?_))
   obtain ⟨r4,hr4,q⟩ := bE q
   refine OL (AI f136_in (cV (cQ C136 (order,v11) r4 [] false C136_holds hr4 rfl rfl (R2 (K0 (cI q (fun q=>?_) (fun q=>?_)))))))
   ·cases sE q
    refine OL (E4 [] (R2 (AI TV TV)))
   refine EI (i64.wrap (v11 + (1:Int))) (AI q (E4 [] (R4 (AI TV TV))))
  cases sE q
  refine E4 [] (AI rfl (AI TV TV))
 rcases z3 with z3a | z3b
 ·dsimp only [sumF] at q
  refine AI ?_ TV
  cases sE q
  refine AI rfl (E4 [] (R2 (AI TV TV)))
 dsimp only [sumF] at q
 refine AI (OL ?_) TV
 cases sE q
 refine AI rfl (E4 [] (R2 (AI TV TV)))
theorem C112_holds : HP C112 112 := hH Tryz.f112 (by kernel_rfl) rfl (fun x y q=>C112_vc x.1 x.2 y q)
theorem f112_in : InP 112 := inP (by kernel_rfl)
def f113_j1 (d : LI) (at_:Int) : Option (Sum Unit Unit) :=
 bif (decide (at_ < (0:Int))) then
 some (Sum.inr ())
 else
 bindF (f34 d) fun r3 =>
 bif (decide (at_ ≥ r3)) then
 some (Sum.inr ())
 else
 some (Sum.inl ())
def f113_l2 (d : LI) (go : (Int×Int×LI) → Option LI) (at__2:Int) (i:Int) (l0 : LI) : Option LI :=
 bif (decide (i ≥ (0:Int))) then
 guardF (0 ≤ i ∧ i < (List.length d:Int)) <|
 guardF ((rd (0:Int) d i) ≠ 0) <|
 guardF (0 ≤ i ∧ i < (List.length l0:Int)) <|
 guardF (0 ≤ i ∧ i < (List.length d:Int)) <|
 guardF ((rd (0:Int) d i) ≠ 0) <|
 go ((i64.wrap (Int.tdiv at__2 (rd (0:Int) d i))),(i64.wrap (i - (1:Int))),(List.set l0 (Int.toNat i) (Int.tmod at__2 (rd (0:Int) d i))))
 else
 some l0
def f113 (d : LI) (at_:Int) : Option (Bool×LI) :=
 bindF (f113_j1 d at_) fun z2 =>
 sumF z2 (fun z2a =>
 guardF (0 ≤ (List.length d:Int) ∧ (List.length d:Int) ≤ (List.length d:Int) ∧ Int.toNat (List.length d:Int) * 8 ≤ 140737488355328) <|
 bindF (loopF (fun go x=>f113_l2 d go x.1 x.2.1 x.2.2) fuelN (at_,(i64.wrap ((List.length d:Int) - (1:Int))),(List.replicate (Int.toNat (List.length d:Int)) (0:Int)))) fun z4 =>
 some (true,z4)) (fun z2b =>
 some (false,[]))
def C113 : Con where
 X := LI×Int
 Y := Bool×LI
 e := 0
 args x := [.dat T1 x.1,.dat T2 x.2]
 hin x := []
 F x := f113 x.1 x.2
 ret y := [O0 0,.dat .bool y.1]
 hout y := [(0,.arr 3 T2 y.2)]
 nout := 1
theorem C113_vc (d : LI) (at_:Int) (y : Bool×LI) (q : f113 d at_ = some y) : VC Tryz.f113 C113 (d,at_) y := by
 unfold f113 at q
 refine OL ?_
 obtain ⟨z2,hz2,q⟩ := bE q
 refine OQ ⟨Sum.elim (fun z2a=>[(0,⟨[(0,.dat T1 d),(1,.dat T2 at_)],[],0⟩)]) (fun z2b=>[(1,⟨[(4,.raw false [N0]),(5,.dat .bool false)],[],0⟩)]) z2,?_,?_⟩
 ·have q := hz2
  clear hz2
  unfold f113_j1 at q
  refine OL (cN q (fun q=>?_) (fun q=>?_))
  ·refine gY (gY ?_)
   obtain ⟨r3,hr3,q⟩ := bE q
   refine OL (AI f34_in (cV (cQ C34 d r3 [] false C34_holds hr3 rfl rfl (AI rfl (K0 (gY (cF (cI q (fun q=>?_) (fun q=>?_)))))))))
   ·cases sE q
    refine OL (E4 [] (R2 (AJ TV)))
   cases sE q
   refine E4 [] (R3 (AI TV TV))
  refine gN (gN (gN (cT (cT (OL ?_)))))
  cases sE q
  refine E4 [] (R2 (AJ TV))
 rcases z2 with z2a | z2b
 ·dsimp only [sumF] at q
  refine AI (OL (gI q (fun q=>?_))) TV
  refine OL (OL ?_)
  obtain ⟨z4,hz4,q⟩ := bE q
  refine lI (Int×Int×LI) LI (fun x=>⟨[(0,.dat T1 d),(1,.dat T2 x.1),(6,O0 0),(7,.dat T2 x.2.1)],[(0,.arr 3 T2 x.2.2)],1⟩) (fun z=>[(2,⟨[(6,O0 0)],[(0,.arr 3 T2 z)],1⟩)]) (loopF (fun go x=>f113_l2 d go x.1 x.2.1 x.2.2)) fuelN (at_,(i64.wrap ((List.length d:Int) - (1:Int))),(List.replicate (Int.toNat (List.length d:Int)) (0:Int))) z4 (AI hz4 (AI (E4 [(0,some 0)] (R4 (AJ (AI rfl TV)))) (AI (fun _ _ h=>lZ h) (AI (fun m=>curI (fun at__2=>curI (fun i=>fun l0 z q=>?_))) ?_))))
  ·have q : f113_l2 d (loopF (fun go x=>f113_l2 d go x.1 x.2.1 x.2.2) m) at__2 i l0 = some z := q
   unfold f113_l2 at q
   refine OL (OL (cI q (fun q=>?_) (fun q=>?_)))
   ·refine OL (OL (gI q (fun q=>?_)))
    refine gI q (fun q=>?_)
    refine gI q (fun q=>?_)
    refine OL (gI q (fun q=>?_))
    refine gI q (fun q=>?_)
    refine EI ((i64.wrap (Int.tdiv at__2 (rd (0:Int) d i))),(i64.wrap (i - (1:Int))),(List.set l0 (Int.toNat i) (Int.tmod at__2 (rd (0:Int) d i)))) (AI q (E4 [(0,some 0)] (R4 (AJ (AI rfl TV)))))
   cases sE q
   refine E4 [(0,some 0)] (AI rfl (AJ (AI rfl TV)))
  refine AI (OL ?_) TV
  cases sE q
  refine AI rfl (E4 [(0,some 0)] (R2 (AJ (AI rfl TV))))
 dsimp only [sumF] at q
 refine AI ?_ TV
 cases sE q
 refine AI rfl (E4 [(0,none)] (R2 (AJ (AI rfl TV))))
theorem C113_holds : HP C113 113 := hH Tryz.f113 (by kernel_rfl) rfl (fun x y q=>C113_vc x.1 x.2 y q)
theorem f113_in : InP 113 := inP (by kernel_rfl)
def f114_j1 (d : LI) (place_ : LI) : Option (Sum Unit Unit) :=
 bindF (f33 d) fun r3 =>
 bif (!r3) then
 some (Sum.inr ())
 else
 bif ((List.length place_:Int) != (List.length d:Int)) then
 some (Sum.inr ())
 else
 some (Sum.inl ())
def f114_j5 (d : LI) (place_ : LI) (v21:Int) : Option (Sum Unit Unit) :=
 bif (decide ((rd (0:Int) place_ v21) < (0:Int))) then
 some (Sum.inr ())
 else
 guardF (0 ≤ v21 ∧ v21 < (List.length d:Int)) <|
 bif (decide ((rd (0:Int) place_ v21) ≥ (rd (0:Int) d v21))) then
 some (Sum.inr ())
 else
 some (Sum.inl ())
def f114_l4 (d : LI) (place_ : LI) (go : (Int×Int) → Option (Sum Unit Int)) (at_:Int) (v21:Int) : Option (Sum Unit Int) :=
 bif (decide (v21 < (List.length place_:Int))) then
 guardF (0 ≤ v21 ∧ v21 < (List.length place_:Int)) <|
 bindF (f114_j5 d place_ v21) fun z7 =>
 sumF z7 (fun z7a =>
 guardF (0 ≤ v21 ∧ v21 < (List.length d:Int)) <|
 go ((i64.wrap ((i64.wrap (at_ * (rd (0:Int) d v21))) + (rd (0:Int) place_ v21))),(i64.wrap (v21 + (1:Int))))) (fun z7b =>
 some (Sum.inl ()))
 else
 some (Sum.inr at_)
def f114 (d : LI) (place_ : LI) : Option (Int×Bool) :=
 bindF (f114_j1 d place_) fun z2 =>
 sumF z2 (fun z2a =>
 bindF (loopF (fun go x=>f114_l4 d place_ go x.1 x.2) fuelN ((0:Int),(0:Int))) fun z6 =>
 sumF z6 (fun z6a =>
 some ((0:Int),false)) (fun z6b =>
 some (z6b,true))) (fun z2b =>
 some ((0:Int),false))
def C114 : Con where
 X := LI×LI
 Y := Int×Bool
 e := 0
 args x := [.dat T1 x.1,.dat T1 x.2]
 hin x := []
 F x := f114 x.1 x.2
 ret y := [.dat T2 y.1,.dat .bool y.2]
 hout y := []
 nout := 0
theorem C114_vc (d : LI) (place_ : LI) (y : Int×Bool) (q : f114 d place_ = some y) : VC Tryz.f114 C114 (d,place_) y := by
 unfold f114 at q
 refine OL ?_
 obtain ⟨z2,hz2,q⟩ := bE q
 refine OQ ⟨Sum.elim (fun z2a=>[(0,⟨[(0,.dat T1 d),(1,.dat T1 place_)],[],0⟩)]) (fun z2b=>[(1,⟨[(4,D0 0),(5,.dat .bool false)],[],0⟩)]) z2,?_,?_⟩
 ·have q := hz2
  clear hz2
  unfold f114_j1 at q
  refine OL ?_
  obtain ⟨r3,hr3,q⟩ := bE q
  refine OL (AI f33_in (cV (cQ C33 d r3 [] false C33_holds hr3 rfl rfl (AI rfl (K0 (cN q (fun q=>?_) (fun q=>?_)))))))
  ·refine gY (gY (gY (gY (cF (cI q (fun q=>?_) (fun q=>?_))))))
   ·cases sE q
    refine OL (E4 [] (R3 (AI TV TV)))
   cases sE q
   refine E4 [] (R3 (AI TV TV))
  refine gN (gN (gN (gN (cT (cT (OL ?_))))))
  cases sE q
  refine E4 [] (R3 (AI TV TV))
 rcases z2 with z2a | z2b
 ·dsimp only [sumF] at q
  refine AI (OL (OL (OL ?_))) TV
  obtain ⟨z6,hz6,q⟩ := bE q
  refine lI (Int×Int) (Sum Unit Int) (fun x=>⟨[(0,.dat T1 d),(6,.dat T2 x.1),(19,.dat T1 place_),(20,.dat T2 (List.length place_:Int)),(21,.dat T2 x.2)],[],0⟩) (fun z=>Sum.elim (fun za=>[(1,⟨[(4,D0 0),(5,.dat .bool false)],[],0⟩)]) (fun zb=>[(2,⟨[(6,.dat T2 zb)],[],0⟩)]) z) (loopF (fun go x=>f114_l4 d place_ go x.1 x.2)) fuelN ((0:Int),(0:Int)) z6 (AI hz6 (AI (E4 [] (R6 (AI TV TV))) (AI (fun _ _ h=>lZ h) (AI (fun m=>curI (fun at_=>fun v21 z q=>?_)) ?_))))
  ·have q : f114_l4 d place_ (loopF (fun go x=>f114_l4 d place_ go x.1 x.2) m) at_ v21 = some z := q
   unfold f114_l4 at q
   refine OL (OL (cI q (fun q=>?_) (fun q=>?_)))
   ·refine OL (OL (gI q (fun q=>?_)))
    obtain ⟨z7,hz7,q⟩ := bE q
    refine OQ ⟨Sum.elim (fun z7a=>[(0,⟨[(0,.dat T1 d),(6,.dat T2 at_),(7,.dat T2 v21),(8,.dat T2 (rd (0:Int) place_ v21)),(19,.dat T1 place_),(20,.dat T2 (List.length place_:Int)),(21,.dat T2 v21)],[],0⟩)]) (fun z7b=>[(1,⟨[(4,D0 0),(5,.dat .bool false)],[],0⟩)]) z7,?_,?_⟩
    ·have q := hz7
     clear hz7
     unfold f114_j5 at q
     refine OL (cN q (fun q=>?_) (fun q=>?_))
     ·refine gY (gY (gY (gI q (fun q=>?_))))
      refine gY (gY (cF (cI q (fun q=>?_) (fun q=>?_))))
      ·cases sE q
       refine OL (E4 [] (R3 (AI TV TV)))
      cases sE q
      refine E4 [] (R8 (AI TV TV))
     refine gN (gN (gN (gN (gN (cT (cT (OL ?_)))))))
     cases sE q
     refine E4 [] (R3 (AI TV TV))
    rcases z7 with z7a | z7b
    ·dsimp only [sumF] at q
     refine AI (gI q (fun q=>?_)) TV
     refine EI ((i64.wrap ((i64.wrap (at_ * (rd (0:Int) d v21))) + (rd (0:Int) place_ v21))),(i64.wrap (v21 + (1:Int)))) (AI q (E4 [] (R6 (AI TV TV))))
    dsimp only [sumF] at q
    refine AI ?_ TV
    cases sE q
    refine E4 [] (R3 (AI TV TV))
   cases sE q
   refine E4 [] (R2 (AI TV TV))
  rcases z6 with z6a | z6b
  ·dsimp only [sumF] at q
   refine AI ?_ TV
   cases sE q
   refine AI rfl (E4 [] (R3 (AI TV TV)))
  dsimp only [sumF] at q
  refine AI (OL ?_) TV
  cases sE q
  refine AI rfl (E4 [] (R3 (AI TV TV)))
 dsimp only [sumF] at q
 refine AI ?_ TV
 cases sE q
 refine AI rfl (E4 [] (R3 (AI TV TV)))
theorem C114_holds : HP C114 114 := hH Tryz.f114 (by kernel_rfl) rfl (fun x y q=>C114_vc x.1 x.2 y q)
theorem f114_in : InP 114 := inP (by kernel_rfl)
end Go.Proofs
