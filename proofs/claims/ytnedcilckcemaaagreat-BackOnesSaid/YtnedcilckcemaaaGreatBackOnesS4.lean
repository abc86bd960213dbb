import Derived.Test.YtnedcilckcemaaaGreatBackOnesS3
set_option linter.unusedVariables false
set_option maxRecDepth 100000
set_option maxHeartbeats 8000000
namespace Go.Proofs
open Go.AM
open IntKind (i64 u64 i32 u32 i16 u16 i8 u8)
def f6_l1 (l:NL) (go:Int→Option (Sum Unit Unit)) (i:Int):Option (Sum Unit Unit):=
 bif (decide (i<l.length)) then
 E9 (0≤i∧i<l.length)<|
 bif (decide ((List.length ((((((rd (Ty.z T0) l i).2).2).2).2).1):Int)>10)) then
 some (Sum.inl ())
 else
 E9 (0≤i∧i<l.length)<|
 bif (decide ((List.length ((((((rd (Ty.z T0) l i).2).2).2).2).2):Int)>60)) then
 some (Sum.inl ())
 else
 go (i64.wrap (i+1))
 else
 some (Sum.inr ())
def f6 (l:NL) (most:Int):Option Bool:=
 bif (decide ((l.length:Int)>most)) then
 some false
 else
 Ey (Fp (fun go x=>f6_l1 l go x) Fv (0:Int)) fun z1=>
 Fz z1 (fun z1a=>
 some false) (fun z1b=>
 some true)
def C6:Con:=⟨NL×Int,Bool,0,fun x=>[.dat T6 x.1,.dat T2 x.2],NX,fun x=>f6 x.1 x.2,fun y=>[.dat .bool y],NX,0⟩
theorem V6 l most y (q:f6 l most=some y):VC Tryz.f6 C6 (l,most) y:=by
 unfold f6 at q
 refine OL (OL (OL (cI q (fun q=>?_) (fun q=>?_))))
 ·cases sE q
  refine OL (AI rfl (E4 [] (R2 (AI TV TV))))
 refine OL (OL ?_)
 obtain ⟨z1,h,q⟩:=bE q
 refine lJ h (fun x=>⟨[(0,.dat T6 l),(5,.dat T2 x)],[],0⟩) (fun z=>Sum.elim (fun za=>[(1,⟨[(4,.dat .bool false)],[],0⟩)]) (fun zb=>[(2,⟨[],[],0⟩)]) z) (E4 [] (R3 (AI TV TV))) (fun m=>fun i z q=>?_) ?_
 ·have q:f6_l1 l _ i=some z:=q
  unfold f6_l1 at q
  refine OL (OL (cI q (fun q=>?_) (fun q=>?_)))
  ·refine OL (OL (gI q (fun q=>?_)))
   refine cN q (fun q=>?_) (fun q=>?_)
   ·refine gY (gY (gI q (fun q=>?_)))
    refine gY (gY (gY (gY (gY (cF (cI q (fun q=>?_) (fun q=>?_)))))))
    ·cases sE q
     refine OL (E4 [] (R2 (AI TV TV)))
    refine EI (i64.wrap (i+1)) (AI q (E4 [] (R3 (AI TV TV))))
   refine gN (gN (gN (gN (gN (gN (gN (cT (cT (OL ?_)))))))))
   cases sE q
   refine E4 [] (R2 (AI TV TV))
  cases sE q
  refine E4 [] (AI rfl (AI TV TV))
 rcases z1 with z1a | z1b
 ·dsimp only [Fz] at q
  refine AI ?_ TV
  cases sE q
  refine AI rfl (E4 [] (R2 (AI TV TV)))
 dsimp only [Fz] at q
 refine AI (OL ?_) TV
 cases sE q
 refine AI rfl (E4 [] (R2 (AI TV TV)))
theorem H6:HI C6 6:=hI Tryz.f6 rfl fun x=>V6 x.1 x.2
def f67_j4 (d:LI) (i:Int):Option (Sum Unit Unit):=
 E9 (0≤i∧i<d.length)<|
 bif (decide ((rd 0 d i)<1)) then
 some (Sum.inr ())
 else
 E9 (0≤i∧i<d.length)<|
 bif (decide ((rd 0 d i)>4096)) then
 some (Sum.inr ())
 else
 some (Sum.inl ())
def f67_l3 (d:LI) (go:Gm→Option (Sum Unit Unit)) (n i:Int):Option (Sum Unit Unit):=
 bif (decide (i<d.length)) then
 Ey (f67_j4 d i) fun z4=>
 Fz z4 (fun z4a=>
 E9 (0≤i∧i<d.length)<|
 bif (decide ((i64.wrap (n*(rd 0 d i)))>4096)) then
 some (Sum.inl ())
 else
 go ((i64.wrap (n*(rd 0 d i))),(i64.wrap (i+1)))) (fun z4b=>
 some (Sum.inl ()))
 else
 some (Sum.inr ())
def f67 (d:LI):Option Bool:=
 bif (decide ((d.length:Int)>4)) then
 some false
 else
 Ey (Fp (fun go x=>f67_l3 d go x.1 x.2) Fv ((1:Int),(0:Int))) fun z3=>
 Fz z3 (fun z3a=>
 some false) (fun z3b=>
 some true)
def C67:Con:=⟨LI,Bool,0,fun x=>[.dat T1 x],NX,fun x=>f67 x,fun y=>[.dat .bool y],NX,0⟩
theorem V67 d y (q:f67 d=some y):VC Tryz.f67 C67 d y:=by
 unfold f67 at q
 refine OL (OL (OL (cI q (fun q=>?_) (fun q=>?_))))
 ·cases sE q
  refine OL (AI rfl (E4 [] (R2 (AI TV TV))))
 refine OL (OL (OL ?_))
 obtain ⟨z3,h,q⟩:=bE q
 refine lJ h (fun x=>⟨[(0,.dat T1 d),(3,.dat T2 x.1),(4,.dat T2 x.2)],[],0⟩) (fun z=>Sum.elim (fun za=>[(1,⟨[(2,.dat .bool false)],[],0⟩)]) (fun zb=>[(2,⟨[],[],0⟩)]) z) (E4 [] (R4 (AI TV TV))) (fun m=>F6 (fun n=>fun i z q=>?_)) ?_
 ·have q:f67_l3 d _ n i=some z:=q
  unfold f67_l3 at q
  refine OL (OL (cI q (fun q=>?_) (fun q=>?_)))
  ·refine OL ?_
   obtain ⟨z4,hz4,q⟩:=bE q
   refine OQ ⟨Sum.elim (fun z4a=>[(0,⟨[(0,.dat T1 d),(3,.dat T2 n),(4,.dat T2 i)],[],0⟩)]) (fun z4b=>[(1,⟨[(2,.dat .bool false)],[],0⟩)]) z4,?_,?_⟩
   ·have q:=hz4
    clear hz4
    unfold f67_j4 at q
    refine OL (gI q (fun q=>?_))
    refine cN q (fun q=>?_) (fun q=>?_)
    ·refine gY (gY (gI q (fun q=>?_)))
     refine gY (gY (cF (cI q (fun q=>?_) (fun q=>?_))))
     ·cases sE q
      refine OL (E4 [] (R2 (AI TV TV)))
     cases sE q
     refine E4 [] (R4 (AI TV TV))
    refine gN (gN (gN (gN (cT (cT (OL ?_))))))
    cases sE q
    refine E4 [] (R2 (AI TV TV))
   rcases z4 with z4a | z4b
   ·dsimp only [Fz] at q
    refine AI (OL (gI q (fun q=>?_))) TV
    refine OL (cI q (fun q=>?_) (fun q=>?_))
    ·cases sE q
     refine OL (E4 [] (R2 (AI TV TV)))
    refine EI ((i64.wrap (n*(rd 0 d i))),(i64.wrap (i+1))) (AI q (E4 [] (R4 (AI TV TV))))
   dsimp only [Fz] at q
   refine AI ?_ TV
   cases sE q
   refine E4 [] (R2 (AI TV TV))
  cases sE q
  refine E4 [] (AI rfl (AI TV TV))
 rcases z3 with z3a | z3b
 ·dsimp only [Fz] at q
  refine AI ?_ TV
  cases sE q
  refine AI rfl (E4 [] (R2 (AI TV TV)))
 dsimp only [Fz] at q
 refine AI (OL ?_) TV
 cases sE q
 refine AI rfl (E4 [] (R2 (AI TV TV)))
theorem H67:HI C67 67:=hI Tryz.f67 rfl fun x=>V67 x
def f27_l1 (d:LI) (go:Gm→Option Int) (n i:Int):Option Int:=
 bif (decide (i<d.length)) then
 E9 (0≤i∧i<d.length)<|
 go ((i64.wrap (n*(rd 0 d i))),(i64.wrap (i+1)))
 else
 some n
def f27 (d:LI):Option Int:=
 Ey (f67 d) fun r1=>
 bif (!r1) then
 some (0:Int)
 else
 Ey (Fp (fun go x=>f27_l1 d go x.1 x.2) Fv ((1:Int),(0:Int))) fun z2=>
 some z2
def C27:Con:=⟨LI,Int,0,fun x=>[.dat T1 x],NX,fun x=>f27 x,fun y=>[.dat T2 y],NX,0⟩
theorem V27 d y (q:f27 d=some y):VC Tryz.f27 C27 d y:=by
 unfold f27 at q
 refine OL (OL (OL ?_))
 obtain ⟨r1,h,q⟩:=bE q
 refine OL (cA H67 d h rfl (AI rfl (K0 (cI q (fun q=>?_) (fun q=>?_)))))
 ·cases sE q
  refine OL (AI rfl (E4 [] (R2 (AI TV TV))))
 refine OL (OL (OL ?_))
 obtain ⟨z2,h,q⟩:=bE q
 refine lJ h (fun x=>⟨[(0,.dat T1 d),(3,.dat T2 x.1),(4,.dat T2 x.2)],[],0⟩) (fun z=>[(2,⟨[(3,.dat T2 z)],[],0⟩)]) (E4 [] (R4 (AI TV TV))) (fun m=>F6 (fun n=>fun i z q=>?_)) ?_
 ·have q:f27_l1 d _ n i=some z:=q
  unfold f27_l1 at q
  refine OL (OL (cI q (fun q=>?_) (fun q=>?_)))
  ·refine OL (gI q (fun q=>?_))
   refine EI ((i64.wrap (n*(rd 0 d i))),(i64.wrap (i+1))) (AI q (E4 [] (R4 (AI TV TV))))
  cases sE q
  refine E4 [] (R2 (AI TV TV))
 refine AI (OL ?_) TV
 cases sE q
 refine AI rfl (E4 [] (R2 (AI TV TV)))
theorem H27:HI C27 27:=hI Tryz.f27 rfl fun x=>V27 x
def f32 (t:Fx):Option Bool:=
 Ey (f67 t.1) fun q1_2=>
 bif q1_2 then
 Ey (f27 t.1) fun q1_9=>
 some ((t.2.length:Int)==q1_9)
 else
 some false
def C32:Con:=⟨Fx,Bool,0,fun x=>[.dat T3 x],NX,fun x=>f32 x,fun y=>[.dat .bool y],NX,0⟩
theorem V32 t y (q:f32 t=some y):VC Tryz.f32 C32 t y:=by
 unfold f32 at q
 refine OL (OL (EI (.take 0 (.take 1 (.alt 2 (tU 3 6 (.alt 9 (tU 10 3 .done) .done)) .done))) (EI [] (EI [] (AI rfl (AI TV ?_))))))
 obtain ⟨q1_2,h,q⟩:=bE q
 refine OL (cA H67 t.1 h rfl (AI rfl (K0 (cI q (fun q=>?_) (fun q=>?_)))))
 ·refine gX (gX (gX (gX (AI TV (gX ?_)))))
  obtain ⟨q1_9,h,q⟩:=bE q
  refine OL (cA H27 t.1 h rfl (AI rfl (K0 (gX (cT ?_)))))
  cases sE q
  refine AI rfl (E4 [] (R2 (AI TV TV)))
 refine gM (gM (gM (gM (AI TV (gM (gM (cF ?_)))))))
 cases sE q
 refine AI rfl (E4 [] (R2 (AI TV TV)))
theorem H32:HI C32 32:=hI Tryz.f32 rfl fun x=>V32 x
def f18_j1 (x_:Fx):Option Unit:=
 E9 ((List.length ([]:LI)+x_.1.length)*8≤140737488355328)<|
 E9 ((List.length ([]:LI)+x_.2.length)*8≤140737488355328)<|
 some ()
def f18 (t_L:NL) (x_:Fx):Option (Int×Int×NL):=
 bif (decide ((t_L.length:Int)≥512)) then
 some ((0:Int),(2:Int),t_L)
 else
 Ey (f32 (x_.1,x_.2)) fun r1=>
 bif (!r1) then
 some ((0:Int),(1:Int),t_L)
 else
 Ey (f18_j1 x_) fun z2=>
 E9 ((t_L.length+List.length ([((1:Int),(-1:Int),(-1:Int),(0:Int),(([]:LI)++x_.1),(([]:LI)++x_.2))]))*80≤140737488355328)<|
 some ((i64.wrap ((List.length (t_L++([((1:Int),(-1:Int),(-1:Int),(0:Int),(([]:LI)++x_.1),(([]:LI)++x_.2))])):Int)-1)),(0:Int),(t_L++([((1:Int),(-1:Int),(-1:Int),(0:Int),(([]:LI)++x_.1),(([]:LI)++x_.2))])))
def C18:Con:=⟨NL×Fx,Int×Int×NL,2,fun x=>[P0 0 0,.dat T3 x.2],fun x=>[(0,.cells [(.osl 1)]),(1,.arr 44 T0 x.1)],fun x=>f18 x.1 x.2,fun y=>[.dat T2 y.1,.dat T2 y.2.1],fun y=>[(0,.cells [(.osl 2)]),(2,.arr 44 T0 y.2.2)],3⟩
theorem V18 t_L x_ y (q:f18 t_L x_=some y):VE Tryz.f18 2 C18 (t_L,x_) y:=by
 unfold f18 at q
 refine OL (OL (OL (cI q (fun q=>?_) (fun q=>?_))))
 ·cases sE q
  refine OL (AI rfl (E4 [(0,some 0),(2,some 1)] (R3 (AI TV (R2 TV)))))
 refine OL (OL ?_)
 obtain ⟨r1,h,q⟩:=bE q
 refine OL (cA H32 (x_.1,x_.2) h rfl (R2 (K0 (cI q (fun q=>?_) (fun q=>?_)))))
 ·cases sE q
  refine OL (AI rfl (E4 [(0,some 0),(2,some 1)] (R3 (AI TV (R2 TV)))))
 obtain ⟨z2,hz2,q⟩:=bE q
 refine OQ ⟨[(0,⟨[(0,P0 0 0),(6,P0 2 0)],[(0,.cells [(.osl 1)]),(1,.arr 44 T0 t_L),(2,.cells [(.osl 3),(.osl 4)]),(3,.arr 3 T2 (([]:LI)++x_.1)),(4,.arr 42 T2 (([]:LI)++x_.2))],5⟩)],?_,?_⟩
 ·have q:=hz2
  clear hz2
  unfold f18_j1 at q
  obtain ⟨g5_0,q⟩:=gE q
  obtain ⟨g5_1,q⟩:=gE q
  refine EI (.take 1 (.take 2 (.take 5 (.take 6 (.alt 0 (.alt 3 (.alt 4 (.alt 7 (.take 8 (.alt 9 (.alt 10 .done .done) .done)) (.alt 9 (.alt 7 (.take 8 (.alt 10 .done .done)) .done) .done)) (.alt 9 (.alt 4 (.alt 7 (.take 8 (.alt 10 .done .done)) .done) .done) .done)) (.alt 4 (.alt 3 (.alt 7 (.take 8 (.alt 9 (.alt 10 .done .done) .done)) (.alt 9 (.alt 7 (.take 8 (.alt 10 .done .done)) .done) .done)) (.alt 9 (.alt 3 (.alt 7 (.take 8 (.alt 10 .done .done)) .done) .done) .done)) (.alt 9 (.alt 3 (.alt 4 (.alt 7 (.take 8 (.alt 10 .done .done)) .done) .done) (.alt 4 (.alt 3 (.alt 7 (.take 8 (.alt 10 .done .done)) .done) .done) .done)) .done))) (.alt 4 (.alt 0 (.alt 3 (.alt 7 (.take 8 (.alt 9 (.alt 10 .done .done) .done)) (.alt 9 (.alt 7 (.take 8 (.alt 10 .done .done)) .done) .done)) (.alt 9 (.alt 3 (.alt 7 (.take 8 (.alt 10 .done .done)) .done) .done) .done)) (.alt 9 (.alt 0 (.alt 3 (.alt 7 (.take 8 (.alt 10 .done .done)) .done) .done) .done) .done)) (.alt 9 (.alt 0 (.alt 3 (.alt 4 (.alt 7 (.take 8 (.alt 10 .done .done)) .done) .done) (.alt 4 (.alt 3 (.alt 7 (.take 8 (.alt 10 .done .done)) .done) .done) .done)) (.alt 4 (.alt 0 (.alt 3 (.alt 7 (.take 8 (.alt 10 .done .done)) .done) .done) .done) .done)) .done))))))) (EI [] (EI [] (AI rfl ?_)))
  refine AI (AI (AI TV ?_) ?_) ?_
  ·refine AI (AI TV ?_) ?_
   ·refine OL (AI TV (OL (AI TV (OL (AI g5_0 (AI TV (OL (AI g5_1 (AI TV (OL ?_))))))))))
    cases sE q
    refine E4 (iuR [1,2,4,7,8]) (AI rfl (AI (R2 TV) (R5 TV)))
   refine OL (AI (AI TV ?_) ?_)
   ·refine OL (AI TV (OL (AI g5_0 (AI TV (OL (AI g5_1 (AI TV (OL ?_))))))))
    cases sE q
    refine E4 (iuR [1,2,4,7,8]) (AI rfl (AI (R2 TV) (R5 TV)))
   refine OL (AI g5_0 (AI TV (OL (AI TV (OL (AI g5_1 (AI TV (OL ?_))))))))
   cases sE q
   refine E4 (iuR [1,2,4,6,8]) (AI rfl (AI (R2 TV) (R5 TV)))
  ·refine OL (AI (AI TV ?_) ?_)
   ·refine AI TV (OL (AI TV (OL (AI g5_0 (AI TV (OL (AI g5_1 (AI TV (OL ?_)))))))))
    cases sE q
    refine E4 (iuR [1,2,5,7,8]) (AI rfl (AI (R2 TV) (R5 TV)))
   refine OL (AI (AI TV ?_) ?_)
   ·refine AI TV (OL (AI g5_0 (AI TV (OL (AI g5_1 (AI TV (OL ?_)))))))
    cases sE q
    refine E4 (iuR [1,2,6,7,8]) (AI rfl (AI (R2 TV) (R5 TV)))
   refine OL (AI g5_0 (AI (AI TV ?_) ?_))
   ·refine AI TV (OL (AI g5_1 (AI TV (OL ?_))))
    cases sE q
    refine E4 (iuR [1,2,7,6,8]) (AI rfl (AI (R2 TV) (R5 TV)))
   refine OL (AI g5_1 (AI TV (AI TV (OL ?_))))
   cases sE q
   refine E4 (iuR [1,2,8,6,7]) (AI rfl (AI (R2 TV) (R5 TV)))
  refine OL (AI (AI (AI TV ?_) ?_) ?_)
  ·refine AI (AI TV ?_) ?_
   ·refine OL (AI TV (OL (AI g5_0 (AI TV (OL (AI g5_1 (AI TV (OL ?_))))))))
    cases sE q
    refine E4 (iuR [1,2,5,7,8]) (AI rfl (AI (R2 TV) (R5 TV)))
   refine OL (AI g5_0 (AI TV (OL (AI TV (OL (AI g5_1 (AI TV (OL ?_))))))))
   cases sE q
   refine E4 (iuR [1,2,5,6,8]) (AI rfl (AI (R2 TV) (R5 TV)))
  ·refine OL (AI (AI TV ?_) ?_)
   ·refine AI TV (OL (AI g5_0 (AI TV (OL (AI g5_1 (AI TV (OL ?_)))))))
    cases sE q
    refine E4 (iuR [1,2,6,7,8]) (AI rfl (AI (R2 TV) (R5 TV)))
   refine OL (AI g5_0 (AI (AI TV ?_) ?_))
   ·refine AI TV (OL (AI g5_1 (AI TV (OL ?_))))
    cases sE q
    refine E4 (iuR [1,2,7,6,8]) (AI rfl (AI (R2 TV) (R5 TV)))
   refine OL (AI g5_1 (AI TV (AI TV (OL ?_))))
   cases sE q
   refine E4 (iuR [1,2,8,6,7]) (AI rfl (AI (R2 TV) (R5 TV)))
  refine OL (AI g5_0 (AI (AI TV ?_) ?_))
  ·refine AI TV (OL (AI TV (OL (AI g5_1 (AI TV (OL ?_))))))
   cases sE q
   refine E4 (iuR [1,2,6,5,8]) (AI rfl (AI (R2 TV) (R5 TV)))
  refine OL (AI (AI TV ?_) ?_)
  ·refine AI TV (OL (AI g5_1 (AI TV (OL ?_))))
   cases sE q
   refine E4 (iuR [1,2,7,5,8]) (AI rfl (AI (R2 TV) (R5 TV)))
  refine OL (AI g5_1 (AI TV (AI TV (OL ?_))))
  cases sE q
  refine E4 (iuR [1,2,8,5,7]) (AI rfl (AI (R2 TV) (R5 TV)))
 refine AI (OL (EI (tU 0 7 (.alt 7 (.alt 8 (.take 9 (.take 10 (.alt 11 .done .done))) .done) .done)) (EI [(11,[0])] (EI [] (AI rfl (AI TV (OL (AI TV (OL (gI q (fun q=>?_))))))))))) TV
 refine AI TV (OL (OL ?_))
 cases sE q
 refine AI rfl (E4 [(0,some 0),(2,some 6)] (R3 (AI TV (R2 TV))))
theorem H18:HI C18 18:=hI Tryz.f18 rfl fun x=>V18 x.1 x.2
def f54 (op:Int):Option Bool:=
 bif (op==2) then
 some true
 else
 bif (op==3) then
 some true
 else
 bif (op==4) then
 some true
 else
 bif (op==6) then
 some true
 else
 some (op==12)
def C54:Con:=⟨Int,Bool,0,fun x=>[.dat T2 x],NX,fun x=>f54 x,fun y=>[.dat .bool y],NX,0⟩
theorem V54 op y (q:f54 op=some y):VC Tryz.f54 C54 op y:=by
 unfold f54 at q
 refine OL (OL (cN q (fun q=>?_) (fun q=>?_)))
 ·refine gY (cF (cN q (fun q=>?_) (fun q=>?_)))
  ·refine gY (cF (cN q (fun q=>?_) (fun q=>?_)))
   ·refine gY (cF (cN q (fun q=>?_) (fun q=>?_)))
    ·refine gY (cF ?_)
     cases sE q
     refine AI rfl (E4 [] (R2 (AI TV TV)))
    refine gN (cT ?_)
    cases sE q
    refine AI rfl (E4 [] (R2 (AI TV TV)))
   refine gN (cT (gN (gN (cT ?_))))
   cases sE q
   refine AI rfl (E4 [] (R2 (AI TV TV)))
  refine gN (cT (gN (gN (cT (gN (gN (cT ?_)))))))
  cases sE q
  refine AI rfl (E4 [] (R2 (AI TV TV)))
 refine gN (cT (gN (gN (cT (gN (gN (cT (gN (gN (cT ?_))))))))))
 cases sE q
 refine AI rfl (E4 [] (R2 (AI TV TV)))
theorem H54:HI C54 54:=hI Tryz.f54 rfl fun x=>V54 x
def f55 (op:Int):Option Bool:=
 bif (op==5) then
 some true
 else
 bif (op==8) then
 some true
 else
 bif (op==11) then
 some true
 else
 bif (op==12) then
 some true
 else
 some (op==13)
def C55:Con:=⟨Int,Bool,0,fun x=>[.dat T2 x],NX,fun x=>f55 x,fun y=>[.dat .bool y],NX,0⟩
theorem V55 op y (q:f55 op=some y):VC Tryz.f55 C55 op y:=by
 unfold f55 at q
 refine OL (OL (cN q (fun q=>?_) (fun q=>?_)))
 ·refine gY (cF (cN q (fun q=>?_) (fun q=>?_)))
  ·refine gY (cF (cN q (fun q=>?_) (fun q=>?_)))
   ·refine gY (cF (cN q (fun q=>?_) (fun q=>?_)))
    ·refine gY (cF ?_)
     cases sE q
     refine AI rfl (E4 [] (R2 (AI TV TV)))
    refine gN (cT ?_)
    cases sE q
    refine AI rfl (E4 [] (R2 (AI TV TV)))
   refine gN (cT (gN (gN (cT ?_))))
   cases sE q
   refine AI rfl (E4 [] (R2 (AI TV TV)))
  refine gN (cT (gN (gN (cT (gN (gN (cT ?_)))))))
  cases sE q
  refine AI rfl (E4 [] (R2 (AI TV TV)))
 refine gN (cT (gN (gN (cT (gN (gN (cT (gN (gN (cT ?_))))))))))
 cases sE q
 refine AI rfl (E4 [] (R2 (AI TV TV)))
theorem H55:HI C55 55:=hI Tryz.f55 rfl fun x=>V55 x
def f62_j1 (a b:LI):Option (Sum Unit Unit):=
 Ey (f67 a) fun r4=>
 bif (!r4) then
 some (Sum.inr ())
 else
 Ey (f67 b) fun r5=>
 bif (!r5) then
 some (Sum.inr ())
 else
 some (Sum.inl ())
def f62_j2 (a b:LI):Option Int:=
 bif (decide ((b.length:Int)>a.length)) then
 some (b.length:Int)
 else
 some (a.length:Int)
def f62_j12 (a:LI) (i:Int):Option Int:=
 bif (decide (i≤a.length)) then
 E9 (0≤(i64.wrap ((a.length:Int)-i))∧(i64.wrap ((a.length:Int)-i))<a.length)<|
 some (rd 0 a (i64.wrap ((a.length:Int)-i)))
 else
 some (1:Int)
def f62_j13 (b:LI) (i:Int):Option Int:=
 bif (decide (i≤b.length)) then
 E9 (0≤(i64.wrap ((b.length:Int)-i))∧(i64.wrap ((b.length:Int)-i))<b.length)<|
 some (rd 0 b (i64.wrap ((b.length:Int)-i)))
 else
 some (1:Int)
def f62_j14 (z16 z17:Int):Option (Sum Unit Unit):=
 bif (z16 != z17) then
 bif (z16 != 1) then
 bif (z17 != 1) then
 some (Sum.inr ())
 else
 some (Sum.inl ())
 else
 some (Sum.inl ())
 else
 some (Sum.inl ())
def f62_j15 (z16 z17:Int):Option Int:=
 bif (decide (z17>z16)) then
 some z17
 else
 some z16
def f62_l11 (a b:LI) (z6:Int) (go:Jv→Option (Sum Unit LI)) (i:Int) (l0:LI):Option (Sum Unit LI):=
 bif (decide (i≤z6)) then
 Ey (f62_j12 a i) fun z16=>
 Ey (f62_j13 b i) fun z17=>
 Ey (f62_j14 z16 z17) fun z18=>
 Fz z18 (fun z18a=>
 Ey (f62_j15 z16 z17) fun z19=>
 E9 (0≤(i64.wrap (z6-i))∧(i64.wrap (z6-i))<l0.length)<|
 go ((i64.wrap (i+1)),(List.set l0 (Int.toNat (i64.wrap (z6-i))) z19))) (fun z18b=>
 some (Sum.inl ()))
 else
 some (Sum.inr l0)
def f62 (a b:LI):Option Jv:=
 Ey (f62_j1 a b) fun z3=>
 Fz z3 (fun z3a=>
 Ey (f62_j2 a b) fun z6=>
 E9 (0≤z6∧z6≤z6∧Int.toNat z6*8≤140737488355328)<|
 Ey (Fp (fun go x=>f62_l11 a b z6 go x.1 x.2) Fv ((1:Int),(List.replicate (Int.toNat z6) (0:Int)))) fun z15=>
 Fz z15 (fun z15a=>
 some ((4:Int),[])) (fun z15b=>
 Ey (f67 z15b) fun r20=>
 bif (!r20) then
 some ((2:Int),[])
 else
 some ((0:Int),z15b))) (fun z3b=>
 some ((1:Int),[]))
def C62:Con:=⟨Fx,Jv,0,fun x=>[.dat T1 x.1,.dat T1 x.2],NX,fun x=>f62 x.1 x.2,fun y=>[O0 0,.dat T2 y.1],fun y=>[(0,.arr 3 T2 y.2)],1⟩
theorem V62 a b y (q:f62 a b=some y):VC Tryz.f62 C62 (a,b) y:=by
 unfold f62 at q
 refine OL ?_
 obtain ⟨z3,hz3,q⟩:=bE q
 let e0:LE:=fun zz=>(0,.dat T1 a)::(1,.dat T1 b)::zz
 refine OQ ⟨Sum.elim (fun z3a=>[(0,⟨e0 [],[],0⟩)]) (fun z3b=>[(1,⟨[(4,.raw false [N0]),(5,D0 1)],[],0⟩)]) z3,?_,?_⟩
 ·have q:=hz3
  clear hz3
  unfold f62_j1 at q
  refine OL ?_
  obtain ⟨r4,h,q⟩:=bE q
  refine OL (cA H67 a h rfl (AI rfl (K0 (cN q (fun q=>?_) (fun q=>?_)))))
  ·refine gY ?_
   obtain ⟨r5,h,q⟩:=bE q
   refine OL (cA H67 b h rfl (AI rfl (K0 (gY (cF (cI q (fun q=>?_) (fun q=>?_)))))))
   ·cases sE q
    refine OL (E4 [] (R2 (AJ TV)))
   cases sE q
   refine E4 [] (R3 (AI TV TV))
  refine gN (gN (cT (cT (OL ?_))))
  cases sE q
  refine E4 [] (R2 (AJ TV))
 rcases z3 with z3a | z3b
 ·dsimp only [Fz] at q
  refine AI (OL ?_) TV
  obtain ⟨z6,hz6,q⟩:=bE q
  let e1:LE:=fun zz=>e0 ((6,.dat T2 z6)::zz)
  refine OQ ⟨[(0,⟨e1 [],[],0⟩)],?_,?_⟩
  ·have q:=hz6
   clear hz6
   unfold f62_j2 at q
   refine OL (cI q (fun q=>?_) (fun q=>?_))
   ·cases sE q
    refine E4 [] (R4 (AI TV TV))
   cases sE q
   refine E4 [] (R4 (AI TV TV))
  refine AI (OL (gI q (fun q=>?_))) TV
  refine OL (OL ?_)
  obtain ⟨z15,h,q⟩:=bE q
  refine lJ h (fun x=>⟨e1 [(7,O0 0),(8,.dat T2 x.1)],[(0,.arr 3 T2 x.2)],1⟩) (fun z=>Sum.elim (fun za=>[(1,⟨[(4,.raw false [N0]),(5,D0 4)],[],0⟩)]) (fun zb=>[(2,⟨[(7,O0 0)],[(0,.arr 3 T2 zb)],1⟩)]) z) (E4 (iuR [1]) (R5 (AJ (AI rfl TV)))) (fun m=>F6 (fun i=>fun l0 z q=>?_)) ?_
  ·have q:f62_l11 a b z6 _ i l0=some z:=q
   unfold f62_l11 at q
   refine OL (OL (cI q (fun q=>?_) (fun q=>?_)))
   ·refine OL (OL ?_)
    obtain ⟨z16,hz16,q⟩:=bE q
    let e2:LE:=fun zz=>e1 ((7,O0 0)::(8,.dat T2 i)::zz)
    refine OQ ⟨[(0,⟨e2 [(9,.dat T2 z16),(10,D0 1)],[(0,.arr 3 T2 l0)],1⟩)],?_,?_⟩
    ·have q:=hz16
     clear hz16
     unfold f62_j12 at q
     refine OL (cI q (fun q=>?_) (fun q=>?_))
     ·refine gI q (fun q=>?_)
      cases sE q
      refine E4 (iuR [1]) (R7 (AJ (AI rfl TV)))
     cases sE q
     refine E4 (iuR [1]) (R7 (AJ (AI rfl TV)))
    refine AI ?_ TV
    obtain ⟨z17,hz17,q⟩:=bE q
    refine OQ ⟨[(0,⟨e2 [(9,.dat T2 z16),(10,.dat T2 z17)],[(0,.arr 3 T2 l0)],1⟩)],?_,?_⟩
    ·have q:=hz17
     clear hz17
     unfold f62_j13 at q
     refine OL (cI q (fun q=>?_) (fun q=>?_))
     ·refine gI q (fun q=>?_)
      cases sE q
      refine E4 (iuR [1]) (R7 (AJ (AI rfl TV)))
     cases sE q
     refine E4 (iuR [1]) (R7 (AJ (AI rfl TV)))
    refine AI ?_ TV
    obtain ⟨z18,hz18,q⟩:=bE q
    refine OQ ⟨Sum.elim (fun z18a=>[(0,⟨e2 [(9,.dat T2 z16),(10,.dat T2 z17)],[(0,.arr 3 T2 l0)],1⟩)]) (fun z18b=>[(1,⟨[(4,.raw false [N0]),(5,D0 4)],[],0⟩)]) z18,?_,?_⟩
    ·have q:=hz18
     clear hz18
     unfold f62_j14 at q
     refine OL (cI q (fun q=>?_) (fun q=>?_))
     ·refine gX (cT (cI q (fun q=>?_) (fun q=>?_)))
      ·refine gX (cT (cI q (fun q=>?_) (fun q=>?_)))
       ·cases sE q
        refine OL (E4 [] (R2 (AJ TV)))
       cases sE q
       refine E4 (iuR [1]) (R7 (AJ (AI rfl TV)))
      refine gM (cF (cF ?_))
      cases sE q
      refine E4 (iuR [1]) (R7 (AJ (AI rfl TV)))
     refine gM (cF (gM (gM (cF (cF ?_)))))
     cases sE q
     refine E4 (iuR [1]) (R7 (AJ (AI rfl TV)))
    rcases z18 with z18a | z18b
    ·dsimp only [Fz] at q
     refine AI ?_ TV
     obtain ⟨z19,hz19,q⟩:=bE q
     refine OQ ⟨[(0,⟨e2 [(9,.dat T2 z19)],[(0,.arr 3 T2 l0)],1⟩)],?_,?_⟩
     ·have q:=hz19
      clear hz19
      unfold f62_j15 at q
      refine OL (cI q (fun q=>?_) (fun q=>?_))
      ·cases sE q
       refine E4 (iuR [1]) (R6 (AJ (AI rfl TV)))
      cases sE q
      refine E4 (iuR [1]) (R6 (AJ (AI rfl TV)))
     refine AI (gI q (fun q=>?_)) TV
     refine OL (EI ((i64.wrap (i+1)),(List.set l0 (Int.toNat (i64.wrap (z6-i))) z19)) (AI q (E4 (iuR [1]) (R5 (AJ (AI rfl TV))))))
    dsimp only [Fz] at q
    refine AI ?_ TV
    cases sE q
    refine E4 [] (R2 (AJ TV))
   cases sE q
   refine E4 (iuR [1]) (AI rfl (AJ (AI rfl TV)))
  rcases z15 with z15a | z15b
  ·dsimp only [Fz] at q
   refine AI ?_ TV
   cases sE q
   refine AI rfl (E4 (iuR [0]) (R2 (AJ (AI rfl TV))))
  dsimp only [Fz] at q
  refine AI (OL (OL ?_)) TV
  obtain ⟨r20,h,q⟩:=bE q
  refine OL (cD H67 z15b h rfl (AI rfl (AI (fun _=>rfl) (R2 (AI TV (AI TV (cI q (fun q=>?_) (fun q=>?_))))))))
  ·cases sE q
   refine OL (AI rfl (E4 (iuR [0]) (R2 (AJ (AI rfl TV)))))
  cases sE q
  refine OL (AI rfl (E4 (iuR [1]) (R2 (AJ (AI rfl TV)))))
 dsimp only [Fz] at q
 refine AI ?_ TV
 cases sE q
 refine AI rfl (E4 (iuR [0]) (R2 (AJ (AI rfl TV))))
theorem H62:HI C62 62:=hI Tryz.f62 rfl fun x=>V62 x.1 x.2
def f11_l1 (v:Int) (go:Jv→Option LI) (i:Int) (l3:LI):Option LI:=
 bif (decide (i<l3.length)) then
 E9 (0≤i∧i<l3.length)<|
 go ((i64.wrap (i+1)),(List.set l3 (Int.toNat i) v))
 else
 some l3
def f11 (d:LI) (v:Int):Option Fx:=
 E9 ((List.length ([]:LI)+d.length)*8≤140737488355328)<|
 Ey (f27 d) fun r1=>
 E9 (0≤r1∧r1≤r1∧Int.toNat r1*8≤140737488355328)<|
 Ey (Fp (fun go x=>f11_l1 v go x.1 x.2) Fv ((0:Int),(List.replicate (Int.toNat r1) (0:Int)))) fun z2=>
 some ((([]:LI)++d),z2)
def C11:Con:=⟨LI×Int,Fx,0,fun x=>[.dat T1 x.1,.dat T2 x.2],NX,fun x=>f11 x.1 x.2,fun y=>[.raw true [(.osl 0),(.osl 1)]],fun y=>[(0,.arr 3 T2 y.1),(1,.arr 42 T2 y.2)],2⟩
theorem V11 d v y (q:f11 d v=some y):VC Tryz.f11 C11 (d,v) y:=by
 unfold f11 at q
 refine OL (OL (OL (OL (gI q (fun q=>?_)))))
 obtain ⟨r1,h,q⟩:=bE q
 refine OL (cA H27 d h rfl (AI rfl (K0 (gI q (fun q=>?_)))))
 refine OL (OL (OL ?_))
 obtain ⟨z2,hz2,q⟩:=bE q
 let h0:LH:=fun zz=>(0,.cells [N0,N0])::(1,.cells [(.osl 2),(.osl 3)])::(2,.arr 3 T2 (([]:LI)++d))::zz
 refine lJ hz2 (fun x=>⟨[(1,.dat T2 v),(4,P0 0 0),(5,P0 1 0),(6,.dat T2 x.1)],h0 [(3,.arr 42 T2 x.2)],4⟩) (fun z=>[(2,⟨[(4,P0 0 0),(5,P0 1 0)],h0 [(3,.arr 42 T2 z)],4⟩)]) (E4 (iuR [1,5,3,4]) (R3 (AI (R2 TV) (R4 TV)))) (fun m=>F6 (fun i=>fun l3 z q=>?_)) ?_
 ·have q:f11_l1 v _ i l3=some z:=q
  unfold f11_l1 at q
  refine OL (OL (cI q (fun q=>?_) (fun q=>?_)))
  ·refine OL (gI q (fun q=>?_))
   refine OL (EI ((i64.wrap (i+1)),(List.set l3 (Int.toNat i) v)) (AI q (E4 I4 (R3 (AI (R2 TV) (R4 TV))))))
  cases sE q
  refine E4 I4 (AI rfl (AI (R2 TV) (R4 TV)))
 refine AI (OL (OL ?_)) TV
 cases sE q
 refine AI rfl (E4 (iuR [3,4]) (AI rfl (AJ (R2 TV))))
theorem H11:HI C11 11:=hI Tryz.f11 rfl fun x=>V11 x.1 x.2
def f37_j1 (d:LI) (at_:Int):Option (Sum Unit Unit):=
 Ey (f67 d) fun r4=>
 bif (!r4) then
 some (Sum.inr ())
 else
 bif (decide (at_<0)) then
 some (Sum.inr ())
 else
 Ey (f27 d) fun r5=>
 bif (decide (at_≥r5)) then
 some (Sum.inr ())
 else
 some (Sum.inl ())
def f37_l2 (d:LI) (go:(Int×Jv)→Option LI) (at__2 i:Int) (l0:LI):Option LI:=
 bif (decide (i≥0)) then
 E9 (0≤i∧i<d.length)<|
 E9 ((rd 0 d i)≠0)<|
 E9 (0≤i∧i<l0.length)<|
 E9 (0≤i∧i<d.length)<|
 E9 ((rd 0 d i)≠0)<|
 go ((i64.wrap (Int.tdiv at__2 (rd 0 d i))),(i64.wrap (i-1)),(List.set l0 (Int.toNat i) (Int.tmod at__2 (rd 0 d i))))
 else
 some l0
def f37 (d:LI) (at_:Int):Option (Bool×LI):=
 Ey (f37_j1 d at_) fun z3=>
 Fz z3 (fun z3a=>
 E9 (0≤(d.length:Int)∧(d.length:Int)≤d.length∧Int.toNat (d.length:Int)*8≤140737488355328)<|
 Ey (Fp (fun go x=>f37_l2 d go x.1 x.2.1 x.2.2) Fv (at_,(i64.wrap ((d.length:Int)-1)),(List.replicate (Int.toNat (d.length:Int)) (0:Int)))) fun z6=>
 some (true,z6)) (fun z3b=>
 some (false,[]))
def C37:Con:=⟨LI×Int,Bool×LI,0,fun x=>[.dat T1 x.1,.dat T2 x.2],NX,fun x=>f37 x.1 x.2,fun y=>[O0 0,.dat .bool y.1],fun y=>[(0,.arr 3 T2 y.2)],1⟩
theorem V37 d at_ y (q:f37 d at_=some y):VC Tryz.f37 C37 (d,at_) y:=by
 unfold f37 at q
 refine OL ?_
 obtain ⟨z3,hz3,q⟩:=bE q
 refine OQ ⟨Sum.elim (fun z3a=>[(0,⟨[(0,.dat T1 d),(1,.dat T2 at_)],[],0⟩)]) (fun z3b=>[(1,⟨[(4,.raw false [N0]),(5,.dat .bool false)],[],0⟩)]) z3,?_,?_⟩
 ·have q:=hz3
  clear hz3
  unfold f37_j1 at q
  refine OL ?_
  obtain ⟨r4,h,q⟩:=bE q
  refine OL (cA H67 d h rfl (AI rfl (K0 (cN q (fun q=>?_) (fun q=>?_)))))
  ·refine gY (cF (cN q (fun q=>?_) (fun q=>?_)))
   ·refine gY (gY ?_)
    obtain ⟨r5,h,q⟩:=bE q
    refine OL (cA H27 d h rfl (AI rfl (K0 (gY (cF (cI q (fun q=>?_) (fun q=>?_)))))))
    ·cases sE q
     refine OL (E4 [] (R2 (AJ TV)))
    cases sE q
    refine E4 [] (R3 (AI TV TV))
   refine gN (gN (gN (cT (cT (OL ?_)))))
   cases sE q
   refine E4 [] (R2 (AJ TV))
  refine gN (cT (gN (gN (gN (gN (cT (cT (OL ?_))))))))
  cases sE q
  refine E4 [] (R2 (AJ TV))
 rcases z3 with z3a | z3b
 ·dsimp only [Fz] at q
  refine AI (OL (gI q (fun q=>?_))) TV
  refine OL (OL ?_)
  obtain ⟨z6,h,q⟩:=bE q
  refine lJ h (fun x=>⟨[(0,.dat T1 d),(1,.dat T2 x.1),(6,O0 0),(7,.dat T2 x.2.1)],[(0,.arr 3 T2 x.2.2)],1⟩) (fun z=>[(2,⟨[(6,O0 0)],[(0,.arr 3 T2 z)],1⟩)]) (E4 (iuR [1]) (R4 (AJ (AI rfl TV)))) (fun m=>F6 (fun at__2=>F6 (fun i=>fun l0 z q=>?_))) ?_
  ·have q:f37_l2 d _ at__2 i l0=some z:=q
   unfold f37_l2 at q
   refine OL (OL (cI q (fun q=>?_) (fun q=>?_)))
   ·refine OL (OL (gI q (fun q=>?_)))
    refine gI q (fun q=>?_)
    refine gI q (fun q=>?_)
    refine OL (gI q (fun q=>?_))
    refine gI q (fun q=>?_)
    refine EI ((i64.wrap (Int.tdiv at__2 (rd 0 d i))),(i64.wrap (i-1)),(List.set l0 (Int.toNat i) (Int.tmod at__2 (rd 0 d i)))) (AI q (E4 (iuR [1]) (R4 (AJ (AI rfl TV)))))
   cases sE q
   refine E4 (iuR [1]) (AI rfl (AJ (AI rfl TV)))
  refine AI (OL ?_) TV
  cases sE q
  refine AI rfl (E4 (iuR [1]) (R2 (AJ (AI rfl TV))))
 dsimp only [Fz] at q
 refine AI ?_ TV
 cases sE q
 refine AI rfl (E4 (iuR [0]) (R2 (AJ (AI rfl TV))))
theorem H37:HI C37 37:=hI Tryz.f37 rfl fun x=>V37 x.1 x.2
def f63_j1 (big:LI) (r1:Jv):Option (Sum Unit Unit):=
 bif (r1.1 != 0) then
 some (Sum.inr ())
 else
 Ey (f26 r1.2 big) fun r4=>
 bif (!r4) then
 some (Sum.inr ())
 else
 some (Sum.inl ())
def f63_j5 (d:LI) (r5:Bool×LI) (i:Int):Option Int:=
 E9 (0≤i∧i<d.length)<|
 bif ((rd 0 d i)==1) then
 some (0:Int)
 else
 some (rd 0 r5.2 (i64.wrap ((i64.wrap ((r5.2.length:Int)-d.length))+i)))
def f63_l4 (d:LI) (r5:Bool×LI) (go:Gm→Option Int) (n i:Int):Option Int:=
 bif (decide (i<d.length)) then
 E9 (0≤(i64.wrap ((i64.wrap ((r5.2.length:Int)-d.length))+i))∧(i64.wrap ((i64.wrap ((r5.2.length:Int)-d.length))+i))<r5.2.length)<|
 Ey (f63_j5 d r5 i) fun z9=>
 E9 (0≤i∧i<d.length)<|
 go ((i64.wrap ((i64.wrap (n*(rd 0 d i)))+z9)),(i64.wrap (i+1)))
 else
 some n
def f63 (d big:LI) (at_:Int):Option (Int×Bool):=
 Ey (f62 d big) fun r1=>
 Ey (f63_j1 big r1) fun z3=>
 Fz z3 (fun z3a=>
 Ey (f37 big at_) fun r5=>
 bif (!r5.1) then
 some ((0:Int),false)
 else
 Ey (Fp (fun go x=>f63_l4 d r5 go x.1 x.2) Fv ((0:Int),(0:Int))) fun z8=>
 some (z8,true)) (fun z3b=>
 some ((0:Int),false))
def C63:Con:=⟨LI×LI×Int,Int×Bool,0,fun x=>[.dat T1 x.1,.dat T1 x.2.1,.dat T2 x.2.2],NX,fun x=>f63 x.1 x.2.1 x.2.2,fun y=>[.dat T2 y.1,.dat .bool y.2],NX,0⟩
theorem V63 d big at_ y (q:f63 d big at_=some y):VC Tryz.f63 C63 (d,big,at_) y:=by
 unfold f63 at q
 refine OL (OL ?_)
 obtain ⟨r1,h,q⟩:=bE q
 refine OL (cA H62 (d,big) h rfl (R2 (K0 ?_)))
 obtain ⟨z3,hz3,q⟩:=bE q
 refine OQ ⟨Sum.elim (fun z3a=>[(0,⟨[(0,.dat T1 d),(1,.dat T1 big),(2,.dat T2 at_)],[],0⟩)]) (fun z3b=>[(1,⟨[(6,D0 0),(7,.dat .bool false)],[],0⟩)]) z3,?_,?_⟩
 ·have q:=hz3
  clear hz3
  unfold f63_j1 at q
  refine OL (cN q (fun q=>?_) (fun q=>?_))
  ·refine gY (gY ?_)
   obtain ⟨r4,h,q⟩:=bE q
   refine OL (cD H26 (r1.2,big) h rfl (R2 (AI (fun _=>rfl) (R2 (AI TV (AI TV (gY (cF (cI q (fun q=>?_) (fun q=>?_))))))))))
   ·cases sE q
    refine OL (E4 [] (R3 (AI TV TV)))
   cases sE q
   refine E4 [] (R4 (AI TV TV))
  refine gN (gN (gN (cT (cT (OL ?_)))))
  cases sE q
  refine E4 [] (R3 (AI TV TV))
 rcases z3 with z3a | z3b
 ·dsimp only [Fz] at q
  refine AI (OL ?_) TV
  obtain ⟨r5,h,q⟩:=bE q
  refine OL (cA H37 (big,at_) h rfl (R2 (K0 (OL (OL (cI q (fun q=>?_) (fun q=>?_)))))))
  ·cases sE q
   refine OL (AI rfl (E4 [] (R3 (AI TV TV))))
  refine OL (OL (OL ?_))
  obtain ⟨z8,h,q⟩:=bE q
  refine lJ h (fun x=>⟨[(0,.dat T1 d),(10,O0 0),(12,.dat T2 x.1),(13,.dat T2 x.2)],[(0,.arr 3 T2 r5.2)],1⟩) (fun z=>[(2,⟨[(12,.dat T2 z)],[],0⟩)]) (E4 (iuR [1]) (R4 (AJ (AI rfl TV)))) (fun m=>F6 (fun n=>fun i z q=>?_)) ?_
  ·have q:f63_l4 d r5 _ n i=some z:=q
   unfold f63_l4 at q
   refine OL (OL (cI q (fun q=>?_) (fun q=>?_)))
   ·refine OL (OL (gI q (fun q=>?_)))
    obtain ⟨z9,hz9,q⟩:=bE q
    refine OQ ⟨[(0,⟨[(0,.dat T1 d),(10,O0 0),(12,.dat T2 n),(13,.dat T2 i),(14,.dat T2 z9)],[(0,.arr 3 T2 r5.2)],1⟩)],?_,?_⟩
    ·have q:=hz9
     clear hz9
     unfold f63_j5 at q
     refine OL (gI q (fun q=>?_))
     refine cI q (fun q=>?_) (fun q=>?_)
     ·cases sE q
      refine E4 (iuR [1]) (R5 (AJ (AI rfl TV)))
     cases sE q
     refine E4 (iuR [1]) (R5 (AJ (AI rfl TV)))
    refine AI (gI q (fun q=>?_)) TV
    refine EI ((i64.wrap ((i64.wrap (n*(rd 0 d i)))+z9)),(i64.wrap (i+1))) (AI q (E4 (iuR [1]) (R4 (AJ (AI rfl TV)))))
   cases sE q
   refine E4 [] (R2 (AI TV TV))
  refine AI (OL ?_) TV
  cases sE q
  refine AI rfl (E4 [] (R3 (AI TV TV)))
 dsimp only [Fz] at q
 refine AI ?_ TV
 cases sE q
 refine AI rfl (E4 [] (R3 (AI TV TV)))
theorem H63:HI C63 63:=hI Tryz.f63 rfl fun x=>V63 x.1 x.2.1 x.2.2
def f88 (n:Int):Option Int:=
 bif (decide (n<0)) then
 some (u64.wrap ((u64.wrap (i64.wrap (0-(i64.wrap (n+1)))))+1))
 else
 some (u64.wrap n)
def C88:Con:=⟨Int,Int,0,fun x=>[.dat T2 x],NX,fun x=>f88 x,fun y=>[.dat T4 y],NX,0⟩
theorem V88 n y (q:f88 n=some y):VC Tryz.f88 C88 n y:=by
 unfold f88 at q
 refine OL (OL (OL (cI q (fun q=>?_) (fun q=>?_))))
 ·cases sE q
  refine OL (AI rfl (E4 [] (R2 (AI TV TV))))
 cases sE q
 refine OL (AI rfl (E4 [] (R2 (AI TV TV))))
theorem H88:HI C88 88:=hI Tryz.f88 rfl fun x=>V88 x
def f41 (n:Int):Option (Bool×Int):=
 Ey (f88 n) fun r1=>
 some ((decide (n<0)),r1)
def C41:Con:=⟨Int,Bool×Int,0,fun x=>[.dat T2 x],NX,fun x=>f41 x,fun y=>[.raw true [(.d .bool y.1),(.d T4 y.2),(.d T4 (0:Int)),(.d T4 (0:Int)),(.d T4 (0:Int))]],NX,0⟩
theorem V41 n y (q:f41 n=some y):VC Tryz.f41 C41 n y:=by
 unfold f41 at q
 refine OL (OL ?_)
 obtain ⟨r1,h,q⟩:=bE q
 refine OL (cA H88 n h rfl (AI rfl (K0 (OL ?_))))
 cases sE q
 refine AI rfl (E4 [] (AI rfl (AJ TV)))
theorem H41:HI C41 41:=hI Tryz.f41 rfl fun x=>V41 x
def f90_l1 (a_0 a_1 a_2 a_3 b_0 b_1 b_2 b_3:Int) (go:(Int×PTz9)→Option PTz2) (carry i c3_0 c3_1 c3_2 c3_3:Int):Option PTz2:=
 bif (decide (i<4)) then
 E9 (0≤i∧i<4)<|
 pickF i
 [(bif (decide ((u64.wrap (a_0+b_0))<a_0)) then
 go ((1:Int),(i64.wrap (i+1)),(u64.wrap ((u64.wrap (a_0+b_0))+carry)),c3_1,c3_2,c3_3)
 else
 bif (decide ((u64.wrap ((u64.wrap (a_0+b_0))+carry))<(u64.wrap (a_0+b_0)))) then
 go ((1:Int),(i64.wrap (i+1)),(u64.wrap ((u64.wrap (a_0+b_0))+carry)),c3_1,c3_2,c3_3)
 else
 go ((0:Int),(i64.wrap (i+1)),(u64.wrap ((u64.wrap (a_0+b_0))+carry)),c3_1,c3_2,c3_3)),
 (bif (decide ((u64.wrap (a_1+b_1))<a_1)) then
 go ((1:Int),(i64.wrap (i+1)),c3_0,(u64.wrap ((u64.wrap (a_1+b_1))+carry)),c3_2,c3_3)
 else
 bif (decide ((u64.wrap ((u64.wrap (a_1+b_1))+carry))<(u64.wrap (a_1+b_1)))) then
 go ((1:Int),(i64.wrap (i+1)),c3_0,(u64.wrap ((u64.wrap (a_1+b_1))+carry)),c3_2,c3_3)
 else
 go ((0:Int),(i64.wrap (i+1)),c3_0,(u64.wrap ((u64.wrap (a_1+b_1))+carry)),c3_2,c3_3)),
 (bif (decide ((u64.wrap (a_2+b_2))<a_2)) then
 go ((1:Int),(i64.wrap (i+1)),c3_0,c3_1,(u64.wrap ((u64.wrap (a_2+b_2))+carry)),c3_3)
 else
 bif (decide ((u64.wrap ((u64.wrap (a_2+b_2))+carry))<(u64.wrap (a_2+b_2)))) then
 go ((1:Int),(i64.wrap (i+1)),c3_0,c3_1,(u64.wrap ((u64.wrap (a_2+b_2))+carry)),c3_3)
 else
 go ((0:Int),(i64.wrap (i+1)),c3_0,c3_1,(u64.wrap ((u64.wrap (a_2+b_2))+carry)),c3_3)),
 (bif (decide ((u64.wrap (a_3+b_3))<a_3)) then
 go ((1:Int),(i64.wrap (i+1)),c3_0,c3_1,c3_2,(u64.wrap ((u64.wrap (a_3+b_3))+carry)))
 else
 bif (decide ((u64.wrap ((u64.wrap (a_3+b_3))+carry))<(u64.wrap (a_3+b_3)))) then
 go ((1:Int),(i64.wrap (i+1)),c3_0,c3_1,c3_2,(u64.wrap ((u64.wrap (a_3+b_3))+carry)))
 else
 go ((0:Int),(i64.wrap (i+1)),c3_0,c3_1,c3_2,(u64.wrap ((u64.wrap (a_3+b_3))+carry))))]
 else
 some (c3_0,c3_1,c3_2,c3_3)
def f90 (a_0 a_1 a_2 a_3 b_0 b_1 b_2 b_3:Int):Option PTz2:=
 Ey (Fp (fun go x=>f90_l1 a_0 a_1 a_2 a_3 b_0 b_1 b_2 b_3 go x.1 x.2.1 x.2.2.1 x.2.2.2.1 x.2.2.2.2.1 x.2.2.2.2.2) Fv ((0:Int),(0:Int),(0:Int),(0:Int),(0:Int),(0:Int))) fun z3=>
 some (z3.1,z3.2.1,z3.2.2.1,z3.2.2.2)
def C90:Con:=⟨Int×Int×Int×PTz9,PTz2,0,fun x=>[.raw true [(.d T4 x.1),(.d T4 x.2.1),(.d T4 x.2.2.1),(.d T4 x.2.2.2.1)],.raw true [(.d T4 x.2.2.2.2.1),(.d T4 x.2.2.2.2.2.1),(.d T4 x.2.2.2.2.2.2.1),(.d T4 x.2.2.2.2.2.2.2)]],NX,fun x=>f90 x.1 x.2.1 x.2.2.1 x.2.2.2.1 x.2.2.2.2.1 x.2.2.2.2.2.1 x.2.2.2.2.2.2.1 x.2.2.2.2.2.2.2,fun y=>[.raw true [(.d T4 y.1),(.d T4 y.2.1),(.d T4 y.2.2.1),(.d T4 y.2.2.2)]],NX,0⟩
theorem V90 a_0 a_1 a_2 a_3 b_0 b_1 b_2 b_3 y (q:f90 a_0 a_1 a_2 a_3 b_0 b_1 b_2 b_3=some y):VC Tryz.f90 C90 (a_0,a_1,a_2,a_3,b_0,b_1,b_2,b_3) y:=by
 unfold f90 at q
 refine OL (OL (OL (OL (OL ?_))))
 obtain ⟨z3,h,q⟩:=bE q
 refine lJ h (fun x=>⟨[(2,P0 0 0),(3,P0 1 0),(4,P0 2 0),(5,P0 3 0),(6,.dat T4 x.1),(7,.dat T2 x.2.1)],[(0,.cells [(.d T4 a_0),(.d T4 a_1),(.d T4 a_2),(.d T4 a_3)]),(1,.cells [(.d T4 b_0),(.d T4 b_1),(.d T4 b_2),(.d T4 b_3)]),(2,.cells [(.d T4 (0:Int)),(.d T4 (0:Int)),(.d T4 (0:Int)),(.d T4 (0:Int))]),(3,.cells [(.d T4 x.2.2.1),(.d T4 x.2.2.2.1),(.d T4 x.2.2.2.2.1),(.d T4 x.2.2.2.2.2)])],4⟩) (fun z=>[(2,⟨[(4,P0 0 0),(5,P0 1 0)],[(0,.cells [(.d T4 (0:Int)),(.d T4 (0:Int)),(.d T4 (0:Int)),(.d T4 (0:Int))]),(1,.cells [(.d T4 z.1),(.d T4 z.2.1),(.d T4 z.2.2.1),(.d T4 z.2.2.2)])],2⟩)]) (E4 I4 (R3 (AI (R4 TV) (R4 TV)))) (fun m=>F6 (fun carry=>F6 (fun i=>F6 (fun c3_0=>F6 (fun c3_1=>F6 (fun c3_2=>fun c3_3 z q=>?_)))))) ?_
 ·have q:f90_l1 a_0 a_1 a_2 a_3 b_0 b_1 b_2 b_3 _ carry i c3_0 c3_1 c3_2 c3_3=some z:=q
  unfold f90_l1 at q
  refine OL (OL (cI q (fun q=>?_) (fun q=>?_)))
  ·refine OL (OL (EI (tU 0 8 .done) (EI [] (EI [] (AI rfl (gI q (fun q=>?_)))))))
   refine AI (fun hk4=>?_) ?_
   ·have q:=Jn q hk4
    dsimp only [nthO] at q
    refine AI (rE hk4 (by decide)) (AI (fun _=>?_) (AI (fun h=>absurd (hk4.symm.trans h) (by decide)) (AI (fun h=>absurd (hk4.symm.trans h) (by decide)) (AI (fun h=>absurd (hk4.symm.trans h) (by decide)) TV))))
    refine OL (OL (AI (rE hk4 (by decide)) (AI (fun _=>?_) (AI (fun h=>absurd (hk4.symm.trans h) (by decide)) (AI (fun h=>absurd (hk4.symm.trans h) (by decide)) (AI (fun h=>absurd (hk4.symm.trans h) (by decide)) TV))))))
    refine OL (OL (AI (rE hk4 (by decide)) (AI (fun _=>?_) (AI (fun h=>absurd (hk4.symm.trans h) (by decide)) (AI (fun h=>absurd (hk4.symm.trans h) (by decide)) (AI (fun h=>absurd (hk4.symm.trans h) (by decide)) TV))))))
    refine cN q (fun q=>?_) (fun q=>?_)
    ·refine gY (gY (cF (cI q (fun q=>?_) (fun q=>?_))))
     ·refine EI ((1:Int),(i64.wrap (i+1)),(u64.wrap ((u64.wrap (a_0+b_0))+carry)),c3_1,c3_2,c3_3) (AI q (E4 I4 (R3 (AI (R4 TV) (R4 TV)))))
     refine EI ((0:Int),(i64.wrap (i+1)),(u64.wrap ((u64.wrap (a_0+b_0))+carry)),c3_1,c3_2,c3_3) (AI q (E4 I4 (R3 (AI (R4 TV) (R4 TV)))))
    refine gN (gN (cT (cT (EI ((1:Int),(i64.wrap (i+1)),(u64.wrap ((u64.wrap (a_0+b_0))+carry)),c3_1,c3_2,c3_3) (AI q (E4 I4 (R3 (AI (R4 TV) (R4 TV)))))))))
   refine AI (fun hk4=>?_) ?_
   ·have q:=Jn q hk4
    dsimp only [nthO] at q
    refine AI (rE hk4 (by decide)) (AI (fun h=>absurd (hk4.symm.trans h) (by decide)) ?_)
    refine AI (fun _=>?_) (AI (fun h=>absurd (hk4.symm.trans h) (by decide)) (AI (fun h=>absurd (hk4.symm.trans h) (by decide)) TV))
    refine OL (OL (AI (rE hk4 (by decide)) (AI (fun h=>absurd (hk4.symm.trans h) (by decide)) ?_)))
    refine AI (fun _=>?_) (AI (fun h=>absurd (hk4.symm.trans h) (by decide)) (AI (fun h=>absurd (hk4.symm.trans h) (by decide)) TV))
    refine OL (OL (AI (rE hk4 (by decide)) (AI (fun h=>absurd (hk4.symm.trans h) (by decide)) ?_)))
    refine AI (fun _=>?_) (AI (fun h=>absurd (hk4.symm.trans h) (by decide)) (AI (fun h=>absurd (hk4.symm.trans h) (by decide)) TV))
    refine cN q (fun q=>?_) (fun q=>?_)
    ·refine gY (gY (cF (cI q (fun q=>?_) (fun q=>?_))))
     ·refine EI ((1:Int),(i64.wrap (i+1)),c3_0,(u64.wrap ((u64.wrap (a_1+b_1))+carry)),c3_2,c3_3) (AI q (E4 I4 (R3 (AI (R4 TV) (R4 TV)))))
     refine EI ((0:Int),(i64.wrap (i+1)),c3_0,(u64.wrap ((u64.wrap (a_1+b_1))+carry)),c3_2,c3_3) (AI q (E4 I4 (R3 (AI (R4 TV) (R4 TV)))))
    refine gN (gN (cT (cT (EI ((1:Int),(i64.wrap (i+1)),c3_0,(u64.wrap ((u64.wrap (a_1+b_1))+carry)),c3_2,c3_3) (AI q (E4 I4 (R3 (AI (R4 TV) (R4 TV)))))))))
   refine AI (fun hk4=>?_) ?_
   ·have q:=Jn q hk4
    dsimp only [nthO] at q
    refine AI (rE hk4 (by decide)) (AI (fun h=>absurd (hk4.symm.trans h) (by decide)) ?_)
    refine AI (fun h=>absurd (hk4.symm.trans h) (by decide)) ?_
    refine AI (fun _=>?_) (AI (fun h=>absurd (hk4.symm.trans h) (by decide)) TV)
    refine OL (OL (AI (rE hk4 (by decide)) (AI (fun h=>absurd (hk4.symm.trans h) (by decide)) ?_)))
    refine AI (fun h=>absurd (hk4.symm.trans h) (by decide)) ?_
    refine AI (fun _=>?_) (AI (fun h=>absurd (hk4.symm.trans h) (by decide)) TV)
    refine OL (OL (AI (rE hk4 (by decide)) (AI (fun h=>absurd (hk4.symm.trans h) (by decide)) ?_)))
    refine AI (fun h=>absurd (hk4.symm.trans h) (by decide)) ?_
    refine AI (fun _=>?_) (AI (fun h=>absurd (hk4.symm.trans h) (by decide)) TV)
    refine cN q (fun q=>?_) (fun q=>?_)
    ·refine gY (gY (cF (cI q (fun q=>?_) (fun q=>?_))))
     ·refine EI ((1:Int),(i64.wrap (i+1)),c3_0,c3_1,(u64.wrap ((u64.wrap (a_2+b_2))+carry)),c3_3) (AI q (E4 I4 (R3 (AI (R4 TV) (R4 TV)))))
     refine EI ((0:Int),(i64.wrap (i+1)),c3_0,c3_1,(u64.wrap ((u64.wrap (a_2+b_2))+carry)),c3_3) (AI q (E4 I4 (R3 (AI (R4 TV) (R4 TV)))))
    refine gN (gN (cT (cT (EI ((1:Int),(i64.wrap (i+1)),c3_0,c3_1,(u64.wrap ((u64.wrap (a_2+b_2))+carry)),c3_3) (AI q (E4 I4 (R3 (AI (R4 TV) (R4 TV)))))))))
   refine AI (fun hk4=>?_) TV
   have q:=Jn q hk4
   dsimp only [nthO] at q
   refine AI (rE hk4 (by decide)) (AI (fun h=>absurd (hk4.symm.trans h) (by decide)) ?_)
   refine AI (fun h=>absurd (hk4.symm.trans h) (by decide)) ?_
   refine AI (fun h=>absurd (hk4.symm.trans h) (by decide)) ?_
   refine AI (fun _=>?_) TV
   refine OL (OL (AI (rE hk4 (by decide)) (AI (fun h=>absurd (hk4.symm.trans h) (by decide)) ?_)))
   refine AI (fun h=>absurd (hk4.symm.trans h) (by decide)) ?_
   refine AI (fun h=>absurd (hk4.symm.trans h) (by decide)) ?_
   refine AI (fun _=>?_) TV
   refine OL (OL (AI (rE hk4 (by decide)) (AI (fun h=>absurd (hk4.symm.trans h) (by decide)) ?_)))
   refine AI (fun h=>absurd (hk4.symm.trans h) (by decide)) ?_
   refine AI (fun h=>absurd (hk4.symm.trans h) (by decide)) ?_
   refine AI (fun _=>?_) TV
   refine cN q (fun q=>?_) (fun q=>?_)
   ·refine gY (gY (cF (cI q (fun q=>?_) (fun q=>?_))))
    ·refine EI ((1:Int),(i64.wrap (i+1)),c3_0,c3_1,c3_2,(u64.wrap ((u64.wrap (a_3+b_3))+carry))) (AI q (E4 I4 (R3 (AI (R4 TV) (R4 TV)))))
    refine EI ((0:Int),(i64.wrap (i+1)),c3_0,c3_1,c3_2,(u64.wrap ((u64.wrap (a_3+b_3))+carry))) (AI q (E4 I4 (R3 (AI (R4 TV) (R4 TV)))))
   refine gN (gN (cT (cT (EI ((1:Int),(i64.wrap (i+1)),c3_0,c3_1,c3_2,(u64.wrap ((u64.wrap (a_3+b_3))+carry))) (AI q (E4 I4 (R3 (AI (R4 TV) (R4 TV)))))))))
  cases sE q
  refine E4 (iuR [3,4]) (AI rfl (AI (R2 TV) (R2 TV)))
 refine AI (OL (OL ?_)) TV
 cases sE q
 refine AI rfl (E4 [] (AI rfl (AJ TV)))
theorem H90:HI C90 90:=hI Tryz.f90 rfl fun x=>V90 x.1 x.2.1 x.2.2.1 x.2.2.2.1 x.2.2.2.2.1 x.2.2.2.2.2.1 x.2.2.2.2.2.2.1 x.2.2.2.2.2.2.2
def f137_l1 (a_0 a_1 a_2 a_3 b_0 b_1 b_2 b_3:Int) (go:Int→Option (Sum Bool Unit)) (i:Int):Option (Sum Bool Unit):=
 bif (decide (i≥0)) then
 E9 (0≤i∧i<4)<|
 pickF i
 [(bif (a_0 != b_0) then
 some (Sum.inl (decide (a_0<b_0)))
 else
 go (i64.wrap (i-1))),
 (bif (a_1 != b_1) then
 some (Sum.inl (decide (a_1<b_1)))
 else
 go (i64.wrap (i-1))),
 (bif (a_2 != b_2) then
 some (Sum.inl (decide (a_2<b_2)))
 else
 go (i64.wrap (i-1))),
 (bif (a_3 != b_3) then
 some (Sum.inl (decide (a_3<b_3)))
 else
 go (i64.wrap (i-1)))]
 else
 some (Sum.inr ())
def f137 (a_0 a_1 a_2 a_3 b_0 b_1 b_2 b_3:Int):Option Bool:=
 Ey (Fp (fun go x=>f137_l1 a_0 a_1 a_2 a_3 b_0 b_1 b_2 b_3 go x) Fv (3:Int)) fun z2=>
 Fz z2 (fun z2a=>
 some z2a) (fun z2b=>
 some false)
def C137:Con:=⟨Int×Int×Int×PTz9,Bool,0,fun x=>[.raw true [(.d T4 x.1),(.d T4 x.2.1),(.d T4 x.2.2.1),(.d T4 x.2.2.2.1)],.raw true [(.d T4 x.2.2.2.2.1),(.d T4 x.2.2.2.2.2.1),(.d T4 x.2.2.2.2.2.2.1),(.d T4 x.2.2.2.2.2.2.2)]],NX,fun x=>f137 x.1 x.2.1 x.2.2.1 x.2.2.2.1 x.2.2.2.2.1 x.2.2.2.2.2.1 x.2.2.2.2.2.2.1 x.2.2.2.2.2.2.2,fun y=>[.dat .bool y],NX,0⟩
theorem V137 a_0 a_1 a_2 a_3 b_0 b_1 b_2 b_3 y (q:f137 a_0 a_1 a_2 a_3 b_0 b_1 b_2 b_3=some y):VC Tryz.f137 C137 (a_0,a_1,a_2,a_3,b_0,b_1,b_2,b_3) y:=by
 unfold f137 at q
 refine OL (OL (OL ?_))
 obtain ⟨z2,h,q⟩:=bE q
 refine lJ h (fun x=>⟨[(2,P0 0 0),(3,P0 1 0),(5,.dat T2 x)],[(0,.cells [(.d T4 a_0),(.d T4 a_1),(.d T4 a_2),(.d T4 a_3)]),(1,.cells [(.d T4 b_0),(.d T4 b_1),(.d T4 b_2),(.d T4 b_3)])],2⟩) (fun z=>Sum.elim (fun za=>[(1,⟨[(4,.dat .bool za)],[],0⟩)]) (fun zb=>[(2,⟨[],[],0⟩)]) z) (E4 I2 (R2 (AI (R2 TV) (R2 TV)))) (fun m=>fun i z q=>?_) ?_
 ·have q:f137_l1 a_0 a_1 a_2 a_3 b_0 b_1 b_2 b_3 _ i=some z:=q
  unfold f137_l1 at q
  refine OL (OL (cI q (fun q=>?_) (fun q=>?_)))
  ·refine OL (OL (EI (tU 0 7 .done) (EI [] (EI [] (AI rfl (gI q (fun q=>?_)))))))
   refine AI (fun hk3=>?_) ?_
   ·have q:=Jn q hk3
    dsimp only [nthO] at q
    refine AI (rE hk3 (by decide)) (AI (fun _=>?_) (AI (fun h=>absurd (hk3.symm.trans h) (by decide)) (AI (fun h=>absurd (hk3.symm.trans h) (by decide)) (AI (fun h=>absurd (hk3.symm.trans h) (by decide)) TV))))
    refine cI q (fun q=>?_) (fun q=>?_)
    ·refine OL (EI (tU 0 8 .done) (EI [] (EI [] (AI rfl (AI (rE hk3 (by decide)) (AI (fun _=>?_) (AI (fun h=>absurd (hk3.symm.trans h) (by decide)) (AI (fun h=>absurd (hk3.symm.trans h) (by decide)) (AI (fun h=>absurd (hk3.symm.trans h) (by decide)) TV)))))))))
     refine AI (rE hk3 (by decide)) (AI (fun _=>?_) (AI (fun h=>absurd (hk3.symm.trans h) (by decide)) (AI (fun h=>absurd (hk3.symm.trans h) (by decide)) (AI (fun h=>absurd (hk3.symm.trans h) (by decide)) TV))))
     cases sE q
     refine E4 [] (R2 (AI TV TV))
    refine EI (i64.wrap (i-1)) (AI q (E4 I2 (R2 (AI (R2 TV) (R2 TV)))))
   refine AI (fun hk3=>?_) ?_
   ·have q:=Jn q hk3
    dsimp only [nthO] at q
    refine AI (rE hk3 (by decide)) (AI (fun h=>absurd (hk3.symm.trans h) (by decide)) ?_)
    refine AI (fun _=>?_) (AI (fun h=>absurd (hk3.symm.trans h) (by decide)) (AI (fun h=>absurd (hk3.symm.trans h) (by decide)) TV))
    refine cI q (fun q=>?_) (fun q=>?_)
    ·refine OL (EI (tU 0 8 .done) (EI [] (EI [] (AI rfl (AI (rE hk3 (by decide)) (AI (fun h=>absurd (hk3.symm.trans h) (by decide)) ?_))))))
     refine AI (fun _=>?_) (AI (fun h=>absurd (hk3.symm.trans h) (by decide)) (AI (fun h=>absurd (hk3.symm.trans h) (by decide)) TV))
     refine AI (rE hk3 (by decide)) (AI (fun h=>absurd (hk3.symm.trans h) (by decide)) ?_)
     refine AI (fun _=>?_) (AI (fun h=>absurd (hk3.symm.trans h) (by decide)) (AI (fun h=>absurd (hk3.symm.trans h) (by decide)) TV))
     cases sE q
     refine E4 [] (R2 (AI TV TV))
    refine EI (i64.wrap (i-1)) (AI q (E4 I2 (R2 (AI (R2 TV) (R2 TV)))))
   refine AI (fun hk3=>?_) ?_
   ·have q:=Jn q hk3
    dsimp only [nthO] at q
    refine AI (rE hk3 (by decide)) (AI (fun h=>absurd (hk3.symm.trans h) (by decide)) ?_)
    refine AI (fun h=>absurd (hk3.symm.trans h) (by decide)) ?_
    refine AI (fun _=>?_) (AI (fun h=>absurd (hk3.symm.trans h) (by decide)) TV)
    refine cI q (fun q=>?_) (fun q=>?_)
    ·refine OL (EI (tU 0 8 .done) (EI [] (EI [] (AI rfl (AI (rE hk3 (by decide)) (AI (fun h=>absurd (hk3.symm.trans h) (by decide)) ?_))))))
     refine AI (fun h=>absurd (hk3.symm.trans h) (by decide)) ?_
     refine AI (fun _=>?_) (AI (fun h=>absurd (hk3.symm.trans h) (by decide)) TV)
     refine AI (rE hk3 (by decide)) (AI (fun h=>absurd (hk3.symm.trans h) (by decide)) ?_)
     refine AI (fun h=>absurd (hk3.symm.trans h) (by decide)) ?_
     refine AI (fun _=>?_) (AI (fun h=>absurd (hk3.symm.trans h) (by decide)) TV)
     cases sE q
     refine E4 [] (R2 (AI TV TV))
    refine EI (i64.wrap (i-1)) (AI q (E4 I2 (R2 (AI (R2 TV) (R2 TV)))))
   refine AI (fun hk3=>?_) TV
   have q:=Jn q hk3
   dsimp only [nthO] at q
   refine AI (rE hk3 (by decide)) (AI (fun h=>absurd (hk3.symm.trans h) (by decide)) ?_)
   refine AI (fun h=>absurd (hk3.symm.trans h) (by decide)) ?_
   refine AI (fun h=>absurd (hk3.symm.trans h) (by decide)) ?_
   refine AI (fun _=>?_) TV
   refine cI q (fun q=>?_) (fun q=>?_)
   ·refine OL (EI (tU 0 8 .done) (EI [] (EI [] (AI rfl (AI (rE hk3 (by decide)) (AI (fun h=>absurd (hk3.symm.trans h) (by decide)) ?_))))))
    refine AI (fun h=>absurd (hk3.symm.trans h) (by decide)) ?_
    refine AI (fun h=>absurd (hk3.symm.trans h) (by decide)) ?_
    refine AI (fun _=>?_) TV
    refine AI (rE hk3 (by decide)) (AI (fun h=>absurd (hk3.symm.trans h) (by decide)) ?_)
    refine AI (fun h=>absurd (hk3.symm.trans h) (by decide)) ?_
    refine AI (fun h=>absurd (hk3.symm.trans h) (by decide)) ?_
    refine AI (fun _=>?_) TV
    cases sE q
    refine E4 [] (R2 (AI TV TV))
   refine EI (i64.wrap (i-1)) (AI q (E4 I2 (R2 (AI (R2 TV) (R2 TV)))))
  cases sE q
  refine E4 [] (AI rfl (AI TV TV))
 rcases z2 with z2a | z2b
 ·dsimp only [Fz] at q
  refine AI ?_ TV
  cases sE q
  refine AI rfl (E4 [] (R2 (AI TV TV)))
 dsimp only [Fz] at q
 refine AI (OL ?_) TV
 cases sE q
 refine AI rfl (E4 [] (R2 (AI TV TV)))
theorem H137:HI C137 137:=hI Tryz.f137 rfl fun x=>V137 x.1 x.2.1 x.2.2.1 x.2.2.2.1 x.2.2.2.2.1 x.2.2.2.2.2.1 x.2.2.2.2.2.2.1 x.2.2.2.2.2.2.2
def f138_l1 (a_0 a_1 a_2 a_3 b_0 b_1 b_2 b_3:Int) (go:(Int×PTz9)→Option PTz2) (borrow i c3_0 c3_1 c3_2 c3_3:Int):Option PTz2:=
 bif (decide (i<4)) then
 E9 (0≤i∧i<4)<|
 pickF i
 [(bif (decide (a_0<b_0)) then
 go ((1:Int),(i64.wrap (i+1)),(u64.wrap ((u64.wrap (a_0-b_0))-borrow)),c3_1,c3_2,c3_3)
 else
 bif (decide ((u64.wrap (a_0-b_0))<borrow)) then
 go ((1:Int),(i64.wrap (i+1)),(u64.wrap ((u64.wrap (a_0-b_0))-borrow)),c3_1,c3_2,c3_3)
 else
 go ((0:Int),(i64.wrap (i+1)),(u64.wrap ((u64.wrap (a_0-b_0))-borrow)),c3_1,c3_2,c3_3)),
 (bif (decide (a_1<b_1)) then
 go ((1:Int),(i64.wrap (i+1)),c3_0,(u64.wrap ((u64.wrap (a_1-b_1))-borrow)),c3_2,c3_3)
 else
 bif (decide ((u64.wrap (a_1-b_1))<borrow)) then
 go ((1:Int),(i64.wrap (i+1)),c3_0,(u64.wrap ((u64.wrap (a_1-b_1))-borrow)),c3_2,c3_3)
 else
 go ((0:Int),(i64.wrap (i+1)),c3_0,(u64.wrap ((u64.wrap (a_1-b_1))-borrow)),c3_2,c3_3)),
 (bif (decide (a_2<b_2)) then
 go ((1:Int),(i64.wrap (i+1)),c3_0,c3_1,(u64.wrap ((u64.wrap (a_2-b_2))-borrow)),c3_3)
 else
 bif (decide ((u64.wrap (a_2-b_2))<borrow)) then
 go ((1:Int),(i64.wrap (i+1)),c3_0,c3_1,(u64.wrap ((u64.wrap (a_2-b_2))-borrow)),c3_3)
 else
 go ((0:Int),(i64.wrap (i+1)),c3_0,c3_1,(u64.wrap ((u64.wrap (a_2-b_2))-borrow)),c3_3)),
 (bif (decide (a_3<b_3)) then
 go ((1:Int),(i64.wrap (i+1)),c3_0,c3_1,c3_2,(u64.wrap ((u64.wrap (a_3-b_3))-borrow)))
 else
 bif (decide ((u64.wrap (a_3-b_3))<borrow)) then
 go ((1:Int),(i64.wrap (i+1)),c3_0,c3_1,c3_2,(u64.wrap ((u64.wrap (a_3-b_3))-borrow)))
 else
 go ((0:Int),(i64.wrap (i+1)),c3_0,c3_1,c3_2,(u64.wrap ((u64.wrap (a_3-b_3))-borrow))))]
 else
 some (c3_0,c3_1,c3_2,c3_3)
def f138 (a_0 a_1 a_2 a_3 b_0 b_1 b_2 b_3:Int):Option PTz2:=
 Ey (Fp (fun go x=>f138_l1 a_0 a_1 a_2 a_3 b_0 b_1 b_2 b_3 go x.1 x.2.1 x.2.2.1 x.2.2.2.1 x.2.2.2.2.1 x.2.2.2.2.2) Fv ((0:Int),(0:Int),(0:Int),(0:Int),(0:Int),(0:Int))) fun z3=>
 some (z3.1,z3.2.1,z3.2.2.1,z3.2.2.2)
def C138:Con:=⟨Int×Int×Int×PTz9,PTz2,0,fun x=>[.raw true [(.d T4 x.1),(.d T4 x.2.1),(.d T4 x.2.2.1),(.d T4 x.2.2.2.1)],.raw true [(.d T4 x.2.2.2.2.1),(.d T4 x.2.2.2.2.2.1),(.d T4 x.2.2.2.2.2.2.1),(.d T4 x.2.2.2.2.2.2.2)]],NX,fun x=>f138 x.1 x.2.1 x.2.2.1 x.2.2.2.1 x.2.2.2.2.1 x.2.2.2.2.2.1 x.2.2.2.2.2.2.1 x.2.2.2.2.2.2.2,fun y=>[.raw true [(.d T4 y.1),(.d T4 y.2.1),(.d T4 y.2.2.1),(.d T4 y.2.2.2)]],NX,0⟩
theorem V138 a_0 a_1 a_2 a_3 b_0 b_1 b_2 b_3 y (q:f138 a_0 a_1 a_2 a_3 b_0 b_1 b_2 b_3=some y):VC Tryz.f138 C138 (a_0,a_1,a_2,a_3,b_0,b_1,b_2,b_3) y:=by
 unfold f138 at q
 refine OL (OL (OL (OL (OL ?_))))
 obtain ⟨z3,h,q⟩:=bE q
 refine lJ h (fun x=>⟨[(2,P0 0 0),(3,P0 1 0),(4,P0 2 0),(5,P0 3 0),(6,.dat T4 x.1),(7,.dat T2 x.2.1)],[(0,.cells [(.d T4 a_0),(.d T4 a_1),(.d T4 a_2),(.d T4 a_3)]),(1,.cells [(.d T4 b_0),(.d T4 b_1),(.d T4 b_2),(.d T4 b_3)]),(2,.cells [(.d T4 (0:Int)),(.d T4 (0:Int)),(.d T4 (0:Int)),(.d T4 (0:Int))]),(3,.cells [(.d T4 x.2.2.1),(.d T4 x.2.2.2.1),(.d T4 x.2.2.2.2.1),(.d T4 x.2.2.2.2.2)])],4⟩) (fun z=>[(2,⟨[(4,P0 0 0),(5,P0 1 0)],[(0,.cells [(.d T4 (0:Int)),(.d T4 (0:Int)),(.d T4 (0:Int)),(.d T4 (0:Int))]),(1,.cells [(.d T4 z.1),(.d T4 z.2.1),(.d T4 z.2.2.1),(.d T4 z.2.2.2)])],2⟩)]) (E4 I4 (R3 (AI (R4 TV) (R4 TV)))) (fun m=>F6 (fun borrow=>F6 (fun i=>F6 (fun c3_0=>F6 (fun c3_1=>F6 (fun c3_2=>fun c3_3 z q=>?_)))))) ?_
 ·have q:f138_l1 a_0 a_1 a_2 a_3 b_0 b_1 b_2 b_3 _ borrow i c3_0 c3_1 c3_2 c3_3=some z:=q
  unfold f138_l1 at q
  refine OL (OL (cI q (fun q=>?_) (fun q=>?_)))
  ·refine OL (OL (EI (tU 0 8 .done) (EI [] (EI [] (AI rfl (gI q (fun q=>?_)))))))
   refine AI (fun hk4=>?_) ?_
   ·have q:=Jn q hk4
    dsimp only [nthO] at q
    refine AI (rE hk4 (by decide)) (AI (fun _=>?_) (AI (fun h=>absurd (hk4.symm.trans h) (by decide)) (AI (fun h=>absurd (hk4.symm.trans h) (by decide)) (AI (fun h=>absurd (hk4.symm.trans h) (by decide)) TV))))
    refine OL (OL (AI (rE hk4 (by decide)) (AI (fun _=>?_) (AI (fun h=>absurd (hk4.symm.trans h) (by decide)) (AI (fun h=>absurd (hk4.symm.trans h) (by decide)) (AI (fun h=>absurd (hk4.symm.trans h) (by decide)) TV))))))
    refine OL (OL (EI (tU 0 12 .done) (EI [] (EI [] (AI rfl (AI (rE hk4 (by decide)) (AI (fun _=>?_) (AI (fun h=>absurd (hk4.symm.trans h) (by decide)) (AI (fun h=>absurd (hk4.symm.trans h) (by decide)) (AI (fun h=>absurd (hk4.symm.trans h) (by decide)) TV))))))))))
    refine AI (rE hk4 (by decide)) (AI (fun _=>?_) (AI (fun h=>absurd (hk4.symm.trans h) (by decide)) (AI (fun h=>absurd (hk4.symm.trans h) (by decide)) (AI (fun h=>absurd (hk4.symm.trans h) (by decide)) TV))))
    refine cN q (fun q=>?_) (fun q=>?_)
    ·refine gY (gY (cF (cI q (fun q=>?_) (fun q=>?_))))
     ·refine EI ((1:Int),(i64.wrap (i+1)),(u64.wrap ((u64.wrap (a_0-b_0))-borrow)),c3_1,c3_2,c3_3) (AI q (E4 I4 (R3 (AI (R4 TV) (R4 TV)))))
     refine EI ((0:Int),(i64.wrap (i+1)),(u64.wrap ((u64.wrap (a_0-b_0))-borrow)),c3_1,c3_2,c3_3) (AI q (E4 I4 (R3 (AI (R4 TV) (R4 TV)))))
    refine gN (gN (cT (cT (EI ((1:Int),(i64.wrap (i+1)),(u64.wrap ((u64.wrap (a_0-b_0))-borrow)),c3_1,c3_2,c3_3) (AI q (E4 I4 (R3 (AI (R4 TV) (R4 TV)))))))))
   refine AI (fun hk4=>?_) ?_
   ·have q:=Jn q hk4
    dsimp only [nthO] at q
    refine AI (rE hk4 (by decide)) (AI (fun h=>absurd (hk4.symm.trans h) (by decide)) ?_)
    refine AI (fun _=>?_) (AI (fun h=>absurd (hk4.symm.trans h) (by decide)) (AI (fun h=>absurd (hk4.symm.trans h) (by decide)) TV))
    refine OL (OL (AI (rE hk4 (by decide)) (AI (fun h=>absurd (hk4.symm.trans h) (by decide)) ?_)))
    refine AI (fun _=>?_) (AI (fun h=>absurd (hk4.symm.trans h) (by decide)) (AI (fun h=>absurd (hk4.symm.trans h) (by decide)) TV))
    refine OL (OL (EI (tU 0 12 .done) (EI [] (EI [] (AI rfl (AI (rE hk4 (by decide)) (AI (fun h=>absurd (hk4.symm.trans h) (by decide)) ?_)))))))
    refine AI (fun _=>?_) (AI (fun h=>absurd (hk4.symm.trans h) (by decide)) (AI (fun h=>absurd (hk4.symm.trans h) (by decide)) TV))
    refine AI (rE hk4 (by decide)) (AI (fun h=>absurd (hk4.symm.trans h) (by decide)) ?_)
    refine AI (fun _=>?_) (AI (fun h=>absurd (hk4.symm.trans h) (by decide)) (AI (fun h=>absurd (hk4.symm.trans h) (by decide)) TV))
    refine cN q (fun q=>?_) (fun q=>?_)
    ·refine gY (gY (cF (cI q (fun q=>?_) (fun q=>?_))))
     ·refine EI ((1:Int),(i64.wrap (i+1)),c3_0,(u64.wrap ((u64.wrap (a_1-b_1))-borrow)),c3_2,c3_3) (AI q (E4 I4 (R3 (AI (R4 TV) (R4 TV)))))
     refine EI ((0:Int),(i64.wrap (i+1)),c3_0,(u64.wrap ((u64.wrap (a_1-b_1))-borrow)),c3_2,c3_3) (AI q (E4 I4 (R3 (AI (R4 TV) (R4 TV)))))
    refine gN (gN (cT (cT (EI ((1:Int),(i64.wrap (i+1)),c3_0,(u64.wrap ((u64.wrap (a_1-b_1))-borrow)),c3_2,c3_3) (AI q (E4 I4 (R3 (AI (R4 TV) (R4 TV)))))))))
   refine AI (fun hk4=>?_) ?_
   ·have q:=Jn q hk4
    dsimp only [nthO] at q
    refine AI (rE hk4 (by decide)) (AI (fun h=>absurd (hk4.symm.trans h) (by decide)) ?_)
    refine AI (fun h=>absurd (hk4.symm.trans h) (by decide)) ?_
    refine AI (fun _=>?_) (AI (fun h=>absurd (hk4.symm.trans h) (by decide)) TV)
    refine OL (OL (AI (rE hk4 (by decide)) (AI (fun h=>absurd (hk4.symm.trans h) (by decide)) ?_)))
    refine AI (fun h=>absurd (hk4.symm.trans h) (by decide)) ?_
    refine AI (fun _=>?_) (AI (fun h=>absurd (hk4.symm.trans h) (by decide)) TV)
    refine OL (OL (EI (tU 0 12 .done) (EI [] (EI [] (AI rfl (AI (rE hk4 (by decide)) (AI (fun h=>absurd (hk4.symm.trans h) (by decide)) ?_)))))))
    refine AI (fun h=>absurd (hk4.symm.trans h) (by decide)) ?_
    refine AI (fun _=>?_) (AI (fun h=>absurd (hk4.symm.trans h) (by decide)) TV)
    refine AI (rE hk4 (by decide)) (AI (fun h=>absurd (hk4.symm.trans h) (by decide)) ?_)
    refine AI (fun h=>absurd (hk4.symm.trans h) (by decide)) ?_
    refine AI (fun _=>?_) (AI (fun h=>absurd (hk4.symm.trans h) (by decide)) TV)
    refine cN q (fun q=>?_) (fun q=>?_)
    ·refine gY (gY (cF (cI q (fun q=>?_) (fun q=>?_))))
     ·refine EI ((1:Int),(i64.wrap (i+1)),c3_0,c3_1,(u64.wrap ((u64.wrap (a_2-b_2))-borrow)),c3_3) (AI q (E4 I4 (R3 (AI (R4 TV) (R4 TV)))))
     refine EI ((0:Int),(i64.wrap (i+1)),c3_0,c3_1,(u64.wrap ((u64.wrap (a_2-b_2))-borrow)),c3_3) (AI q (E4 I4 (R3 (AI (R4 TV) (R4 TV)))))
    refine gN (gN (cT (cT (EI ((1:Int),(i64.wrap (i+1)),c3_0,c3_1,(u64.wrap ((u64.wrap (a_2-b_2))-borrow)),c3_3) (AI q (E4 I4 (R3 (AI (R4 TV) (R4 TV)))))))))
   refine AI (fun hk4=>?_) TV
   have q:=Jn q hk4
   dsimp only [nthO] at q
   refine AI (rE hk4 (by decide)) (AI (fun h=>absurd (hk4.symm.trans h) (by decide)) ?_)
   refine AI (fun h=>absurd (hk4.symm.trans h) (by decide)) ?_
   refine AI (fun h=>absurd (hk4.symm.trans h) (by decide)) ?_
   refine AI (fun _=>?_) TV
   refine OL (OL (AI (rE hk4 (by decide)) (AI (fun h=>absurd (hk4.symm.trans h) (by decide)) ?_)))
   refine AI (fun h=>absurd (hk4.symm.trans h) (by decide)) ?_
   refine AI (fun h=>absurd (hk4.symm.trans h) (by decide)) ?_
   refine AI (fun _=>?_) TV
   refine OL (OL (EI (tU 0 12 .done) (EI [] (EI [] (AI rfl (AI (rE hk4 (by decide)) (AI (fun h=>absurd (hk4.symm.trans h) (by decide)) ?_)))))))
   refine AI (fun h=>absurd (hk4.symm.trans h) (by decide)) ?_
   refine AI (fun h=>absurd (hk4.symm.trans h) (by decide)) ?_
   refine AI (fun _=>?_) TV
   refine AI (rE hk4 (by decide)) (AI (fun h=>absurd (hk4.symm.trans h) (by decide)) ?_)
   refine AI (fun h=>absurd (hk4.symm.trans h) (by decide)) ?_
   refine AI (fun h=>absurd (hk4.symm.trans h) (by decide)) ?_
   refine AI (fun _=>?_) TV
   refine cN q (fun q=>?_) (fun q=>?_)
   ·refine gY (gY (cF (cI q (fun q=>?_) (fun q=>?_))))
    ·refine EI ((1:Int),(i64.wrap (i+1)),c3_0,c3_1,c3_2,(u64.wrap ((u64.wrap (a_3-b_3))-borrow))) (AI q (E4 I4 (R3 (AI (R4 TV) (R4 TV)))))
    refine EI ((0:Int),(i64.wrap (i+1)),c3_0,c3_1,c3_2,(u64.wrap ((u64.wrap (a_3-b_3))-borrow))) (AI q (E4 I4 (R3 (AI (R4 TV) (R4 TV)))))
   refine gN (gN (cT (cT (EI ((1:Int),(i64.wrap (i+1)),c3_0,c3_1,c3_2,(u64.wrap ((u64.wrap (a_3-b_3))-borrow))) (AI q (E4 I4 (R3 (AI (R4 TV) (R4 TV)))))))))
  cases sE q
  refine E4 (iuR [3,4]) (AI rfl (AI (R2 TV) (R2 TV)))
 refine AI (OL (OL ?_)) TV
 cases sE q
 refine AI rfl (E4 [] (AI rfl (AJ TV)))
theorem H138:HI C138 138:=hI Tryz.f138 rfl fun x=>V138 x.1 x.2.1 x.2.2.1 x.2.2.2.1 x.2.2.2.2.1 x.2.2.2.2.2.1 x.2.2.2.2.2.2.1 x.2.2.2.2.2.2.2
def f85 (a_Neg:Bool) (a_M_0 a_M_1 a_M_2 a_M_3:Int) (b_Neg:Bool) (b_M_0 b_M_1 b_M_2 b_M_3:Int):Option Lc:=
 bif (a_Neg==b_Neg) then
 Ey (f90 a_M_0 a_M_1 a_M_2 a_M_3 b_M_0 b_M_1 b_M_2 b_M_3) fun q2_6=>
 some (a_Neg,q2_6.1,q2_6.2.1,q2_6.2.2.1,q2_6.2.2.2)
 else
 Ey (f137 a_M_0 a_M_1 a_M_2 a_M_3 b_M_0 b_M_1 b_M_2 b_M_3) fun q2_8=>
 bif q2_8 then
 Ey (f138 b_M_0 b_M_1 b_M_2 b_M_3 a_M_0 a_M_1 a_M_2 a_M_3) fun q4_6=>
 some (b_Neg,q4_6.1,q4_6.2.1,q4_6.2.2.1,q4_6.2.2.2)
 else
 Ey (f138 a_M_0 a_M_1 a_M_2 a_M_3 b_M_0 b_M_1 b_M_2 b_M_3) fun q5_6=>
 some (a_Neg,q5_6.1,q5_6.2.1,q5_6.2.2.1,q5_6.2.2.2)
def C85:Con:=⟨Bool×Int×Int×Int×Int×Lc,Lc,0,fun x=>[.raw true [(.d .bool x.1),(.d T4 x.2.1),(.d T4 x.2.2.1),(.d T4 x.2.2.2.1),(.d T4 x.2.2.2.2.1)],.raw true [(.d .bool x.2.2.2.2.2.1),(.d T4 x.2.2.2.2.2.2.1),(.d T4 x.2.2.2.2.2.2.2.1),(.d T4 x.2.2.2.2.2.2.2.2.1),(.d T4 x.2.2.2.2.2.2.2.2.2)]],NX,fun x=>f85 x.1 x.2.1 x.2.2.1 x.2.2.2.1 x.2.2.2.2.1 x.2.2.2.2.2.1 x.2.2.2.2.2.2.1 x.2.2.2.2.2.2.2.1 x.2.2.2.2.2.2.2.2.1 x.2.2.2.2.2.2.2.2.2,fun y=>[.raw true [(.d .bool y.1),(.d T4 y.2.1),(.d T4 y.2.2.1),(.d T4 y.2.2.2.1),(.d T4 y.2.2.2.2)]],NX,0⟩
theorem V85 a_Neg a_M_0 a_M_1 a_M_2 a_M_3 b_Neg b_M_0 b_M_1 b_M_2 b_M_3 y (q:f85 a_Neg a_M_0 a_M_1 a_M_2 a_M_3 b_Neg b_M_0 b_M_1 b_M_2 b_M_3=some y):VC Tryz.f85 C85 (a_Neg,a_M_0,a_M_1,a_M_2,a_M_3,b_Neg,b_M_0,b_M_1,b_M_2,b_M_3) y:=by
 unfold f85 at q
 refine OL (OL (OL (cI q (fun q=>?_) (fun q=>?_))))
 ·refine OL (EI (tU 0 6 (.alt 6 (.take 7 (.alt 8 .done .done)) .done)) (EI [] (EI [] (AI rfl (AI TV ?_)))))
  obtain ⟨q2_6,h,q⟩:=bE q
  refine OL (cA H90 (a_M_0,a_M_1,a_M_2,a_M_3,b_M_0,b_M_1,b_M_2,b_M_3) h rfl (AI NH (R2 (AI (R2 TV) (AI TV (AI TV (OL ?_)))))))
  cases sE q
  refine AI rfl (E4 [] (AI rfl (AJ TV)))
 refine OL (OL ?_)
 obtain ⟨q2_8,h,q⟩:=bE q
 refine OL (cA H137 (a_M_0,a_M_1,a_M_2,a_M_3,b_M_0,b_M_1,b_M_2,b_M_3) h rfl (AI NH (R2 (AI (R2 TV) (AI TV (cI q (fun q=>?_) (fun q=>?_)))))))
 ·refine OL (EI (tU 0 6 (.alt 6 (.take 7 (.alt 8 .done .done)) .done)) (EI [] (EI [] (AI rfl (AI TV ?_)))))
  obtain ⟨q4_6,h,q⟩:=bE q
  refine OL (cA H138 (b_M_0,b_M_1,b_M_2,b_M_3,a_M_0,a_M_1,a_M_2,a_M_3) h rfl (AI NH (R2 (AI (R2 TV) (AI TV (AI TV (OL ?_)))))))
  cases sE q
  refine AI rfl (E4 [] (AI rfl (AJ TV)))
 refine OL (EI (tU 0 6 (.alt 6 (.take 7 (.alt 8 .done .done)) .done)) (EI [] (EI [] (AI rfl (AI TV ?_)))))
 obtain ⟨q5_6,h,q⟩:=bE q
 refine OL (cA H138 (a_M_0,a_M_1,a_M_2,a_M_3,b_M_0,b_M_1,b_M_2,b_M_3) h rfl (AI NH (R2 (AI (R2 TV) (AI TV (AI TV (OL ?_)))))))
 cases sE q
 refine AI rfl (E4 [] (AI rfl (AJ TV)))
theorem H85:HI C85 85:=hI Tryz.f85 rfl fun x=>V85 x.1 x.2.1 x.2.2.1 x.2.2.2.1 x.2.2.2.2.1 x.2.2.2.2.2.1 x.2.2.2.2.2.2.1 x.2.2.2.2.2.2.2.1 x.2.2.2.2.2.2.2.2.1 x.2.2.2.2.2.2.2.2.2
def f39_j3 (a_M_0 a_M_1 a_M_2 a_M_3:Int):Option Bool:=
 bif ((Fu IntKind.u64 (fun p q=>p||| q) (Fu IntKind.u64 (fun p q=>p||| q) a_M_1 a_M_2) a_M_3) != 0) then
 some true
 else
 some (decide (a_M_0≥9223372036854775808))
def f39_j2 (a_Neg:Bool) (a_M_0 a_M_1 a_M_2 a_M_3:Int):Option (Sum Unit Int):=
 Ey (f39_j3 a_M_0 a_M_1 a_M_2 a_M_3) fun z3=>
 bif z3 then
 bif a_Neg then
 some (Sum.inr (-9223372036854775808:Int))
 else
 some (Sum.inr (9223372036854775807:Int))
 else
 some (Sum.inl ())
def f39 (a_Neg:Bool) (a_M_0 a_M_1 a_M_2 a_M_3:Int):Option Int:=
 Ey (f39_j2 a_Neg a_M_0 a_M_1 a_M_2 a_M_3) fun z2=>
 Fz z2 (fun z2a=>
 bif a_Neg then
 some (i64.wrap (0-(i64.wrap a_M_0)))
 else
 some (i64.wrap a_M_0)) (fun z2b=>
 some z2b)
def C39:Con:=⟨Lc,Int,0,fun x=>[.raw true [(.d .bool x.1),(.d T4 x.2.1),(.d T4 x.2.2.1),(.d T4 x.2.2.2.1),(.d T4 x.2.2.2.2)]],NX,fun x=>f39 x.1 x.2.1 x.2.2.1 x.2.2.2.1 x.2.2.2.2,fun y=>[.dat T2 y],NX,0⟩
theorem V39 a_Neg a_M_0 a_M_1 a_M_2 a_M_3 y (q:f39 a_Neg a_M_0 a_M_1 a_M_2 a_M_3=some y):VC Tryz.f39 C39 (a_Neg,a_M_0,a_M_1,a_M_2,a_M_3) y:=by
 unfold f39 at q
 refine OL ?_
 obtain ⟨z2,hz2,q⟩:=bE q
 let h0:LH:=fun zz=>(0,.cells [(.d .bool a_Neg),(.d T4 a_M_0),(.d T4 a_M_1),(.d T4 a_M_2),(.d T4 a_M_3)])::zz
 refine OQ ⟨Sum.elim (fun z2a=>[(0,⟨[(1,P0 0 0)],h0 [],1⟩)]) (fun z2b=>[(1,⟨[(2,.dat T2 z2b)],[],0⟩)]) z2,?_,?_⟩
 ·have q:=hz2
  clear hz2
  unfold f39_j2 at q
  obtain ⟨z3,hz3,q⟩:=bE q
  refine OQ ⟨[(0,⟨[(1,P0 0 0),(20,.dat .bool z3)],h0 [],1⟩)],?_,?_⟩
  ·have q:=hz3
   clear hz3
   unfold f39_j3 at q
   refine AI (by decide) (AI (fun h=>absurd h (by decide)) ?_)
   refine AI (fun _=>?_) (AI (fun h=>absurd h (by decide)) (AI (fun h=>absurd h (by decide)) TV))
   refine AI (by decide) (AI (fun h=>absurd h (by decide)) ?_)
   refine AI (fun h=>absurd h (by decide)) ?_
   refine AI (fun _=>?_) (AI (fun h=>absurd h (by decide)) TV)
   refine AI (by decide) (AI (fun h=>absurd h (by decide)) ?_)
   refine AI (fun h=>absurd h (by decide)) ?_
   refine AI (fun h=>absurd h (by decide)) ?_
   refine AI (fun _=>?_) TV
   refine cN q (fun q=>?_) (fun q=>?_)
   ·refine gY (AI (by decide) (AI (fun _=>?_) (AI (fun h=>absurd h (by decide)) (AI (fun h=>absurd h (by decide)) (AI (fun h=>absurd h (by decide)) TV)))))
    refine gY (gY (cF ?_))
    cases sE q
    refine E4 (iuR [1]) (R2 (AJ (AI rfl TV)))
   refine gN (gN (gN (cT ?_)))
   cases sE q
   refine E4 (iuR [1]) (R2 (AJ (AI rfl TV)))
  refine AI (cI q (fun q=>?_) (fun q=>?_)) TV
  ·refine OL (OL (cI q (fun q=>?_) (fun q=>?_)))
   ·cases sE q
    refine OL (E4 [] (R2 (AI TV TV)))
   cases sE q
   refine OL (E4 [] (R2 (AI TV TV)))
  cases sE q
  refine E4 (iuR [1]) (AI rfl (AJ (AI rfl TV)))
 rcases z2 with z2a | z2b
 ·dsimp only [Fz] at q
  refine AI (OL (OL (cI q (fun q=>?_) (fun q=>?_)))) TV
  ·refine OL (AI (by decide) (AI (fun _=>?_) (AI (fun h=>absurd h (by decide)) (AI (fun h=>absurd h (by decide)) (AI (fun h=>absurd h (by decide)) TV)))))
   cases sE q
   refine AI rfl (E4 [] (R2 (AI TV TV)))
  refine OL (AI (by decide) (AI (fun _=>?_) (AI (fun h=>absurd h (by decide)) (AI (fun h=>absurd h (by decide)) (AI (fun h=>absurd h (by decide)) TV)))))
  cases sE q
  refine AI rfl (E4 [] (R2 (AI TV TV)))
 dsimp only [Fz] at q
 refine AI ?_ TV
 cases sE q
 refine AI rfl (E4 [] (R2 (AI TV TV)))
theorem H39:HI C39 39:=hI Tryz.f39 rfl fun x=>V39 x.1 x.2.1 x.2.2.1 x.2.2.2.1 x.2.2.2.2
def f64 (a b:Int):Option Int:=
 Ey (f41 a) fun r1=>
 Ey (f41 b) fun r2=>
 Ey (f85 r1.1 r1.2 (0:Int) (0:Int) (0:Int) r2.1 r2.2 (0:Int) (0:Int) (0:Int)) fun r3=>
 Ey (f39 r3.1 r3.2.1 r3.2.2.1 r3.2.2.2.1 r3.2.2.2.2) fun r4=>
 some r4
def C64:Con:=⟨Gm,Int,0,fun x=>[.dat T2 x.1,.dat T2 x.2],NX,fun x=>f64 x.1 x.2,fun y=>[.dat T2 y],NX,0⟩
theorem V64 a b y (q:f64 a b=some y):VC Tryz.f64 C64 (a,b) y:=by
 unfold f64 at q
 refine OL (OL ?_)
 obtain ⟨r1,h,q⟩:=bE q
 refine OL (cA H41 a h rfl (AI rfl (K0 ?_)))
 obtain ⟨r2,h,q⟩:=bE q
 refine OL (cA H41 b h rfl (AI rfl (K0 ?_)))
 obtain ⟨r3,h,q⟩:=bE q
 refine OL (cA H85 (r1.1,r1.2,(0:Int),(0:Int),(0:Int),r2.1,r2.2,(0:Int),(0:Int),(0:Int)) h rfl (AI NH (R2 (AI (R2 TV) (AI TV ?_)))))
 obtain ⟨r4,h,q⟩:=bE q
 refine OL (cA H39 (r3.1,r3.2.1,r3.2.2.1,r3.2.2.2.1,r3.2.2.2.2) h rfl (AI NH (R2 (AJ (AI TV ?_)))))
 cases sE q
 refine AI rfl (E4 [] (R2 (AI TV TV)))
theorem H64:HI C64 64:=hI Tryz.f64 rfl fun x=>V64 x.1 x.2
def f113 (a_Neg:Bool) (a_M_0 a_M_1 a_M_2 a_M_3:Int):Option Lc:=
 some ((!a_Neg),a_M_0,a_M_1,a_M_2,a_M_3)
def C113:Con:=⟨Lc,Lc,0,fun x=>[.raw true [(.d .bool x.1),(.d T4 x.2.1),(.d T4 x.2.2.1),(.d T4 x.2.2.2.1),(.d T4 x.2.2.2.2)]],NX,fun x=>f113 x.1 x.2.1 x.2.2.1 x.2.2.2.1 x.2.2.2.2,fun y=>[.raw true [(.d .bool y.1),(.d T4 y.2.1),(.d T4 y.2.2.1),(.d T4 y.2.2.2.1),(.d T4 y.2.2.2.2)]],NX,0⟩
theorem V113 a_Neg a_M_0 a_M_1 a_M_2 a_M_3 y (q:f113 a_Neg a_M_0 a_M_1 a_M_2 a_M_3=some y):VC Tryz.f113 C113 (a_Neg,a_M_0,a_M_1,a_M_2,a_M_3) y:=by
 unfold f113 at q
 refine OL (OL (OL ?_))
 cases sE q
 refine AI rfl (E4 [] (AI rfl (AJ TV)))
theorem H113:HI C113 113:=hI Tryz.f113 rfl fun x=>V113 x.1 x.2.1 x.2.2.1 x.2.2.2.1 x.2.2.2.2
def f65 (a b:Int):Option Int:=
 Ey (f41 a) fun r1=>
 Ey (f41 b) fun r2=>
 Ey (f113 r2.1 r2.2 (0:Int) (0:Int) (0:Int)) fun r3=>
 Ey (f85 r1.1 r1.2 (0:Int) (0:Int) (0:Int) r3.1 r3.2.1 r3.2.2.1 r3.2.2.2.1 r3.2.2.2.2) fun r4=>
 Ey (f39 r4.1 r4.2.1 r4.2.2.1 r4.2.2.2.1 r4.2.2.2.2) fun r5=>
 some r5
def C65:Con:=⟨Gm,Int,0,fun x=>[.dat T2 x.1,.dat T2 x.2],NX,fun x=>f65 x.1 x.2,fun y=>[.dat T2 y],NX,0⟩
theorem V65 a b y (q:f65 a b=some y):VC Tryz.f65 C65 (a,b) y:=by
 unfold f65 at q
 refine OL (OL ?_)
 obtain ⟨r1,h,q⟩:=bE q
 refine OL (cA H41 a h rfl (AI rfl (K0 ?_)))
 obtain ⟨r2,h,q⟩:=bE q
 refine OL (cA H41 b h rfl (AI rfl (K0 ?_)))
 obtain ⟨r3,h,q⟩:=bE q
 refine OL (cA H113 (r2.1,r2.2,(0:Int),(0:Int),(0:Int)) h rfl (AI NH (R2 (AJ (AI TV ?_)))))
 obtain ⟨r4,h,q⟩:=bE q
 refine OL (cA H85 (r1.1,r1.2,(0:Int),(0:Int),(0:Int),r3.1,r3.2.1,r3.2.2.1,r3.2.2.2.1,r3.2.2.2.2) h rfl (AI NH (R2 (AI (R2 TV) (AI TV ?_)))))
 obtain ⟨r5,h,q⟩:=bE q
 refine OL (cA H39 (r4.1,r4.2.1,r4.2.2.1,r4.2.2.2.1,r4.2.2.2.2) h rfl (AI NH (R2 (AJ (AI TV ?_)))))
 cases sE q
 refine AI rfl (E4 [] (R2 (AI TV TV)))
theorem H65:HI C65 65:=hI Tryz.f65 rfl fun x=>V65 x.1 x.2
def f86_l1 (r1 r2:Int) (go:PTz9→Option PTz2) (v40 c1_0 c1_1 c1_2 c1_3:Int):Option PTz2:=
 bif (decide (v40<2)) then
 E9 (0≤v40∧v40<2)<|
 pickF v40
 [(Ey (f90 c1_0 c1_1 c1_2 c1_3 (u64.wrap ((u64.wrap ((Fu IntKind.u64 (fun p q=>p&&& q) r1 (4294967295:Int))*(Int.fdiv r2 (2 ^ min (Int.toNat (32:Int)) u64.bits))))*2 ^ min (Int.toNat (32:Int)) u64.bits)) (Int.fdiv (u64.wrap ((Fu IntKind.u64 (fun p q=>p&&& q) r1 (4294967295:Int))*(Int.fdiv r2 (2 ^ min (Int.toNat (32:Int)) u64.bits)))) (2 ^ min (Int.toNat (32:Int)) u64.bits)) (0:Int) (0:Int)) fun r9=>
 go ((i64.wrap (v40+1)),r9.1,r9.2.1,r9.2.2.1,r9.2.2.2)),
 (Ey (f90 c1_0 c1_1 c1_2 c1_3 (u64.wrap ((u64.wrap ((Int.fdiv r1 (2 ^ min (Int.toNat (32:Int)) u64.bits))*(Fu IntKind.u64 (fun p q=>p&&& q) r2 (4294967295:Int))))*2 ^ min (Int.toNat (32:Int)) u64.bits)) (Int.fdiv (u64.wrap ((Int.fdiv r1 (2 ^ min (Int.toNat (32:Int)) u64.bits))*(Fu IntKind.u64 (fun p q=>p&&& q) r2 (4294967295:Int)))) (2 ^ min (Int.toNat (32:Int)) u64.bits)) (0:Int) (0:Int)) fun r10=>
 go ((i64.wrap (v40+1)),r10.1,r10.2.1,r10.2.2.1,r10.2.2.2))]
 else
 some (c1_0,c1_1,c1_2,c1_3)
def f86 (a b:Int):Option Lc:=
 Ey (f88 a) fun r1=>
 Ey (f88 b) fun r2=>
 Ey (Fp (fun go x=>f86_l1 r1 r2 go x.1 x.2.1 x.2.2.1 x.2.2.2.1 x.2.2.2.2) Fv ((0:Int),(u64.wrap ((Fu IntKind.u64 (fun p q=>p&&& q) r1 (4294967295:Int))*(Fu IntKind.u64 (fun p q=>p&&& q) r2 (4294967295:Int)))),(u64.wrap ((Int.fdiv r1 (2 ^ min (Int.toNat (32:Int)) u64.bits))*(Int.fdiv r2 (2 ^ min (Int.toNat (32:Int)) u64.bits)))),(0:Int),(0:Int))) fun z7=>
 some ((!((decide (a<0))==(decide (b<0)))),z7.1,z7.2.1,z7.2.2.1,z7.2.2.2)
def C86:Con:=⟨Gm,Lc,0,fun x=>[.dat T2 x.1,.dat T2 x.2],NX,fun x=>f86 x.1 x.2,fun y=>[.raw true [(.d .bool y.1),(.d T4 y.2.1),(.d T4 y.2.2.1),(.d T4 y.2.2.2.1),(.d T4 y.2.2.2.2)]],NX,0⟩
theorem V86 a b y (q:f86 a b=some y):VC Tryz.f86 C86 (a,b) y:=by
 unfold f86 at q
 refine OL (OL ?_)
 obtain ⟨r1,h,q⟩:=bE q
 refine OL (cA H88 a h rfl (AI rfl (K0 ?_)))
 obtain ⟨r2,h,q⟩:=bE q
 refine OL (cA H88 b h rfl (AI rfl (K0 (OL (AI (by decide) (AI (by decide) (OL (OL (OL (OL ?_))))))))))
 obtain ⟨z7,hz7,q⟩:=bE q
 let h0:LH:=fun zz=>(0,.cells [(.d .bool false),(.d T4 (0:Int)),(.d T4 (0:Int)),(.d T4 (0:Int)),(.d T4 (0:Int))])::zz
 refine lJ hz7 (fun x=>⟨[(0,.dat T2 a),(1,.dat T2 b),(4,P0 0 0),(11,P0 1 0),(39,.raw true [(.d T4 (u64.wrap ((Fu IntKind.u64 (fun p q=>p&&& q) r1 (4294967295:Int))*(Int.fdiv r2 (2 ^ min (Int.toNat (32:Int)) u64.bits))))),(.d T4 (u64.wrap ((Int.fdiv r1 (2 ^ min (Int.toNat (32:Int)) u64.bits))*(Fu IntKind.u64 (fun p q=>p&&& q) r2 (4294967295:Int)))))]),(40,.dat T2 x.1)],h0 [(1,.cells [(.d T4 x.2.1),(.d T4 x.2.2.1),(.d T4 x.2.2.2.1),(.d T4 x.2.2.2.2)])],2⟩) (fun z=>[(2,⟨[(0,.dat T2 a),(1,.dat T2 b),(4,P0 0 0),(11,P0 1 0)],h0 [(1,.cells [(.d T4 z.1),(.d T4 z.2.1),(.d T4 z.2.2.1),(.d T4 z.2.2.2)])],2⟩)]) (E4 I2 (R4 (AI (R3 TV) (R2 TV)))) (fun m=>F6 (fun v40=>F6 (fun c1_0=>F6 (fun c1_1=>F6 (fun c1_2=>fun c1_3 z q=>?_))))) ?_
 ·have q:f86_l1 r1 r2 _ v40 c1_0 c1_1 c1_2 c1_3=some z:=q
  unfold f86_l1 at q
  refine OL (OL (cI q (fun q=>?_) (fun q=>?_)))
  ·refine OL (OL (gI q (fun q=>?_)))
   refine AI (fun hk8=>?_) ?_
   ·have q:=Jn q hk8
    dsimp only [nthO] at q
    refine AI (by decide) (AI (by decide) ?_)
    obtain ⟨r9,h,q⟩:=bE q
    refine OL (cA H90 (c1_0,c1_1,c1_2,c1_3,(u64.wrap ((u64.wrap ((Fu IntKind.u64 (fun p q=>p&&& q) r1 (4294967295:Int))*(Int.fdiv r2 (2 ^ min (Int.toNat (32:Int)) u64.bits))))*2 ^ min (Int.toNat (32:Int)) u64.bits)),(Int.fdiv (u64.wrap ((Fu IntKind.u64 (fun p q=>p&&& q) r1 (4294967295:Int))*(Int.fdiv r2 (2 ^ min (Int.toNat (32:Int)) u64.bits)))) (2 ^ min (Int.toNat (32:Int)) u64.bits)),(0:Int),(0:Int)) h rfl ?_)
    refine AI NH (R2 (AI (R2 TV) (AI TV (OL (EI ((i64.wrap (v40+1)),r9.1,r9.2.1,r9.2.2.1,r9.2.2.2) (AI q (E4 I2 (R4 (AI (R3 TV) (R2 TV))))))))))
   refine AI (fun hk8=>?_) TV
   have q:=Jn q hk8
   dsimp only [nthO] at q
   refine AI (by decide) (AI (by decide) ?_)
   obtain ⟨r10,h,q⟩:=bE q
   refine OL (cA H90 (c1_0,c1_1,c1_2,c1_3,(u64.wrap ((u64.wrap ((Int.fdiv r1 (2 ^ min (Int.toNat (32:Int)) u64.bits))*(Fu IntKind.u64 (fun p q=>p&&& q) r2 (4294967295:Int))))*2 ^ min (Int.toNat (32:Int)) u64.bits)),(Int.fdiv (u64.wrap ((Int.fdiv r1 (2 ^ min (Int.toNat (32:Int)) u64.bits))*(Fu IntKind.u64 (fun p q=>p&&& q) r2 (4294967295:Int)))) (2 ^ min (Int.toNat (32:Int)) u64.bits)),(0:Int),(0:Int)) h rfl ?_)
   refine AI NH (R2 (AI (R2 TV) (AI TV (OL (EI ((i64.wrap (v40+1)),r10.1,r10.2.1,r10.2.2.1,r10.2.2.2) (AI q (E4 I2 (R4 (AI (R3 TV) (R2 TV))))))))))
  cases sE q
  refine E4 I2 (R3 (AI (R2 TV) (R2 TV)))
 refine AI (OL (OL ?_)) TV
 cases sE q
 refine AI rfl (E4 [] (AI rfl (AJ TV)))
theorem H86:HI C86 86:=hI Tryz.f86 rfl fun x=>V86 x.1 x.2
def f89 (m_0 m_1 m_2 m_3 i:Int):Option Int:=
 E9 (0≤(i64.wrap (Int.tdiv i (64:Int)))∧(i64.wrap (Int.tdiv i (64:Int)))<4)<|
 pickF (i64.wrap (Int.tdiv i (64:Int)))
 [(E9 (0≤(u64.wrap (Int.tmod i (64:Int))))<|
 some (Fu IntKind.u64 (fun p q=>p&&& q) (Int.fdiv m_0 (2 ^ min (Int.toNat (u64.wrap (Int.tmod i (64:Int)))) u64.bits)) (1:Int))),
 (E9 (0≤(u64.wrap (Int.tmod i (64:Int))))<|
 some (Fu IntKind.u64 (fun p q=>p&&& q) (Int.fdiv m_1 (2 ^ min (Int.toNat (u64.wrap (Int.tmod i (64:Int)))) u64.bits)) (1:Int))),
 (E9 (0≤(u64.wrap (Int.tmod i (64:Int))))<|
 some (Fu IntKind.u64 (fun p q=>p&&& q) (Int.fdiv m_2 (2 ^ min (Int.toNat (u64.wrap (Int.tmod i (64:Int)))) u64.bits)) (1:Int))),
 (E9 (0≤(u64.wrap (Int.tmod i (64:Int))))<|
 some (Fu IntKind.u64 (fun p q=>p&&& q) (Int.fdiv m_3 (2 ^ min (Int.toNat (u64.wrap (Int.tmod i (64:Int)))) u64.bits)) (1:Int)))]
def C89:Con:=⟨PTz9,Int,0,fun x=>[.raw true [(.d T4 x.1),(.d T4 x.2.1),(.d T4 x.2.2.1),(.d T4 x.2.2.2.1)],.dat T2 x.2.2.2.2],NX,fun x=>f89 x.1 x.2.1 x.2.2.1 x.2.2.2.1 x.2.2.2.2,fun y=>[.dat T4 y],NX,0⟩
theorem V89 m_0 m_1 m_2 m_3 i y (q:f89 m_0 m_1 m_2 m_3 i=some y):VC Tryz.f89 C89 (m_0,m_1,m_2,m_3,i) y:=by
 unfold f89 at q
 refine OL (OL (AI (by decide) (gI q (fun q=>?_))))
 refine AI (fun hk1=>?_) ?_
 ·have q:=Jn q hk1
  dsimp only [nthO] at q
  refine AI (by decide) (gI q (fun q=>?_))
  cases sE q
  refine AI rfl (E4 [] (R2 (AI TV TV)))
 refine AI (fun hk1=>?_) ?_
 ·have q:=Jn q hk1
  dsimp only [nthO] at q
  refine AI (by decide) (gI q (fun q=>?_))
  cases sE q
  refine AI rfl (E4 [] (R2 (AI TV TV)))
 refine AI (fun hk1=>?_) ?_
 ·have q:=Jn q hk1
  dsimp only [nthO] at q
  refine AI (by decide) (gI q (fun q=>?_))
  cases sE q
  refine AI rfl (E4 [] (R2 (AI TV TV)))
 refine AI (fun hk1=>?_) TV
 have q:=Jn q hk1
 dsimp only [nthO] at q
 refine AI (by decide) (gI q (fun q=>?_))
 cases sE q
 refine AI rfl (E4 [] (R2 (AI TV TV)))
theorem H89:HI C89 89:=hI Tryz.f89 rfl fun x=>V89 x.1 x.2.1 x.2.2.1 x.2.2.2.1 x.2.2.2.2
end Go.Proofs
