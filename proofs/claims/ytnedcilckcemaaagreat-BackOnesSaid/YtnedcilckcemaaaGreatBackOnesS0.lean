import Derived.Test.YtnedcilckcemaaaGreatFc
set_option linter.unusedVariables false
set_option maxRecDepth 100000
set_option maxHeartbeats 8000000
namespace Go.Proofs
open Go.AM
open IntKind (i64 u64 i32 u32 i16 u16 i8 u8)
def f14:Option Unit:=
 some ()
def C14:Con:=⟨Unit,Unit,0,fun x=>[],NX,fun x=>f14,fun y=>[P0 0 0],fun y=>[(0,.cells [(.osl 1)]),(1,.arr 65 T0 ([]))],2⟩
theorem V14 y (q:f14=some y):VC Tryz.f14 C14 () y:=by
 unfold f14 at q
 refine OL (OL ?_)
 cases sE q
 refine AI rfl (E4 (iuR [1,0]) (AI rfl (AJ (R2 TV))))
theorem H14:HI C14 14:=hI Tryz.f14 rfl fun x=>V14
def f16 (v:LI):Option Fx:=
 some (v,[(v.length:Int)])
def C16:Con:=⟨LI,Fx,0,fun x=>[.dat T1 x],NX,fun x=>f16 x,fun y=>[.raw true [(.osl 0),(.d T1 y.1)]],fun y=>[(0,.arr 3 T2 y.2)],1⟩
theorem V16 v y (q:f16 v=some y):VC Tryz.f16 C16 v y:=by
 unfold f16 at q
 refine OL (OL (OL (OL ?_)))
 cases sE q
 refine AI rfl (E4 (iuR [2]) (AI rfl (AJ (AI rfl TV))))
theorem H16:HI C16 16:=hI Tryz.f16 rfl fun x=>V16 x
def f109_j4 (d:LI) (v11:Int):Option (Sum Unit Unit):=
 bif (decide ((rd 0 d v11)<1)) then
 some (Sum.inr ())
 else
 bif (decide ((rd 0 d v11)>4096)) then
 some (Sum.inr ())
 else
 some (Sum.inl ())
def f109_l3 (d:LI) (go:Gm→Option (Sum Unit Int)) (n v11:Int):Option (Sum Unit Int):=
 bif (decide (v11<d.length)) then
 E9 (0≤v11∧v11<d.length)<|
 Ey (f109_j4 d v11) fun z4=>
 Fz z4 (fun z4a=>
 bif (decide ((i64.wrap (n*(rd 0 d v11)))>4096)) then
 some (Sum.inl ())
 else
 go ((i64.wrap (n*(rd 0 d v11))),(i64.wrap (v11+1)))) (fun z4b=>
 some (Sum.inl ()))
 else
 some (Sum.inr n)
def f109 (d:LI):Option Int:=
 bif (decide ((d.length:Int)>4)) then
 some (0:Int)
 else
 Ey (Fp (fun go x=>f109_l3 d go x.1 x.2) Fv ((1:Int),(0:Int))) fun z3=>
 Fz z3 (fun z3a=>
 some (0:Int)) (fun z3b=>
 some z3b)
def C109:Con:=⟨LI,Int,0,fun x=>[.dat T1 x],NX,fun x=>f109 x,fun y=>[.dat T2 y],NX,0⟩
theorem V109 d y (q:f109 d=some y):VC Tryz.f109 C109 d y:=by
 unfold f109 at q
 refine OL (OL (OL (cI q (fun q=>?_) (fun q=>?_))))
 ·cases sE q
  refine OL (AI rfl (E4 [] (R2 (AI TV TV))))
 refine OL (OL (OL ?_))
 obtain ⟨z3,h,q⟩:=bE q
 refine lJ h (fun x=>⟨[(3,.dat T2 x.1),(9,.dat T1 d),(10,.dat T2 (d.length:Int)),(11,.dat T2 x.2)],[],0⟩) (fun z=>Sum.elim (fun za=>[(1,⟨[(2,D0 0)],[],0⟩)]) (fun zb=>[(2,⟨[(3,.dat T2 zb)],[],0⟩)]) z) (E4 [] (R5 (AI TV TV))) (fun m=>F6 (fun n=>fun v11 z q=>?_)) ?_
 ·have q:f109_l3 d _ n v11=some z:=q
  unfold f109_l3 at q
  refine OL (OL (cI q (fun q=>?_) (fun q=>?_)))
  ·refine OL (OL (gI q (fun q=>?_)))
   obtain ⟨z4,hz4,q⟩:=bE q
   refine OQ ⟨Sum.elim (fun z4a=>[(0,⟨[(3,.dat T2 n),(5,.dat T2 (rd 0 d v11)),(9,.dat T1 d),(10,.dat T2 (d.length:Int)),(11,.dat T2 v11)],[],0⟩)]) (fun z4b=>[(1,⟨[(2,D0 0)],[],0⟩)]) z4,?_,?_⟩
   ·have q:=hz4
    clear hz4
    unfold f109_j4 at q
    refine OL (cN q (fun q=>?_) (fun q=>?_))
    ·refine gY (cF (cI q (fun q=>?_) (fun q=>?_)))
     ·cases sE q
      refine OL (E4 [] (R2 (AI TV TV)))
     cases sE q
     refine E4 [] (R6 (AI TV TV))
    refine gN (cT (cT (OL ?_)))
    cases sE q
    refine E4 [] (R2 (AI TV TV))
   rcases z4 with z4a | z4b
   ·dsimp only [Fz] at q
    refine AI (OL (OL (cI q (fun q=>?_) (fun q=>?_)))) TV
    ·cases sE q
     refine OL (E4 [] (R2 (AI TV TV)))
    refine EI ((i64.wrap (n*(rd 0 d v11))),(i64.wrap (v11+1))) (AI q (E4 [] (R5 (AI TV TV))))
   dsimp only [Fz] at q
   refine AI ?_ TV
   cases sE q
   refine E4 [] (R2 (AI TV TV))
  cases sE q
  refine E4 [] (R2 (AI TV TV))
 rcases z3 with z3a | z3b
 ·dsimp only [Fz] at q
  refine AI ?_ TV
  cases sE q
  refine AI rfl (E4 [] (R2 (AI TV TV)))
 dsimp only [Fz] at q
 refine AI (OL ?_) TV
 cases sE q
 refine AI rfl (E4 [] (R2 (AI TV TV)))
theorem H109:HI C109 109:=hI Tryz.f109 rfl fun x=>V109 x
def f57 (d:LI):Option Bool:=
 Ey (f109 d) fun r1=>
 some (decide (r1>0))
def C57:Con:=⟨LI,Bool,0,fun x=>[.dat T1 x],NX,fun x=>f57 x,fun y=>[.dat .bool y],NX,0⟩
theorem V57 d y (q:f57 d=some y):VC Tryz.f57 C57 d y:=by
 unfold f57 at q
 refine OL (OL ?_)
 obtain ⟨r1,h,q⟩:=bE q
 refine OL (cA H109 d h rfl (AI rfl (K0 ?_)))
 cases sE q
 refine AI rfl (E4 [] (R2 (AI TV TV)))
theorem H57:HI C57 57:=hI Tryz.f57 rfl fun x=>V57 x
def f60 (d:LI):Option Int:=
 Ey (f109 d) fun r1=>
 some r1
def C60:Con:=⟨LI,Int,0,fun x=>[.dat T1 x],NX,fun x=>f60 x,fun y=>[.dat T2 y],NX,0⟩
theorem V60 d y (q:f60 d=some y):VC Tryz.f60 C60 d y:=by
 unfold f60 at q
 refine OL (OL ?_)
 obtain ⟨r1,h,q⟩:=bE q
 refine OL (cA H109 d h rfl (AI rfl (K0 ?_)))
 cases sE q
 refine AI rfl (E4 [] (R2 (AI TV TV)))
theorem H60:HI C60 60:=hI Tryz.f60 rfl fun x=>V60 x
def f28 (t:Fx):Option Bool:=
 Ey (f57 t.1) fun q1_2=>
 bif q1_2 then
 Ey (f60 t.1) fun q1_9=>
 some ((t.2.length:Int)==q1_9)
 else
 some false
def C28:Con:=⟨Fx,Bool,0,fun x=>[.dat T3 x],NX,fun x=>f28 x,fun y=>[.dat .bool y],NX,0⟩
theorem V28 t y (q:f28 t=some y):VC Tryz.f28 C28 t y:=by
 unfold f28 at q
 refine OL (OL (EI (.take 0 (.take 1 (.alt 2 (tU 3 6 (.alt 9 (tU 10 3 .done) .done)) .done))) (EI [] (EI [] (AI rfl (AI TV ?_))))))
 obtain ⟨q1_2,h,q⟩:=bE q
 refine OL (cA H57 t.1 h rfl (AI rfl (K0 (cI q (fun q=>?_) (fun q=>?_)))))
 ·refine gX (gX (gX (gX (AI TV (gX ?_)))))
  obtain ⟨q1_9,h,q⟩:=bE q
  refine OL (cA H60 t.1 h rfl (AI rfl (K0 (gX (cT ?_)))))
  cases sE q
  refine AI rfl (E4 [] (R2 (AI TV TV)))
 refine gM (gM (gM (gM (AI TV (gM (gM (cF ?_)))))))
 cases sE q
 refine AI rfl (E4 [] (R2 (AI TV TV)))
theorem H28:HI C28 28:=hI Tryz.f28 rfl fun x=>V28 x
def f58 (s:LI):Option LI:=
 nilF s
 (some ([]))
 (E9 ((List.length ([]:LI)+s.length)*8≤140737488355328)<|
 some (([]:LI)++s))
def C58:Con:=⟨LI,LI,0,fun x=>[.dat T1 x],NX,fun x=>f58 x,fun y=>[O0 0],fun y=>[(0,.arr 3 T2 y)],1⟩
theorem V58 s y (q:f58 s=some y):VC Tryz.f58 C58 s y:=by
 unfold f58 at q
 refine OL (OL (OL (nilI q (fun q=>?_) (fun q=>?_))))
 ·refine cT (OL ?_)
  cases sE q
  refine AI rfl (E4 (iuR [0]) (AI rfl (AJ (AI rfl TV))))
 refine cF (OL (OL (OL (gI q (fun q=>?_)))))
 cases sE q
 refine AI rfl (E4 (iuR [2]) (AI rfl (AJ (AI rfl TV))))
theorem H58:HI C58 58:=hI Tryz.f58 rfl fun x=>V58 x
def f92 (s:LI):Option LI:=
 nilF s
 (some ([]))
 (E9 ((List.length ([]:LI)+s.length)*8≤140737488355328)<|
 some (([]:LI)++s))
def C92:Con:=⟨LI,LI,0,fun x=>[.dat T1 x],NX,fun x=>f92 x,fun y=>[O0 0],fun y=>[(0,.arr 42 T2 y)],1⟩
theorem V92 s y (q:f92 s=some y):VC Tryz.f92 C92 s y:=by
 unfold f92 at q
 refine OL (OL (OL (nilI q (fun q=>?_) (fun q=>?_))))
 ·refine cT (OL ?_)
  cases sE q
  refine AI rfl (E4 (iuR [0]) (AI rfl (AJ (AI rfl TV))))
 refine cF (OL (OL (OL (gI q (fun q=>?_)))))
 cases sE q
 refine AI rfl (E4 (iuR [2]) (AI rfl (AJ (AI rfl TV))))
theorem H92:HI C92 92:=hI Tryz.f92 rfl fun x=>V92 x
def f48 (t:Fx):Option Fx:=
 Ey (f58 t.1) fun q1_2=>
 Ey (f92 t.2) fun q1_5=>
 some (q1_2,q1_5)
def C48:Con:=⟨Fx,Fx,0,fun x=>[.dat T3 x],NX,fun x=>f48 x,fun y=>[.raw true [(.osl 0),(.osl 1)]],fun y=>[(0,.arr 3 T2 y.1),(1,.arr 42 T2 y.2)],2⟩
theorem V48 t y (q:f48 t=some y):VC Tryz.f48 C48 t y:=by
 unfold f48 at q
 refine OL (OL (EI (.take 0 (.take 1 (.take 3 (.take 4 (.alt 2 (.alt 5 (.take 6 (.alt 7 .done .done)) .done) .done))))) (EI [] (EI [] (AI rfl (AI TV ?_))))))
 obtain ⟨q1_2,h,q⟩:=bE q
 refine OL (cA H58 t.1 h rfl (AI rfl (K0 (AI TV ?_))))
 obtain ⟨q1_5,h,q⟩:=bE q
 refine OL (cA H92 t.2 h rfl (AI rfl (K0 (AI TV (OL ?_)))))
 cases sE q
 refine AI rfl (E4 (iuR [3,4]) (AI rfl (AJ (R2 TV))))
theorem H48:HI C48 48:=hI Tryz.f48 rfl fun x=>V48 x
def f47 (t_l:NL) (n:ND):Option (Int×NL):=
 E9 ((t_l.length+List.length ([(n.1,n.2.1,n.2.2.1,n.2.2.2.1,n.2.2.2.2.1,n.2.2.2.2.2)]))*80≤140737488355328)<|
 some ((i64.wrap ((List.length (t_l++([(n.1,n.2.1,n.2.2.1,n.2.2.2.1,n.2.2.2.2.1,n.2.2.2.2.2)])):Int)-1)),(t_l++([(n.1,n.2.1,n.2.2.1,n.2.2.2.1,n.2.2.2.2.1,n.2.2.2.2.2)])))
def C47:Con:=⟨NL×(ND),Int×NL,2,fun x=>[P0 0 0,.dat T0 x.2],fun x=>[(0,.cells [(.osl 1)]),(1,.arr 65 T0 x.1)],fun x=>f47 x.1 x.2,fun y=>[.dat T2 y.1,D0 0],fun y=>[(0,.cells [(.osl 2)]),(2,.arr 65 T0 y.2)],3⟩
theorem V47 t_l n y (q:f47 t_l n=some y):VE Tryz.f47 2 C47 (t_l,n) y:=by
 unfold f47 at q
 refine OL (OL (EI (tU 0 6 (.alt 6 (.alt 7 (.take 8 (.take 9 (.alt 10 .done .done))) .done) .done)) (EI [(10,[0])] (EI [] (AI rfl (AI TV (OL (AI TV (OL (gI q (fun q=>?_)))))))))))
 refine AI TV (OL (OL ?_))
 cases sE q
 refine AI rfl (E4 [(0,some 0),(2,some 4)] (R3 (AI TV (R2 TV))))
theorem H47:HI C47 47:=hI Tryz.f47 rfl fun x=>V47 x.1 x.2
def f15 (t_l:NL) (x_:Fx):Option (Int×Int×NL):=
 bif (decide ((t_l.length:Int)≥512)) then
 some ((0:Int),(2:Int),t_l)
 else
 Ey (f28 (x_.1,x_.2)) fun r1=>
 bif (!r1) then
 some ((0:Int),(1:Int),t_l)
 else
 Ey (f48 (x_.1,x_.2)) fun r2=>
 Ey (f47 t_l ((1:Int),(-1:Int),(-1:Int),(0:Int),r2.1,r2.2)) fun r3=>
 some (r3.1,(0:Int),r3.2)
def C15:Con:=⟨NL×Fx,Int×Int×NL,2,fun x=>[P0 0 0,.dat T3 x.2],fun x=>[(0,.cells [(.osl 1)]),(1,.arr 65 T0 x.1)],fun x=>f15 x.1 x.2,fun y=>[.dat T2 y.1,.dat T2 y.2.1],fun y=>[(0,.cells [(.osl 2)]),(2,.arr 65 T0 y.2.2)],3⟩
theorem V15 t_l x_ y (q:f15 t_l x_=some y):VE Tryz.f15 2 C15 (t_l,x_) y:=by
 unfold f15 at q
 refine OL (OL (OL (cI q (fun q=>?_) (fun q=>?_))))
 ·cases sE q
  refine OL (AI rfl (E4 [(0,some 0),(2,some 1)] (R3 (AI TV (R2 TV)))))
 refine OL ?_
 obtain ⟨r1,h,q⟩:=bE q
 refine OL (cA H28 (x_.1,x_.2) h rfl (R2 (K0 (cI q (fun q=>?_) (fun q=>?_)))))
 ·cases sE q
  refine OL (AI rfl (E4 [(0,some 0),(2,some 1)] (R3 (AI TV (R2 TV)))))
 refine OL ?_
 obtain ⟨r2,h,q⟩:=bE q
 refine OL (cA H48 (x_.1,x_.2) h rfl (R2 (K0 ?_)))
 obtain ⟨r3,hr3,q⟩:=bE q
 have hr3:C47.F (t_l,((1:Int),(-1:Int),(-1:Int),(0:Int),r2.1,r2.2))=some r3:=hr3
 refine OL (cB H47 _ I2 false hr3 rfl (R2 (AI NH (R2 (AJ (AI (R2 TV) ?_))))))
 cases sE q
 refine AI rfl (E4 [(0,some 0),(2,some 7)] (R3 (AI TV (R2 TV))))
theorem H15:HI C15 15:=hI Tryz.f15 rfl fun x=>V15 x.1 x.2
def f49 (t_l:NL) (n:Int):Option (Bool×NL):=
 bif (decide (n≥0)) then
 some ((decide (n<t_l.length)),t_l)
 else
 some (false,t_l)
def C49:Con:=⟨NL×Int,Bool×NL,2,fun x=>[P0 0 0,.dat T2 x.2],fun x=>[(0,.cells [(.osl 1)]),(1,.arr 65 T0 x.1)],fun x=>f49 x.1 x.2,fun y=>[.dat .bool y.1],fun y=>[(0,.cells [(.osl 1)]),(1,.arr 65 T0 y.2)],2⟩
theorem V49 t_l n y (q:f49 t_l n=some y):VE Tryz.f49 2 C49 (t_l,n) y:=by
 unfold f49 at q
 refine OL (OL (cI q (fun q=>?_) (fun q=>?_)))
 ·refine gX (gX (gX (gX (gX (gX (cT ?_))))))
  cases sE q
  refine AI rfl (E4 I2 (R2 (AI TV (R2 TV))))
 refine gM (gM (gM (gM (gM (gM (cF ?_))))))
 cases sE q
 refine AI rfl (E4 I2 (R2 (AI TV (R2 TV))))
theorem H49:HI C49 49:=hI Tryz.f49 rfl fun x=>V49 x.1 x.2
def f50 (op:Int):Option Bool:=
 bif (op==2) then
 some true
 else
 bif (op==3) then
 some true
 else
 bif (op==4) then
 some true
 else
 bif (op==6) then
 some true
 else
 some (op==12)
def C50:Con:=⟨Int,Bool,0,fun x=>[.dat T2 x],NX,fun x=>f50 x,fun y=>[.dat .bool y],NX,0⟩
theorem V50 op y (q:f50 op=some y):VC Tryz.f50 C50 op y:=by
 unfold f50 at q
 refine OL (OL (cN q (fun q=>?_) (fun q=>?_)))
 ·refine gY (cF (cN q (fun q=>?_) (fun q=>?_)))
  ·refine gY (cF (cN q (fun q=>?_) (fun q=>?_)))
   ·refine gY (cF (cN q (fun q=>?_) (fun q=>?_)))
    ·refine gY (cF ?_)
     cases sE q
     refine AI rfl (E4 [] (R2 (AI TV TV)))
    refine gN (cT ?_)
    cases sE q
    refine AI rfl (E4 [] (R2 (AI TV TV)))
   refine gN (cT (gN (gN (cT ?_))))
   cases sE q
   refine AI rfl (E4 [] (R2 (AI TV TV)))
  refine gN (cT (gN (gN (cT (gN (gN (cT ?_)))))))
  cases sE q
  refine AI rfl (E4 [] (R2 (AI TV TV)))
 refine gN (cT (gN (gN (cT (gN (gN (cT (gN (gN (cT ?_))))))))))
 cases sE q
 refine AI rfl (E4 [] (R2 (AI TV TV)))
theorem H50:HI C50 50:=hI Tryz.f50 rfl fun x=>V50 x
def f51 (op:Int):Option Bool:=
 bif (op==5) then
 some true
 else
 bif (op==8) then
 some true
 else
 bif (op==11) then
 some true
 else
 bif (op==12) then
 some true
 else
 some (op==13)
def C51:Con:=⟨Int,Bool,0,fun x=>[.dat T2 x],NX,fun x=>f51 x,fun y=>[.dat .bool y],NX,0⟩
theorem V51 op y (q:f51 op=some y):VC Tryz.f51 C51 op y:=by
 unfold f51 at q
 refine OL (OL (cN q (fun q=>?_) (fun q=>?_)))
 ·refine gY (cF (cN q (fun q=>?_) (fun q=>?_)))
  ·refine gY (cF (cN q (fun q=>?_) (fun q=>?_)))
   ·refine gY (cF (cN q (fun q=>?_) (fun q=>?_)))
    ·refine gY (cF ?_)
     cases sE q
     refine AI rfl (E4 [] (R2 (AI TV TV)))
    refine gN (cT ?_)
    cases sE q
    refine AI rfl (E4 [] (R2 (AI TV TV)))
   refine gN (cT (gN (gN (cT ?_))))
   cases sE q
   refine AI rfl (E4 [] (R2 (AI TV TV)))
  refine gN (cT (gN (gN (cT (gN (gN (cT ?_)))))))
  cases sE q
  refine AI rfl (E4 [] (R2 (AI TV TV)))
 refine gN (cT (gN (gN (cT (gN (gN (cT (gN (gN (cT ?_))))))))))
 cases sE q
 refine AI rfl (E4 [] (R2 (AI TV TV)))
theorem H51:HI C51 51:=hI Tryz.f51 rfl fun x=>V51 x
def f149 (d:LI) (i:Int):Option Int:=
 bif (decide (i≥d.length)) then
 some (1:Int)
 else
 E9 (0≤(i64.wrap ((i64.wrap ((d.length:Int)-1))-i))∧(i64.wrap ((i64.wrap ((d.length:Int)-1))-i))<d.length)<|
 some (rd 0 d (i64.wrap ((i64.wrap ((d.length:Int)-1))-i)))
def C149:Con:=⟨LI×Int,Int,0,fun x=>[.dat T1 x.1,.dat T2 x.2],NX,fun x=>f149 x.1 x.2,fun y=>[.dat T2 y],NX,0⟩
theorem V149 d i y (q:f149 d i=some y):VC Tryz.f149 C149 (d,i) y:=by
 unfold f149 at q
 refine OL (OL (OL (cI q (fun q=>?_) (fun q=>?_))))
 ·cases sE q
  refine OL (AI rfl (E4 [] (R2 (AI TV TV))))
 refine OL (gI q (fun q=>?_))
 cases sE q
 refine AI rfl (E4 [] (R2 (AI TV TV)))
theorem H149:HI C149 149:=hI Tryz.f149 rfl fun x=>V149 x.1 x.2
def f114_j1 (a b:LI):Option (Sum Unit Unit):=
 Ey (f57 a) fun r4=>
 bif (!r4) then
 some (Sum.inr ())
 else
 Ey (f57 b) fun r5=>
 bif (!r5) then
 some (Sum.inr ())
 else
 some (Sum.inl ())
def f114_j5 (r13 r14:Int):Option (Sum Unit Unit):=
 bif (r13 != r14) then
 bif (r13 != 1) then
 bif (r14 != 1) then
 some (Sum.inr ())
 else
 some (Sum.inl ())
 else
 some (Sum.inl ())
 else
 some (Sum.inl ())
def f114_l4 (a b:LI) (go:Jv→Option (Sum Unit LI)) (v26:Int) (l0:LI):Option (Sum Unit LI):=
 bif (decide (v26<(List.length (List.replicate (Int.toNat (if (b.length:Int)>a.length then (b.length:Int) else (a.length:Int))) (0:Int)):Int))) then
 Ey (f149 a v26) fun r13=>
 Ey (f149 b v26) fun r14=>
 Ey (f114_j5 r13 r14) fun z15=>
 Fz z15 (fun z15a=>
 E9 (0≤(i64.wrap ((i64.wrap ((l0.length:Int)-1))-v26))∧(i64.wrap ((i64.wrap ((l0.length:Int)-1))-v26))<l0.length)<|
 go ((i64.wrap (v26+1)),(List.set l0 (Int.toNat (i64.wrap ((i64.wrap ((l0.length:Int)-1))-v26))) (if r14>r13 then r14 else r13)))) (fun z15b=>
 some (Sum.inl ()))
 else
 some (Sum.inr l0)
def f114 (a b:LI):Option Jv:=
 Ey (f114_j1 a b) fun z3=>
 Fz z3 (fun z3a=>
 E9 (0≤(if (b.length:Int)>a.length then (b.length:Int) else (a.length:Int))∧(if (b.length:Int)>a.length then (b.length:Int) else (a.length:Int))≤(if (b.length:Int)>a.length then (b.length:Int) else (a.length:Int))∧Int.toNat (if (b.length:Int)>a.length then (b.length:Int) else (a.length:Int))*8≤140737488355328)<|
 Ey (Fp (fun go x=>f114_l4 a b go x.1 x.2) Fv ((0:Int),(List.replicate (Int.toNat (if (b.length:Int)>a.length then (b.length:Int) else (a.length:Int))) (0:Int)))) fun z12=>
 Fz z12 (fun z12a=>
 some ((4:Int),[])) (fun z12b=>
 Ey (f57 z12b) fun r16=>
 bif (!r16) then
 some ((2:Int),[])
 else
 some ((0:Int),z12b))) (fun z3b=>
 some ((1:Int),[]))
def C114:Con:=⟨Fx,Jv,0,fun x=>[.dat T1 x.1,.dat T1 x.2],NX,fun x=>f114 x.1 x.2,fun y=>[O0 0,.dat T2 y.1],fun y=>[(0,.arr 3 T2 y.2)],1⟩
theorem V114 a b y (q:f114 a b=some y):VC Tryz.f114 C114 (a,b) y:=by
 unfold f114 at q
 refine OL ?_
 obtain ⟨z3,hz3,q⟩:=bE q
 refine OQ ⟨Sum.elim (fun z3a=>[(0,⟨[(0,.dat T1 a),(1,.dat T1 b)],[],0⟩)]) (fun z3b=>[(1,⟨[(4,.raw false [N0]),(5,D0 1)],[],0⟩)]) z3,?_,?_⟩
 ·have q:=hz3
  clear hz3
  unfold f114_j1 at q
  refine OL ?_
  obtain ⟨r4,h,q⟩:=bE q
  refine OL (cA H57 a h rfl (AI rfl (K0 (cN q (fun q=>?_) (fun q=>?_)))))
  ·refine gY ?_
   obtain ⟨r5,h,q⟩:=bE q
   refine OL (cA H57 b h rfl (AI rfl (K0 (gY (cF (cI q (fun q=>?_) (fun q=>?_)))))))
   ·cases sE q
    refine OL (E4 [] (R2 (AJ TV)))
   cases sE q
   refine E4 [] (R3 (AI TV TV))
  refine gN (gN (cT (cT (OL ?_))))
  cases sE q
  refine E4 [] (R2 (AJ TV))
 rcases z3 with z3a | z3b
 ·dsimp only [Fz] at q
  refine AI (OL (gI q (fun q=>?_))) TV
  refine OL (OL ?_)
  obtain ⟨z12,h,q⟩:=bE q
  refine lJ h (fun x=>⟨[(0,.dat T1 a),(1,.dat T1 b),(6,O0 0),(25,.dat T2 (List.length (List.replicate (Int.toNat (if (b.length:Int)>a.length then (b.length:Int) else (a.length:Int))) (0:Int)):Int)),(26,.dat T2 x.1)],[(0,.arr 3 T2 x.2)],1⟩) (fun z=>Sum.elim (fun za=>[(1,⟨[(4,.raw false [N0]),(5,D0 4)],[],0⟩)]) (fun zb=>[(2,⟨[(6,O0 0)],[(0,.arr 3 T2 zb)],1⟩)]) z) (E4 (iuR [1]) (R5 (AJ (AI rfl TV)))) (fun m=>F6 (fun v26=>fun l0 z q=>?_)) ?_
  ·have q:f114_l4 a b _ v26 l0=some z:=q
   unfold f114_l4 at q
   refine OL (OL (cI q (fun q=>?_) (fun q=>?_)))
   ·refine OL (OL (OL ?_))
    obtain ⟨r13,h,q⟩:=bE q
    refine OL (cA H149 (a,v26) h rfl (R2 (K0 ?_)))
    obtain ⟨r14,h,q⟩:=bE q
    refine OL (cA H149 (b,v26) h rfl (R2 (K0 ?_)))
    obtain ⟨z15,hz15,q⟩:=bE q
    refine OQ ⟨Sum.elim (fun z15a=>[(0,⟨[(0,.dat T1 a),(1,.dat T1 b),(6,O0 0),(7,.dat T2 v26),(8,.dat T2 r13),(9,.dat T2 r14),(25,.dat T2 (List.length (List.replicate (Int.toNat (if (b.length:Int)>a.length then (b.length:Int) else (a.length:Int))) (0:Int)):Int)),(26,.dat T2 v26)],[(0,.arr 3 T2 l0)],1⟩)]) (fun z15b=>[(1,⟨[(4,.raw false [N0]),(5,D0 4)],[],0⟩)]) z15,?_,?_⟩
    ·have q:=hz15
     clear hz15
     unfold f114_j5 at q
     refine OL (cI q (fun q=>?_) (fun q=>?_))
     ·refine gX (cT (cI q (fun q=>?_) (fun q=>?_)))
      ·refine gX (cT (cI q (fun q=>?_) (fun q=>?_)))
       ·cases sE q
        refine OL (E4 [] (R2 (AJ TV)))
       cases sE q
       refine E4 (iuR [1]) (R8 (AJ (AI rfl TV)))
      refine gM (cF (cF ?_))
      cases sE q
      refine E4 (iuR [1]) (R8 (AJ (AI rfl TV)))
     refine gM (cF (gM (gM (cF (cF ?_)))))
     cases sE q
     refine E4 (iuR [1]) (R8 (AJ (AI rfl TV)))
    rcases z15 with z15a | z15b
    ·dsimp only [Fz] at q
     refine AI (gI q (fun q=>?_)) TV
     refine OL (EI ((i64.wrap (v26+1)),(List.set l0 (Int.toNat (i64.wrap ((i64.wrap ((l0.length:Int)-1))-v26))) (if r14>r13 then r14 else r13))) (AI q (E4 (iuR [1]) (R5 (AJ (AI rfl TV))))))
    dsimp only [Fz] at q
    refine AI ?_ TV
    cases sE q
    refine E4 [] (R2 (AJ TV))
   cases sE q
   refine E4 (iuR [1]) (AI rfl (AJ (AI rfl TV)))
  rcases z12 with z12a | z12b
  ·dsimp only [Fz] at q
   refine AI ?_ TV
   cases sE q
   refine AI rfl (E4 (iuR [0]) (R2 (AJ (AI rfl TV))))
  dsimp only [Fz] at q
  refine AI (OL (OL ?_)) TV
  obtain ⟨r16,h,q⟩:=bE q
  refine OL (cD H57 z12b h rfl (AI rfl (AI (fun _=>rfl) (R2 (AI TV (AI TV (cI q (fun q=>?_) (fun q=>?_))))))))
  ·cases sE q
   refine OL (AI rfl (E4 (iuR [0]) (R2 (AJ (AI rfl TV)))))
  cases sE q
  refine OL (AI rfl (E4 (iuR [1]) (R2 (AJ (AI rfl TV)))))
 dsimp only [Fz] at q
 refine AI ?_ TV
 cases sE q
 refine AI rfl (E4 (iuR [0]) (R2 (AJ (AI rfl TV))))
theorem H114:HI C114 114:=hI Tryz.f114 rfl fun x=>V114 x.1 x.2
def f148 (x_ y_:Int):Option Gm:=
 some ((u64.wrap ((u64.wrap ((u64.wrap ((Int.fdiv x_ (2 ^ min (Int.toNat (32:Int)) u64.bits))*(Int.fdiv y_ (2 ^ min (Int.toNat (32:Int)) u64.bits))))+(Int.fdiv (u64.wrap ((u64.wrap ((Int.fdiv x_ (2 ^ min (Int.toNat (32:Int)) u64.bits))*(Fu IntKind.u64 (fun p q=>p&&& q) y_ (4294967295:Int))))+(Int.fdiv (u64.wrap ((Fu IntKind.u64 (fun p q=>p&&& q) x_ (4294967295:Int))*(Fu IntKind.u64 (fun p q=>p&&& q) y_ (4294967295:Int)))) (2 ^ min (Int.toNat (32:Int)) u64.bits)))) (2 ^ min (Int.toNat (32:Int)) u64.bits))))+(Int.fdiv (u64.wrap ((Fu IntKind.u64 (fun p q=>p&&& q) (u64.wrap ((u64.wrap ((Int.fdiv x_ (2 ^ min (Int.toNat (32:Int)) u64.bits))*(Fu IntKind.u64 (fun p q=>p&&& q) y_ (4294967295:Int))))+(Int.fdiv (u64.wrap ((Fu IntKind.u64 (fun p q=>p&&& q) x_ (4294967295:Int))*(Fu IntKind.u64 (fun p q=>p&&& q) y_ (4294967295:Int)))) (2 ^ min (Int.toNat (32:Int)) u64.bits)))) (4294967295:Int))+(u64.wrap ((Fu IntKind.u64 (fun p q=>p&&& q) x_ (4294967295:Int))*(Int.fdiv y_ (2 ^ min (Int.toNat (32:Int)) u64.bits)))))) (2 ^ min (Int.toNat (32:Int)) u64.bits)))),(u64.wrap (x_*y_)))
def C148:Con:=⟨Gm,Gm,0,fun x=>[.dat T4 x.1,.dat T4 x.2],NX,fun x=>f148 x.1 x.2,fun y=>[.dat T4 y.1,.dat T4 y.2],NX,0⟩
theorem V148 x_ y_ y (q:f148 x_ y_=some y):VC Tryz.f148 C148 (x_,y_) y:=by
 unfold f148 at q
 refine OL (OL (OL (AI (by decide) (OL (OL (AI (by decide) (OL (OL (AI (by decide) (OL (OL (AI (by decide) (OL (OL (AI (by decide) (OL ?_))))))))))))))))
 cases sE q
 refine AI rfl (E4 [] (R3 (AI TV TV)))
theorem H148:HI C148 148:=hI Tryz.f148 rfl fun x=>V148 x.1 x.2
def f110 (x_ y_:Int):Option Gm:=
 Ey (f148 x_ y_) fun r1=>
 some (r1.1,r1.2)
def C110:Con:=⟨Gm,Gm,0,fun x=>[.dat T4 x.1,.dat T4 x.2],NX,fun x=>f110 x.1 x.2,fun y=>[.dat T4 y.1,.dat T4 y.2],NX,0⟩
theorem V110 x_ y_ y (q:f110 x_ y_=some y):VC Tryz.f110 C110 (x_,y_) y:=by
 unfold f110 at q
 refine OL (OL (cF (OL ?_)))
 obtain ⟨r1,h,q⟩:=bE q
 refine OL (cA H148 (x_,y_) h rfl (R2 (K0 (OL ?_))))
 cases sE q
 refine AI rfl (E4 [] (R3 (AI TV TV)))
theorem H110:HI C110 110:=hI Tryz.f110 rfl fun x=>V110 x.1 x.2
def f59_j1 (r1:Gm):Option Unit:=
 bif (decide (r1.1>0)) then
 none
 else
 bif (decide (r1.2>9223372036854775807)) then
 none
 else
 some ()
def f59_l2 (go:Jv→Option LI) (n:Int) (l0:LI):Option LI:=
 bif (decide (n<l0.length)) then
 E9 (0≤n∧n≤l0.length)<|
 E9 (0≤n∧n≤l0.length)<|
 go ((i64.wrap (n+(List.length (List.take (Int.toNat (l0.length:Int)-Int.toNat n) (List.drop (Int.toNat (0:Int)) (List.take (Int.toNat n) l0))):Int))),(over l0 n (List.take (Int.toNat (l0.length:Int)-Int.toNat n) (List.drop (Int.toNat (0:Int)) (List.take (Int.toNat n) l0)))))
 else
 some l0
def f59 (x_:LI) (count:Int):Option LI:=
 bif (decide (count<0)) then
 none
 else
 Ey (f110 (u64.wrap (x_.length:Int)) (u64.wrap count)) fun r1=>
 Ey (f59_j1 r1) fun z2=>
 E9 (0≤(i64.wrap r1.2)∧(i64.wrap r1.2)≤(i64.wrap r1.2)∧Int.toNat (i64.wrap r1.2)*8≤140737488355328)<|
 Ey (Fp (fun go x=>f59_l2 go x.1 x.2) Fv ((List.length (List.take (Int.toNat (List.length (List.replicate (Int.toNat (i64.wrap r1.2)) (0:Int)):Int)-Int.toNat (0:Int)) x_):Int),(over (List.replicate (Int.toNat (i64.wrap r1.2)) (0:Int)) (0:Int) (List.take (Int.toNat (List.length (List.replicate (Int.toNat (i64.wrap r1.2)) (0:Int)):Int)-Int.toNat (0:Int)) x_)))) fun z3=>
 some z3
def C59:Con:=⟨LI×Int,LI,0,fun x=>[.dat T1 x.1,.dat T2 x.2],NX,fun x=>f59 x.1 x.2,fun y=>[O0 0],fun y=>[(0,.arr 42 T2 y)],1⟩
theorem V59 x_ count y (q:f59 x_ count=some y):VC Tryz.f59 C59 (x_,count) y:=by
 unfold f59 at q
 refine OL (OL (OL (cI q (fun q=>?_) (fun q=>?_))))
 ·exact nomatch q
 refine OL ?_
 obtain ⟨r1,h,q⟩:=bE q
 refine OL (cA H110 ((u64.wrap (x_.length:Int)),(u64.wrap count)) h rfl (R2 (K0 ?_)))
 obtain ⟨z2,hz2,q⟩:=bE q
 refine OQ ⟨[(0,⟨[(0,.dat T1 x_),(6,.dat T4 r1.2)],[],0⟩)],?_,?_⟩
 ·have q:=hz2
  clear hz2
  unfold f59_j1 at q
  refine OL (cN q (fun q=>?_) (fun q=>?_))
  ·refine gY (cF (cI q (fun q=>?_) (fun q=>?_)))
   ·exact nomatch q
   cases sE q
   refine E4 [] (R3 (AI TV TV))
  refine gN (cT (cT ?_))
  exact nomatch q
 refine AI (OL (gI q (fun q=>?_))) TV
 refine OL (OL ?_)
 obtain ⟨z3,h,q⟩:=bE q
 refine lJ h (fun x=>⟨[(7,O0 0),(8,.dat T2 x.1)],[(0,.arr 42 T2 x.2)],1⟩) (fun z=>[(2,⟨[(7,O0 0)],[(0,.arr 42 T2 z)],1⟩)]) (E4 (iuR [1]) (R2 (AJ (AI rfl TV)))) (fun m=>F6 (fun n=>fun l0 z q=>?_)) ?_
 ·have q:f59_l2 _ n l0=some z:=q
  unfold f59_l2 at q
  refine OL (OL (cI q (fun q=>?_) (fun q=>?_)))
  ·refine EI (tU 0 7 (.alt 7 (.take 8 (.take 9 .done)) .done)) (EI [] (EI [] (AI rfl (gI q (fun q=>?_)))))
   refine gI q (fun q=>?_)
   refine AI TV (EI ((i64.wrap (n+(List.length (List.take (Int.toNat (l0.length:Int)-Int.toNat n) (List.drop (Int.toNat (0:Int)) (List.take (Int.toNat n) l0))):Int))),(over l0 n (List.take (Int.toNat (l0.length:Int)-Int.toNat n) (List.drop (Int.toNat (0:Int)) (List.take (Int.toNat n) l0))))) (AI q (E4 (iuR [1]) (R2 (AJ (AI rfl TV))))))
  cases sE q
  refine E4 (iuR [1]) (AI rfl (AJ (AI rfl TV)))
 refine AI (OL ?_) TV
 cases sE q
 refine AI rfl (E4 (iuR [1]) (AI rfl (AJ (AI rfl TV))))
theorem H59:HI C59 59:=hI Tryz.f59 rfl fun x=>V59 x.1 x.2
def f22 (d:LI) (v:Int):Option Gl:=
 Ey (f57 d) fun r1=>
 bif (!r1) then
 some ((1:Int),[],[])
 else
 Ey (f58 d) fun r2=>
 Ey (f60 d) fun r3=>
 Ey (f59 ([v]) r3) fun r4=>
 some ((0:Int),r2,r4)
def C22:Con:=⟨LI×Int,Gl,0,fun x=>[.dat T1 x.1,.dat T2 x.2],NX,fun x=>f22 x.1 x.2,fun y=>[.raw true [(.osl 0),(.osl 1)],.dat T2 y.1],fun y=>[(0,.arr 3 T2 y.2.1),(1,.arr 42 T2 y.2.2)],2⟩
theorem V22 d v y (q:f22 d v=some y):VC Tryz.f22 C22 (d,v) y:=by
 unfold f22 at q
 refine OL (OL (OL ?_))
 obtain ⟨r1,h,q⟩:=bE q
 refine OL (cA H57 d h rfl (AI rfl (K0 (cI q (fun q=>?_) (fun q=>?_)))))
 ·refine OL (OL ?_)
  cases sE q
  refine AI rfl (E4 (iuR [0,0]) (R2 (AJ (R2 TV))))
 refine OL ?_
 obtain ⟨r2,h,q⟩:=bE q
 refine OL (cA H58 d h rfl (AI rfl (K0 (OL ?_))))
 obtain ⟨r3,h,q⟩:=bE q
 refine OL (cA H60 d h rfl (AI rfl (K0 ?_)))
 obtain ⟨r4,h,q⟩:=bE q
 refine OL (cD H59 ([v],r3) h rfl (R2 (AI (fun _=>rfl) (R2 (AI TV (AI TV (OL ?_)))))))
 cases sE q
 refine AI rfl (E4 (iuR [2,4]) (R2 (AJ (R2 TV))))
theorem H22:HI C22 22:=hI Tryz.f22 rfl fun x=>V22 x.1 x.2
def f141_l1 (d:LI) (go:(Int×Jv)→Option LI) (n i:Int) (l0:LI):Option LI:=
 bif (decide (i≥0)) then
 E9 (0≤i∧i<l0.length)<|
 E9 (0≤i∧i<d.length)<|
 go ((i64.wrap (n*(rd 0 d i))),(i64.wrap (i-1)),(List.set l0 (Int.toNat i) n))
 else
 some l0
def f141 (d:LI):Option LI:=
 Ey (f57 d) fun r1=>
 bif (!r1) then
 some ([])
 else
 E9 (0≤(d.length:Int)∧(d.length:Int)≤d.length∧Int.toNat (d.length:Int)*8≤140737488355328)<|
 Ey (Fp (fun go x=>f141_l1 d go x.1 x.2.1 x.2.2) Fv ((1:Int),(i64.wrap ((d.length:Int)-1)),(List.replicate (Int.toNat (d.length:Int)) (0:Int)))) fun z2=>
 some z2
def C141:Con:=⟨LI,LI,0,fun x=>[.dat T1 x],NX,fun x=>f141 x,fun y=>[O0 0],fun y=>[(0,.arr 3 T2 y)],1⟩
theorem V141 d y (q:f141 d=some y):VC Tryz.f141 C141 d y:=by
 unfold f141 at q
 refine OL (OL (OL ?_))
 obtain ⟨r1,h,q⟩:=bE q
 refine OL (cA H57 d h rfl (AI rfl (K0 (cI q (fun q=>?_) (fun q=>?_)))))
 ·cases sE q
  refine OL (AI rfl (E4 (iuR [0]) (AI rfl (AJ (AI rfl TV)))))
 refine OL (gI q (fun q=>?_))
 refine OL (OL (OL ?_))
 obtain ⟨z2,h,q⟩:=bE q
 refine lJ h (fun x=>⟨[(0,.dat T1 d),(3,O0 0),(4,.dat T2 x.1),(5,.dat T2 x.2.1)],[(0,.arr 3 T2 x.2.2)],1⟩) (fun z=>[(2,⟨[(3,O0 0)],[(0,.arr 3 T2 z)],1⟩)]) (E4 (iuR [1]) (R4 (AJ (AI rfl TV)))) (fun m=>F6 (fun n=>F6 (fun i=>fun l0 z q=>?_))) ?_
 ·have q:f141_l1 d _ n i l0=some z:=q
  unfold f141_l1 at q
  refine OL (OL (cI q (fun q=>?_) (fun q=>?_)))
  ·refine OL (OL (gI q (fun q=>?_)))
   refine OL (gI q (fun q=>?_))
   refine EI ((i64.wrap (n*(rd 0 d i))),(i64.wrap (i-1)),(List.set l0 (Int.toNat i) n)) (AI q (E4 (iuR [1]) (R4 (AJ (AI rfl TV)))))
  cases sE q
  refine E4 (iuR [1]) (AI rfl (AJ (AI rfl TV)))
 refine AI (OL ?_) TV
 cases sE q
 refine AI rfl (E4 (iuR [1]) (AI rfl (AJ (AI rfl TV))))
theorem H141:HI C141 141:=hI Tryz.f141 rfl fun x=>V141 x
def f115_j13 (d big q11_19:LI) (v23 rest i:Int) (l1_2:LI):Option LI:=
 E9 (0≤(i64.wrap (i-(i64.wrap ((big.length:Int)-d.length))))∧(i64.wrap (i-(i64.wrap ((big.length:Int)-d.length))))<d.length)<|
 bif (decide ((rd 0 d (i64.wrap (i-(i64.wrap ((big.length:Int)-d.length)))))>1)) then
 E9 (0≤v23∧v23<l1_2.length)<|
 E9 (0≤i∧i<big.length)<|
 E9 ((rd 0 big i)≠0)<|
 E9 (0≤(i64.wrap (i-(i64.wrap ((big.length:Int)-d.length))))∧(i64.wrap (i-(i64.wrap ((big.length:Int)-d.length))))<q11_19.length)<|
 E9 (0≤v23∧v23<l1_2.length)<|
 some (List.set l1_2 (Int.toNat v23) (i64.wrap ((rd 0 l1_2 v23)+(i64.wrap ((Int.tmod rest (rd 0 big i))*(rd 0 q11_19 (i64.wrap (i-(i64.wrap ((big.length:Int)-d.length))))))))))
 else
 some l1_2
def f115_l12 (d big q11_19:LI) (v23:Int) (go:(Int×Jv)→Option LI) (rest i:Int) (l1_2:LI):Option LI:=
 bif (decide (i≥(i64.wrap ((big.length:Int)-d.length)))) then
 Ey (f115_j13 d big q11_19 v23 rest i l1_2) fun z14=>
 E9 (0≤i∧i<big.length)<|
 E9 ((rd 0 big i)≠0)<|
 go ((i64.wrap (Int.tdiv rest (rd 0 big i))),(i64.wrap (i-1)),z14)
 else
 some l1_2
def f115_l9 (d big q11_19:LI) (r1:Int) (go:Jv→Option LI) (v23:Int) (l1:LI):Option LI:=
 bif (decide (v23<(List.length (List.replicate (Int.toNat r1) (0:Int)):Int))) then
 Ey (Fp (fun go x=>f115_l12 d big q11_19 v23 go x.1 x.2.1 x.2.2) Fv (v23,(i64.wrap ((big.length:Int)-1)),l1)) fun z13=>
 go ((i64.wrap (v23+1)),z13)
 else
 some l1
def f115 (d big:LI):Option LI:=
 Ey (f141 d) fun q11_19=>
 Ey (f60 big) fun r1=>
 E9 (0≤r1∧r1≤r1∧Int.toNat r1*8≤140737488355328)<|
 Ey (Fp (fun go x=>f115_l9 d big q11_19 r1 go x.1 x.2) Fv ((0:Int),(List.replicate (Int.toNat r1) (0:Int)))) fun z10=>
 some z10
def C115:Con:=⟨Fx,LI,0,fun x=>[.dat T1 x.1,.dat T1 x.2],NX,fun x=>f115 x.1 x.2,fun y=>[O0 0],fun y=>[(0,.arr 3 T2 y)],1⟩
theorem V115 d big y (q:f115 d big=some y):VC Tryz.f115 C115 (d,big) y:=by
 unfold f115 at q
 refine OL (OL ?_)
 obtain ⟨q11_19,h,q⟩:=bE q
 refine OL (cA H141 d h rfl (AI rfl (K0 (OL ?_))))
 obtain ⟨r1,h,q⟩:=bE q
 refine OL (cA H60 big h rfl (AI rfl (K0 (gI q (fun q=>?_)))))
 refine OL (OL ?_)
 obtain ⟨z10,hz10,q⟩:=bE q
 let e0:LE:=fun zz=>(0,.dat T1 d)::(1,.dat T1 big)::(5,O0 0)::(6,.dat T2 (i64.wrap ((big.length:Int)-d.length)))::(7,O0 1)::zz
 let e1:LE:=fun zz=>e0 ((22,.dat T2 (List.length (List.replicate (Int.toNat r1) (0:Int)):Int))::zz)
 refine lJ hz10 (fun x=>⟨e1 [(23,.dat T2 x.1)],[(0,.arr 3 T2 q11_19),(1,.arr 3 T2 x.2)],2⟩) (fun z=>[(2,⟨[(7,O0 0)],[(0,.arr 3 T2 z)],1⟩)]) (E4 I2 (R6 (AI (R2 TV) (R2 TV)))) (fun m=>F6 (fun v23=>fun l1 z q=>?_)) ?_
 ·have q:f115_l9 d big q11_19 r1 _ v23 l1=some z:=q
  unfold f115_l9 at q
  refine OL (OL (cI q (fun q=>?_) (fun q=>?_)))
  ·refine OL (OL (OL (OL ?_)))
   obtain ⟨z13,h,q⟩:=bE q
   refine lJ h (fun x=>⟨e0 [(8,.dat T2 v23),(9,.dat T2 x.1),(10,.dat T2 x.2.1),(22,.dat T2 (List.length (List.replicate (Int.toNat r1) (0:Int)):Int)),(23,.dat T2 v23)],[(0,.arr 3 T2 q11_19),(1,.arr 3 T2 x.2.2)],2⟩) (fun z=>[(4,⟨e1 [(23,.dat T2 v23)],[(0,.arr 3 T2 q11_19),(1,.arr 3 T2 z)],2⟩)]) (E4 I2 (R9 (AI (R2 TV) (R2 TV)))) (fun m=>F6 (fun rest=>F6 (fun i=>fun l1_2 z q=>?_))) ?_
   ·have q:f115_l12 d big q11_19 v23 _ rest i l1_2=some z:=q
    unfold f115_l12 at q
    refine OL (OL (cI q (fun q=>?_) (fun q=>?_)))
    ·refine OL ?_
     obtain ⟨z14,hz14,q⟩:=bE q
     refine OQ ⟨[(0,⟨e0 [(8,.dat T2 v23),(9,.dat T2 rest),(10,.dat T2 i),(22,.dat T2 (List.length (List.replicate (Int.toNat r1) (0:Int)):Int)),(23,.dat T2 v23)],[(0,.arr 3 T2 q11_19),(1,.arr 3 T2 z14)],2⟩)],?_,?_⟩
     ·have q:=hz14
      clear hz14
      unfold f115_j13 at q
      refine OL (gI q (fun q=>?_))
      refine cI q (fun q=>?_) (fun q=>?_)
      ·refine EI (tU 0 19 (.alt 19 .done .done)) (EI [(19,[1])] (EI [] (AI rfl (gI q (fun q=>?_)))))
       refine gI q (fun q=>?_)
       refine gI q (fun q=>?_)
       refine gI q (fun q=>?_)
       refine gI q (fun q=>?_)
       refine AI TV (OL ?_)
       cases sE q
       refine E4 I2 (R9 (AI (R2 TV) (R2 TV)))
      cases sE q
      refine E4 I2 (R9 (AI (R2 TV) (R2 TV)))
     refine AI (gI q (fun q=>?_)) TV
     refine gI q (fun q=>?_)
     refine EI ((i64.wrap (Int.tdiv rest (rd 0 big i))),(i64.wrap (i-1)),z14) (AI q (E4 I2 (R9 (AI (R2 TV) (R2 TV)))))
    cases sE q
    refine E4 I2 (R6 (AI (R2 TV) (R2 TV)))
   refine AI (EI ((i64.wrap (v23+1)),z13) (AI q (E4 I2 (R6 (AI (R2 TV) (R2 TV)))))) TV
  cases sE q
  refine E4 (iuR [2]) (AI rfl (AJ (AI rfl TV)))
 refine AI (OL ?_) TV
 cases sE q
 refine AI rfl (E4 (iuR [1]) (AI rfl (AJ (AI rfl TV))))
theorem H115:HI C115 115:=hI Tryz.f115 rfl fun x=>V115 x.1 x.2
def f112_j1 (a b:Int):Option (Sum Unit Unit):=
 bif (!((decide (a<0))==(decide (b<0)))) then
 some (Sum.inr ())
 else
 bif ((decide ((i64.wrap (a+b))<0))==(decide (a<0))) then
 some (Sum.inr ())
 else
 some (Sum.inl ())
def f112 (a b:Int):Option Int:=
 Ey (f112_j1 a b) fun z1=>
 Fz z1 (fun z1a=>
 bif (decide (a<0)) then
 some (-9223372036854775808:Int)
 else
 some (9223372036854775807:Int)) (fun z1b=>
 some (i64.wrap (a+b)))
def C112:Con:=⟨Gm,Int,0,fun x=>[.dat T2 x.1,.dat T2 x.2],NX,fun x=>f112 x.1 x.2,fun y=>[.dat T2 y],NX,0⟩
theorem V112 a b y (q:f112 a b=some y):VC Tryz.f112 C112 (a,b) y:=by
 unfold f112 at q
 refine OL (OL ?_)
 obtain ⟨z1,hz1,q⟩:=bE q
 refine OQ ⟨Sum.elim (fun z1a=>[(0,⟨[(0,.dat T2 a)],[],0⟩)]) (fun z1b=>[(1,⟨[(4,.dat T2 (i64.wrap (a+b)))],[],0⟩)]) z1,?_,?_⟩
 ·have q:=hz1
  clear hz1
  unfold f112_j1 at q
  refine OL (cN q (fun q=>?_) (fun q=>?_))
  ·refine gY (gY (gY (gY (cF (cI q (fun q=>?_) (fun q=>?_))))))
   ·cases sE q
    refine OL (E4 [] (R2 (AI TV TV)))
   cases sE q
   refine E4 [] (R2 (AI TV TV))
  refine gN (gN (gN (gN (cT (cT (OL ?_))))))
  cases sE q
  refine E4 [] (R2 (AI TV TV))
 rcases z1 with z1a | z1b
 ·dsimp only [Fz] at q
  refine AI (OL (OL (cI q (fun q=>?_) (fun q=>?_)))) TV
  ·cases sE q
   refine OL (AI rfl (E4 [] (R2 (AI TV TV))))
  cases sE q
  refine OL (AI rfl (E4 [] (R2 (AI TV TV))))
 dsimp only [Fz] at q
 refine AI ?_ TV
 cases sE q
 refine AI rfl (E4 [] (R2 (AI TV TV)))
theorem H112:HI C112 112:=hI Tryz.f112 rfl fun x=>V112 x.1 x.2
def f111_112_j3 (a b:Fx):Option Bool:=
 Ey (f28 (a.1,a.2)) fun r9=>
 bif (!r9) then
 some true
 else
 Ey (f28 (b.1,b.2)) fun r10=>
 some (!r10)
def f111_112_j2 (a b:Fx):Option (Sum Unit Unit):=
 Ey (f111_112_j3 a b) fun z8=>
 bif z8 then
 some (Sum.inr ())
 else
 some (Sum.inl ())
def f111_112_l4 (a b:Fx) (r12:Gl) (q7_3 q7_7:LI) (go:Jv→Option LI) (v52:Int) (l7:LI):Option LI:=
 bif (decide (v52<r12.2.2.length)) then
 E9 (0≤v52∧v52<q7_3.length)<|
 E9 (0≤(rd 0 q7_3 v52)∧(rd 0 q7_3 v52)<a.2.length)<|
 E9 (0≤v52∧v52<q7_7.length)<|
 E9 (0≤(rd 0 q7_7 v52)∧(rd 0 q7_7 v52)<b.2.length)<|
 Ey (f112 (rd 0 a.2 (rd 0 q7_3 v52)) (rd 0 b.2 (rd 0 q7_7 v52))) fun q11_20=>
 E9 (0≤v52∧v52<l7.length)<|
 go ((i64.wrap (v52+1)),(List.set l7 (Int.toNat v52) q11_20))
 else
 some l7
def f111_112 (a b:Fx):Option Gl:=
 Ey (f111_112_j2 a b) fun z5=>
 Fz z5 (fun z5a=>
 Ey (f114 a.1 b.1) fun r11=>
 bif (r11.1 != 0) then
 some (r11.1,[],[])
 else
 Ey (f22 r11.2 (0:Int)) fun r12=>
 Ey (f115 a.1 r11.2) fun q7_3=>
 Ey (f115 b.1 r11.2) fun q7_7=>
 Ey (Fp (fun go x=>f111_112_l4 a b r12 q7_3 q7_7 go x.1 x.2) Fv ((0:Int),r12.2.2)) fun z13=>
 some ((0:Int),r12.2.1,z13)) (fun z5b=>
 some ((1:Int),[],[]))
def C111_112:Con:=⟨PTz10,Gl,0,fun x=>[.dat T3 x.1,.dat T3 x.2,.raw false [(.c (.func (.func 112) #[] #[]))]],NX,fun x=>f111_112 x.1 x.2,fun y=>[.raw true [(.osl 0),(.osl 1)],.dat T2 y.1],fun y=>[(0,.arr 3 T2 y.2.1),(1,.arr 42 T2 y.2.2)],2⟩
theorem V111_112 a b y (q:f111_112 a b=some y):VC Tryz.f111 C111_112 (a,b) y:=by
 unfold f111_112 at q
 refine OL ?_
 obtain ⟨z5,hz5,q⟩:=bE q
 let e0:LE:=fun zz=>(2,.raw false [(.c (.func (.func 112) #[] #[]))])::(3,P0 0 0)::(4,P0 1 0)::(6,P0 2 0)::zz
 let h1:LH:=fun zz=>(0,.cells [(.d T1 a.1),(.d T1 a.2)])::(1,.cells [(.d T1 b.1),(.d T1 b.2)])::(2,.cells [N0,N0])::zz
 refine OQ ⟨Sum.elim (fun z5a=>[(0,⟨e0 [],h1 [],3⟩)]) (fun z5b=>[(1,⟨[(6,P0 0 0),(7,D0 1)],[(0,.cells [N0,N0])],1⟩)]) z5,?_,?_⟩
 ·have q:=hz5
  clear hz5
  unfold f111_112_j2 at q
  obtain ⟨z8,hz8,q⟩:=bE q
  refine OQ ⟨[(0,⟨e0 [(22,.dat .bool z8)],h1 [],3⟩)],?_,?_⟩
  ·have q:=hz8
   clear hz8
   unfold f111_112_j3 at q
   obtain ⟨r9,h,q⟩:=bE q
   refine OL (cA H28 (a.1,a.2) h rfl (R2 (K0 (cN q (fun q=>?_) (fun q=>?_)))))
   ·refine gY ?_
    obtain ⟨r10,h,q⟩:=bE q
    refine OL (cA H28 (b.1,b.2) h rfl (R2 (K0 (gY (cF ?_)))))
    cases sE q
    refine E4 I3 (R2 (AI (R4 TV) (R3 TV)))
   refine gN (gN (cT ?_))
   cases sE q
   refine E4 I3 (R2 (AI (R4 TV) (R3 TV)))
  refine AI (cI q (fun q=>?_) (fun q=>?_)) TV
  ·refine OL (OL ?_)
   cases sE q
   refine E4 (iuR [3]) (R2 (AJ (AI rfl TV)))
  cases sE q
  refine E4 I3 (AI rfl (AI (R4 TV) (R3 TV)))
 rcases z5 with z5a | z5b
 ·dsimp only [Fz] at q
  refine AI (OL ?_) TV
  obtain ⟨r11,h,q⟩:=bE q
  refine OL (cA H114 (a.1,b.1) h rfl (R2 (K0 (OL (OL (cI q (fun q=>?_) (fun q=>?_)))))))
  ·refine OL (OL ?_)
   cases sE q
   refine AI rfl (E4 (iuR [0,0]) (R2 (AJ (R2 TV))))
  refine OL ?_
  obtain ⟨r12,h,q⟩:=bE q
  refine OL (cD H22 (r11.2,(0:Int)) h rfl (R2 (AI (fun _=>rfl) (R2 (AI TV (AI TV (OL (OL (EI (tU 0 3 (tU 4 3 (.alt 3 (.alt 7 (.take 8 (.take 9 .done)) .done) .done))) (EI [] (EI [] (AI rfl (AI TV ?_)))))))))))))
  obtain ⟨q7_3,h,q⟩:=bE q
  refine OL (cD H115 (a.1,r11.2) h rfl (R2 (AI (fun _=>rfl) (R2 (AI TV (AI TV (AI TV ?_)))))))
  obtain ⟨q7_7,h,q⟩:=bE q
  refine OL (cD H115 (b.1,r11.2) h rfl (R2 (AI (fun _=>rfl) (R2 (AI TV (AI TV (OL (OL ?_))))))))
  obtain ⟨z13,h,q⟩:=bE q
  refine lJ h (fun x=>⟨e0 [(10,P0 3 0),(12,O0 4),(13,O0 5),(51,.dat T2 (r12.2.2.length:Int)),(52,.dat T2 x.1)],h1 [(3,.cells [(.osl 6),(.osl 7)]),(4,.arr 3 T2 q7_3),(5,.arr 3 T2 q7_7),(6,.arr 3 T2 r12.2.1),(7,.arr 42 T2 x.2)],8⟩) (fun z=>[(2,⟨[(6,P0 0 0),(10,P0 1 0)],[(0,.cells [N0,N0]),(1,.cells [(.osl 2),(.osl 3)]),(2,.arr 3 T2 r12.2.1),(3,.arr 42 T2 z)],4⟩)]) (E4 (iuR [1,2,3,7,8,9,5,6]) (R3 (AI (R7 TV) (R8 TV)))) (fun m=>F6 (fun v52=>fun l7 z q=>?_)) ?_
  ·have q:f111_112_l4 a b r12 q7_3 q7_7 _ v52 l7=some z:=q
   unfold f111_112_l4 at q
   refine OL (OL (cI q (fun q=>?_) (fun q=>?_)))
   ·refine OL (OL (EI (tU 0 20 (.alt 20 (.take 21 (.alt 22 .done .done)) .done)) (EI [] (EI [] (AI rfl (gI q (fun q=>?_)))))))
    refine gI q (fun q=>?_)
    refine gI q (fun q=>?_)
    refine gI q (fun q=>?_)
    refine AI TV ?_
    obtain ⟨q11_20,h,q⟩:=bE q
    refine OL (cA H112 ((rd 0 a.2 (rd 0 q7_3 v52)),(rd 0 b.2 (rd 0 q7_7 v52))) h rfl (R2 (K0 (gI q (fun q=>?_)))))
    refine AI TV (OL (EI ((i64.wrap (v52+1)),(List.set l7 (Int.toNat v52) q11_20)) (AI q (E4 I8 (R3 (AI (R7 TV) (R8 TV)))))))
   cases sE q
   refine E4 (iuR [3,4,7,8]) (AI rfl (AI (R2 TV) (R4 TV)))
  refine AI (OL (OL ?_)) TV
  cases sE q
  refine AI rfl (E4 (iuR [3,4]) (R2 (AJ (R2 TV))))
 dsimp only [Fz] at q
 refine AI ?_ TV
 cases sE q
 refine AI rfl (E4 (iuR [0,0]) (R2 (AJ (R2 TV))))
theorem C111_112_holds:HP C111_112 111:=hH Tryz.f111 (by kernel_rfl) rfl (fun x y q=>V111_112 x.1 x.2 y q)
theorem f111_112_in : ∃ fn,Tryz.prog.funcs[111]? = some fn ∧ fn.body.isSome = true ∧ (fn.name == "runtime.NumGoroutine") = false := ⟨Tryz.f111,by kernel_rfl,by kernel_rfl,by kernel_rfl⟩
def f61 (a b:Fx):Option Gl:=
 Ey (f111_112 (a.1,a.2) (b.1,b.2)) fun r1=>
 some (r1.1,r1.2.1,r1.2.2)
def C61:Con:=⟨PTz10,Gl,0,fun x=>[.dat T3 x.1,.dat T3 x.2],NX,fun x=>f61 x.1 x.2,fun y=>[.raw true [(.osl 0),(.osl 1)],.dat T2 y.1],fun y=>[(0,.arr 3 T2 y.2.1),(1,.arr 42 T2 y.2.2)],2⟩
theorem V61 a b y (q:f61 a b=some y):VC Tryz.f61 C61 (a,b) y:=by
 unfold f61 at q
 refine OL (OL ?_)
 obtain ⟨r1,h,q⟩:=bE q
 refine OL (AI f111_112_in (cV (cQ C111_112 ((a.1,a.2),(b.1,b.2)) r1 [] false C111_112_holds h rfl rfl (R4 (AI NH (R2 (AJ (AI TV (OL ?_)))))))))
 cases sE q
 refine AI rfl (E4 (iuR [4,5]) (R2 (AJ (R2 TV))))
theorem H61:HI C61 61:=hI Tryz.f61 rfl fun x=>V61 x.1 x.2
def f139_j1 (a b:Int):Option (Sum Unit Unit):=
 bif ((decide (a<0))==(decide (b<0))) then
 some (Sum.inr ())
 else
 bif ((decide ((i64.wrap (a-b))<0))==(decide (a<0))) then
 some (Sum.inr ())
 else
 some (Sum.inl ())
def f139 (a b:Int):Option Int:=
 Ey (f139_j1 a b) fun z1=>
 Fz z1 (fun z1a=>
 bif (decide (a<0)) then
 some (-9223372036854775808:Int)
 else
 some (9223372036854775807:Int)) (fun z1b=>
 some (i64.wrap (a-b)))
def C139:Con:=⟨Gm,Int,0,fun x=>[.dat T2 x.1,.dat T2 x.2],NX,fun x=>f139 x.1 x.2,fun y=>[.dat T2 y],NX,0⟩
theorem V139 a b y (q:f139 a b=some y):VC Tryz.f139 C139 (a,b) y:=by
 unfold f139 at q
 refine OL (OL ?_)
 obtain ⟨z1,hz1,q⟩:=bE q
 refine OQ ⟨Sum.elim (fun z1a=>[(0,⟨[(0,.dat T2 a)],[],0⟩)]) (fun z1b=>[(1,⟨[(4,.dat T2 (i64.wrap (a-b)))],[],0⟩)]) z1,?_,?_⟩
 ·have q:=hz1
  clear hz1
  unfold f139_j1 at q
  refine OL (cN q (fun q=>?_) (fun q=>?_))
  ·refine gY (gY (gY (gY (cF (cI q (fun q=>?_) (fun q=>?_))))))
   ·cases sE q
    refine OL (E4 [] (R2 (AI TV TV)))
   cases sE q
   refine E4 [] (R2 (AI TV TV))
  refine gN (gN (gN (gN (cT (cT (OL ?_))))))
  cases sE q
  refine E4 [] (R2 (AI TV TV))
 rcases z1 with z1a | z1b
 ·dsimp only [Fz] at q
  refine AI (OL (OL (cI q (fun q=>?_) (fun q=>?_)))) TV
  ·cases sE q
   refine OL (AI rfl (E4 [] (R2 (AI TV TV))))
  cases sE q
  refine OL (AI rfl (E4 [] (R2 (AI TV TV))))
 dsimp only [Fz] at q
 refine AI ?_ TV
 cases sE q
 refine AI rfl (E4 [] (R2 (AI TV TV)))
theorem H139:HI C139 139:=hI Tryz.f139 rfl fun x=>V139 x.1 x.2
def f111_139_j3 (a b:Fx):Option Bool:=
 Ey (f28 (a.1,a.2)) fun r9=>
 bif (!r9) then
 some true
 else
 Ey (f28 (b.1,b.2)) fun r10=>
 some (!r10)
def f111_139_j2 (a b:Fx):Option (Sum Unit Unit):=
 Ey (f111_139_j3 a b) fun z8=>
 bif z8 then
 some (Sum.inr ())
 else
 some (Sum.inl ())
def f111_139_l4 (a b:Fx) (r12:Gl) (q7_3 q7_7:LI) (go:Jv→Option LI) (v52:Int) (l7:LI):Option LI:=
 bif (decide (v52<r12.2.2.length)) then
 E9 (0≤v52∧v52<q7_3.length)<|
 E9 (0≤(rd 0 q7_3 v52)∧(rd 0 q7_3 v52)<a.2.length)<|
 E9 (0≤v52∧v52<q7_7.length)<|
 E9 (0≤(rd 0 q7_7 v52)∧(rd 0 q7_7 v52)<b.2.length)<|
 Ey (f139 (rd 0 a.2 (rd 0 q7_3 v52)) (rd 0 b.2 (rd 0 q7_7 v52))) fun q11_20=>
 E9 (0≤v52∧v52<l7.length)<|
 go ((i64.wrap (v52+1)),(List.set l7 (Int.toNat v52) q11_20))
 else
 some l7
def f111_139 (a b:Fx):Option Gl:=
 Ey (f111_139_j2 a b) fun z5=>
 Fz z5 (fun z5a=>
 Ey (f114 a.1 b.1) fun r11=>
 bif (r11.1 != 0) then
 some (r11.1,[],[])
 else
 Ey (f22 r11.2 (0:Int)) fun r12=>
 Ey (f115 a.1 r11.2) fun q7_3=>
 Ey (f115 b.1 r11.2) fun q7_7=>
 Ey (Fp (fun go x=>f111_139_l4 a b r12 q7_3 q7_7 go x.1 x.2) Fv ((0:Int),r12.2.2)) fun z13=>
 some ((0:Int),r12.2.1,z13)) (fun z5b=>
 some ((1:Int),[],[]))
def C111_139:Con:=⟨PTz10,Gl,0,fun x=>[.dat T3 x.1,.dat T3 x.2,.raw false [(.c (.func (.func 139) #[] #[]))]],NX,fun x=>f111_139 x.1 x.2,fun y=>[.raw true [(.osl 0),(.osl 1)],.dat T2 y.1],fun y=>[(0,.arr 3 T2 y.2.1),(1,.arr 42 T2 y.2.2)],2⟩
theorem V111_139 a b y (q:f111_139 a b=some y):VC Tryz.f111 C111_139 (a,b) y:=by
 unfold f111_139 at q
 refine OL ?_
 obtain ⟨z5,hz5,q⟩:=bE q
 let e0:LE:=fun zz=>(2,.raw false [(.c (.func (.func 139) #[] #[]))])::(3,P0 0 0)::(4,P0 1 0)::(6,P0 2 0)::zz
 let h1:LH:=fun zz=>(0,.cells [(.d T1 a.1),(.d T1 a.2)])::(1,.cells [(.d T1 b.1),(.d T1 b.2)])::(2,.cells [N0,N0])::zz
 refine OQ ⟨Sum.elim (fun z5a=>[(0,⟨e0 [],h1 [],3⟩)]) (fun z5b=>[(1,⟨[(6,P0 0 0),(7,D0 1)],[(0,.cells [N0,N0])],1⟩)]) z5,?_,?_⟩
 ·have q:=hz5
  clear hz5
  unfold f111_139_j2 at q
  obtain ⟨z8,hz8,q⟩:=bE q
  refine OQ ⟨[(0,⟨e0 [(22,.dat .bool z8)],h1 [],3⟩)],?_,?_⟩
  ·have q:=hz8
   clear hz8
   unfold f111_139_j3 at q
   obtain ⟨r9,h,q⟩:=bE q
   refine OL (cA H28 (a.1,a.2) h rfl (R2 (K0 (cN q (fun q=>?_) (fun q=>?_)))))
   ·refine gY ?_
    obtain ⟨r10,h,q⟩:=bE q
    refine OL (cA H28 (b.1,b.2) h rfl (R2 (K0 (gY (cF ?_)))))
    cases sE q
    refine E4 I3 (R2 (AI (R4 TV) (R3 TV)))
   refine gN (gN (cT ?_))
   cases sE q
   refine E4 I3 (R2 (AI (R4 TV) (R3 TV)))
  refine AI (cI q (fun q=>?_) (fun q=>?_)) TV
  ·refine OL (OL ?_)
   cases sE q
   refine E4 (iuR [3]) (R2 (AJ (AI rfl TV)))
  cases sE q
  refine E4 I3 (AI rfl (AI (R4 TV) (R3 TV)))
 rcases z5 with z5a | z5b
 ·dsimp only [Fz] at q
  refine AI (OL ?_) TV
  obtain ⟨r11,h,q⟩:=bE q
  refine OL (cA H114 (a.1,b.1) h rfl (R2 (K0 (OL (OL (cI q (fun q=>?_) (fun q=>?_)))))))
  ·refine OL (OL ?_)
   cases sE q
   refine AI rfl (E4 (iuR [0,0]) (R2 (AJ (R2 TV))))
  refine OL ?_
  obtain ⟨r12,h,q⟩:=bE q
  refine OL (cD H22 (r11.2,(0:Int)) h rfl (R2 (AI (fun _=>rfl) (R2 (AI TV (AI TV (OL (OL (EI (tU 0 3 (tU 4 3 (.alt 3 (.alt 7 (.take 8 (.take 9 .done)) .done) .done))) (EI [] (EI [] (AI rfl (AI TV ?_)))))))))))))
  obtain ⟨q7_3,h,q⟩:=bE q
  refine OL (cD H115 (a.1,r11.2) h rfl (R2 (AI (fun _=>rfl) (R2 (AI TV (AI TV (AI TV ?_)))))))
  obtain ⟨q7_7,h,q⟩:=bE q
  refine OL (cD H115 (b.1,r11.2) h rfl (R2 (AI (fun _=>rfl) (R2 (AI TV (AI TV (OL (OL ?_))))))))
  obtain ⟨z13,h,q⟩:=bE q
  refine lJ h (fun x=>⟨e0 [(10,P0 3 0),(12,O0 4),(13,O0 5),(51,.dat T2 (r12.2.2.length:Int)),(52,.dat T2 x.1)],h1 [(3,.cells [(.osl 6),(.osl 7)]),(4,.arr 3 T2 q7_3),(5,.arr 3 T2 q7_7),(6,.arr 3 T2 r12.2.1),(7,.arr 42 T2 x.2)],8⟩) (fun z=>[(2,⟨[(6,P0 0 0),(10,P0 1 0)],[(0,.cells [N0,N0]),(1,.cells [(.osl 2),(.osl 3)]),(2,.arr 3 T2 r12.2.1),(3,.arr 42 T2 z)],4⟩)]) (E4 (iuR [1,2,3,7,8,9,5,6]) (R3 (AI (R7 TV) (R8 TV)))) (fun m=>F6 (fun v52=>fun l7 z q=>?_)) ?_
  ·have q:f111_139_l4 a b r12 q7_3 q7_7 _ v52 l7=some z:=q
   unfold f111_139_l4 at q
   refine OL (OL (cI q (fun q=>?_) (fun q=>?_)))
   ·refine OL (OL (EI (tU 0 20 (.alt 20 (.take 21 (.alt 22 .done .done)) .done)) (EI [] (EI [] (AI rfl (gI q (fun q=>?_)))))))
    refine gI q (fun q=>?_)
    refine gI q (fun q=>?_)
    refine gI q (fun q=>?_)
    refine AI TV ?_
    obtain ⟨q11_20,h,q⟩:=bE q
    refine OL (cA H139 ((rd 0 a.2 (rd 0 q7_3 v52)),(rd 0 b.2 (rd 0 q7_7 v52))) h rfl (R2 (K0 (gI q (fun q=>?_)))))
    refine AI TV (OL (EI ((i64.wrap (v52+1)),(List.set l7 (Int.toNat v52) q11_20)) (AI q (E4 I8 (R3 (AI (R7 TV) (R8 TV)))))))
   cases sE q
   refine E4 (iuR [3,4,7,8]) (AI rfl (AI (R2 TV) (R4 TV)))
  refine AI (OL (OL ?_)) TV
  cases sE q
  refine AI rfl (E4 (iuR [3,4]) (R2 (AJ (R2 TV))))
 dsimp only [Fz] at q
 refine AI ?_ TV
 cases sE q
 refine AI rfl (E4 (iuR [0,0]) (R2 (AJ (R2 TV))))
theorem C111_139_holds:HP C111_139 111:=hH Tryz.f111 (by kernel_rfl) rfl (fun x y q=>V111_139 x.1 x.2 y q)
theorem f111_139_in : ∃ fn,Tryz.prog.funcs[111]? = some fn ∧ fn.body.isSome = true ∧ (fn.name == "runtime.NumGoroutine") = false := ⟨Tryz.f111,by kernel_rfl,by kernel_rfl,by kernel_rfl⟩
def f93 (a b:Fx):Option Gl:=
 Ey (f111_139 (a.1,a.2) (b.1,b.2)) fun r1=>
 some (r1.1,r1.2.1,r1.2.2)
def C93:Con:=⟨PTz10,Gl,0,fun x=>[.dat T3 x.1,.dat T3 x.2],NX,fun x=>f93 x.1 x.2,fun y=>[.raw true [(.osl 0),(.osl 1)],.dat T2 y.1],fun y=>[(0,.arr 3 T2 y.2.1),(1,.arr 42 T2 y.2.2)],2⟩
theorem V93 a b y (q:f93 a b=some y):VC Tryz.f93 C93 (a,b) y:=by
 unfold f93 at q
 refine OL (OL ?_)
 obtain ⟨r1,h,q⟩:=bE q
 refine OL (AI f111_139_in (cV (cQ C111_139 ((a.1,a.2),(b.1,b.2)) r1 [] false C111_139_holds h rfl rfl (R4 (AI NH (R2 (AJ (AI TV (OL ?_)))))))))
 cases sE q
 refine AI rfl (E4 (iuR [4,5]) (R2 (AJ (R2 TV))))
theorem H93:HI C93 93:=hI Tryz.f93 rfl fun x=>V93 x.1 x.2
def f150 (v:Int):Option Int:=
 bif (decide (v<0)) then
 some (u64.wrap (0-(u64.wrap v)))
 else
 some (u64.wrap v)
def C150:Con:=⟨Int,Int,0,fun x=>[.dat T2 x],NX,fun x=>f150 x,fun y=>[.dat T4 y],NX,0⟩
theorem V150 v y (q:f150 v=some y):VC Tryz.f150 C150 v y:=by
 unfold f150 at q
 refine OL (OL (OL (cI q (fun q=>?_) (fun q=>?_))))
 ·cases sE q
  refine OL (AI rfl (E4 [] (R2 (AI TV TV))))
 cases sE q
 refine OL (AI rfl (E4 [] (R2 (AI TV TV))))
theorem H150:HI C150 150:=hI Tryz.f150 rfl fun x=>V150 x
def f151_j1 (hi lo:Int) (below:Bool):Option Bool:=
 bif below then
 bif (decide (hi>0)) then
 some true
 else
 some (decide (lo≥9223372036854775808))
 else
 some false
def f151 (hi lo:Int) (below:Bool):Option Int:=
 Ey (f151_j1 hi lo below) fun z1=>
 bif z1 then
 some (-9223372036854775808:Int)
 else
 bif below then
 some (i64.wrap (0-(i64.wrap lo)))
 else
 bif (decide (hi>0)) then
 some (9223372036854775807:Int)
 else
 bif (decide (lo≥9223372036854775808)) then
 some (9223372036854775807:Int)
 else
 some (i64.wrap lo)
def C151:Con:=⟨Int×Int×Bool,Int,0,fun x=>[.dat T4 x.1,.dat T4 x.2.1,.dat .bool x.2.2],NX,fun x=>f151 x.1 x.2.1 x.2.2,fun y=>[.dat T2 y],NX,0⟩
theorem V151 hi lo below y (q:f151 hi lo below=some y):VC Tryz.f151 C151 (hi,lo,below) y:=by
 unfold f151 at q
 refine OL (OL ?_)
 obtain ⟨z1,hz1,q⟩:=bE q
 refine OQ ⟨[(0,⟨[(0,.dat T4 hi),(1,.dat T4 lo),(2,.dat .bool below),(7,.dat .bool z1)],[],0⟩)],?_,?_⟩
 ·have q:=hz1
  clear hz1
  unfold f151_j1 at q
  refine cI q (fun q=>?_) (fun q=>?_)
  ·refine gX (gX (cN q (fun q=>?_) (fun q=>?_)))
   ·refine gY (gX (cF (cT ?_)))
    cases sE q
    refine E4 [] (R5 (AI TV TV))
   refine gN (gX (cT (cT ?_)))
   cases sE q
   refine E4 [] (R5 (AI TV TV))
  refine gM (gM (gM (cF ?_)))
  cases sE q
  refine E4 [] (R5 (AI TV TV))
 refine AI (cI q (fun q=>?_) (fun q=>?_)) TV
 ·cases sE q
  refine OL (AI rfl (E4 [] (R2 (AI TV TV))))
 refine OL (cI q (fun q=>?_) (fun q=>?_))
 ·cases sE q
  refine OL (AI rfl (E4 [] (R2 (AI TV TV))))
 refine OL (cN q (fun q=>?_) (fun q=>?_))
 ·refine gY (cF (cI q (fun q=>?_) (fun q=>?_)))
  ·cases sE q
   refine OL (AI rfl (E4 [] (R2 (AI TV TV))))
  cases sE q
  refine OL (AI rfl (E4 [] (R2 (AI TV TV))))
 refine gN (cT (cT (OL ?_)))
 cases sE q
 refine AI rfl (E4 [] (R2 (AI TV TV)))
theorem H151:HI C151 151:=hI Tryz.f151 rfl fun x=>V151 x.1 x.2.1 x.2.2
def f116_j3 (r3:Gm):Option Bool:=
 bif (decide ((Fu IntKind.u64 (fun p q=>p&&& q) r3.2 (4294967295:Int))>2147483648)) then
 some true
 else
 bif ((Fu IntKind.u64 (fun p q=>p&&& q) r3.2 (4294967295:Int))==2147483648) then
 some ((Fu IntKind.u64 (fun p q=>p&&& q) (Fu IntKind.u64 (fun p q=>p||| q) (u64.wrap (r3.1*2 ^ min (Int.toNat (32:Int)) u64.bits)) (Int.fdiv r3.2 (2 ^ min (Int.toNat (32:Int)) u64.bits))) (1:Int))==1)
 else
 some false
def f116_j2 (r3:Gm):Option Gm:=
 Ey (f116_j3 r3) fun z7=>
 bif z7 then
 Ey (Lq (Fu IntKind.u64 (fun p q=>p||| q) (u64.wrap (r3.1*2 ^ min (Int.toNat (32:Int)) u64.bits)) (Int.fdiv r3.2 (2 ^ min (Int.toNat (32:Int)) u64.bits))) (1:Int) (0:Int)) fun r8=>
 some (r8.1,(u64.wrap ((Int.fdiv r3.1 (2 ^ min (Int.toNat (32:Int)) u64.bits))+r8.2)))
 else
 some ((Fu IntKind.u64 (fun p q=>p||| q) (u64.wrap (r3.1*2 ^ min (Int.toNat (32:Int)) u64.bits)) (Int.fdiv r3.2 (2 ^ min (Int.toNat (32:Int)) u64.bits))),(Int.fdiv r3.1 (2 ^ min (Int.toNat (32:Int)) u64.bits)))
def f116 (a b:Int):Option Int:=
 Ey (f150 a) fun r1=>
 Ey (f150 b) fun r2=>
 Ey (f148 r1 r2) fun r3=>
 Ey (f116_j2 r3) fun z6=>
 Ey (f151 z6.2 z6.1 (!((decide (a<0))==(decide (b<0))))) fun r9=>
 some r9
def C116:Con:=⟨Gm,Int,0,fun x=>[.dat T2 x.1,.dat T2 x.2],NX,fun x=>f116 x.1 x.2,fun y=>[.dat T2 y],NX,0⟩
theorem V116 a b y (q:f116 a b=some y):VC Tryz.f116 C116 (a,b) y:=by
 unfold f116 at q
 refine OL (OL ?_)
 obtain ⟨r1,h,q⟩:=bE q
 refine OL (cA H150 a h rfl (AI rfl (K0 ?_)))
 obtain ⟨r2,h,q⟩:=bE q
 refine OL (cA H150 b h rfl (AI rfl (K0 ?_)))
 obtain ⟨r3,h,q⟩:=bE q
 refine OL (cA H148 (r1,r2) h rfl (R2 (K0 (OL (OL (AI (by decide) (AI (by decide) (OL (AI (by decide) ?_)))))))))
 obtain ⟨z6,hz6,q⟩:=bE q
 refine OQ ⟨[(0,⟨[(0,.dat T2 a),(1,.dat T2 b),(8,.dat T4 z6.1),(9,.dat T4 z6.2)],[],0⟩)],?_,?_⟩
 ·have q:=hz6
  clear hz6
  unfold f116_j2 at q
  obtain ⟨z7,hz7,q⟩:=bE q
  refine OQ ⟨[(0,⟨[(0,.dat T2 a),(1,.dat T2 b),(8,.dat T4 (Fu IntKind.u64 (fun p q=>p||| q) (u64.wrap (r3.1*2 ^ min (Int.toNat (32:Int)) u64.bits)) (Int.fdiv r3.2 (2 ^ min (Int.toNat (32:Int)) u64.bits)))),(9,.dat T4 (Int.fdiv r3.1 (2 ^ min (Int.toNat (32:Int)) u64.bits))),(38,.dat .bool z7)],[],0⟩)],?_,?_⟩
  ·have q:=hz7
   clear hz7
   unfold f116_j3 at q
   refine cN q (fun q=>?_) (fun q=>?_)
   ·refine gY (gY (cI q (fun q=>?_) (fun q=>?_)))
    ·refine gX (gX (gY (cT (cF ?_))))
     cases sE q
     refine E4 [] (R6 (AI TV TV))
    refine gM (gM (gY (cF (cF ?_))))
    cases sE q
    refine E4 [] (R6 (AI TV TV))
   refine gN (gN (gN (cT ?_)))
   cases sE q
   refine E4 [] (R6 (AI TV TV))
  refine AI (cI q (fun q=>?_) (fun q=>?_)) TV
  ·refine OL (OL ?_)
   obtain ⟨r8,h,q⟩:=bE q
   refine OQ ⟨ext3 Lq,[r8.1,r8.2],Lp,AI (ext3I h) ?_⟩
   cases sE q
   refine E4 [] (R5 (AI TV TV))
  cases sE q
  refine E4 [] (R5 (AI TV TV))
 refine AI (OL ?_) TV
 obtain ⟨r9,h,q⟩:=bE q
 refine OL (cA H151 (z6.2,z6.1,(!((decide (a<0))==(decide (b<0))))) h rfl (R3 (K0 ?_)))
 cases sE q
 refine AI rfl (E4 [] (R2 (AI TV TV)))
theorem H116:HI C116 116:=hI Tryz.f116 rfl fun x=>V116 x.1 x.2
def f111_116_j3 (a b:Fx):Option Bool:=
 Ey (f28 (a.1,a.2)) fun r9=>
 bif (!r9) then
 some true
 else
 Ey (f28 (b.1,b.2)) fun r10=>
 some (!r10)
def f111_116_j2 (a b:Fx):Option (Sum Unit Unit):=
 Ey (f111_116_j3 a b) fun z8=>
 bif z8 then
 some (Sum.inr ())
 else
 some (Sum.inl ())
def f111_116_l4 (a b:Fx) (r12:Gl) (q7_3 q7_7:LI) (go:Jv→Option LI) (v52:Int) (l7:LI):Option LI:=
 bif (decide (v52<r12.2.2.length)) then
 E9 (0≤v52∧v52<q7_3.length)<|
 E9 (0≤(rd 0 q7_3 v52)∧(rd 0 q7_3 v52)<a.2.length)<|
 E9 (0≤v52∧v52<q7_7.length)<|
 E9 (0≤(rd 0 q7_7 v52)∧(rd 0 q7_7 v52)<b.2.length)<|
 Ey (f116 (rd 0 a.2 (rd 0 q7_3 v52)) (rd 0 b.2 (rd 0 q7_7 v52))) fun q11_20=>
 E9 (0≤v52∧v52<l7.length)<|
 go ((i64.wrap (v52+1)),(List.set l7 (Int.toNat v52) q11_20))
 else
 some l7
def f111_116 (a b:Fx):Option Gl:=
 Ey (f111_116_j2 a b) fun z5=>
 Fz z5 (fun z5a=>
 Ey (f114 a.1 b.1) fun r11=>
 bif (r11.1 != 0) then
 some (r11.1,[],[])
 else
 Ey (f22 r11.2 (0:Int)) fun r12=>
 Ey (f115 a.1 r11.2) fun q7_3=>
 Ey (f115 b.1 r11.2) fun q7_7=>
 Ey (Fp (fun go x=>f111_116_l4 a b r12 q7_3 q7_7 go x.1 x.2) Fv ((0:Int),r12.2.2)) fun z13=>
 some ((0:Int),r12.2.1,z13)) (fun z5b=>
 some ((1:Int),[],[]))
def C111_116:Con:=⟨PTz10,Gl,0,fun x=>[.dat T3 x.1,.dat T3 x.2,.raw false [(.c (.func (.func 116) #[] #[]))]],NX,fun x=>f111_116 x.1 x.2,fun y=>[.raw true [(.osl 0),(.osl 1)],.dat T2 y.1],fun y=>[(0,.arr 3 T2 y.2.1),(1,.arr 42 T2 y.2.2)],2⟩
theorem V111_116 a b y (q:f111_116 a b=some y):VC Tryz.f111 C111_116 (a,b) y:=by
 unfold f111_116 at q
 refine OL ?_
 obtain ⟨z5,hz5,q⟩:=bE q
 let e0:LE:=fun zz=>(2,.raw false [(.c (.func (.func 116) #[] #[]))])::(3,P0 0 0)::(4,P0 1 0)::(6,P0 2 0)::zz
 let h1:LH:=fun zz=>(0,.cells [(.d T1 a.1),(.d T1 a.2)])::(1,.cells [(.d T1 b.1),(.d T1 b.2)])::(2,.cells [N0,N0])::zz
 refine OQ ⟨Sum.elim (fun z5a=>[(0,⟨e0 [],h1 [],3⟩)]) (fun z5b=>[(1,⟨[(6,P0 0 0),(7,D0 1)],[(0,.cells [N0,N0])],1⟩)]) z5,?_,?_⟩
 ·have q:=hz5
  clear hz5
  unfold f111_116_j2 at q
  obtain ⟨z8,hz8,q⟩:=bE q
  refine OQ ⟨[(0,⟨e0 [(22,.dat .bool z8)],h1 [],3⟩)],?_,?_⟩
  ·have q:=hz8
   clear hz8
   unfold f111_116_j3 at q
   obtain ⟨r9,h,q⟩:=bE q
   refine OL (cA H28 (a.1,a.2) h rfl (R2 (K0 (cN q (fun q=>?_) (fun q=>?_)))))
   ·refine gY ?_
    obtain ⟨r10,h,q⟩:=bE q
    refine OL (cA H28 (b.1,b.2) h rfl (R2 (K0 (gY (cF ?_)))))
    cases sE q
    refine E4 I3 (R2 (AI (R4 TV) (R3 TV)))
   refine gN (gN (cT ?_))
   cases sE q
   refine E4 I3 (R2 (AI (R4 TV) (R3 TV)))
  refine AI (cI q (fun q=>?_) (fun q=>?_)) TV
  ·refine OL (OL ?_)
   cases sE q
   refine E4 (iuR [3]) (R2 (AJ (AI rfl TV)))
  cases sE q
  refine E4 I3 (AI rfl (AI (R4 TV) (R3 TV)))
 rcases z5 with z5a | z5b
 ·dsimp only [Fz] at q
  refine AI (OL ?_) TV
  obtain ⟨r11,h,q⟩:=bE q
  refine OL (cA H114 (a.1,b.1) h rfl (R2 (K0 (OL (OL (cI q (fun q=>?_) (fun q=>?_)))))))
  ·refine OL (OL ?_)
   cases sE q
   refine AI rfl (E4 (iuR [0,0]) (R2 (AJ (R2 TV))))
  refine OL ?_
  obtain ⟨r12,h,q⟩:=bE q
  refine OL (cD H22 (r11.2,(0:Int)) h rfl (R2 (AI (fun _=>rfl) (R2 (AI TV (AI TV (OL (OL (EI (tU 0 3 (tU 4 3 (.alt 3 (.alt 7 (.take 8 (.take 9 .done)) .done) .done))) (EI [] (EI [] (AI rfl (AI TV ?_)))))))))))))
  obtain ⟨q7_3,h,q⟩:=bE q
  refine OL (cD H115 (a.1,r11.2) h rfl (R2 (AI (fun _=>rfl) (R2 (AI TV (AI TV (AI TV ?_)))))))
  obtain ⟨q7_7,h,q⟩:=bE q
  refine OL (cD H115 (b.1,r11.2) h rfl (R2 (AI (fun _=>rfl) (R2 (AI TV (AI TV (OL (OL ?_))))))))
  obtain ⟨z13,h,q⟩:=bE q
  refine lJ h (fun x=>⟨e0 [(10,P0 3 0),(12,O0 4),(13,O0 5),(51,.dat T2 (r12.2.2.length:Int)),(52,.dat T2 x.1)],h1 [(3,.cells [(.osl 6),(.osl 7)]),(4,.arr 3 T2 q7_3),(5,.arr 3 T2 q7_7),(6,.arr 3 T2 r12.2.1),(7,.arr 42 T2 x.2)],8⟩) (fun z=>[(2,⟨[(6,P0 0 0),(10,P0 1 0)],[(0,.cells [N0,N0]),(1,.cells [(.osl 2),(.osl 3)]),(2,.arr 3 T2 r12.2.1),(3,.arr 42 T2 z)],4⟩)]) (E4 (iuR [1,2,3,7,8,9,5,6]) (R3 (AI (R7 TV) (R8 TV)))) (fun m=>F6 (fun v52=>fun l7 z q=>?_)) ?_
  ·have q:f111_116_l4 a b r12 q7_3 q7_7 _ v52 l7=some z:=q
   unfold f111_116_l4 at q
   refine OL (OL (cI q (fun q=>?_) (fun q=>?_)))
   ·refine OL (OL (EI (tU 0 20 (.alt 20 (.take 21 (.alt 22 .done .done)) .done)) (EI [] (EI [] (AI rfl (gI q (fun q=>?_)))))))
    refine gI q (fun q=>?_)
    refine gI q (fun q=>?_)
    refine gI q (fun q=>?_)
    refine AI TV ?_
    obtain ⟨q11_20,h,q⟩:=bE q
    refine OL (cA H116 ((rd 0 a.2 (rd 0 q7_3 v52)),(rd 0 b.2 (rd 0 q7_7 v52))) h rfl (R2 (K0 (gI q (fun q=>?_)))))
    refine AI TV (OL (EI ((i64.wrap (v52+1)),(List.set l7 (Int.toNat v52) q11_20)) (AI q (E4 I8 (R3 (AI (R7 TV) (R8 TV)))))))
   cases sE q
   refine E4 (iuR [3,4,7,8]) (AI rfl (AI (R2 TV) (R4 TV)))
  refine AI (OL (OL ?_)) TV
  cases sE q
  refine AI rfl (E4 (iuR [3,4]) (R2 (AJ (R2 TV))))
 dsimp only [Fz] at q
 refine AI ?_ TV
 cases sE q
 refine AI rfl (E4 (iuR [0,0]) (R2 (AJ (R2 TV))))
theorem C111_116_holds:HP C111_116 111:=hH Tryz.f111 (by kernel_rfl) rfl (fun x y q=>V111_116 x.1 x.2 y q)
theorem f111_116_in : ∃ fn,Tryz.prog.funcs[111]? = some fn ∧ fn.body.isSome = true ∧ (fn.name == "runtime.NumGoroutine") = false := ⟨Tryz.f111,by kernel_rfl,by kernel_rfl,by kernel_rfl⟩
def f70 (a b:Fx):Option Gl:=
 Ey (f111_116 (a.1,a.2) (b.1,b.2)) fun r1=>
 some (r1.1,r1.2.1,r1.2.2)
def C70:Con:=⟨PTz10,Gl,0,fun x=>[.dat T3 x.1,.dat T3 x.2],NX,fun x=>f70 x.1 x.2,fun y=>[.raw true [(.osl 0),(.osl 1)],.dat T2 y.1],fun y=>[(0,.arr 3 T2 y.2.1),(1,.arr 42 T2 y.2.2)],2⟩
theorem V70 a b y (q:f70 a b=some y):VC Tryz.f70 C70 (a,b) y:=by
 unfold f70 at q
 refine OL (OL ?_)
 obtain ⟨r1,h,q⟩:=bE q
 refine OL (AI f111_116_in (cV (cQ C111_116 ((a.1,a.2),(b.1,b.2)) r1 [] false C111_116_holds h rfl rfl (R4 (AI NH (R2 (AJ (AI TV (OL ?_)))))))))
 cases sE q
 refine AI rfl (E4 (iuR [4,5]) (R2 (AJ (R2 TV))))
theorem H70:HI C70 70:=hI Tryz.f70 rfl fun x=>V70 x.1 x.2
def f117 (t:Fx):Option Bool:=
 some ((t.1.length:Int)==2)
def C117:Con:=⟨Fx,Bool,0,fun x=>[.dat T3 x],NX,fun x=>f117 x,fun y=>[.dat .bool y],NX,0⟩
theorem V117 t y (q:f117 t=some y):VC Tryz.f117 C117 t y:=by
 unfold f117 at q
 refine OL (OL ?_)
 cases sE q
 refine AI rfl (E4 [] (R2 (AI TV TV)))
theorem H117:HI C117 117:=hI Tryz.f117 rfl fun x=>V117 x
def f171_l1 (s:LI) (v:Int) (go:Int→Option (Sum Int Unit)) (v8:Int):Option (Sum Int Unit):=
 bif (decide (v8<s.length)) then
 E9 (0≤v8∧v8<s.length)<|
 bif (v==(rd 0 s v8)) then
 some (Sum.inl v8)
 else
 go (i64.wrap (v8+1))
 else
 some (Sum.inr ())
def f171 (s:LI) (v:Int):Option Int:=
 Ey (Fp (fun go x=>f171_l1 s v go x) Fv (0:Int)) fun z1=>
 Fz z1 (fun z1a=>
 some z1a) (fun z1b=>
 some (-1:Int))
def C171:Con:=⟨LI×Int,Int,0,fun x=>[.dat T1 x.1,.dat T2 x.2],NX,fun x=>f171 x.1 x.2,fun y=>[.dat T2 y],NX,0⟩
theorem V171 s v y (q:f171 s v=some y):VC Tryz.f171 C171 (s,v) y:=by
 unfold f171 at q
 refine OL (OL (OL ?_))
 obtain ⟨z1,h,q⟩:=bE q
 refine lJ h (fun x=>⟨[(0,.dat T1 s),(1,.dat T2 v),(7,.dat T2 (s.length:Int)),(8,.dat T2 x)],[],0⟩) (fun z=>Sum.elim (fun za=>[(1,⟨[(4,.dat T2 za)],[],0⟩)]) (fun zb=>[(2,⟨[],[],0⟩)]) z) (E4 [] (R5 (AI TV TV))) (fun m=>fun v8 z q=>?_) ?_
 ·have q:f171_l1 s v _ v8=some z:=q
  unfold f171_l1 at q
  refine OL (OL (cI q (fun q=>?_) (fun q=>?_)))
  ·refine OL (OL (OL (gI q (fun q=>?_))))
   refine cI q (fun q=>?_) (fun q=>?_)
   ·cases sE q
    refine OL (E4 [] (R2 (AI TV TV)))
   refine EI (i64.wrap (v8+1)) (AI q (E4 [] (R5 (AI TV TV))))
  cases sE q
  refine E4 [] (AI rfl (AI TV TV))
 rcases z1 with z1a | z1b
 ·dsimp only [Fz] at q
  refine AI ?_ TV
  cases sE q
  refine AI rfl (E4 [] (R2 (AI TV TV)))
 dsimp only [Fz] at q
 refine AI (OL ?_) TV
 cases sE q
 refine AI rfl (E4 [] (R2 (AI TV TV)))
theorem H171:HI C171 171:=hI Tryz.f171 rfl fun x=>V171 x.1 x.2
def f165 (s:LI) (v:Int):Option Bool:=
 Ey (f171 s v) fun r1=>
 some (decide (r1≥0))
def C165:Con:=⟨LI×Int,Bool,0,fun x=>[.dat T1 x.1,.dat T2 x.2],NX,fun x=>f165 x.1 x.2,fun y=>[.dat .bool y],NX,0⟩
theorem V165 s v y (q:f165 s v=some y):VC Tryz.f165 C165 (s,v) y:=by
 unfold f165 at q
 refine OL (OL ?_)
 obtain ⟨r1,h,q⟩:=bE q
 refine OL (cA H171 (s,v) h rfl (R2 (K0 ?_)))
 cases sE q
 refine AI rfl (E4 [] (R2 (AI TV TV)))
theorem H165:HI C165 165:=hI Tryz.f165 rfl fun x=>V165 x.1 x.2
def f152_l1 (order:LI) (n:Int) (go:Int→Option (Sum Unit Unit)) (v11:Int):Option (Sum Unit Unit):=
 bif (decide (v11<n)) then
 Ey (f165 order v11) fun r4=>
 bif (!r4) then
 some (Sum.inl ())
 else
 go (i64.wrap (v11+1))
 else
 some (Sum.inr ())
def f152 (order:LI) (n:Int):Option Bool:=
 bif ((order.length:Int) != n) then
 some false
 else
 Ey (Fp (fun go x=>f152_l1 order n go x) Fv (0:Int)) fun z3=>
 Fz z3 (fun z3a=>
 some false) (fun z3b=>
 some true)
def C152:Con:=⟨LI×Int,Bool,0,fun x=>[.dat T1 x.1,.dat T2 x.2],NX,fun x=>f152 x.1 x.2,fun y=>[.dat .bool y],NX,0⟩
theorem V152 order n y (q:f152 order n=some y):VC Tryz.f152 C152 (order,n) y:=by
 unfold f152 at q
 refine OL (OL (OL (cI q (fun q=>?_) (fun q=>?_))))
 ·cases sE q
  refine OL (AI rfl (E4 [] (R2 (AI TV TV))))
 refine OL (OL ?_)
 obtain ⟨z3,h,q⟩:=bE q
 refine lJ h (fun x=>⟨[(0,.dat T1 order),(10,.dat T2 n),(11,.dat T2 x)],[],0⟩) (fun z=>Sum.elim (fun za=>[(1,⟨[(4,.dat .bool false)],[],0⟩)]) (fun zb=>[(2,⟨[],[],0⟩)]) z) (E4 [] (R4 (AI TV TV))) (fun m=>fun v11 z q=>?_) ?_
 ·have q:f152_l1 order n _ v11=some z:=q
  unfold f152_l1 at q
  refine OL (OL (cI q (fun q=>?_) (fun q=>?_)))
  ·refine OL (OL (OL ?_))
   obtain ⟨r4,h,q⟩:=bE q
   refine OL (cA H165 (order,v11) h rfl (R2 (K0 (cI q (fun q=>?_) (fun q=>?_)))))
   ·cases sE q
    refine OL (E4 [] (R2 (AI TV TV)))
   refine EI (i64.wrap (v11+1)) (AI q (E4 [] (R4 (AI TV TV))))
  cases sE q
  refine E4 [] (AI rfl (AI TV TV))
 rcases z3 with z3a | z3b
 ·dsimp only [Fz] at q
  refine AI ?_ TV
  cases sE q
  refine AI rfl (E4 [] (R2 (AI TV TV)))
 dsimp only [Fz] at q
 refine AI (OL ?_) TV
 cases sE q
 refine AI rfl (E4 [] (R2 (AI TV TV)))
theorem H152:HI C152 152:=hI Tryz.f152 rfl fun x=>V152 x.1 x.2
def f119_j1 (d:LI) (at_:Int):Option (Sum Unit Unit):=
 bif (decide (at_<0)) then
 some (Sum.inr ())
 else
 Ey (f60 d) fun r3=>
 bif (decide (at_≥r3)) then
 some (Sum.inr ())
 else
 some (Sum.inl ())
def f119_l2 (d:LI) (go:(Int×Jv)→Option LI) (at__2 i:Int) (l0:LI):Option LI:=
 bif (decide (i≥0)) then
 E9 (0≤i∧i<d.length)<|
 E9 ((rd 0 d i)≠0)<|
 E9 (0≤i∧i<l0.length)<|
 E9 (0≤i∧i<d.length)<|
 E9 ((rd 0 d i)≠0)<|
 go ((i64.wrap (Int.tdiv at__2 (rd 0 d i))),(i64.wrap (i-1)),(List.set l0 (Int.toNat i) (Int.tmod at__2 (rd 0 d i))))
 else
 some l0
def f119 (d:LI) (at_:Int):Option (Bool×LI):=
 Ey (f119_j1 d at_) fun z2=>
 Fz z2 (fun z2a=>
 E9 (0≤(d.length:Int)∧(d.length:Int)≤d.length∧Int.toNat (d.length:Int)*8≤140737488355328)<|
 Ey (Fp (fun go x=>f119_l2 d go x.1 x.2.1 x.2.2) Fv (at_,(i64.wrap ((d.length:Int)-1)),(List.replicate (Int.toNat (d.length:Int)) (0:Int)))) fun z4=>
 some (true,z4)) (fun z2b=>
 some (false,[]))
def C119:Con:=⟨LI×Int,Bool×LI,0,fun x=>[.dat T1 x.1,.dat T2 x.2],NX,fun x=>f119 x.1 x.2,fun y=>[O0 0,.dat .bool y.1],fun y=>[(0,.arr 3 T2 y.2)],1⟩
theorem V119 d at_ y (q:f119 d at_=some y):VC Tryz.f119 C119 (d,at_) y:=by
 unfold f119 at q
 refine OL ?_
 obtain ⟨z2,hz2,q⟩:=bE q
 refine OQ ⟨Sum.elim (fun z2a=>[(0,⟨[(0,.dat T1 d),(1,.dat T2 at_)],[],0⟩)]) (fun z2b=>[(1,⟨[(4,.raw false [N0]),(5,.dat .bool false)],[],0⟩)]) z2,?_,?_⟩
 ·have q:=hz2
  clear hz2
  unfold f119_j1 at q
  refine OL (cN q (fun q=>?_) (fun q=>?_))
  ·refine gY (gY ?_)
   obtain ⟨r3,h,q⟩:=bE q
   refine OL (cA H60 d h rfl (AI rfl (K0 (gY (cF (cI q (fun q=>?_) (fun q=>?_)))))))
   ·cases sE q
    refine OL (E4 [] (R2 (AJ TV)))
   cases sE q
   refine E4 [] (R3 (AI TV TV))
  refine gN (gN (gN (cT (cT (OL ?_)))))
  cases sE q
  refine E4 [] (R2 (AJ TV))
 rcases z2 with z2a | z2b
 ·dsimp only [Fz] at q
  refine AI (OL (gI q (fun q=>?_))) TV
  refine OL (OL ?_)
  obtain ⟨z4,h,q⟩:=bE q
  refine lJ h (fun x=>⟨[(0,.dat T1 d),(1,.dat T2 x.1),(6,O0 0),(7,.dat T2 x.2.1)],[(0,.arr 3 T2 x.2.2)],1⟩) (fun z=>[(2,⟨[(6,O0 0)],[(0,.arr 3 T2 z)],1⟩)]) (E4 (iuR [1]) (R4 (AJ (AI rfl TV)))) (fun m=>F6 (fun at__2=>F6 (fun i=>fun l0 z q=>?_))) ?_
  ·have q:f119_l2 d _ at__2 i l0=some z:=q
   unfold f119_l2 at q
   refine OL (OL (cI q (fun q=>?_) (fun q=>?_)))
   ·refine OL (OL (gI q (fun q=>?_)))
    refine gI q (fun q=>?_)
    refine gI q (fun q=>?_)
    refine OL (gI q (fun q=>?_))
    refine gI q (fun q=>?_)
    refine EI ((i64.wrap (Int.tdiv at__2 (rd 0 d i))),(i64.wrap (i-1)),(List.set l0 (Int.toNat i) (Int.tmod at__2 (rd 0 d i)))) (AI q (E4 (iuR [1]) (R4 (AJ (AI rfl TV)))))
   cases sE q
   refine E4 (iuR [1]) (AI rfl (AJ (AI rfl TV)))
  refine AI (OL ?_) TV
  cases sE q
  refine AI rfl (E4 (iuR [1]) (R2 (AJ (AI rfl TV))))
 dsimp only [Fz] at q
 refine AI ?_ TV
 cases sE q
 refine AI rfl (E4 (iuR [0]) (R2 (AJ (AI rfl TV))))
theorem H119:HI C119 119:=hI Tryz.f119 rfl fun x=>V119 x.1 x.2
def f120_j1 (d place_:LI):Option (Sum Unit Unit):=
 Ey (f57 d) fun r3=>
 bif (!r3) then
 some (Sum.inr ())
 else
 bif ((place_.length:Int) != d.length) then
 some (Sum.inr ())
 else
 some (Sum.inl ())
def f120_j5 (d place_:LI) (v21:Int):Option (Sum Unit Unit):=
 bif (decide ((rd 0 place_ v21)<0)) then
 some (Sum.inr ())
 else
 E9 (0≤v21∧v21<d.length)<|
 bif (decide ((rd 0 place_ v21)≥(rd 0 d v21))) then
 some (Sum.inr ())
 else
 some (Sum.inl ())
def f120_l4 (d place_:LI) (go:Gm→Option (Sum Unit Int)) (at_ v21:Int):Option (Sum Unit Int):=
 bif (decide (v21<place_.length)) then
 E9 (0≤v21∧v21<place_.length)<|
 Ey (f120_j5 d place_ v21) fun z7=>
 Fz z7 (fun z7a=>
 E9 (0≤v21∧v21<d.length)<|
 go ((i64.wrap ((i64.wrap (at_*(rd 0 d v21)))+(rd 0 place_ v21))),(i64.wrap (v21+1)))) (fun z7b=>
 some (Sum.inl ()))
 else
 some (Sum.inr at_)
def f120 (d place_:LI):Option (Int×Bool):=
 Ey (f120_j1 d place_) fun z2=>
 Fz z2 (fun z2a=>
 Ey (Fp (fun go x=>f120_l4 d place_ go x.1 x.2) Fv ((0:Int),(0:Int))) fun z6=>
 Fz z6 (fun z6a=>
 some ((0:Int),false)) (fun z6b=>
 some (z6b,true))) (fun z2b=>
 some ((0:Int),false))
def C120:Con:=⟨Fx,Int×Bool,0,fun x=>[.dat T1 x.1,.dat T1 x.2],NX,fun x=>f120 x.1 x.2,fun y=>[.dat T2 y.1,.dat .bool y.2],NX,0⟩
theorem V120 d place_ y (q:f120 d place_=some y):VC Tryz.f120 C120 (d,place_) y:=by
 unfold f120 at q
 refine OL ?_
 obtain ⟨z2,hz2,q⟩:=bE q
 refine OQ ⟨Sum.elim (fun z2a=>[(0,⟨[(0,.dat T1 d),(1,.dat T1 place_)],[],0⟩)]) (fun z2b=>[(1,⟨[(4,D0 0),(5,.dat .bool false)],[],0⟩)]) z2,?_,?_⟩
 ·have q:=hz2
  clear hz2
  unfold f120_j1 at q
  refine OL ?_
  obtain ⟨r3,h,q⟩:=bE q
  refine OL (cA H57 d h rfl (AI rfl (K0 (cN q (fun q=>?_) (fun q=>?_)))))
  ·refine gY (gY (gY (gY (cF (cI q (fun q=>?_) (fun q=>?_))))))
   ·cases sE q
    refine OL (E4 [] (R3 (AI TV TV)))
   cases sE q
   refine E4 [] (R3 (AI TV TV))
  refine gN (gN (gN (gN (cT (cT (OL ?_))))))
  cases sE q
  refine E4 [] (R3 (AI TV TV))
 rcases z2 with z2a | z2b
 ·dsimp only [Fz] at q
  refine AI (OL (OL (OL ?_))) TV
  obtain ⟨z6,h,q⟩:=bE q
  refine lJ h (fun x=>⟨[(0,.dat T1 d),(6,.dat T2 x.1),(19,.dat T1 place_),(20,.dat T2 (place_.length:Int)),(21,.dat T2 x.2)],[],0⟩) (fun z=>Sum.elim (fun za=>[(1,⟨[(4,D0 0),(5,.dat .bool false)],[],0⟩)]) (fun zb=>[(2,⟨[(6,.dat T2 zb)],[],0⟩)]) z) (E4 [] (R6 (AI TV TV))) (fun m=>F6 (fun at_=>fun v21 z q=>?_)) ?_
  ·have q:f120_l4 d place_ _ at_ v21=some z:=q
   unfold f120_l4 at q
   refine OL (OL (cI q (fun q=>?_) (fun q=>?_)))
   ·refine OL (OL (gI q (fun q=>?_)))
    obtain ⟨z7,hz7,q⟩:=bE q
    refine OQ ⟨Sum.elim (fun z7a=>[(0,⟨[(0,.dat T1 d),(6,.dat T2 at_),(7,.dat T2 v21),(8,.dat T2 (rd 0 place_ v21)),(19,.dat T1 place_),(20,.dat T2 (place_.length:Int)),(21,.dat T2 v21)],[],0⟩)]) (fun z7b=>[(1,⟨[(4,D0 0),(5,.dat .bool false)],[],0⟩)]) z7,?_,?_⟩
    ·have q:=hz7
     clear hz7
     unfold f120_j5 at q
     refine OL (cN q (fun q=>?_) (fun q=>?_))
     ·refine gY (gY (gY (gI q (fun q=>?_))))
      refine gY (gY (cF (cI q (fun q=>?_) (fun q=>?_))))
      ·cases sE q
       refine OL (E4 [] (R3 (AI TV TV)))
      cases sE q
      refine E4 [] (R8 (AI TV TV))
     refine gN (gN (gN (gN (gN (cT (cT (OL ?_)))))))
     cases sE q
     refine E4 [] (R3 (AI TV TV))
    rcases z7 with z7a | z7b
    ·dsimp only [Fz] at q
     refine AI (gI q (fun q=>?_)) TV
     refine EI ((i64.wrap ((i64.wrap (at_*(rd 0 d v21)))+(rd 0 place_ v21))),(i64.wrap (v21+1))) (AI q (E4 [] (R6 (AI TV TV))))
    dsimp only [Fz] at q
    refine AI ?_ TV
    cases sE q
    refine E4 [] (R3 (AI TV TV))
   cases sE q
   refine E4 [] (R2 (AI TV TV))
  rcases z6 with z6a | z6b
  ·dsimp only [Fz] at q
   refine AI ?_ TV
   cases sE q
   refine AI rfl (E4 [] (R3 (AI TV TV)))
  dsimp only [Fz] at q
  refine AI (OL ?_) TV
  cases sE q
  refine AI rfl (E4 [] (R3 (AI TV TV)))
 dsimp only [Fz] at q
 refine AI ?_ TV
 cases sE q
 refine AI rfl (E4 [] (R3 (AI TV TV)))
theorem H120:HI C120 120:=hI Tryz.f120 rfl fun x=>V120 x.1 x.2
end Go.Proofs
