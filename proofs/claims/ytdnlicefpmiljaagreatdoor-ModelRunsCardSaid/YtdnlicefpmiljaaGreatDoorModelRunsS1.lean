import Derived.Test.YtdnlicefpmiljaaGreatDoorModelRunsS0
set_option linter.unusedVariables false
set_option maxRecDepth 100000
set_option maxHeartbeats 8000000
namespace Go.Proofs
open Go.AM
open IntKind (i64 u64 i32 u32 i16 u16 i8 u8)
def f197 (x_ y_:Int):Option F9:=
 some ((u64.wrap ((u64.wrap ((u64.wrap ((Int.fdiv x_ (2 ^ min (Int.toNat (32:Int)) u64.bits))*(Int.fdiv y_ (2 ^ min (Int.toNat (32:Int)) u64.bits))))+(Int.fdiv (u64.wrap ((u64.wrap ((Int.fdiv x_ (2 ^ min (Int.toNat (32:Int)) u64.bits))*(Ft IntKind.u64 (fun p q=>p&&& q) y_ (4294967295:Int))))+(Int.fdiv (u64.wrap ((Ft IntKind.u64 (fun p q=>p&&& q) x_ (4294967295:Int))*(Ft IntKind.u64 (fun p q=>p&&& q) y_ (4294967295:Int)))) (2 ^ min (Int.toNat (32:Int)) u64.bits)))) (2 ^ min (Int.toNat (32:Int)) u64.bits))))+(Int.fdiv (u64.wrap ((Ft IntKind.u64 (fun p q=>p&&& q) (u64.wrap ((u64.wrap ((Int.fdiv x_ (2 ^ min (Int.toNat (32:Int)) u64.bits))*(Ft IntKind.u64 (fun p q=>p&&& q) y_ (4294967295:Int))))+(Int.fdiv (u64.wrap ((Ft IntKind.u64 (fun p q=>p&&& q) x_ (4294967295:Int))*(Ft IntKind.u64 (fun p q=>p&&& q) y_ (4294967295:Int)))) (2 ^ min (Int.toNat (32:Int)) u64.bits)))) (4294967295:Int))+(u64.wrap ((Ft IntKind.u64 (fun p q=>p&&& q) x_ (4294967295:Int))*(Int.fdiv y_ (2 ^ min (Int.toNat (32:Int)) u64.bits)))))) (2 ^ min (Int.toNat (32:Int)) u64.bits)))),(u64.wrap (x_*y_)))
def C197:Con:=⟨F9,F9,0,fun x=>[.dat T10 x.1,.dat T10 x.2],NX,fun x=>f197 x.1 x.2,fun y=>[.dat T10 y.1,.dat T10 y.2],NX,0⟩
theorem V197 x_ y_ y (q:f197 x_ y_=some y):VC Tryz.f197 C197 (x_,y_) y:=by
 unfold f197 at q
 refine OL (OL (OL (AI (by decide) (OL (OL (AI (by decide) (OL (OL (AI (by decide) (OL (OL (AI (by decide) (OL (OL (AI (by decide) (OL ?_))))))))))))))))
 cases sE q
 refine AI rfl (E4 [] (R3 (AI TV TV)))
theorem H197:HI C197 197:=hI Tryz.f197 rfl fun x=>V197 x.1 x.2
def f223 (x_ y_:Int):Option F9:=
 Ey (f197 x_ y_) fun r1=>
 some (r1.1,r1.2)
def C223:Con:=⟨F9,F9,0,fun x=>[.dat T10 x.1,.dat T10 x.2],NX,fun x=>f223 x.1 x.2,fun y=>[.dat T10 y.1,.dat T10 y.2],NX,0⟩
theorem V223 x_ y_ y (q:f223 x_ y_=some y):VC Tryz.f223 C223 (x_,y_) y:=by
 unfold f223 at q
 refine OL (OL (cF (OL ?_)))
 obtain ⟨r1,h,q⟩:=bE q
 refine OL (cA H197 (x_,y_) h rfl (R2 (K0 (OL ?_))))
 cases sE q
 refine AI rfl (E4 [] (R3 (AI TV TV)))
theorem H223:HI C223 223:=hI Tryz.f223 rfl fun x=>V223 x.1 x.2
def f201_j1 (r1:F9):Option Unit:=
 bif (decide (r1.1>0)) then
 none
 else
 bif (decide (r1.2>9223372036854775807)) then
 none
 else
 some ()
def f201_l2 (go:K4→Option LI) (n:Int) (l0:LI):Option LI:=
 bif (decide (n<l0.length)) then
 E9 (0≤n∧n≤l0.length)<|
 E9 (0≤n∧n≤l0.length)<|
 go ((i64.wrap (n+(List.length (List.take (Int.toNat (l0.length:Int)-Int.toNat n) (List.drop (Int.toNat (0:Int)) (List.take (Int.toNat n) l0))):Int))),(over l0 n (List.take (Int.toNat (l0.length:Int)-Int.toNat n) (List.drop (Int.toNat (0:Int)) (List.take (Int.toNat n) l0)))))
 else
 some l0
def f201 (x_:LI) (count:Int):Option LI:=
 bif (decide (count<0)) then
 none
 else
 Ey (f223 (u64.wrap (x_.length:Int)) (u64.wrap count)) fun r1=>
 Ey (f201_j1 r1) fun z2=>
 E9 (0≤(i64.wrap r1.2)∧(i64.wrap r1.2)≤(i64.wrap r1.2)∧Int.toNat (i64.wrap r1.2)*8≤140737488355328)<|
 Ey (Fq (fun go x=>f201_l2 go x.1 x.2) Fv ((List.length (List.take (Int.toNat (List.length (List.replicate (Int.toNat (i64.wrap r1.2)) (0:Int)):Int)-Int.toNat (0:Int)) x_):Int),(over (List.replicate (Int.toNat (i64.wrap r1.2)) (0:Int)) (0:Int) (List.take (Int.toNat (List.length (List.replicate (Int.toNat (i64.wrap r1.2)) (0:Int)):Int)-Int.toNat (0:Int)) x_)))) fun z3=>
 some z3
def C201:Con:=⟨LI×Int,LI,0,fun x=>[.dat T6 x.1,.dat T1 x.2],NX,fun x=>f201 x.1 x.2,fun y=>[O0 0],fun y=>[(0,.arr 57 T1 y)],1⟩
theorem V201 x_ count y (q:f201 x_ count=some y):VC Tryz.f201 C201 (x_,count) y:=by
 unfold f201 at q
 refine OL (OL (OL (cI q (fun q=>?_) (fun q=>?_))))
 ·exact nomatch q
 refine OL ?_
 obtain ⟨r1,h,q⟩:=bE q
 refine OL (cA H223 ((u64.wrap (x_.length:Int)),(u64.wrap count)) h rfl (R2 (K0 ?_)))
 obtain ⟨z2,hz2,q⟩:=bE q
 refine OQ ⟨[(0,⟨[(0,.dat T6 x_),(6,.dat T10 r1.2)],[],0⟩)],?_,?_⟩
 ·have q:=hz2
  clear hz2
  unfold f201_j1 at q
  refine OL (cN q (fun q=>?_) (fun q=>?_))
  ·refine gY (cF (cI q (fun q=>?_) (fun q=>?_)))
   ·exact nomatch q
   cases sE q
   refine E4 [] (R3 (AI TV TV))
  refine gN (cT (cT ?_))
  exact nomatch q
 refine AI (OL (gI q (fun q=>?_))) TV
 refine OL (OL ?_)
 obtain ⟨z3,h,q⟩:=bE q
 refine lJ h (fun x=>⟨[(7,O0 0),(8,.dat T1 x.1)],[(0,.arr 57 T1 x.2)],1⟩) (fun z=>[(2,⟨[(7,O0 0)],[(0,.arr 57 T1 z)],1⟩)]) (E4 (iuR [1]) (R2 (AJ (AI rfl TV)))) (fun m=>F3 (fun n=>fun l0 z q=>?_)) ?_
 ·have q:f201_l2 _ n l0=some z:=q
  unfold f201_l2 at q
  refine OL (OL (cI q (fun q=>?_) (fun q=>?_)))
  ·refine EI (tU 0 7 (.alt 7 (.take 8 (.take 9 .done)) .done)) (EI [] (EI [] (AI rfl (gI q (fun q=>?_)))))
   refine gI q (fun q=>?_)
   refine AI TV (EI ((i64.wrap (n+(List.length (List.take (Int.toNat (l0.length:Int)-Int.toNat n) (List.drop (Int.toNat (0:Int)) (List.take (Int.toNat n) l0))):Int))),(over l0 n (List.take (Int.toNat (l0.length:Int)-Int.toNat n) (List.drop (Int.toNat (0:Int)) (List.take (Int.toNat n) l0))))) (AI q (E4 (iuR [1]) (R2 (AJ (AI rfl TV))))))
  cases sE q
  refine E4 (iuR [1]) (AI rfl (AJ (AI rfl TV)))
 refine AI (OL ?_) TV
 cases sE q
 refine AI rfl (E4 (iuR [1]) (AI rfl (AJ (AI rfl TV))))
theorem H201:HI C201 201:=hI Tryz.f201 rfl fun x=>V201 x.1 x.2
def f171 (d:LI) (v:Int):Option Gz:=
 Ey (f65 d) fun r1=>
 bif (!r1) then
 some ((1:Int),[],[])
 else
 Ey (f61 d) fun r2=>
 Ey (f117 d) fun r3=>
 Ey (f201 ([v]) r3) fun r4=>
 some ((0:Int),r2,r4)
def C171:Con:=⟨LI×Int,Gz,0,fun x=>[.dat T6 x.1,.dat T1 x.2],NX,fun x=>f171 x.1 x.2,fun y=>[.raw true [(.osl 0),(.osl 1)],.dat T1 y.1],fun y=>[(0,.arr 3 T1 y.2.1),(1,.arr 57 T1 y.2.2)],2⟩
theorem V171 d v y (q:f171 d v=some y):VC Tryz.f171 C171 (d,v) y:=by
 unfold f171 at q
 refine OL (OL (OL ?_))
 obtain ⟨r1,h,q⟩:=bE q
 refine OL (cA H65 d h rfl (AI rfl (K0 (cI q (fun q=>?_) (fun q=>?_)))))
 ·refine OL (OL ?_)
  cases sE q
  refine AI rfl (E4 (iuR [0,0]) (R2 (AJ (R2 TV))))
 refine OL ?_
 obtain ⟨r2,h,q⟩:=bE q
 refine OL (cA H61 d h rfl (AI rfl (K0 (OL ?_))))
 obtain ⟨r3,h,q⟩:=bE q
 refine OL (cA H117 d h rfl (AI rfl (K0 ?_)))
 obtain ⟨r4,h,q⟩:=bE q
 refine OL (cD H201 ([v],r3) h rfl (R2 (AI (fun _=>rfl) (R2 (AI TV (AI TV (OL ?_)))))))
 cases sE q
 refine AI rfl (E4 (iuR [2,4]) (R2 (AJ (R2 TV))))
theorem H171:HI C171 171:=hI Tryz.f171 rfl fun x=>V171 x.1 x.2
def f179_l1 (d:LI) (go:(Int×K4)→Option LI) (n i:Int) (l0:LI):Option LI:=
 bif (decide (i≥0)) then
 E9 (0≤i∧i<l0.length)<|
 E9 (0≤i∧i<d.length)<|
 go ((i64.wrap (n*(rd 0 d i))),(i64.wrap (i-1)),(List.set l0 (Int.toNat i) n))
 else
 some l0
def f179 (d:LI):Option LI:=
 Ey (f65 d) fun r1=>
 bif (!r1) then
 some ([])
 else
 E9 (0≤(d.length:Int)∧(d.length:Int)≤d.length∧Int.toNat (d.length:Int)*8≤140737488355328)<|
 Ey (Fq (fun go x=>f179_l1 d go x.1 x.2.1 x.2.2) Fv ((1:Int),(i64.wrap ((d.length:Int)-1)),(List.replicate (Int.toNat (d.length:Int)) (0:Int)))) fun z2=>
 some z2
def C179:Con:=⟨LI,LI,0,fun x=>[.dat T6 x],NX,fun x=>f179 x,fun y=>[O0 0],fun y=>[(0,.arr 3 T1 y)],1⟩
theorem V179 d y (q:f179 d=some y):VC Tryz.f179 C179 d y:=by
 unfold f179 at q
 refine OL (OL (OL ?_))
 obtain ⟨r1,h,q⟩:=bE q
 refine OL (cA H65 d h rfl (AI rfl (K0 (cI q (fun q=>?_) (fun q=>?_)))))
 ·cases sE q
  refine OL (AI rfl (E4 (iuR [0]) (AI rfl (AJ (AI rfl TV)))))
 refine OL (gI q (fun q=>?_))
 refine OL (OL (OL ?_))
 obtain ⟨z2,h,q⟩:=bE q
 refine lJ h (fun x=>⟨[(0,.dat T6 d),(3,O0 0),(4,.dat T1 x.1),(5,.dat T1 x.2.1)],[(0,.arr 3 T1 x.2.2)],1⟩) (fun z=>[(2,⟨[(3,O0 0)],[(0,.arr 3 T1 z)],1⟩)]) (E4 (iuR [1]) (R4 (AJ (AI rfl TV)))) (fun m=>F3 (fun n=>F3 (fun i=>fun l0 z q=>?_))) ?_
 ·have q:f179_l1 d _ n i l0=some z:=q
  unfold f179_l1 at q
  refine OL (OL (cI q (fun q=>?_) (fun q=>?_)))
  ·refine OL (OL (gI q (fun q=>?_)))
   refine OL (gI q (fun q=>?_))
   refine EI ((i64.wrap (n*(rd 0 d i))),(i64.wrap (i-1)),(List.set l0 (Int.toNat i) n)) (AI q (E4 (iuR [1]) (R4 (AJ (AI rfl TV)))))
  cases sE q
  refine E4 (iuR [1]) (AI rfl (AJ (AI rfl TV)))
 refine AI (OL ?_) TV
 cases sE q
 refine AI rfl (E4 (iuR [1]) (AI rfl (AJ (AI rfl TV))))
theorem H179:HI C179 179:=hI Tryz.f179 rfl fun x=>V179 x
def f196_j13 (d big q11_19:LI) (v23 rest i:Int) (l1_2:LI):Option LI:=
 E9 (0≤(i64.wrap (i-(i64.wrap ((big.length:Int)-d.length))))∧(i64.wrap (i-(i64.wrap ((big.length:Int)-d.length))))<d.length)<|
 bif (decide ((rd 0 d (i64.wrap (i-(i64.wrap ((big.length:Int)-d.length)))))>1)) then
 E9 (0≤v23∧v23<l1_2.length)<|
 E9 (0≤i∧i<big.length)<|
 E9 ((rd 0 big i)≠0)<|
 E9 (0≤(i64.wrap (i-(i64.wrap ((big.length:Int)-d.length))))∧(i64.wrap (i-(i64.wrap ((big.length:Int)-d.length))))<q11_19.length)<|
 E9 (0≤v23∧v23<l1_2.length)<|
 some (List.set l1_2 (Int.toNat v23) (i64.wrap ((rd 0 l1_2 v23)+(i64.wrap ((Int.tmod rest (rd 0 big i))*(rd 0 q11_19 (i64.wrap (i-(i64.wrap ((big.length:Int)-d.length))))))))))
 else
 some l1_2
def f196_l12 (d big q11_19:LI) (v23:Int) (go:(Int×K4)→Option LI) (rest i:Int) (l1_2:LI):Option LI:=
 bif (decide (i≥(i64.wrap ((big.length:Int)-d.length)))) then
 Ey (f196_j13 d big q11_19 v23 rest i l1_2) fun z14=>
 E9 (0≤i∧i<big.length)<|
 E9 ((rd 0 big i)≠0)<|
 go ((i64.wrap (Int.tdiv rest (rd 0 big i))),(i64.wrap (i-1)),z14)
 else
 some l1_2
def f196_l9 (d big q11_19:LI) (r1:Int) (go:K4→Option LI) (v23:Int) (l1:LI):Option LI:=
 bif (decide (v23<(List.length (List.replicate (Int.toNat r1) (0:Int)):Int))) then
 Ey (Fq (fun go x=>f196_l12 d big q11_19 v23 go x.1 x.2.1 x.2.2) Fv (v23,(i64.wrap ((big.length:Int)-1)),l1)) fun z13=>
 go ((i64.wrap (v23+1)),z13)
 else
 some l1
def f196 (d big:LI):Option LI:=
 Ey (f179 d) fun q11_19=>
 Ey (f117 big) fun r1=>
 E9 (0≤r1∧r1≤r1∧Int.toNat r1*8≤140737488355328)<|
 Ey (Fq (fun go x=>f196_l9 d big q11_19 r1 go x.1 x.2) Fv ((0:Int),(List.replicate (Int.toNat r1) (0:Int)))) fun z10=>
 some z10
def C196:Con:=⟨Fy,LI,0,fun x=>[.dat T6 x.1,.dat T6 x.2],NX,fun x=>f196 x.1 x.2,fun y=>[O0 0],fun y=>[(0,.arr 3 T1 y)],1⟩
theorem V196 d big y (q:f196 d big=some y):VC Tryz.f196 C196 (d,big) y:=by
 unfold f196 at q
 refine OL (OL ?_)
 obtain ⟨q11_19,h,q⟩:=bE q
 refine OL (cA H179 d h rfl (AI rfl (K0 (OL ?_))))
 obtain ⟨r1,h,q⟩:=bE q
 refine OL (cA H117 big h rfl (AI rfl (K0 (gI q (fun q=>?_)))))
 refine OL (OL ?_)
 obtain ⟨z10,hz10,q⟩:=bE q
 let e0:LE:=fun zz=>(0,.dat T6 d)::(1,.dat T6 big)::(5,O0 0)::(6,.dat T1 (i64.wrap ((big.length:Int)-d.length)))::(7,O0 1)::zz
 let e1:LE:=fun zz=>e0 ((22,.dat T1 (List.length (List.replicate (Int.toNat r1) (0:Int)):Int))::zz)
 refine lJ hz10 (fun x=>⟨e1 [(23,.dat T1 x.1)],[(0,.arr 3 T1 q11_19),(1,.arr 3 T1 x.2)],2⟩) (fun z=>[(2,⟨[(7,O0 0)],[(0,.arr 3 T1 z)],1⟩)]) (E4 I2 (R6 (AI (R2 TV) (R2 TV)))) (fun m=>F3 (fun v23=>fun l1 z q=>?_)) ?_
 ·have q:f196_l9 d big q11_19 r1 _ v23 l1=some z:=q
  unfold f196_l9 at q
  refine OL (OL (cI q (fun q=>?_) (fun q=>?_)))
  ·refine OL (OL (OL (OL ?_)))
   obtain ⟨z13,h,q⟩:=bE q
   refine lJ h (fun x=>⟨e0 [(8,.dat T1 v23),(9,.dat T1 x.1),(10,.dat T1 x.2.1),(22,.dat T1 (List.length (List.replicate (Int.toNat r1) (0:Int)):Int)),(23,.dat T1 v23)],[(0,.arr 3 T1 q11_19),(1,.arr 3 T1 x.2.2)],2⟩) (fun z=>[(4,⟨e1 [(23,.dat T1 v23)],[(0,.arr 3 T1 q11_19),(1,.arr 3 T1 z)],2⟩)]) (E4 I2 (R9 (AI (R2 TV) (R2 TV)))) (fun m=>F3 (fun rest=>F3 (fun i=>fun l1_2 z q=>?_))) ?_
   ·have q:f196_l12 d big q11_19 v23 _ rest i l1_2=some z:=q
    unfold f196_l12 at q
    refine OL (OL (cI q (fun q=>?_) (fun q=>?_)))
    ·refine OL ?_
     obtain ⟨z14,hz14,q⟩:=bE q
     refine OQ ⟨[(0,⟨e0 [(8,.dat T1 v23),(9,.dat T1 rest),(10,.dat T1 i),(22,.dat T1 (List.length (List.replicate (Int.toNat r1) (0:Int)):Int)),(23,.dat T1 v23)],[(0,.arr 3 T1 q11_19),(1,.arr 3 T1 z14)],2⟩)],?_,?_⟩
     ·have q:=hz14
      clear hz14
      unfold f196_j13 at q
      refine OL (gI q (fun q=>?_))
      refine cI q (fun q=>?_) (fun q=>?_)
      ·refine EI (tU 0 19 (.alt 19 .done .done)) (EI [(19,[1])] (EI [] (AI rfl (gI q (fun q=>?_)))))
       refine gI q (fun q=>?_)
       refine gI q (fun q=>?_)
       refine gI q (fun q=>?_)
       refine gI q (fun q=>?_)
       refine AI TV (OL ?_)
       cases sE q
       refine E4 I2 (R9 (AI (R2 TV) (R2 TV)))
      cases sE q
      refine E4 I2 (R9 (AI (R2 TV) (R2 TV)))
     refine AI (gI q (fun q=>?_)) TV
     refine gI q (fun q=>?_)
     refine EI ((i64.wrap (Int.tdiv rest (rd 0 big i))),(i64.wrap (i-1)),z14) (AI q (E4 I2 (R9 (AI (R2 TV) (R2 TV)))))
    cases sE q
    refine E4 I2 (R6 (AI (R2 TV) (R2 TV)))
   refine AI (EI ((i64.wrap (v23+1)),z13) (AI q (E4 I2 (R6 (AI (R2 TV) (R2 TV)))))) TV
  cases sE q
  refine E4 (iuR [2]) (AI rfl (AJ (AI rfl TV)))
 refine AI (OL ?_) TV
 cases sE q
 refine AI rfl (E4 (iuR [1]) (AI rfl (AJ (AI rfl TV))))
theorem H196:HI C196 196:=hI Tryz.f196 rfl fun x=>V196 x.1 x.2
def f167_j1 (a b:Int):Option (Sum Unit Unit):=
 bif (!((decide (a<0))==(decide (b<0)))) then
 some (Sum.inr ())
 else
 bif ((decide ((i64.wrap (a+b))<0))==(decide (a<0))) then
 some (Sum.inr ())
 else
 some (Sum.inl ())
def f167 (a b:Int):Option Int:=
 Ey (f167_j1 a b) fun z1=>
 Fx z1 (fun z1a=>
 bif (decide (a<0)) then
 some (-9223372036854775808:Int)
 else
 some (9223372036854775807:Int)) (fun z1b=>
 some (i64.wrap (a+b)))
def C167:Con:=⟨F9,Int,0,fun x=>[.dat T1 x.1,.dat T1 x.2],NX,fun x=>f167 x.1 x.2,fun y=>[.dat T1 y],NX,0⟩
theorem V167 a b y (q:f167 a b=some y):VC Tryz.f167 C167 (a,b) y:=by
 unfold f167 at q
 refine OL (OL ?_)
 obtain ⟨z1,hz1,q⟩:=bE q
 refine OQ ⟨Sum.elim (fun z1a=>[(0,⟨[(0,.dat T1 a)],[],0⟩)]) (fun z1b=>[(1,⟨[(4,.dat T1 (i64.wrap (a+b)))],[],0⟩)]) z1,?_,?_⟩
 ·have q:=hz1
  clear hz1
  unfold f167_j1 at q
  refine OL (cN q (fun q=>?_) (fun q=>?_))
  ·refine gY (gY (gY (gY (cF (cI q (fun q=>?_) (fun q=>?_))))))
   ·cases sE q
    refine OL (E4 [] (R2 (AI TV TV)))
   cases sE q
   refine E4 [] (R2 (AI TV TV))
  refine gN (gN (gN (gN (cT (cT (OL ?_))))))
  cases sE q
  refine E4 [] (R2 (AI TV TV))
 rcases z1 with z1a | z1b
 ·dsimp only [Fx] at q
  refine AI (OL (OL (cI q (fun q=>?_) (fun q=>?_)))) TV
  ·cases sE q
   refine OL (AI rfl (E4 [] (R2 (AI TV TV))))
  cases sE q
  refine OL (AI rfl (E4 [] (R2 (AI TV TV))))
 dsimp only [Fx] at q
 refine AI ?_ TV
 cases sE q
 refine AI rfl (E4 [] (R2 (AI TV TV)))
theorem H167:HI C167 167:=hI Tryz.f167 rfl fun x=>V167 x.1 x.2
def f166_167_j3 (a b:Fy):Option Bool:=
 Ey (f91 (a.1,a.2)) fun r9=>
 bif (!r9) then
 some true
 else
 Ey (f91 (b.1,b.2)) fun r10=>
 some (!r10)
def f166_167_j2 (a b:Fy):Option (Sum Unit Unit):=
 Ey (f166_167_j3 a b) fun z8=>
 bif z8 then
 some (Sum.inr ())
 else
 some (Sum.inl ())
def f166_167_l4 (a b:Fy) (r12:Gz) (q7_3 q7_7:LI) (go:K4→Option LI) (v52:Int) (l7:LI):Option LI:=
 bif (decide (v52<r12.2.2.length)) then
 E9 (0≤v52∧v52<q7_3.length)<|
 E9 (0≤(rd 0 q7_3 v52)∧(rd 0 q7_3 v52)<a.2.length)<|
 E9 (0≤v52∧v52<q7_7.length)<|
 E9 (0≤(rd 0 q7_7 v52)∧(rd 0 q7_7 v52)<b.2.length)<|
 Ey (f167 (rd 0 a.2 (rd 0 q7_3 v52)) (rd 0 b.2 (rd 0 q7_7 v52))) fun q11_20=>
 E9 (0≤v52∧v52<l7.length)<|
 go ((i64.wrap (v52+1)),(List.set l7 (Int.toNat v52) q11_20))
 else
 some l7
def f166_167 (a b:Fy):Option Gz:=
 Ey (f166_167_j2 a b) fun z5=>
 Fx z5 (fun z5a=>
 Ey (f195 a.1 b.1) fun r11=>
 bif (r11.1 != 0) then
 some (r11.1,[],[])
 else
 Ey (f171 r11.2 (0:Int)) fun r12=>
 Ey (f196 a.1 r11.2) fun q7_3=>
 Ey (f196 b.1 r11.2) fun q7_7=>
 Ey (Fq (fun go x=>f166_167_l4 a b r12 q7_3 q7_7 go x.1 x.2) Fv ((0:Int),r12.2.2)) fun z13=>
 some ((0:Int),r12.2.1,z13)) (fun z5b=>
 some ((1:Int),[],[]))
def C166_167:Con:=⟨Fy×Fy,Gz,0,fun x=>[.dat T9 x.1,.dat T9 x.2,.raw false [(.c (.func (.func 167) #[] #[]))]],NX,fun x=>f166_167 x.1 x.2,fun y=>[.raw true [(.osl 0),(.osl 1)],.dat T1 y.1],fun y=>[(0,.arr 3 T1 y.2.1),(1,.arr 57 T1 y.2.2)],2⟩
theorem V166_167 a b y (q:f166_167 a b=some y):VC Tryz.f166 C166_167 (a,b) y:=by
 unfold f166_167 at q
 refine OL ?_
 obtain ⟨z5,hz5,q⟩:=bE q
 let e0:LE:=fun zz=>(2,.raw false [(.c (.func (.func 167) #[] #[]))])::(3,P0 0 0)::(4,P0 1 0)::(6,P0 2 0)::zz
 let h1:LH:=fun zz=>(0,.cells [(.d T6 a.1),(.d T6 a.2)])::(1,.cells [(.d T6 b.1),(.d T6 b.2)])::(2,.cells [N0,N0])::zz
 refine OQ ⟨Sum.elim (fun z5a=>[(0,⟨e0 [],h1 [],3⟩)]) (fun z5b=>[(1,⟨[(6,P0 0 0),(7,D0 1)],[(0,.cells [N0,N0])],1⟩)]) z5,?_,?_⟩
 ·have q:=hz5
  clear hz5
  unfold f166_167_j2 at q
  obtain ⟨z8,hz8,q⟩:=bE q
  refine OQ ⟨[(0,⟨e0 [(22,.dat .bool z8)],h1 [],3⟩)],?_,?_⟩
  ·have q:=hz8
   clear hz8
   unfold f166_167_j3 at q
   obtain ⟨r9,h,q⟩:=bE q
   refine OL (cA H91 (a.1,a.2) h rfl (R2 (K0 (cN q (fun q=>?_) (fun q=>?_)))))
   ·refine gY ?_
    obtain ⟨r10,h,q⟩:=bE q
    refine OL (cA H91 (b.1,b.2) h rfl (R2 (K0 (gY (cF ?_)))))
    cases sE q
    refine E4 I3 (R2 (AI (R4 TV) (R3 TV)))
   refine gN (gN (cT ?_))
   cases sE q
   refine E4 I3 (R2 (AI (R4 TV) (R3 TV)))
  refine AI (cI q (fun q=>?_) (fun q=>?_)) TV
  ·refine OL (OL ?_)
   cases sE q
   refine E4 (iuR [3]) (R2 (AJ (AI rfl TV)))
  cases sE q
  refine E4 I3 (AI rfl (AI (R4 TV) (R3 TV)))
 rcases z5 with z5a | z5b
 ·dsimp only [Fx] at q
  refine AI (OL ?_) TV
  obtain ⟨r11,h,q⟩:=bE q
  refine OL (cA H195 (a.1,b.1) h rfl (R2 (K0 (OL (OL (cI q (fun q=>?_) (fun q=>?_)))))))
  ·refine OL (OL ?_)
   cases sE q
   refine AI rfl (E4 (iuR [0,0]) (R2 (AJ (R2 TV))))
  refine OL ?_
  obtain ⟨r12,h,q⟩:=bE q
  refine OL (cD H171 (r11.2,(0:Int)) h rfl (R2 (AI (fun _=>rfl) (R2 (AI TV (AI TV (OL (OL (EI (tU 0 3 (tU 4 3 (.alt 3 (.alt 7 (.take 8 (.take 9 .done)) .done) .done))) (EI [] (EI [] (AI rfl (AI TV ?_)))))))))))))
  obtain ⟨q7_3,h,q⟩:=bE q
  refine OL (cD H196 (a.1,r11.2) h rfl (R2 (AI (fun _=>rfl) (R2 (AI TV (AI TV (AI TV ?_)))))))
  obtain ⟨q7_7,h,q⟩:=bE q
  refine OL (cD H196 (b.1,r11.2) h rfl (R2 (AI (fun _=>rfl) (R2 (AI TV (AI TV (OL (OL ?_))))))))
  obtain ⟨z13,h,q⟩:=bE q
  refine lJ h (fun x=>⟨e0 [(10,P0 3 0),(12,O0 4),(13,O0 5),(51,.dat T1 (r12.2.2.length:Int)),(52,.dat T1 x.1)],h1 [(3,.cells [(.osl 6),(.osl 7)]),(4,.arr 3 T1 q7_3),(5,.arr 3 T1 q7_7),(6,.arr 3 T1 r12.2.1),(7,.arr 57 T1 x.2)],8⟩) (fun z=>[(2,⟨[(6,P0 0 0),(10,P0 1 0)],[(0,.cells [N0,N0]),(1,.cells [(.osl 2),(.osl 3)]),(2,.arr 3 T1 r12.2.1),(3,.arr 57 T1 z)],4⟩)]) (E4 (iuR [1,2,3,7,8,9,5,6]) (R3 (AI (R7 TV) (R8 TV)))) (fun m=>F3 (fun v52=>fun l7 z q=>?_)) ?_
  ·have q:f166_167_l4 a b r12 q7_3 q7_7 _ v52 l7=some z:=q
   unfold f166_167_l4 at q
   refine OL (OL (cI q (fun q=>?_) (fun q=>?_)))
   ·refine OL (OL (EI (tU 0 20 (.alt 20 (.take 21 (.alt 22 .done .done)) .done)) (EI [] (EI [] (AI rfl (gI q (fun q=>?_)))))))
    refine gI q (fun q=>?_)
    refine gI q (fun q=>?_)
    refine gI q (fun q=>?_)
    refine AI TV ?_
    obtain ⟨q11_20,h,q⟩:=bE q
    refine OL (cA H167 ((rd 0 a.2 (rd 0 q7_3 v52)),(rd 0 b.2 (rd 0 q7_7 v52))) h rfl (R2 (K0 (gI q (fun q=>?_)))))
    refine AI TV (OL (EI ((i64.wrap (v52+1)),(List.set l7 (Int.toNat v52) q11_20)) (AI q (E4 I8 (R3 (AI (R7 TV) (R8 TV)))))))
   cases sE q
   refine E4 (iuR [3,4,7,8]) (AI rfl (AI (R2 TV) (R4 TV)))
  refine AI (OL (OL ?_)) TV
  cases sE q
  refine AI rfl (E4 (iuR [3,4]) (R2 (AJ (R2 TV))))
 dsimp only [Fx] at q
 refine AI ?_ TV
 cases sE q
 refine AI rfl (E4 (iuR [0,0]) (R2 (AJ (R2 TV))))
theorem C166_167_holds:HP C166_167 166:=hH Tryz.f166 (by kernel_rfl) rfl (fun x y q=>V166_167 x.1 x.2 y q)
theorem f166_167_in : ∃ fn,Tryz.prog.funcs[166]? = some fn ∧ fn.body.isSome = true ∧ (fn.name == "runtime.NumGoroutine") = false := ⟨Tryz.f166,by kernel_rfl,by kernel_rfl,by kernel_rfl⟩
def f138 (a b:Fy):Option Gz:=
 Ey (f166_167 (a.1,a.2) (b.1,b.2)) fun r1=>
 some (r1.1,r1.2.1,r1.2.2)
def C138:Con:=⟨Fy×Fy,Gz,0,fun x=>[.dat T9 x.1,.dat T9 x.2],NX,fun x=>f138 x.1 x.2,fun y=>[.raw true [(.osl 0),(.osl 1)],.dat T1 y.1],fun y=>[(0,.arr 3 T1 y.2.1),(1,.arr 57 T1 y.2.2)],2⟩
theorem V138 a b y (q:f138 a b=some y):VC Tryz.f138 C138 (a,b) y:=by
 unfold f138 at q
 refine OL (OL ?_)
 obtain ⟨r1,h,q⟩:=bE q
 refine OL (AI f166_167_in (cV (cQ C166_167 ((a.1,a.2),(b.1,b.2)) r1 [] false C166_167_holds h rfl rfl (R4 (AI NH (R2 (AJ (AI TV (OL ?_)))))))))
 cases sE q
 refine AI rfl (E4 (iuR [4,5]) (R2 (AJ (R2 TV))))
theorem H138:HI C138 138:=hI Tryz.f138 rfl fun x=>V138 x.1 x.2
def f168_j1 (a b:Int):Option (Sum Unit Unit):=
 bif ((decide (a<0))==(decide (b<0))) then
 some (Sum.inr ())
 else
 bif ((decide ((i64.wrap (a-b))<0))==(decide (a<0))) then
 some (Sum.inr ())
 else
 some (Sum.inl ())
def f168 (a b:Int):Option Int:=
 Ey (f168_j1 a b) fun z1=>
 Fx z1 (fun z1a=>
 bif (decide (a<0)) then
 some (-9223372036854775808:Int)
 else
 some (9223372036854775807:Int)) (fun z1b=>
 some (i64.wrap (a-b)))
def C168:Con:=⟨F9,Int,0,fun x=>[.dat T1 x.1,.dat T1 x.2],NX,fun x=>f168 x.1 x.2,fun y=>[.dat T1 y],NX,0⟩
theorem V168 a b y (q:f168 a b=some y):VC Tryz.f168 C168 (a,b) y:=by
 unfold f168 at q
 refine OL (OL ?_)
 obtain ⟨z1,hz1,q⟩:=bE q
 refine OQ ⟨Sum.elim (fun z1a=>[(0,⟨[(0,.dat T1 a)],[],0⟩)]) (fun z1b=>[(1,⟨[(4,.dat T1 (i64.wrap (a-b)))],[],0⟩)]) z1,?_,?_⟩
 ·have q:=hz1
  clear hz1
  unfold f168_j1 at q
  refine OL (cN q (fun q=>?_) (fun q=>?_))
  ·refine gY (gY (gY (gY (cF (cI q (fun q=>?_) (fun q=>?_))))))
   ·cases sE q
    refine OL (E4 [] (R2 (AI TV TV)))
   cases sE q
   refine E4 [] (R2 (AI TV TV))
  refine gN (gN (gN (gN (cT (cT (OL ?_))))))
  cases sE q
  refine E4 [] (R2 (AI TV TV))
 rcases z1 with z1a | z1b
 ·dsimp only [Fx] at q
  refine AI (OL (OL (cI q (fun q=>?_) (fun q=>?_)))) TV
  ·cases sE q
   refine OL (AI rfl (E4 [] (R2 (AI TV TV))))
  cases sE q
  refine OL (AI rfl (E4 [] (R2 (AI TV TV))))
 dsimp only [Fx] at q
 refine AI ?_ TV
 cases sE q
 refine AI rfl (E4 [] (R2 (AI TV TV)))
theorem H168:HI C168 168:=hI Tryz.f168 rfl fun x=>V168 x.1 x.2
def f166_168_j3 (a b:Fy):Option Bool:=
 Ey (f91 (a.1,a.2)) fun r9=>
 bif (!r9) then
 some true
 else
 Ey (f91 (b.1,b.2)) fun r10=>
 some (!r10)
def f166_168_j2 (a b:Fy):Option (Sum Unit Unit):=
 Ey (f166_168_j3 a b) fun z8=>
 bif z8 then
 some (Sum.inr ())
 else
 some (Sum.inl ())
def f166_168_l4 (a b:Fy) (r12:Gz) (q7_3 q7_7:LI) (go:K4→Option LI) (v52:Int) (l7:LI):Option LI:=
 bif (decide (v52<r12.2.2.length)) then
 E9 (0≤v52∧v52<q7_3.length)<|
 E9 (0≤(rd 0 q7_3 v52)∧(rd 0 q7_3 v52)<a.2.length)<|
 E9 (0≤v52∧v52<q7_7.length)<|
 E9 (0≤(rd 0 q7_7 v52)∧(rd 0 q7_7 v52)<b.2.length)<|
 Ey (f168 (rd 0 a.2 (rd 0 q7_3 v52)) (rd 0 b.2 (rd 0 q7_7 v52))) fun q11_20=>
 E9 (0≤v52∧v52<l7.length)<|
 go ((i64.wrap (v52+1)),(List.set l7 (Int.toNat v52) q11_20))
 else
 some l7
def f166_168 (a b:Fy):Option Gz:=
 Ey (f166_168_j2 a b) fun z5=>
 Fx z5 (fun z5a=>
 Ey (f195 a.1 b.1) fun r11=>
 bif (r11.1 != 0) then
 some (r11.1,[],[])
 else
 Ey (f171 r11.2 (0:Int)) fun r12=>
 Ey (f196 a.1 r11.2) fun q7_3=>
 Ey (f196 b.1 r11.2) fun q7_7=>
 Ey (Fq (fun go x=>f166_168_l4 a b r12 q7_3 q7_7 go x.1 x.2) Fv ((0:Int),r12.2.2)) fun z13=>
 some ((0:Int),r12.2.1,z13)) (fun z5b=>
 some ((1:Int),[],[]))
def C166_168:Con:=⟨Fy×Fy,Gz,0,fun x=>[.dat T9 x.1,.dat T9 x.2,.raw false [(.c (.func (.func 168) #[] #[]))]],NX,fun x=>f166_168 x.1 x.2,fun y=>[.raw true [(.osl 0),(.osl 1)],.dat T1 y.1],fun y=>[(0,.arr 3 T1 y.2.1),(1,.arr 57 T1 y.2.2)],2⟩
theorem V166_168 a b y (q:f166_168 a b=some y):VC Tryz.f166 C166_168 (a,b) y:=by
 unfold f166_168 at q
 refine OL ?_
 obtain ⟨z5,hz5,q⟩:=bE q
 let e0:LE:=fun zz=>(2,.raw false [(.c (.func (.func 168) #[] #[]))])::(3,P0 0 0)::(4,P0 1 0)::(6,P0 2 0)::zz
 let h1:LH:=fun zz=>(0,.cells [(.d T6 a.1),(.d T6 a.2)])::(1,.cells [(.d T6 b.1),(.d T6 b.2)])::(2,.cells [N0,N0])::zz
 refine OQ ⟨Sum.elim (fun z5a=>[(0,⟨e0 [],h1 [],3⟩)]) (fun z5b=>[(1,⟨[(6,P0 0 0),(7,D0 1)],[(0,.cells [N0,N0])],1⟩)]) z5,?_,?_⟩
 ·have q:=hz5
  clear hz5
  unfold f166_168_j2 at q
  obtain ⟨z8,hz8,q⟩:=bE q
  refine OQ ⟨[(0,⟨e0 [(22,.dat .bool z8)],h1 [],3⟩)],?_,?_⟩
  ·have q:=hz8
   clear hz8
   unfold f166_168_j3 at q
   obtain ⟨r9,h,q⟩:=bE q
   refine OL (cA H91 (a.1,a.2) h rfl (R2 (K0 (cN q (fun q=>?_) (fun q=>?_)))))
   ·refine gY ?_
    obtain ⟨r10,h,q⟩:=bE q
    refine OL (cA H91 (b.1,b.2) h rfl (R2 (K0 (gY (cF ?_)))))
    cases sE q
    refine E4 I3 (R2 (AI (R4 TV) (R3 TV)))
   refine gN (gN (cT ?_))
   cases sE q
   refine E4 I3 (R2 (AI (R4 TV) (R3 TV)))
  refine AI (cI q (fun q=>?_) (fun q=>?_)) TV
  ·refine OL (OL ?_)
   cases sE q
   refine E4 (iuR [3]) (R2 (AJ (AI rfl TV)))
  cases sE q
  refine E4 I3 (AI rfl (AI (R4 TV) (R3 TV)))
 rcases z5 with z5a | z5b
 ·dsimp only [Fx] at q
  refine AI (OL ?_) TV
  obtain ⟨r11,h,q⟩:=bE q
  refine OL (cA H195 (a.1,b.1) h rfl (R2 (K0 (OL (OL (cI q (fun q=>?_) (fun q=>?_)))))))
  ·refine OL (OL ?_)
   cases sE q
   refine AI rfl (E4 (iuR [0,0]) (R2 (AJ (R2 TV))))
  refine OL ?_
  obtain ⟨r12,h,q⟩:=bE q
  refine OL (cD H171 (r11.2,(0:Int)) h rfl (R2 (AI (fun _=>rfl) (R2 (AI TV (AI TV (OL (OL (EI (tU 0 3 (tU 4 3 (.alt 3 (.alt 7 (.take 8 (.take 9 .done)) .done) .done))) (EI [] (EI [] (AI rfl (AI TV ?_)))))))))))))
  obtain ⟨q7_3,h,q⟩:=bE q
  refine OL (cD H196 (a.1,r11.2) h rfl (R2 (AI (fun _=>rfl) (R2 (AI TV (AI TV (AI TV ?_)))))))
  obtain ⟨q7_7,h,q⟩:=bE q
  refine OL (cD H196 (b.1,r11.2) h rfl (R2 (AI (fun _=>rfl) (R2 (AI TV (AI TV (OL (OL ?_))))))))
  obtain ⟨z13,h,q⟩:=bE q
  refine lJ h (fun x=>⟨e0 [(10,P0 3 0),(12,O0 4),(13,O0 5),(51,.dat T1 (r12.2.2.length:Int)),(52,.dat T1 x.1)],h1 [(3,.cells [(.osl 6),(.osl 7)]),(4,.arr 3 T1 q7_3),(5,.arr 3 T1 q7_7),(6,.arr 3 T1 r12.2.1),(7,.arr 57 T1 x.2)],8⟩) (fun z=>[(2,⟨[(6,P0 0 0),(10,P0 1 0)],[(0,.cells [N0,N0]),(1,.cells [(.osl 2),(.osl 3)]),(2,.arr 3 T1 r12.2.1),(3,.arr 57 T1 z)],4⟩)]) (E4 (iuR [1,2,3,7,8,9,5,6]) (R3 (AI (R7 TV) (R8 TV)))) (fun m=>F3 (fun v52=>fun l7 z q=>?_)) ?_
  ·have q:f166_168_l4 a b r12 q7_3 q7_7 _ v52 l7=some z:=q
   unfold f166_168_l4 at q
   refine OL (OL (cI q (fun q=>?_) (fun q=>?_)))
   ·refine OL (OL (EI (tU 0 20 (.alt 20 (.take 21 (.alt 22 .done .done)) .done)) (EI [] (EI [] (AI rfl (gI q (fun q=>?_)))))))
    refine gI q (fun q=>?_)
    refine gI q (fun q=>?_)
    refine gI q (fun q=>?_)
    refine AI TV ?_
    obtain ⟨q11_20,h,q⟩:=bE q
    refine OL (cA H168 ((rd 0 a.2 (rd 0 q7_3 v52)),(rd 0 b.2 (rd 0 q7_7 v52))) h rfl (R2 (K0 (gI q (fun q=>?_)))))
    refine AI TV (OL (EI ((i64.wrap (v52+1)),(List.set l7 (Int.toNat v52) q11_20)) (AI q (E4 I8 (R3 (AI (R7 TV) (R8 TV)))))))
   cases sE q
   refine E4 (iuR [3,4,7,8]) (AI rfl (AI (R2 TV) (R4 TV)))
  refine AI (OL (OL ?_)) TV
  cases sE q
  refine AI rfl (E4 (iuR [3,4]) (R2 (AJ (R2 TV))))
 dsimp only [Fx] at q
 refine AI ?_ TV
 cases sE q
 refine AI rfl (E4 (iuR [0,0]) (R2 (AJ (R2 TV))))
theorem C166_168_holds:HP C166_168 166:=hH Tryz.f166 (by kernel_rfl) rfl (fun x y q=>V166_168 x.1 x.2 y q)
theorem f166_168_in : ∃ fn,Tryz.prog.funcs[166]? = some fn ∧ fn.body.isSome = true ∧ (fn.name == "runtime.NumGoroutine") = false := ⟨Tryz.f166,by kernel_rfl,by kernel_rfl,by kernel_rfl⟩
def f139 (a b:Fy):Option Gz:=
 Ey (f166_168 (a.1,a.2) (b.1,b.2)) fun r1=>
 some (r1.1,r1.2.1,r1.2.2)
def C139:Con:=⟨Fy×Fy,Gz,0,fun x=>[.dat T9 x.1,.dat T9 x.2],NX,fun x=>f139 x.1 x.2,fun y=>[.raw true [(.osl 0),(.osl 1)],.dat T1 y.1],fun y=>[(0,.arr 3 T1 y.2.1),(1,.arr 57 T1 y.2.2)],2⟩
theorem V139 a b y (q:f139 a b=some y):VC Tryz.f139 C139 (a,b) y:=by
 unfold f139 at q
 refine OL (OL ?_)
 obtain ⟨r1,h,q⟩:=bE q
 refine OL (AI f166_168_in (cV (cQ C166_168 ((a.1,a.2),(b.1,b.2)) r1 [] false C166_168_holds h rfl rfl (R4 (AI NH (R2 (AJ (AI TV (OL ?_)))))))))
 cases sE q
 refine AI rfl (E4 (iuR [4,5]) (R2 (AJ (R2 TV))))
theorem H139:HI C139 139:=hI Tryz.f139 rfl fun x=>V139 x.1 x.2
def f198 (v:Int):Option Int:=
 bif (decide (v<0)) then
 some (u64.wrap (0-(u64.wrap v)))
 else
 some (u64.wrap v)
def C198:Con:=⟨Int,Int,0,fun x=>[.dat T1 x],NX,fun x=>f198 x,fun y=>[.dat T10 y],NX,0⟩
theorem V198 v y (q:f198 v=some y):VC Tryz.f198 C198 v y:=by
 unfold f198 at q
 refine OL (OL (OL (cI q (fun q=>?_) (fun q=>?_))))
 ·cases sE q
  refine OL (AI rfl (E4 [] (R2 (AI TV TV))))
 cases sE q
 refine OL (AI rfl (E4 [] (R2 (AI TV TV))))
theorem H198:HI C198 198:=hI Tryz.f198 rfl fun x=>V198 x
def f200_j1 (hi lo:Int) (below:Bool):Option Bool:=
 bif below then
 bif (decide (hi>0)) then
 some true
 else
 some (decide (lo≥9223372036854775808))
 else
 some false
def f200 (hi lo:Int) (below:Bool):Option Int:=
 Ey (f200_j1 hi lo below) fun z1=>
 bif z1 then
 some (-9223372036854775808:Int)
 else
 bif below then
 some (i64.wrap (0-(i64.wrap lo)))
 else
 bif (decide (hi>0)) then
 some (9223372036854775807:Int)
 else
 bif (decide (lo≥9223372036854775808)) then
 some (9223372036854775807:Int)
 else
 some (i64.wrap lo)
def C200:Con:=⟨Int×Ki,Int,0,fun x=>[.dat T10 x.1,.dat T10 x.2.1,.dat .bool x.2.2],NX,fun x=>f200 x.1 x.2.1 x.2.2,fun y=>[.dat T1 y],NX,0⟩
theorem V200 hi lo below y (q:f200 hi lo below=some y):VC Tryz.f200 C200 (hi,lo,below) y:=by
 unfold f200 at q
 refine OL (OL ?_)
 obtain ⟨z1,hz1,q⟩:=bE q
 refine OQ ⟨[(0,⟨[(0,.dat T10 hi),(1,.dat T10 lo),(2,.dat .bool below),(7,.dat .bool z1)],[],0⟩)],?_,?_⟩
 ·have q:=hz1
  clear hz1
  unfold f200_j1 at q
  refine cI q (fun q=>?_) (fun q=>?_)
  ·refine gX (gX (cN q (fun q=>?_) (fun q=>?_)))
   ·refine gY (gX (cF (cT ?_)))
    cases sE q
    refine E4 [] (R5 (AI TV TV))
   refine gN (gX (cT (cT ?_)))
   cases sE q
   refine E4 [] (R5 (AI TV TV))
  refine gM (gM (gM (cF ?_)))
  cases sE q
  refine E4 [] (R5 (AI TV TV))
 refine AI (cI q (fun q=>?_) (fun q=>?_)) TV
 ·cases sE q
  refine OL (AI rfl (E4 [] (R2 (AI TV TV))))
 refine OL (cI q (fun q=>?_) (fun q=>?_))
 ·cases sE q
  refine OL (AI rfl (E4 [] (R2 (AI TV TV))))
 refine OL (cN q (fun q=>?_) (fun q=>?_))
 ·refine gY (cF (cI q (fun q=>?_) (fun q=>?_)))
  ·cases sE q
   refine OL (AI rfl (E4 [] (R2 (AI TV TV))))
  cases sE q
  refine OL (AI rfl (E4 [] (R2 (AI TV TV))))
 refine gN (cT (cT (OL ?_)))
 cases sE q
 refine AI rfl (E4 [] (R2 (AI TV TV)))
theorem H200:HI C200 200:=hI Tryz.f200 rfl fun x=>V200 x.1 x.2.1 x.2.2
def f169_j3 (r3:F9):Option Bool:=
 bif (decide ((Ft IntKind.u64 (fun p q=>p&&& q) r3.2 (4294967295:Int))>2147483648)) then
 some true
 else
 bif ((Ft IntKind.u64 (fun p q=>p&&& q) r3.2 (4294967295:Int))==2147483648) then
 some ((Ft IntKind.u64 (fun p q=>p&&& q) (Ft IntKind.u64 (fun p q=>p||| q) (u64.wrap (r3.1*2 ^ min (Int.toNat (32:Int)) u64.bits)) (Int.fdiv r3.2 (2 ^ min (Int.toNat (32:Int)) u64.bits))) (1:Int))==1)
 else
 some false
def f169_j2 (r3:F9):Option F9:=
 Ey (f169_j3 r3) fun z7=>
 bif z7 then
 Ey (K3 (Ft IntKind.u64 (fun p q=>p||| q) (u64.wrap (r3.1*2 ^ min (Int.toNat (32:Int)) u64.bits)) (Int.fdiv r3.2 (2 ^ min (Int.toNat (32:Int)) u64.bits))) (1:Int) (0:Int)) fun r8=>
 some (r8.1,(u64.wrap ((Int.fdiv r3.1 (2 ^ min (Int.toNat (32:Int)) u64.bits))+r8.2)))
 else
 some ((Ft IntKind.u64 (fun p q=>p||| q) (u64.wrap (r3.1*2 ^ min (Int.toNat (32:Int)) u64.bits)) (Int.fdiv r3.2 (2 ^ min (Int.toNat (32:Int)) u64.bits))),(Int.fdiv r3.1 (2 ^ min (Int.toNat (32:Int)) u64.bits)))
def f169 (a b:Int):Option Int:=
 Ey (f198 a) fun r1=>
 Ey (f198 b) fun r2=>
 Ey (f197 r1 r2) fun r3=>
 Ey (f169_j2 r3) fun z6=>
 Ey (f200 z6.2 z6.1 (!((decide (a<0))==(decide (b<0))))) fun r9=>
 some r9
def C169:Con:=⟨F9,Int,0,fun x=>[.dat T1 x.1,.dat T1 x.2],NX,fun x=>f169 x.1 x.2,fun y=>[.dat T1 y],NX,0⟩
theorem V169 a b y (q:f169 a b=some y):VC Tryz.f169 C169 (a,b) y:=by
 unfold f169 at q
 refine OL (OL ?_)
 obtain ⟨r1,h,q⟩:=bE q
 refine OL (cA H198 a h rfl (AI rfl (K0 ?_)))
 obtain ⟨r2,h,q⟩:=bE q
 refine OL (cA H198 b h rfl (AI rfl (K0 ?_)))
 obtain ⟨r3,h,q⟩:=bE q
 refine OL (cA H197 (r1,r2) h rfl (R2 (K0 (OL (OL (AI (by decide) (AI (by decide) (OL (AI (by decide) ?_)))))))))
 obtain ⟨z6,hz6,q⟩:=bE q
 refine OQ ⟨[(0,⟨[(0,.dat T1 a),(1,.dat T1 b),(8,.dat T10 z6.1),(9,.dat T10 z6.2)],[],0⟩)],?_,?_⟩
 ·have q:=hz6
  clear hz6
  unfold f169_j2 at q
  obtain ⟨z7,hz7,q⟩:=bE q
  refine OQ ⟨[(0,⟨[(0,.dat T1 a),(1,.dat T1 b),(8,.dat T10 (Ft IntKind.u64 (fun p q=>p||| q) (u64.wrap (r3.1*2 ^ min (Int.toNat (32:Int)) u64.bits)) (Int.fdiv r3.2 (2 ^ min (Int.toNat (32:Int)) u64.bits)))),(9,.dat T10 (Int.fdiv r3.1 (2 ^ min (Int.toNat (32:Int)) u64.bits))),(38,.dat .bool z7)],[],0⟩)],?_,?_⟩
  ·have q:=hz7
   clear hz7
   unfold f169_j3 at q
   refine cN q (fun q=>?_) (fun q=>?_)
   ·refine gY (gY (cI q (fun q=>?_) (fun q=>?_)))
    ·refine gX (gX (gY (cT (cF ?_))))
     cases sE q
     refine E4 [] (R6 (AI TV TV))
    refine gM (gM (gY (cF (cF ?_))))
    cases sE q
    refine E4 [] (R6 (AI TV TV))
   refine gN (gN (gN (cT ?_)))
   cases sE q
   refine E4 [] (R6 (AI TV TV))
  refine AI (cI q (fun q=>?_) (fun q=>?_)) TV
  ·refine OL (OL ?_)
   obtain ⟨r8,h,q⟩:=bE q
   refine OQ ⟨ext3 K3,[r8.1,r8.2],K2,AI (ext3I h) ?_⟩
   cases sE q
   refine E4 [] (R5 (AI TV TV))
  cases sE q
  refine E4 [] (R5 (AI TV TV))
 refine AI (OL ?_) TV
 obtain ⟨r9,h,q⟩:=bE q
 refine OL (cA H200 (z6.2,z6.1,(!((decide (a<0))==(decide (b<0))))) h rfl (R3 (K0 ?_)))
 cases sE q
 refine AI rfl (E4 [] (R2 (AI TV TV)))
theorem H169:HI C169 169:=hI Tryz.f169 rfl fun x=>V169 x.1 x.2
def f166_169_j3 (a b:Fy):Option Bool:=
 Ey (f91 (a.1,a.2)) fun r9=>
 bif (!r9) then
 some true
 else
 Ey (f91 (b.1,b.2)) fun r10=>
 some (!r10)
def f166_169_j2 (a b:Fy):Option (Sum Unit Unit):=
 Ey (f166_169_j3 a b) fun z8=>
 bif z8 then
 some (Sum.inr ())
 else
 some (Sum.inl ())
def f166_169_l4 (a b:Fy) (r12:Gz) (q7_3 q7_7:LI) (go:K4→Option LI) (v52:Int) (l7:LI):Option LI:=
 bif (decide (v52<r12.2.2.length)) then
 E9 (0≤v52∧v52<q7_3.length)<|
 E9 (0≤(rd 0 q7_3 v52)∧(rd 0 q7_3 v52)<a.2.length)<|
 E9 (0≤v52∧v52<q7_7.length)<|
 E9 (0≤(rd 0 q7_7 v52)∧(rd 0 q7_7 v52)<b.2.length)<|
 Ey (f169 (rd 0 a.2 (rd 0 q7_3 v52)) (rd 0 b.2 (rd 0 q7_7 v52))) fun q11_20=>
 E9 (0≤v52∧v52<l7.length)<|
 go ((i64.wrap (v52+1)),(List.set l7 (Int.toNat v52) q11_20))
 else
 some l7
def f166_169 (a b:Fy):Option Gz:=
 Ey (f166_169_j2 a b) fun z5=>
 Fx z5 (fun z5a=>
 Ey (f195 a.1 b.1) fun r11=>
 bif (r11.1 != 0) then
 some (r11.1,[],[])
 else
 Ey (f171 r11.2 (0:Int)) fun r12=>
 Ey (f196 a.1 r11.2) fun q7_3=>
 Ey (f196 b.1 r11.2) fun q7_7=>
 Ey (Fq (fun go x=>f166_169_l4 a b r12 q7_3 q7_7 go x.1 x.2) Fv ((0:Int),r12.2.2)) fun z13=>
 some ((0:Int),r12.2.1,z13)) (fun z5b=>
 some ((1:Int),[],[]))
def C166_169:Con:=⟨Fy×Fy,Gz,0,fun x=>[.dat T9 x.1,.dat T9 x.2,.raw false [(.c (.func (.func 169) #[] #[]))]],NX,fun x=>f166_169 x.1 x.2,fun y=>[.raw true [(.osl 0),(.osl 1)],.dat T1 y.1],fun y=>[(0,.arr 3 T1 y.2.1),(1,.arr 57 T1 y.2.2)],2⟩
theorem V166_169 a b y (q:f166_169 a b=some y):VC Tryz.f166 C166_169 (a,b) y:=by
 unfold f166_169 at q
 refine OL ?_
 obtain ⟨z5,hz5,q⟩:=bE q
 let e0:LE:=fun zz=>(2,.raw false [(.c (.func (.func 169) #[] #[]))])::(3,P0 0 0)::(4,P0 1 0)::(6,P0 2 0)::zz
 let h1:LH:=fun zz=>(0,.cells [(.d T6 a.1),(.d T6 a.2)])::(1,.cells [(.d T6 b.1),(.d T6 b.2)])::(2,.cells [N0,N0])::zz
 refine OQ ⟨Sum.elim (fun z5a=>[(0,⟨e0 [],h1 [],3⟩)]) (fun z5b=>[(1,⟨[(6,P0 0 0),(7,D0 1)],[(0,.cells [N0,N0])],1⟩)]) z5,?_,?_⟩
 ·have q:=hz5
  clear hz5
  unfold f166_169_j2 at q
  obtain ⟨z8,hz8,q⟩:=bE q
  refine OQ ⟨[(0,⟨e0 [(22,.dat .bool z8)],h1 [],3⟩)],?_,?_⟩
  ·have q:=hz8
   clear hz8
   unfold f166_169_j3 at q
   obtain ⟨r9,h,q⟩:=bE q
   refine OL (cA H91 (a.1,a.2) h rfl (R2 (K0 (cN q (fun q=>?_) (fun q=>?_)))))
   ·refine gY ?_
    obtain ⟨r10,h,q⟩:=bE q
    refine OL (cA H91 (b.1,b.2) h rfl (R2 (K0 (gY (cF ?_)))))
    cases sE q
    refine E4 I3 (R2 (AI (R4 TV) (R3 TV)))
   refine gN (gN (cT ?_))
   cases sE q
   refine E4 I3 (R2 (AI (R4 TV) (R3 TV)))
  refine AI (cI q (fun q=>?_) (fun q=>?_)) TV
  ·refine OL (OL ?_)
   cases sE q
   refine E4 (iuR [3]) (R2 (AJ (AI rfl TV)))
  cases sE q
  refine E4 I3 (AI rfl (AI (R4 TV) (R3 TV)))
 rcases z5 with z5a | z5b
 ·dsimp only [Fx] at q
  refine AI (OL ?_) TV
  obtain ⟨r11,h,q⟩:=bE q
  refine OL (cA H195 (a.1,b.1) h rfl (R2 (K0 (OL (OL (cI q (fun q=>?_) (fun q=>?_)))))))
  ·refine OL (OL ?_)
   cases sE q
   refine AI rfl (E4 (iuR [0,0]) (R2 (AJ (R2 TV))))
  refine OL ?_
  obtain ⟨r12,h,q⟩:=bE q
  refine OL (cD H171 (r11.2,(0:Int)) h rfl (R2 (AI (fun _=>rfl) (R2 (AI TV (AI TV (OL (OL (EI (tU 0 3 (tU 4 3 (.alt 3 (.alt 7 (.take 8 (.take 9 .done)) .done) .done))) (EI [] (EI [] (AI rfl (AI TV ?_)))))))))))))
  obtain ⟨q7_3,h,q⟩:=bE q
  refine OL (cD H196 (a.1,r11.2) h rfl (R2 (AI (fun _=>rfl) (R2 (AI TV (AI TV (AI TV ?_)))))))
  obtain ⟨q7_7,h,q⟩:=bE q
  refine OL (cD H196 (b.1,r11.2) h rfl (R2 (AI (fun _=>rfl) (R2 (AI TV (AI TV (OL (OL ?_))))))))
  obtain ⟨z13,h,q⟩:=bE q
  refine lJ h (fun x=>⟨e0 [(10,P0 3 0),(12,O0 4),(13,O0 5),(51,.dat T1 (r12.2.2.length:Int)),(52,.dat T1 x.1)],h1 [(3,.cells [(.osl 6),(.osl 7)]),(4,.arr 3 T1 q7_3),(5,.arr 3 T1 q7_7),(6,.arr 3 T1 r12.2.1),(7,.arr 57 T1 x.2)],8⟩) (fun z=>[(2,⟨[(6,P0 0 0),(10,P0 1 0)],[(0,.cells [N0,N0]),(1,.cells [(.osl 2),(.osl 3)]),(2,.arr 3 T1 r12.2.1),(3,.arr 57 T1 z)],4⟩)]) (E4 (iuR [1,2,3,7,8,9,5,6]) (R3 (AI (R7 TV) (R8 TV)))) (fun m=>F3 (fun v52=>fun l7 z q=>?_)) ?_
  ·have q:f166_169_l4 a b r12 q7_3 q7_7 _ v52 l7=some z:=q
   unfold f166_169_l4 at q
   refine OL (OL (cI q (fun q=>?_) (fun q=>?_)))
   ·refine OL (OL (EI (tU 0 20 (.alt 20 (.take 21 (.alt 22 .done .done)) .done)) (EI [] (EI [] (AI rfl (gI q (fun q=>?_)))))))
    refine gI q (fun q=>?_)
    refine gI q (fun q=>?_)
    refine gI q (fun q=>?_)
    refine AI TV ?_
    obtain ⟨q11_20,h,q⟩:=bE q
    refine OL (cA H169 ((rd 0 a.2 (rd 0 q7_3 v52)),(rd 0 b.2 (rd 0 q7_7 v52))) h rfl (R2 (K0 (gI q (fun q=>?_)))))
    refine AI TV (OL (EI ((i64.wrap (v52+1)),(List.set l7 (Int.toNat v52) q11_20)) (AI q (E4 I8 (R3 (AI (R7 TV) (R8 TV)))))))
   cases sE q
   refine E4 (iuR [3,4,7,8]) (AI rfl (AI (R2 TV) (R4 TV)))
  refine AI (OL (OL ?_)) TV
  cases sE q
  refine AI rfl (E4 (iuR [3,4]) (R2 (AJ (R2 TV))))
 dsimp only [Fx] at q
 refine AI ?_ TV
 cases sE q
 refine AI rfl (E4 (iuR [0,0]) (R2 (AJ (R2 TV))))
theorem C166_169_holds:HP C166_169 166:=hH Tryz.f166 (by kernel_rfl) rfl (fun x y q=>V166_169 x.1 x.2 y q)
theorem f166_169_in : ∃ fn,Tryz.prog.funcs[166]? = some fn ∧ fn.body.isSome = true ∧ (fn.name == "runtime.NumGoroutine") = false := ⟨Tryz.f166,by kernel_rfl,by kernel_rfl,by kernel_rfl⟩
def f140 (a b:Fy):Option Gz:=
 Ey (f166_169 (a.1,a.2) (b.1,b.2)) fun r1=>
 some (r1.1,r1.2.1,r1.2.2)
def C140:Con:=⟨Fy×Fy,Gz,0,fun x=>[.dat T9 x.1,.dat T9 x.2],NX,fun x=>f140 x.1 x.2,fun y=>[.raw true [(.osl 0),(.osl 1)],.dat T1 y.1],fun y=>[(0,.arr 3 T1 y.2.1),(1,.arr 57 T1 y.2.2)],2⟩
theorem V140 a b y (q:f140 a b=some y):VC Tryz.f140 C140 (a,b) y:=by
 unfold f140 at q
 refine OL (OL ?_)
 obtain ⟨r1,h,q⟩:=bE q
 refine OL (AI f166_169_in (cV (cQ C166_169 ((a.1,a.2),(b.1,b.2)) r1 [] false C166_169_holds h rfl rfl (R4 (AI NH (R2 (AJ (AI TV (OL ?_)))))))))
 cases sE q
 refine AI rfl (E4 (iuR [4,5]) (R2 (AJ (R2 TV))))
theorem H140:HI C140 140:=hI Tryz.f140 rfl fun x=>V140 x.1 x.2
def f170 (t:Fy):Option Bool:=
 some ((t.1.length:Int)==2)
def C170:Con:=⟨Fy,Bool,0,fun x=>[.dat T9 x],NX,fun x=>f170 x,fun y=>[.dat .bool y],NX,0⟩
theorem V170 t y (q:f170 t=some y):VC Tryz.f170 C170 t y:=by
 unfold f170 at q
 refine OL (OL ?_)
 cases sE q
 refine AI rfl (E4 [] (R2 (AI TV TV)))
theorem H170:HI C170 170:=hI Tryz.f170 rfl fun x=>V170 x
def f230_l1 (s:LI) (v:Int) (go:Int→Option (Sum Int Unit)) (v8:Int):Option (Sum Int Unit):=
 bif (decide (v8<s.length)) then
 E9 (0≤v8∧v8<s.length)<|
 bif (v==(rd 0 s v8)) then
 some (Sum.inl v8)
 else
 go (i64.wrap (v8+1))
 else
 some (Sum.inr ())
def f230 (s:LI) (v:Int):Option Int:=
 Ey (Fq (fun go x=>f230_l1 s v go x) Fv (0:Int)) fun z1=>
 Fx z1 (fun z1a=>
 some z1a) (fun z1b=>
 some (-1:Int))
def C230:Con:=⟨LI×Int,Int,0,fun x=>[.dat T6 x.1,.dat T1 x.2],NX,fun x=>f230 x.1 x.2,fun y=>[.dat T1 y],NX,0⟩
theorem V230 s v y (q:f230 s v=some y):VC Tryz.f230 C230 (s,v) y:=by
 unfold f230 at q
 refine OL (OL (OL ?_))
 obtain ⟨z1,h,q⟩:=bE q
 refine lJ h (fun x=>⟨[(0,.dat T6 s),(1,.dat T1 v),(7,.dat T1 (s.length:Int)),(8,.dat T1 x)],[],0⟩) (fun z=>Sum.elim (fun za=>[(1,⟨[(4,.dat T1 za)],[],0⟩)]) (fun zb=>[(2,⟨[],[],0⟩)]) z) (E4 [] (R5 (AI TV TV))) (fun m=>fun v8 z q=>?_) ?_
 ·have q:f230_l1 s v _ v8=some z:=q
  unfold f230_l1 at q
  refine OL (OL (cI q (fun q=>?_) (fun q=>?_)))
  ·refine OL (OL (OL (gI q (fun q=>?_))))
   refine cI q (fun q=>?_) (fun q=>?_)
   ·cases sE q
    refine OL (E4 [] (R2 (AI TV TV)))
   refine EI (i64.wrap (v8+1)) (AI q (E4 [] (R5 (AI TV TV))))
  cases sE q
  refine E4 [] (AI rfl (AI TV TV))
 rcases z1 with z1a | z1b
 ·dsimp only [Fx] at q
  refine AI ?_ TV
  cases sE q
  refine AI rfl (E4 [] (R2 (AI TV TV)))
 dsimp only [Fx] at q
 refine AI (OL ?_) TV
 cases sE q
 refine AI rfl (E4 [] (R2 (AI TV TV)))
theorem H230:HI C230 230:=hI Tryz.f230 rfl fun x=>V230 x.1 x.2
def f225 (s:LI) (v:Int):Option Bool:=
 Ey (f230 s v) fun r1=>
 some (decide (r1≥0))
def C225:Con:=⟨LI×Int,Bool,0,fun x=>[.dat T6 x.1,.dat T1 x.2],NX,fun x=>f225 x.1 x.2,fun y=>[.dat .bool y],NX,0⟩
theorem V225 s v y (q:f225 s v=some y):VC Tryz.f225 C225 (s,v) y:=by
 unfold f225 at q
 refine OL (OL ?_)
 obtain ⟨r1,h,q⟩:=bE q
 refine OL (cA H230 (s,v) h rfl (R2 (K0 ?_)))
 cases sE q
 refine AI rfl (E4 [] (R2 (AI TV TV)))
theorem H225:HI C225 225:=hI Tryz.f225 rfl fun x=>V225 x.1 x.2
def f204_l1 (order:LI) (n:Int) (go:Int→Option (Sum Unit Unit)) (v11:Int):Option (Sum Unit Unit):=
 bif (decide (v11<n)) then
 Ey (f225 order v11) fun r4=>
 bif (!r4) then
 some (Sum.inl ())
 else
 go (i64.wrap (v11+1))
 else
 some (Sum.inr ())
def f204 (order:LI) (n:Int):Option Bool:=
 bif ((order.length:Int) != n) then
 some false
 else
 Ey (Fq (fun go x=>f204_l1 order n go x) Fv (0:Int)) fun z3=>
 Fx z3 (fun z3a=>
 some false) (fun z3b=>
 some true)
def C204:Con:=⟨LI×Int,Bool,0,fun x=>[.dat T6 x.1,.dat T1 x.2],NX,fun x=>f204 x.1 x.2,fun y=>[.dat .bool y],NX,0⟩
theorem V204 order n y (q:f204 order n=some y):VC Tryz.f204 C204 (order,n) y:=by
 unfold f204 at q
 refine OL (OL (OL (cI q (fun q=>?_) (fun q=>?_))))
 ·cases sE q
  refine OL (AI rfl (E4 [] (R2 (AI TV TV))))
 refine OL (OL ?_)
 obtain ⟨z3,h,q⟩:=bE q
 refine lJ h (fun x=>⟨[(0,.dat T6 order),(10,.dat T1 n),(11,.dat T1 x)],[],0⟩) (fun z=>Sum.elim (fun za=>[(1,⟨[(4,.dat .bool false)],[],0⟩)]) (fun zb=>[(2,⟨[],[],0⟩)]) z) (E4 [] (R4 (AI TV TV))) (fun m=>fun v11 z q=>?_) ?_
 ·have q:f204_l1 order n _ v11=some z:=q
  unfold f204_l1 at q
  refine OL (OL (cI q (fun q=>?_) (fun q=>?_)))
  ·refine OL (OL (OL ?_))
   obtain ⟨r4,h,q⟩:=bE q
   refine OL (cA H225 (order,v11) h rfl (R2 (K0 (cI q (fun q=>?_) (fun q=>?_)))))
   ·cases sE q
    refine OL (E4 [] (R2 (AI TV TV)))
   refine EI (i64.wrap (v11+1)) (AI q (E4 [] (R4 (AI TV TV))))
  cases sE q
  refine E4 [] (AI rfl (AI TV TV))
 rcases z3 with z3a | z3b
 ·dsimp only [Fx] at q
  refine AI ?_ TV
  cases sE q
  refine AI rfl (E4 [] (R2 (AI TV TV)))
 dsimp only [Fx] at q
 refine AI (OL ?_) TV
 cases sE q
 refine AI rfl (E4 [] (R2 (AI TV TV)))
theorem H204:HI C204 204:=hI Tryz.f204 rfl fun x=>V204 x.1 x.2
def f205_j1 (d:LI) (at_:Int):Option (Sum Unit Unit):=
 bif (decide (at_<0)) then
 some (Sum.inr ())
 else
 Ey (f117 d) fun r3=>
 bif (decide (at_≥r3)) then
 some (Sum.inr ())
 else
 some (Sum.inl ())
def f205_l2 (d:LI) (go:(Int×K4)→Option LI) (at__2 i:Int) (l0:LI):Option LI:=
 bif (decide (i≥0)) then
 E9 (0≤i∧i<d.length)<|
 E9 ((rd 0 d i)≠0)<|
 E9 (0≤i∧i<l0.length)<|
 E9 (0≤i∧i<d.length)<|
 E9 ((rd 0 d i)≠0)<|
 go ((i64.wrap (Int.tdiv at__2 (rd 0 d i))),(i64.wrap (i-1)),(List.set l0 (Int.toNat i) (Int.tmod at__2 (rd 0 d i))))
 else
 some l0
def f205 (d:LI) (at_:Int):Option (Bool×LI):=
 Ey (f205_j1 d at_) fun z2=>
 Fx z2 (fun z2a=>
 E9 (0≤(d.length:Int)∧(d.length:Int)≤d.length∧Int.toNat (d.length:Int)*8≤140737488355328)<|
 Ey (Fq (fun go x=>f205_l2 d go x.1 x.2.1 x.2.2) Fv (at_,(i64.wrap ((d.length:Int)-1)),(List.replicate (Int.toNat (d.length:Int)) (0:Int)))) fun z4=>
 some (true,z4)) (fun z2b=>
 some (false,[]))
def C205:Con:=⟨LI×Int,Bool×LI,0,fun x=>[.dat T6 x.1,.dat T1 x.2],NX,fun x=>f205 x.1 x.2,fun y=>[O0 0,.dat .bool y.1],fun y=>[(0,.arr 3 T1 y.2)],1⟩
theorem V205 d at_ y (q:f205 d at_=some y):VC Tryz.f205 C205 (d,at_) y:=by
 unfold f205 at q
 refine OL ?_
 obtain ⟨z2,hz2,q⟩:=bE q
 refine OQ ⟨Sum.elim (fun z2a=>[(0,⟨[(0,.dat T6 d),(1,.dat T1 at_)],[],0⟩)]) (fun z2b=>[(1,⟨[(4,.raw false [N0]),(5,.dat .bool false)],[],0⟩)]) z2,?_,?_⟩
 ·have q:=hz2
  clear hz2
  unfold f205_j1 at q
  refine OL (cN q (fun q=>?_) (fun q=>?_))
  ·refine gY (gY ?_)
   obtain ⟨r3,h,q⟩:=bE q
   refine OL (cA H117 d h rfl (AI rfl (K0 (gY (cF (cI q (fun q=>?_) (fun q=>?_)))))))
   ·cases sE q
    refine OL (E4 [] (R2 (AJ TV)))
   cases sE q
   refine E4 [] (R3 (AI TV TV))
  refine gN (gN (gN (cT (cT (OL ?_)))))
  cases sE q
  refine E4 [] (R2 (AJ TV))
 rcases z2 with z2a | z2b
 ·dsimp only [Fx] at q
  refine AI (OL (gI q (fun q=>?_))) TV
  refine OL (OL ?_)
  obtain ⟨z4,h,q⟩:=bE q
  refine lJ h (fun x=>⟨[(0,.dat T6 d),(1,.dat T1 x.1),(6,O0 0),(7,.dat T1 x.2.1)],[(0,.arr 3 T1 x.2.2)],1⟩) (fun z=>[(2,⟨[(6,O0 0)],[(0,.arr 3 T1 z)],1⟩)]) (E4 (iuR [1]) (R4 (AJ (AI rfl TV)))) (fun m=>F3 (fun at__2=>F3 (fun i=>fun l0 z q=>?_))) ?_
  ·have q:f205_l2 d _ at__2 i l0=some z:=q
   unfold f205_l2 at q
   refine OL (OL (cI q (fun q=>?_) (fun q=>?_)))
   ·refine OL (OL (gI q (fun q=>?_)))
    refine gI q (fun q=>?_)
    refine gI q (fun q=>?_)
    refine OL (gI q (fun q=>?_))
    refine gI q (fun q=>?_)
    refine EI ((i64.wrap (Int.tdiv at__2 (rd 0 d i))),(i64.wrap (i-1)),(List.set l0 (Int.toNat i) (Int.tmod at__2 (rd 0 d i)))) (AI q (E4 (iuR [1]) (R4 (AJ (AI rfl TV)))))
   cases sE q
   refine E4 (iuR [1]) (AI rfl (AJ (AI rfl TV)))
  refine AI (OL ?_) TV
  cases sE q
  refine AI rfl (E4 (iuR [1]) (R2 (AJ (AI rfl TV))))
 dsimp only [Fx] at q
 refine AI ?_ TV
 cases sE q
 refine AI rfl (E4 (iuR [0]) (R2 (AJ (AI rfl TV))))
theorem H205:HI C205 205:=hI Tryz.f205 rfl fun x=>V205 x.1 x.2
def f206_j1 (d place_:LI):Option (Sum Unit Unit):=
 Ey (f65 d) fun r3=>
 bif (!r3) then
 some (Sum.inr ())
 else
 bif ((place_.length:Int) != d.length) then
 some (Sum.inr ())
 else
 some (Sum.inl ())
def f206_j5 (d place_:LI) (v21:Int):Option (Sum Unit Unit):=
 bif (decide ((rd 0 place_ v21)<0)) then
 some (Sum.inr ())
 else
 E9 (0≤v21∧v21<d.length)<|
 bif (decide ((rd 0 place_ v21)≥(rd 0 d v21))) then
 some (Sum.inr ())
 else
 some (Sum.inl ())
def f206_l4 (d place_:LI) (go:F9→Option (Sum Unit Int)) (at_ v21:Int):Option (Sum Unit Int):=
 bif (decide (v21<place_.length)) then
 E9 (0≤v21∧v21<place_.length)<|
 Ey (f206_j5 d place_ v21) fun z7=>
 Fx z7 (fun z7a=>
 E9 (0≤v21∧v21<d.length)<|
 go ((i64.wrap ((i64.wrap (at_*(rd 0 d v21)))+(rd 0 place_ v21))),(i64.wrap (v21+1)))) (fun z7b=>
 some (Sum.inl ()))
 else
 some (Sum.inr at_)
def f206 (d place_:LI):Option Ki:=
 Ey (f206_j1 d place_) fun z2=>
 Fx z2 (fun z2a=>
 Ey (Fq (fun go x=>f206_l4 d place_ go x.1 x.2) Fv ((0:Int),(0:Int))) fun z6=>
 Fx z6 (fun z6a=>
 some ((0:Int),false)) (fun z6b=>
 some (z6b,true))) (fun z2b=>
 some ((0:Int),false))
def C206:Con:=⟨Fy,Ki,0,fun x=>[.dat T6 x.1,.dat T6 x.2],NX,fun x=>f206 x.1 x.2,fun y=>[.dat T1 y.1,.dat .bool y.2],NX,0⟩
theorem V206 d place_ y (q:f206 d place_=some y):VC Tryz.f206 C206 (d,place_) y:=by
 unfold f206 at q
 refine OL ?_
 obtain ⟨z2,hz2,q⟩:=bE q
 refine OQ ⟨Sum.elim (fun z2a=>[(0,⟨[(0,.dat T6 d),(1,.dat T6 place_)],[],0⟩)]) (fun z2b=>[(1,⟨[(4,D0 0),(5,.dat .bool false)],[],0⟩)]) z2,?_,?_⟩
 ·have q:=hz2
  clear hz2
  unfold f206_j1 at q
  refine OL ?_
  obtain ⟨r3,h,q⟩:=bE q
  refine OL (cA H65 d h rfl (AI rfl (K0 (cN q (fun q=>?_) (fun q=>?_)))))
  ·refine gY (gY (gY (gY (cF (cI q (fun q=>?_) (fun q=>?_))))))
   ·cases sE q
    refine OL (E4 [] (R3 (AI TV TV)))
   cases sE q
   refine E4 [] (R3 (AI TV TV))
  refine gN (gN (gN (gN (cT (cT (OL ?_))))))
  cases sE q
  refine E4 [] (R3 (AI TV TV))
 rcases z2 with z2a | z2b
 ·dsimp only [Fx] at q
  refine AI (OL (OL (OL ?_))) TV
  obtain ⟨z6,h,q⟩:=bE q
  refine lJ h (fun x=>⟨[(0,.dat T6 d),(6,.dat T1 x.1),(19,.dat T6 place_),(20,.dat T1 (place_.length:Int)),(21,.dat T1 x.2)],[],0⟩) (fun z=>Sum.elim (fun za=>[(1,⟨[(4,D0 0),(5,.dat .bool false)],[],0⟩)]) (fun zb=>[(2,⟨[(6,.dat T1 zb)],[],0⟩)]) z) (E4 [] (R6 (AI TV TV))) (fun m=>F3 (fun at_=>fun v21 z q=>?_)) ?_
  ·have q:f206_l4 d place_ _ at_ v21=some z:=q
   unfold f206_l4 at q
   refine OL (OL (cI q (fun q=>?_) (fun q=>?_)))
   ·refine OL (OL (gI q (fun q=>?_)))
    obtain ⟨z7,hz7,q⟩:=bE q
    refine OQ ⟨Sum.elim (fun z7a=>[(0,⟨[(0,.dat T6 d),(6,.dat T1 at_),(7,.dat T1 v21),(8,.dat T1 (rd 0 place_ v21)),(19,.dat T6 place_),(20,.dat T1 (place_.length:Int)),(21,.dat T1 v21)],[],0⟩)]) (fun z7b=>[(1,⟨[(4,D0 0),(5,.dat .bool false)],[],0⟩)]) z7,?_,?_⟩
    ·have q:=hz7
     clear hz7
     unfold f206_j5 at q
     refine OL (cN q (fun q=>?_) (fun q=>?_))
     ·refine gY (gY (gY (gI q (fun q=>?_))))
      refine gY (gY (cF (cI q (fun q=>?_) (fun q=>?_))))
      ·cases sE q
       refine OL (E4 [] (R3 (AI TV TV)))
      cases sE q
      refine E4 [] (R8 (AI TV TV))
     refine gN (gN (gN (gN (gN (cT (cT (OL ?_)))))))
     cases sE q
     refine E4 [] (R3 (AI TV TV))
    rcases z7 with z7a | z7b
    ·dsimp only [Fx] at q
     refine AI (gI q (fun q=>?_)) TV
     refine EI ((i64.wrap ((i64.wrap (at_*(rd 0 d v21)))+(rd 0 place_ v21))),(i64.wrap (v21+1))) (AI q (E4 [] (R6 (AI TV TV))))
    dsimp only [Fx] at q
    refine AI ?_ TV
    cases sE q
    refine E4 [] (R3 (AI TV TV))
   cases sE q
   refine E4 [] (R2 (AI TV TV))
  rcases z6 with z6a | z6b
  ·dsimp only [Fx] at q
   refine AI ?_ TV
   cases sE q
   refine AI rfl (E4 [] (R3 (AI TV TV)))
  dsimp only [Fx] at q
  refine AI (OL ?_) TV
  cases sE q
  refine AI rfl (E4 [] (R3 (AI TV TV)))
 dsimp only [Fx] at q
 refine AI ?_ TV
 cases sE q
 refine AI rfl (E4 [] (R3 (AI TV TV)))
theorem H206:HI C206 206:=hI Tryz.f206 rfl fun x=>V206 x.1 x.2
def f178_j3 (a:Fy) (order:LI):Option Bool:=
 Ey (f91 (a.1,a.2)) fun r9=>
 bif (!r9) then
 some true
 else
 Ey (f204 order (a.1.length:Int)) fun r10=>
 some (!r10)
def f178_j2 (a:Fy) (order:LI):Option (Sum Unit Unit):=
 Ey (f178_j3 a order) fun z8=>
 bif z8 then
 some (Sum.inr ())
 else
 some (Sum.inl ())
def f178_l4 (a:Fy) (order:LI) (go:K4→Option LI) (v36:Int) (l2:LI):Option LI:=
 bif (decide (v36<order.length)) then
 E9 (0≤v36∧v36<order.length)<|
 E9 (0≤(rd 0 order v36)∧(rd 0 order v36)<a.1.length)<|
 E9 (0≤v36∧v36<l2.length)<|
 go ((i64.wrap (v36+1)),(List.set l2 (Int.toNat v36) (rd 0 a.1 (rd 0 order v36))))
 else
 some l2
def f178_l8 (order:LI) (q21_9:Bool×LI) (go:K4→Option LI) (v72:Int) (l5_2:LI):Option LI:=
 bif (decide (v72<order.length)) then
 E9 (0≤v72∧v72<order.length)<|
 E9 (0≤v72∧v72<q21_9.2.length)<|
 E9 (0≤(rd 0 order v72)∧(rd 0 order v72)<l5_2.length)<|
 go ((i64.wrap (v72+1)),(List.set l5_2 (Int.toNat (rd 0 order v72)) (rd 0 q21_9.2 v72)))
 else
 some l5_2
def f178_l7 (a:Fy) (order z11:LI) (r12:Gz) (go:K4→Option LI) (v58:Int) (l5:LI):Option LI:=
 bif (decide (v58<r12.2.2.length)) then
 Ey (f205 z11 v58) fun q21_9=>
 E9 (0≤(order.length:Int)∧(order.length:Int)≤order.length∧Int.toNat (order.length:Int)*8≤140737488355328)<|
 Ey (Fq (fun go x=>f178_l8 order q21_9 go x.1 x.2) Fv ((0:Int),(List.replicate (Int.toNat (order.length:Int)) (0:Int)))) fun z19=>
 Ey (f206 a.1 z19) fun r20=>
 E9 (0≤r20.1∧r20.1<a.2.length)<|
 E9 (0≤v58∧v58<l5.length)<|
 go ((i64.wrap (v58+1)),(List.set l5 (Int.toNat v58) (rd 0 a.2 r20.1)))
 else
 some l5
def f178 (a:Fy) (order:LI):Option Gz:=
 Ey (f178_j2 a order) fun z5=>
 Fx z5 (fun z5a=>
 E9 (0≤(order.length:Int)∧(order.length:Int)≤order.length∧Int.toNat (order.length:Int)*8≤140737488355328)<|
 Ey (Fq (fun go x=>f178_l4 a order go x.1 x.2) Fv ((0:Int),(List.replicate (Int.toNat (order.length:Int)) (0:Int)))) fun z11=>
 Ey (f171 z11 (0:Int)) fun r12=>
 Ey (Fq (fun go x=>f178_l7 a order z11 r12 go x.1 x.2) Fv ((0:Int),r12.2.2)) fun z18=>
 some ((0:Int),r12.2.1,z18)) (fun z5b=>
 some ((1:Int),[],[]))
def C178:Con:=⟨Fy×LI,Gz,0,fun x=>[.dat T9 x.1,.dat T6 x.2],NX,fun x=>f178 x.1 x.2,fun y=>[.raw true [(.osl 0),(.osl 1)],.dat T1 y.1],fun y=>[(0,.arr 3 T1 y.2.1),(1,.arr 57 T1 y.2.2)],2⟩
theorem V178 a order y (q:f178 a order=some y):VC Tryz.f178 C178 (a,order) y:=by
 unfold f178 at q
 refine OL ?_
 obtain ⟨z5,hz5,q⟩:=bE q
 let e0:LE:=fun zz=>(1,.dat T6 order)::(2,P0 0 0)::(4,P0 1 0)::zz
 let h1:LH:=fun zz=>(0,.cells [(.d T6 a.1),(.d T6 a.2)])::(1,.cells [N0,N0])::zz
 refine OQ ⟨Sum.elim (fun z5a=>[(0,⟨e0 [],h1 [],2⟩)]) (fun z5b=>[(1,⟨[(4,P0 0 0),(5,D0 1)],[(0,.cells [N0,N0])],1⟩)]) z5,?_,?_⟩
 ·have q:=hz5
  clear hz5
  unfold f178_j2 at q
  obtain ⟨z8,hz8,q⟩:=bE q
  refine OQ ⟨[(0,⟨e0 [(29,.dat .bool z8)],h1 [],2⟩)],?_,?_⟩
  ·have q:=hz8
   clear hz8
   unfold f178_j3 at q
   obtain ⟨r9,h,q⟩:=bE q
   refine OL (cA H91 (a.1,a.2) h rfl (R2 (K0 (cN q (fun q=>?_) (fun q=>?_)))))
   ·refine gY (gY (gY (gY ?_)))
    obtain ⟨r10,h,q⟩:=bE q
    refine OL (cA H204 (order,(a.1.length:Int)) h rfl (R2 (K0 (gY (cF ?_)))))
    cases sE q
    refine E4 I2 (R3 (AI (R2 TV) (R2 TV)))
   refine gN (gN (gN (gN (gN (cT ?_)))))
   cases sE q
   refine E4 I2 (R3 (AI (R2 TV) (R2 TV)))
  refine AI (cI q (fun q=>?_) (fun q=>?_)) TV
  ·refine OL (OL ?_)
   cases sE q
   refine E4 (iuR [2]) (R2 (AJ (AI rfl TV)))
  cases sE q
  refine E4 I2 (R2 (AI (R2 TV) (R2 TV)))
 rcases z5 with z5a | z5b
 ·dsimp only [Fx] at q
  refine AI (OL (gI q (fun q=>?_))) TV
  refine OL (OL ?_)
  obtain ⟨z11,h,q⟩:=bE q
  refine lJ h (fun x=>⟨e0 [(6,O0 2),(34,.dat T6 order),(35,.dat T1 (order.length:Int)),(36,.dat T1 x.1)],h1 [(2,.arr 3 T1 x.2)],3⟩) (fun z=>[(2,⟨e0 [(6,O0 2)],h1 [(2,.arr 3 T1 z)],3⟩)]) (E4 I3 (R5 (AI (R3 TV) (R3 TV)))) (fun m=>F3 (fun v36=>fun l2 z q=>?_)) ?_
  ·have q:f178_l4 a order _ v36 l2=some z:=q
   unfold f178_l4 at q
   refine OL (OL (cI q (fun q=>?_) (fun q=>?_)))
   ·refine OL (OL (gI q (fun q=>?_)))
    refine gI q (fun q=>?_)
    refine gI q (fun q=>?_)
    refine OL (EI ((i64.wrap (v36+1)),(List.set l2 (Int.toNat v36) (rd 0 a.1 (rd 0 order v36)))) (AI q (E4 I3 (R5 (AI (R3 TV) (R3 TV))))))
   cases sE q
   refine E4 I3 (R2 (AI (R3 TV) (R3 TV)))
  refine AI (OL ?_) TV
  obtain ⟨r12,h,q⟩:=bE q
  refine OL (cD H171 (z11,(0:Int)) h rfl (R2 (AI (fun _=>rfl) (R2 (AI TV (AI TV (OL (OL (OL ?_)))))))))
  obtain ⟨z18,h,q⟩:=bE q
  refine lJ h (fun x=>⟨e0 [(6,O0 2),(9,P0 3 0),(57,.dat T1 (r12.2.2.length:Int)),(58,.dat T1 x.1)],h1 [(2,.arr 3 T1 z11),(3,.cells [(.osl 4),(.osl 5)]),(4,.arr 3 T1 r12.2.1),(5,.arr 57 T1 x.2)],6⟩) (fun z=>[(4,⟨[(4,P0 0 0),(9,P0 1 0)],[(0,.cells [N0,N0]),(1,.cells [(.osl 2),(.osl 3)]),(2,.arr 3 T1 r12.2.1),(3,.arr 57 T1 z)],4⟩)]) (E4 (iuR [1,2,3,6,4,5]) (R4 (AI (R4 TV) (R6 TV)))) (fun m=>F3 (fun v58=>fun l5 z q=>?_)) ?_
  ·have q:f178_l7 a order z11 r12 _ v58 l5=some z:=q
   unfold f178_l7 at q
   refine OL (OL (cI q (fun q=>?_) (fun q=>?_)))
   ·refine OL (OL (OL ?_))
    obtain ⟨q21_9,h,q⟩:=bE q
    refine OL (cD H205 (z11,v58) h rfl (R2 (AI (fun _=>rfl) (R2 (AI TV (AI TV (OL (gI q (fun q=>?_)))))))))
    refine OL (OL ?_)
    obtain ⟨z19,h,q⟩:=bE q
    refine lJ h (fun x=>⟨e0 [(6,O0 2),(9,P0 3 0),(11,.dat T1 v58),(12,O0 4),(14,O0 5),(57,.dat T1 (r12.2.2.length:Int)),(58,.dat T1 v58),(70,.dat T6 order),(71,.dat T1 (order.length:Int)),(72,.dat T1 x.1)],h1 [(2,.arr 3 T1 z11),(3,.cells [(.osl 6),(.osl 7)]),(4,.arr 3 T1 q21_9.2),(5,.arr 3 T1 x.2),(6,.arr 3 T1 r12.2.1),(7,.arr 57 T1 l5)],8⟩) (fun z=>[(6,⟨e0 [(6,O0 2),(9,P0 3 0),(11,.dat T1 v58),(14,O0 4),(57,.dat T1 (r12.2.2.length:Int)),(58,.dat T1 v58)],h1 [(2,.arr 3 T1 z11),(3,.cells [(.osl 5),(.osl 6)]),(4,.arr 3 T1 z),(5,.arr 3 T1 r12.2.1),(6,.arr 57 T1 l5)],7⟩)]) (E4 (iuR [1,2,3,4,7,8,5,6]) (R8 (AI (R6 TV) (R8 TV)))) (fun m=>F3 (fun v72=>fun l5_2 z q=>?_)) ?_
    ·have q:f178_l8 order q21_9 _ v72 l5_2=some z:=q
     unfold f178_l8 at q
     refine OL (OL (cI q (fun q=>?_) (fun q=>?_)))
     ·refine OL (OL (gI q (fun q=>?_)))
      refine gI q (fun q=>?_)
      refine gI q (fun q=>?_)
      refine OL (EI ((i64.wrap (v72+1)),(List.set l5_2 (Int.toNat (rd 0 order v72)) (rd 0 q21_9.2 v72))) (AI q (E4 I8 (R8 (AI (R6 TV) (R8 TV))))))
     cases sE q
     refine E4 (iuR [1,2,3,4,6,7,8]) (R5 (AI (R5 TV) (R7 TV)))
    refine AI (OL ?_) TV
    obtain ⟨r20,h,q⟩:=bE q
    refine OL (cD H206 (a.1,z19) h rfl (R2 (AI (fun _=>rfl) (R2 (AI TV (AI TV (EI (tU 0 9 (.alt 9 .done .done)) (EI [] (EI [] (AI rfl (gI q (fun q=>?_))))))))))))
    refine gI q (fun q=>?_)
    refine AI TV (OL (EI ((i64.wrap (v58+1)),(List.set l5 (Int.toNat v58) (rd 0 a.2 r20.1))) (AI q (E4 (iuR [1,2,3,4,6,7]) (R4 (AI (R4 TV) (R6 TV)))))))
   cases sE q
   refine E4 (iuR [2,4,5,6]) (AI rfl (AI (R2 TV) (R4 TV)))
  refine AI (OL (OL ?_)) TV
  cases sE q
  refine AI rfl (E4 (iuR [3,4]) (R2 (AJ (R2 TV))))
 dsimp only [Fx] at q
 refine AI ?_ TV
 cases sE q
 refine AI rfl (E4 (iuR [0,0]) (R2 (AJ (R2 TV))))
theorem H178:HI C178 178:=hI Tryz.f178 rfl fun x=>V178 x.1 x.2
def f144 (a:Fy):Option Gz:=
 Ey (f91 (a.1,a.2)) fun r1=>
 bif (!r1) then
 some ((1:Int),[],[])
 else
 Ey (f170 (a.1,a.2)) fun r2=>
 bif (!r2) then
 some ((4:Int),[],[])
 else
 Ey (f178 (a.1,a.2) ([(1:Int),(0:Int)])) fun r3=>
 some (r3.1,r3.2.1,r3.2.2)
def C144:Con:=⟨Fy,Gz,0,fun x=>[.dat T9 x],NX,fun x=>f144 x,fun y=>[.raw true [(.osl 0),(.osl 1)],.dat T1 y.1],fun y=>[(0,.arr 3 T1 y.2.1),(1,.arr 57 T1 y.2.2)],2⟩
theorem V144 a y (q:f144 a=some y):VC Tryz.f144 C144 a y:=by
 unfold f144 at q
 refine OL (OL (OL ?_))
 obtain ⟨r1,h,q⟩:=bE q
 refine OL (cA H91 (a.1,a.2) h rfl (R2 (K0 (cI q (fun q=>?_) (fun q=>?_)))))
 ·refine OL (OL ?_)
  cases sE q
  refine AI rfl (E4 (iuR [0,0]) (R2 (AJ (R2 TV))))
 refine OL ?_
 obtain ⟨r2,h,q⟩:=bE q
 refine OL (cA H170 (a.1,a.2) h rfl (R2 (K0 (cI q (fun q=>?_) (fun q=>?_)))))
 ·refine OL (OL ?_)
  cases sE q
  refine AI rfl (E4 (iuR [0,0]) (R2 (AJ (R2 TV))))
 refine OL (OL ?_)
 obtain ⟨r3,h,q⟩:=bE q
 refine OL (cD H178 ((a.1,a.2),[(1:Int),(0:Int)]) h rfl (R3 (AI (fun _=>rfl) (R2 (AI TV (AI TV (OL ?_)))))))
 cases sE q
 refine AI rfl (E4 (iuR [4,5]) (R2 (AJ (R2 TV))))
theorem H144:HI C144 144:=hI Tryz.f144 rfl fun x=>V144 x
def f210 (v:Int):Option Int:=
 bif (decide (v<0)) then
 some (u64.wrap (0-(u64.wrap v)))
 else
 some (u64.wrap v)
def C210:Con:=⟨Int,Int,0,fun x=>[.dat T1 x],NX,fun x=>f210 x,fun y=>[.dat T10 y],NX,0⟩
theorem V210 v y (q:f210 v=some y):VC Tryz.f210 C210 v y:=by
 unfold f210 at q
 refine OL (OL (OL (cI q (fun q=>?_) (fun q=>?_))))
 ·cases sE q
  refine OL (AI rfl (E4 [] (R2 (AI TV TV))))
 cases sE q
 refine OL (AI rfl (E4 [] (R2 (AI TV TV))))
theorem H210:HI C210 210:=hI Tryz.f210 rfl fun x=>V210 x
def f227 (a b:F9):Option F9:=
 Ey (sub64 a.2 b.2 (0:Int)) fun r1=>
 Ey (sub64 (u64.wrap a.1) (u64.wrap b.1) r1.2) fun r2=>
 some ((i64.wrap r2.1),r1.1)
def C227:Con:=⟨F9×F9,F9,0,fun x=>[.dat T11 x.1,.dat T11 x.2],NX,fun x=>f227 x.1 x.2,fun y=>[.raw true [(.d T1 y.1),(.d T10 y.2)]],NX,0⟩
theorem V227 a b y (q:f227 a b=some y):VC Tryz.f227 C227 (a,b) y:=by
 unfold f227 at q
 refine OL (OL ?_)
 obtain ⟨r1,h,q⟩:=bE q
 refine OQ ⟨ext3 sub64,[r1.1,r1.2],sub64_ok,AI (ext3I h) ?_⟩
 refine OL ?_
 obtain ⟨r2,h,q⟩:=bE q
 refine OQ ⟨ext3 sub64,[r2.1,r2.2],sub64_ok,AI (ext3I h) ?_⟩
 refine OL (OL ?_)
 cases sE q
 refine AI rfl (E4 [] (AI rfl (AJ TV)))
theorem H227:HI C227 227:=hI Tryz.f227 rfl fun x=>V227 x.1 x.2
def f212 (a:F9):Option F9:=
 Ey (f227 ((0:Int),(0:Int)) (a.1,a.2)) fun r1=>
 some (r1.1,r1.2)
def C212:Con:=⟨F9,F9,0,fun x=>[.dat T11 x],NX,fun x=>f212 x,fun y=>[.raw true [(.d T1 y.1),(.d T10 y.2)]],NX,0⟩
theorem V212 a y (q:f212 a=some y):VC Tryz.f212 C212 a y:=by
 unfold f212 at q
 refine OL (OL ?_)
 obtain ⟨r1,h,q⟩:=bE q
 refine OL (cA H227 (((0:Int),(0:Int)),(a.1,a.2)) h rfl (R4 (K0 (OL ?_))))
 cases sE q
 refine AI rfl (E4 [] (AI rfl (AJ TV)))
theorem H212:HI C212 212:=hI Tryz.f212 rfl fun x=>V212 x
def f202 (a b:Int):Option F9:=
 Ey (f210 a) fun r1=>
 Ey (f210 b) fun r2=>
 Ey (f197 r1 r2) fun r3=>
 bif (!((decide (a<0))==(decide (b<0)))) then
 Ey (f212 ((i64.wrap r3.1),r3.2)) fun r4=>
 some (r4.1,r4.2)
 else
 some ((i64.wrap r3.1),r3.2)
def C202:Con:=⟨F9,F9,0,fun x=>[.dat T1 x.1,.dat T1 x.2],NX,fun x=>f202 x.1 x.2,fun y=>[.raw true [(.d T1 y.1),(.d T10 y.2)]],NX,0⟩
theorem V202 a b y (q:f202 a b=some y):VC Tryz.f202 C202 (a,b) y:=by
 unfold f202 at q
 refine OL (OL ?_)
 obtain ⟨r1,h,q⟩:=bE q
 refine OL (cA H210 a h rfl (AI rfl (K0 ?_)))
 obtain ⟨r2,h,q⟩:=bE q
 refine OL (cA H210 b h rfl (AI rfl (K0 ?_)))
 obtain ⟨r3,h,q⟩:=bE q
 refine OL (cA H197 (r1,r2) h rfl (R2 (K0 (OL (OL (OL (OL (cI q (fun q=>?_) (fun q=>?_)))))))))
 ·refine OL ?_
  obtain ⟨r4,h,q⟩:=bE q
  refine OL (cA H212 ((i64.wrap r3.1),r3.2) h rfl (R2 (K0 (OL ?_))))
  cases sE q
  refine AI rfl (E4 [] (AI rfl (AJ TV)))
 refine OL (OL ?_)
 cases sE q
 refine AI rfl (E4 [] (AI rfl (AJ TV)))
theorem H202:HI C202 202:=hI Tryz.f202 rfl fun x=>V202 x.1 x.2
def f176 (s_top s_low_Hi s_low_Lo a b:Int):Option (Int×F9):=
 Ey (f202 a b) fun q4_13=>
 Ey (K3 s_low_Lo q4_13.2 (0:Int)) fun q1_7=>
 Ey (K3 (u64.wrap s_low_Hi) (u64.wrap q4_13.1) q1_7.2) fun q2_10=>
 some ((i64.wrap (s_top+(i64.wrap ((Int.fdiv q4_13.1 (2 ^ min (Int.toNat (63:Int)) i64.bits))+(i64.wrap q2_10.2))))),(i64.wrap q2_10.1),q1_7.1)
def C176:Con:=⟨PTz15,Int×F9,1,fun x=>[P0 0 0,.dat T1 x.2.2.2.1,.dat T1 x.2.2.2.2],fun x=>[(0,.cells [(.d T1 x.1),(.d T1 x.2.1),(.d T10 x.2.2.1)])],fun x=>f176 x.1 x.2.1 x.2.2.1 x.2.2.2.1 x.2.2.2.2,fun y=>[],fun y=>[(0,.cells [(.d T1 y.1),(.d T1 y.2.1),(.d T10 y.2.2)])],1⟩
theorem V176 s_top s_low_Hi s_low_Lo a b y (q:f176 s_top s_low_Hi s_low_Lo a b=some y):VE Tryz.f176 1 C176 (s_top,s_low_Hi,s_low_Lo,a,b) y:=by
 unfold f176 at q
 refine OL ?_
 obtain ⟨q4_13,h,q⟩:=bE q
 refine OL (cA H202 (a,b) h rfl (R2 (K0 (OL (OL (EI (tU 0 7 (.alt 7 (tU 8 5 .done) .done)) (EI [] (EI [] (AI rfl (AI TV ?_))))))))))
 obtain ⟨q1_7,h,q⟩:=bE q
 refine OQ ⟨ext3 K3,[q1_7.1,q1_7.2],K2,AI (ext3I h) ?_⟩
 refine OL (EI (tU 0 10 (.alt 10 (tU 11 5 .done) .done)) (EI [] (EI [] (AI rfl (AI TV ?_)))))
 obtain ⟨q2_10,h,q⟩:=bE q
 refine OQ ⟨ext3 K3,[q2_10.1,q2_10.2],K2,AI (ext3I h) ?_⟩
 refine OL (OL (EI (tU 0 13 (.alt 13 .done .done)) (EI [(13,[0])] (EI [] (AI rfl (AI (by decide) (AI TV (OL ?_))))))))
 cases sE q
 refine AI rfl (E4 (iuR [1]) (AI rfl (AI TV (AI rfl TV))))
theorem H176:HI C176 176:=hI Tryz.f176 rfl fun x=>V176 x.1 x.2.1 x.2.2.1 x.2.2.2.1 x.2.2.2.2
def f224 (a:F9) (n:Int):Option PTz1:=
 bif (decide (n≥64)) then
 E9 (0≤(i64.wrap (n-64)))<|
 E9 (0≤(i64.wrap ((64:Int)-(i64.wrap (n-64)))))<|
 E9 (0≤(i64.wrap (n-64)))<|
 E9 (0≤(i64.wrap ((64:Int)-(i64.wrap (n-64)))))<|
 some ((Int.fdiv a.1 (2 ^ min (Int.toNat (63:Int)) i64.bits)),(u64.wrap (Int.fdiv a.1 (2 ^ min (Int.toNat (i64.wrap (n-64))) i64.bits))),(Ft IntKind.u64 (fun p q=>p||| q) (u64.wrap ((u64.wrap a.1)*2 ^ min (Int.toNat (i64.wrap ((64:Int)-(i64.wrap (n-64))))) u64.bits)) (Int.fdiv a.2 (2 ^ min (Int.toNat (i64.wrap (n-64))) u64.bits))),(u64.wrap (a.2*2 ^ min (Int.toNat (i64.wrap ((64:Int)-(i64.wrap (n-64))))) u64.bits)))
 else
 E9 (0≤n)<|
 E9 (0≤(i64.wrap ((64:Int)-n)))<|
 E9 (0≤n)<|
 E9 (0≤(i64.wrap ((64:Int)-n)))<|
 some ((Int.fdiv a.1 (2 ^ min (Int.toNat n) i64.bits)),(Ft IntKind.u64 (fun p q=>p||| q) (u64.wrap ((u64.wrap a.1)*2 ^ min (Int.toNat (i64.wrap ((64:Int)-n))) u64.bits)) (Int.fdiv a.2 (2 ^ min (Int.toNat n) u64.bits))),(u64.wrap (a.2*2 ^ min (Int.toNat (i64.wrap ((64:Int)-n))) u64.bits)),(0:Int))
def C224:Con:=⟨F9×Int,PTz1,0,fun x=>[.dat T11 x.1,.dat T1 x.2],NX,fun x=>f224 x.1 x.2,fun y=>[.raw true [(.d T1 y.1),(.d T10 y.2.1)],.dat T10 y.2.2.1,.dat T10 y.2.2.2],NX,0⟩
theorem V224 a n y (q:f224 a n=some y):VC Tryz.f224 C224 (a,n) y:=by
 unfold f224 at q
 refine OL (OL (EI (tU 0 7 .done) (EI [] (EI [] (AI rfl (OL (OL (cI q (fun q=>?_) (fun q=>?_)))))))))
 ·refine OL (OL (EI (tU 0 9 (.alt 9 (.alt 10 .done .done) .done)) (EI [] (EI [] (AI rfl (AI (by decide) (gI q (fun q=>?_))))))))
  refine AI TV (AI TV (OL (OL (EI (tU 0 13 (.alt 13 (.take 14 (.take 15 .done)) .done)) (EI [] (EI [] (AI rfl (gI q (fun q=>?_)))))))))
  refine gI q (fun q=>?_)
  refine gI q (fun q=>?_)
  refine AI TV (OL ?_)
  cases sE q
  refine AI rfl (E4 [] (R3 (AJ TV)))
 refine OL (EI (tU 0 17 (.alt 17 (.take 18 (.take 19 .done)) .done)) (EI [] (EI [] (AI rfl (gI q (fun q=>?_))))))
 refine gI q (fun q=>?_)
 refine gI q (fun q=>?_)
 refine gI q (fun q=>?_)
 refine AI TV (OL ?_)
 cases sE q
 refine AI rfl (E4 [] (R3 (AJ TV)))
theorem H224:HI C224 224:=hI Tryz.f224 rfl fun x=>V224 x.1 x.2
def f181 (n:Int):Option F9:=
 some ((Int.fdiv n (2 ^ min (Int.toNat (63:Int)) i64.bits)),(u64.wrap n))
def C181:Con:=⟨Int,F9,0,fun x=>[.dat T1 x],NX,fun x=>f181 x,fun y=>[.raw true [(.d T1 y.1),(.d T10 y.2)]],NX,0⟩
theorem V181 n y (q:f181 n=some y):VC Tryz.f181 C181 n y:=by
 unfold f181 at q
 refine OL (OL (AI (by decide) (OL ?_)))
 cases sE q
 refine AI rfl (E4 [] (AI rfl (AJ TV)))
theorem H181:HI C181 181:=hI Tryz.f181 rfl fun x=>V181 x
def f180 (a b:F9):Option F9:=
 Ey (K3 a.2 b.2 (0:Int)) fun r1=>
 Ey (K3 (u64.wrap a.1) (u64.wrap b.1) r1.2) fun r2=>
 some ((i64.wrap r2.1),r1.1)
def C180:Con:=⟨F9×F9,F9,0,fun x=>[.dat T11 x.1,.dat T11 x.2],NX,fun x=>f180 x.1 x.2,fun y=>[.raw true [(.d T1 y.1),(.d T10 y.2)]],NX,0⟩
theorem V180 a b y (q:f180 a b=some y):VC Tryz.f180 C180 (a,b) y:=by
 unfold f180 at q
 refine OL (OL ?_)
 obtain ⟨r1,h,q⟩:=bE q
 refine OQ ⟨ext3 K3,[r1.1,r1.2],K2,AI (ext3I h) ?_⟩
 refine OL ?_
 obtain ⟨r2,h,q⟩:=bE q
 refine OQ ⟨ext3 K3,[r2.1,r2.2],K2,AI (ext3I h) ?_⟩
 refine OL (OL ?_)
 cases sE q
 refine AI rfl (E4 [] (AI rfl (AJ TV)))
theorem H180:HI C180 180:=hI Tryz.f180 rfl fun x=>V180 x.1 x.2
def f203_j1 (n:Int):Option (Sum Unit Unit):=
 bif (decide (n<1)) then
 some (Sum.inr ())
 else
 bif (decide (n>126)) then
 some (Sum.inr ())
 else
 some (Sum.inl ())
def f203_j2 (q5_3:PTz1):Option Bool:=
 bif (decide (q5_3.2.2.1>9223372036854775808)) then
 some true
 else
 bif (q5_3.2.2.1==9223372036854775808) then
 bif (decide (q5_3.2.2.2>0)) then
 some true
 else
 some ((Ft IntKind.u64 (fun p q=>p&&& q) q5_3.2.1 (1:Int))==1)
 else
 some false
def f203 (a:F9) (n:Int):Option F9:=
 Ey (f203_j1 n) fun z1=>
 Fx z1 (fun z1a=>
 Ey (f224 (a.1,a.2) n) fun q5_3=>
 Ey (f203_j2 q5_3) fun z2=>
 bif z2 then
 Ey (f181 (1:Int)) fun q5_1=>
 Ey (f180 (q5_3.1,q5_3.2.1) (q5_1.1,q5_1.2)) fun q5_2=>
 some (q5_2.1,q5_2.2)
 else
 some (q5_3.1,q5_3.2.1)) (fun z1b=>
 some (a.1,a.2))
def C203:Con:=⟨F9×Int,F9,0,fun x=>[.dat T11 x.1,.dat T1 x.2],NX,fun x=>f203 x.1 x.2,fun y=>[.raw true [(.d T1 y.1),(.d T10 y.2)]],NX,0⟩
theorem V203 a n y (q:f203 a n=some y):VC Tryz.f203 C203 (a,n) y:=by
 unfold f203 at q
 refine OL ?_
 obtain ⟨z1,hz1,q⟩:=bE q
 refine OQ ⟨Sum.elim (fun z1a=>[(0,⟨[(1,.dat T1 n),(2,P0 0 0),(4,P0 1 0)],[(0,.cells [(.d T1 a.1),(.d T10 a.2)]),(1,.cells [(.d T1 (0:Int)),(.d T10 (0:Int))])],2⟩)]) (fun z1b=>[(1,⟨[(4,P0 0 0)],[(0,.cells [(.d T1 a.1),(.d T10 a.2)])],1⟩)]) z1,?_,?_⟩
 ·have q:=hz1
  clear hz1
  unfold f203_j1 at q
  refine OL (cN q (fun q=>?_) (fun q=>?_))
  ·refine gY (cF (cI q (fun q=>?_) (fun q=>?_)))
   ·refine OL (OL ?_)
    cases sE q
    refine E4 (iuR [2]) (AI rfl (AJ (AI rfl TV)))
   cases sE q
   refine E4 I2 (R2 (AI (R2 TV) (R2 TV)))
  refine gN (cT (cT (OL (OL ?_))))
  cases sE q
  refine E4 (iuR [2]) (AI rfl (AJ (AI rfl TV)))
 rcases z1 with z1a | z1b
 ·dsimp only [Fx] at q
  refine AI (OL ?_) TV
  obtain ⟨q5_3,h,q⟩:=bE q
  refine OL (cA H224 ((a.1,a.2),n) h rfl (R3 (K0 (OL (OL ?_)))))
  obtain ⟨z2,hz2,q⟩:=bE q
  refine OQ ⟨[(0,⟨[(4,P0 0 0),(5,P0 1 0),(37,.dat .bool z2)],[(0,.cells [(.d T1 (0:Int)),(.d T10 (0:Int))]),(1,.cells [(.d T1 q5_3.1),(.d T10 q5_3.2.1)])],2⟩)],?_,?_⟩
  ·have q:=hz2
   clear hz2
   unfold f203_j2 at q
   refine cN q (fun q=>?_) (fun q=>?_)
   ·refine gY (gY (cI q (fun q=>?_) (fun q=>?_)))
    ·refine gX (gX (cN q (fun q=>?_) (fun q=>?_)))
     ·refine gY (gY (gY (gX (cF (gY (cT (cF ?_)))))))
      cases sE q
      refine E4 (iuR [2,3]) (R2 (AI (R2 TV) (R2 TV)))
     refine gN (gN (gN (gX (cT (gY (cT (cF ?_)))))))
     cases sE q
     refine E4 (iuR [2,3]) (R2 (AI (R2 TV) (R2 TV)))
    refine gM (gM (gM (gY (cF (cF ?_)))))
    cases sE q
    refine E4 (iuR [2,3]) (R2 (AI (R2 TV) (R2 TV)))
   refine gN (gN (gN (cT ?_)))
   cases sE q
   refine E4 (iuR [2,3]) (R2 (AI (R2 TV) (R2 TV)))
  refine AI (cI q (fun q=>?_) (fun q=>?_)) TV
  ·refine OL (EI (.take 0 (.alt 1 (.alt 2 (.alt 3 .done .done) .done) .done)) (EI [] (EI [] (AI rfl (AI TV ?_)))))
   obtain ⟨q5_1,h,q⟩:=bE q
   refine OL (cA H181 (1:Int) h rfl (AI rfl (K0 (AI TV ?_))))
   obtain ⟨q5_2,h,q⟩:=bE q
   refine OL (cA H180 ((q5_3.1,q5_3.2.1),(q5_1.1,q5_1.2)) h rfl (R4 (K0 (AI TV (OL ?_)))))
   cases sE q
   refine AI rfl (E4 [] (AI rfl (AJ TV)))
  refine OL (OL ?_)
  cases sE q
  refine AI rfl (E4 [] (AI rfl (AJ TV)))
 dsimp only [Fx] at q
 refine AI ?_ TV
 cases sE q
 refine AI rfl (E4 [] (AI rfl (AJ TV)))
theorem H203:HI C203 203:=hI Tryz.f203 rfl fun x=>V203 x.1 x.2
def f182_j3 (a:F9):Option Bool:=
 bif (decide (a.1>0)) then
 some true
 else
 bif (a.1==0) then
 some (decide (a.2≥9223372036854775808))
 else
 some false
def f182_j2 (a:F9):Option (Sum Unit Int):=
 Ey (f182_j3 a) fun z3=>
 bif z3 then
 some (Sum.inr (9223372036854775807:Int))
 else
 bif (decide (a.1<(-1:Int))) then
 some (Sum.inr (-9223372036854775808:Int))
 else
 bif (a.1==(-1:Int)) then
 bif (decide (a.2<9223372036854775808)) then
 some (Sum.inr (-9223372036854775808:Int))
 else
 some (Sum.inl ())
 else
 some (Sum.inl ())
def f182 (a:F9):Option Int:=
 Ey (f182_j2 a) fun z2=>
 Fx z2 (fun z2a=>
 some (i64.wrap a.2)) (fun z2b=>
 some z2b)
def C182:Con:=⟨F9,Int,0,fun x=>[.dat T11 x],NX,fun x=>f182 x,fun y=>[.dat T1 y],NX,0⟩
theorem V182 a y (q:f182 a=some y):VC Tryz.f182 C182 a y:=by
 unfold f182 at q
 refine OL ?_
 obtain ⟨z2,hz2,q⟩:=bE q
 refine OQ ⟨Sum.elim (fun z2a=>[(0,⟨[(1,P0 0 0)],[(0,.cells [(.d T1 a.1),(.d T10 a.2)])],1⟩)]) (fun z2b=>[(1,⟨[(2,.dat T1 z2b)],[],0⟩)]) z2,?_,?_⟩
 ·have q:=hz2
  clear hz2
  unfold f182_j2 at q
  obtain ⟨z3,hz3,q⟩:=bE q
  refine OQ ⟨[(0,⟨[(1,P0 0 0),(3,.dat .bool z3)],[(0,.cells [(.d T1 a.1),(.d T10 a.2)])],1⟩)],?_,?_⟩
  ·have q:=hz3
   clear hz3
   unfold f182_j3 at q
   refine cN q (fun q=>?_) (fun q=>?_)
   ·refine gY (gY (gY (cI q (fun q=>?_) (fun q=>?_))))
    ·refine gX (gX (gY (cT (cF ?_))))
     cases sE q
     refine E4 (iuR [1]) (R2 (AJ (AI rfl TV)))
    refine gM (gM (gY (cF (cF ?_))))
    cases sE q
    refine E4 (iuR [1]) (R2 (AJ (AI rfl TV)))
   refine gN (gN (gN (gN (cT ?_))))
   cases sE q
   refine E4 (iuR [1]) (R2 (AJ (AI rfl TV)))
  refine AI (cI q (fun q=>?_) (fun q=>?_)) TV
  ·cases sE q
   refine OL (E4 [] (R2 (AI TV TV)))
  refine OL (cN q (fun q=>?_) (fun q=>?_))
  ·refine gY (gY (gY (cI q (fun q=>?_) (fun q=>?_))))
   ·refine gX (gX (gY (cT (cF (cI q (fun q=>?_) (fun q=>?_))))))
    ·cases sE q
     refine OL (E4 [] (R2 (AI TV TV)))
    cases sE q
    refine E4 (iuR [1]) (AI rfl (AJ (AI rfl TV)))
   refine gM (gM (gY (cF (cF (cF ?_)))))
   cases sE q
   refine E4 (iuR [1]) (AI rfl (AJ (AI rfl TV)))
  refine gN (gN (gN (gN (cT (cT (OL ?_))))))
  cases sE q
  refine E4 [] (R2 (AI TV TV))
 rcases z2 with z2a | z2b
 ·dsimp only [Fx] at q
  refine AI (OL ?_) TV
  cases sE q
  refine AI rfl (E4 [] (R2 (AI TV TV)))
 dsimp only [Fx] at q
 refine AI ?_ TV
 cases sE q
 refine AI rfl (E4 [] (R2 (AI TV TV)))
theorem H182:HI C182 182:=hI Tryz.f182 rfl fun x=>V182 x
def f177 (s_top s_low_Hi s_low_Lo n:Int):Option PTz1:=
 bif (s_top==(Int.fdiv s_low_Hi (2 ^ min (Int.toNat (63:Int)) i64.bits))) then
 Ey (f203 (s_low_Hi,s_low_Lo) n) fun q1_11=>
 Ey (f182 (q1_11.1,q1_11.2)) fun r1=>
 some (r1,s_top,s_low_Hi,s_low_Lo)
 else
 bif (decide (s_top<0)) then
 some ((-9223372036854775808:Int),s_top,s_low_Hi,s_low_Lo)
 else
 some ((9223372036854775807:Int),s_top,s_low_Hi,s_low_Lo)
def C177:Con:=⟨PTz1,PTz1,1,fun x=>[P0 0 0,.dat T1 x.2.2.2],fun x=>[(0,.cells [(.d T1 x.1),(.d T1 x.2.1),(.d T10 x.2.2.1)])],fun x=>f177 x.1 x.2.1 x.2.2.1 x.2.2.2,fun y=>[.dat T1 y.1],fun y=>[(0,.cells [(.d T1 y.2.1),(.d T1 y.2.2.1),(.d T10 y.2.2.2)])],1⟩
theorem V177 s_top s_low_Hi s_low_Lo n y (q:f177 s_top s_low_Hi s_low_Lo n=some y):VE Tryz.f177 1 C177 (s_top,s_low_Hi,s_low_Lo,n) y:=by
 unfold f177 at q
 refine OL (OL (OL (EI (tU 0 12 .done) (EI [] (EI [] (AI rfl (AI (by decide) (cI q (fun q=>?_) (fun q=>?_)))))))))
 ·refine OL ?_
  obtain ⟨q1_11,h,q⟩:=bE q
  refine OL (cA H203 ((s_low_Hi,s_low_Lo),n) h rfl (R3 (K0 ?_)))
  obtain ⟨r1,h,q⟩:=bE q
  refine OL (cA H182 (q1_11.1,q1_11.2) h rfl (R2 (K0 ?_)))
  cases sE q
  refine AI rfl (E4 (iuR [1]) (R2 (AI TV (AI rfl TV))))
 refine OL (cI q (fun q=>?_) (fun q=>?_))
 ·cases sE q
  refine OL (AI rfl (E4 (iuR [1]) (R2 (AI TV (AI rfl TV)))))
 cases sE q
 refine OL (AI rfl (E4 (iuR [1]) (R2 (AI TV (AI rfl TV)))))
theorem H177:HI C177 177:=hI Tryz.f177 rfl fun x=>V177 x.1 x.2.1 x.2.2.1 x.2.2.2
end Go.Proofs
