import Derived.Test.YtokgamncgleelaaGreatGradSaysS2
set_option linter.unusedVariables false
set_option maxRecDepth 100000
set_option maxHeartbeats 8000000
namespace Go.Proofs
open Go.AM
open IntKind (i64 u64 i32 u32 i16 u16 i8 u8)
def f148_l1 (h e j g n:Int) (k:(Int×PTz4)→Option PTz4) (i c b d a:Int):Option PTz4:=
 bif (decide (i<256)) then
 D4 (f183 h e j g i) fun l=>
 bif (l==1) then
 Ey (0≤(i64.wrap (Int.tdiv (i64.wrap (i-n)) (64:Int)))∧(i64.wrap (Int.tdiv (i64.wrap (i-n)) (64:Int)))<4)<|
 pickF (i64.wrap (Int.tdiv (i64.wrap (i-n)) (64:Int)))
 [(Ey (0≤(u64.wrap (Int.tmod (i64.wrap (i-n)) (64:Int))))<|
 k ((i64.wrap (i+1)),(Fv IntKind.u64 (fun p q=>p||| q) c (u64.wrap ((1:Int)*2 ^ min (Int.toNat (u64.wrap (Int.tmod (i64.wrap (i-n)) (64:Int)))) u64.bits))),b,d,a)),
 (Ey (0≤(u64.wrap (Int.tmod (i64.wrap (i-n)) (64:Int))))<|
 k ((i64.wrap (i+1)),c,(Fv IntKind.u64 (fun p q=>p||| q) b (u64.wrap ((1:Int)*2 ^ min (Int.toNat (u64.wrap (Int.tmod (i64.wrap (i-n)) (64:Int)))) u64.bits))),d,a)),
 (Ey (0≤(u64.wrap (Int.tmod (i64.wrap (i-n)) (64:Int))))<|
 k ((i64.wrap (i+1)),c,b,(Fv IntKind.u64 (fun p q=>p||| q) d (u64.wrap ((1:Int)*2 ^ min (Int.toNat (u64.wrap (Int.tmod (i64.wrap (i-n)) (64:Int)))) u64.bits))),a)),
 (Ey (0≤(u64.wrap (Int.tmod (i64.wrap (i-n)) (64:Int))))<|
 k ((i64.wrap (i+1)),c,b,d,(Fv IntKind.u64 (fun p q=>p||| q) a (u64.wrap ((1:Int)*2 ^ min (Int.toNat (u64.wrap (Int.tmod (i64.wrap (i-n)) (64:Int)))) u64.bits)))))]
 else
 k ((i64.wrap (i+1)),c,b,d,a)
 else
 some (c,b,d,a)
def f148_j2 (c a d b n:Int):Option (Sum Unit Unit):=
 bif (n==0) then
 some (Sum.inr ())
 else
 D4 (f183 c a d b (i64.wrap (n-1))) fun e=>
 bif (e==0) then
 some (Sum.inr ())
 else
 some (Sum.inl ())
def f148_l3 (d b e c n:Int) (h:(Bool×Int)→Option Bool) (a:Bool) (i:Int):Option Bool:=
 bif (decide (i<(i64.wrap (n-1)))) then
 bif a then
 h (true,(i64.wrap (i+1)))
 else
 D4 (f183 d b e c i) fun g=>
 h ((g==1),(i64.wrap (i+1)))
 else
 some a
def f148 (a:Bool) (d b e c n:Int):Option Jt:=
 D4 (Fp (fun j x=>f148_l1 d b e c n j x.1 x.2.1 x.2.2.1 x.2.2.2.1 x.2.2.2.2) Fq (n,(0:Int),(0:Int),(0:Int),(0:Int))) fun g=>
 D4 (f148_j2 d b e c n) fun l=>
 F5 l (fun k=>
 D4 (Fp (fun j x=>f148_l3 d b e c n j x.1 x.2) Fq (((Fv IntKind.u64 (fun p q=>p&&& q) g.1 (1:Int))==1),(0:Int))) fun i=>
 bif i then
 D4 (f138 g.1 g.2.1 g.2.2.1 g.2.2.2 (1:Int) (0:Int) (0:Int) (0:Int)) fun h=>
 some (a,h.1,h.2.1,h.2.2.1,h.2.2.2)
 else
 some (a,g.1,g.2.1,g.2.2.1,g.2.2.2)) (fun m=>
 some (a,g.1,g.2.1,g.2.2.1,g.2.2.2))
instance H148 (c:Bool) (l j d k n:Int): HE 148 [.raw true [(.d .bool c),(.d T8 l),(.d T8 j),(.d T8 d),(.d T8 k)],.dat T0 n] (f148 c l j d k n) (fun y=>[.raw true [(.d .bool y.1),(.d T8 y.2.1),(.d T8 y.2.2.1),(.d T8 y.2.2.2.1),(.d T8 y.2.2.2.2)]]):=hd Tryz.f148 rfl fun y q=>by
 unfold f148 at q
 refine OL (OL (OL (OL (OL ?_))))
 obtain ⟨v,b3,q⟩:=bE q
 let e0:LE:=fun zz=>(1,.dat T0 n)::(2,P0 0 0)::(4,P0 1 0)::(5,P0 2 0)::zz
 let h1:LH:=fun zz=>(0,.cells [(.d .bool c),(.d T8 l),(.d T8 j),(.d T8 d),(.d T8 k)])::(1,.cells [(.d .bool false),(.d T8 (0:Int)),(.d T8 (0:Int)),(.d T8 (0:Int)),(.d T8 (0:Int))])::zz
 refine lJ b3 (fun x=>⟨e0 [(6,.dat T0 x.1)],h1 [(2,.cells [(.d .bool c),(.d T8 x.2.1),(.d T8 x.2.2.1),(.d T8 x.2.2.2.1),(.d T8 x.2.2.2.2)])],3⟩) (fun z=>[(2,⟨e0 [],h1 [(2,.cells [(.d .bool c),(.d T8 z.1),(.d T8 z.2.1),(.d T8 z.2.2.1),(.d T8 z.2.2.2)])],3⟩)]) gV (fun m=>F3 (fun i=>F3 (fun s=>F3 (fun u=>F3 (fun t=>fun o z q=>?_))))) ?_
 ·have q:f148_l1 l j d k n _ i s u t o=some z:=q
  unfold f148_l1 at q
  refine OL (OL (cI q (fun q=>?_) (fun q=>?_)))
  ·refine OL (OL ?_)
   obtain ⟨r6,h,q⟩:=bE q
   refine cL h gW ?_
   refine R2 (AI (lQ rfl) (R2 (AJ (AI TV (cI q (fun q=>?_) (fun q=>?_))))))
   ·refine AI (by decide) (AI (by decide) (gI q (fun q=>?_)))
    refine AI (fun b=>?_) ?_
    ·have q:=Jp q b
     dsimp only [nthO] at q
     refine AI (by decide) (gI q (fun q=>?_))
     refine AI (rE b (by decide)) (AI (fun _=>?_) (AI (fun h=>absurd (b.symm.trans h) (by decide)) (AI (fun h=>absurd (b.symm.trans h) (by decide)) (AI (fun h=>absurd (b.symm.trans h) (by decide)) TV))))
     refine OL (EI ((i64.wrap (i+1)),(Fv IntKind.u64 (fun p q=>p||| q) s (u64.wrap ((1:Int)*2 ^ min (Int.toNat (u64.wrap (Int.tmod (i64.wrap (i-n)) (64:Int)))) u64.bits))),u,t,o) (AI q (E4 I3 (R3 (AI (R3 TV) (R3 TV))))))
    refine AI (fun b=>?_) ?_
    ·have q:=Jp q b
     dsimp only [nthO] at q
     refine AI (by decide) (gI q (fun q=>?_))
     refine AI (rE b (by decide)) (AI (fun h=>absurd (b.symm.trans h) (by decide)) ?_)
     refine AI (fun _=>?_) (AI (fun h=>absurd (b.symm.trans h) (by decide)) (AI (fun h=>absurd (b.symm.trans h) (by decide)) TV))
     refine OL (EI ((i64.wrap (i+1)),s,(Fv IntKind.u64 (fun p q=>p||| q) u (u64.wrap ((1:Int)*2 ^ min (Int.toNat (u64.wrap (Int.tmod (i64.wrap (i-n)) (64:Int)))) u64.bits))),t,o) (AI q (E4 I3 (R3 (AI (R3 TV) (R3 TV))))))
    refine AI (fun b=>?_) ?_
    ·have q:=Jp q b
     dsimp only [nthO] at q
     refine AI (by decide) (gI q (fun q=>?_))
     refine AI (rE b (by decide)) (AI (fun h=>absurd (b.symm.trans h) (by decide)) ?_)
     refine AI (fun h=>absurd (b.symm.trans h) (by decide)) ?_
     refine AI (fun _=>?_) (AI (fun h=>absurd (b.symm.trans h) (by decide)) TV)
     refine OL (EI ((i64.wrap (i+1)),s,u,(Fv IntKind.u64 (fun p q=>p||| q) t (u64.wrap ((1:Int)*2 ^ min (Int.toNat (u64.wrap (Int.tmod (i64.wrap (i-n)) (64:Int)))) u64.bits))),o) (AI q (E4 I3 (R3 (AI (R3 TV) (R3 TV))))))
    refine AI (fun b=>?_) TV
    have q:=Jp q b
    dsimp only [nthO] at q
    refine AI (by decide) (gI q (fun q=>?_))
    refine AI (rE b (by decide)) (AI (fun h=>absurd (b.symm.trans h) (by decide)) ?_)
    refine AI (fun h=>absurd (b.symm.trans h) (by decide)) ?_
    refine AI (fun h=>absurd (b.symm.trans h) (by decide)) ?_
    refine AI (fun _=>?_) TV
    refine OL (EI ((i64.wrap (i+1)),s,u,t,(Fv IntKind.u64 (fun p q=>p||| q) o (u64.wrap ((1:Int)*2 ^ min (Int.toNat (u64.wrap (Int.tmod (i64.wrap (i-n)) (64:Int)))) u64.bits)))) (AI q (E4 I3 (R3 (AI (R3 TV) (R3 TV))))))
   refine EI ((i64.wrap (i+1)),s,u,t,o) (AI q (E4 I3 (R3 (AI (R3 TV) (R3 TV)))))
  have w:=sE q
  subst w
  refine E4 I3 (R2 (AI (R3 TV) (R3 TV)))
 refine AI ?_ TV
 obtain ⟨z9,b1,q⟩:=bE q
 let h2:LH:=fun zz=>h1 ((2,.cells [(.d .bool c),(.d T8 v.1),(.d T8 v.2.1),(.d T8 v.2.2.1),(.d T8 v.2.2.2)])::zz)
 refine OQ ⟨Sum.elim (fun b2=>[(0,⟨e0 [],h2 [],3⟩)]) (fun b4=>[(1,⟨[(4,P0 0 0)],[(0,.cells [(.d .bool c),(.d T8 v.1),(.d T8 v.2.1),(.d T8 v.2.2.1),(.d T8 v.2.2.2)])],1⟩)]) z9,?_,?_⟩
 ·have q:=b1
  clear b1
  unfold f148_j2 at q
  refine OL (cN q (fun q=>?_) (fun q=>?_))
  ·refine gY (gY (gY (gY ?_)))
   obtain ⟨b7,h,q⟩:=bE q
   refine cL h gW ?_
   refine R2 (AI (lQ rfl) (R2 (AJ (AI TV (gY (cF (cI q (fun q=>?_) (fun q=>?_))))))))
   ·refine OL (OL ?_)
    have w:=sE q
    subst w
    refine E4 (iuR [2]) (AI rfl (AJ (AI rfl TV)))
   have w:=sE q
   subst w
   refine E4 I3 (R2 (AI (R3 TV) (R3 TV)))
  refine gN (gN (gN (gN (gN (cT (cT (OL (OL ?_))))))))
  have w:=sE q
  subst w
  refine E4 (iuR [2]) (AI rfl (AJ (AI rfl TV)))
 rcases z9 with b2 | b4
 ·dsimp only [F5] at q
  refine AI (OL (AI (by decide) (AI (fun _=>?_) (AI (fun h=>absurd h (by decide)) (AI (fun h=>absurd h (by decide)) (AI (fun h=>absurd h (by decide)) TV)))))) TV
  refine OL (OL ?_)
  obtain ⟨b8,h,q⟩:=bE q
  refine lJ h (fun x=>⟨e0 [(7,.dat .bool x.1),(8,.dat T0 x.2)],h2 [],3⟩) (fun z=>[(4,⟨[(4,P0 0 0),(5,P0 1 0),(7,.dat .bool z)],[(0,.cells [(.d .bool false),(.d T8 (0:Int)),(.d T8 (0:Int)),(.d T8 (0:Int)),(.d T8 (0:Int))]),(1,.cells [(.d .bool c),(.d T8 v.1),(.d T8 v.2.1),(.d T8 v.2.2.1),(.d T8 v.2.2.2)])],2⟩)]) gV (fun m=>F3 (fun b0=>fun i z q=>?_)) ?_
  ·have q:f148_l3 l j d k n _ b0 i=some z:=q
   unfold f148_l3 at q
   refine OL (OL (cI q (fun q=>?_) (fun q=>?_)))
   ·refine OL (cN q (fun q=>?_) (fun q=>?_))
    ·refine gY (gY (gY ?_))
     obtain ⟨b5,h,q⟩:=bE q
     refine cL h gW ?_
     refine R2 (AI (lQ rfl) (R2 (AJ (AI TV (gY (cF (EI ((b5==1),(i64.wrap (i+1))) (AI q (E4 I3 (R4 (AI (R3 TV) (R3 TV))))))))))))
    refine gN (gN (gN (gN (cT (EI (true,(i64.wrap (i+1))) (AI q (E4 I3 (R4 (AI (R3 TV) (R3 TV))))))))))
   have w:=sE q
   subst w
   refine E4 (iuR [2,3]) (R2 (AI (R2 TV) (R2 TV)))
  refine AI (OL (OL (cI q (fun q=>?_) (fun q=>?_)))) TV
  ·obtain ⟨b6,h,q⟩:=bE q
   refine cL h gW ?_
   refine AI rfl (AI (lQ rfl) (R2 (AI (R2 TV) (AI TV (OL (OL (OL ?_)))))))
   have hy:=sE q
   subst hy
   refine AI rfl (E4 [] (AI rfl (AJ TV)))
  refine OL (OL ?_)
  have hy:=sE q
  subst hy
  refine AI rfl (E4 [] (AI rfl (AJ TV)))
 dsimp only [F5] at q
 refine AI ?_ TV
 have hy:=sE q
 subst hy
 refine AI rfl (E4 [] (AI rfl (AJ TV)))
def f93 (a b:Int):Option Int:=
 D4 (f149 a b) fun d=>
 D4 (f148 d.1 d.2.1 d.2.2.1 d.2.2.2.1 d.2.2.2.2 (32:Int)) fun c=>
 D4 (f129 c.1 c.2.1 c.2.2.1 c.2.2.2.1 c.2.2.2.2) fun e=>
 some e
instance H93 (a b:Int): HE 93 [.dat T0 a,.dat T0 b] (f93 a b) (fun y=>[.dat T0 y]):=hd Tryz.f93 rfl fun y q=>by
 unfold f93 at q
 exact gV
def f81_j3 (a b:Fz):Option Bool:=
 D4 (f118 (a.1,a.2)) fun d=>
 bif (!d) then
 some true
 else
 D4 (f118 (b.1,b.2)) fun c=>
 some (!c)
def f81_j2 (a b:Fz):Option (Sum Unit Unit):=
 D4 (f81_j3 a b) fun c=>
 bif c then
 some (Sum.inr ())
 else
 some (Sum.inl ())
def f81_l4 (m:Int) (a b:Fz) (k:Jy) (l:Jy→Option LI) (i:Int) (j:LI):Option LI:=
 bif (decide (i<j.length)) then
 D4 (f137 a.1 k.2 i) fun d=>
 D4 (f137 b.1 k.2 i) fun c=>
 bif (m==0) then
 Ey (0≤d.1∧d.1<a.2.length)<|
 Ey (0≤c.1∧c.1<b.2.length)<|
 D4 (f92 (rd 0 a.2 d.1) (rd 0 b.2 c.1)) fun g=>
 Ey (0≤i∧i<j.length)<|
 l ((i64.wrap (i+1)),(List.set j (Int.toNat i) g))
 else
 bif (m==1) then
 Ey (0≤d.1∧d.1<a.2.length)<|
 Ey (0≤c.1∧c.1<b.2.length)<|
 D4 (f94 (rd 0 a.2 d.1) (rd 0 b.2 c.1)) fun e=>
 Ey (0≤i∧i<j.length)<|
 l ((i64.wrap (i+1)),(List.set j (Int.toNat i) e))
 else
 Ey (0≤d.1∧d.1<a.2.length)<|
 Ey (0≤c.1∧c.1<b.2.length)<|
 D4 (f93 (rd 0 a.2 d.1) (rd 0 b.2 c.1)) fun h=>
 Ey (0≤i∧i<j.length)<|
 l ((i64.wrap (i+1)),(List.set j (Int.toNat i) h))
 else
 some j
def f81 (g:Int) (a b:Fz):Option Jn:=
 D4 (f81_j2 a b) fun j=>
 F5 j (fun k=>
 D4 (f136 a.1 b.1) fun c=>
 bif (c.1 != 0) then
 some (c.1,[],[])
 else
 D4 (f79 c.2 (0:Int)) fun d=>
 D4 (Fp (fun i x=>f81_l4 g a b c i x.1 x.2) Fq ((0:Int),d.2)) fun e=>
 some ((0:Int),d.1,e)) (fun h=>
 some ((1:Int),[],[]))
instance H81 (k:Int) (a b:Fz): HF 81 [.dat T0 k,.dat T7 a,.dat T7 b] [] 0 (f81 k a b) (fun y=>[.raw true [(.osl 0),(.osl 1)],.dat T0 y.1]) (fun y=>[(0,.arr 3 T0 y.2.1),(1,.arr 35 T0 y.2.2)]) 2:=hd Tryz.f81 rfl fun y q=>by
 unfold f81 at q
 refine OL ?_
 obtain ⟨u,j,q⟩:=bE q
 let n:LE:=fun o=>(0,.dat T0 k)::(4,P0 0 0)::(5,P0 1 0)::(6,P0 2 0)::o
 let t:LH:=fun o=>(0,.cells [(.d T4 a.1),(.d T4 a.2)])::(1,.cells [(.d T4 b.1),(.d T4 b.2)])::(2,.cells [N0,N0])::o
 refine OQ ⟨Sum.elim (fun p=>[(0,⟨n [],t [],3⟩)]) (fun s=>[(1,⟨[(6,P0 0 0),(7,D0 1)],[(0,.cells [N0,N0])],1⟩)]) u,?_,?_⟩
 ·have q:=j
  clear j
  unfold f81_j2 at q
  obtain ⟨z8,l,q⟩:=bE q
  refine OQ ⟨[(0,⟨n [(23,.dat .bool z8)],t [],3⟩)],?_,?_⟩
  ·have q:=l
   unfold f81_j3 at q
   exact gV
  exact gV
 rcases u with p | s
 ·dsimp only [F5] at q
  refine AI (OL ?_) TV
  obtain ⟨d,h,q⟩:=bE q
  refine cL h gW ?_
  refine R3 (AI (lQ rfl) (R2 (AI TV (AI TV (OL (OL (cI q (fun q=>?_) (fun q=>?_))))))))
  ·exact gV
  refine OL ?_
  obtain ⟨c,h,q⟩:=bE q
  refine cL h gW ?_
  refine R3 (AI (lQ rfl) (R2 (AI TV (AI TV (OL (OL (OL ?_)))))))
  obtain ⟨v,h,q⟩:=bE q
  refine lJ h (fun x=>⟨n [(8,O0 3),(10,P0 4 0),(11,.dat T0 x.1)],t [(3,.arr 3 T0 d.2),(4,.cells [(.osl 5),(.osl 6)]),(5,.arr 3 T0 c.1),(6,.arr 35 T0 x.2)],7⟩) (fun z=>[(2,⟨[(6,P0 0 0),(10,P0 1 0)],[(0,.cells [N0,N0]),(1,.cells [(.osl 2),(.osl 3)]),(2,.arr 3 T0 c.1),(3,.arr 35 T0 z)],4⟩)]) gV (fun m=>F3 (fun i=>fun w z q=>?_)) ?_
  ·have q:f81_l4 k a b d _ i w=some z:=q
   unfold f81_l4 at q
   exact gV
  exact gV
 exact gV
def f124_l1 (a:Fz) (k:Int) (d:Jy→Option LI) (i:Int) (c:LI):Option LI:=
 bif (decide (i<c.length)) then
 Ey (0≤i∧i<a.2.length)<|
 D4 (f93 (rd 0 a.2 i) k) fun b=>
 Ey (0≤i∧i<c.length)<|
 d ((i64.wrap (i+1)),(List.set c (Int.toNat i) b))
 else
 some c
def f124 (a:Fz) (k:Int):Option Jn:=
 D4 (f118 (a.1,a.2)) fun b=>
 bif (!b) then
 some ((1:Int),[],[])
 else
 D4 (f79 a.1 (0:Int)) fun c=>
 D4 (Fp (fun d x=>f124_l1 a k d x.1 x.2) Fq ((0:Int),c.2)) fun e=>
 some ((0:Int),c.1,e)
instance H124 (a:Fz) (k:Int): HF 124 [.dat T7 a,.dat T0 k] [] 0 (f124 a k) (fun y=>[.raw true [(.osl 0),(.osl 1)],.dat T0 y.1]) (fun y=>[(0,.arr 3 T0 y.2.1),(1,.arr 35 T0 y.2.2)]) 2:=hd Tryz.f124 rfl fun y q=>by
 unfold f124 at q
 refine OL (OL (OL ?_))
 obtain ⟨b,h,q⟩:=bE q
 refine cL h gW ?_
 refine R3 (AI (lQ rfl) (R2 (AI TV (AI TV (cI q (fun q=>?_) (fun q=>?_))))))
 ·exact gV
 refine OL ?_
 obtain ⟨c,h,q⟩:=bE q
 refine cL h gW ?_
 refine R3 (AI (lQ rfl) (R2 (AI TV (AI TV (OL (OL (OL ?_)))))))
 obtain ⟨j,h,q⟩:=bE q
 refine lJ h (fun x=>⟨[(1,.dat T0 k),(2,P0 0 0),(4,P0 1 0),(6,P0 2 0),(7,.dat T0 x.1)],[(0,.cells [(.d T4 a.1),(.d T4 a.2)]),(1,.cells [N0,N0]),(2,.cells [(.osl 3),(.osl 4)]),(3,.arr 3 T0 c.1),(4,.arr 35 T0 x.2)],5⟩) (fun z=>[(2,⟨[(4,P0 0 0),(6,P0 1 0)],[(0,.cells [N0,N0]),(1,.cells [(.osl 2),(.osl 3)]),(2,.arr 3 T0 c.1),(3,.arr 35 T0 z)],4⟩)]) gV (fun m=>F3 (fun i=>fun d z q=>?_)) ?_
 ·have q:f124_l1 a k _ i d=some z:=q
  unfold f124_l1 at q
  exact gV
 exact gV
def f126_j3 (a b:Fz):Option Bool:=
 D4 (f118 (a.1,a.2)) fun d=>
 bif (!d) then
 some true
 else
 D4 (f118 (b.1,b.2)) fun c=>
 some (!c)
def f126_j2 (a b:Fz):Option (Sum Unit Unit):=
 D4 (f126_j3 a b) fun c=>
 bif c then
 some (Sum.inr ())
 else
 some (Sum.inl ())
def f126_j6 (a b:Fz):Option Bool:=
 bif ((a.1.length:Int) != 2) then
 some true
 else
 bif ((b.1.length:Int) != 2) then
 some true
 else
 Ey (0≤(1:Int)∧1<(a.1.length:Int))<|
 Ey (0≤(0:Int)∧0<(b.1.length:Int))<|
 some ((rd 0 a.1 1) != (rd 0 b.1 0))
def f126_j5 (a b:Fz):Option (Sum Unit Unit):=
 D4 (f126_j6 a b) fun c=>
 bif c then
 some (Sum.inr ())
 else
 some (Sum.inl ())
def f126_l19 (a b:Fz) (i j:Int) (n:(Int×Jt)→Option Jt) (l:Int) (h:Bool) (e g m k:Int):Option Jt:=
 bif (decide (l<(rd 0 a.1 1))) then
 Ey (0≤(i64.wrap ((i64.wrap (i*(rd 0 a.1 1)))+l))∧(i64.wrap ((i64.wrap (i*(rd 0 a.1 1)))+l))<a.2.length)<|
 Ey (0≤(i64.wrap ((i64.wrap (l*(rd 0 b.1 1)))+j))∧(i64.wrap ((i64.wrap (l*(rd 0 b.1 1)))+j))<b.2.length)<|
 D4 (f149 (rd 0 a.2 (i64.wrap ((i64.wrap (i*(rd 0 a.1 1)))+l))) (rd 0 b.2 (i64.wrap ((i64.wrap (l*(rd 0 b.1 1)))+j)))) fun c=>
 D4 (f83 h e g m k c.1 c.2.1 c.2.2.1 c.2.2.2.1 c.2.2.2.2) fun d=>
 n ((i64.wrap (l+1)),d.1,d.2.1,d.2.2.1,d.2.2.2.1,d.2.2.2.2)
 else
 some (h,e,g,m,k)
def f126_l18 (a b:Fz) (i:Int) (h:Jy→Option LI) (j:Int) (e:LI):Option LI:=
 bif (decide (j<(rd 0 b.1 1))) then
 D4 (Fp (fun h x=>f126_l19 a b i j h x.1 x.2.1 x.2.2.1 x.2.2.2.1 x.2.2.2.2.1 x.2.2.2.2.2) Fq ((0:Int),false,(0:Int),(0:Int),(0:Int),(0:Int))) fun d=>
 D4 (f148 d.1 d.2.1 d.2.2.1 d.2.2.2.1 d.2.2.2.2 (32:Int)) fun c=>
 D4 (f129 c.1 c.2.1 c.2.2.1 c.2.2.2.1 c.2.2.2.2) fun g=>
 Ey (0≤(i64.wrap ((i64.wrap (i*(rd 0 b.1 1)))+j))∧(i64.wrap ((i64.wrap (i*(rd 0 b.1 1)))+j))<e.length)<|
 h ((i64.wrap (j+1)),(List.set e (Int.toNat (i64.wrap ((i64.wrap (i*(rd 0 b.1 1)))+j))) g))
 else
 some e
def f126_l15 (a b:Fz) (c:Jy→Option LI) (i:Int) (e:LI):Option LI:=
 bif (decide (i<(rd 0 a.1 0))) then
 D4 (Fp (fun c x=>f126_l18 a b i c x.1 x.2) Fq ((0:Int),e)) fun d=>
 c ((i64.wrap (i+1)),d)
 else
 some e
def f126 (a b:Fz):Option Jn:=
 D4 (f126_j2 a b) fun m=>
 F5 m (fun j=>
 D4 (f126_j5 a b) fun g=>
 F5 g (fun i=>
 Ey (0≤(0:Int)∧0<(a.1.length:Int))<|
 Ey (0≤(1:Int)∧1<(b.1.length:Int))<|
 Ey (0≤(1:Int)∧1<(a.1.length:Int))<|
 D4 (f173 ([(rd 0 a.1 0),(rd 0 b.1 1)])) fun c=>
 bif (!c) then
 some ((2:Int),[],[])
 else
 D4 (f79 ([(rd 0 a.1 0),(rd 0 b.1 1)]) (0:Int)) fun d=>
 D4 (Fp (fun l x=>f126_l15 a b l x.1 x.2) Fq ((0:Int),d.2)) fun e=>
 some ((0:Int),d.1,e)) (fun h=>
 some ((4:Int),[],[]))) (fun k=>
 some ((1:Int),[],[]))
instance H126 (a b:Fz): HF 126 [.dat T7 a,.dat T7 b] [] 0 (f126 a b) (fun y=>[.raw true [(.osl 0),(.osl 1)],.dat T0 y.1]) (fun y=>[(0,.arr 3 T0 y.2.1),(1,.arr 35 T0 y.2.2)]) 2:=hd Tryz.f126 rfl fun y q=>by
 unfold f126 at q
 refine OL ?_
 obtain ⟨z5,b3,q⟩:=bE q
 let e0:LE:=fun l=>(2,P0 0 0)::(3,P0 1 0)::(4,P0 2 0)::l
 let n:LH:=fun l=>(0,.cells [(.d T4 a.1),(.d T4 a.2)])::(1,.cells [(.d T4 b.1),(.d T4 b.2)])::(2,.cells [N0,N0])::l
 refine OQ ⟨Sum.elim (fun b6=>[(0,⟨e0 [],n [],3⟩)]) (fun b9=>[(1,⟨[(4,P0 0 0),(5,D0 1)],[(0,.cells [N0,N0])],1⟩)]) z5,?_,?_⟩
 ·have q:=b3
  clear b3
  unfold f126_j2 at q
  obtain ⟨z8,b7,q⟩:=bE q
  refine OQ ⟨[(0,⟨e0 [(21,.dat .bool z8)],n [],3⟩)],?_,?_⟩
  ·have q:=b7
   unfold f126_j3 at q
   exact gV
  exact gV
 rcases z5 with b6 | b9
 ·dsimp only [F5] at q
  refine AI ?_ TV
  obtain ⟨w,k,q⟩:=bE q
  refine OQ ⟨Sum.elim (fun b2=>[(0,⟨e0 [],n [],3⟩)]) (fun p=>[(1,⟨[(4,P0 0 0),(5,D0 4)],[(0,.cells [N0,N0])],1⟩)]) w,?_,?_⟩
  ·have q:=k
   clear k
   unfold f126_j5 at q
   obtain ⟨b8,b0,q⟩:=bE q
   refine OQ ⟨[(0,⟨e0 [(43,.dat .bool b8)],n [],3⟩)],?_,?_⟩
   ·have q:=b0
    unfold f126_j6 at q
    exact gV
   exact gV
  rcases w with b2 | p
  ·dsimp only [F5] at q
   refine AI (OL (EI (tU 0 15 .done) (EI [] (EI [] (AI rfl (gI q (fun q=>?_))))))) TV
   refine gI q (fun q=>?_)
   refine gI q (fun q=>?_)
   refine OL (OL (OL ?_))
   obtain ⟨b5,h,q⟩:=bE q
   refine cL h gW ?_
   refine R2 (AI (lQ rfl) (R2 (AI TV (AI TV (cI q (fun q=>?_) (fun q=>?_))))))
   ·exact gV
   refine OL (OL ?_)
   obtain ⟨d,h,q⟩:=bE q
   refine cL h gW ?_
   refine R3 (AI (lQ rfl) (R2 (AI TV (AI TV (OL (OL (OL ?_)))))))
   obtain ⟨c1,t,q⟩:=bE q
   let o:LE:=fun l=>e0 ((6,.dat T0 (rd 0 a.1 0))::(7,.dat T0 (rd 0 b.1 1))::(8,.dat T0 (rd 0 a.1 1))::(9,P0 3 0)::l)
   let h3:LH:=fun l=>n ((3,.cells [(.osl 4),(.osl 5)])::(4,.arr 3 T0 d.1)::l)
   refine lJ t (fun x=>⟨o [(10,.dat T0 x.1)],h3 [(5,.arr 35 T0 x.2)],6⟩) (fun z=>[(2,⟨[(4,P0 0 0),(9,P0 1 0)],[(0,.cells [N0,N0]),(1,.cells [(.osl 2),(.osl 3)]),(2,.arr 3 T0 d.1),(3,.arr 35 T0 z)],4⟩)]) gV (fun m=>F3 (fun i=>fun l5 z q=>?_)) ?_
   ·have q:f126_l15 a b _ i l5=some z:=q
    unfold f126_l15 at q
    refine OL (OL (cI q (fun q=>?_) (fun q=>?_)))
    ·refine OL (OL ?_)
     obtain ⟨c2,h,q⟩:=bE q
     refine lJ h (fun x=>⟨o [(10,.dat T0 i),(11,.dat T0 x.1)],h3 [(5,.arr 35 T0 x.2)],6⟩) (fun z=>[(4,⟨o [(10,.dat T0 i)],h3 [(5,.arr 35 T0 z)],6⟩)]) gV (fun m=>F3 (fun j=>fun c z q=>?_)) ?_
     ·have q:f126_l18 a b i _ j c=some z:=q
      unfold f126_l18 at q
      refine OL (OL (cI q (fun q=>?_) (fun q=>?_)))
      ·refine OL (OL (OL (OL (OL ?_))))
       obtain ⟨c0,h,q⟩:=bE q
       refine lJ h (fun x=>⟨o [(10,.dat T0 i),(11,.dat T0 j),(12,P0 4 0),(13,.dat T0 x.1)],n [(3,.cells [(.osl 5),(.osl 6)]),(4,.cells [(.d .bool x.2.1),(.d T8 x.2.2.1),(.d T8 x.2.2.2.1),(.d T8 x.2.2.2.2.1),(.d T8 x.2.2.2.2.2)]),(5,.arr 3 T0 d.1),(6,.arr 35 T0 c)],7⟩) (fun z=>[(6,⟨o [(10,.dat T0 i),(11,.dat T0 j),(12,P0 4 0)],n [(3,.cells [(.osl 5),(.osl 6)]),(4,.cells [(.d .bool z.1),(.d T8 z.2.1),(.d T8 z.2.2.1),(.d T8 z.2.2.2.1),(.d T8 z.2.2.2.2)]),(5,.arr 3 T0 d.1),(6,.arr 35 T0 c)],7⟩)]) gV (fun m=>F3 (fun q_=>F3 (fun b1=>F3 (fun s=>F3 (fun u=>F3 (fun v=>fun b4 z q=>?_)))))) ?_
       ·have q:f126_l19 a b i j _ q_ b1 s u v b4=some z:=q
        unfold f126_l19 at q
        refine OL (OL (cI q (fun q=>?_) (fun q=>?_)))
        ·refine OL (EI (tU 0 19 (.alt 19 (.alt 20 (.alt 21 .done .done) .done) .done)) (EI [(21,[4])] (EI [] (AI rfl ?_))))
         exact gV
        exact gV
       exact gV
      exact gV
     exact gV
    exact gV
   exact gV
  exact gV
 exact gV
def f128_j1 (d a:LI):Option (Sum Unit Unit):=
 D4 (f173 d) fun b=>
 bif (!b) then
 some (Sum.inr ())
 else
 bif ((a.length:Int) != d.length) then
 some (Sum.inr ())
 else
 some (Sum.inl ())
def f128_j5 (d a:LI) (i:Int):Option (Sum Unit Unit):=
 Ey (0≤i∧i<a.length)<|
 bif (decide ((rd 0 a i)<0)) then
 some (Sum.inr ())
 else
 Ey (0≤i∧i<a.length)<|
 Ey (0≤i∧i<d.length)<|
 bif (decide ((rd 0 a i)≥(rd 0 d i))) then
 some (Sum.inr ())
 else
 some (Sum.inl ())
def f128_l4 (d a:LI) (c:Ji→Option (Sum Unit Int)) (b i:Int):Option (Sum Unit Int):=
 bif (decide (i<d.length)) then
 D4 (f128_j5 d a i) fun h=>
 F5 h (fun e=>
 Ey (0≤i∧i<d.length)<|
 Ey (0≤i∧i<a.length)<|
 c ((i64.wrap ((i64.wrap (b*(rd 0 d i)))+(rd 0 a i))),(i64.wrap (i+1)))) (fun g=>
 some (Sum.inl ()))
 else
 some (Sum.inr b)
def f128 (d a:LI):Option PTz14:=
 D4 (f128_j1 d a) fun i=>
 F5 i (fun g=>
 D4 (Fp (fun h x=>f128_l4 d a h x.1 x.2) Fq ((0:Int),(0:Int))) fun j=>
 F5 j (fun c=>
 some ((0:Int),false)) (fun b=>
 some (b,true))) (fun e=>
 some ((0:Int),false))
instance H128 (d b:LI): HE 128 [.dat T4 d,.dat T4 b] (f128 d b) (fun y=>[.dat T0 y.1,.dat .bool y.2]):=hd Tryz.f128 rfl fun y q=>by
 unfold f128 at q
 refine OL ?_
 obtain ⟨t,s,q⟩:=bE q
 let j:LE:=fun v=>(0,.dat T4 d)::(1,.dat T4 b)::v
 refine OQ ⟨Sum.elim (fun o=>[(0,⟨j [],[],0⟩)]) (fun n=>[(1,⟨[(4,D0 0),(5,.dat .bool false)],[],0⟩)]) t,?_,?_⟩
 ·have q:=s
  unfold f128_j1 at q
  exact gV
 rcases t with o | n
 ·dsimp only [F5] at q
  refine AI (OL (OL (OL ?_))) TV
  obtain ⟨z5,h,q⟩:=bE q
  refine lJ h (fun x=>⟨j [(6,.dat T0 x.1),(7,.dat T0 x.2)],[],0⟩) (fun z=>Sum.elim (fun za=>[(1,⟨[(4,D0 0),(5,.dat .bool false)],[],0⟩)]) (fun zb=>[(2,⟨[(6,.dat T0 zb)],[],0⟩)]) z) gV (fun m=>F3 (fun c=>fun i z q=>?_)) ?_
  ·have q:f128_l4 d b _ c i=some z:=q
   unfold f128_l4 at q
   refine OL (OL (cI q (fun q=>?_) (fun q=>?_)))
   ·refine OL ?_
    obtain ⟨u,p,q⟩:=bE q
    refine OQ ⟨Sum.elim (fun k=>[(0,⟨j [(6,.dat T0 c),(7,.dat T0 i)],[],0⟩)]) (fun l=>[(1,⟨[(4,D0 0),(5,.dat .bool false)],[],0⟩)]) u,?_,?_⟩
    ·have q:=p
     unfold f128_j5 at q
     exact gV
    rcases u with k | l
    ·exact gV
    exact gV
   exact gV
  rcases z5 with w | b0
  ·exact gV
  exact gV
 exact gV
def f182_j3 (a:Fz) (b:LI):Option Bool:=
 D4 (f118 (a.1,a.2)) fun c=>
 bif (!c) then
 some true
 else
 some ((b.length:Int) != a.1.length)
def f182_j2 (a:Fz) (b:LI):Option (Sum Unit Unit):=
 D4 (f182_j3 a b) fun c=>
 bif c then
 some (Sum.inr ())
 else
 some (Sum.inl ())
def f182_j15 (a:LI) (i:Int):Option Bool:=
 Ey (0≤i∧i<a.length)<|
 bif (decide ((rd 0 a i)<0)) then
 some true
 else
 Ey (0≤i∧i<a.length)<|
 some (decide ((rd 0 a i)≥a.length))
def f182_j14 (a:LI) (i:Int):Option (Sum Unit Unit):=
 D4 (f182_j15 a i) fun b=>
 bif b then
 some (Sum.inr ())
 else
 some (Sum.inl ())
def f182_l16 (a:LI) (i:Int) (b:Int→Option (Sum Unit Unit)) (k:Int):Option (Sum Unit Unit):=
 bif (decide (k<i)) then
 Ey (0≤k∧k<a.length)<|
 Ey (0≤i∧i<a.length)<|
 bif ((rd 0 a k)==(rd 0 a i)) then
 some (Sum.inl ())
 else
 b (i64.wrap (k+1))
 else
 some (Sum.inr ())
def f182_l12 (a:Fz) (b:LI) (e:Jy→Option (Sum Unit LI)) (i:Int) (c:LI):Option (Sum Unit LI):=
 bif (decide (i<b.length)) then
 D4 (f182_j14 b i) fun d=>
 F5 d (fun l=>
 D4 (Fp (fun e x=>f182_l16 b i e x) Fq (0:Int)) fun g=>
 F5 g (fun h=>
 some (Sum.inl ())) (fun j=>
 Ey (0≤i∧i<b.length)<|
 Ey (0≤(rd 0 b i)∧(rd 0 b i)<a.1.length)<|
 Ey ((c.length+List.length ([(rd 0 a.1 (rd 0 b i))]))*8≤140737488355328)<|
 e ((i64.wrap (i+1)),(c++([(rd 0 a.1 (rd 0 b i))]))))) (fun k=>
 some (Sum.inl ()))
 else
 some (Sum.inr c)
def f182_l20 (a:LI) (c:Bool×LI) (d:Jy→Option LI) (k:Int) (b:LI):Option LI:=
 bif (decide (k<c.2.length)) then
 Ey (0≤k∧k<a.length)<|
 Ey (0≤k∧k<c.2.length)<|
 Ey (0≤(rd 0 a k)∧(rd 0 a k)<b.length)<|
 d ((i64.wrap (k+1)),(List.set b (Int.toNat (rd 0 a k)) (rd 0 c.2 k)))
 else
 some b
def f182_l19 (a:Fz) (d e:LI) (h:Jy→Option LI) (i:Int) (g:LI):Option LI:=
 bif (decide (i<g.length)) then
 D4 (f127 e i) fun c=>
 Ey (0≤(c.2.length:Int)∧(c.2.length:Int)≤c.2.length∧Int.toNat (c.2.length:Int)*8≤140737488355328)<|
 D4 (Fp (fun h x=>f182_l20 d c h x.1 x.2) Fq ((0:Int),(List.replicate (Int.toNat (c.2.length:Int)) (0:Int)))) fun j=>
 D4 (f128 a.1 j) fun b=>
 Ey (0≤b.1∧b.1<a.2.length)<|
 Ey (0≤i∧i<g.length)<|
 h ((i64.wrap (i+1)),(List.set g (Int.toNat i) (rd 0 a.2 b.1)))
 else
 some g
def f182 (a:Fz) (b:LI):Option Jn:=
 D4 (f182_j2 a b) fun k=>
 F5 k (fun l=>
 D4 (Fp (fun e x=>f182_l12 a b e x.1 x.2) Fq ((0:Int),[])) fun h=>
 F5 h (fun i=>
 some ((1:Int),[],[])) (fun d=>
 D4 (f79 d (0:Int)) fun c=>
 D4 (Fp (fun e x=>f182_l19 a b d e x.1 x.2) Fq ((0:Int),c.2)) fun g=>
 some ((0:Int),c.1,g))) (fun j=>
 some ((1:Int),[],[]))
instance H182 (a:Fz) (b:LI): HF 182 [.dat T7 a,.dat T4 b] [] 0 (f182 a b) (fun y=>[.raw true [(.osl 0),(.osl 1)],.dat T0 y.1]) (fun y=>[(0,.arr 3 T0 y.2.1),(1,.arr 35 T0 y.2.2)]) 2:=hd Tryz.f182 rfl fun y q=>by
 unfold f182 at q
 refine OL ?_
 obtain ⟨z3,b0,q⟩:=bE q
 let e0:LE:=fun j=>(1,.dat T4 b)::(2,P0 0 0)::(4,P0 1 0)::j
 let o:LH:=fun j=>(0,.cells [(.d T4 a.1),(.d T4 a.2)])::(1,.cells [N0,N0])::j
 let t:LH:=fun j=>(0,.cells [N0,N0])::j
 refine OQ ⟨Sum.elim (fun b7=>[(0,⟨e0 [],o [],2⟩)]) (fun b3=>[(1,⟨[(4,P0 0 0),(5,D0 1)],t [],1⟩)]) z3,?_,?_⟩
 ·have q:=b0
  clear b0
  unfold f182_j2 at q
  obtain ⟨z5,b8,q⟩:=bE q
  refine OQ ⟨[(0,⟨e0 [(27,.dat .bool z5)],o [],2⟩)],?_,?_⟩
  ·have q:=b8
   unfold f182_j3 at q
   exact gV
  exact gV
 rcases z3 with b7 | b3
 ·dsimp only [F5] at q
  refine AI (OL (OL (OL ?_))) TV
  obtain ⟨b6,b2,q⟩:=bE q
  let l:LE:=fun j=>e0 ((6,O0 2)::j)
  refine lJ b2 (fun x=>⟨l [(7,.dat T0 x.1)],o [(2,.arr 3 T0 x.2)],3⟩) (fun z=>Sum.elim (fun za=>[(1,⟨[(4,P0 0 0),(5,D0 1)],t [],1⟩)]) (fun zb=>[(2,⟨l [],o [(2,.arr 3 T0 zb)],3⟩)]) z) gV (fun m=>F3 (fun i=>fun l2 z q=>?_)) ?_
  ·have q:f182_l12 a b _ i l2=some z:=q
   unfold f182_l12 at q
   refine OL (OL (cI q (fun q=>?_) (fun q=>?_)))
   ·refine OL ?_
    obtain ⟨s,n,q⟩:=bE q
    let h4:LH:=fun j=>o ((2,.arr 3 T0 l2)::j)
    refine OQ ⟨Sum.elim (fun u=>[(0,⟨l [(7,.dat T0 i)],h4 [],3⟩)]) (fun b1=>[(1,⟨[(4,P0 0 0),(5,D0 1)],t [],1⟩)]) s,?_,?_⟩
    ·have q:=n
     clear n
     unfold f182_j14 at q
     obtain ⟨b5,p,q⟩:=bE q
     refine OQ ⟨[(0,⟨l [(7,.dat T0 i),(48,.dat .bool b5)],h4 [],3⟩)],?_,?_⟩
     ·have q:=p
      unfold f182_j15 at q
      exact gV
     exact gV
    rcases s with u | b1
    ·dsimp only [F5] at q
     refine AI (OL (OL ?_)) TV
     obtain ⟨b4,h,q⟩:=bE q
     refine lJ h (fun x=>⟨l [(7,.dat T0 i),(8,.dat T0 x)],h4 [],3⟩) (fun z=>Sum.elim (fun za=>[(1,⟨[(4,P0 0 0),(5,D0 1)],t [],1⟩)]) (fun zb=>[(4,⟨l [(7,.dat T0 i)],h4 [],3⟩)]) z) gV (fun m=>fun k z q=>?_) ?_
     ·have q:f182_l16 b i _ k=some z:=q
      unfold f182_l16 at q
      exact gV
     rcases b4 with c0 | c1
     ·exact gV
     exact gV
    exact gV
   exact gV
  rcases b6 with b9 | d
  ·exact gV
  dsimp only [F5] at q
  refine AI (OL ?_) TV
  obtain ⟨c,h,q⟩:=bE q
  refine cL h gW ?_
  refine R3 (AI (lQ rfl) (R2 (AI TV (AI TV (OL (OL (OL ?_)))))))
  obtain ⟨c3,h,q⟩:=bE q
  refine lJ h (fun x=>⟨l [(9,P0 3 0),(10,.dat T0 x.1)],o [(2,.arr 3 T0 d),(3,.cells [(.osl 4),(.osl 5)]),(4,.arr 3 T0 c.1),(5,.arr 35 T0 x.2)],6⟩) (fun z=>[(6,⟨[(4,P0 0 0),(9,P0 1 0)],t [(1,.cells [(.osl 2),(.osl 3)]),(2,.arr 3 T0 c.1),(3,.arr 35 T0 z)],4⟩)]) gV (fun m=>F3 (fun i=>fun l5 z q=>?_)) ?_
  ·have q:f182_l19 a b d _ i l5=some z:=q
   unfold f182_l19 at q
   refine OL (OL (cI q (fun q=>?_) (fun q=>?_)))
   ·refine OL (OL ?_)
    obtain ⟨v,h,q⟩:=bE q
    refine cL h gW ?_
    refine R3 (AI (lQ rfl) (R2 (AI TV (AI TV (OL (gI q (fun q=>?_)))))))
    refine OL (OL ?_)
    obtain ⟨c2,h,q⟩:=bE q
    refine lJ h (fun x=>⟨l [(9,P0 3 0),(10,.dat T0 i),(11,O0 4),(13,O0 5),(14,.dat T0 x.1)],o [(2,.arr 3 T0 d),(3,.cells [(.osl 6),(.osl 7)]),(4,.arr 3 T0 v.2),(5,.arr 3 T0 x.2),(6,.arr 3 T0 c.1),(7,.arr 35 T0 l5)],8⟩) (fun z=>[(8,⟨l [(9,P0 3 0),(10,.dat T0 i),(13,O0 4)],o [(2,.arr 3 T0 d),(3,.cells [(.osl 5),(.osl 6)]),(4,.arr 3 T0 z),(5,.arr 3 T0 c.1),(6,.arr 35 T0 l5)],7⟩)]) gV (fun m=>F3 (fun k=>fun w z q=>?_)) ?_
    ·have q:f182_l20 b v _ k w=some z:=q
     unfold f182_l20 at q
     exact gV
    exact gV
   exact gV
  exact gV
 exact gV
def f125 (a:Fz):Option Jn:=
 D4 (f118 (a.1,a.2)) fun c=>
 bif (!c) then
 some ((1:Int),[],[])
 else
 bif ((a.1.length:Int) != 2) then
 some ((4:Int),[],[])
 else
 D4 (f182 (a.1,a.2) ([(1:Int),(0:Int)])) fun b=>
 some (b.1,b.2.1,b.2.2)
instance H125 (a:Fz): HF 125 [.dat T7 a] [] 0 (f125 a) (fun y=>[.raw true [(.osl 0),(.osl 1)],.dat T0 y.1]) (fun y=>[(0,.arr 3 T0 y.2.1),(1,.arr 35 T0 y.2.2)]) 2:=hd Tryz.f125 rfl fun y q=>by
 unfold f125 at q
 exact gV
def f175 (k:Int):Option Int:=
 bif (decide (k<(-1000000:Int))) then
 some (-1000000:Int)
 else
 bif (decide (k>1000000)) then
 some (-1000000:Int)
 else
 some k
instance H175 (k:Int): HE 175 [.dat T0 k] (f175 k) (fun y=>[.dat T0 y]):=hd Tryz.f175 rfl fun y q=>by
 unfold f175 at q
 exact gV
def f174_j3 (a:Fz) (b:Int):Option Bool:=
 D4 (f118 (a.1,a.2)) fun c=>
 bif (!c) then
 some true
 else
 bif (decide (b<0)) then
 some true
 else
 some (decide (b≥a.1.length))
def f174_j2 (a:Fz) (c:Int):Option (Sum Unit Unit):=
 D4 (f174_j3 a c) fun b=>
 bif b then
 some (Sum.inr ())
 else
 some (Sum.inl ())
def f174_j16 (b:Int) (a:Bool×LI) (k:Int):Option Unit:=
 Ey (0≤b∧b≤a.2.length)<|
 Ey (0≤b∧b≤a.2.length)<|
 Ey ((List.length ([]:LI)+List.length (List.take (Int.toNat b) a.2))*8≤140737488355328)<|
 Ey ((List.length (([]:LI)++(List.take (Int.toNat b) a.2))+List.length ([k]))*8≤140737488355328)<|
 Ey ((List.length ((([]:LI)++(List.take (Int.toNat b) a.2))++([k]))+List.length (List.drop (Int.toNat b) a.2))*8≤140737488355328)<|
 some ()
def f174_l15 (a:Fz) (m:Int) (l:Bool×LI) (o:(Int×Jt)→Option Jt) (k:Int) (h:Bool) (e g j i:Int):Option Jt:=
 Ey (0≤m∧m<a.1.length)<|
 bif (decide (k<(rd 0 a.1 m))) then
 D4 (f174_j16 m l k) fun n=>
 D4 (f128 a.1 (((([]:LI)++(List.take (Int.toNat m) l.2))++([k]))++(List.drop (Int.toNat m) l.2))) fun c=>
 Ey (0≤c.1∧c.1<a.2.length)<|
 D4 (f48 (rd 0 a.2 c.1)) fun d=>
 D4 (f83 h e g j i d.1 d.2 (0:Int) (0:Int) (0:Int)) fun b=>
 o ((i64.wrap (k+1)),b.1,b.2.1,b.2.2.1,b.2.2.2.1,b.2.2.2.2)
 else
 some (h,e,g,j,i)
def f174_l12 (a:Fz) (e:Int) (g:Jy→Option LI) (i:Int) (d:LI):Option LI:=
 bif (decide (i<d.length)) then
 D4 (f127 ((([]:LI)++(List.take (Int.toNat e) a.1))++(List.drop (Int.toNat (i64.wrap (e+1))) a.1)) i) fun h=>
 D4 (Fp (fun g x=>f174_l15 a e h g x.1 x.2.1 x.2.2.1 x.2.2.2.1 x.2.2.2.2.1 x.2.2.2.2.2) Fq ((0:Int),false,(0:Int),(0:Int),(0:Int),(0:Int))) fun b=>
 D4 (f129 b.1 b.2.1 b.2.2.1 b.2.2.2.1 b.2.2.2.2) fun c=>
 Ey (0≤i∧i<d.length)<|
 g ((i64.wrap (i+1)),(List.set d (Int.toNat i) c))
 else
 some d
def f174 (a:Fz) (c:Int):Option Jn:=
 D4 (f174_j2 a c) fun g=>
 F5 g (fun h=>
 Ey (0≤c∧c≤a.1.length)<|
 Ey (0≤(i64.wrap (c+1))∧(i64.wrap (c+1))≤a.1.length)<|
 Ey ((List.length ([]:LI)+List.length (List.take (Int.toNat c) a.1))*8≤140737488355328)<|
 Ey ((List.length (([]:LI)++(List.take (Int.toNat c) a.1))+List.length (List.drop (Int.toNat (i64.wrap (c+1))) a.1))*8≤140737488355328)<|
 D4 (f79 ((([]:LI)++(List.take (Int.toNat c) a.1))++(List.drop (Int.toNat (i64.wrap (c+1))) a.1)) (0:Int)) fun b=>
 D4 (Fp (fun i x=>f174_l12 a c i x.1 x.2) Fq ((0:Int),b.2)) fun d=>
 some ((0:Int),b.1,d)) (fun e=>
 some ((1:Int),[],[]))
instance H174 (a:Fz) (o:Int): HF 174 [.dat T7 a,.dat T0 o] [] 0 (f174 a o) (fun y=>[.raw true [(.osl 0),(.osl 1)],.dat T0 y.1]) (fun y=>[(0,.arr 3 T0 y.2.1),(1,.arr 35 T0 y.2.2)]) 2:=hd Tryz.f174 rfl fun y q=>by
 unfold f174 at q
 refine OL ?_
 obtain ⟨z3,b1,q⟩:=bE q
 let e0:LE:=fun zz=>(1,.dat T0 o)::(2,P0 0 0)::(4,P0 1 0)::zz
 let h1:LH:=fun zz=>(0,.cells [(.d T4 a.1),(.d T4 a.2)])::(1,.cells [N0,N0])::zz
 refine OQ ⟨Sum.elim (fun b5=>[(0,⟨e0 [],h1 [],2⟩)]) (fun b3=>[(1,⟨[(4,P0 0 0),(5,D0 1)],[(0,.cells [N0,N0])],1⟩)]) z3,?_,?_⟩
 ·have q:=b1
  clear b1
  unfold f174_j2 at q
  obtain ⟨z5,b6,q⟩:=bE q
  refine OQ ⟨[(0,⟨e0 [(29,.dat .bool z5)],h1 [],2⟩)],?_,?_⟩
  ·have q:=b6
   unfold f174_j3 at q
   exact gV
  exact gV
 rcases z3 with b5 | b3
 ·dsimp only [F5] at q
  refine AI (OL (EI (tU 1 4 (tU 6 5 (.alt 0 (.alt 5 (.alt 11 (.take 12 .done) .done) .done) .done))) (EI [] (EI [] (AI rfl (gI q (fun q=>?_))))))) TV
  refine gI q (fun q=>?_)
  refine AI TV (OL (AI TV (OL (gI q (fun q=>?_)))))
  refine AI TV (OL (gI q (fun q=>?_)))
  refine OL ?_
  obtain ⟨b,h,q⟩:=bE q
  refine cL h gW ?_
  refine R3 (AI (lQ rfl) (R2 (AI TV (AI TV (OL (OL (OL ?_)))))))
  obtain ⟨b7,b0,q⟩:=bE q
  let e2:LE:=fun zz=>e0 ((6,O0 2)::(7,P0 3 0)::zz)
  let h3:LH:=fun zz=>h1 ((2,.arr 3 T0 ((([]:LI)++(List.take (Int.toNat o) a.1))++(List.drop (Int.toNat (i64.wrap (o+1))) a.1)))::zz)
  refine lJ b0 (fun x=>⟨e2 [(8,.dat T0 x.1)],h3 [(3,.cells [(.osl 4),(.osl 5)]),(4,.arr 3 T0 b.1),(5,.arr 35 T0 x.2)],6⟩) (fun z=>[(2,⟨[(4,P0 0 0),(7,P0 1 0)],[(0,.cells [N0,N0]),(1,.cells [(.osl 2),(.osl 3)]),(2,.arr 3 T0 b.1),(3,.arr 35 T0 z)],4⟩)]) gV (fun m=>F3 (fun i=>fun l5 z q=>?_)) ?_
  ·have q:f174_l12 a o _ i l5=some z:=q
   unfold f174_l12 at q
   refine OL (OL (cI q (fun q=>?_) (fun q=>?_)))
   ·refine OL (OL ?_)
    obtain ⟨l,h,q⟩:=bE q
    refine cL h gW ?_
    refine R3 (AI (lQ rfl) (R2 (AI TV (AI TV (OL (OL (OL (OL ?_))))))))
    obtain ⟨b8,h,q⟩:=bE q
    refine lJ h (fun x=>⟨e2 [(8,.dat T0 i),(9,.dat T4 l.2),(11,P0 4 0),(12,.dat T0 x.1)],h3 [(3,.cells [(.osl 5),(.osl 6)]),(4,.cells [(.d .bool x.2.1),(.d T8 x.2.2.1),(.d T8 x.2.2.2.1),(.d T8 x.2.2.2.2.1),(.d T8 x.2.2.2.2.2)]),(5,.arr 3 T0 b.1),(6,.arr 35 T0 l5)],7⟩) (fun z=>[(4,⟨e2 [(8,.dat T0 i),(11,P0 4 0)],h3 [(3,.cells [(.osl 5),(.osl 6)]),(4,.cells [(.d .bool z.1),(.d T8 z.2.1),(.d T8 z.2.2.1),(.d T8 z.2.2.2.1),(.d T8 z.2.2.2.2)]),(5,.arr 3 T0 b.1),(6,.arr 35 T0 l5)],7⟩)]) gV (fun m=>F3 (fun k=>F3 (fun v=>F3 (fun p=>F3 (fun s=>F3 (fun t=>fun w z q=>?_)))))) ?_
    ·have q:f174_l15 a o l _ k v p s t w=some z:=q
     unfold f174_l15 at q
     refine OL (OL (gI q (fun q=>?_)))
     refine cI q (fun q=>?_) (fun q=>?_)
     ·refine OL ?_
      obtain ⟨b9,u,q⟩:=bE q
      refine OQ ⟨[(0,⟨e2 [(8,.dat T0 i),(9,.dat T4 l.2),(11,P0 4 0),(12,.dat T0 k),(13,O0 5)],h3 [(3,.cells [(.osl 6),(.osl 7)]),(4,.cells [(.d .bool v),(.d T8 p),(.d T8 s),(.d T8 t),(.d T8 w)]),(5,.arr 3 T0 (((([]:LI)++(List.take (Int.toNat o) l.2))++([k]))++(List.drop (Int.toNat o) l.2))),(6,.arr 3 T0 b.1),(7,.arr 35 T0 l5)],8⟩)],?_,?_⟩
      ·have q:=u
       clear u
       unfold f174_j16 at q
       obtain ⟨n,q⟩:=gE q
       obtain ⟨b4,q⟩:=gE q
       obtain ⟨c,q⟩:=gE q
       obtain ⟨j,q⟩:=gE q
       obtain ⟨d,q⟩:=gE q
       refine EI (tU 1 3 (.take 5 (tU 8 3 (.alt 0 (.alt 4 (.alt 6 (.alt 7 (.alt 11 (.take 12 .done) .done) .done) .done) (.alt 6 (.alt 4 (.alt 7 (.alt 11 (.take 12 .done) .done) .done) .done) .done)) (.alt 6 (.alt 0 (.alt 4 (.alt 7 (.alt 11 (.take 12 .done) .done) .done) .done) .done) .done))))) (EI [] (EI [] (AI rfl (AI n (AI n (AI (AI TV ?_) ?_))))))
       ·refine OL (AI TV (OL (AI TV (OL (AI c (AI TV (OL (AI j (AI TV (OL (AI d ?_)))))))))))
        exact gV
       refine OL (AI (AI TV ?_) ?_)
       ·refine OL (AI TV (OL (AI c (AI TV (OL (AI j (AI TV (OL (AI d ?_)))))))))
        exact gV
       refine OL (AI c (AI TV (OL (AI TV (OL (AI j (AI TV (OL (AI d ?_)))))))))
       exact gV
      refine AI (OL ?_) TV
      obtain ⟨b2,h,q⟩:=bE q
      refine cL h gW ?_
      refine R3 (AI (lQ rfl) (R2 (AI TV (AI TV (EI (tU 0 6 (.alt 6 (.alt 7 (.alt 8 .done .done) .done) .done)) (EI [(8,[4])] (EI [] (AI rfl ?_))))))))
      exact gV
     exact gV
    exact gV
   exact gV
  exact gV
 exact gV
def f214_l1 (a:Fz) (k:(Int×Jt)→Option Jt) (i:Int) (h:Bool) (d c j g:Int):Option Jt:=
 bif (decide (i<a.2.length)) then
 Ey (0≤i∧i<a.2.length)<|
 D4 (f48 (rd 0 a.2 i)) fun e=>
 D4 (f83 h d c j g e.1 e.2 (0:Int) (0:Int) (0:Int)) fun b=>
 k ((i64.wrap (i+1)),b.1,b.2.1,b.2.2.1,b.2.2.2.1,b.2.2.2.2)
 else
 some (h,d,c,j,g)
def f214 (a:Fz):Option Jt:=
 D4 (Fp (fun c x=>f214_l1 a c x.1 x.2.1 x.2.2.1 x.2.2.2.1 x.2.2.2.2.1 x.2.2.2.2.2) Fq ((0:Int),false,(0:Int),(0:Int),(0:Int),(0:Int))) fun b=>
 some (b.1,b.2.1,b.2.2.1,b.2.2.2.1,b.2.2.2.2)
instance H214 (a:Fz): HE 214 [.dat T7 a] (f214 a) (fun y=>[.raw true [(.d .bool y.1),(.d T8 y.2.1),(.d T8 y.2.2.1),(.d T8 y.2.2.2.1),(.d T8 y.2.2.2.2)]]):=hd Tryz.f214 rfl fun y q=>by
 unfold f214 at q
 refine OL (OL (OL (OL (OL ?_))))
 obtain ⟨l,h,q⟩:=bE q
 refine lJ h (fun x=>⟨[(1,P0 0 0),(2,P0 1 0),(3,P0 2 0),(4,.dat T0 x.1)],[(0,.cells [(.d T4 a.1),(.d T4 a.2)]),(1,.cells [(.d .bool false),(.d T8 (0:Int)),(.d T8 (0:Int)),(.d T8 (0:Int)),(.d T8 (0:Int))]),(2,.cells [(.d .bool x.2.1),(.d T8 x.2.2.1),(.d T8 x.2.2.2.1),(.d T8 x.2.2.2.2.1),(.d T8 x.2.2.2.2.2)])],3⟩) (fun z=>[(2,⟨[(2,P0 0 0),(3,P0 1 0)],[(0,.cells [(.d .bool false),(.d T8 (0:Int)),(.d T8 (0:Int)),(.d T8 (0:Int)),(.d T8 (0:Int))]),(1,.cells [(.d .bool z.1),(.d T8 z.2.1),(.d T8 z.2.2.1),(.d T8 z.2.2.2.1),(.d T8 z.2.2.2.2)])],2⟩)]) gV (fun m=>F3 (fun i=>F3 (fun j=>F3 (fun c=>F3 (fun b=>F3 (fun k=>fun d z q=>?_)))))) ?_
 ·have q:f214_l1 a _ i j c b k d=some z:=q
  unfold f214_l1 at q
  refine OL (OL (cI q (fun q=>?_) (fun q=>?_)))
  ·refine OL (EI (tU 0 6 (.alt 6 (.alt 7 (.alt 8 .done .done) .done) .done)) (EI [(8,[2])] (EI [] (AI rfl ?_))))
   exact gV
  exact gV
 exact gV
def f177 (a:Fz):Option Int:=
 D4 (f214 (a.1,a.2)) fun b=>
 D4 (f129 b.1 b.2.1 b.2.2.1 b.2.2.2.1 b.2.2.2.2) fun c=>
 some c
instance H177 (a:Fz): HE 177 [.dat T7 a] (f177 a) (fun y=>[.dat T0 y]):=hd Tryz.f177 rfl fun y q=>by
 unfold f177 at q
 exact gV
def f176 (v:Int):Option Fz:=
 D4 (f79 ([]) v) fun a=>
 some (a.1,a.2)
instance H176 (v:Int): HF 176 [.dat T0 v] [] 0 (f176 v) (fun _=>[.raw true [(.osl 0),(.osl 1)]]) (fun y=>[(0,.arr 3 T0 y.1),(1,.arr 35 T0 y.2)]) 2:=hd Tryz.f176 rfl fun y q=>by
 unfold f176 at q
 exact gV
def f130_j4 (c a b:Int):Option Bool:=
 bif ((Int.fdiv a (2 ^ min (Int.toNat (63:Int)) u64.bits))==1) then
 some true
 else
 some (decide ((Fv IntKind.u64 (fun p q=>p||| q) (u64.wrap (a*2 ^ min (Int.toNat (1:Int)) u64.bits)) b)≥c))
def f130_l3 (j g k h m:Int) (n:(Int×Int×PTz4)→Option (Int×PTz4)) (a i c b e d:Int):Option (Int×PTz4):=
 bif (decide (i≥0)) then
 D4 (f183 j g k h i) fun l=>
 D4 (f130_j4 m a l) fun o=>
 bif o then
 Ey (0≤(i64.wrap (Int.tdiv i (64:Int)))∧(i64.wrap (Int.tdiv i (64:Int)))<4)<|
 pickF (i64.wrap (Int.tdiv i (64:Int)))
 [(Ey (0≤(u64.wrap (Int.tmod i (64:Int))))<|
 n ((u64.wrap ((Fv IntKind.u64 (fun p q=>p||| q) (u64.wrap (a*2 ^ min (Int.toNat (1:Int)) u64.bits)) l)-m)),(i64.wrap (i-1)),(Fv IntKind.u64 (fun p q=>p||| q) c (u64.wrap ((1:Int)*2 ^ min (Int.toNat (u64.wrap (Int.tmod i (64:Int)))) u64.bits))),b,e,d)),
 (Ey (0≤(u64.wrap (Int.tmod i (64:Int))))<|
 n ((u64.wrap ((Fv IntKind.u64 (fun p q=>p||| q) (u64.wrap (a*2 ^ min (Int.toNat (1:Int)) u64.bits)) l)-m)),(i64.wrap (i-1)),c,(Fv IntKind.u64 (fun p q=>p||| q) b (u64.wrap ((1:Int)*2 ^ min (Int.toNat (u64.wrap (Int.tmod i (64:Int)))) u64.bits))),e,d)),
 (Ey (0≤(u64.wrap (Int.tmod i (64:Int))))<|
 n ((u64.wrap ((Fv IntKind.u64 (fun p q=>p||| q) (u64.wrap (a*2 ^ min (Int.toNat (1:Int)) u64.bits)) l)-m)),(i64.wrap (i-1)),c,b,(Fv IntKind.u64 (fun p q=>p||| q) e (u64.wrap ((1:Int)*2 ^ min (Int.toNat (u64.wrap (Int.tmod i (64:Int)))) u64.bits))),d)),
 (Ey (0≤(u64.wrap (Int.tmod i (64:Int))))<|
 n ((u64.wrap ((Fv IntKind.u64 (fun p q=>p||| q) (u64.wrap (a*2 ^ min (Int.toNat (1:Int)) u64.bits)) l)-m)),(i64.wrap (i-1)),c,b,e,(Fv IntKind.u64 (fun p q=>p||| q) d (u64.wrap ((1:Int)*2 ^ min (Int.toNat (u64.wrap (Int.tmod i (64:Int)))) u64.bits)))))]
 else
 n ((Fv IntKind.u64 (fun p q=>p||| q) (u64.wrap (a*2 ^ min (Int.toNat (1:Int)) u64.bits)) l),(i64.wrap (i-1)),c,b,e,d)
 else
 some (a,c,b,e,d)
def f130_j5 (b:Int) (a:Int×PTz4):Option Bool:=
 bif (decide (a.1>(u64.wrap (b-a.1)))) then
 some true
 else
 bif (a.1==(u64.wrap (b-a.1))) then
 some ((Fv IntKind.u64 (fun p q=>p&&& q) a.2.1 (1:Int))==1)
 else
 some false
def f130 (a:Bool) (g d i e h:Int):Option Jt:=
 D4 (f85 h) fun k=>
 D4 (Fp (fun l x=>f130_l3 g d i e k l x.1 x.2.1 x.2.2.1 x.2.2.2.1 x.2.2.2.2.1 x.2.2.2.2.2) Fq ((0:Int),(255:Int),(0:Int),(0:Int),(0:Int),(0:Int))) fun b=>
 D4 (f130_j5 k b) fun j=>
 bif j then
 D4 (f138 b.2.1 b.2.2.1 b.2.2.2.1 b.2.2.2.2 (1:Int) (0:Int) (0:Int) (0:Int)) fun c=>
 some ((!(a==(decide (h<0)))),c.1,c.2.1,c.2.2.1,c.2.2.2)
 else
 some ((!(a==(decide (h<0)))),b.2.1,b.2.2.1,b.2.2.2.1,b.2.2.2.2)
instance H130 (c:Bool) (s o u t v:Int): HE 130 [.raw true [(.d .bool c),(.d T8 s),(.d T8 o),(.d T8 u),(.d T8 t)],.dat T0 v] (f130 c s o u t v) (fun y=>[.raw true [(.d .bool y.1),(.d T8 y.2.1),(.d T8 y.2.2.1),(.d T8 y.2.2.2.1),(.d T8 y.2.2.2.2)]]):=hd Tryz.f130 rfl fun y q=>by
 unfold f130 at q
 refine OL (OL ?_)
 obtain ⟨r1,h,q⟩:=bE q
 refine cL h gW ?_
 refine R2 (AI (lQ rfl) (R2 (AI TV (AI TV (OL (OL (OL (OL (OL ?_)))))))))
 obtain ⟨z8,b3,q⟩:=bE q
 let h0:LH:=fun zz=>(0,.cells [(.d .bool c),(.d T8 s),(.d T8 o),(.d T8 u),(.d T8 t)])::(1,.cells [(.d .bool false),(.d T8 (0:Int)),(.d T8 (0:Int)),(.d T8 (0:Int)),(.d T8 (0:Int))])::zz
 let h1:LH:=fun zz=>(0,.cells [(.d .bool false),(.d T8 (0:Int)),(.d T8 (0:Int)),(.d T8 (0:Int)),(.d T8 (0:Int))])::zz
 refine lJ b3 (fun x=>⟨[(2,P0 0 0),(4,P0 1 0),(5,.dat T8 r1),(6,P0 2 0),(7,.dat T8 x.1),(8,.dat T0 x.2.1)],h0 [(2,.cells [(.d .bool (!(c==(decide (v<0))))),(.d T8 x.2.2.1),(.d T8 x.2.2.2.1),(.d T8 x.2.2.2.2.1),(.d T8 x.2.2.2.2.2)])],3⟩) (fun z=>[(2,⟨[(4,P0 0 0),(5,.dat T8 r1),(6,P0 1 0),(7,.dat T8 z.1)],h1 [(1,.cells [(.d .bool (!(c==(decide (v<0))))),(.d T8 z.2.1),(.d T8 z.2.2.1),(.d T8 z.2.2.2.1),(.d T8 z.2.2.2.2)])],2⟩)]) gV (fun m=>F3 (fun k=>F3 (fun i=>F3 (fun n=>F3 (fun l=>F3 (fun j=>fun d z q=>?_)))))) ?_
 ·have q:f130_l3 s o u t r1 _ k i n l j d=some z:=q
  unfold f130_l3 at q
  refine OL (OL (cI q (fun q=>?_) (fun q=>?_)))
  ·refine OL (OL (AI (by decide) (OL (AI (by decide) ?_))))
   obtain ⟨r9,h,q⟩:=bE q
   refine cL h gW ?_
   refine R2 (AI (lQ rfl) (R2 (AJ (AI TV ?_))))
   obtain ⟨b4,b0,q⟩:=bE q
   refine OQ ⟨[(0,⟨[(2,P0 0 0),(4,P0 1 0),(5,.dat T8 r1),(6,P0 2 0),(7,.dat T8 (Fv IntKind.u64 (fun p q=>p||| q) (u64.wrap (k*2 ^ min (Int.toNat (1:Int)) u64.bits)) r9)),(8,.dat T0 i),(37,.dat .bool b4)],h0 [(2,.cells [(.d .bool (!(c==(decide (v<0))))),(.d T8 n),(.d T8 l),(.d T8 j),(.d T8 d)])],3⟩)],?_,?_⟩
   ·have q:=b0
    clear b0
    unfold f130_j4 at q
    refine cN q (fun q=>?_) (fun q=>?_)
    ·refine gY (gY (cF ?_))
     have w:=sE q
     subst w
     refine E4 I3 (R5 (AI (R3 TV) (R3 TV)))
    refine gN (gN (cT ?_))
    have w:=sE q
    subst w
    refine E4 I3 (R5 (AI (R3 TV) (R3 TV)))
   refine AI (cI q (fun q=>?_) (fun q=>?_)) TV
   ·refine OL (AI (by decide) (AI (by decide) (gI q (fun q=>?_))))
    refine AI (fun b=>?_) ?_
    ·have q:=Jp q b
     dsimp only [nthO] at q
     refine AI (by decide) (gI q (fun q=>?_))
     refine AI (rE b (by decide)) (AI (fun _=>?_) (AI (fun h=>absurd (b.symm.trans h) (by decide)) (AI (fun h=>absurd (b.symm.trans h) (by decide)) (AI (fun h=>absurd (b.symm.trans h) (by decide)) TV))))
     refine OL (EI ((u64.wrap ((Fv IntKind.u64 (fun p q=>p||| q) (u64.wrap (k*2 ^ min (Int.toNat (1:Int)) u64.bits)) r9)-r1)),(i64.wrap (i-1)),(Fv IntKind.u64 (fun p q=>p||| q) n (u64.wrap ((1:Int)*2 ^ min (Int.toNat (u64.wrap (Int.tmod i (64:Int)))) u64.bits))),l,j,d) (AI q (E4 I3 (R4 (AI (R3 TV) (R3 TV))))))
    refine AI (fun b=>?_) ?_
    ·have q:=Jp q b
     dsimp only [nthO] at q
     refine AI (by decide) (gI q (fun q=>?_))
     refine AI (rE b (by decide)) (AI (fun h=>absurd (b.symm.trans h) (by decide)) ?_)
     refine AI (fun _=>?_) (AI (fun h=>absurd (b.symm.trans h) (by decide)) (AI (fun h=>absurd (b.symm.trans h) (by decide)) TV))
     refine OL (EI ((u64.wrap ((Fv IntKind.u64 (fun p q=>p||| q) (u64.wrap (k*2 ^ min (Int.toNat (1:Int)) u64.bits)) r9)-r1)),(i64.wrap (i-1)),n,(Fv IntKind.u64 (fun p q=>p||| q) l (u64.wrap ((1:Int)*2 ^ min (Int.toNat (u64.wrap (Int.tmod i (64:Int)))) u64.bits))),j,d) (AI q (E4 I3 (R4 (AI (R3 TV) (R3 TV))))))
    refine AI (fun b=>?_) ?_
    ·have q:=Jp q b
     dsimp only [nthO] at q
     refine AI (by decide) (gI q (fun q=>?_))
     refine AI (rE b (by decide)) (AI (fun h=>absurd (b.symm.trans h) (by decide)) ?_)
     refine AI (fun h=>absurd (b.symm.trans h) (by decide)) ?_
     refine AI (fun _=>?_) (AI (fun h=>absurd (b.symm.trans h) (by decide)) TV)
     refine OL (EI ((u64.wrap ((Fv IntKind.u64 (fun p q=>p||| q) (u64.wrap (k*2 ^ min (Int.toNat (1:Int)) u64.bits)) r9)-r1)),(i64.wrap (i-1)),n,l,(Fv IntKind.u64 (fun p q=>p||| q) j (u64.wrap ((1:Int)*2 ^ min (Int.toNat (u64.wrap (Int.tmod i (64:Int)))) u64.bits))),d) (AI q (E4 I3 (R4 (AI (R3 TV) (R3 TV))))))
    refine AI (fun b=>?_) TV
    have q:=Jp q b
    dsimp only [nthO] at q
    refine AI (by decide) (gI q (fun q=>?_))
    refine AI (rE b (by decide)) (AI (fun h=>absurd (b.symm.trans h) (by decide)) ?_)
    refine AI (fun h=>absurd (b.symm.trans h) (by decide)) ?_
    refine AI (fun h=>absurd (b.symm.trans h) (by decide)) ?_
    refine AI (fun _=>?_) TV
    refine OL (EI ((u64.wrap ((Fv IntKind.u64 (fun p q=>p||| q) (u64.wrap (k*2 ^ min (Int.toNat (1:Int)) u64.bits)) r9)-r1)),(i64.wrap (i-1)),n,l,j,(Fv IntKind.u64 (fun p q=>p||| q) d (u64.wrap ((1:Int)*2 ^ min (Int.toNat (u64.wrap (Int.tmod i (64:Int)))) u64.bits)))) (AI q (E4 I3 (R4 (AI (R3 TV) (R3 TV))))))
   refine EI ((Fv IntKind.u64 (fun p q=>p||| q) (u64.wrap (k*2 ^ min (Int.toNat (1:Int)) u64.bits)) r9),(i64.wrap (i-1)),n,l,j,d) (AI q (E4 I3 (R4 (AI (R3 TV) (R3 TV)))))
  have w:=sE q
  subst w
  refine E4 (iuR [2,3]) (R3 (AI (R2 TV) (R2 TV)))
 refine AI (OL ?_) TV
 obtain ⟨b2,b1,q⟩:=bE q
 refine OQ ⟨[(0,⟨[(4,P0 0 0),(6,P0 1 0),(73,.dat .bool b2)],h1 [(1,.cells [(.d .bool (!(c==(decide (v<0))))),(.d T8 z8.2.1),(.d T8 z8.2.2.1),(.d T8 z8.2.2.2.1),(.d T8 z8.2.2.2.2)])],2⟩)],?_,?_⟩
 ·have q:=b1
  clear b1
  unfold f130_j5 at q
  refine cN q (fun q=>?_) (fun q=>?_)
  ·refine gY (gY (gY (gY (gY (cI q (fun q=>?_) (fun q=>?_))))))
   ·refine gX (AI (by decide) (AI (fun _=>?_) (AI (fun h=>absurd h (by decide)) (AI (fun h=>absurd h (by decide)) (AI (fun h=>absurd h (by decide)) TV)))))
    refine gX (gX (gX (gY (cT (cF ?_)))))
    have w:=sE q
    subst w
    refine E4 I2 (R2 (AI (R2 TV) (R2 TV)))
   refine gM (gM (gM (gM (gY (cF (cF ?_))))))
   have w:=sE q
   subst w
   refine E4 I2 (R2 (AI (R2 TV) (R2 TV)))
  refine gN (gN (gN (gN (gN (gN (cT ?_))))))
  have w:=sE q
  subst w
  refine E4 I2 (R2 (AI (R2 TV) (R2 TV)))
 refine AI (cI q (fun q=>?_) (fun q=>?_)) TV
 ·obtain ⟨b5,h,q⟩:=bE q
  refine cL h gW ?_
  refine AI rfl (AI (lQ rfl) (R2 (AI (R2 TV) (AI TV (OL (OL (OL ?_)))))))
  have hy:=sE q
  subst hy
  refine AI rfl (E4 [] (AI rfl (AJ TV)))
 refine OL (OL ?_)
 have hy:=sE q
 subst hy
 refine AI rfl (E4 [] (AI rfl (AJ TV)))
def f178 (a:Fz):Option Int:=
 D4 (f214 (a.1,a.2)) fun c=>
 D4 (f130 c.1 c.2.1 c.2.2.1 c.2.2.2.1 c.2.2.2.2 (a.2.length:Int)) fun b=>
 D4 (f129 b.1 b.2.1 b.2.2.1 b.2.2.2.1 b.2.2.2.2) fun d=>
 some d
instance H178 (a:Fz): HE 178 [.dat T7 a] (f178 a) (fun y=>[.dat T0 y]):=hd Tryz.f178 rfl fun y q=>by
 unfold f178 at q
 exact gV
def f242_l1 (h e j g n:Int) (k:(Int×PTz4)→Option PTz4) (i c b d a:Int):Option PTz4:=
 bif (decide (i≥n)) then
 D4 (f183 h e j g (i64.wrap (i-n))) fun l=>
 bif (l==1) then
 Ey (0≤(i64.wrap (Int.tdiv i (64:Int)))∧(i64.wrap (Int.tdiv i (64:Int)))<4)<|
 pickF (i64.wrap (Int.tdiv i (64:Int)))
 [(Ey (0≤(u64.wrap (Int.tmod i (64:Int))))<|
 k ((i64.wrap (i-1)),(Fv IntKind.u64 (fun p q=>p||| q) c (u64.wrap ((1:Int)*2 ^ min (Int.toNat (u64.wrap (Int.tmod i (64:Int)))) u64.bits))),b,d,a)),
 (Ey (0≤(u64.wrap (Int.tmod i (64:Int))))<|
 k ((i64.wrap (i-1)),c,(Fv IntKind.u64 (fun p q=>p||| q) b (u64.wrap ((1:Int)*2 ^ min (Int.toNat (u64.wrap (Int.tmod i (64:Int)))) u64.bits))),d,a)),
 (Ey (0≤(u64.wrap (Int.tmod i (64:Int))))<|
 k ((i64.wrap (i-1)),c,b,(Fv IntKind.u64 (fun p q=>p||| q) d (u64.wrap ((1:Int)*2 ^ min (Int.toNat (u64.wrap (Int.tmod i (64:Int)))) u64.bits))),a)),
 (Ey (0≤(u64.wrap (Int.tmod i (64:Int))))<|
 k ((i64.wrap (i-1)),c,b,d,(Fv IntKind.u64 (fun p q=>p||| q) a (u64.wrap ((1:Int)*2 ^ min (Int.toNat (u64.wrap (Int.tmod i (64:Int)))) u64.bits)))))]
 else
 k ((i64.wrap (i-1)),c,b,d,a)
 else
 some (c,b,d,a)
def f242 (a:Bool) (d b e c n:Int):Option Jt:=
 D4 (Fp (fun h x=>f242_l1 d b e c n h x.1 x.2.1 x.2.2.1 x.2.2.2.1 x.2.2.2.2) Fq ((255:Int),(0:Int),(0:Int),(0:Int),(0:Int))) fun g=>
 some (a,g.1,g.2.1,g.2.2.1,g.2.2.2)
instance H242 (c:Bool) (s o u t n:Int): HE 242 [.raw true [(.d .bool c),(.d T8 s),(.d T8 o),(.d T8 u),(.d T8 t)],.dat T0 n] (f242 c s o u t n) (fun y=>[.raw true [(.d .bool y.1),(.d T8 y.2.1),(.d T8 y.2.2.1),(.d T8 y.2.2.2.1),(.d T8 y.2.2.2.2)]]):=hd Tryz.f242 rfl fun y q=>by
 unfold f242 at q
 refine OL (OL (OL (OL (OL ?_))))
 obtain ⟨z5,h,q⟩:=bE q
 refine lJ h (fun x=>⟨[(1,.dat T0 n),(2,P0 0 0),(4,P0 1 0),(5,P0 2 0),(6,.dat T0 x.1)],[(0,.cells [(.d .bool c),(.d T8 s),(.d T8 o),(.d T8 u),(.d T8 t)]),(1,.cells [(.d .bool false),(.d T8 (0:Int)),(.d T8 (0:Int)),(.d T8 (0:Int)),(.d T8 (0:Int))]),(2,.cells [(.d .bool c),(.d T8 x.2.1),(.d T8 x.2.2.1),(.d T8 x.2.2.2.1),(.d T8 x.2.2.2.2)])],3⟩) (fun z=>[(2,⟨[(4,P0 0 0),(5,P0 1 0)],[(0,.cells [(.d .bool false),(.d T8 (0:Int)),(.d T8 (0:Int)),(.d T8 (0:Int)),(.d T8 (0:Int))]),(1,.cells [(.d .bool c),(.d T8 z.1),(.d T8 z.2.1),(.d T8 z.2.2.1),(.d T8 z.2.2.2)])],2⟩)]) gV (fun m=>F3 (fun i=>F3 (fun l=>F3 (fun k=>F3 (fun j=>fun d z q=>?_))))) ?_
 ·have q:f242_l1 s o u t n _ i l k j d=some z:=q
  unfold f242_l1 at q
  refine OL (OL (cI q (fun q=>?_) (fun q=>?_)))
  ·refine OL (OL ?_)
   obtain ⟨r6,h,q⟩:=bE q
   refine cL h gW ?_
   refine R2 (AI (lQ rfl) (R2 (AJ (AI TV (cI q (fun q=>?_) (fun q=>?_))))))
   ·refine AI (by decide) (AI (by decide) (gI q (fun q=>?_)))
    refine AI (fun b=>?_) ?_
    ·have q:=Jp q b
     dsimp only [nthO] at q
     refine AI (by decide) (gI q (fun q=>?_))
     refine AI (rE b (by decide)) (AI (fun _=>?_) (AI (fun h=>absurd (b.symm.trans h) (by decide)) (AI (fun h=>absurd (b.symm.trans h) (by decide)) (AI (fun h=>absurd (b.symm.trans h) (by decide)) TV))))
     refine OL (EI ((i64.wrap (i-1)),(Fv IntKind.u64 (fun p q=>p||| q) l (u64.wrap ((1:Int)*2 ^ min (Int.toNat (u64.wrap (Int.tmod i (64:Int)))) u64.bits))),k,j,d) (AI q (E4 I3 (R3 (AI (R3 TV) (R3 TV))))))
    refine AI (fun b=>?_) ?_
    ·have q:=Jp q b
     dsimp only [nthO] at q
     refine AI (by decide) (gI q (fun q=>?_))
     refine AI (rE b (by decide)) (AI (fun h=>absurd (b.symm.trans h) (by decide)) ?_)
     refine AI (fun _=>?_) (AI (fun h=>absurd (b.symm.trans h) (by decide)) (AI (fun h=>absurd (b.symm.trans h) (by decide)) TV))
     refine OL (EI ((i64.wrap (i-1)),l,(Fv IntKind.u64 (fun p q=>p||| q) k (u64.wrap ((1:Int)*2 ^ min (Int.toNat (u64.wrap (Int.tmod i (64:Int)))) u64.bits))),j,d) (AI q (E4 I3 (R3 (AI (R3 TV) (R3 TV))))))
    refine AI (fun b=>?_) ?_
    ·have q:=Jp q b
     dsimp only [nthO] at q
     refine AI (by decide) (gI q (fun q=>?_))
     refine AI (rE b (by decide)) (AI (fun h=>absurd (b.symm.trans h) (by decide)) ?_)
     refine AI (fun h=>absurd (b.symm.trans h) (by decide)) ?_
     refine AI (fun _=>?_) (AI (fun h=>absurd (b.symm.trans h) (by decide)) TV)
     refine OL (EI ((i64.wrap (i-1)),l,k,(Fv IntKind.u64 (fun p q=>p||| q) j (u64.wrap ((1:Int)*2 ^ min (Int.toNat (u64.wrap (Int.tmod i (64:Int)))) u64.bits))),d) (AI q (E4 I3 (R3 (AI (R3 TV) (R3 TV))))))
    refine AI (fun b=>?_) TV
    have q:=Jp q b
    dsimp only [nthO] at q
    refine AI (by decide) (gI q (fun q=>?_))
    refine AI (rE b (by decide)) (AI (fun h=>absurd (b.symm.trans h) (by decide)) ?_)
    refine AI (fun h=>absurd (b.symm.trans h) (by decide)) ?_
    refine AI (fun h=>absurd (b.symm.trans h) (by decide)) ?_
    refine AI (fun _=>?_) TV
    refine OL (EI ((i64.wrap (i-1)),l,k,j,(Fv IntKind.u64 (fun p q=>p||| q) d (u64.wrap ((1:Int)*2 ^ min (Int.toNat (u64.wrap (Int.tmod i (64:Int)))) u64.bits)))) (AI q (E4 I3 (R3 (AI (R3 TV) (R3 TV))))))
   refine EI ((i64.wrap (i-1)),l,k,j,d) (AI q (E4 I3 (R3 (AI (R3 TV) (R3 TV)))))
  have w:=sE q
  subst w
  refine E4 (iuR [2,3]) (AI rfl (AI (R2 TV) (R2 TV)))
 refine AI (OL (OL ?_)) TV
 have v:=sE q
 subst v
 refine AI rfl (E4 [] (AI rfl (AJ TV)))
def f234 (n:Int):Option Int:=
 D4 (f48 n) fun b=>
 D4 (f242 b.1 b.2 (0:Int) (0:Int) (0:Int) (32:Int)) fun a=>
 D4 (f129 a.1 a.2.1 a.2.2.1 a.2.2.2.1 a.2.2.2.2) fun c=>
 some c
instance H234 (n:Int): HE 234 [.dat T0 n] (f234 n) (fun y=>[.dat T0 y]):=hd Tryz.f234 rfl fun y q=>by
 unfold f234 at q
 exact gV
def f146 (b a:Bool):Option Int:=
 bif a then
 some (0:Int)
 else
 bif b then
 some (-9223372036854775808:Int)
 else
 some (9223372036854775807:Int)
instance H146 (c b:Bool): HE 146 [.dat .bool c,.dat .bool b] (f146 c b) (fun y=>[.dat T0 y]):=hd Tryz.f146 rfl fun y q=>by
 unfold f146 at q
 exact gV
def f233 (a b:Int):Option Int:=
 bif (b==0) then
 D4 (f146 (decide (a<0)) (a==0)) fun g=>
 some g
 else
 D4 (f48 a) fun e=>
 D4 (f242 e.1 e.2 (0:Int) (0:Int) (0:Int) (32:Int)) fun d=>
 D4 (f130 d.1 d.2.1 d.2.2.1 d.2.2.2.1 d.2.2.2.2 b) fun c=>
 D4 (f129 c.1 c.2.1 c.2.2.1 c.2.2.2.1 c.2.2.2.2) fun h=>
 some h
instance H233 (a b:Int): HE 233 [.dat T0 a,.dat T0 b] (f233 a b) (fun y=>[.dat T0 y]):=hd Tryz.f233 rfl fun y q=>by
 unfold f233 at q
 exact gV
def f235 (a:Int):Option Int:=
 D4 (f94 (0:Int) a) fun b=>
 some b
instance H235 (a:Int): HE 235 [.dat T0 a] (f235 a) (fun y=>[.dat T0 y]):=hd Tryz.f235 rfl fun y q=>by
 unfold f235 at q
 exact gV
def f215 (a b:Int):Option Int:=
 bif (a==1) then
 bif (decide (b<0)) then
 some (0:Int)
 else
 some b
 else
 bif (a==2) then
 bif (decide (b>0)) then
 some b
 else
 D4 (f234 (8:Int)) fun g=>
 D4 (f233 b g) fun d=>
 some d
 else
 bif (a==3) then
 bif (decide (b>4294967296)) then
 some (4294967296:Int)
 else
 bif (decide (b<(-4294967296:Int))) then
 some (-4294967296:Int)
 else
 some b
 else
 bif (a==4) then
 bif (decide (b<0)) then
 D4 (f235 b) fun i=>
 some i
 else
 some b
 else
 D4 (f234 (2:Int)) fun e=>
 D4 (f233 b e) fun h=>
 D4 (f92 h (2147483648:Int)) fun c=>
 bif (decide (c<0)) then
 some (0:Int)
 else
 bif (decide (c>4294967296)) then
 some (4294967296:Int)
 else
 some c
instance H215 (b c:Int): HE 215 [.dat T0 b,.dat T0 c] (f215 b c) (fun y=>[.dat T0 y]):=hd Tryz.f215 rfl fun y q=>by
 unfold f215 at q
 exact gV
def f179_j3 (a:Int) (t:Fz):Option Bool:=
 bif (decide (a<1)) then
 some true
 else
 bif (decide (a>5)) then
 some true
 else
 D4 (f118 (t.1,t.2)) fun b=>
 some (!b)
def f179_j2 (a:Int) (t:Fz):Option (Sum Unit Unit):=
 D4 (f179_j3 a t) fun b=>
 bif b then
 some (Sum.inr ())
 else
 some (Sum.inl ())
def f179_l4 (a:Int) (t:Fz) (d:Jy→Option LI) (i:Int) (c:LI):Option LI:=
 bif (decide (i<c.length)) then
 Ey (0≤i∧i<t.2.length)<|
 D4 (f215 a (rd 0 t.2 i)) fun b=>
 Ey (0≤i∧i<c.length)<|
 d ((i64.wrap (i+1)),(List.set c (Int.toNat i) b))
 else
 some c
def f179 (a:Int) (t:Fz):Option Jn:=
 D4 (f179_j2 a t) fun e=>
 F5 e (fun g=>
 D4 (f79 t.1 (0:Int)) fun b=>
 D4 (Fp (fun h x=>f179_l4 a t h x.1 x.2) Fq ((0:Int),b.2)) fun c=>
 some ((0:Int),b.1,c)) (fun d=>
 some ((1:Int),[],[]))
instance H179 (b:Int) (t:Fz): HF 179 [.dat T0 b,.dat T7 t] [] 0 (f179 b t) (fun y=>[.raw true [(.osl 0),(.osl 1)],.dat T0 y.1]) (fun y=>[(0,.arr 3 T0 y.2.1),(1,.arr 35 T0 y.2.2)]) 2:=hd Tryz.f179 rfl fun y q=>by
 unfold f179 at q
 refine OL ?_
 obtain ⟨p,c,q⟩:=bE q
 let j:LE:=fun k=>(0,.dat T0 b)::(3,P0 0 0)::(4,P0 1 0)::k
 let n:LH:=fun k=>(0,.cells [(.d T4 t.1),(.d T4 t.2)])::(1,.cells [N0,N0])::k
 refine OQ ⟨Sum.elim (fun l=>[(0,⟨j [],n [],2⟩)]) (fun d=>[(1,⟨[(4,P0 0 0),(5,D0 1)],[(0,.cells [N0,N0])],1⟩)]) p,?_,?_⟩
 ·have q:=c
  clear c
  unfold f179_j2 at q
  obtain ⟨v,o,q⟩:=bE q
  refine OQ ⟨[(0,⟨j [(18,.dat .bool v)],n [],2⟩)],?_,?_⟩
  ·have q:=o
   unfold f179_j3 at q
   exact gV
  exact gV
 rcases p with l | d
 ·dsimp only [F5] at q
  refine AI (OL ?_) TV
  obtain ⟨s,h,q⟩:=bE q
  refine cL h gW ?_
  refine R3 (AI (lQ rfl) (R2 (AI TV (AI TV (OL (OL (OL ?_)))))))
  obtain ⟨w,h,q⟩:=bE q
  refine lJ h (fun x=>⟨j [(6,P0 2 0),(7,.dat T0 x.1)],n [(2,.cells [(.osl 3),(.osl 4)]),(3,.arr 3 T0 s.1),(4,.arr 35 T0 x.2)],5⟩) (fun z=>[(2,⟨[(4,P0 0 0),(6,P0 1 0)],[(0,.cells [N0,N0]),(1,.cells [(.osl 2),(.osl 3)]),(2,.arr 3 T0 s.1),(3,.arr 35 T0 z)],4⟩)]) gV (fun m=>F3 (fun i=>fun u z q=>?_)) ?_
  ·have q:f179_l4 b t _ i u=some z:=q
   unfold f179_l4 at q
   exact gV
  exact gV
 exact gV
def f180_j3 (a k:Fz) (b:Int):Option Bool:=
 D4 (f118 (a.1,a.2)) fun d=>
 bif (!d) then
 some true
 else
 D4 (f118 (k.1,k.2)) fun c=>
 bif (!c) then
 some true
 else
 bif (decide (b<1)) then
 some true
 else
 some (decide (b>64))
def f180_j2 (a k:Fz) (b:Int):Option (Sum Unit Unit):=
 D4 (f180_j3 a k b) fun c=>
 bif c then
 some (Sum.inr ())
 else
 some (Sum.inl ())
def f180_j6 (a k:Fz):Option Bool:=
 bif ((a.1.length:Int) != 2) then
 some true
 else
 bif ((k.1.length:Int) != 3) then
 some true
 else
 Ey (0≤(0:Int)∧0<(a.1.length:Int))<|
 Ey (0≤(1:Int)∧1<(k.1.length:Int))<|
 bif ((rd 0 a.1 0) != (rd 0 k.1 1)) then
 some true
 else
 Ey (0≤(2:Int)∧2<(k.1.length:Int))<|
 Ey (0≤(1:Int)∧1<(a.1.length:Int))<|
 some (decide ((rd 0 k.1 2)>(rd 0 a.1 1)))
def f180_j5 (a k:Fz):Option (Sum Unit Unit):=
 D4 (f180_j6 a k) fun b=>
 bif b then
 some (Sum.inr ())
 else
 some (Sum.inl ())
def f180_l46 (a k:Fz) (m i j o:Int) (p:(Int×Jt)→Option Jt) (n:Int) (l:Bool) (e g h d:Int):Option Jt:=
 bif (decide (n<(rd 0 k.1 2))) then
 Ey (0≤(i64.wrap ((i64.wrap ((i64.wrap (o*(rd 0 a.1 1)))+(i64.wrap (j*m))))+n))∧(i64.wrap ((i64.wrap ((i64.wrap (o*(rd 0 a.1 1)))+(i64.wrap (j*m))))+n))<a.2.length)<|
 Ey (0≤(i64.wrap ((i64.wrap ((i64.wrap ((i64.wrap (i*(rd 0 a.1 0)))+o))*(rd 0 k.1 2)))+n))∧(i64.wrap ((i64.wrap ((i64.wrap ((i64.wrap (i*(rd 0 a.1 0)))+o))*(rd 0 k.1 2)))+n))<k.2.length)<|
 D4 (f149 (rd 0 a.2 (i64.wrap ((i64.wrap ((i64.wrap (o*(rd 0 a.1 1)))+(i64.wrap (j*m))))+n))) (rd 0 k.2 (i64.wrap ((i64.wrap ((i64.wrap ((i64.wrap (i*(rd 0 a.1 0)))+o))*(rd 0 k.1 2)))+n)))) fun c=>
 D4 (f83 l e g h d c.1 c.2.1 c.2.2.1 c.2.2.2.1 c.2.2.2.2) fun b=>
 p ((i64.wrap (n+1)),b.1,b.2.1,b.2.2.1,b.2.2.2.1,b.2.2.2.2)
 else
 some (l,e,g,h,d)
def f180_l45 (a k:Fz) (l i j:Int) (n:(Int×Jt)→Option Jt) (m:Int) (e:Bool) (c d h g:Int):Option Jt:=
 bif (decide (m<(rd 0 a.1 0))) then
 D4 (Fp (fun n x=>f180_l46 a k l i j m n x.1 x.2.1 x.2.2.1 x.2.2.2.1 x.2.2.2.2.1 x.2.2.2.2.2) Fq ((0:Int),e,c,d,h,g)) fun b=>
 n ((i64.wrap (m+1)),b.1,b.2.1,b.2.2.1,b.2.2.2.1,b.2.2.2.2)
 else
 some (e,c,d,h,g)
def f180_l42 (a k:Fz) (c i:Int) (h:Jy→Option LI) (j:Int) (e:LI):Option LI:=
 bif (decide (j<(i64.wrap ((i64.wrap (Int.tdiv (i64.wrap ((rd 0 a.1 1)-(rd 0 k.1 2))) c))+1)))) then
 D4 (Fp (fun h x=>f180_l45 a k c i j h x.1 x.2.1 x.2.2.1 x.2.2.2.1 x.2.2.2.2.1 x.2.2.2.2.2) Fq ((0:Int),false,(0:Int),(0:Int),(0:Int),(0:Int))) fun d=>
 D4 (f148 d.1 d.2.1 d.2.2.1 d.2.2.2.1 d.2.2.2.2 (32:Int)) fun b=>
 D4 (f129 b.1 b.2.1 b.2.2.1 b.2.2.2.1 b.2.2.2.2) fun g=>
 Ey (0≤(i64.wrap ((i64.wrap (i*(i64.wrap ((i64.wrap (Int.tdiv (i64.wrap ((rd 0 a.1 1)-(rd 0 k.1 2))) c))+1))))+j))∧(i64.wrap ((i64.wrap (i*(i64.wrap ((i64.wrap (Int.tdiv (i64.wrap ((rd 0 a.1 1)-(rd 0 k.1 2))) c))+1))))+j))<e.length)<|
 h ((i64.wrap (j+1)),(List.set e (Int.toNat (i64.wrap ((i64.wrap (i*(i64.wrap ((i64.wrap (Int.tdiv (i64.wrap ((rd 0 a.1 1)-(rd 0 k.1 2))) c))+1))))+j))) g))
 else
 some e
def f180_l33 (a k:Fz) (b:Int) (d:Jy→Option LI) (i:Int) (e:LI):Option LI:=
 bif (decide (i<(rd 0 k.1 0))) then
 D4 (Fp (fun d x=>f180_l42 a k b i d x.1 x.2) Fq ((0:Int),e)) fun c=>
 d ((i64.wrap (i+1)),c)
 else
 some e
def f180 (a k:Fz) (b:Int):Option Jn:=
 D4 (f180_j2 a k b) fun n=>
 F5 n (fun j=>
 D4 (f180_j5 a k) fun e=>
 F5 e (fun i=>
 Ey (0≤(0:Int)∧0<(a.1.length:Int))<|
 Ey (0≤(1:Int)∧1<(a.1.length:Int))<|
 Ey (0≤(0:Int)∧0<(k.1.length:Int))<|
 Ey (0≤(2:Int)∧2<(k.1.length:Int))<|
 Ey (b≠0)<|
 D4 (f173 ([(rd 0 k.1 0),(i64.wrap ((i64.wrap (Int.tdiv (i64.wrap ((rd 0 a.1 1)-(rd 0 k.1 2))) b))+1))])) fun c=>
 bif (!c) then
 some ((2:Int),[],[])
 else
 D4 (f79 ([(rd 0 k.1 0),(i64.wrap ((i64.wrap (Int.tdiv (i64.wrap ((rd 0 a.1 1)-(rd 0 k.1 2))) b))+1))]) (0:Int)) fun d=>
 D4 (Fp (fun m x=>f180_l33 a k b m x.1 x.2) Fq ((0:Int),d.2)) fun g=>
 some ((0:Int),d.1,g)) (fun h=>
 some ((4:Int),[],[]))) (fun l=>
 some ((1:Int),[],[]))
instance H180 (a k:Fz) (b:Int): HF 180 [.dat T7 a,.dat T7 k,.dat T0 b] [] 0 (f180 a k b) (fun y=>[.raw true [(.osl 0),(.osl 1)],.dat T0 y.1]) (fun y=>[(0,.arr 3 T0 y.2.1),(1,.arr 35 T0 y.2.2)]) 2:=hd Tryz.f180 rfl fun y q=>by
 unfold f180 at q
 refine OL ?_
 obtain ⟨z5,c0,q⟩:=bE q
 let e0:LE:=fun d=>(2,.dat T0 b)::(3,P0 0 0)::(4,P0 1 0)::(6,P0 2 0)::d
 let v:LH:=fun d=>(0,.cells [(.d T4 a.1),(.d T4 a.2)])::(1,.cells [(.d T4 k.1),(.d T4 k.2)])::(2,.cells [N0,N0])::d
 refine OQ ⟨Sum.elim (fun c3=>[(0,⟨e0 [],v [],3⟩)]) (fun c6=>[(1,⟨[(6,P0 0 0),(7,D0 1)],[(0,.cells [N0,N0])],1⟩)]) z5,?_,?_⟩
 ·have q:=c0
  clear c0
  unfold f180_j2 at q
  obtain ⟨z8,c4,q⟩:=bE q
  refine OQ ⟨[(0,⟨e0 [(34,.dat .bool z8)],v [],3⟩)],?_,?_⟩
  ·have q:=c4
   unfold f180_j3 at q
   exact gV
  exact gV
 rcases z5 with c3 | c6
 ·dsimp only [F5] at q
  refine AI ?_ TV
  obtain ⟨b6,u,q⟩:=bE q
  refine OQ ⟨Sum.elim (fun b9=>[(0,⟨e0 [],v [],3⟩)]) (fun w=>[(1,⟨[(6,P0 0 0),(7,D0 4)],[(0,.cells [N0,N0])],1⟩)]) b6,?_,?_⟩
  ·have q:=u
   clear u
   unfold f180_j5 at q
   obtain ⟨c5,b7,q⟩:=bE q
   refine OQ ⟨[(0,⟨e0 [(67,.dat .bool c5)],v [],3⟩)],?_,?_⟩
   ·have q:=b7
    unfold f180_j6 at q
    exact gV
   exact gV
  rcases b6 with b9 | w
  ·dsimp only [F5] at q
   refine AI (OL (EI (tU 0 20 .done) (EI [] (EI [] (AI rfl (gI q (fun q=>?_))))))) TV
   refine gI q (fun q=>?_)
   refine gI q (fun q=>?_)
   refine gI q (fun q=>?_)
   refine OL (gI q (fun q=>?_))
   refine OL (OL (OL ?_))
   obtain ⟨c2,h,q⟩:=bE q
   refine cL h gW ?_
   refine R2 (AI (lQ rfl) (R2 (AI TV (AI TV (cI q (fun q=>?_) (fun q=>?_))))))
   ·exact gV
   refine OL (OL ?_)
   obtain ⟨l,h,q⟩:=bE q
   refine cL h gW ?_
   refine R3 (AI (lQ rfl) (R2 (AI TV (AI TV (OL (OL (OL ?_)))))))
   obtain ⟨c9,b0,q⟩:=bE q
   let e2:LE:=fun d=>e0 ((8,.dat T0 (rd 0 a.1 0))::(9,.dat T0 (rd 0 a.1 1))::(10,.dat T0 (rd 0 k.1 0))::(11,.dat T0 (rd 0 k.1 2))::(12,.dat T0 (i64.wrap ((i64.wrap (Int.tdiv (i64.wrap ((rd 0 a.1 1)-(rd 0 k.1 2))) b))+1)))::(13,P0 3 0)::d)
   let h3:LH:=fun d=>v ((3,.cells [(.osl 4),(.osl 5)])::(4,.arr 3 T0 l.1)::d)
   refine lJ b0 (fun x=>⟨e2 [(14,.dat T0 x.1)],h3 [(5,.arr 35 T0 x.2)],6⟩) (fun z=>[(2,⟨[(6,P0 0 0),(13,P0 1 0)],[(0,.cells [N0,N0]),(1,.cells [(.osl 2),(.osl 3)]),(2,.arr 3 T0 l.1),(3,.arr 35 T0 z)],4⟩)]) gV (fun m=>F3 (fun i=>fun l5 z q=>?_)) ?_
   ·have q:f180_l33 a k b _ i l5=some z:=q
    unfold f180_l33 at q
    refine OL (OL (cI q (fun q=>?_) (fun q=>?_)))
    ·refine OL (OL ?_)
     obtain ⟨c8,b3,q⟩:=bE q
     let e4:LE:=fun d=>e2 ((14,.dat T0 i)::d)
     refine lJ b3 (fun x=>⟨e4 [(15,.dat T0 x.1)],h3 [(5,.arr 35 T0 x.2)],6⟩) (fun z=>[(4,⟨e4 [],h3 [(5,.arr 35 T0 z)],6⟩)]) gV (fun m=>F3 (fun j=>fun c z q=>?_)) ?_
     ·have q:f180_l42 a k b i _ j c=some z:=q
      unfold f180_l42 at q
      refine OL (OL (cI q (fun q=>?_) (fun q=>?_)))
      ·refine OL (OL (OL (OL (OL ?_))))
       obtain ⟨d0,b4,q⟩:=bE q
       let e5:LE:=fun d=>e4 ((15,.dat T0 j)::(16,P0 4 0)::d)
       let h6:LH:=fun d=>v ((3,.cells [(.osl 5),(.osl 6)])::d)
       refine lJ b4 (fun x=>⟨e5 [(17,.dat T0 x.1)],h6 [(4,.cells [(.d .bool x.2.1),(.d T8 x.2.2.1),(.d T8 x.2.2.2.1),(.d T8 x.2.2.2.2.1),(.d T8 x.2.2.2.2.2)]),(5,.arr 3 T0 l.1),(6,.arr 35 T0 c)],7⟩) (fun z=>[(6,⟨e5 [],h6 [(4,.cells [(.d .bool z.1),(.d T8 z.2.1),(.d T8 z.2.2.1),(.d T8 z.2.2.2.1),(.d T8 z.2.2.2.2)]),(5,.arr 3 T0 l.1),(6,.arr 35 T0 c)],7⟩)]) gV (fun m=>F3 (fun x_=>F3 (fun b8=>F3 (fun b1=>F3 (fun b2=>F3 (fun b5=>fun c1 z q=>?_)))))) ?_
       ·have q:f180_l45 a k b i j _ x_ b8 b1 b2 b5 c1=some z:=q
        unfold f180_l45 at q
        refine OL (OL (cI q (fun q=>?_) (fun q=>?_)))
        ·refine OL (OL ?_)
         obtain ⟨c7,h,q⟩:=bE q
         refine lJ h (fun x=>⟨e5 [(17,.dat T0 x_),(18,.dat T0 x.1)],h6 [(4,.cells [(.d .bool x.2.1),(.d T8 x.2.2.1),(.d T8 x.2.2.2.1),(.d T8 x.2.2.2.2.1),(.d T8 x.2.2.2.2.2)]),(5,.arr 3 T0 l.1),(6,.arr 35 T0 c)],7⟩) (fun z=>[(8,⟨e5 [(17,.dat T0 x_)],h6 [(4,.cells [(.d .bool z.1),(.d T8 z.2.1),(.d T8 z.2.2.1),(.d T8 z.2.2.2.1),(.d T8 z.2.2.2.2)]),(5,.arr 3 T0 l.1),(6,.arr 35 T0 c)],7⟩)]) gV (fun m=>F3 (fun y_=>F3 (fun p=>F3 (fun t=>F3 (fun n=>F3 (fun o=>fun s z q=>?_)))))) ?_
         ·have q:f180_l46 a k b i j x_ _ y_ p t n o s=some z:=q
          unfold f180_l46 at q
          refine OL (OL (cI q (fun q=>?_) (fun q=>?_)))
          ·refine OL (EI (tU 0 27 (.alt 27 (.alt 28 (.alt 29 .done .done) .done) .done)) (EI [(29,[4])] (EI [] (AI rfl ?_))))
           exact gV
          exact gV
         exact gV
        exact gV
       exact gV
      exact gV
     exact gV
    exact gV
   exact gV
  exact gV
 exact gV
def f134_j3 (a:Fz) (w:Int):Option Bool:=
 bif (decide (w<1)) then
 some true
 else
 Ey (0≤(1:Int)∧1<(a.1.length:Int))<|
 some (decide (w>(rd 0 a.1 1)))
def f134_j2 (a:Fz) (w:Int):Option (Sum Unit Unit):=
 D4 (f134_j3 a w) fun b=>
 bif b then
 some (Sum.inr ())
 else
 some (Sum.inl ())
def f134_l16 (a:Fz) (w d j:Int) (e:Ji→Option Int) (b c:Int):Option Int:=
 bif (decide (c<w)) then
 Ey (0≤(i64.wrap ((i64.wrap ((i64.wrap (d*(rd 0 a.1 1)))+(i64.wrap (j*w))))+c))∧(i64.wrap ((i64.wrap ((i64.wrap (d*(rd 0 a.1 1)))+(i64.wrap (j*w))))+c))<a.2.length)<|
 Ey (0≤b∧b<a.2.length)<|
 bif (decide ((rd 0 a.2 (i64.wrap ((i64.wrap ((i64.wrap (d*(rd 0 a.1 1)))+(i64.wrap (j*w))))+c)))>(rd 0 a.2 b))) then
 e ((i64.wrap ((i64.wrap ((i64.wrap (d*(rd 0 a.1 1)))+(i64.wrap (j*w))))+c)),(i64.wrap (c+1)))
 else
 e (b,(i64.wrap (c+1)))
 else
 some b
def f134_l15 (a:Fz) (w e:Int) (g:Jn→Option Fz) (j:Int) (c d:LI):Option Fz:=
 bif (decide (j<(i64.wrap (Int.tdiv (rd 0 a.1 1) w)))) then
 D4 (Fp (fun g x=>f134_l16 a w e j g x.1 x.2) Fq ((i64.wrap ((i64.wrap (e*(rd 0 a.1 1)))+(i64.wrap (j*w)))),(1:Int))) fun b=>
 Ey (0≤b∧b<a.2.length)<|
 Ey (0≤(i64.wrap ((i64.wrap (e*(i64.wrap (Int.tdiv (rd 0 a.1 1) w))))+j))∧(i64.wrap ((i64.wrap (e*(i64.wrap (Int.tdiv (rd 0 a.1 1) w))))+j))<d.length)<|
 Ey ((c.length+List.length ([b]))*8≤140737488355328)<|
 g ((i64.wrap (j+1)),(c++([b])),(List.set d (Int.toNat (i64.wrap ((i64.wrap (e*(i64.wrap (Int.tdiv (rd 0 a.1 1) w))))+j))) (rd 0 a.2 b)))
 else
 some (c,d)
def f134_l12 (a:Fz) (w:Int) (d:Jn→Option Fz) (c:Int) (e g:LI):Option Fz:=
 bif (decide (c<(rd 0 a.1 0))) then
 D4 (Fp (fun d x=>f134_l15 a w c d x.1 x.2.1 x.2.2) Fq ((0:Int),e,g)) fun b=>
 d ((i64.wrap (c+1)),b.1,b.2)
 else
 some (e,g)
def f134 (a:Fz) (w:Int):Option (Int×LI×Fz):=
 D4 (f118 (a.1,a.2)) fun g=>
 bif (!g) then
 some ((1:Int),[],[],[])
 else
 bif ((a.1.length:Int) != 2) then
 some ((4:Int),[],[],[])
 else
 D4 (f134_j2 a w) fun e=>
 F5 e (fun h=>
 Ey (0≤(0:Int)∧0<(a.1.length:Int))<|
 Ey (0≤(1:Int)∧1<(a.1.length:Int))<|
 Ey (w≠0)<|
 D4 (f79 ([(rd 0 a.1 0),(i64.wrap (Int.tdiv (rd 0 a.1 1) w))]) (0:Int)) fun b=>
 D4 (Fp (fun i x=>f134_l12 a w i x.1 x.2.1 x.2.2) Fq ((0:Int),[],b.2)) fun c=>
 some ((0:Int),b.1,c.2,c.1)) (fun d=>
 some ((1:Int),[],[],[]))
instance H134 (a:Fz) (w:Int): HF 134 [.dat T7 a,.dat T0 w] [] 0 (f134 a w) (fun y=>[.raw true [(.osl 0),(.osl 1)],O0 2,.dat T0 y.1]) (fun y=>[(0,.arr 3 T0 y.2.1),(1,.arr 35 T0 y.2.2.1),(2,.arr 3 T0 y.2.2.2)]) 3:=hd Tryz.f134 rfl fun y q=>by
 unfold f134 at q
 refine OL (OL (OL ?_))
 obtain ⟨r1,h,q⟩:=bE q
 refine cL h gW ?_
 refine R3 (AI (lQ rfl) (R2 (AI TV (AI TV (cI q (fun q=>?_) (fun q=>?_))))))
 ·exact gV
 refine OL (OL (cI q (fun q=>?_) (fun q=>?_)))
 ·exact gV
 obtain ⟨z3,p,q⟩:=bE q
 let v:LE:=fun c=>(1,.dat T0 w)::(2,P0 0 0)::(4,P0 1 0)::c
 let h1:LH:=fun c=>(0,.cells [(.d T4 a.1),(.d T4 a.2)])::(1,.cells [N0,N0])::c
 refine OQ ⟨Sum.elim (fun b0=>[(0,⟨v [],h1 [],2⟩)]) (fun u=>[(1,⟨[(4,P0 0 0),(5,.raw false [N0]),(6,D0 1)],[(0,.cells [N0,N0])],1⟩)]) z3,?_,?_⟩
 ·have q:=p
  clear p
  unfold f134_j2 at q
  obtain ⟨z4,b1,q⟩:=bE q
  refine OQ ⟨[(0,⟨v [(34,.dat .bool z4)],h1 [],2⟩)],?_,?_⟩
  ·have q:=b1
   unfold f134_j3 at q
   exact gV
  exact gV
 rcases z3 with b0 | u
 ·dsimp only [F5] at q
  refine AI (OL (EI (tU 0 10 .done) (EI [] (EI [] (AI rfl (gI q (fun q=>?_))))))) TV
  refine gI q (fun q=>?_)
  refine OL (gI q (fun q=>?_))
  refine OL (OL ?_)
  obtain ⟨b,h,q⟩:=bE q
  refine cL h gW ?_
  refine R3 (AI (lQ rfl) (R2 (AI TV (AI TV (OL (OL (OL (OL ?_))))))))
  obtain ⟨b4,o,q⟩:=bE q
  let n:LE:=fun c=>v ((7,.dat T0 (rd 0 a.1 0))::(8,.dat T0 (rd 0 a.1 1))::(9,.dat T0 (i64.wrap (Int.tdiv (rd 0 a.1 1) w)))::(10,P0 2 0)::(11,O0 3)::c)
  let t:LH:=fun c=>h1 ((2,.cells [(.osl 4),(.osl 5)])::c)
  refine lJ o (fun x=>⟨n [(12,.dat T0 x.1)],t [(3,.arr 3 T0 x.2.1),(4,.arr 3 T0 b.1),(5,.arr 35 T0 x.2.2)],6⟩) (fun z=>[(2,⟨[(4,P0 0 0),(10,P0 1 0),(11,O0 2)],[(0,.cells [N0,N0]),(1,.cells [(.osl 3),(.osl 4)]),(2,.arr 3 T0 z.1),(3,.arr 3 T0 b.1),(4,.arr 35 T0 z.2)],5⟩)]) gV (fun m=>F3 (fun k=>F3 (fun l3=>fun l5 z q=>?_))) ?_
  ·have q:f134_l12 a w _ k l3 l5=some z:=q
   unfold f134_l12 at q
   refine OL (OL (cI q (fun q=>?_) (fun q=>?_)))
   ·refine OL (OL ?_)
    obtain ⟨b2,h,q⟩:=bE q
    refine lJ h (fun x=>⟨n [(12,.dat T0 k),(13,.dat T0 x.1)],t [(3,.arr 3 T0 x.2.1),(4,.arr 3 T0 b.1),(5,.arr 35 T0 x.2.2)],6⟩) (fun z=>[(4,⟨n [(12,.dat T0 k)],t [(3,.arr 3 T0 z.1),(4,.arr 3 T0 b.1),(5,.arr 35 T0 z.2)],6⟩)]) gV (fun m=>F3 (fun j=>F3 (fun d=>fun i z q=>?_))) ?_
    ·have q:f134_l15 a w k _ j d i=some z:=q
     unfold f134_l15 at q
     refine OL (OL (cI q (fun q=>?_) (fun q=>?_)))
     ·refine OL (OL (OL (OL ?_)))
      obtain ⟨b3,s,q⟩:=bE q
      let h4:LH:=fun c=>t ((3,.arr 3 T0 d)::(4,.arr 3 T0 b.1)::(5,.arr 35 T0 i)::c)
      refine lJ s (fun x=>⟨n [(12,.dat T0 k),(13,.dat T0 j),(14,.dat T0 x.1),(15,.dat T0 x.2)],h4 [],6⟩) (fun z=>[(6,⟨n [(12,.dat T0 k),(13,.dat T0 j),(14,.dat T0 z)],h4 [],6⟩)]) gV (fun m=>F3 (fun l=>fun y_ z q=>?_)) ?_
      ·have q:f134_l16 a w k j _ l y_=some z:=q
       unfold f134_l16 at q
       exact gV
      exact gV
     exact gV
    exact gV
   exact gV
  exact gV
 exact gV
def f135_j3 (a:Fz) (d:LI):Option Bool:=
 D4 (f118 (a.1,a.2)) fun c=>
 bif (!c) then
 some true
 else
 D4 (f173 d) fun b=>
 some (!b)
def f135_j2 (a:Fz) (d:LI):Option (Sum Unit Unit):=
 D4 (f135_j3 a d) fun b=>
 bif b then
 some (Sum.inr ())
 else
 some (Sum.inl ())
def f135 (a:Fz) (d:LI):Option Jn:=
 D4 (f135_j2 a d) fun g=>
 F5 g (fun c=>
 D4 (f122 d) fun b=>
 bif (b != a.2.length) then
 some ((4:Int),[],[])
 else
 Ey ((List.length ([]:LI)+d.length)*8≤140737488355328)<|
 Ey ((List.length ([]:LI)+a.2.length)*8≤140737488355328)<|
 some ((0:Int),(([]:LI)++d),(([]:LI)++a.2))) (fun e=>
 some ((1:Int),[],[]))
instance H135 (a:Fz) (d:LI): HF 135 [.dat T7 a,.dat T4 d] [] 0 (f135 a d) (fun y=>[.raw true [(.osl 0),(.osl 1)],.dat T0 y.1]) (fun y=>[(0,.arr 3 T0 y.2.1),(1,.arr 35 T0 y.2.2)]) 2:=hd Tryz.f135 rfl fun y q=>by
 unfold f135 at q
 refine OL ?_
 obtain ⟨n,i,q⟩:=bE q
 refine OQ ⟨Sum.elim (fun l=>[(0,⟨[(1,.dat T4 d),(2,P0 0 0),(4,P0 1 0)],[(0,.cells [(.d T4 a.1),(.d T4 a.2)]),(1,.cells [N0,N0])],2⟩)]) (fun k=>[(1,⟨[(4,P0 0 0),(5,D0 1)],[(0,.cells [N0,N0])],1⟩)]) n,?_,?_⟩
 ·have q:=i
  clear i
  unfold f135_j2 at q
  obtain ⟨o,j,q⟩:=bE q
  refine OQ ⟨[(0,⟨[(1,.dat T4 d),(2,P0 0 0),(4,P0 1 0),(13,.dat .bool o)],[(0,.cells [(.d T4 a.1),(.d T4 a.2)]),(1,.cells [N0,N0])],2⟩)],?_,?_⟩
  ·have q:=j
   unfold f135_j3 at q
   exact gV
  exact gV
 rcases n with l | k
 ·dsimp only [F5] at q
  refine AI (OL (OL (EI (.take 0 (tU 2 3 (.alt 1 (.take 5 .done) .done))) (EI [] (EI [] (AI rfl (AI TV ?_))))))) TV
  obtain ⟨m,h,q⟩:=bE q
  refine cL h gW ?_
  refine R2 (AI (lQ rfl) (R2 (AI TV (AI TV (cI q (fun q=>?_) (fun q=>?_))))))
  ·exact gV
  refine OL ?_
  obtain ⟨b,q⟩:=gE q
  obtain ⟨c,q⟩:=gE q
  refine EI (.take 1 (.take 4 (.take 5 (.alt 0 (.alt 2 (.alt 3 (.alt 6 (.take 7 (.alt 8 (.take 9 .done) .done)) .done) .done) (.alt 3 (.alt 2 (.alt 6 (.take 7 (.alt 8 (.take 9 .done) .done)) .done) .done) .done)) (.alt 3 (.alt 0 (.alt 2 (.alt 6 (.take 7 (.alt 8 (.take 9 .done) .done)) .done) .done) .done) .done))))) (EI [] (EI [] (AI rfl (AI (AI TV ?_) ?_))))
  ·refine OL (AI TV (OL (AI TV (OL (AI b (AI TV (OL (AI c ?_))))))))
   exact gV
  refine OL (AI (AI TV ?_) ?_)
  ·refine OL (AI TV (OL (AI b (AI TV (OL (AI c ?_))))))
   exact gV
  refine OL (AI b (AI TV (OL (AI TV (OL (AI c ?_))))))
  exact gV
 exact gV
def f121_j4 (a:Int):Option Bool:=
 bif (a==2) then
 some (a==2)
 else
 bif (a==3) then
 some (a==3)
 else
 some (a==4)
def f121_j5 (a:Fz) (k:Int):Option Jn:=
 D4 (f175 k) fun c=>
 D4 (f134 (a.1,a.2) c) fun b=>
 some (b.1,b.2.1,b.2.2.1)
def f121_j3 (h:Int) (a b:Fz) (k:Int):Option (Sum Unit Jn):=
 D4 (f121_j4 h) fun t=>
 bif t then
 D4 (f81 (i64.wrap (h-2)) (a.1,a.2) (b.1,b.2)) fun c=>
 some (Sum.inr (c.1,c.2.1,c.2.2))
 else
 bif (h==5) then
 D4 (f124 (a.1,a.2) k) fun p=>
 some (Sum.inr (p.1,p.2.1,p.2.2))
 else
 bif (h==6) then
 D4 (f126 (a.1,a.2) (b.1,b.2)) fun m=>
 some (Sum.inr (m.1,m.2.1,m.2.2))
 else
 bif (h==7) then
 D4 (f125 (a.1,a.2)) fun o=>
 some (Sum.inr (o.1,o.2.1,o.2.2))
 else
 bif (h==8) then
 D4 (f175 k) fun q=>
 D4 (f174 (a.1,a.2) q) fun d=>
 some (Sum.inr (d.1,d.2.1,d.2.2))
 else
 bif (h==9) then
 D4 (f177 (a.1,a.2)) fun j=>
 D4 (f176 j) fun s=>
 some (Sum.inr ((0:Int),s.1,s.2))
 else
 bif (h==10) then
 D4 (f178 (a.1,a.2)) fun u=>
 D4 (f176 u) fun r=>
 some (Sum.inr ((0:Int),r.1,r.2))
 else
 bif (h==11) then
 D4 (f175 k) fun l=>
 D4 (f179 l (a.1,a.2)) fun g=>
 some (Sum.inr (g.1,g.2.1,g.2.2))
 else
 bif (h==12) then
 D4 (f175 k) fun i=>
 D4 (f180 (a.1,a.2) (b.1,b.2) i) fun e=>
 some (Sum.inr (e.1,e.2.1,e.2.2))
 else
 bif (h==13) then
 D4 (f121_j5 a k) fun n=>
 some (Sum.inr (n.1,n.2.1,n.2.2))
 else
 some (Sum.inl ())
def f121 (h:Int) (a b:Fz) (k:Int):Option Jn:=
 D4 (f121_j3 h a b k) fun e=>
 F5 e (fun g=>
 D4 (f135 (a.1,a.2) ([(a.2.length:Int)])) fun d=>
 some (d.1,d.2.1,d.2.2)) (fun c=>
 some (c.1,c.2.1,c.2.2))
instance H121 (s:Int) (a b:Fz) (k:Int): HF 121 [.dat T0 s,.dat T7 a,.dat T7 b,.dat T0 k] [] 0 (f121 s a b k) (fun y=>[.raw true [(.osl 0),(.osl 1)],.dat T0 y.1]) (fun y=>[(0,.arr 3 T0 y.2.1),(1,.arr 35 T0 y.2.2)]) 2:=hd Tryz.f121 rfl fun y q=>by
 unfold f121 at q
 refine OL ?_
 obtain ⟨n,l,q⟩:=bE q
 refine OQ ⟨Sum.elim (fun o=>[(0,⟨[(5,P0 0 0),(8,P0 1 0)],[(0,.cells [(.d T4 a.1),(.d T4 a.2)]),(1,.cells [N0,N0])],2⟩)]) (fun d=>[(1,⟨[(8,P0 0 0),(9,.dat T0 d.1)],[(0,.cells [(.osl 1),(.osl 2)]),(1,.arr 3 T0 d.2.1),(2,.arr 35 T0 d.2.2)],3⟩)]) n,?_,?_⟩
 ·have q:=l
  clear l
  unfold f121_j3 at q
  refine OL ?_
  obtain ⟨u,p,q⟩:=bE q
  refine OQ ⟨[(0,⟨[(0,.dat T0 s),(3,.dat T0 k),(5,P0 0 0),(6,P0 1 0),(8,P0 2 0),(13,.dat T0 s),(14,.dat .bool u)],[(0,.cells [(.d T4 a.1),(.d T4 a.2)]),(1,.cells [(.d T4 b.1),(.d T4 b.2)]),(2,.cells [N0,N0])],3⟩)],?_,?_⟩
  ·have q:=p
   unfold f121_j4 at q
   exact gV
  refine AI (cI q (fun q=>?_) (fun q=>?_)) TV
  ·exact gV
  refine OL (cI q (fun q=>?_) (fun q=>?_))
  ·exact gV
  refine OL (cI q (fun q=>?_) (fun q=>?_))
  ·exact gV
  refine OL (cI q (fun q=>?_) (fun q=>?_))
  ·exact gV
  refine OL (cI q (fun q=>?_) (fun q=>?_))
  ·exact gV
  refine OL (cI q (fun q=>?_) (fun q=>?_))
  ·exact gV
  refine OL (cI q (fun q=>?_) (fun q=>?_))
  ·exact gV
  refine OL (cI q (fun q=>?_) (fun q=>?_))
  ·exact gV
  refine OL (cI q (fun q=>?_) (fun q=>?_))
  ·exact gV
  refine OL (cI q (fun q=>?_) (fun q=>?_))
  ·obtain ⟨m,j,q⟩:=bE q
   refine OQ ⟨[(0,⟨[(8,P0 0 0),(10,P0 1 0),(12,.dat T0 m.1)],[(0,.cells [N0,N0]),(1,.cells [(.osl 2),(.osl 3)]),(2,.arr 3 T0 m.2.1),(3,.arr 35 T0 m.2.2)],4⟩)],?_,?_⟩
   ·have q:=j
    clear j
    unfold f121_j5 at q
    obtain ⟨v,i,q⟩:=bE q
    obtain ⟨t,c,q⟩:=bE q
    refine EI (.take 0 (.take 1 (.alt 2 (.alt 3 (tU 4 4 (.alt 8 (.alt 9 (.take 10 (.take 11 .done)) .done) .done)) (.alt 8 (.alt 3 (tU 4 4 (.alt 9 (.take 10 (.take 11 .done)) .done)) .done) .done)) (.alt 8 (.alt 2 (.alt 3 (tU 4 4 (.alt 9 (.take 10 (.take 11 .done)) .done)) .done) .done) .done)))) (EI [] (EI [] (AI rfl (AI (AI TV ?_) ?_))))
    ·refine AI TV (cL i gW ?_)
     refine R2 (AI (lQ rfl) (R2 (AI TV (AI TV (AI TV (cL c gW ?_))))))
     refine R4 (AI (lQ rfl) (R2 (AI TV (AI TV ?_))))
     exact gV
    refine cL i gW ?_
    refine R2 (AI (lQ rfl) (R2 (AI TV (AI TV (AI (AI TV ?_) ?_)))))
    ·refine AI TV (cL c gW ?_)
     refine R4 (AI (lQ rfl) (R2 (AI TV (AI TV ?_))))
     exact gV
    refine cL c gW ?_
    refine R4 (AI (lQ rfl) (R2 (AI TV (AI TV ?_))))
    exact gV
   exact gV
  exact gV
 rcases n with o | d
 ·exact gV
 exact gV
def f78_j1 (c:NL) (d a b:Int):Option (Sum Unit Unit):=
 bif (decide (d<2)) then
 some (Sum.inr ())
 else
 bif (decide (d>14)) then
 some (Sum.inr ())
 else
 bif (decide (a<0)) then
 some (Sum.inr ())
 else
 bif (decide (a≥c.length)) then
 some (Sum.inr ())
 else
 D4 (f119 d) fun e=>
 bif e then
 bif (decide (b<0)) then
 some (Sum.inr ())
 else
 bif (decide (b≥c.length)) then
 some (Sum.inr ())
 else
 some (Sum.inl ())
 else
 some (Sum.inl ())
def f78_j2 (a:NL) (c b:Int):Option Jn:=
 D4 (f119 c) fun d=>
 bif d then
 Ey (0≤b∧b<a.length)<|
 some (b,(((((rd (Ty.z T6) a b).2).2).2).2).1,(((((rd (Ty.z T6) a b).2).2).2).2).2)
 else
 some ((-1:Int),[],[])
def f78_j3 (a k:Int):Option Int:=
 D4 (f120 a) fun b=>
 bif b then
 some k
 else
 some (0:Int)
def f78_j4 (c:NL) (e a:Int) (d:Jn) (g:Int):Option Jn:=
 Ey (0≤a∧a<c.length)<|
 D4 (f121 e ((((((rd (Ty.z T6) c a).2).2).2).2).1,(((((rd (Ty.z T6) c a).2).2).2).2).2) (d.2.1,d.2.2) g) fun b=>
 some (b.1,b.2.1,b.2.2)
def f78 (c:NL) (e a b k:Int):Option Ki:=
 bif (decide ((c.length:Int)≥512)) then
 some ((0:Int),(2:Int),c)
 else
 D4 (f78_j1 c e a b) fun l=>
 F5 l (fun i=>
 D4 (f78_j2 c e b) fun h=>
 D4 (f78_j3 e k) fun g=>
 D4 (f78_j4 c e a h g) fun d=>
 bif (d.1 != 0) then
 some ((0:Int),d.1,c)
 else
 Ey ((c.length+List.length ([(e,a,h.1,g,d.2.1,d.2.2)]))*80≤140737488355328)<|
 some ((i64.wrap ((List.length (c++([(e,a,h.1,g,d.2.1,d.2.2)])):Int)-1)),(0:Int),(c++([(e,a,h.1,g,d.2.1,d.2.2)])))) (fun j=>
 some ((0:Int),(1:Int),c))
instance H78 (i:NL) (n a b k:Int): HF 78 [P0 0 0,.dat T0 n,.dat T0 a,.dat T0 b,.dat T0 k] [(0,.cells [(.osl 1)]),(1,.arr 112 T6 i)] 2 (f78 i n a b k) (fun y=>[.dat T0 y.1,.dat T0 y.2.1]) (fun y=>[(0,.cells [(.osl 2)]),(2,.arr 112 T6 y.2.2)]) 3:=hd Tryz.f78 rfl fun y q=>by
 unfold f78 at q
 refine OL (OL (OL (cI q (fun q=>?_) (fun q=>?_))))
 ·exact gV
 obtain ⟨z2,x,q⟩:=bE q
 let v:LE:=fun o=>(0,P0 0 0)::(1,.dat T0 n)::(2,.dat T0 a)::o
 let t:LH:=fun o=>(0,.cells [(.osl 1)])::(1,.arr 112 T6 i)::o
 refine OQ ⟨Sum.elim (fun w=>[(0,⟨v [(3,.dat T0 b),(4,.dat T0 k)],t [],2⟩)]) (fun z=>[(1,⟨[(10,D0 0),(11,D0 1)],t [],2⟩)]) z2,?_,?_⟩
 ·have q:=x
  unfold f78_j1 at q
  exact gV
 rcases z2 with w | z
 ·dsimp only [F5] at q
  refine AI (OL (OL (OL (OL ?_)))) TV
  obtain ⟨m,p,q⟩:=bE q
  refine OQ ⟨[(0,⟨v [(4,.dat T0 k),(12,P0 2 0),(13,P0 3 0)],t [(2,.cells [(.d T0 n),(.d T0 a),(.d T0 m.1),(.d T0 (0:Int)),N0,N0]),(3,.cells [(.d T4 m.2.1),(.d T4 m.2.2)])],4⟩)],?_,?_⟩
  ·have q:=p
   clear p
   unfold f78_j2 at q
   refine OL ?_
   obtain ⟨r6,h,q⟩:=bE q
   refine cL h gW ?_
   refine R2 (AI (lQ rfl) (R2 (AI TV (AI TV (cI q (fun q=>?_) (fun q=>?_))))))
   ·exact gV
   have hz:=sE q
   subst hz
   refine EI [] (EI [] (EI [(3,0,T0),(3,1,T0)] (EI [] (EI I4 (R4 (AI (R3 TV) (R4 TV)))))))
  refine AI ?_ TV
  obtain ⟨z8,u,q⟩:=bE q
  let h2:LH:=fun o=>t ((2,.cells [(.d T0 n),(.d T0 a),(.d T0 m.1),(.d T0 z8),N0,N0])::o)
  refine OQ ⟨[(0,⟨v [(12,P0 2 0),(13,P0 3 0)],h2 [(3,.cells [(.d T4 m.2.1),(.d T4 m.2.2)])],4⟩)],?_,?_⟩
  ·have q:=u
   unfold f78_j3 at q
   exact gV
  refine AI ?_ TV
  obtain ⟨l,d,q⟩:=bE q
  refine OQ ⟨[(0,⟨[(0,P0 0 0),(12,P0 2 0),(14,P0 3 0),(15,.dat T0 l.1)],h2 [(3,.cells [(.osl 4),(.osl 5)]),(4,.arr 3 T0 l.2.1),(5,.arr 35 T0 l.2.2)],6⟩)],?_,?_⟩
  ·have q:=d
   clear d
   unfold f78_j4 at q
   obtain ⟨j,q⟩:=gE q
   obtain ⟨s,c,q⟩:=bE q
   refine EI (tU 0 12 (.alt 12 (tU 13 3 (.alt 16 (.alt 17 (.take 18 .done) .done) .done)) (.alt 16 (.alt 12 (tU 13 3 (.alt 17 (.take 18 .done) .done)) .done) .done))) (EI [] (EI [] (AI rfl (AI j (AI (AI TV ?_) ?_)))))
   ·refine AI TV (cL c gW ?_)
    refine R7 (AI (lQ rfl) (R2 (AI TV (AI TV ?_))))
    exact gV
   refine cL c gW ?_
   refine R7 (AI (lQ rfl) (R2 (AI TV (AI TV ?_))))
   exact gV
  refine AI (OL (OL (cI q (fun q=>?_) (fun q=>?_)))) TV
  ·exact gV
  refine OL (OL (OL (EI (tU 0 6 (.alt 6 (.alt 7 (.take 8 (.take 9 (.alt 10 .done .done))) .done) .done)) (EI [(10,[0])] (EI [] (AI rfl ?_))))))
  exact gV
 exact gV
end Go.Proofs
