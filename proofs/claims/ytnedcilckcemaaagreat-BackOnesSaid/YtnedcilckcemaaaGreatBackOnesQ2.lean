import Derived.Test.YtnedcilckcemaaaGreatBackOnesQ1
import Derived.Test.YtnedcilckcemaaaGreatBackOnesQ0
import Derived.Test.YtnedcilckcemaaaGreatAmY
set_option linter.unusedVariables false
set_option linter.unusedSimpArgs false
set_option linter.unusedSectionVars false
set_option maxRecDepth 100000

namespace Go.Proofs.Cv
open Go.AM Go.Proofs.PlB Go.Proofs.PlW Go.Proofs.PlT Go.Proofs.PlS Go.Proofs.Sh Go.Proofs.Num Go.Proofs.Div Go.Proofs.Op
def part (V:List Int) (D st k v:Nat):Int:=sg (fun i=>if goes D st i=v then rd (0:Int) V (i:Int) else 0) k
theorem part_bd {V:List Int} (iV:inI V) (D st v:Nat):∀ k,k≤V.length→-(k*9223372036854775808)≤part V D st k v∧part V D st k v≤k*9223372036854775808
 | 0,_=>by simp [part,sg]
 | k+1,h=>by
  have:=part_bd iV D st v k (by omega)
  have q:=G9 iV k (by omega)
  unfold InR at q
  unfold part at this ⊢
  simp only [sg]
  split <;> constructor <;> omega
section
variable (d V:List Int) (j H D st:Nat) (C:Cut d j H D st) (hV:V.length=H*(D*st)) (iV:inI V)
include C hV iV
theorem goes_in {i:Nat} (hi:i<H*(D*st)):goes D st i<H*st:=by
 have hs:=C.s1
 have h0:i/(st*D)<H:=by
  refine Nat.div_lt_of_lt_mul ?_
  rw [Nat.mul_comm (st*D) H,Nat.mul_comm st D];exact hi
 exact Jf h0 (Nat.mod_lt _ hs)
theorem side_far (k v:Nat) (hk:k≤H*(D*st)):PlV.far (part V D st k v):=by
 have:=part_bd iV D st v k (by omega)
 have:=C.le
 unfold PlV.far
 omega
theorem side_loop1:Fp (fun go (x:Int×List (Int×Int))=>f96_l4 (d,V) (j:Int) (strL d) go x.1 x.2) Fv ((0:Int),List.replicate (H*st) ((0:Int),(0:Int)))=some (F8 (H*st) (fun v=>PlV.pair (part V D st (H*(D*st)) v))):=by
 have hj:=C.hj
 have hs:=C.s1
 have hD:=C.D1
 have hH:=C.H1
 have hle:=C.le
 have hsD:st*D≤4096:=by rw [Nat.mul_comm];exact Nat.le_trans (Nat.le_mul_of_pos_left _ hH) hle
 have h:=F3 (B:=fun go (x:Int×List (Int×Int))=>f96_l4 (d,V) (j:Int) (strL d) go x.1 x.2) (fun k=>((k:Int),F8 (H*st) (fun v=>PlV.pair (part V D st k v)))) (H*(D*st)) (F8 (H*st) (fun v=>PlV.pair (part V D st (H*(D*st)) v))) ?_ ?_ (by omega)
 ·have e0:F8 (H*st) (fun v=>PlV.pair (part V D st 0 v))=List.replicate (H*st) ((0:Int),(0:Int)):=by
   rw [Ld];exact Gd _ _ _ (fun v hv=>rfl)
  rw [e0] at h;exact h
 ·intro k hk go
  have q:=G9 iV k (by omega)
  unfold InR at q
  have hg:=goes_in d V j H D st C hV iV hk
  have f1:=side_far d V j H D st C hV iV k (goes D st k) (by omega)
  have b1:=part_bd iV D st (goes D st k) k (by omega)
  have e7:rd (0:Int) (strL d) (j:Int)=(st:Int):=by
   unfold strL
   rw [Kj _ _ _ _ hj]
   unfold Kc
   rw [show d.length-(d.length-1-j)=j+1 by omega]
   exact C.eS
  have eSD:IntKind.i64.wrap ((st:Int)*(D:Int))=((st*D:Nat):Int):=wmul st D (by omega)
  have n0:((st*D:Nat):Int)≠0:=by have:1≤st*D:=Nat.mul_pos hs hD;omega
  have n1:(st:Int)≠0:=by omega
  have hM:=C.leM
  have ea:IntKind.i64.wrap (IntKind.i64.wrap (IntKind.i64.wrap (Int.tdiv (k:Int) ((st*D:Nat):Int))*(st:Int))+Int.tmod (k:Int) (st:Int))=((goes D st k:Nat):Int):=by
   have a1:k/(st*D)≤k:=Nat.div_le_self _ _
   have a2:k/(st*D)*st≤goes D st k:=Nat.le_add_right _ _
   rw [Int.tdiv_eq_ediv_of_nonneg (by omega),← Int.natCast_ediv,wnat (by omega),wmul _ _ (by omega),Int.tmod_eq_emod_of_nonneg (by omega),← Int.natCast_emod,wadd _ _ (by show goes D st k<_;omega)]
   rfl
  unfold f96_l4
  simp only [Ga]
  rw [e7,C.eD,eSD,ea,dT,cond_true,D4,D4,D4 n0,D4 n1,D4,PlV.of_ok _ q.1 q.2,Bh]
  have er:rd (Ty.z (.p (.int .i64) (.int .u64))) (F8 (H*st) (fun v=>PlV.pair (part V D st k v))) ((goes D st k:Nat):Int)=PlV.pair (part V D st k (goes D st k)):=Kj _ _ _ _ hg
  have f2:PlV.far (rd (0:Int) V (k:Int)):=by unfold PlV.far;omega
  have f3:PlV.far (part V D st k (goes D st k)+rd (0:Int) V (k:Int)):=by unfold PlV.far;omega
  have eadd:f142 ((rd (Ty.z (.p (.int .i64) (.int .u64))) (F8 (H*st) (fun v=>PlV.pair (part V D st k v))) ((goes D st k:Nat):Int)).1,(rd (Ty.z (.p (.int .i64) (.int .u64))) (F8 (H*st) (fun v=>PlV.pair (part V D st k v))) ((goes D st k:Nat):Int)).2) ((PlV.pair (rd (0:Int) V (k:Int))).1,(PlV.pair (rd (0:Int) V (k:Int))).2)=some (PlV.pair (part V D st k (goes D st k)+rd (0:Int) V (k:Int))):=by
   rw [er];exact PlV.add_w _ _ f1 f2 f3
  rw [eadd,Bh,D4,Gr k,Int.toNat_natCast]
  congr 1
  refine Prod.ext rfl ?_
  show (F8 (H*st) (fun v=>PlV.pair (part V D st k v))).set (goes D st k) (PlV.pair (part V D st k (goes D st k)+rd (0:Int) V (k:Int)))=_
  rw [J4]
  refine Gd _ _ _ (fun v hv=>?_)
  by_cases e:v=goes D st k
  ·subst e
   rw [if_pos rfl]
   unfold part
   simp only [sg,if_true]
  ·rw [if_neg e]
   unfold part
   simp only [sg]
   rw [if_neg (fun h=>e h.symm),Int.add_zero]
 ·intro go
  unfold f96_l4
  simp only
  rw [dF,cond_false]
theorem side_loop2:Fp (fun go (x:Int×List Int)=>f96_l5 (F8 (H*st) (fun v=>PlV.pair (part V D st (H*(D*st)) v))) go x.1 x.2) Fv ((0:Int),List.replicate (H*st) 0)=some (F8 (H*st) (sideV V D st)):=by
 have hM:=C.leM
 rw [Gf _ (sideV V D st)]
 have h:=F3 (B:=fun go (x:Int×List Int)=>f96_l5 (F8 (H*st) (fun v=>PlV.pair (part V D st (H*(D*st)) v))) go x.1 x.2) (fun v=>((v:Int),J8 (H*st) v (sideV V D st))) (H*st) (F8 (H*st) (sideV V D st)) ?_ ?_ (by omega)
 ·exact h
 ·intro v hv go
  unfold f96_l5
  simp only [F5,Ga]
  have er:rd (Ty.z (.p (.int .i64) (.int .u64))) (F8 (H*st) (fun v=>PlV.pair (part V D st (H*(D*st)) v))) (v:Int)=PlV.pair (part V D st (H*(D*st)) v):=Kj _ _ _ _ hv
  have ef:f127 ((rd (Ty.z (.p (.int .i64) (.int .u64))) (F8 (H*st) (fun v=>PlV.pair (part V D st (H*(D*st)) v))) (v:Int)).1,(rd (Ty.z (.p (.int .i64) (.int .u64))) (F8 (H*st) (fun v=>PlV.pair (part V D st (H*(D*st)) v))) (v:Int)).2)=some (sideV V D st v):=by
   rw [er]
   have:=PlV.fix_ok _ (side_far d V j H D st C hV iV (H*(D*st)) v (Nat.le_refl _))
   have es:part V D st (H*(D*st)) v=sg (fun k=>rd (0:Int) V ((ixs D st v k:Nat):Int)) D:=sums_eq (fun i=>rd (0:Int) V (i:Int)) H D st v C.s1 hv
   rw [es] at this ⊢
   exact this
  rw [dT,cond_true,D4,ef,Bh,D4,Gr v,Int.toNat_natCast,Gu _ v _ _ hv rfl]
 ·intro go
  unfold f96_l5
  simp only [F5,Ga]
  rw [dF,cond_false,Gg]
theorem side_sumR (v:Nat) (hv:v<H*st) :
  ∃ z,Fp (fun go (x:Int×Bool×Int×Int×Int×Int)=>f102_l15 (d,V) (j:Int) (true,plc (Kr d j) (v:Int)) go x.1 x.2.1 x.2.2.1 x.2.2.2.1 x.2.2.2.2.1 x.2.2.2.2.2) Fv ((0:Int),false,(0:Int),(0:Int),(0:Int),(0:Int))=some z∧Nm (sg (fun k=>rd (0:Int) V ((ixs D st v k:Nat):Int)) D) z:=by
 have hj:=C.hj
 have hle:=C.le
 have hl:=Gx C.pos
 have hDle:D≤4096:=Nat.le_trans (Nat.le_mul_of_pos_right _ C.s1) (Nat.le_trans (Nat.le_mul_of_pos_left _ C.H1) hle)
 have hp:(plc (Kr d j) (v:Int)).length=d.length-1:=by rw [plc_len,cut_len C]
 have bd:∀ n,n≤D→-(n*9223372036854775808)≤sg (fun k=>rd (0:Int) V ((ixs D st v k:Nat):Int)) n∧sg (fun k=>rd (0:Int) V ((ixs D st v k:Nat):Int)) n≤n*9223372036854775808:=by
  intro n
  induction n with
  | zero=>intro _;simp [sg]
  | succ n ih=>
   intro h
   have:=ih (by omega)
   have hi:=ixs_in C v hv n (by omega)
   have q:=G9 iV (ixs D st v n) (by omega)
   unfold InR at q
   simp only [sg]
   constructor <;> omega
 refine Kv (B:=fun go (x:Int×Bool×Int×Int×Int×Int)=>f102_l15 (d,V) (j:Int) (true,plc (Kr d j) (v:Int)) go x.1 x.2.1 x.2.2.1 x.2.2.2.1 x.2.2.2.2.1 x.2.2.2.2.2)
  (fun k y=>y.1=(k:Int)∧Nm (sg (fun k=>rd (0:Int) V ((ixs D st v k:Nat):Int)) k) y.2) (fun z=>Nm (sg (fun k=>rd (0:Int) V ((ixs D st v k:Nat):Int)) D) z) D _ ⟨rfl,nm_zero⟩ ?_ ?_ (by omega)
 ·rintro k hk ⟨_,u⟩ ⟨rfl,hu⟩
  simp only at hu
  have hi:=ixs_in C v hv k hk
  have q:=G9 iV (ixs D st v k) (by omega)
  have b:=bd k (by omega)
  unfold InR at q
  obtain ⟨y,ey,hy⟩:=from_ok _ q.1 q.2
  have t1:Sm (sg (fun k=>rd (0:Int) V ((ixs D st v k:Nat):Int)) k):=by unfold Sm;omega
  have t2:Sm (rd (0:Int) V ((ixs D st v k:Nat):Int)):=by unfold Sm;omega
  obtain ⟨z,ez,hz⟩:=plus_nm hu hy t1 t2
  simp only at ez
  refine ⟨(((k+1:Nat):Int),z),fun go=>?_,rfl,hz⟩
  have hj16:f102_j16 (j:Int) (true,plc (Kr d j) (v:Int)) (k:Int)=some ():=by
   unfold f102_j16
   simp only [Int.toNat_natCast,List.nil_append,List.length_nil,List.length_append,List.length_take,List.length_drop,List.length_cons,hp]
   rw [D4,D4,D4,D4,D4]
  have eat:f38 d ((([]++List.take (Int.toNat (j:Int)) (plc (Kr d j) (v:Int)))++[(k:Int)])++List.drop (Int.toNat (j:Int)) (plc (Kr d j) (v:Int)))=some (((ixs D st v k:Nat):Int),true):=by
   have:=at_ins C v hv k hk
   unfold ins at this
   rw [List.nil_append,List.append_assoc,Int.toNat_natCast]
   exact this
  unfold f102_l15
  simp only
  rw [D4,C.eD,dT,cond_true,hj16,Bh,eat,Bh,D4,ey,Bh,ez,Bh,Gr k]
 ·rintro ⟨_,u⟩ ⟨rfl,hu⟩
  refine ⟨u,fun go=>?_,hu⟩
  unfold f102_l15
  simp only
  rw [D4,C.eD,dF,cond_false]
theorem side_loopR:Fp (fun go (x:Int×List Int)=>f102_l12 (d,V) (j:Int) go x.1 x.2) Fv ((0:Int),List.replicate (H*st) 0)=some (F8 (H*st) (sideV V D st)):=by
 have hj:=C.hj
 have hM:=C.leM
 have hle:=C.le
 have hl:=Gx C.pos
 have hDle:D≤4096:=Nat.le_trans (Nat.le_mul_of_pos_right _ C.s1) (Nat.le_trans (Nat.le_mul_of_pos_left _ C.H1) hle)
 rw [Gf _ (sideV V D st)]
 have h:=F3 (B:=fun go (x:Int×List Int)=>f102_l12 (d,V) (j:Int) go x.1 x.2) (fun v=>((v:Int),J8 (H*st) v (sideV V D st))) (H*st) (F8 (H*st) (sideV V D st)) ?_ ?_ (by omega)
 ·exact h
 ·intro v hv go
  have v1:(v:Int)<prd (Kr d j):=by rw [C.eM];omega
  have pl:=placeR (Kr d j) C.posM (v:Int) (by omega) v1
  have ec:(([]++List.take (Int.toNat (j:Int)) d)++List.drop (Int.toNat (IntKind.i64.wrap ((j:Int)+1))) d)=Kr d j:=by
   rw [Gr j,Int.toNat_natCast,Int.toNat_natCast,List.nil_append];rfl
  obtain ⟨z,ez,hz⟩:=side_sumR d V j H D st C hV iV v hv
  have hs:Sm (sg (fun k=>rd (0:Int) V ((ixs D st v k:Nat):Int)) D):=by
   have es:part V D st (H*(D*st)) v=sg (fun k=>rd (0:Int) V ((ixs D st v k:Nat):Int)) D:=sums_eq (fun i=>rd (0:Int) V (i:Int)) H D st v C.s1 hv
   have:=side_far d V j H D st C hV iV (H*(D*st)) v (Nat.le_refl _)
   rw [← es]
   unfold PlV.far at this
   unfold Sm;omega
  unfold f102_l12
  simp only [F5]
  rw [dT,cond_true,ec,pl,Bh,ez,Bh,Lk hz hs,Bh,D4,Gr v,Int.toNat_natCast,Gu (H*st) v (sideV V D st) (sat (sg (fun k=>rd (0:Int) V ((ixs D st v k:Nat):Int)) D)) hv rfl]
 ·intro go
  unfold f102_l12
  simp only [F5]
  rw [dF,cond_false,Gg]
end
abbrev G4 (a:Tn) (Fw:Int):Prop:=Ft a=true∧0≤Fw∧Fw<a.1.length
def sideS (a:Tn) (Fw:Int):Int×Tn:=
 if G4 a Fw then (0,Kr a.1 Fw.toNat,F8 (prd (Kr a.1 Fw.toNat)).toNat (sideV a.2 (rd (0:Int) a.1 Fw).toNat (Ge (a.1.drop (Fw.toNat+1))).toNat)) else (1,[],[])
theorem side_j3 (a:Tn) (Fw:Int):f96_j3 a Fw=some (!(decide (G4 a Fw))):=by
 unfold f96_j3
 have e1:f28 (a.1,a.2)=some (Ft a):=F4 a
 generalize hd:decide (G4 a Fw)=d
 rw [e1,Bh]
 by_cases ha:Ft a=true
 ·rw [ha,Bool.not_true,cond_false]
  by_cases h1:Fw<0
  ·rw [dT h1];rw [dF (show ¬G4 a Fw from fun h=>by omega)] at hd;rw [← hd];rfl
  ·rw [dF h1,cond_false]
   by_cases h2:Fw≥a.1.length
   ·rw [dT h2];rw [dF (show ¬G4 a Fw from fun h=>by omega)] at hd;rw [← hd];rfl
   ·rw [dF h2];rw [dT (show G4 a Fw from ⟨ha,by omega,by omega⟩)] at hd;rw [← hd];rfl
 ·rw [show Ft a=false by simpa using ha];rw [dF (show ¬G4 a Fw from fun h=>ha h.1)] at hd;rw [← hd];rfl
theorem side_j3r (a:Tn) (Fw:Int):f102_j3 a Fw=some (!(decide (G4 a Fw))):=by
 unfold f102_j3
 have e1:f32 (a.1,a.2)=some (Ft a):=isR a
 generalize hd:decide (G4 a Fw)=d
 rw [e1,Bh]
 by_cases ha:Ft a=true
 ·rw [ha,Bool.not_true,cond_false]
  by_cases h1:Fw<0
  ·rw [dT h1];rw [dF (show ¬G4 a Fw from fun h=>by omega)] at hd;rw [← hd];rfl
  ·rw [dF h1,cond_false]
   by_cases h2:Fw≥a.1.length
   ·rw [dT h2];rw [dF (show ¬G4 a Fw from fun h=>by omega)] at hd;rw [← hd];rfl
   ·rw [dF h2];rw [dT (show G4 a Fw from ⟨ha,by omega,by omega⟩)] at hd;rw [← hd];rfl
 ·rw [show Ft a=false by simpa using ha];rw [dF (show ¬G4 a Fw from fun h=>ha h.1)] at hd;rw [← hd];rfl
theorem side_val {a:Tn} {j H D st:Nat} (C:Cut a.1 j H D st) (h:G4 a (j:Int)):sideS a (j:Int)=(0,Kr a.1 j,F8 (H*st) (sideV a.2 D st)):=by
 unfold sideS
 rw [if_pos h,Int.toNat_natCast,C.eM,C.eD,C.eS,Int.toNat_natCast,Int.toNat_natCast,Int.toNat_natCast]
theorem sideP (a:Tn) (Fw:Int) (ia:inI a.2):f96 a Fw=some (sideS a Fw):=by
 unfold f96 f96_j2
 rw [side_j3,Bh]
 by_cases h:G4 a Fw
 ·obtain ⟨ga,s0,s1⟩:=h
  obtain ⟨j,rfl⟩:=Int.eq_ofNat_of_zero_le s0
  obtain ⟨hp,hl,l1,l2⟩:=Fy ga
  obtain ⟨H,D,st,C⟩:=cut_of hp (show j<a.1.length by omega)
  have hV:a.2.length=H*(D*st):=by have:=C.eN;omega
  have hM:=C.leM
  rw [side_val C ⟨ga,s0,s1⟩,dT (show G4 a (j:Int) from ⟨ga,s0,s1⟩),Bool.not_true,cond_false,Bh,Fq,D4,Gr j,D4]
  have ec:([]++List.take (Int.toNat (j:Int)) a.1)++List.drop (Int.toNat ((j+1:Nat):Int)) a.1=Kr a.1 j:=by
   rw [Int.toNat_natCast,Int.toNat_natCast,List.nil_append];rfl
  have cl:=cut_len C
  rw [D4 (by simp only [List.length_nil,List.length_take];omega),D4 (by simp only [List.length_append,List.length_nil,List.length_take,List.length_drop];omega),ec,PlB.size_ok,Bh,C.eM,Int.toNat_natCast,D4,strides a.1 hp,Bh,
   D4 (by unfold strL;rw [Ga];omega)]
  have e1:Fp (fun go (x:Int×List (Int×Int))=>f96_l4 a (j:Int) (strL a.1) go x.1 x.2) Fv ((0:Int),List.replicate (H*st) (Ty.z (.p (.int .i64) (.int .u64))))=_:=side_loop1 a.1 a.2 j H D st C hV ia
  rw [e1,Bh,K3,if_pos C.posM,Bh,C.eM,Int.toNat_natCast]
  simp only
  rw [side_loop2 a.1 a.2 j H D st C hV ia,Bh]
 ·unfold sideS
  rw [if_neg h,dF h];rfl
theorem sideR (a:Tn) (Fw:Int) (ia:inI a.2):f102 a Fw=some (sideS a Fw):=by
 unfold f102 f102_j2
 rw [side_j3r,Bh]
 by_cases h:G4 a Fw
 ·obtain ⟨ga,s0,s1⟩:=h
  obtain ⟨j,rfl⟩:=Int.eq_ofNat_of_zero_le s0
  obtain ⟨hp,hl,l1,l2⟩:=Fy ga
  obtain ⟨H,D,st,C⟩:=cut_of hp (show j<a.1.length by omega)
  have hV:a.2.length=H*(D*st):=by have:=C.eN;omega
  have hM:=C.leM
  rw [side_val C ⟨ga,s0,s1⟩,dT (show G4 a (j:Int) from ⟨ga,s0,s1⟩),Bool.not_true,cond_false,Bh,Fq,D4,Gr j,D4]
  have ec:([]++List.take (Int.toNat (j:Int)) a.1)++List.drop (Int.toNat ((j+1:Nat):Int)) a.1=Kr a.1 j:=by
   rw [Int.toNat_natCast,Int.toNat_natCast,List.nil_append];rfl
  rw [D4 (by simp only [List.length_nil,List.length_take];omega),D4 (by simp only [List.length_append,List.length_nil,List.length_take,List.length_drop];omega),ec,newR _ _ C.posM,Bh,C.eM,Int.toNat_natCast]
  have e1:Fp (fun go (x:Int×List Int)=>f102_l12 a (j:Int) go x.1 x.2) Fv ((0:Int),List.replicate (H*st) 0)=_:=side_loopR a.1 a.2 j H D st C hV ia
  simp only
  rw [e1,Bh]
 ·unfold sideS
  rw [if_neg h,dF h];rfl
end Go.Proofs.Cv
namespace Go.Proofs.Op
open Go.AM Go.Proofs.PlB Go.Proofs.PlW Go.Proofs.PlT Go.Proofs.PlS Go.Proofs.Sh Go.Proofs.Num Go.Proofs.Div
open Go.Proofs.PlR hiding Tn
structure NodeR (l:List Nd) (i:Nat) (ga gb:Tn→Tn):Prop where
 rLeaf:(gn l i).1=1→(gn l i).2.1<0∧(gn l i).2.2.1<0
 rA0:(gn l i).1≠1→0≤(gn l i).2.1
 rOne:(gn l i).1≠1→∀ g,F9 g→g.1=(nd l i).1→f13 l (i:Int) g=some (0,(ga g).1,(ga g).2,(gb g).1,(gb g).2,l)
theorem slopeR (kind x:Int):f91 kind x=some (J9 kind x):=by
 unfold f91 J9
 by_cases k1:kind=1
 ·rw [bT k1,if_pos k1,cond_true];by_cases h:x>0
  ·rw [dT h,if_pos h];rfl
  ·rw [dF h,if_neg h];rfl
 rw [bF k1,if_neg k1,cond_false]
 by_cases k2:kind=2
 ·rw [bT k2,if_pos k2,cond_true];by_cases h:x>0
  ·rw [dT h,if_pos h];rfl
  ·rw [dF h,if_neg h];rfl
 rw [bF k2,if_neg k2,cond_false]
 by_cases k3:kind=3
 ·rw [bT k3,if_pos k3,cond_true];by_cases h:x > -4294967296
  ·rw [dT h,cond_true];by_cases h2:x<4294967296
   ·rw [dT h2,if_pos ⟨h,h2⟩];rfl
   ·rw [dF h2,iNo];rfl
  ·rw [dF h,iNo];rfl
 rw [bF k3,if_neg k3,cond_false]
 by_cases k4:kind=4
 ·rw [bT k4,if_pos k4,cond_true];by_cases h:x>0
  ·rw [dT h,if_pos h];rfl
  ·rw [dF h,if_neg h,cond_false];by_cases h2:x<0
   ·rw [dT h2,if_pos h2];rfl
   ·rw [dF h2,if_neg h2];rfl
 rw [bF k4,if_neg k4,cond_false]
 by_cases h:x > -4294967296
 ·rw [dT h,cond_true];by_cases h2:x<4294967296
  ·rw [dT h2,if_pos ⟨h,h2⟩];rfl
  ·rw [dF h2,iNo];rfl
 ·rw [dF h,iNo];rfl
theorem unbentR (kind:Int) (t g:Tn) (ig:inI g.2):f42 kind t g=some (unbentS kind t g):=by
 unfold f42 unbentS f42_j2 f42_j3
 rw [show ((t.1,t.2):Tn)=t from rfl,show ((g.1,g.2):Tn)=g from rfl,isR,isR]
 by_cases h:1≤kind∧kind≤5∧Ft t=true∧Ft g=true
 ·obtain ⟨hp,hl,l1,l2⟩:=Fy h.2.2.1
  obtain ⟨gp,gl,m1,m2⟩:=Fy h.2.2.2
  rw [if_pos h,dF,cond_false,dF,cond_false,h.2.2.1,h.2.2.2,sameR _ _ (by omega)]
  simp only [Bh,Bool.not_true,cond_false,Fq]
  by_cases h2:t.1=g.1
  ·have hlen:g.2.length=t.2.length:=by rw [h2] at hl;omega
   rw [if_pos h2,dT h2,Bool.not_true,cond_false,newR t.1 0 hp,Bh,show (prd t.1).toNat=t.2.length by omega]
   simp only
   rw [Gf _ (fun i=>Li (rd (0:Int) g.2 i) (J9 kind (rd (0:Int) t.2 i)))]
   have:=F3 (B:=fun go (x:Int×List Int)=>f42_l4 kind t g go x.1 x.2) (fun j=>((j:Int),J8 t.2.length j (fun i=>Li (rd (0:Int) g.2 i) (J9 kind (rd (0:Int) t.2 i))))) t.2.length (F8 t.2.length (fun i=>Li (rd (0:Int) g.2 i) (J9 kind (rd (0:Int) t.2 i)))) ?_ ?_ (by omega)
   ·rw [show ((0:Nat):Int)=0 from rfl] at this
    rw [this];rfl
   ·intro j hj go
    unfold f42_l4
    simp only [F5]
    have q:=G9 ig j (by omega)
    have s:=slope_in kind (rd (0:Int) t.2 j)
    rw [dT,cond_true,D4,D4,slopeR,Bh,rMul _ _ q.1 q.2 s.1 s.2,Bh,D4,Fl,Int.toNat_natCast]
    have:=Gu t.2.length j (fun i=>Li (rd (0:Int) g.2 i) (J9 kind (rd (0:Int) t.2 i))) (sat (rhe (rd (0:Int) g.2 j*J9 kind (rd (0:Int) t.2 j)))) hj rfl
    rw [this]
    rfl
   ·intro go
    unfold f42_l4
    simp only [F5]
    rw [dF,cond_false,Gg]
  ·rw [if_neg h2,dF h2];rfl
 ·rw [if_neg h]
  by_cases h1:kind<1
  ·rw [dT h1];rfl
  ·rw [dF h1,cond_false]
   by_cases h2:kind>5
   ·rw [dT h2];rfl
   ·rw [dF h2,cond_false]
    cases ht:Ft t
    ·rfl
    ·cases hgg:Ft g
     ·rfl
     ·exact absurd ⟨by omega,by omega,ht,hgg⟩ h
section
variable (l:List Nd) (i:Nat)
theorem one_j2 (h:i<l.length) (g:Tn) (hg:F9 g) (hd:g.1=(nd l i).1):f13_j2 l (i:Int) g=some (Sum.inl ()):=by
 obtain ⟨_,_,l1,_⟩:=Fy hg.1
 unfold f13_j2 f13_j3
 rw [dF,cond_false,dF,cond_false]
 have e:f32 (g.1,g.2)=some (Ft g):=isR g
 rw [e,hg.1,Bh,Bool.not_true,cond_false,D4]
 have e2:f26 g.1 (rd (Ty.z (.p (.int .i64) (.p (.int .i64) (.p (.int .i64) (.p (.int .i64) (.p (.sl (.int .i64)) (.sl (.int .i64)))))))) l (i:Int)).2.2.2.2.1=some (decide (g.1=(nd l i).1)):=sameR _ _ (by omega)
 rw [e2,dT hd];rfl
theorem one_j4 (h:(gn l i).2.2.1<l.length):f13_j4 l (i:Int)=some (vl l (gn l i).2.2.1):=by
 unfold f13_j4 vl
 have e:rd (Ty.z (.p (.int .i64) (.p (.int .i64) (.p (.int .i64) (.p (.int .i64) (.p (.sl (.int .i64)) (.sl (.int .i64)))))))) l (i:Int)=gn l i:=rfl
 rw [e]
 by_cases hb:(gn l i).2.2.1≥0
 ·rw [dT hb,cond_true,D4 ⟨hb,h⟩,if_pos ⟨hb,h⟩]
  obtain ⟨n,hn⟩:=Int.eq_ofNat_of_zero_le hb
  rw [hn];rfl
 ·rw [dF hb,iNo];rfl
theorem one_go (A:Nat) (hi:i<l.length) (g:Tn) (hg:F9 g) (hd:g.1=(nd l i).1) (op K:Int) (h:(gn l i).1=op) (ho:op≠1) (ha:(gn l i).2.1=A) (hA:A<i) (hk:(gn l i).2.2.2.1=K) (hb:(gn l i).2.2.1<l.length)
  (hx:op=2∨op=3∨op=4∨op=5∨op=9∨op=10∨op=11∨op=14) (ga gb:Tn)
  (H:(if op=2 then Ey (f33 g (nd l A).1) fun p=>Ey (f33 g (vl l (gn l i).2.2.1).1) fun q=>some ((0:Int),p.1,p.2,q.1,q.2,l)
   else if op=3 then Ey (f34 g (-4294967296)) fun s=>Ey (f33 g (nd l A).1) fun p=>Ey (f33 s.2 (vl l (gn l i).2.2.1).1) fun q=>some ((0:Int),p.1,p.2,q.1,q.2,l)
   else if op=4 then Ey (f25 2 g (vl l (gn l i).2.2.1)) fun r=>Ey (f25 2 g (nd l A)) fun s=>Ey (f33 r.2 (nd l A).1) fun p=>Ey (f33 s.2 (vl l (gn l i).2.2.1).1) fun q=>some ((0:Int),p.1,p.2,q.1,q.2,l)
   else if op=5 then Ey (f34 g K) fun p=>some ((0:Int),p.2.1,p.2.2,[],[],l)
   else if op=9 then E9 (0≤(0:Int)∧(0:Int)<(List.length g.2:Int))<|Ey (f11 (nd l A).1 (rd (0:Int) g.2 0)) fun p=>some ((0:Int),p.1,p.2,[],[],l)
   else if op=10 then E9 (0≤(0:Int)∧(0:Int)<(List.length g.2:Int))<|Ey (f41 (rd (0:Int) g.2 0)) fun u=>Ey (f40 u.1 u.2 (0:Int) (0:Int) (0:Int) (List.length (nd l A).2:Int)) fun v=>Ey (f39 v.1 v.2.1 v.2.2.1 v.2.2.2.1 v.2.2.2.2) fun w=>Ey (f11 (nd l A).1 w) fun p=>some ((0:Int),p.1,p.2,[],[],l)
   else if op=11 then Ey (f42 K (nd l A) g) fun p=>some ((0:Int),p.2.1,p.2.2,[],[],l)
   else Ey (f46 g (nd l A).1) fun p=>some ((0:Int),p.2.1,p.2.2,[],[],l))=some ((0:Int),ga.1,ga.2,gb.1,gb.2,l)) :
  f13 l (i:Int) g=some (0,ga.1,ga.2,gb.1,gb.2,l):=by
 unfold f13
 have e:rd (Ty.z (.p (.int .i64) (.p (.int .i64) (.p (.int .i64) (.p (.int .i64) (.p (.sl (.int .i64)) (.sl (.int .i64)))))))) l (i:Int)=gn l i:=rfl
 have g1:0≤(i:Int)∧(i:Int)<(l.length:Int):=by omega
 have g2:0≤(A:Int)∧(A:Int)<(l.length:Int):=by omega
 rw [one_j2 l i hi g hg hd,Bh,Fq,e,h,ha,hk,D4 g1,bF ho,cond_false,D4 g2,one_j4 l i hb,Bh]
 rcases hx with rfl | rfl | rfl | rfl | rfl | rfl | rfl | rfl <;> exact H
theorem r_leaf (h:(gn l i).1=1) (ha:(gn l i).2.1=-1) (hb:(gn l i).2.2.1=-1):NodeR l i (fun _=>noT) (fun _=>noT):=
 ⟨fun _=>by omega,fun h1=>absurd h h1,fun h1=>absurd h h1⟩
theorem fold_go {g:Tn} {d:List Int} (hg:F9 g) (h:Fits d g.1):f33 g d=some (foldT g d):=by
 unfold f33
 have e:f83 (g.1,g.2) d=_:=foldR g d hg.2
 rw [e,Kn hg h];rfl
theorem r_add (A B:Nat) (h:(gn l i).1=2) (ha:(gn l i).2.1=A) (hb:(gn l i).2.2.1=B) (hA:A<i) (hB:B<i) (hi:i<l.length) (FA:Fits (nd l A).1 (nd l i).1) (FB:Fits (nd l B).1 (nd l i).1) :
  NodeR l i (fun g=>foldT g (nd l A).1) (fun g=>foldT g (nd l B).1):=by
 refine ⟨fun h1=>absurd (h.symm.trans h1) (by decide),fun _=>by omega,fun _ g hg hd=>one_go l i A hi g hg hd 2 _ h (by decide) ha hA rfl (by omega) (.inl rfl) _ _ ?_⟩
 rw [if_pos rfl,hb,G7 l B (by omega),fold_go hg (by rw [hd];exact FA),fold_go hg (by rw [hd];exact FB)];rfl
theorem r_sub (A B:Nat) (h:(gn l i).1=3) (ha:(gn l i).2.1=A) (hb:(gn l i).2.2.1=B) (hA:A<i) (hB:B<i) (hi:i<l.length) (FA:Fits (nd l A).1 (nd l i).1) (FB:Fits (nd l B).1 (nd l i).1) :
  NodeR l i (fun g=>foldT g (nd l A).1) (fun g=>foldT (scaleT g (-4294967296)) (nd l B).1):=by
 refine ⟨fun h1=>absurd (h.symm.trans h1) (by decide),fun _=>by omega,fun _ g hg hd=>one_go l i A hi g hg hd 3 _ h (by decide) ha hA rfl (by omega) (.inr (.inl rfl)) _ _ ?_⟩
 have gs:=scaleT_good hg (-4294967296)
 rw [if_neg (by decide),if_pos rfl,hb,G7 l B (by omega),scaleR _ _ hg.2 (by decide),Lh hg,Bh,fold_go hg (by rw [hd];exact FA),fold_go gs (by show Fits _ g.1;rw [hd];exact FB)];rfl
theorem r_mul (A B:Nat) (h:(gn l i).1=4) (ha:(gn l i).2.1=A) (hb:(gn l i).2.2.1=B) (hA:A<i) (hB:B<i) (hi:i<l.length) (hgA:F9 (nd l A)) (hgB:F9 (nd l B)) (FA:Fits (nd l A).1 (nd l i).1) (FB:Fits (nd l B).1 (nd l i).1) :
  NodeR l i (fun g=>foldT (mulT g (nd l B)) (nd l A).1) (fun g=>foldT (mulT g (nd l A)) (nd l B).1):=by
 refine ⟨fun h1=>absurd (h.symm.trans h1) (by decide),fun _=>by omega,fun _ g hg hd=>one_go l i A hi g hg hd 4 _ h (by decide) ha hA rfl (by omega) (.inr (.inr (.inl rfl))) _ _ ?_⟩
 have g1:=mulT_good (b:=nd l B) hg
 have g2:=mulT_good (b:=nd l A) hg
 rw [if_neg (by decide),if_neg (by decide),if_pos rfl,hb,G7 l B (by omega),mulR _ _ hg.2 hgB.2,mulS_fit hg hgB (by rw [hd];exact FB),Bh,mulR _ _ hg.2 hgA.2,mulS_fit hg hgA (by rw [hd];exact FA),Bh,fold_go g1 (by show Fits _ g.1;rw [hd];exact FA),fold_go g2 (by show Fits _ g.1;rw [hd];exact FB)];rfl
theorem r_scale (A:Nat) (K:Int) (h:(gn l i).1=5) (ha:(gn l i).2.1=A) (hb:(gn l i).2.2.1=-1) (hk:(gn l i).2.2.2.1=K) (hA:A<i) (hi:i<l.length) (hK:InR K) (hd:(nd l A).1=(nd l i).1) :
  NodeR l i (fun g=>scaleT g K) (fun _=>noT):=by
 refine ⟨fun h1=>absurd (h.symm.trans h1) (by decide),fun _=>by omega,fun _ g hg hd=>one_go l i A hi g hg hd 5 K h (by decide) ha hA hk (by omega) (.inr (.inr (.inr (.inl rfl)))) _ _ ?_⟩
 rw [if_neg (by decide),if_neg (by decide),if_neg (by decide),if_pos rfl,scaleR _ _ hg.2 hK,Lh hg];rfl
theorem r_all (A:Nat) (h:(gn l i).1=9) (ha:(gn l i).2.1=A) (hb:(gn l i).2.2.1=-1) (hA:A<i) (hi:i<l.length) (hgA:F9 (nd l A)) (hd:(nd l i).1=[]) :
  NodeR l i (fun g=>newT (nd l A).1 (rd (0:Int) g.2 0)) (fun _=>noT):=by
 obtain ⟨pA,_,_,_⟩:=Fy hgA.1
 refine ⟨fun h1=>absurd (h.symm.trans h1) (by decide),fun _=>by omega,fun _ g hg hdd=>one_go l i A hi g hg hdd 9 _ h (by decide) ha hA rfl (by omega) (.inr (.inr (.inr (.inr (.inl rfl))))) _ _ ?_⟩
 obtain ⟨g0,g1⟩:=one_rd hg (by rw [hdd,hd];rfl)
 rw [if_neg (by decide),if_neg (by decide),if_neg (by decide),if_neg (by decide),if_pos rfl,D4,newR _ _ pA];rfl
theorem r_mean (A:Nat) (h:(gn l i).1=10) (ha:(gn l i).2.1=A) (hb:(gn l i).2.2.1=-1) (hA:A<i) (hi:i<l.length) (hgA:F9 (nd l A)) (hd:(nd l i).1=[]) :
  NodeR l i (fun g=>newT (nd l A).1 (meanG g (nd l A).2.length)) (fun _=>noT):=by
 obtain ⟨pA,lA,_,lA2⟩:=Fy hgA.1
 refine ⟨fun h1=>absurd (h.symm.trans h1) (by decide),fun _=>by omega,fun _ g hg hdd=>one_go l i A hi g hg hdd 10 _ h (by decide) ha hA rfl (by omega) (.inr (.inr (.inr (.inr (.inr (.inl rfl)))))) _ _ ?_⟩
 obtain ⟨g0,g1⟩:=one_rd hg (by rw [hdd,hd];rfl)
 unfold InR at g1
 obtain ⟨y,ey,hy⟩:=from_ok _ g1.1 g1.2
 obtain ⟨z,ez,hz,hs⟩:=divided_nm hy (by omega) ((nd l A).2.length:Int) (by omega) (by omega) (by omega)
 simp only at ez
 rw [if_neg (by decide),if_neg (by decide),if_neg (by decide),if_neg (by decide),if_neg (by decide),if_pos rfl,D4,ey,Bh,ez,Bh,Lk hz hs,Bh,newR _ _ pA];rfl
theorem r_bend (A:Nat) (K:Int) (h:(gn l i).1=11) (ha:(gn l i).2.1=A) (hb:(gn l i).2.2.1=-1) (hk:(gn l i).2.2.2.1=K) (k0:1≤K) (k5:K≤5) (hA:A<i) (hi:i<l.length) (hgA:F9 (nd l A)) (hd:(nd l A).1=(nd l i).1) :
  NodeR l i (fun g=>unbentT K (nd l A) g) (fun _=>noT):=by
 refine ⟨fun h1=>absurd (h.symm.trans h1) (by decide),fun _=>by omega,fun _ g hg hdd=>one_go l i A hi g hg hdd 11 K h (by decide) ha hA hk (by omega) (.inr (.inr (.inr (.inr (.inr (.inr (.inl rfl))))))) _ _ ?_⟩
 rw [if_neg (by decide),if_neg (by decide),if_neg (by decide),if_neg (by decide),if_neg (by decide),if_neg (by decide),if_pos rfl,unbentR _ _ _ hg.2]
 unfold unbentS
 rw [if_pos ⟨k0,k5,hgA.1,hg.1⟩,if_pos (by rw [hd,hdd])];rfl
end
open Go.AM Go.Proofs.PlB Go.Proofs.PlW Go.Proofs.PlT Go.Proofs.PlS Go.Proofs.Sh Go.Proofs.Num Go.Proofs.Div Go.Proofs.PlR
def cntK (op k:Int):Int:=if op=5∨op=8∨op=11∨op=12∨op=13 then k else 0
theorem cnt_ok (op k:Int):f17_j2 op k=some (cntK op k):=by
 unfold f17_j2 f51 cntK
 by_cases h1:op=5
 ·rw [bT h1,if_pos (.inl h1)];rfl
 rw [bF h1,cond_false]
 by_cases h2:op=8
 ·rw [bT h2,iPo];rfl
 rw [bF h2,cond_false]
 by_cases h3:op=11
 ·rw [bT h3,iPo];rfl
 rw [bF h3,cond_false]
 by_cases h4:op=12
 ·rw [bT h4,iPo];rfl
 rw [bF h4,cond_false]
 by_cases h5:op=13
 ·rw [bT h5,iPo];rfl
 rw [bF h5,iNo];rfl
def Ks (op:Int):Bool:=decide (op=2∨op=3∨op=4∨op=6∨op=12)
theorem two_ok (op:Int):f50 op=some (Ks op):=by
 unfold f50 Ks
 by_cases h1:op=2
 ·rw [bT h1,dT (.inl h1)];rfl
 rw [bF h1,cond_false]
 by_cases h2:op=3
 ·rw [bT h2,dT];rfl
 rw [bF h2,cond_false]
 by_cases h3:op=4
 ·rw [bT h3,dT];rfl
 rw [bF h3,cond_false]
 by_cases h4:op=6
 ·rw [bT h4,dT];rfl
 rw [bF h4,cond_false]
 by_cases h5:op=12
 ·rw [bT h5,dT]
 rw [bF h5,dF]
theorem twoR (op:Int):f54 op=some (Ks op):=two_ok op
theorem cntR (op k:Int):f19_j3 op k=some (cntK op k):=cnt_ok op k
theorem leafR (l:List Nd) (a:Tn) (h:l.length<512) (hg:Ft a=true):f18 l a=some ((l.length:Int),0,l++[(1,-1,-1,0,a.1,a.2)]):=by
 obtain ⟨_,_,l1,l2⟩:=Fy hg
 unfold f18 f18_j1
 have e:f32 (a.1,a.2)=some (Ft a):=isR a
 have h1:(List.length ([]:List Int)+a.1.length)*8≤140737488355328:=by simp only [List.length_nil];omega
 have h2:(List.length ([]:List Int)+a.2.length)*8≤140737488355328:=by simp only [List.length_nil];omega
 have h3:∀ x:Nd,(l.length+List.length [x])*80≤140737488355328:=fun x=>by simp only [List.length_cons,List.length_nil];omega
 rw [dF,cond_false,e,hg,Bh,Bool.not_true,cond_false,D4 h1,D4 h2,Bh,D4 (h3 _),List.length_append,Fl (by simp <;> omega) (by simp <;> omega)]
 simp
theorem scalar_go (v:Int):f104 v=some ([],[v]):=by
 unfold f104
 rw [newR [] v (by decide)];rfl
theorem rk_all (a b:Tn) (k:Int) (ha:F9 a):f56 9 a b k=some (0,[],[sat (sumL a.2)]):=by
 obtain ⟨_,_,_,hl⟩:=Fy ha.1
 have e:f105 (a.1,a.2)=some (sat (sumL a.2)):=allR a ha.2 hl
 unfold f56 f56_j3
 rw [show f56_j4 9=some false from rfl,Bh,cond_false,bF (by decide),cond_false,bF (by decide),cond_false,bF (by decide),cond_false,bF (by decide),cond_false,bT rfl,cond_true,e,Bh,scalar_go];rfl
theorem rk_mean (a b:Tn) (k:Int) (ha:F9 a):f56 10 a b k=some (0,[],[sat (rdI (sumL a.2) a.2.length)]):=by
 obtain ⟨p,q,_,hl⟩:=Fy ha.1
 have e:f106 (a.1,a.2)=some (sat (rdI (sumL a.2) a.2.length)):=meanR a ha.2 (by omega) hl
 unfold f56 f56_j3
 rw [show f56_j4 10=some false from rfl,Bh,cond_false,bF (by decide),cond_false,bF (by decide),cond_false,bF (by decide),cond_false,bF (by decide),cond_false,bF (by decide),cond_false,bT rfl,cond_true,e,Bh,scalar_go];rfl
end Go.Proofs.Op
namespace Go.Proofs.Cv
open Go.AM Go.Proofs.PlB Go.Proofs.PlW Go.Proofs.PlT Go.Proofs.PlS Go.Proofs.Sh Go.Proofs.Num Go.Proofs.Div Go.Proofs.Op
open Go.Proofs.PlR hiding Tn
theorem Le {d:List Int} {N:Nat} {g:Nat→Int} (h:0<prd d) (hN:(N:Int)=prd d) (hg:∀ i,i<N→InR (g i)):F9 (d,F8 N g):=
 ⟨Jo h (by simp only [Ga];exact hN),inI_tab hg⟩
theorem toN2 {x y:Int} (hx:1≤x) (hy:1≤y):((x.toNat*y.toNat:Nat):Int)=x*y:=by
 rw [Int.natCast_mul,Int.toNat_of_nonneg (by omega),Int.toNat_of_nonneg (by omega)]
theorem both_good (f:Int→Int→Int) (hf:∀ x y,InR (f x y)) (a b:Tn) (h:(Jz f a b).1=0):F9 (Jz f a b).2:=by
 unfold Jz at h ⊢
 by_cases c:Ft a=true∧Ft b=true
 ·rw [if_pos c] at h ⊢
  by_cases e:(jS a.1 b.1).1=0
  ·rw [if_pos e] at h ⊢
   have J:=jS_zero e
   have:=F2 (jS a.1 b.1).2
   exact Le J.pd (by have:=J.pd;omega) (fun i hi=>hf _ _)
  ·rw [if_neg e] at h;exact absurd h e
 ·rw [if_neg c] at h;exact absurd h (by decide)
theorem scale_good (a:Tn) (k:Int) (h:(scaleS a k).1=0):F9 (scaleS a k).2:=by
 unfold scaleS at h ⊢
 by_cases c:Ft a=true
 ·rw [if_pos c] at h ⊢
  obtain ⟨p,q,_,_⟩:=Fy c
  exact Le p q (fun i hi=>Jh _)
 ·rw [if_neg c] at h;exact absurd h (by decide)
theorem bent_good (k:Int) (a:Tn) (ia:inI a.2) (h:(bentS k a).1=0):F9 (bentS k a).2:=by
 unfold bentS at h ⊢
 by_cases c:1≤k∧k≤5∧Ft a=true
 ·rw [if_pos c] at h ⊢
  obtain ⟨p,q,_,_⟩:=Fy c.2.2
  exact Le p q (fun i hi=>bendV_in _ _ (G9 ia i hi))
 ·rw [if_neg c] at h;exact absurd h (by decide)
theorem resh_good (a:Tn) (d:List Int) (ia:inI a.2) (h:(reshS a d).1=0):F9 (reshS a d).2:=by
 unfold reshS at h ⊢
 by_cases c:Ft a=true∧0<prd d
 ·rw [if_pos c] at h ⊢
  by_cases e:prd d=a.2.length
  ·rw [if_pos e] at h ⊢
   exact ⟨Jo c.2 e.symm,ia⟩
  ·rw [if_neg e] at h;exact absurd h (by decide)
 ·rw [if_neg c] at h;exact absurd h (by decide)
theorem mm_good (a b:Tn) (h:(mmS a b).1=0):F9 (mmS a b).2:=by
 unfold mmS at h ⊢
 by_cases c:G1 a b
 ·rw [if_pos c] at h ⊢
  by_cases e:K4 a b
  ·rw [if_pos e] at h ⊢
   by_cases n0:0<prd [rd (0:Int) a.1 0,rd (0:Int) b.1 1]
   ·rw [if_pos n0] at h ⊢
    obtain ⟨h1,h2,h3⟩:=prod2 n0
    exact Le n0 (by rw [toN2 h1 h2,h3]) (fun i hi=>Jh _)
   ·rw [if_neg n0] at h;exact absurd h (by decide)
  ·rw [if_neg e] at h;exact absurd h (by decide)
 ·rw [if_neg c] at h;exact absurd h (by decide)
theorem row_good2 (a k:Tn) (s:Int) (h:(rowS a k s).1=0):F9 (rowS a k s).2:=by
 unfold rowS at h ⊢
 by_cases c:Jk a k s
 ·rw [if_pos c] at h ⊢
  by_cases e:Jx a k
  ·rw [if_pos e] at h ⊢
   by_cases n0:0<prd [rd (0:Int) k.1 0,(F7 (rd (0:Int) a.1 1).toNat (rd (0:Int) k.1 2).toNat s.toNat:Int)]
   ·rw [if_pos n0] at h ⊢
    obtain ⟨h1,h2,h3⟩:=prod2 n0
    exact Le n0 (by rw [Int.natCast_mul,Int.toNat_of_nonneg (by omega),h3]) (fun i hi=>Jh _)
   ·rw [if_neg n0] at h;exact absurd h (by decide)
  ·rw [if_neg e] at h;exact absurd h (by decide)
 ·rw [if_neg c] at h;exact absurd h (by decide)
theorem fl_good (a:Tn) (ia:inI a.2) (h:(flS a).1=0):F9 (flS a).2:=by
 unfold flS at h ⊢
 by_cases c:Ft a=true
 ·rw [if_pos c] at h ⊢
  by_cases e:a.1.length=2
  ·rw [if_pos e] at h ⊢
   obtain ⟨n,m,ea,n1,m1,la,ba⟩:=Gy c e
   clear h c e
   generalize a.2=V at *
   subst ea
   obtain ⟨pm,pmN⟩:=Kt m1 n1 (show m*n≤4096 by rw [Nat.mul_comm];exact ba)
   have:=PlN.flip_inI (n:=n) (m:=m) ia
   exact ⟨Jo pm (by show (((F8 (m*n) (PlM.flipV n m V)).length:Nat):Int)=prd [(m:Int),(n:Int)];rw [Ga];omega),this⟩
  ·rw [if_neg e] at h;exact absurd h (by decide)
 ·rw [if_neg c] at h;exact absurd h (by decide)
theorem side_good (a:Tn) (s:Int) (h:(sideS a s).1=0):F9 (sideS a s).2:=by
 unfold sideS at h ⊢
 by_cases c:G4 a s
 ·rw [if_pos c] at h ⊢
  obtain ⟨ga,s0,s1⟩:=c
  obtain ⟨hp,hl,l1,l2⟩:=Fy ga
  obtain ⟨H,D,st,C⟩:=cut_of hp (show s.toNat<a.1.length by omega)
  have:=C.posM
  exact Le C.posM (by omega) (fun i hi=>Jh _)
 ·rw [if_neg c] at h;exact absurd h (by decide)
theorem pool_good (a:Tn) (w:Int) (ia:inI a.2) (h:(G2 a w).1=0):F9 ((G2 a w).2.1,(G2 a w).2.2.1):=by
 unfold G2 at h ⊢
 by_cases c:Ft a=true
 ·rw [if_pos c] at h ⊢
  by_cases e:a.1.length=2
  ·rw [if_pos e] at h ⊢
   by_cases f:1≤w∧w≤rd (0:Int) a.1 1
   ·rw [if_pos f] at h ⊢
    obtain ⟨cc,L,ea,c1,L1,la,ba⟩:=Gy c e
    obtain ⟨w',rfl⟩:=Int.eq_ofNat_of_zero_le (show 0≤w by omega)
    clear h c e
    generalize a.2=V at *
    subst ea
    have fw:(w':Int)≤(L:Int):=f.2
    have w1:1≤w':=by omega
    obtain ⟨m1,mL,mN,hL⟩:=pool_m V cc L w' c1 w1 (by omega) la ba
    obtain ⟨p0,pN⟩:=Kt c1 m1 mN
    exact Le (d:=[(cc:Int),((L/w':Nat):Int)]) (N:=cc*(L/w')) (g:=plV V L w') p0 (by omega) (fun i hi=>G9 ia _ (pl_in V cc L w' c1 w1 (by omega) la ba hi))
   ·rw [if_neg f] at h;exact absurd h (by decide)
  ·rw [if_neg e] at h;exact absurd h (by decide)
 ·rw [if_neg c] at h;exact absurd h (by decide)
def wh (k:Int):Int:=if k < -1000000∨k>1000000 then -1000000 else k
theorem whole_ok (k:Int):f103 k=some (wh k):=by
 unfold f103 wh
 by_cases h1:k < -1000000
 ·rw [dT h1,if_pos (.inl h1)];rfl
 ·rw [dF h1,cond_false]
  by_cases h2:k>1000000
  ·rw [dT h2,if_pos (.inr h2)];rfl
  ·rw [dF h2,iNo];rfl
theorem wh_or (k:Int):wh k=k∨(wh k=-1000000∧(k < -1000000∨k>1000000)):=by
 unfold wh
 by_cases h:k < -1000000∨k>1000000
 ·rw [if_pos h];exact .inr ⟨rfl,h⟩
 ·rw [if_neg h];exact .inl rfl
theorem side_wh (a:Tn) (k:Int) (ga:Ft a=true):sideS a (wh k)=sideS a k:=by
 obtain ⟨_,_,l1,_⟩:=Fy ga
 rcases wh_or k with e | ⟨e,h⟩
 ·rw [e]
 ·rw [e];unfold sideS
  rw [if_neg (fun c=>by have:=c.2.1;omega),if_neg (fun c=>by have:=c.2.1;have:=c.2.2;omega)]
theorem bent_wh (a:Tn) (k:Int):bentS (wh k) a=bentS k a:=by
 rcases wh_or k with e | ⟨e,h⟩
 ·rw [e]
 ·rw [e];unfold bentS
  rw [if_neg (fun c=>by have:=c.1;omega),if_neg (fun c=>by have:=c.1;have:=c.2.1;omega)]
theorem row_wh (a b:Tn) (k:Int):rowS a b (wh k)=rowS a b k:=by
 rcases wh_or k with e | ⟨e,h⟩
 ·rw [e]
 ·rw [e];unfold rowS
  rw [if_neg (fun c=>by have:=c.2.2.1;omega),if_neg (fun c=>by have:=c.2.2.1;have:=c.2.2.2;omega)]
theorem pool_wh (a:Tn) (k:Int) (ga:Ft a=true):G2 a (wh k)=G2 a k:=by
 rcases wh_or k with e | ⟨e,h⟩
 ·rw [e]
 ·rw [e];unfold G2
  rw [if_pos ga,if_pos ga]
  by_cases f:a.1.length=2
  ·rw [if_pos f,if_pos f]
   obtain ⟨c,L,ea,c1,L1,la,ba⟩:=Gy ga f
   have hL:rd (0:Int) a.1 1=(L:Int):=by rw [ea];rfl
   have:L≤4096:=Nat.le_trans (Nat.le_mul_of_pos_left _ c1) ba
   rw [if_neg (fun c=>by omega),if_neg (fun c=>by omega)]
  ·rw [if_neg f,if_neg f]
theorem pair_ok (op:Int) (a b:Tn) (k:Int) (ho:Ks op=true) (ga:F9 a) (gb:F9 b):∃ r:Int×Tn,f52 op a b k=some r∧f56 op a b (cntK op k)=some r∧(r.1=0→F9 r.2):=by
 have h:op=2∨op=3∨op=4∨op=6∨op=12:=by unfold Ks at ho;exact of_decide_eq_true ho
 rcases h with rfl | rfl | rfl | rfl | rfl
 ·refine ⟨Jz addV a b,?_,?_,both_good addV (fun x y=>Jh _) a b⟩
  ·show Ey (f61 a b) _=_
   rw [addP a b ga.2 gb.2];rfl
  ·unfold f56 f56_j3
   rw [show f56_j4 2=some true from rfl,Bh,cond_true,Fl]
   have e:f25 (2-2) (a.1,a.2) (b.1,b.2)=some (Jz addV a b):=addR a b ga.2 gb.2
   rw [e];rfl
 ·refine ⟨Jz subV a b,?_,?_,both_good subV (fun x y=>Jh _) a b⟩
  ·show Ey (f93 a b) _=_
   rw [subP a b ga.2 gb.2];rfl
  ·unfold f56 f56_j3
   rw [show f56_j4 3=some true from rfl,Bh,cond_true,Fl]
   have e:f25 (3-2) (a.1,a.2) (b.1,b.2)=some (Jz subV a b):=Op.subR a b ga.2 gb.2
   rw [e];rfl
 ·refine ⟨Jz Li a b,?_,?_,both_good Li (fun x y=>Jh _) a b⟩
  ·show Ey (f70 a b) _=_
   rw [mulP a b ga.2 gb.2];rfl
  ·unfold f56 f56_j3
   rw [show f56_j4 4=some true from rfl,Bh,cond_true,Fl]
   have e:f25 (4-2) (a.1,a.2) (b.1,b.2)=some (Jz Li a b):=mulR a b ga.2 gb.2
   rw [e];rfl
 ·refine ⟨mmS a b,?_,?_,mm_good a b⟩
  ·show Ey (f94 a b) _=_
   rw [mmP a b ga.2 gb.2];rfl
  ·unfold f56 f56_j3
   rw [show f56_j4 6=some false from rfl,Bh,cond_false,bF (by decide),cond_false,bT rfl,cond_true]
   have e:f36 (a.1,a.2) (b.1,b.2)=some (mmS a b):=mmR a b ga.2 gb.2
   rw [e];rfl
 ·refine ⟨rowS a b k,?_,?_,row_good2 a b k⟩
  ·show Ey (f95 a b k) _=_
   rw [rowP a b k ga.2 gb.2];rfl
  ·have ek:cntK 12 k=k:=rfl
   unfold f56 f56_j3
   rw [show f56_j4 12=some false from rfl,Bh,cond_false,bF (by decide),cond_false,bF (by decide),cond_false,bF (by decide),cond_false,bF (by decide),cond_false,bF (by decide),cond_false,bF (by decide),cond_false,bF (by decide),cond_false,bT rfl,cond_true,ek,whole_ok,Bh]
   have e:f108 (a.1,a.2) (b.1,b.2) (wh k)=some (rowS a b (wh k)):=rowR a b (wh k) ga.2 gb.2
   rw [e,row_wh];rfl
theorem single_go (v:Int):f97 v 0=some (0,[],[v]):=single_ok v
theorem one_ok (op:Int) (a:Tn) (k:Int) (hk:InR k) (o1:2≤op) (o2:op≤14) (ho:Ks op=false) (ga:F9 a):∃ r:Int×Tn,f53 op a k=some r∧f56 op a noT (cntK op k)=some r∧(r.1=0→F9 r.2):=by
 have h:op=5∨op=7∨op=8∨op=9∨op=10∨op=11∨op=13∨op=14:=by
  have:¬(op=2∨op=3∨op=4∨op=6∨op=12):=by unfold Ks at ho;exact of_decide_eq_false ho
  omega
 rcases h with rfl | rfl | rfl | rfl | rfl | rfl | rfl | rfl
 ·refine ⟨scaleS a k,?_,?_,scale_good a k⟩
  ·show Ey (f72 a k) _=_
   rw [scaleP a k ga.2 hk];rfl
  ·have ek:cntK 5 k=k:=rfl
   unfold f56 f56_j3
   rw [show f56_j4 5=some false from rfl,Bh,cond_false,bT rfl,cond_true,ek]
   have e:f34 (a.1,a.2) k=some (scaleS a k):=scaleR a k ga.2 hk
   rw [e];rfl
 ·refine ⟨flS a,?_,?_,fl_good a ga.2⟩
  ·show Ey (f74 a) _=_
   rw [flP a];rfl
  ·unfold f56 f56_j3
   rw [show f56_j4 7=some false from rfl,Bh,cond_false,bF (by decide),cond_false,bF (by decide),cond_false,bT rfl,cond_true]
   have e:f35 (a.1,a.2)=some (flS a):=flR a
   rw [e];rfl
 ·refine ⟨sideS a k,?_,?_,side_good a k⟩
  ·show Ey (f96 a k) _=_
   rw [sideP a k ga.2];rfl
  ·have ek:cntK 8 k=k:=rfl
   unfold f56 f56_j3
   rw [show f56_j4 8=some false from rfl,Bh,cond_false,bF (by decide),cond_false,bF (by decide),cond_false,bF (by decide),cond_false,bT rfl,cond_true,ek,whole_ok,Bh]
   have e:f102 (a.1,a.2) (wh k)=some (sideS a (wh k)):=sideR a (wh k) ga.2
   rw [e,side_wh a k ga.1];rfl
 ·refine ⟨(0,[],[sat (sumL a.2)]),?_,rk_all a noT _ ga,fun _=>⟨rfl,fun y hy=>by rw [List.mem_singleton.1 hy];exact Jh _⟩⟩
  show Ey (f98 a) _=_
  rw [allP a ga.2 ga.1,Bh]
  simp only
  rw [single_go];rfl
 ·refine ⟨(0,[],[sat (rdI (sumL a.2) a.2.length)]),?_,rk_mean a noT _ ga,fun _=>⟨rfl,fun y hy=>by rw [List.mem_singleton.1 hy];exact Jh _⟩⟩
  show Ey (f99 a) _=_
  rw [meanP a ga.2 ga.1,Bh]
  simp only
  rw [single_go];rfl
 ·refine ⟨bentS k a,?_,?_,bent_good k a ga.2⟩
  ·show Ey (f100 k a) _=_
   rw [bentP k a ga.2];rfl
  ·have ek:cntK 11 k=k:=rfl
   unfold f56 f56_j3
   rw [show f56_j4 11=some false from rfl,Bh,cond_false,bF (by decide),cond_false,bF (by decide),cond_false,bF (by decide),cond_false,bF (by decide),cond_false,bF (by decide),cond_false,bF (by decide),cond_false,bT rfl,cond_true,ek,whole_ok,Bh]
   have e:f107 (wh k) (a.1,a.2)=some (bentS (wh k) a):=bentR (wh k) a ga.2
   rw [e,bent_wh];rfl
 ·refine ⟨((G2 a k).1,(G2 a k).2.1,(G2 a k).2.2.1),?_,?_,pool_good a k ga.2⟩
  ·show Ey (f101 a k) _=_
   rw [poolP a k];rfl
  ·have ek:cntK 13 k=k:=rfl
   unfold f56 f56_j3 f56_j5
   rw [show f56_j4 13=some false from rfl,Bh,cond_false,bF (by decide),cond_false,bF (by decide),cond_false,bF (by decide),cond_false,bF (by decide),cond_false,bF (by decide),cond_false,bF (by decide),cond_false,bF (by decide),cond_false,bF (by decide),cond_false,bT rfl,cond_true,ek,whole_ok,Bh]
   have e:f45 (a.1,a.2) (wh k)=some (G2 a (wh k)):=poolR a (wh k)
   rw [e,pool_wh a k ga.1];rfl
 ·refine ⟨reshS a [(a.2.length:Int)],?_,?_,resh_good a _ ga.2⟩
  ·show Ey (f81 a [(a.2.length:Int)]) _=_
   rw [reshP];rfl
  ·unfold f56 f56_j3
   rw [show f56_j4 14=some false from rfl,Bh,cond_false,bF (by decide),cond_false,bF (by decide),cond_false,bF (by decide),cond_false,bF (by decide),cond_false,bF (by decide),cond_false,bF (by decide),cond_false,bF (by decide),cond_false,bF (by decide),cond_false,bF (by decide),cond_false,Bh,Fq]
   have e:f46 (a.1,a.2) [(a.2.length:Int)]=some (reshS a [(a.2.length:Int)]):=reshR a _
   rw [e];rfl
theorem gn_app (l m:List Nd) (i:Nat) (h:i<l.length):gn (l++m) i=gn l i:=by
 unfold gn
 rw [Gi _ _ _ (by rw [List.length_append];omega),Gi _ _ _ h,List.getElem_append_left h]
theorem gn_last (l:List Nd) (n:Nd):gn (l++[n]) l.length=n:=rd_last _ _ _
theorem side_ask (a:Tn) (k:Int) (h:(sideS a k).1=0):0<prd a.1∧0≤k∧k<a.1.length:=by
 unfold sideS at h
 by_cases c:G4 a k
 ·obtain ⟨ga,s0,s1⟩:=c
  exact ⟨(Fy ga).1,s0,s1⟩
 ·rw [if_neg c] at h;exact absurd h (by decide)
def inJ (G K:List Int) (o c w m s x l j:Nat):Int:=if j*s≤l∧l-j*s<w then sg (fun i=>inT G K c w m x i j (l-j*s)) o else 0
section
variable (G K:List Int) (o c w m s x l:Nat) (o1:1≤o) (c1:1≤c) (w1:1≤w) (hG:G.length=o*m) (hK:K.length=o*(c*w)) (bG:o*m≤4096) (bK:o*(c*w)≤4096) (s1:1≤s) (s64:s≤64) (iG:inI G) (iK:inI K) (hx:x<c) (hl:l<4096)
include o1 c1 w1 hG hK bG bK s1 s64 iG iK hx hl
theorem in_pbT {i j y:Nat} (hi:i<o) (hj:j<m) (hy:y<w):Pb (inT G K c w m x i j y):=
 pb_mul (rdIn iG (in_g G K o c w m s x l c1 w1 hG hK bG bK s1 s64 iG iK hx hl hi hj)) (rdIn iK (in_k G K o c w m s x l c1 w1 hG hK bG bK s1 s64 iG iK hx hl hi hy))
theorem in_m4:m≤4096:=Nat.le_trans (Nat.le_mul_of_pos_left _ o1) bG
theorem in_o4':o≤4096:=Nat.le_trans (Nat.le_mul_of_pos_right _ (Nat.mul_pos c1 w1)) bK
theorem in_bdR (j k:Nat) (hj:j<m) (hk:k≤o) (h:j*s≤l∧l-j*s<w):Bd (sg (inJ G K o c w m s x l) j+sg (fun i=>inT G K c w m x i j (l-j*s)) k):=by
 have h1:=sg_bd2 (inJ G K o c w m s x l) (o*85070591730234615865843651857942052864) j (fun a ha=>by
  unfold inJ
  by_cases hh:a*s≤l∧l-a*s<w
  ·rw [if_pos hh];exact sg_bd _ o (fun i hi=>in_pbT G K o c w m s x l o1 c1 w1 hG hK bG bK s1 s64 iG iK hx hl hi (show a<m by omega) hh.2)
  ·rw [if_neg hh];omega)
 have h2:=sg_bd (fun i=>inT G K c w m x i j (l-j*s)) k (fun i hi=>in_pbT G K o c w m s x l o1 c1 w1 hG hK bG bK s1 s64 iG iK hx hl (by omega) hj h.2)
 have h4:(j+1)*o≤m*o:=Nat.mul_le_mul_right _ hj
 rw [Nat.add_mul,Nat.one_mul,Nat.mul_comm m o] at h4
 rw [← Int.mul_assoc,← Int.natCast_mul] at h1
 generalize j*o=jo at *
 unfold Bd
 constructor <;> omega
theorem in_bdJ (j:Nat) (hj:j≤m):Bd (sg (inJ G K o c w m s x l) j):=by
 have h1:=sg_bd2 (inJ G K o c w m s x l) (o*85070591730234615865843651857942052864) j (fun a ha=>by
  unfold inJ
  by_cases hh:a*s≤l∧l-a*s<w
  ·rw [if_pos hh];exact sg_bd _ o (fun i hi=>in_pbT G K o c w m s x l o1 c1 w1 hG hK bG bK s1 s64 iG iK hx hl hi (show a<m by omega) hh.2)
  ·rw [if_neg hh];omega)
 have h4:j*o≤m*o:=Nat.mul_le_mul_right _ hj
 rw [Nat.mul_comm m o] at h4
 rw [← Int.mul_assoc,← Int.natCast_mul] at h1
 generalize j*o=jo at *
 unfold Bd
 constructor <;> omega
theorem in_innerR (j:Nat) (hj:j<m) (h:j*s≤l∧l-j*s<w) (z:Bool×Int×Int×Int×Int) (hz:Nm (sg (inJ G K o c w m s x l) j) z) :
  ∃ z',Fp (fun go (z:Int×Bool×Int×Int×Int×Int)=>f43_l73 ([(o:Int),(m:Int)],G) ([(o:Int),(c:Int),(w:Int)],K) s (x:Int) (l:Int) (j:Int) go z.1 z.2.1 z.2.2.1 z.2.2.2.1 z.2.2.2.2.1 z.2.2.2.2.2) Fv ((0:Int),z)=some z'∧
   Nm (sg (inJ G K o c w m s x l) j+sg (fun i=>inT G K c w m x i j (l-j*s)) o) z':=by
 have o4:=in_o4' G K o c w m s x l o1 c1 w1 hG hK bG bK s1 s64 iG iK hx hl
 have m4:=in_m4 G K o c w m s x l o1 c1 w1 hG hK bG bK s1 s64 iG iK hx hl
 have js:j*s≤4096*64:=Nat.mul_le_mul (by omega) s64
 refine refif (B:=fun go (z:Int×Bool×Int×Int×Int×Int)=>f43_l73 ([(o:Int),(m:Int)],G) ([(o:Int),(c:Int),(w:Int)],K) s (x:Int) (l:Int) (j:Int) go z.1 z.2.1 z.2.2.1 z.2.2.2.1 z.2.2.2.2.1 z.2.2.2.2.2)
  (sg (inJ G K o c w m s x l) j) (fun i=>inT G K c w m x i j (l-j*s)) o (by omega) ?_ ?_ z hz
 ·intro i hi z hz
  have hg:=in_g G K o c w m s x l c1 w1 hG hK bG bK s1 s64 iG iK hx hl hi hj
  have hk:=in_k G K o c w m s x l c1 w1 hG hK bG bK s1 s64 iG iK hx hl hi h.2
  have qa:=rdIn iG hg
  have qb:=rdIn iK hk
  obtain ⟨t,et,ht⟩:=times_nm _ _ qa.1 qa.2 qb.1 qb.2
  have b1:=in_bdR G K o c w m s x l o1 c1 w1 hG hK bG bK s1 s64 iG iK hx hl j i hj (by omega) h
  have s2:=pb_mul qa qb
  unfold Pb at s2
  unfold Bd at b1
  obtain ⟨u,eu,hu⟩:=plus_nm hz ht (by unfold Sm;omega) (by unfold Sm;omega)
  have ey:IntKind.i64.wrap ((l:Int)-IntKind.i64.wrap ((j:Int)*(s:Int)))=((l-j*s:Nat):Int):=by rw [wmul j s (by omega),Fl];omega
  refine ⟨u,fun go=>?_,?_⟩
  ·unfold f43_l73
   simp only
   rw [show rd (0:Int) [(o:Int),(m:Int)] 0=(o:Int) from rfl,show rd (0:Int) [(o:Int),(m:Int)] 1=(m:Int) from rfl,show rd (0:Int) [(o:Int),(c:Int),(w:Int)] 1=(c:Int) from rfl,show rd (0:Int) [(o:Int),(c:Int),(w:Int)] 2=(w:Int) from rfl,
    dT,cond_true,ey,ixM i m j (by omega),ixK i c x w (l-j*s) w1 (by omega),D4,D4,et,Bh,eu,Bh,Gr i]
  ·have e:sg (inJ G K o c w m s x l) j+sg (fun i=>inT G K c w m x i j (l-j*s)) (i+1)=sg (inJ G K o c w m s x l) j+sg (fun i=>inT G K c w m x i j (l-j*s)) i+inT G K c w m x i j (l-j*s):=by
    simp only [sg];omega
   rw [e];exact hu
 ·intro z go
  unfold f43_l73
  simp only
  rw [show rd (0:Int) [(o:Int),(m:Int)] 0=(o:Int) from rfl,dF,cond_false]
theorem in_outR:∃ z',Fp (fun go (z:Int×Bool×Int×Int×Int×Int)=>f43_l71 ([(o:Int),(m:Int)],G) ([(o:Int),(c:Int),(w:Int)],K) s (x:Int) (l:Int) go z.1 z.2.1 z.2.2.1 z.2.2.2.1 z.2.2.2.2.1 z.2.2.2.2.2) Fv ((0:Int),false,(0:Int),(0:Int),(0:Int),(0:Int))=some z'∧
  Nm (sg (inJ G K o c w m s x l) m) z':=by
 have m4:=in_m4 G K o c w m s x l o1 c1 w1 hG hK bG bK s1 s64 iG iK hx hl
 have h:=refif (B:=fun go (z:Int×Bool×Int×Int×Int×Int)=>f43_l71 ([(o:Int),(m:Int)],G) ([(o:Int),(c:Int),(w:Int)],K) s (x:Int) (l:Int) go z.1 z.2.1 z.2.2.1 z.2.2.2.1 z.2.2.2.2.1 z.2.2.2.2.2)
  0 (inJ G K o c w m s x l) m (by omega) ?_ ?_ (false,0,0,0,0) nm_zero
 ·rw [Int.zero_add] at h;exact h
 ·intro j hj z hz
  rw [Int.zero_add] at hz
  have js:j*s≤4096*64:=Nat.mul_le_mul (by omega) s64
  have ewy:IntKind.i64.wrap ((l:Int)-IntKind.i64.wrap ((j:Int)*(s:Int)))=(l:Int)-((j*s:Nat):Int):=by rw [wmul j s (by omega),Fl]
  have ej:f43_j72 ([(o:Int),(c:Int),(w:Int)],K) s (l:Int) (j:Int)=some (if j*s≤l∧l-j*s<w then Sum.inl () else Sum.inr ()):=by
   unfold f43_j72
   rw [ewy,show rd (0:Int) [(o:Int),(c:Int),(w:Int)] 2=(w:Int) from rfl]
   by_cases h1:j*s≤l
   ·rw [dF,cond_false]
    by_cases h2:l-j*s<w
    ·rw [dF,if_pos ⟨h1,h2⟩];rfl
    ·rw [dT,if_neg (fun hh=>h2 hh.2)];rfl
   ·rw [dT,if_neg (fun hh=>h1 hh.1)];rfl
  have step:sg (inJ G K o c w m s x l) (j+1)=sg (inJ G K o c w m s x l) j+inJ G K o c w m s x l j:=rfl
  rw [Int.zero_add,step]
  by_cases h:j*s≤l∧l-j*s<w
  ·rw [if_pos h] at ej
   obtain ⟨z',ez,hz'⟩:=in_innerR G K o c w m s x l o1 c1 w1 hG hK bG bK s1 s64 iG iK hx hl j hj h z hz
   have eJ:inJ G K o c w m s x l j=sg (fun i=>inT G K c w m x i j (l-j*s)) o:=if_pos h
   refine ⟨z',fun go=>?_,by rw [eJ];exact hz'⟩
   have ez':Fp (fun go (z:Int×Bool×Int×Int×Int×Int)=>f43_l73 ([(o:Int),(m:Int)],G) ([(o:Int),(c:Int),(w:Int)],K) s (x:Int) (l:Int) (j:Int) go z.1 z.2.1 z.2.2.1 z.2.2.2.1 z.2.2.2.2.1 z.2.2.2.2.2) Fv ((0:Int),z.1,z.2.1,z.2.2.1,z.2.2.2.1,z.2.2.2.2)=_:=ez
   unfold f43_l71
   simp only
   rw [show rd (0:Int) [(o:Int),(m:Int)] 1=(m:Int) from rfl,dT,cond_true,ej,Bh,Fq,ez',Bh,Gr j]
  ·rw [if_neg h] at ej
   have eJ:inJ G K o c w m s x l j=0:=if_neg h
   refine ⟨z,fun go=>?_,by rw [eJ,Int.add_zero];exact hz⟩
   unfold f43_l71
   simp only
   rw [show rd (0:Int) [(o:Int),(m:Int)] 1=(m:Int) from rfl,dT,cond_true,ej,Bh,Gh,Gr j]
 ·intro z go
  unfold f43_l71
  simp only
  rw [show rd (0:Int) [(o:Int),(m:Int)] 1=(m:Int) from rfl,dF,cond_false]
end
section
variable (G K:List Int) (o c w m s L:Nat) (o1:1≤o) (c1:1≤c) (w1:1≤w) (hG:G.length=o*m) (hK:K.length=o*(c*w)) (bG:o*m≤4096) (bK:o*(c*w)≤4096) (s1:1≤s) (s64:s≤64) (iG:inI G) (iK:inI K) (L1:1≤L) (bL:c*L≤4096)
include o1 c1 w1 hG hK bG bK s1 s64 iG iK L1 bL
theorem in_loopR :
  Fp (fun go (z:Int×List Int)=>f43_l51 ([(o:Int),(m:Int)],G) ([(o:Int),(c:Int),(w:Int)],K) s L go z.1 z.2) Fv ((0:Int),List.replicate (c*L) 0)=some (F8 (c*L) (inV G K o c w m s L)):=by
 have hL4:L≤4096:=Nat.le_trans (Nat.le_mul_of_pos_left _ c1) bL
 have hc4:c≤4096:=Nat.le_trans (Nat.le_mul_of_pos_right _ L1) bL
 rw [Gf _ (inV G K o c w m s L)]
 have h:=F3 (B:=fun go (z:Int×List Int)=>f43_l51 ([(o:Int),(m:Int)],G) ([(o:Int),(c:Int),(w:Int)],K) s L go z.1 z.2) (fun x=>((x:Int),J8 (c*L) (x*L) (inV G K o c w m s L))) c (F8 (c*L) (inV G K o c w m s L)) ?_ ?_ (by omega)
 ·rw [Nat.zero_mul] at h;exact h
 ·intro x hx go
  unfold f43_l51
  simp only
  have Km:=F3 (B:=fun go (z:Int×List Int)=>f43_l66 ([(o:Int),(m:Int)],G) ([(o:Int),(c:Int),(w:Int)],K) s L (x:Int) go z.1 z.2) (fun l=>((l:Int),J8 (c*L) (x*L+l) (inV G K o c w m s L))) L (J8 (c*L) ((x+1)*L) (inV G K o c w m s L)) ?_ ?_ (by omega)
  ·rw [Nat.add_zero] at Km
   have inner':Fp (fun go (z:Int×List Int)=>f43_l66 ([(o:Int),(m:Int)],G) ([(o:Int),(c:Int),(w:Int)],K) s L (x:Int) go z.1 z.2) Fv ((0:Int),J8 (c*L) (x*L) (inV G K o c w m s L))=_:=Km
   rw [show rd (0:Int) [(o:Int),(c:Int),(w:Int)] 1=(c:Int) from rfl,dT,cond_true,inner',Bh,Gr x]
  ·intro l hl go
   have hq:x*L+l<c*L:=Jf hx hl
   obtain ⟨d1,d2⟩:=Ko (x:=x) hl
   obtain ⟨z,ez,hz⟩:=in_outR G K o c w m s x l o1 c1 w1 hG hK bG bK s1 s64 iG iK hx (by omega)
   have hb:=in_bdJ G K o c w m s x l o1 c1 w1 hG hK bG bK s1 s64 iG iK hx (by omega) m (Nat.le_refl _)
   obtain ⟨u,eu,hu⟩:=ref_end hz hb
   have eV:sat (rhe (sg (inJ G K o c w m s x l) m))=inV G K o c w m s L (x*L+l):=by
    unfold inV
    rw [d1,d2]
    congr 2
    exact (in_eq (fun i j y=>inT G K c w m x i j y) l s m w o s1).symm
   unfold f43_l66
   simp only [F5]
   rw [dT,cond_true,ez,Bh,eu,Bh,hu,Bh,ixM x L l (by omega),D4,Int.toNat_natCast,Gr l]
   have:=Gu (c*L) (x*L+l) (inV G K o c w m s L) _ hq eV
   rw [this]
   rfl
  ·intro go
   unfold f43_l66
   simp only
   rw [dF,cond_false,Nat.add_mul,Nat.one_mul]
 ·intro go
  unfold f43_l51
  simp only
  rw [show rd (0:Int) [(o:Int),(c:Int),(w:Int)] 1=(c:Int) from rfl,dF,cond_false,Gg]
end
abbrev Lj (g k:Tn) (s L:Int):Prop:=g.1.length=2∧k.1.length=3∧rd (0:Int) k.1 0=rd (0:Int) g.1 0∧rd (0:Int) k.1 2≤L∧rd (0:Int) g.1 1=(F7 L.toNat (rd (0:Int) k.1 2).toNat s.toNat:Int)
def binS (g k:Tn) (s L:Int):Int×Tn:=
 if Gs g k s L then
  if Lj g k s L then
   if 0<prd [rd (0:Int) k.1 1,L] then
    (0,[rd (0:Int) k.1 1,L],F8 ((rd (0:Int) k.1 1).toNat*L.toNat) (inV g.2 k.2 (rd (0:Int) g.1 0).toNat (rd (0:Int) k.1 1).toNat (rd (0:Int) k.1 2).toNat (rd (0:Int) g.1 1).toNat s.toNat L.toNat))
   else (2,[],[])
  else (4,[],[])
 else (1,[],[])
theorem in_win (k:Tn) (s L:Int) (hk:Ft k=true) (h3:k.1.length=3) (s1:1≤s) (L4:L≤4096) (h:rd (0:Int) k.1 2≤L) :
  IntKind.i64.wrap (IntKind.i64.wrap (Int.tdiv (IntKind.i64.wrap (L-rd (0:Int) k.1 2)) s)+1)=(F7 L.toNat (rd (0:Int) k.1 2).toNat s.toNat:Int)∧f133 L (rd (0:Int) k.1 2) s=some (F7 L.toNat (rd (0:Int) k.1 2).toNat s.toNat:Int):=by
 obtain ⟨o,c,w,ek,o1,c1,w1,_,_⟩:=ker_nat hk h3
 have e:rd (0:Int) k.1 2=(w:Int):=by rw [ek];rfl
 rw [e] at h ⊢
 obtain ⟨L',rfl⟩:=Int.eq_ofNat_of_zero_le (show 0≤L by omega)
 obtain ⟨s',rfl⟩:=Int.eq_ofNat_of_zero_le (show 0≤s by omega)
 exact ⟨win_eq L' w s' (by omega) (by omega),winP L' w s' (by omega) (by omega) (by omega)⟩
theorem in_j5P (g k:Tn) (s L:Int) (h:Gs g k s L):f79_j5 g k s L=some (!(decide (Lj g k s L))):=by
 obtain ⟨hg,hk,s1,s64,L1,L4⟩:=h
 unfold f79_j5
 by_cases h1:g.1.length=2
 ·rw [nF,cond_false]
  by_cases h2:k.1.length=3
  ·rw [nF,cond_false,D4,D4]
   by_cases h3:rd (0:Int) k.1 0=rd (0:Int) g.1 0
   ·rw [nF h3,cond_false,D4,D4]
    by_cases h5:rd (0:Int) k.1 2≤L
    ·rw [(in_win k s L hk h2 s1 L4 h5).2,Bh]
     by_cases h4:(F7 L.toNat (rd (0:Int) k.1 2).toNat s.toNat:Int)=rd (0:Int) g.1 1
     ·rw [nF h4,dT (show Lj g k s L from ⟨h1,h2,h3,h5,h4.symm⟩)];rfl
     ·rw [nT h4,dF (show ¬Lj g k s L from fun h=>h4 h.2.2.2.2.symm)];rfl
    ·obtain ⟨c,M,eg,c1,M1,_,_⟩:=Gy hg h1
     have e:rd (0:Int) g.1 1=(M:Int):=by rw [eg];rfl
     rw [win_none _ _ _ (by omega),Bh,nT,dF (show ¬Lj g k s L from fun h=>h5 h.2.2.2.1)];rfl
   ·rw [nT h3,dF (show ¬Lj g k s L from fun h=>h3 h.2.2.1)];rfl
  ·rw [nT,dF (show ¬Lj g k s L from fun h=>h2 h.2.1)];rfl
 ·rw [nT,dF (show ¬Lj g k s L from fun h=>h1 h.1)];rfl
theorem in_j6R (g k:Tn) (s L:Int) (h:Gs g k s L):f43_j6 g k s L=some (!(decide (Lj g k s L))):=by
 obtain ⟨hg,hk,s1,s64,L1,L4⟩:=h
 unfold f43_j6
 by_cases h1:g.1.length=2
 ·rw [nF,cond_false]
  by_cases h2:k.1.length=3
  ·rw [nF,cond_false,D4,D4]
   by_cases h3:rd (0:Int) g.1 0=rd (0:Int) k.1 0
   ·rw [nF h3,cond_false,D4]
    by_cases h5:rd (0:Int) k.1 2≤L
    ·rw [dF,cond_false,D4,D4,D4,(in_win k s L hk h2 s1 L4 h5).1]
     by_cases h4:rd (0:Int) g.1 1=(F7 L.toNat (rd (0:Int) k.1 2).toNat s.toNat:Int)
     ·rw [nF h4,dT (show Lj g k s L from ⟨h1,h2,h3.symm,h5,h4⟩)];rfl
     ·rw [nT h4,dF (show ¬Lj g k s L from fun h=>h4 h.2.2.2.2)];rfl
    ·rw [dT,dF (show ¬Lj g k s L from fun h=>h5 h.2.2.2.1)];rfl
   ·rw [nT h3,dF (show ¬Lj g k s L from fun h=>h3 h.2.2.1.symm)];rfl
  ·rw [nT,dF (show ¬Lj g k s L from fun h=>h2 h.2.1)];rfl
 ·rw [nT,dF (show ¬Lj g k s L from fun h=>h1 h.1)];rfl
theorem binP (g k:Tn) (s L:Int) (ig:inI g.2) (ik:inI k.2):f79 g k s L=some (binS g k s L):=by
 unfold f79 f79_j3 binS
 have e4:f79_j4 g k s L=some (!(decide (Gs g k s L))):=ker_j4 g k s L
 rw [e4,Bh]
 by_cases h:Gs g k s L
 ·rw [dT h,if_pos h,Bool.not_true,cond_false,in_j5P g k s L h,Bh]
  by_cases f:Lj g k s L
  ·rw [dT f,if_pos f,Bool.not_true,cond_false,Bh,Fq]
   obtain ⟨gg,gk,s1,s64,L1,L4⟩:=h
   obtain ⟨h1,h2,h3,h5,h4⟩:=f
   rw [D4,D4,D4,D4,of_ok,Bh]
   by_cases hp:0<prd [rd (0:Int) k.1 1,L]
   ·rw [if_pos hp,if_pos hp]
    simp only
    rw [nF rfl,cond_false]
    obtain ⟨o,m,eg,o1,m1,lg,bg⟩:=Gy gg h1
    obtain ⟨o',c,w,ek,_,c1,w1,lk,bk⟩:=ker_nat gk h2
    obtain ⟨s',rfl⟩:=Int.eq_ofNat_of_zero_le (show 0≤s by omega)
    obtain ⟨L',rfl⟩:=Int.eq_ofNat_of_zero_le (show 0≤L by omega)
    have eo:o'=o:=by rw [eg,ek] at h3;exact Int.ofNat.inj h3
    subst eo
    clear h3 h4 h5 h1 h2 gg gk e4
    generalize g.2=G at *
    generalize k.2=K at *
    subst eg
    subst ek
    rw [show rd (0:Int) [(o':Int),(c:Int),(w:Int)] 1=(c:Int) from rfl] at hp ⊢
    obtain ⟨h5,h6,h7⟩:=prod2 hp
    have hN:(prd [(c:Int),(L':Int)]).toNat=c*L':=by rw [h7,← Int.natCast_mul,Int.toNat_natCast]
    have:=F2 [(c:Int),(L':Int)]
    rw [h7,← Int.natCast_mul] at this
    rw [hN,in_loopP G K o' c w m s' L' o1 c1 w1 lg lk bg bk (by omega) (by omega) ig ik (by omega) (by omega),Bh]
    rfl
   ·rw [if_neg hp,if_neg hp];rfl
  ·rw [dF f,if_neg f];rfl
 ·rw [dF h,if_neg h];rfl
theorem binR (g k:Tn) (s L:Int) (ig:inI g.2) (ik:inI k.2):f43 g k s L=some (binS g k s L):=by
 unfold f43 f43_j2 binS
 have e4:f43_j3 g k s L=some (!(decide (Gs g k s L))):=ker_j3 g k s L
 rw [e4,Bh]
 by_cases h:Gs g k s L
 ·rw [dT h,if_pos h,Bool.not_true,cond_false,Bh,Fq]
  unfold f43_j5
  rw [in_j6R g k s L h,Bh]
  by_cases f:Lj g k s L
  ·rw [dT f,if_pos f,Bool.not_true,cond_false,Bh,Fq]
   obtain ⟨gg,gk,s1,s64,L1,L4⟩:=h
   obtain ⟨h1,h2,h3,h5,h4⟩:=f
   rw [D4,D4,D4,D4,goodR,Bh]
   by_cases hp:0<prd [rd (0:Int) k.1 1,L]
   ·rw [dT hp,if_pos hp,Bool.not_true,cond_false,newR _ _ hp,Bh]
    simp only
    obtain ⟨o,m,eg,o1,m1,lg,bg⟩:=Gy gg h1
    obtain ⟨o',c,w,ek,_,c1,w1,lk,bk⟩:=ker_nat gk h2
    obtain ⟨s',rfl⟩:=Int.eq_ofNat_of_zero_le (show 0≤s by omega)
    obtain ⟨L',rfl⟩:=Int.eq_ofNat_of_zero_le (show 0≤L by omega)
    have eo:o'=o:=by rw [eg,ek] at h3;exact Int.ofNat.inj h3
    subst eo
    clear h3 h4 h5 h1 h2 gg gk e4
    generalize g.2=G at *
    generalize k.2=K at *
    subst eg
    subst ek
    rw [show rd (0:Int) [(o':Int),(c:Int),(w:Int)] 1=(c:Int) from rfl] at hp ⊢
    obtain ⟨h5,h6,h7⟩:=prod2 hp
    have hN:(prd [(c:Int),(L':Int)]).toNat=c*L':=by rw [h7,← Int.natCast_mul,Int.toNat_natCast]
    have:=F2 [(c:Int),(L':Int)]
    rw [h7,← Int.natCast_mul] at this
    rw [hN,in_loopR G K o' c w m s' L' o1 c1 w1 lg lk bg bk (by omega) (by omega) ig ik (by omega) (by omega),Bh]
    rfl
   ·rw [dF hp,if_neg hp];rfl
  ·rw [dF f,if_neg f];rfl
 ·rw [dF h,if_neg h];rfl
theorem at_loops (d p:List Int) (hl:p.length=d.length) (h4:d.length≤4):∀ (m k:Nat) (a:Int),k≤d.length→
  Fp (fun go (x:Int×Int)=>f38_l4 d p go x.1 x.2) m (a,(k:Int))=Fp (fun go (x:Int×Int)=>f120_l4 d p go x.1 x.2) m (a,(k:Int))
 | 0,_,_,_=>rfl
 | m+1,k,a,hk=>by
  rw [Jy,Jy]
  by_cases h:k<d.length
  ·have ej:f38_j5 d p (k:Int)=f120_j5 d p (k:Int):=by
    unfold f38_j5 f120_j5
    rw [D4,D4]
   have e1:f38_l4 d p (Fp (fun go (x:Int×Int)=>f38_l4 d p go x.1 x.2) m) a (k:Int)=Ey (f120_j5 d p (k:Int)) fun z=>Fz z (fun _=>Fp (fun go (x:Int×Int)=>f38_l4 d p go x.1 x.2) m (IntKind.i64.wrap (IntKind.i64.wrap (a*rd (0:Int) d (k:Int))+rd (0:Int) p (k:Int)),((k+1:Nat):Int))) (fun _=>some (Sum.inl ())):=by
    unfold f38_l4
    rw [dT,cond_true,ej,D4,D4,Gr k]
   have e2:f120_l4 d p (Fp (fun go (x:Int×Int)=>f120_l4 d p go x.1 x.2) m) a (k:Int)=Ey (f120_j5 d p (k:Int)) fun z=>Fz z (fun _=>Fp (fun go (x:Int×Int)=>f120_l4 d p go x.1 x.2) m (IntKind.i64.wrap (IntKind.i64.wrap (a*rd (0:Int) d (k:Int))+rd (0:Int) p (k:Int)),((k+1:Nat):Int))) (fun _=>some (Sum.inl ())):=by
    unfold f120_l4
    rw [dT,cond_true,D4,D4,Gr k]
   simp only
   rw [e1,e2,at_loops d p hl h4 m (k+1) _ h]
  ·simp only
   unfold f38_l4 f120_l4
   rw [dF,dF];rfl
theorem at_same (d p:List Int):f38 d p=f120 d p:=by
 unfold f38 f120 f38_j1 f120_j1
 rw [goodR,Gp,Bh]
 show Ey (bif !decide (prd d>0) then some (Sum.inr ()) else bif (p.length:Int) != (d.length:Int) then some (Sum.inr ()) else some (Sum.inl ())) _=Ey (bif !decide (prd d>0) then some (Sum.inr ()) else bif (p.length:Int) != (d.length:Int) then some (Sum.inr ()) else some (Sum.inl ())) _
 by_cases hg:prd d>0
 ·rw [dT hg,Bool.not_true,cond_false]
  by_cases hl:p.length=d.length
  ·have e:=at_loops d p hl (Gx hg) Fv 0 0 (Nat.zero_le _)
   have e':Fp (fun go (x:Int×Int)=>f38_l4 d p go x.1 x.2) Fv ((0:Int),(0:Int))=_:=e
   rw [nF,cond_false,Bh,Fq,Bh,Fq,e']
   rfl
  ·rw [nT];rfl
 ·rw [dF hg];rfl
def atQ (d p:List Int):Int:=((f120 d p).getD (0,false)).1
def cutP (p:List Int) (s:Int):List Int:=(([]:List Int)++(List.take (Int.toNat s) p))++(List.drop (Int.toNat (IntKind.i64.wrap (s+(1:Int)))) p)
def spV (g:Tn) (d:List Int) (s:Int) (k:Nat):Int:=rd (0:Int) g.2 (atQ g.1 (cutP (plc d (k:Int)) s))
theorem atQ_ok (d p:List Int) (hd:0<prd d):∃ b,f120 d p=some (atQ d p,b)∧0≤atQ d p∧atQ d p<prd d:=by
 obtain ⟨q,b,e,h⟩:=at_any d p hd
 have eq:atQ d p=q:=by unfold atQ;rw [e];rfl
 rw [eq];exact ⟨b,e,h⟩
section
variable (g:Tn) (d:List Int) (s:Int) (gg:Ft g=true) (hd:0<prd d) (s0:0≤s) (s1:s<d.length)
include gg hd s0 s1
theorem sp_guards (k:Nat):(0≤s∧s≤((plc d (k:Int)).length:Int))∧(0≤IntKind.i64.wrap (s+1)∧IntKind.i64.wrap (s+1)≤((plc d (k:Int)).length:Int))∧(List.length ([]:List Int)+List.length (List.take (Int.toNat s) (plc d (k:Int))))*8≤140737488355328∧
  (List.length (([]:List Int)++(List.take (Int.toNat s) (plc d (k:Int))))+List.length (List.drop (Int.toNat (IntKind.i64.wrap (s+(1:Int)))) (plc d (k:Int))))*8≤140737488355328:=by
 have hpl:=plc_len d (k:Int)
 have hdl:=Gx hd
 refine ⟨by omega,by rw [Fl];omega,by rw [List.length_take];simp only [List.length_nil];omega,by rw [List.nil_append,List.length_take,List.length_drop];omega⟩
theorem spreadP:f75 g d s=some (d,F8 (prd d).toNat (spV g d s)):=by
 obtain ⟨hp,hl,_,hl2⟩:=Fy gg
 have hr:=F2 d
 unfold f75
 rw [K3,if_pos hd,Bh]
 simp only
 rw [Gf _ (spV g d s)]
 have L:=F3 (B:=fun go (x:Int×List Int)=>f75_l1 g d s (0,d,J8 (prd d).toNat 0 (spV g d s)) go x.1 x.2) (fun k=>((k:Int),J8 (prd d).toNat k (spV g d s))) (prd d).toNat (F8 (prd d).toNat (spV g d s)) ?_ ?_ (by omega)
 ·have L':Fp (fun go (x:Int×List Int)=>f75_l1 g d s (0,d,J8 (prd d).toNat 0 (spV g d s)) go x.1 x.2) Fv ((0:Int),J8 (prd d).toNat 0 (spV g d s))=_:=L
  rw [L'];rfl
 ·intro k hk go
  obtain ⟨b,eq,q0,q1⟩:=atQ_ok g.1 (cutP (plc d (k:Int)) s) hp
  obtain ⟨g1,g2,g3,g4⟩:=sp_guards g d s gg hd s0 s1 k
  have q2:0≤atQ g.1 (cutP (plc d (k:Int)) s)∧atQ g.1 (cutP (plc d (k:Int)) s)<(g.2.length:Int):=⟨q0,by omega⟩
  unfold cutP at eq q2
  unfold f75_l1
  simp only [F5]
  rw [dT,cond_true,placeP d hd (k:Int) (by omega) (by omega),Bh]
  simp only
  rw [D4 g1,D4 g2,D4 g3,D4 g4,eq,Bh]
  simp only
  rw [D4 q2,D4,Gr k,Int.toNat_natCast]
  have:=Gu (prd d).toNat k (spV g d s) _ hk (rfl:spV g d s k=spV g d s k)
  rw [← this]
  rfl
 ·intro go
  unfold f75_l1
  simp only [F5]
  rw [dF,cond_false,Gg]
theorem spreadR (l:List Nd) (i A:Nat) (ha:(gn l i).2.1=A) (hk:(gn l i).2.2.2.1=s) (hdA:(nd l A).1=d) :
  Fp (fun go (x:Int×List Int)=>f13_l5 l (i:Int) g go x.1 x.2) Fv ((0:Int),List.replicate (prd d).toNat 0)=some (F8 (prd d).toNat (spV g d s)):=by
 obtain ⟨hp,hl,_,hl2⟩:=Fy gg
 have hr:=F2 d
 rw [Gf _ (spV g d s)]
 refine F3 (B:=fun go (x:Int×List Int)=>f13_l5 l (i:Int) g go x.1 x.2) (fun k=>((k:Int),J8 (prd d).toNat k (spV g d s))) (prd d).toNat (F8 (prd d).toNat (spV g d s)) ?_ ?_ (by omega)
 ·intro k hkk go
  obtain ⟨b,eq,q0,q1⟩:=atQ_ok g.1 (cutP (plc d (k:Int)) s) hp
  obtain ⟨g1,g2,g3,g4⟩:=sp_guards g d s gg hd s0 s1 k
  have e:rd (Ty.z (.p (.int .i64) (.p (.int .i64) (.p (.int .i64) (.p (.int .i64) (.p (.sl (.int .i64)) (.sl (.int .i64)))))))) l (i:Int)=gn l i:=rfl
  have eA:(rd (Ty.z (.p (.int .i64) (.p (.int .i64) (.p (.int .i64) (.p (.int .i64) (.p (.sl (.int .i64)) (.sl (.int .i64)))))))) l (A:Int)).2.2.2.2.1=d:=hdA
  rw [← at_same] at eq
  have q2:0≤atQ g.1 (cutP (plc d (k:Int)) s)∧atQ g.1 (cutP (plc d (k:Int)) s)<(g.2.length:Int):=⟨q0,by omega⟩
  unfold cutP at eq q2
  unfold f13_l5
  simp only [F5]
  rw [e,ha,hk,eA,dT,cond_true,placeR d hd (k:Int) (by omega) (by omega),Bh]
  simp only
  rw [D4 g1,D4 g2,D4 g3,D4 g4,eq,Bh]
  simp only
  rw [D4 q2,D4,Gr k,Int.toNat_natCast]
  have:=Gu (prd d).toNat k (spV g d s) _ hkk (rfl:spV g d s k=spV g d s k)
  rw [← this]
  rfl
 ·intro go
  unfold f13_l5
  simp only [F5]
  rw [dF,cond_false,Gg]
end
def pkL (P V:List Int) (N:Nat):Nat→List Int
 | 0=>List.replicate N 0
 | k+1=>(pkL P V N k).set (Int.toNat (rd (0:Int) P (k:Int))) (rd (0:Int) V (k:Int))
theorem pkL_len (P V:List Int) (N:Nat):∀ k,(pkL P V N k).length=N
 | 0=>by simp [pkL]
 | k+1=>by simp only [pkL,List.length_set];exact pkL_len P V N k
theorem pkL_in (P V:List Int) (N:Nat) (iV:inI V):∀ k,k≤V.length→inI (pkL P V N k)
 | 0,_=>inI_rep _ _ (by decide)
 | k+1,h=>by simp only [pkL];exact inI_set (pkL_in P V N iV k (by omega)) _ _ (G9 iV k (by omega))
section
variable (g a:Tn) (w:Int) (h:(G2 a w).1=0) (gg:Ft g=true) (hd:g.1=(G2 a w).2.1)
include h gg hd
theorem pk_len:(G2 a w).2.2.2.length=g.2.length∧Ft a=true:=by
 obtain ⟨ga,hn,hn4,hp⟩:=pool_places a w h
 obtain ⟨_,lg,_,_⟩:=Fy gg
 rw [hd] at lg
 exact ⟨by omega,ga⟩
theorem pickedP:f80 g a w=some (a.1,pkL (G2 a w).2.2.2 g.2 (prd a.1).toNat g.2.length):=by
 obtain ⟨ga,hn,hn4,hp⟩:=pool_places a w h
 obtain ⟨pl,_⟩:=pk_len g a w h gg hd
 obtain ⟨pa,la,_,la2⟩:=Fy ga
 unfold f80
 rw [K3,if_pos pa,Bh]
 have ep:f101 (a.1,a.2) w=some (G2 a w):=poolP a w
 rw [ep,Bh]
 simp only
 have L:=F3 (B:=fun go (x:Int×List Int)=>f80_l1 g (G2 a w) go x.1 x.2) (fun k=>((k:Int),pkL (G2 a w).2.2.2 g.2 (prd a.1).toNat k)) g.2.length (pkL (G2 a w).2.2.2 g.2 (prd a.1).toNat g.2.length) ?_ ?_ (by omega)
 ·have L':Fp (fun go (x:Int×List Int)=>f80_l1 g (G2 a w) go x.1 x.2) Fv ((0:Int),List.replicate (prd a.1).toNat 0)=_:=L
  rw [L'];rfl
 ·intro k hk go
  obtain ⟨p0,p1⟩:=hp k (by omega)
  unfold f80_l1
  simp only [pkL_len]
  rw [dT,cond_true,D4,D4,D4,Gr k]
  rfl
 ·intro go
  unfold f80_l1
  simp only
  rw [dF,cond_false]
theorem pickedR:Fp (fun go (x:Int×List Int)=>f13_l8 g (G2 a w) go x.1 x.2) Fv ((0:Int),List.replicate (prd a.1).toNat 0)=some (pkL (G2 a w).2.2.2 g.2 (prd a.1).toNat g.2.length):=by
 obtain ⟨ga,hn,hn4,hp⟩:=pool_places a w h
 obtain ⟨pl,_⟩:=pk_len g a w h gg hd
 obtain ⟨pa,la,_,la2⟩:=Fy ga
 refine F3 (B:=fun go (x:Int×List Int)=>f13_l8 g (G2 a w) go x.1 x.2) (fun k=>((k:Int),pkL (G2 a w).2.2.2 g.2 (prd a.1).toNat k)) g.2.length (pkL (G2 a w).2.2.2 g.2 (prd a.1).toNat g.2.length) ?_ ?_ (by omega)
 ·intro k hk go
  obtain ⟨p0,p1⟩:=hp k (by omega)
  unfold f13_l8
  simp only [pkL_len]
  rw [dT,cond_true,D4,D4,D4,Gr k]
  rfl
 ·intro go
  unfold f13_l8
  simp only
  rw [dF,cond_false]
end
def Bth (T:List Nd) (i:Nat):Prop:=∃ ga gb,NodeOk T i ga gb∧NodeR T i ga gb
section
variable (l:List Nd) (i A:Nat) (h1:i<l.length) (ha:(gn l i).2.1=A) (hA:A<i) (gA:F9 (nd l A)) (gT:F9 (nd l i))
include h1 ha hA gA gT
theorem K2 (op:Int) (h:(gn l i).1=op) (ho:op≠1) (hb:(gn l i).2.2.1<l.length) (g:Tn) (hg:F9 g) (hd:g.1=(nd l i).1) (X:Option (Int×List Int×List Int×List Int×List Int×List Nd))
  (hx:op=6∨op=7∨op=8∨op=12∨op=13∨op=14)
  (H:(if op=6 then Ey (f35 (vl l (gn l i).2.2.1)) fun u=>Ey (f35 (nd l A)) fun v=>Ey (f36 g u.2) fun p=>Ey (f36 v.2 g) fun q=>some ((0:Int),p.2.1,p.2.2,q.2.1,q.2.2,l)
   else if op=7 then Ey (f35 g) fun p=>some ((0:Int),p.2.1,p.2.2,[],[],l)
   else if op=8 then Ey (f11 (nd l A).1 0) fun q=>Ey (Fp (fun go (x:Int×List Int)=>f13_l5 l (i:Int) g go x.1 x.2) Fv ((0:Int),q.2)) fun z=>some ((0:Int),q.1,z,[],[],l)
   else if op=12 then Ey (f13_j6 l (i:Int) g (vl l (gn l i).2.2.1)) fun p=>Ey (f13_j7 l (i:Int) g (vl l (gn l i).2.2.1)) fun q=>some ((0:Int),p.1,p.2,q.1,q.2,l)
   else if op=13 then Ey (f11 (nd l A).1 0) fun q=>Ey (f45 (nd l A) (gn l i).2.2.2.1) fun r=>Ey (Fp (fun go (x:Int×List Int)=>f13_l8 g r go x.1 x.2) Fv ((0:Int),q.2)) fun z=>some ((0:Int),q.1,z,[],[],l)
   else Ey (f46 g (nd l A).1) fun p=>some ((0:Int),p.2.1,p.2.2,[],[],l))=X) :
  f13 l (i:Int) g=X:=by
 unfold f13
 have e:rd (Ty.z (.p (.int .i64) (.p (.int .i64) (.p (.int .i64) (.p (.int .i64) (.p (.sl (.int .i64)) (.sl (.int .i64)))))))) l (i:Int)=gn l i:=rfl
 have g1:0≤(i:Int)∧(i:Int)<(l.length:Int):=by omega
 have g2:0≤(A:Int)∧(A:Int)<(l.length:Int):=by omega
 rw [one_j2 l i h1 g hg hd,Bh,Fq,e,h,ha,D4 g1,bF ho,cond_false,D4 g2,one_j4 l i hb,Bh]
 rcases hx with rfl | rfl | rfl | rfl | rfl | rfl <;> exact H
theorem b_flip (h:(gn l i).1=7) (hb:(gn l i).2.2.1=-1) (hT:flS (nd l A)=(0,nd l i)):Bth l i:=by
 have h2:(nd l A).1.length=2:=by
  unfold flS at hT
  rw [if_pos gA.1] at hT
  by_cases e:(nd l A).1.length=2
  ·exact e
  ·rw [if_neg e] at hT;exact absurd (show (4:Int)=0 from congrArg Prod.fst hT) (by decide)
 have dT1:(nd l i).1=[rd (0:Int) (nd l A).1 1,rd (0:Int) (nd l A).1 0]:=by
  unfold flS at hT
  rw [if_pos gA.1,if_pos h2] at hT
  exact (congrArg (fun x=>x.2.1) hT).symm
 have key:∀ g,F9 g→g.1=(nd l i).1→(flS g).1=0∧(flS g).2.1=(nd l A).1:=fun g hg hd=>by
  unfold flS
  rw [if_pos hg.1,if_pos (show g.1.length=2 by rw [hd,dT1];rfl),hd,dT1]
  exact ⟨rfl,(two_of h2).symm⟩
 refine ⟨fun g=>(flS g).2,fun _=>noT,⟨fun g hg hd=>?_,fun g hg hd=>?_,fun g hg hd _=>?_,fun g _ _ h0=>absurd h0 (by rw [hb];decide)⟩,fun h3=>absurd (h.symm.trans h3) (by decide),fun _=>by omega,fun _ g hg hd=>?_⟩
 ·unfold f30 f30_j1
  rw [h]
  have e:f74 (g.1,g.2)=some (flS g):=flP g
  show Ey (f74 (g.1,g.2)) _=_
  rw [e,Bh,(key g hg hd).1]
 ·unfold f31;rw [h];rfl
 ·rw [ha,Int.toNat_natCast]
  exact ⟨by omega,fl_good g hg.2 (key g hg hd).1,(key g hg hd).2⟩
 ·refine K2 l i A h1 ha hA gA gT 7 h (by decide) (by omega) g hg hd _ (.inr (.inl rfl)) ?_
  have e:f35 g=some (flS g):=flR g
  rw [if_neg (by decide),if_pos rfl,e];rfl
theorem b_shape (h:(gn l i).1=14) (hb:(gn l i).2.2.1=-1) (hT:reshS (nd l A) [((nd l A).2.length:Int)]=(0,nd l i)):Bth l i:=by
 obtain ⟨pA,lA,_,_⟩:=Fy gA.1
 have eT:0<prd [((nd l A).2.length:Int)]∧prd [((nd l A).2.length:Int)]=(nd l A).2.length∧(nd l i).1=[((nd l A).2.length:Int)]:=by
  unfold reshS at hT
  by_cases c:Ft (nd l A)=true∧0<prd [((nd l A).2.length:Int)]
  ·rw [if_pos c] at hT
   by_cases e:prd [((nd l A).2.length:Int)]=(nd l A).2.length
   ·rw [if_pos e] at hT;exact ⟨c.2,e,(congrArg (fun x=>x.2.1) hT).symm⟩
   ·rw [if_neg e] at hT;exact absurd (show (4:Int)=0 from congrArg Prod.fst hT) (by decide)
  ·rw [if_neg c] at hT;exact absurd (show (1:Int)=0 from congrArg Prod.fst hT) (by decide)
 obtain ⟨e1,e2,e3⟩:=eT
 have key:∀ g,F9 g→g.1=(nd l i).1→reshS g (nd l A).1=(0,(nd l A).1,g.2):=fun g hg hd=>by
  obtain ⟨_,lg,_,_⟩:=Fy hg.1
  rw [hd,e3,e2] at lg
  unfold reshS
  rw [if_pos ⟨hg.1,pA⟩,iPo]
 refine ⟨fun g=>((nd l A).1,g.2),fun _=>noT,⟨fun g hg hd=>?_,fun g hg hd=>?_,fun g hg hd _=>?_,fun g _ _ h0=>absurd h0 (by rw [hb];decide)⟩,fun h3=>absurd (h.symm.trans h3) (by decide),fun _=>by omega,fun _ g hg hd=>?_⟩
 ·unfold f30 f30_j1
  rw [h,ha,G7 l A (by omega)]
  have e:f81 (g.1,g.2) (nd l A).1=some (reshS g (nd l A).1):=reshP g _
  show Ey (f81 (g.1,g.2) (nd l A).1) _=_
  rw [e,key g hg hd];rfl
 ·unfold f31;rw [h];rfl
 ·rw [ha,Int.toNat_natCast]
  obtain ⟨_,lg,_,_⟩:=Fy hg.1
  rw [hd,e3,e2] at lg
  exact ⟨by omega,⟨Jo pA (by simp only;omega),hg.2⟩,rfl⟩
 ·refine K2 l i A h1 ha hA gA gT 14 h (by decide) (by omega) g hg hd _ (.inr (.inr (.inr (.inr (.inr rfl))))) ?_
  rw [if_neg (by decide),if_neg (by decide),if_neg (by decide),if_neg (by decide),if_neg (by decide),reshR,key g hg hd];rfl
theorem b_sum (K:Int) (h:(gn l i).1=8) (hb:(gn l i).2.2.1=-1) (hk:(gn l i).2.2.2.1=K) (hT:sideS (nd l A) K=(0,nd l i)):Bth l i:=by
 obtain ⟨pA,k0,k1⟩:=side_ask (nd l A) K (by rw [hT])
 refine ⟨fun g=>((nd l A).1,F8 (prd (nd l A).1).toNat (spV g (nd l A).1 K)),fun _=>noT,⟨fun g hg hd=>?_,fun g hg hd=>?_,fun g hg hd _=>?_,fun g _ _ h0=>absurd h0 (by rw [hb];decide)⟩,fun h3=>absurd (h.symm.trans h3) (by decide),fun _=>by omega,fun _ g hg hd=>?_⟩
 ·unfold f30 f30_j1
  rw [h,ha,hk,G7 l A (by omega)]
  have e:f75 (g.1,g.2) (nd l A).1 K=_:=spreadP g (nd l A).1 K hg.1 pA k0 k1
  show Ey (f75 (g.1,g.2) (nd l A).1 K) _=_
  rw [e];rfl
 ·unfold f31;rw [h];rfl
 ·rw [ha,Int.toNat_natCast]
  have:=F2 (nd l A).1
  obtain ⟨pg,lg,_,_⟩:=Fy hg.1
  refine ⟨by omega,⟨Jo pA (by simp only [Ga];omega),inI_tab (fun k _=>?_)⟩,rfl⟩
  obtain ⟨_,_,q0,q1⟩:=atQ_ok g.1 (cutP (plc (nd l A).1 (k:Int)) K) pg
  exact rd_any hg.2 _ q0 (by omega)
 ·refine K2 l i A h1 ha hA gA gT 8 h (by decide) (by omega) g hg hd _ (.inr (.inr (.inl rfl))) ?_
  rw [if_neg (by decide),if_neg (by decide),if_pos rfl,newR _ _ pA,Bh,spreadR g (nd l A).1 K hg.1 pA k0 k1 l i A ha hk rfl];rfl
theorem b_pool (K:Int) (h:(gn l i).1=13) (hb:(gn l i).2.2.1=-1) (hk:(gn l i).2.2.2.1=K) (hT:(G2 (nd l A) K).1=0∧(nd l i).1=(G2 (nd l A) K).2.1):Bth l i:=by
 obtain ⟨t1,t2⟩:=hT
 obtain ⟨pA,lA,_,_⟩:=Fy gA.1
 refine ⟨fun g=>((nd l A).1,pkL (G2 (nd l A) K).2.2.2 g.2 (prd (nd l A).1).toNat g.2.length),fun _=>noT,⟨fun g hg hd=>?_,fun g hg hd=>?_,fun g hg hd _=>?_,fun g _ _ h0=>absurd h0 (by rw [hb];decide)⟩,fun h3=>absurd (h.symm.trans h3) (by decide),fun _=>by omega,fun _ g hg hd=>?_⟩
 ·unfold f30 f30_j1
  rw [h,ha,hk,G7 l A (by omega)]
  have e:f80 (g.1,g.2) ((nd l A).1,(nd l A).2) K=_:=pickedP g (nd l A) K t1 hg.1 (by rw [hd,t2])
  show Ey (f80 (g.1,g.2) ((nd l A).1,(nd l A).2) K) _=_
  rw [e];rfl
 ·unfold f31;rw [h];rfl
 ·rw [ha,Int.toNat_natCast]
  have:=F2 (nd l A).1
  exact ⟨by omega,⟨Jo pA (by simp only [pkL_len];omega),pkL_in _ _ _ hg.2 _ (Nat.le_refl _)⟩,rfl⟩
 ·refine K2 l i A h1 ha hA gA gT 13 h (by decide) (by omega) g hg hd _ (.inr (.inr (.inr (.inr (.inl rfl))))) ?_
  rw [if_neg (by decide),if_neg (by decide),if_neg (by decide),if_neg (by decide),if_pos rfl,newR _ _ pA,Bh,hk,poolR,Bh,pickedR g (nd l A) K t1 hg.1 (by rw [hd,t2])];rfl
variable (B:Nat) (hb:(gn l i).2.2.1=B) (hB:B<i) (gB:F9 (nd l B))
include hb hB gB
theorem b_mm (h:(gn l i).1=6) (hT:mmS (nd l A) (nd l B)=(0,nd l i)):Bth l i:=by
 have fit:K4 (nd l A) (nd l B)∧(nd l i).1=[rd (0:Int) (nd l A).1 0,rd (0:Int) (nd l B).1 1]:=by
  unfold mmS at hT
  rw [if_pos (show G1 (nd l A) (nd l B) from ⟨gA.1,gB.1⟩)] at hT
  by_cases e:K4 (nd l A) (nd l B)
  ·rw [if_pos e] at hT
   by_cases n0:0<prd [rd (0:Int) (nd l A).1 0,rd (0:Int) (nd l B).1 1]
   ·rw [if_pos n0] at hT;exact ⟨e,(congrArg (fun x=>x.2.1) hT).symm⟩
   ·rw [if_neg n0] at hT;exact absurd (show (2:Int)=0 from congrArg Prod.fst hT) (by decide)
  ·rw [if_neg e] at hT;exact absurd (show (4:Int)=0 from congrArg Prod.fst hT) (by decide)
 obtain ⟨⟨f1,f2,f3⟩,dT1⟩:=fit
 obtain ⟨pA,_,_,_⟩:=Fy gA.1
 obtain ⟨pB,_,_,_⟩:=Fy gB.1
 have eA:=two_of f1
 have eB:=two_of f2
 have flA:(flS (nd l A)).1=0∧(flS (nd l A)).2.1=[rd (0:Int) (nd l A).1 1,rd (0:Int) (nd l A).1 0]:=by unfold flS;rw [if_pos gA.1,if_pos f1];exact ⟨rfl,rfl⟩
 have flB:(flS (nd l B)).1=0∧(flS (nd l B)).2.1=[rd (0:Int) (nd l B).1 1,rd (0:Int) (nd l B).1 0]:=by unfold flS;rw [if_pos gB.1,if_pos f2];exact ⟨rfl,rfl⟩
 have gfA:=fl_good (nd l A) gA.2 flA.1
 have gfB:=fl_good (nd l B) gB.2 flB.1
 have k1:∀ g,F9 g→g.1=(nd l i).1→(mmS g (flS (nd l B)).2).1=0∧(mmS g (flS (nd l B)).2).2.1=(nd l A).1:=fun g hg hd=>by
  have eg:g.1=[rd (0:Int) (nd l A).1 0,rd (0:Int) (nd l B).1 1]:=hd.trans dT1
  unfold mmS
  rw [if_pos (show G1 g (flS (nd l B)).2 from ⟨hg.1,gfB.1⟩),if_pos (show K4 g (flS (nd l B)).2 from by rw [show K4 g (flS (nd l B)).2=(g.1.length=2∧(flS (nd l B)).2.1.length=2∧rd (0:Int) g.1 1=rd (0:Int) (flS (nd l B)).2.1 0) from rfl,eg,flB.2];exact ⟨rfl,rfl,rfl⟩)]
  have e2:[rd (0:Int) g.1 0,rd (0:Int) (flS (nd l B)).2.1 1]=(nd l A).1:=by
   rw [eg,flB.2]
   show [rd (0:Int) (nd l A).1 0,rd (0:Int) (nd l B).1 0]=(nd l A).1
   rw [← f3];exact eA.symm
  rw [if_pos (by rw [e2];exact pA)]
  exact ⟨rfl,e2⟩
 have k2:∀ g,F9 g→g.1=(nd l i).1→(mmS (flS (nd l A)).2 g).1=0∧(mmS (flS (nd l A)).2 g).2.1=(nd l B).1:=fun g hg hd=>by
  have eg:g.1=[rd (0:Int) (nd l A).1 0,rd (0:Int) (nd l B).1 1]:=hd.trans dT1
  unfold mmS
  rw [if_pos (show G1 (flS (nd l A)).2 g from ⟨gfA.1,hg.1⟩),if_pos (show K4 (flS (nd l A)).2 g from by rw [show K4 (flS (nd l A)).2 g=((flS (nd l A)).2.1.length=2∧g.1.length=2∧rd (0:Int) (flS (nd l A)).2.1 1=rd (0:Int) g.1 0) from rfl,eg,flA.2];exact ⟨rfl,rfl,rfl⟩)]
  have e2:[rd (0:Int) (flS (nd l A)).2.1 0,rd (0:Int) g.1 1]=(nd l B).1:=by
   rw [eg,flA.2]
   show [rd (0:Int) (nd l A).1 1,rd (0:Int) (nd l B).1 1]=(nd l B).1
   rw [f3];exact eB.symm
  rw [if_pos (by rw [e2];exact pB)]
  exact ⟨rfl,e2⟩
 refine ⟨fun g=>(mmS g (flS (nd l B)).2).2,fun g=>(mmS (flS (nd l A)).2 g).2,⟨fun g hg hd=>?_,fun g hg hd=>?_,fun g hg hd _=>?_,fun g hg hd _=>?_⟩,fun h3=>absurd (h.symm.trans h3) (by decide),fun _=>by omega,fun _ g hg hd=>?_⟩
 ·unfold f30 f30_j1
  rw [h,hb,G7 l B (by omega)]
  show Ey (f73 (g.1,g.2) ((nd l B).1,(nd l B).2) false) _=_
  unfold f73
  have e:f74 ((nd l B).1,(nd l B).2)=some (flS (nd l B)):=flP (nd l B)
  have e2:f94 (g.1,g.2) ((flS (nd l B)).2.1,(flS (nd l B)).2.2)=some (mmS g (flS (nd l B)).2):=mmP g _ hg.2 gfB.2
  simp only
  rw [cond_false,e,Bh,nF flB.1,cond_false,e2,Bh,Bh,(k1 g hg hd).1]
 ·unfold f31
  rw [h,ha,G7 l A (by omega)]
  show Ey (f73 ((nd l A).1,(nd l A).2) (g.1,g.2) true) _=_
  unfold f73
  have e:f74 ((nd l A).1,(nd l A).2)=some (flS (nd l A)):=flP (nd l A)
  have e2:f94 ((flS (nd l A)).2.1,(flS (nd l A)).2.2) (g.1,g.2)=some (mmS (flS (nd l A)).2 g):=mmP _ g gfA.2 hg.2
  simp only
  rw [cond_true,e,Bh,nF flA.1,cond_false,e2,Bh,Bh,(k2 g hg hd).1]
 ·rw [ha,Int.toNat_natCast]
  exact ⟨by omega,mm_good _ _ (k1 g hg hd).1,(k1 g hg hd).2⟩
 ·rw [hb,Int.toNat_natCast]
  exact ⟨by omega,mm_good _ _ (k2 g hg hd).1,(k2 g hg hd).2⟩
 ·refine K2 l i A h1 ha hA gA gT 6 h (by decide) (by omega) g hg hd _ (.inl rfl) ?_
  rw [if_pos rfl,hb,G7 l B (by omega),flR,Bh,flR,Bh,mmR _ _ hg.2 gfB.2,Bh,mmR _ _ gfA.2 hg.2,Bh]
theorem b_row (K:Int) (h:(gn l i).1=12) (hk:(gn l i).2.2.2.1=K) (hT:rowS (nd l A) (nd l B) K=(0,nd l i)):Bth l i:=by
 have fit:Jk (nd l A) (nd l B) K∧Jx (nd l A) (nd l B)∧(nd l i).1=[rd (0:Int) (nd l B).1 0,(F7 (rd (0:Int) (nd l A).1 1).toNat (rd (0:Int) (nd l B).1 2).toNat K.toNat:Int)]:=by
  unfold rowS at hT
  by_cases c:Jk (nd l A) (nd l B) K
  ·rw [if_pos c] at hT
   by_cases e:Jx (nd l A) (nd l B)
   ·rw [if_pos e] at hT
    by_cases n0:0<prd [rd (0:Int) (nd l B).1 0,(F7 (rd (0:Int) (nd l A).1 1).toNat (rd (0:Int) (nd l B).1 2).toNat K.toNat:Int)]
    ·rw [if_pos n0] at hT;exact ⟨c,e,(congrArg (fun x=>x.2.1) hT).symm⟩
    ·rw [if_neg n0] at hT;exact absurd (show (2:Int)=0 from congrArg Prod.fst hT) (by decide)
   ·rw [if_neg e] at hT;exact absurd (show (4:Int)=0 from congrArg Prod.fst hT) (by decide)
  ·rw [if_neg c] at hT;exact absurd (show (1:Int)=0 from congrArg Prod.fst hT) (by decide)
 obtain ⟨⟨_,_,s1,s64⟩,⟨f1,f2,f3,f4⟩,dT1⟩:=fit
 obtain ⟨pA,_,_,_⟩:=Fy gA.1
 obtain ⟨pB,_,_,_⟩:=Fy gB.1
 have eA:=two_of f1
 have eB:=three_of f2
 obtain ⟨q1,q2,q3⟩:=prod2 (c:=rd (0:Int) (nd l A).1 0) (L:=rd (0:Int) (nd l A).1 1) (by rw [← eA];exact pA)
 obtain ⟨w1,w2,w3,w4⟩:=prod3 (o:=rd (0:Int) (nd l B).1 0) (c:=rd (0:Int) (nd l B).1 1) (w:=rd (0:Int) (nd l B).1 2) (by rw [← eB];exact pB)
 obtain ⟨_,mA,_⟩:=G3 pA
 obtain ⟨_,mB,_⟩:=G3 pB
 have L4:rd (0:Int) (nd l A).1 1≤4096:=(mA _ (by rw [eA];simp)).2
 have W4:rd (0:Int) (nd l B).1 2≤4096:=(mB _ (by rw [eB];simp)).2
 have k1:∀ g,F9 g→g.1=(nd l i).1→(binS g (nd l B) K (rd (0:Int) (nd l A).1 1)).1=0∧(binS g (nd l B) K (rd (0:Int) (nd l A).1 1)).2.1=(nd l A).1:=fun g hg hd=>by
  have eg:=hd.trans dT1
  have e2:[rd (0:Int) (nd l B).1 1,rd (0:Int) (nd l A).1 1]=(nd l A).1:=by rw [f3];exact eA.symm
  unfold binS
  rw [if_pos (show Gs g (nd l B) K (rd (0:Int) (nd l A).1 1) from ⟨hg.1,gB.1,s1,s64,q2,L4⟩),
   if_pos (show Lj g (nd l B) K (rd (0:Int) (nd l A).1 1) from ⟨by rw [eg];rfl,f2,by rw [eg];rfl,f4,by rw [eg];rfl⟩),if_pos (by rw [e2];exact pA)]
  exact ⟨rfl,e2⟩
 have k2:∀ g,F9 g→g.1=(nd l i).1→(kerS g (nd l A) K (rd (0:Int) (nd l B).1 2)).1=0∧(kerS g (nd l A) K (rd (0:Int) (nd l B).1 2)).2.1=(nd l B).1:=fun g hg hd=>by
  have eg:=hd.trans dT1
  have e2:[rd (0:Int) g.1 0,rd (0:Int) (nd l A).1 0,rd (0:Int) (nd l B).1 2]=(nd l B).1:=by
   rw [eg]
   show [rd (0:Int) (nd l B).1 0,rd (0:Int) (nd l A).1 0,rd (0:Int) (nd l B).1 2]=(nd l B).1
   rw [← f3];exact eB.symm
  unfold kerS
  rw [if_pos (show Gs g (nd l A) K (rd (0:Int) (nd l B).1 2) from ⟨hg.1,gA.1,s1,s64,w3,W4⟩),
   if_pos (show J3 g (nd l A) K (rd (0:Int) (nd l B).1 2) from ⟨by rw [eg];rfl,f1,f4,by rw [eg];rfl⟩),if_pos (by rw [e2];exact pB)]
  exact ⟨rfl,e2⟩
 have gbin:∀ g,F9 g→g.1=(nd l i).1→F9 (binS g (nd l B) K (rd (0:Int) (nd l A).1 1)).2:=fun g hg hd=>by
  obtain ⟨z1,z2⟩:=k1 g hg hd
  have eg:=hd.trans dT1
  have e2:[rd (0:Int) (nd l B).1 1,rd (0:Int) (nd l A).1 1]=(nd l A).1:=by rw [f3];exact eA.symm
  unfold binS
  rw [if_pos (show Gs g (nd l B) K (rd (0:Int) (nd l A).1 1) from ⟨hg.1,gB.1,s1,s64,q2,L4⟩),
   if_pos (show Lj g (nd l B) K (rd (0:Int) (nd l A).1 1) from ⟨by rw [eg];rfl,f2,by rw [eg];rfl,f4,by rw [eg];rfl⟩),if_pos (by rw [e2];exact pA)]
  refine Le (by rw [e2];exact pA) ?_ (fun _ _=>Jh _)
  rw [toN2 (by rw [f3];exact q1) q2,e2,eA,q3,f3]
  rfl
 have gker:∀ g,F9 g→g.1=(nd l i).1→F9 (kerS g (nd l A) K (rd (0:Int) (nd l B).1 2)).2:=fun g hg hd=>by
  have eg:=hd.trans dT1
  have e2:[rd (0:Int) g.1 0,rd (0:Int) (nd l A).1 0,rd (0:Int) (nd l B).1 2]=(nd l B).1:=by
   rw [eg]
   show [rd (0:Int) (nd l B).1 0,rd (0:Int) (nd l A).1 0,rd (0:Int) (nd l B).1 2]=(nd l B).1
   rw [← f3];exact eB.symm
  have eg0:rd (0:Int) g.1 0=rd (0:Int) (nd l B).1 0:=by rw [eg];rfl
  unfold kerS
  rw [if_pos (show Gs g (nd l A) K (rd (0:Int) (nd l B).1 2) from ⟨hg.1,gA.1,s1,s64,w3,W4⟩),
   if_pos (show J3 g (nd l A) K (rd (0:Int) (nd l B).1 2) from ⟨by rw [eg];rfl,f1,f4,by rw [eg];rfl⟩),if_pos (by rw [e2];exact pB)]
  refine Le (by rw [e2];exact pB) ?_ (fun _ _=>Jh _)
  rw [Int.natCast_mul,toN2 q1 w3,Int.toNat_of_nonneg (by omega),eg0,← f3,← w4]
 refine ⟨fun g=>(binS g (nd l B) K (rd (0:Int) (nd l A).1 1)).2,fun g=>(kerS g (nd l A) K (rd (0:Int) (nd l B).1 2)).2,⟨fun g hg hd=>?_,fun g hg hd=>?_,fun g hg hd _=>?_,fun g hg hd _=>?_⟩,fun h3=>absurd (h.symm.trans h3) (by decide),fun _=>by omega,fun _ g hg hd=>?_⟩
 ·unfold f30 f30_j1
  rw [h,ha,hb,hk,G7 l A (by omega),G7 l B (by omega)]
  have e:f79 (g.1,g.2) ((nd l B).1,(nd l B).2) K (rd (0:Int) (nd l A).1 1)=some (binS g (nd l B) K (rd (0:Int) (nd l A).1 1)):=binP g (nd l B) K _ hg.2 gB.2
  show E9 (0≤(1:Int)∧(1:Int)<(List.length (nd l A).1:Int)) (Ey (f79 (g.1,g.2) ((nd l B).1,(nd l B).2) K (rd (0:Int) (nd l A).1 1)) _)=_
  rw [D4,e,Bh,(k1 g hg hd).1]
 ·unfold f31
  rw [h,ha,hb,hk,G7 l A (by omega),G7 l B (by omega)]
  have e:f82 (g.1,g.2) ((nd l A).1,(nd l A).2) K (rd (0:Int) (nd l B).1 2)=some (kerS g (nd l A) K (rd (0:Int) (nd l B).1 2)):=kerP g (nd l A) K _ hg.2 gA.2
  show E9 (0≤(2:Int)∧(2:Int)<(List.length (nd l B).1:Int)) (Ey (f82 (g.1,g.2) ((nd l A).1,(nd l A).2) K (rd (0:Int) (nd l B).1 2)) _)=_
  rw [D4,e,Bh,(k2 g hg hd).1]
 ·rw [ha,Int.toNat_natCast]
  exact ⟨by omega,gbin g hg hd,(k1 g hg hd).2⟩
 ·rw [hb,Int.toNat_natCast]
  exact ⟨by omega,gker g hg hd,(k2 g hg hd).2⟩
 ·refine K2 l i A h1 ha hA gA gT 12 h (by decide) (by omega) g hg hd _ (.inr (.inr (.inr (.inl rfl)))) ?_
  have e:rd (Ty.z (.p (.int .i64) (.p (.int .i64) (.p (.int .i64) (.p (.int .i64) (.p (.sl (.int .i64)) (.sl (.int .i64)))))))) l (i:Int)=gn l i:=rfl
  have eAl:(rd (Ty.z (.p (.int .i64) (.p (.int .i64) (.p (.int .i64) (.p (.int .i64) (.p (.sl (.int .i64)) (.sl (.int .i64)))))))) l (A:Int)).2.2.2.2=nd l A:=rfl
  have eI:f43 (g.1,g.2) ((nd l B).1,(nd l B).2) K (rd (0:Int) (nd l A).1 1)=some (binS g (nd l B) K (rd (0:Int) (nd l A).1 1)):=binR g (nd l B) K _ hg.2 gB.2
  have eK:f44 (g.1,g.2) ((nd l A).1,(nd l A).2) K (rd (0:Int) (nd l B).1 2)=some (kerS g (nd l A) K (rd (0:Int) (nd l B).1 2)):=kerR g (nd l A) K _ hg.2 gA.2
  have j6:f13_j6 l (i:Int) g (nd l B)=some (binS g (nd l B) K (rd (0:Int) (nd l A).1 1)).2:=by
   unfold f13_j6
   rw [e,ha,hk,eAl,D4,eI];rfl
  have j7:f13_j7 l (i:Int) g (nd l B)=some (kerS g (nd l A) K (rd (0:Int) (nd l B).1 2)).2:=by
   unfold f13_j7
   rw [e,ha,hk,eAl,D4,eK];rfl
  rw [if_neg (by decide),if_neg (by decide),if_neg (by decide),if_pos rfl,hb,G7 l B (by omega),j6,Bh,j7,Bh]
end
def GL (l:List Nd):Prop:=∀ i,i<l.length→F9 (nd l i)
theorem gl_nil:GL []:=fun i h=>absurd h (by simp)
theorem gl_push {l:List Nd} (G:GL l) (n:Nd) (h:F9 n.2.2.2.2):GL (l++[n]):=fun i hi=>by
 by_cases e:i<l.length
 ·rw [nd_app _ _ _ e];exact G i e
 ·have:i=l.length:=by simp at hi;omega
  subst this
  rw [nd_last];exact h
def PN (l:List Nd) (n:Nd):Prop:=
 (n.1=1∧n.2.1=-1∧n.2.2.1=-1)∨
 (∃ (A B:Nat) (k:Int),n.2.1=A∧n.2.2.1=B∧n.2.2.2.1=cntK n.1 k∧A<l.length∧B<l.length∧Ks n.1=true∧f52 n.1 (nd l A) (nd l B) k=some (0,n.2.2.2.2))∨
 ∃ (A:Nat) (k:Int),n.2.1=A∧n.2.2.1=-1∧n.2.2.2.1=cntK n.1 k∧A<l.length∧2≤n.1∧n.1≤14∧Ks n.1=false∧InR k∧f53 n.1 (nd l A) k=some (0,n.2.2.2.2)
def PL (l:List Nd):Prop:=GL l∧∀ i,i<l.length→PN (l.take i) (gn l i)
theorem pl_nil:PL []:=⟨gl_nil,fun i h=>absurd h (by simp)⟩
theorem pl_push {l:List Nd} (P:PL l) (n:Nd) (h:F9 n.2.2.2.2) (hn:PN l n):PL (l++[n]):=by
 refine ⟨gl_push P.1 n h,fun i hi=>?_⟩
 by_cases e:i<l.length
 ·rw [gn_app _ _ _ e,List.take_append_of_le_length (by omega)];exact P.2 i e
 ·have:i=l.length:=by simp at hi;omega
  subst this
  rw [gn_last,List.take_append_of_le_length (Nat.le_refl _),List.take_length];exact hn
theorem nd_take (l:List Nd) (i j:Nat) (h:j<i) (hi:i≤l.length):nd (l.take i) j=nd l j:=by
 unfold nd
 rw [Gi _ _ _ (by rw [List.length_take];omega),Gi _ _ _ (by omega),List.getElem_take]
def Says2 (p q:Option (Int×Int×List Nd)) (l:List Nd):Prop:=∃ i e m,p=some (i,e,m)∧q=some (i,e,m)∧PL m∧m.length≤l.length+1
theorem says_leaf2 (l:List Nd) (x:Tn) (hl:l.length<512) (P:PL l) (ix:inI x.2):Says2 (f15 l x) (f18 l x) l:=by
 by_cases g:Ft x=true
 ·exact ⟨_,_,_,leaf_ok l x hl g,leafR l x hl g,pl_push P _ ⟨g,ix⟩ (.inl ⟨rfl,rfl,rfl⟩),by simp⟩
 ·refine ⟨0,1,l,?_,?_,P,by omega⟩
  ·unfold f15
   have e:f28 (x.1,x.2)=some (Ft x):=F4 x
   rw [dF,cond_false,e,show Ft x=false by simpa using g];rfl
  ·unfold f18
   have e:f32 (x.1,x.2)=some (Ft x):=isR x
   rw [dF,cond_false,e,show Ft x=false by simpa using g];rfl
theorem says_do2 (l:List Nd) (op a b k:Int) (hl:l.length<512) (P:PL l) (hk:InR k):Says2 (f17 l op a b k) (f19 l op a b k) l:=by
 have G:=P.1
 by_cases c:2≤op∧op≤14∧0≤a∧a<l.length∧(Ks op=true→0≤b∧b<l.length)
 ·obtain ⟨o1,o2,a0,a1,hb⟩:=c
  obtain ⟨A,rfl⟩:=Int.eq_ofNat_of_zero_le a0
  have hA:A<l.length:=by omega
  have hj1P:f17_j1 l op A b=some (Sum.inl l):=by
   unfold f17_j1
   rw [dF,dF,dF,hasP,dT (show 0≤(A:Int)∧(A:Int)<l.length by omega),two_ok]
   simp only [cond_false,Bh,Bool.not_true]
   cases ht:Ks op
   ·rfl
   ·rw [cond_true,hasP,dT (hb ht)];rfl
  have hj1R:f19_j1 l op A b=some (Sum.inl ()):=by
   unfold f19_j1
   rw [dF,dF,dF,dF,twoR]
   simp only [cond_false,Bh]
   cases ht:Ks op
   ·rfl
   ·have:=hb ht
    rw [dF,dF];rfl
  have gA:0≤(A:Int)∧(A:Int)<(l.length:Int):=by omega
  have main:∃ (r:Int×Tn) (bn:Int) (B:Tn),f17_j3 op A b k l=some (r.1,bn,r.2.1,r.2.2)∧f19_j2 l op b=some (bn,B)∧f19_j4 l op A (bn,B) (cntK op k)=some r∧(r.1=0→F9 r.2∧((Ks op=true∧∃ B':Nat,bn=B'∧B' < l.length∧f52 op (nd l A) (nd l B') k=some r)∨(Ks op=false∧bn=-1∧f53 op (nd l A) k=some r))):=by
   cases ht:Ks op
   ·obtain ⟨r,e1,e2,e3⟩:=one_ok op (nd l A) k hk o1 o2 ht (G A hA)
    have e1':=e1
    refine ⟨r,-1,noT,?_,?_,?_,fun h0=>⟨e3 h0,.inr ⟨rfl,rfl,e1'⟩⟩⟩
    ·unfold f17_j3
     unfold nd at e1
     rw [two_ok,ht,Bh,cond_false,D4 gA,e1];rfl
    ·unfold f19_j2
     rw [twoR,ht];rfl
    ·unfold f19_j4
     have e:f56 op ((rd (Ty.z (.p (.int .i64) (.p (.int .i64) (.p (.int .i64) (.p (.int .i64) (.p (.sl (.int .i64)) (.sl (.int .i64)))))))) l (A:Int)).2.2.2.2.1,(rd (Ty.z (.p (.int .i64) (.p (.int .i64) (.p (.int .i64) (.p (.int .i64) (.p (.sl (.int .i64)) (.sl (.int .i64)))))))) l (A:Int)).2.2.2.2.2) (((-1:Int),noT).2.1,((-1:Int),noT).2.2) (cntK op k)=some r:=e2
     rw [D4 gA,e];rfl
   ·have gB:=hb ht
    obtain ⟨B,rfl⟩:=Int.eq_ofNat_of_zero_le gB.1
    have hB:B<l.length:=by omega
    obtain ⟨r,e1,e2,e3⟩:=pair_ok op (nd l A) (nd l B) k ht (G A hA) (G B hB)
    have e1':=e1
    refine ⟨r,(B:Int),nd l B,?_,?_,?_,fun h0=>⟨e3 h0,.inl ⟨rfl,B,rfl,hB,e1'⟩⟩⟩
    ·unfold f17_j3
     unfold nd at e1
     rw [two_ok,ht,Bh,cond_true,D4 gA,D4 gB,e1];rfl
    ·unfold f19_j2
     rw [twoR,ht,Bh,cond_true,D4 gB];rfl
    ·unfold f19_j4
     have e:f56 op ((rd (Ty.z (.p (.int .i64) (.p (.int .i64) (.p (.int .i64) (.p (.int .i64) (.p (.sl (.int .i64)) (.sl (.int .i64)))))))) l (A:Int)).2.2.2.2.1,(rd (Ty.z (.p (.int .i64) (.p (.int .i64) (.p (.int .i64) (.p (.int .i64) (.p (.sl (.int .i64)) (.sl (.int .i64)))))))) l (A:Int)).2.2.2.2.2) (((B:Int),nd l B).2.1,((B:Int),nd l B).2.2) (cntK op k)=some r:=e2
     rw [D4 gA,e];rfl
  obtain ⟨r,bn,B,m1,m2,m3,m4⟩:=main
  unfold Says2 f17 f19
  rw [hj1P,Bh,Fq,cnt_ok,Bh,m1,Bh,dF,cond_false,hj1R,Bh,Fq,m2,Bh,cntR,Bh,m3,Bh]
  by_cases er:r.1=0
  ·have h3:∀ x:Nd,(l.length+List.length [x])*80≤140737488355328:=fun x=>by simp only [List.length_cons,List.length_nil];omega
   refine ⟨(l.length:Int),0,l++[(op,(A:Int),bn,cntK op k,r.2.1,r.2.2)],?_,?_,pl_push P _ (m4 er).1 ?_,by simp⟩
   ·rw [nF er,cond_false,push_ok _ _ hl];rfl
   ·rw [nF er,cond_false,D4 (h3 _),List.length_append,Fl (by simp <;> omega) (by simp <;> omega)]
    simp
   ·rcases (m4 er).2 with ⟨t1,B',t2,t3,t4⟩ | ⟨t1,t2,t3⟩
    ·exact .inr (.inl ⟨A,B',k,rfl,t2,rfl,hA,t3,t1,by rw [t4];exact congrArg some (Prod.ext er rfl)⟩)
    ·exact .inr (.inr ⟨A,k,rfl,t2,rfl,hA,o1,o2,t1,hk,by rw [t3];exact congrArg some (Prod.ext er rfl)⟩)
  ·refine ⟨0,r.1,l,?_,?_,P,by omega⟩
   ·rw [nT er];rfl
   ·rw [nT er];rfl
 ·refine ⟨0,1,l,?_,?_,P,by omega⟩
  ·have hj1P:f17_j1 l op a b=some (Sum.inr (1,l)):=by
    unfold f17_j1
    rw [dF,cond_false]
    by_cases c1:op<2
    ·rw [dT c1];rfl
    rw [dF c1,cond_false]
    by_cases c2:op>14
    ·rw [dT c2];rfl
    rw [dF c2,cond_false,hasP,Bh]
    by_cases c3:0≤a∧a<l.length
    ·rw [dT c3,Bool.not_true,cond_false,two_ok,Bh]
     cases ht:Ks op
     ·exact absurd ⟨by omega,by omega,c3.1,c3.2,fun h=>absurd (ht.symm.trans h) (by decide)⟩ c
     ·rw [cond_true,hasP,Bh]
      by_cases c4:0≤b∧b<l.length
      ·exact absurd ⟨by omega,by omega,c3.1,c3.2,fun _=>c4⟩ c
      ·rw [dF c4];rfl
    ·rw [dF c3];rfl
   unfold f17
   rw [hj1P];rfl
  ·have hj1R:f19_j1 l op a b=some (Sum.inr ()):=by
    unfold f19_j1
    by_cases c1:op<2
    ·rw [dT c1];rfl
    rw [dF c1,cond_false]
    by_cases c2:op>14
    ·rw [dT c2];rfl
    rw [dF c2,cond_false]
    by_cases c3:a<0
    ·rw [dT c3];rfl
    rw [dF c3,cond_false]
    by_cases c5:a≥l.length
    ·rw [dT c5];rfl
    rw [dF c5,cond_false,twoR,Bh]
    cases ht:Ks op
    ·exact absurd ⟨by omega,by omega,by omega,by omega,fun h=>absurd (ht.symm.trans h) (by decide)⟩ c
    ·rw [cond_true]
     by_cases c4:b<0
     ·rw [dT c4];rfl
     rw [dF c4,cond_false]
     by_cases c6:b≥l.length
     ·rw [dT c6];rfl
     exact absurd ⟨by omega,by omega,by omega,by omega,fun _=>by omega⟩ c
   unfold f19
   rw [dF,cond_false,hj1R];rfl
theorem jn_fits {a b d:List Int} (J:Joined a b d):Fits a d∧Fits b d:=by
 have hl:=J.len
 refine ⟨⟨J.pa,J.pd,by omega,fun k hk h=>?_⟩,⟨J.pb,J.pd,by omega,fun k hk h=>?_⟩⟩
 ·have h1:=J.le k (by omega)
  have h2:=J.ok k (by omega)
  have h3:=Gv J.pb k
  omega
 ·have h1:=J.le k (by omega)
  have h2:=J.ok k (by omega)
  have h3:=Gv J.pa k
  omega
theorem both_fits {f:Int→Int→Int} {a b t:Tn} (h:Jz f a b=(0,t)):Fits a.1 t.1∧Fits b.1 t.1:=by
 unfold Jz at h
 by_cases c:Ft a=true∧Ft b=true
 ·rw [if_pos c] at h
  by_cases e:(jS a.1 b.1).1=0
  ·rw [if_pos e] at h
   have J:=jn_fits (jS_zero e)
   have:(jS a.1 b.1).2=t.1:=congrArg (fun x=>x.2.1) h
   rw [this] at J
   exact J
  ·rw [if_neg e] at h;exact absurd (show (jS a.1 b.1).1=0 from congrArg Prod.fst h) e
 ·rw [if_neg c] at h;exact absurd (show (1:Int)=0 from congrArg Prod.fst h) (by decide)
theorem pn_both (l:List Nd) (P:PL l) (i:Nat) (hi:i<l.length):Bth l i:=by
 have G:=P.1
 have gT:=G i hi
 have ht:(l.take i).length=i:=by rw [List.length_take];omega
 rcases P.2 i hi with ⟨h,ha,hb⟩ | ⟨A,B,k,ha,hb,hk,hA,hB,h2,hp⟩ | ⟨A,k,ha,hb,hk,hA,o1,o2,h2,ik,hp⟩
 ·exact ⟨_,_,ok_leaf l i h ha hb,r_leaf l i h ha hb⟩
 ·rw [ht] at hA hB
  rw [nd_take l i A hA (by omega),nd_take l i B hB (by omega)] at hp
  have gA:=G A (by omega)
  have gB:=G B (by omega)
  have ho:(gn l i).1=2∨(gn l i).1=3∨(gn l i).1=4∨(gn l i).1=6∨(gn l i).1=12:=by unfold Ks at h2;exact of_decide_eq_true h2
  rcases ho with h | h | h | h | h <;> rw [h] at hp hk
  ·have e:f52 2 (nd l A) (nd l B) k=some (Jz addV (nd l A) (nd l B)):=by
    show Ey (f61 (nd l A) (nd l B)) _=_
    rw [addP _ _ gA.2 gB.2];rfl
   rw [e] at hp
   injection hp with hp
   obtain ⟨FA,FB⟩:=both_fits hp
   exact ⟨_,_,ok_add l i A B h ha hb hA hB hi FA FB,r_add l i A B h ha hb hA hB hi FA FB⟩
  ·have e:f52 3 (nd l A) (nd l B) k=some (Jz subV (nd l A) (nd l B)):=by
    show Ey (f93 (nd l A) (nd l B)) _=_
    rw [subP _ _ gA.2 gB.2];rfl
   rw [e] at hp
   injection hp with hp
   obtain ⟨FA,FB⟩:=both_fits hp
   exact ⟨_,_,ok_sub l i A B h ha hb hA hB hi FA FB,r_sub l i A B h ha hb hA hB hi FA FB⟩
  ·have e:f52 4 (nd l A) (nd l B) k=some (Jz Li (nd l A) (nd l B)):=by
    show Ey (f70 (nd l A) (nd l B)) _=_
    rw [mulP _ _ gA.2 gB.2];rfl
   rw [e] at hp
   injection hp with hp
   obtain ⟨FA,FB⟩:=both_fits hp
   exact ⟨_,_,ok_mul l i A B h ha hb hA hB hi gA gB FA FB,r_mul l i A B h ha hb hA hB hi gA gB FA FB⟩
  ·have e:f52 6 (nd l A) (nd l B) k=some (mmS (nd l A) (nd l B)):=by
    show Ey (f94 (nd l A) (nd l B)) _=_
    rw [mmP _ _ gA.2 gB.2];rfl
   rw [e] at hp
   injection hp with hp
   exact b_mm l i A hi ha hA gA gT B hb hB gB h hp
  ·have e:f52 12 (nd l A) (nd l B) k=some (rowS (nd l A) (nd l B) k):=by
    show Ey (f95 (nd l A) (nd l B) k) _=_
    rw [rowP _ _ _ gA.2 gB.2];rfl
   rw [e] at hp
   injection hp with hp
   exact b_row l i A hi ha hA gA gT B hb hB gB k h hk hp
 ·rw [ht] at hA
  rw [nd_take l i A hA (by omega)] at hp
  have gA:=G A (by omega)
  have h1:¬((gn l i).1=2∨(gn l i).1=3∨(gn l i).1=4∨(gn l i).1=6∨(gn l i).1=12):=by unfold Ks at h2;exact of_decide_eq_false h2
  have ho:(gn l i).1=5∨(gn l i).1=7∨(gn l i).1=8∨(gn l i).1=9∨(gn l i).1=10∨(gn l i).1=11∨(gn l i).1=13∨(gn l i).1=14:=by omega
  rcases ho with h | h | h | h | h | h | h | h <;> rw [h] at hp hk
  ·have e:f53 5 (nd l A) k=some (scaleS (nd l A) k):=by
    show Ey (f72 (nd l A) k) _=_
    rw [scaleP _ _ gA.2 ik];rfl
   rw [e] at hp
   injection hp with hp
   have hd:(nd l A).1=(nd l i).1:=by
    unfold scaleS at hp
    rw [if_pos gA.1] at hp
    exact congrArg (fun x=>x.2.1) hp
   exact ⟨_,_,ok_scale l i A k h ha hb hk hA hi ik hd,r_scale l i A k h ha hb hk hA hi ik hd⟩
  ·have e:f53 7 (nd l A) k=some (flS (nd l A)):=by
    show Ey (f74 (nd l A)) _=_
    rw [flP];rfl
   rw [e] at hp
   injection hp with hp
   exact b_flip l i A hi ha hA gA gT h hb hp
  ·have e:f53 8 (nd l A) k=some (sideS (nd l A) k):=by
    show Ey (f96 (nd l A) k) _=_
    rw [sideP _ _ gA.2];rfl
   rw [e] at hp
   injection hp with hp
   exact b_sum l i A hi ha hA gA gT k h hb hk hp
  ·have e:f53 9 (nd l A) k=some (0,[],[sat (sumL (nd l A).2)]):=by
    show Ey (f98 (nd l A)) _=_
    rw [allP _ gA.2 gA.1,Bh]
    simp only
    rw [single_go];rfl
   rw [e] at hp
   injection hp with hp
   have hd:(nd l i).1=[]:=(congrArg (fun x=>x.2.1) hp).symm
   exact ⟨_,_,ok_all l i A h ha hb hA hi gA hd,r_all l i A h ha hb hA hi gA hd⟩
  ·have e:f53 10 (nd l A) k=some (0,[],[sat (rdI (sumL (nd l A).2) (nd l A).2.length)]):=by
    show Ey (f99 (nd l A)) _=_
    rw [meanP _ gA.2 gA.1,Bh]
    simp only
    rw [single_go];rfl
   rw [e] at hp
   injection hp with hp
   have hd:(nd l i).1=[]:=(congrArg (fun x=>x.2.1) hp).symm
   exact ⟨_,_,ok_mean l i A h ha hb hA hi gA hd,r_mean l i A h ha hb hA hi gA hd⟩
  ·have e:f53 11 (nd l A) k=some (bentS k (nd l A)):=by
    show Ey (f100 k (nd l A)) _=_
    rw [bentP _ _ gA.2];rfl
   rw [e] at hp
   injection hp with hp
   have hd:(1≤k∧k≤5)∧(nd l A).1=(nd l i).1:=by
    unfold bentS at hp
    by_cases c:1≤k∧k≤5∧Ft (nd l A)=true
    ·rw [if_pos c] at hp;exact ⟨⟨c.1,c.2.1⟩,congrArg (fun x=>x.2.1) hp⟩
    ·rw [if_neg c] at hp;exact absurd (show (1:Int)=0 from congrArg Prod.fst hp) (by decide)
   exact ⟨_,_,ok_bend l i A k h ha hb hk hd.1.1 hd.1.2 hA hi gA hd.2,r_bend l i A k h ha hb hk hd.1.1 hd.1.2 hA hi gA hd.2⟩
  ·have e:f53 13 (nd l A) k=some ((G2 (nd l A) k).1,(G2 (nd l A) k).2.1,(G2 (nd l A) k).2.2.1):=by
    show Ey (f101 (nd l A) k) _=_
    rw [poolP];rfl
   rw [e] at hp
   injection hp with hp
   exact b_pool l i A hi ha hA gA gT k h hb hk ⟨congrArg Prod.fst hp,(congrArg (fun x=>x.2.1) hp).symm⟩
  ·have e:f53 14 (nd l A) k=some (reshS (nd l A) [((nd l A).2.length:Int)]):=by
    show Ey (f81 (nd l A) [((nd l A).2.length:Int)]) _=_
    rw [reshP];rfl
   rw [e] at hp
   injection hp with hp
   exact b_shape l i A hi ha hA gA gT h hb hp
end Go.Proofs.Cv
namespace Go.Proofs.PlG
open Go.AM Go.Proofs.PlW
theorem range_i64 {x:Int} (h:Ty.wf (.int .i64) x) : -9223372036854775808≤x∧x<9223372036854775808:=by
 have h:(Lit.int .i64 x).wf=true:=h
 simp only [Lit.wf,IntKind.min,IntKind.max,IntKind.signed,IntKind.bits,Bool.and_eq_true,decide_eq_true_eq,if_true] at h
 omega
theorem row_i64 {l:List Int} (h:Ty.wf (.sl (.int .i64)) l):inI l:=fun x hx=>range_i64 (h.2 x hx)
end Go.Proofs.PlG
namespace Go.Proofs.Cv
open Go.AM Go.Proofs.PlB Go.Proofs.PlW Go.Proofs.PlT Go.Proofs.PlS Go.Proofs.Sh Go.Proofs.Num Go.Proofs.Div Go.Proofs.Op
open Go.Proofs.PlR hiding Tn
theorem total_go11 (T:List Nd) (hl:T.length≤512):∃ n,f20 T=some (n,T):=by
 unfold f20
 obtain ⟨z,e,_⟩:=Kv (B:=fun go (x:Int×Int)=>f20_l1 T go x.1 x.2) (fun k x=>x.2=(k:Int)) (fun _=>True) T.length ((0:Int),(0:Int)) rfl (by
  rintro k hk ⟨n,_⟩ rfl
  refine ⟨(IntKind.i64.wrap (n+(List.length (nd T k).2:Int)),((k+1:Nat):Int)),fun go=>?_,rfl⟩
  have g:0≤(k:Int)∧(k:Int)<(T.length:Int):=by omega
  unfold f20_l1
  simp only
  rw [dT,cond_true,D4 g,Gr k]
  rfl) (by
  rintro ⟨n,_⟩ rfl
  refine ⟨n,fun go=>?_,trivial⟩
  unfold f20_l1
  simp only
  rw [dF,cond_false]) (by omega)
 exact ⟨z,by rw [e];rfl⟩
theorem small_go11 (l:List Nd) (m:Int) (hm:m≤40):∃ b,f6 l m=some b∧(b=true→l.length≤40):=by
 unfold f6
 by_cases h:(l.length:Int)>m
 ·exact ⟨false,by rw [dT h];rfl,fun h=>absurd h (by decide)⟩
 ·rw [dF h,cond_false]
  obtain ⟨z,e,_⟩:=Gb (B:=fun go (x:Int)=>f6_l1 l go x) (fun x=>0≤x∧x≤l.length) (fun x=>((l.length:Int)-x).toNat) (fun _=>True) (by
   rintro x ⟨x0,x1⟩
   by_cases hx:x<l.length
   ·have g:0≤x∧x<(l.length:Int):=⟨x0,hx⟩
    have step:∃ p q:Bool,∀ go,f6_l1 l go x=bif p then some (Sum.inl ()) else bif q then some (Sum.inl ()) else go (x+1):=by
     refine ⟨decide ((List.length (rd (Ty.z (.p (.int .i64) (.p (.int .i64) (.p (.int .i64) (.p (.int .i64) (.p (.sl (.int .i64)) (.sl (.int .i64)))))))) l x).2.2.2.2.1:Int)>10),decide ((List.length (rd (Ty.z (.p (.int .i64) (.p (.int .i64) (.p (.int .i64) (.p (.int .i64) (.p (.sl (.int .i64)) (.sl (.int .i64)))))))) l x).2.2.2.2.2:Int)>60),fun go=>?_⟩
     unfold f6_l1
     rw [dT hx,cond_true,D4 g,D4 g,Fl]
    obtain ⟨p,q,step⟩:=step
    cases p
    ·cases q
     ·right
      exact ⟨x+1,fun go=>step go,⟨by omega,by omega⟩,by omega⟩
     ·left;exact ⟨_,fun go=>step go,trivial⟩
    ·left;exact ⟨_,fun go=>step go,trivial⟩
   ·left
    refine ⟨Sum.inr (),fun go=>?_,trivial⟩
    unfold f6_l1
    rw [dF hx];rfl) (0:Int) ⟨by omega,by omega⟩ (by omega)
  rw [e,Bh]
  cases z
  ·exact ⟨_,rfl,fun _=>by omega⟩
  ·exact ⟨_,rfl,fun _=>by omega⟩
theorem played_go11 (l:List Nd) (hl:l.length≤40) (hs:∀ i,i<l.length→InR (gn l i).2.2.2.1∧inI (gn l i).2.2.2.2.2):∃ T,f7 l=some (Sum.inr (T,T))∧PL T∧T.length≤40:=by
 unfold f7
 obtain ⟨z,e,T,rfl,G,hT⟩:=Gb (B:=fun go (x:Int×List Nd×List Nd)=>f7_l9 l go x.1 x.2.1 x.2.2) (fun x=>∃ (i:Nat) (T:List Nd),x=((i:Int),T,T)∧i≤l.length∧PL T∧T.length≤i) (fun x=>((l.length:Int)-x.1).toNat)
  (fun z=>∃ T,z=Sum.inr (T,T)∧PL T∧T.length≤40) (by
  rintro _ ⟨i,T,rfl,hi,G,hT⟩
  by_cases h:i<l.length
  ·have g:0≤(i:Int)∧(i:Int)<(l.length:Int):=by omega
   obtain ⟨q1,q2⟩:=hs i h
   have S:∃ a e m,f7_j10 l (i:Int) T T=some (a,e,a,e,m,m)∧PL m∧m.length≤T.length+1:=by
    unfold f7_j10
    have eN:rd (Ty.z (.p (.int .i64) (.p (.int .i64) (.p (.int .i64) (.p (.int .i64) (.p (.sl (.int .i64)) (.sl (.int .i64)))))))) l (i:Int)=gn l i:=rfl
    rw [eN]
    by_cases o:(gn l i).1=1
    ·obtain ⟨a,e,m,e1,e2,e3,e4⟩:=says_leaf2 T ((gn l i).2.2.2.2.1,(gn l i).2.2.2.2.2) (by omega) G q2
     rw [bT o,cond_true,e1,Bh,e2]
     exact ⟨a,e,m,rfl,e3,e4⟩
    ·obtain ⟨a,e,m,e1,e2,e3,e4⟩:=says_do2 T (gn l i).1 (gn l i).2.1 (gn l i).2.2.1 (gn l i).2.2.2.1 (by omega) G q1
     rw [bF o,cond_false,e1,Bh,e2]
     exact ⟨a,e,m,rfl,e3,e4⟩
   obtain ⟨a,e,m,e1,e3,e4⟩:=S
   obtain ⟨n,en⟩:=total_go11 m (by omega)
   have ej:f7_j12 (a,e,a,e,m,m)=some (Sum.inl ()):=by
    unfold f7_j12 f7_j13
    rw [nF rfl,cond_false,nF rfl];rfl
   have step:∀ go,f7_l9 l go (i:Int) T T=bif decide (n>4000) then some (Sum.inr (m,m)) else go (((i+1:Nat):Int),m,m):=fun go=>by
    unfold f7_l9
    rw [dT,cond_true,D4 g,e1,Bh,ej,Bh,Fq]
    simp only
    rw [en,Bh]
    simp only
    rw [Gr i]
   by_cases hn:n>4000
   ·left
    exact ⟨Sum.inr (m,m),fun go=>by rw [step go,dT hn];rfl,m,rfl,e3,by omega⟩
   ·right
    exact ⟨(((i+1:Nat):Int),m,m),fun go=>by rw [step go,dF hn];rfl,⟨i+1,m,rfl,by omega,e3,by omega⟩,by simp only;omega⟩
  ·left
   refine ⟨Sum.inr (T,T),fun go=>?_,T,rfl,G,by omega⟩
   unfold f7_l9
   simp only
   rw [dF,cond_false]) ((0:Int),[],[]) ⟨0,[],rfl,Nat.zero_le _,pl_nil,by simp⟩ (by simp only;omega)
 refine ⟨T,?_,G,hT⟩
 rw [show f14=some () from rfl,Bh,e];rfl
theorem rd_ty11 {l:List Nd} (w:Ty.wf (.sl (.p (.int .i64) (.p (.int .i64) (.p (.int .i64) (.p (.int .i64) (.p (.sl (.int .i64)) (.sl (.int .i64)))))))) l):∀ i,i<l.length→InR (gn l i).2.2.2.1∧inI (gn l i).2.2.2.2.2:=by
 refine fun i hi=>?_
 ·have e:gn l i=l[i]:=Gi _ _ _ hi
  have h:=w.2 _ (List.getElem_mem hi)
  rw [← e] at h
  exact ⟨PlG.range_i64 h.2.2.2.1,PlG.row_i64 h.2.2.2.2.2⟩
theorem awake11:f5=some true:=by kernel_rfl
theorem two_none (n:Nd) (a b g t:Tn) (h:Ks n.1=false) (e:f31 n a b g=some (0,t)):t=noT:=by
 have h1:¬(n.1=2∨n.1=3∨n.1=4∨n.1=6∨n.1=12):=by unfold Ks at h;exact of_decide_eq_false h
 unfold f31 at e
 rw [bF (by omega),cond_false,bF (by omega),cond_false,bF (by omega),cond_false,bF (by omega),cond_false,bF (by omega),cond_false] at e
 injection e with e
 exact (congrArg Prod.snd e).symm
theorem alike_go (t:Tn) (h:t.1.length≤4096∧t.2.length≤4096):f10 (t.1,t.2) (t.1,t.2)=some true:=by
 have:=alikeR t t (by omega) (by omega)
 rw [dT rfl] at this;exact this
theorem good_sm {t:Tn} (h:F9 t):t.1.length≤4096∧t.2.length≤4096:=by
 obtain ⟨_,_,l1,l2⟩:=Fy h.1
 omega
theorem one_say (T:List Nd) (P:PL T) (n:Int) (g:Tn) (ig:inI g.2) (h4:g.1.length<4611686018427387904):∃ (e:Int) (ga gb:Tn),f12 T n g=some (e,ga.1,ga.2,gb.1,gb.2,T)∧f13 T n g=some (e,ga.1,ga.2,gb.1,gb.2,T)∧(ga.1.length≤4096∧ga.2.length≤4096)∧(gb.1.length≤4096∧gb.2.length≤4096):=by
 have G:=P.1
 have no:(noT.1.length≤4096∧noT.2.length≤4096):=⟨Nat.zero_le _,Nat.zero_le _⟩
 have badR:f13_j2 T n g=some (Sum.inr ())→f13 T n g=some (1,[],[],[],[],T):=fun h=>by
  unfold f13
  rw [h,Bh,Gh]
 by_cases h:0≤n∧n<T.length
 ·obtain ⟨i,rfl⟩:=Int.eq_ofNat_of_zero_le h.1
  have hi:i<T.length:=by omega
  by_cases hg:Ft g=true∧g.1=(nd T i).1
  ·obtain ⟨gg,hd⟩:=hg
   obtain ⟨ga,gb,N,R⟩:=pn_both T P i hi
   have hG:F9 g:=⟨gg,ig⟩
   have eA:=N.okFA g hG hd
   have eB:=N.okFB g hG hd
   have hP:=oneT T G i hi g _ _ gg hd eA eB
   by_cases h1:(gn T i).1=1
   ·have e1:ga g=noT:=by
     unfold f30 f30_j1 at eA
     rw [h1] at eA
     have eA':some ((0:Int),([]:List Int),([]:List Int))=some (0,ga g):=eA
     injection eA' with eA'
     exact (congrArg Prod.snd eA').symm
    have e2:gb g=noT:=two_none _ _ _ _ _ (by rw [h1];rfl) eB
    rw [e1,e2] at hP
    refine ⟨0,noT,noT,hP,?_,no,no⟩
    unfold f13
    have e:rd (Ty.z (.p (.int .i64) (.p (.int .i64) (.p (.int .i64) (.p (.int .i64) (.p (.sl (.int .i64)) (.sl (.int .i64)))))))) T (i:Int)=gn T i:=rfl
    rw [one_j2 T i hi g hG hd,Bh,Fq,D4 h,e,h1];rfl
   ·have hR:=R.rOne h1 g hG hd
    have hA:=R.rA0 h1
    obtain ⟨a1,a2,a3⟩:=N.okTA g hG hd hA
    refine ⟨0,ga g,gb g,hP,hR,good_sm a2,?_⟩
    by_cases hB:0≤(gn T i).2.2.1
    ·exact good_sm (N.okTB g hG hd hB).2.1
    ·have ht:Ks (gn T i).1=false:=by
      rcases P.2 i hi with ⟨q,_⟩ | ⟨A,B,k,_,qb,_⟩ | ⟨A,k,_,_,_,_,_,_,q,_⟩
      ·exact absurd q h1
      ·exact absurd (by rw [qb];exact Int.natCast_nonneg _) hB
      ·exact q
     rw [two_none _ _ _ _ _ ht eB];exact no
  ·refine ⟨1,noT,noT,?_,?_,no,no⟩
   ·unfold f12
    rw [atP T i hi (G i hi),Bh]
    have hj:f12_j2 g ((gn T i).1,(gn T i).2.1,(gn T i).2.2.1,(gn T i).2.2.2.1,true,(nd T i).1,(nd T i).2,T)=some (Sum.inr ()):=by
     unfold f12_j2 f12_j3
     simp only [Bool.not_true,cond_false]
     rw [show ((g.1,g.2):Tn)=g from rfl,F4,Bh]
     by_cases gg:Ft g=true
     ·rw [gg,Bool.not_true,cond_false,sameP _ _ h4,dF (fun hd=>hg ⟨gg,hd⟩)];rfl
     ·rw [show Ft g=false by simpa using gg];rfl
    rw [hj,Bh,Gh]
   ·refine badR ?_
    unfold f13_j2 f13_j3
    rw [dF,cond_false,dF,cond_false]
    have e:f32 (g.1,g.2)=some (Ft g):=isR g
    rw [e,Bh]
    by_cases gg:Ft g=true
    ·have e2:f26 g.1 (rd (Ty.z (.p (.int .i64) (.p (.int .i64) (.p (.int .i64) (.p (.int .i64) (.p (.sl (.int .i64)) (.sl (.int .i64)))))))) T (i:Int)).2.2.2.2.1=some (decide (g.1=(nd T i).1)):=sameR _ _ h4
     rw [gg,Bool.not_true,cond_false,D4 h,e2,dF (fun hd=>hg ⟨gg,hd⟩)];rfl
    ·rw [show Ft g=false by simpa using gg];rfl
 ·refine ⟨1,noT,noT,?_,?_,no,no⟩
  ·unfold f12
   rw [atP_none T n h,Bh];rfl
  ·refine badR ?_
   unfold f13_j2 f13_j3
   by_cases h0:n<0
   ·rw [dT h0];rfl
   ·rw [dF h0,cond_false,dT];rfl
theorem fill_go (g:Tn) (ig:inI g.2) (N:Nat) (hN:N≤4096) (h6:g.2.length≤60):∃ v,Fp (fun go (x:Int×List Int)=>f4_l11 g go x.1 x.2) Fv ((0:Int),List.replicate N 0)=some v∧inI v:=by
 have LL:=Gb (B:=fun go (x:Int×List Int)=>f4_l11 g go x.1 x.2) (fun x=>∃ k:Nat,k≤N∧x.1=(k:Int)∧x.2.length=N∧inI x.2) (fun x=>((N:Int)-x.1).toNat)
  (fun z=>inI z) ?_ ((0:Int),List.replicate N (0:Int)) ⟨0,Nat.zero_le _,rfl,by simp,fun y hy=>by rw [(List.mem_replicate.1 hy).2];decide⟩ (by simp only;omega)
 ·exact LL
 ·rintro ⟨_,l⟩ ⟨k,hk,rfl,hl,il⟩
  simp only at hl il
  by_cases h:k<N∧g.2.length>0
  ·have e1:Int.tmod (k:Int) (List.length g.2:Int)=((k%g.2.length:Nat):Int):=by rw [Int.tmod_eq_emod_of_nonneg (Int.natCast_nonneg _),← Int.natCast_emod]
   have e2:k%g.2.length<g.2.length:=Nat.mod_lt _ h.2
   have ej:f4_j12 g (k:Int) l=some (Sum.inl ()):=by
    unfold f4_j12
    rw [dT,cond_true,dT];rfl
   refine .inr ⟨(((k+1:Nat):Int),List.set l k (rd (0:Int) g.2 ((k%g.2.length:Nat):Int))),fun go=>?_,⟨k+1,by omega,rfl,by simp only [List.length_set];exact hl,inI_set il _ _ (G9 ig _ e2)⟩,by simp only;omega⟩
   unfold f4_l11
   simp only
   rw [ej,Bh,Fq,D4,e1,D4,D4,Gr k,Int.toNat_natCast]
  ·have ej:f4_j12 g (k:Int) l=some (Sum.inr ()):=by
    unfold f4_j12
    by_cases h1:(k:Int)<(l.length:Int)
    ·rw [dT h1,cond_true,dF (fun hh=>h ⟨by omega,by omega⟩)];rfl
    ·rw [dF h1];rfl
   refine .inl ⟨l,fun go=>?_,il⟩
   unfold f4_l11
   simp only
   rw [ej,Bh,Gh]
theorem ones_j1 (l:List Nd) (g:Tn):(f4_j1 l g=some (Sum.inl ())∧l.length≤40∧g.1.length≤10∧g.2.length≤60)∨f4_j1 l g=some (Sum.inr ()):=by
 unfold f4_j1
 obtain ⟨b,eb,hb⟩:=small_go11 l 20 (by omega)
 rw [eb,Bh]
 cases b
 ·exact .inr rfl
 ·rw [Bool.not_true,cond_false]
  by_cases h1:(List.length g.1:Int)>10
  ·rw [dT h1];exact .inr rfl
  ·rw [dF h1,cond_false]
   by_cases h2:(List.length g.2:Int)>60
   ·rw [dT h2];exact .inr rfl
   ·rw [dF h2];exact .inl ⟨rfl,hb rfl,by omega,by omega⟩
theorem lawOnes (l:List Nd) (n:Int) (g:Tn) (fit:Bool) (w:Ty.wf (.sl (.p (.int .i64) (.p (.int .i64) (.p (.int .i64) (.p (.int .i64) (.p (.sl (.int .i64)) (.sl (.int .i64)))))))) l) (ig:inI g.2):f4 l n g fit=some true:=by
 unfold f4
 rw [awake11,Bh,Bool.not_true,cond_false]
 rcases ones_j1 l g with ⟨ej,hl,hg1,hg2⟩ | ej
 ·rw [ej,Bh,Fq]
  obtain ⟨T,eT,P,hT⟩:=played_go11 l hl (rd_ty11 w)
  rw [eT,Bh,Gh]
  have e7:∃ g',f4_j7 n g fit (T,T)=some g'∧inI g'.2∧g'.1.length≤10:=by
   unfold f4_j7
   have e8:∃ b,f4_j8 n fit (T,T)=some b∧(b=true→0≤n∧n<T.length):=by
    unfold f4_j8
    cases fit
    ·exact ⟨_,rfl,fun h=>absurd h (by decide)⟩
    ·rw [cond_true]
     by_cases h:n≥0
     ·rw [dT h,cond_true]
      exact ⟨_,rfl,fun hh=>⟨h,of_decide_eq_true hh⟩⟩
     ·rw [dF h];exact ⟨_,rfl,fun h=>absurd h (by decide)⟩
   obtain ⟨b,e8,hb⟩:=e8
   rw [e8,Bh]
   cases b
   ·exact ⟨g,rfl,ig,hg1⟩
   ·have hn:=hb rfl
    obtain ⟨i,rfl⟩:=Int.eq_ofNat_of_zero_le hn.1
    obtain ⟨p0,_,l4,_⟩:=Fy (P.1 i (by omega)).1
    have hr:=F2 (nd T i).1
    have eN:f11 (rd (Ty.z (.p (.int .i64) (.p (.int .i64) (.p (.int .i64) (.p (.int .i64) (.p (.sl (.int .i64)) (.sl (.int .i64)))))))) T (i:Int)).2.2.2.2.1 0=some ((nd T i).1,List.replicate (prd (nd T i).1).toNat 0):=newR (nd T i).1 0 p0
    obtain ⟨v,ev,iv⟩:=fill_go g ig (prd (nd T i).1).toNat (by omega) hg2
    rw [cond_true,D4 hn]
    simp only
    rw [eN,Bh]
    simp only
    rw [ev]
    exact ⟨_,rfl,iv,by simp only;omega⟩
  obtain ⟨g',e7,ig',l10⟩:=e7
  obtain ⟨e,ga,gb,s1,s2,b1,b2⟩:=one_say T P n g' ig' (by omega)
  have s1':f12 T n (g'.1,g'.2)=_:=s1
  have s2':f13 T n (g'.1,g'.2)=_:=s2
  rw [e7,Bh]
  simp only
  rw [s1',Bh,s2',Bh,bT rfl,cond_true]
  simp only
  rw [alike_go ga b1,Bh,cond_true,alike_go gb b2,Bh]
 ·rw [ej,Bh,Gh]
end Go.Proofs.Cv

