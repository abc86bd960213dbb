import Derived.Test.YtokgamncgleelaaGreatGradSaysQ1
import Derived.Test.YtokgamncgleelaaGreatGradSaysS5
set_option linter.unusedVariables false
set_option linter.unusedSimpArgs false
set_option linter.unusedSectionVars false
set_option maxRecDepth 100000

namespace Go.Proofs.Cv
open Go.AM Go.Proofs.PlB Go.Proofs.PlW Go.Proofs.PlT Go.Proofs.PlS Go.Proofs.Sh Go.Proofs.Num Go.Proofs.Div Go.Proofs.Op
def sideV (V:List Int) (D st v:Nat):Int:=sat (sg (fun k=>rd (0:Int) V ((ixs D st v k:Nat):Int)) D)
def ins (p:List Int) (j:Nat) (k:Int):List Int:=p.take j++([k]++p.drop j)
def hQ (d:List Int) (j:Nat):Nat→Int
 | 0=>1
 | t+1=>hQ d j t*rd (0:Int) d ((j+1+t:Nat):Int)
theorem hQ_prod (d:List Int) (j:Nat):∀ t,j+1+t≤d.length→hQ d j t=Ft ((d.drop (j+1)).take t)
 | 0,_=>by simp [hQ,Ft]
 | t+1,h=>by
  rw [Kt t (by rw [List.length_drop];omega),rd_dropL (by omega),← hQ_prod d j t (by omega)]
  rfl
section
variable {d:List Int} {j H D st:Nat} (C:Cut d j H D st)
include C
theorem cut_len:(K8 d j).length=d.length-1:=by
 have:=C.hj
 unfold K8;rw [List.length_append,List.length_take,List.length_drop];omega
theorem cut_lo {t:Nat} (ht:t<j):rd (0:Int) (K8 d j) (t:Int)=rd (0:Int) d (t:Int):=rd_take ht (by have:=C.hj;omega)
theorem cut_hi {t:Nat} (ht:j+1+t<d.length):rd (0:Int) (K8 d j) ((j+t:Nat):Int)=rd (0:Int) d ((j+1+t:Nat):Int):=by
 have:=C.hj
 unfold K8
 rw [rd_skip (by omega) (by rw [List.length_drop];omega),rd_dropL (by omega)]
theorem ins_lo {p:List Int} (hp:p.length=d.length-1) (k:Int) {t:Nat} (ht:t<j):rd (0:Int) (ins p j k) (t:Int)=rd (0:Int) p (t:Int):=rd_take ht (by have:=C.hj;omega)
theorem ins_at {p:List Int} (hp:p.length=d.length-1) (k:Int):rd (0:Int) (ins p j k) (j:Int)=k:=by
 have:=C.hj
 have h:=rd_skip (d:=p) (X:=[k]++p.drop j) (j:=j) (t:=0) (by omega) (by simp)
 exact h
theorem ins_hi {p:List Int} (hp:p.length=d.length-1) (k:Int) {t:Nat} (ht:j+1+t<d.length):rd (0:Int) (ins p j k) ((j+1+t:Nat):Int)=rd (0:Int) p ((j+t:Nat):Int):=by
 have:=C.hj
 have h:=rd_skip (d:=p) (X:=[k]++p.drop j) (j:=j) (t:=t+1) (by omega) (by simp;omega)
 rw [show j+1+t=j+(t+1) by omega]
 unfold ins
 rw [h]
 have e:rd (0:Int) ([k]++p.drop j) ((t+1:Nat):Int)=rd (0:Int) (p.drop j) (t:Int):=by
  rw [Gg _ _ _ (by simp;omega),Gg _ _ _ (by rw [List.length_drop];omega)];rfl
 rw [e,rd_dropL (by omega)]
theorem ins_len {p:List Int} (hp:p.length=d.length-1) (k:Int):(ins p j k).length=d.length:=by
 have:=C.hj
 unfold ins;simp;omega
theorem ins_within {p:List Int} (W:Within (K8 d j) p) (k:Int) (k0:0≤k) (k1:k<(D:Int)):Within d (ins p j k):=by
 have hp:p.length=d.length-1:=by rw [W.len,cut_len C]
 have hj:=C.hj
 have cl:=cut_len C
 refine ⟨ins_len C hp k,fun t ht=>?_,fun t ht=>?_⟩
 ·by_cases h:t<j
  ·rw [ins_lo C hp k h];exact W.lo t (by omega)
  ·by_cases h2:t=j
   ·subst h2;rw [ins_at C hp k];exact k0
   ·obtain ⟨u,rfl⟩:∃ u,t=j+1+u:=⟨t-(j+1),by omega⟩
    rw [ins_hi C hp k ht];exact W.lo (j+u) (by omega)
 ·by_cases h:t<j
  ·rw [ins_lo C hp k h,← cut_lo C h];exact W.hi t (by omega)
  ·by_cases h2:t=j
   ·subst h2;rw [ins_at C hp k,C.eD];exact k1
   ·obtain ⟨u,rfl⟩:∃ u,t=j+1+u:=⟨t-(j+1),by omega⟩
    rw [ins_hi C hp k ht,← cut_hi C ht];exact W.hi (j+u) (by omega)
theorem hor_lo {p:List Int} (hp:p.length=d.length-1) (k:Int):∀ t,t≤j→hor d (ins p j k) t=hor (K8 d j) p t
 | 0,_=>rfl
 | t+1,h=>by
  simp only [hor]
  rw [hor_lo hp k t (by omega),ins_lo C hp k (by omega),cut_lo C (by omega)]
theorem hor_hi {p:List Int} (hp:p.length=d.length-1) (k:Int):∀ t,j+1+t≤d.length→hor d (ins p j k) (j+1+t)=(hor (K8 d j) p j*((D:Int)-1)+k)*hQ d j t+hor (K8 d j) p (j+t)
 | 0,_=>by
  show hor d (ins p j k) j*rd (0:Int) d (j:Int)+rd (0:Int) (ins p j k) (j:Int)=_
  rw [hor_lo C hp k j (Nat.le_refl _),ins_at C hp k,C.eD,Nat.add_zero]
  simp only [hQ]
  rw [Int.mul_one,Int.mul_sub,Int.mul_one];omega
 | t+1,h=>by
  have ih:=hor_hi hp k t (by omega)
  show hor d (ins p j k) (j+1+t)*rd (0:Int) d ((j+1+t:Nat):Int)+rd (0:Int) (ins p j k) ((j+1+t:Nat):Int)=_
  rw [ih,ins_hi C hp k (by omega)]
  have e:hor (K8 d j) p (j+(t+1))=hor (K8 d j) p (j+t)*rd (0:Int) d ((j+1+t:Nat):Int)+rd (0:Int) p ((j+t:Nat):Int):=by
   rw [← cut_hi C (by omega)];rfl
  rw [e]
  simp only [hQ]
  rw [Int.add_mul,Int.mul_assoc];omega
theorem rst_div (big:List Int) (v:Int) (hb:0<prd big):∀ k,k≤big.length→rst big v k=v/Kp big k
 | 0,_=>by rw [Lk,Int.ediv_one];rfl
 | k+1,h=>by
  have:=Gv hb k
  have:=L0 hb k (by omega)
  show rst big v k/Fy big k=_
  rw [rst_div big v hb k (by omega),Kv big k (by omega),Int.mul_comm,Int.ediv_ediv_of_nonneg (by omega)]
theorem at_ins (v:Nat) (hv:v<H*st) (k:Nat) (hk:k<D) :
  f128 d (ins (plc (K8 d j) (v:Int)) j (k:Int))=some (((ixs D st v k:Nat):Int),true):=by
 have hj:=C.hj
 have W:=plc_within C.posM (v:Int)
 have hp:(plc (K8 d j) (v:Int)).length=d.length-1:=by rw [W.len,cut_len C]
 have v1:(v:Int)<prd (K8 d j):=by rw [C.eM];omega
 have hc:=hor_plc C.posM (v:Int) (by omega) v1
 have cl:=cut_len C
 rw [atR C.pos (ins_within C W (k:Int) (by omega) (by omega))]
 have e:=hor_hi C hp (k:Int) (d.length-1-j) (by omega)
 rw [show j+1+(d.length-1-j)=d.length by omega,show j+(d.length-1-j)=(K8 d j).length by omega,hc _ (Nat.le_refl _),hc j (by omega),Nat.sub_self] at e
 have eQ:hQ d j (d.length-1-j)=(st:Int):=by
  rw [hQ_prod d j _ (by omega),List.take_of_length_le (by rw [List.length_drop];omega),C.eS]
 have eR:rst (K8 d j) (v:Int) ((K8 d j).length-j)=((v/st:Nat):Int):=by
  have es:Kp (K8 d j) ((K8 d j).length-j)=(st:Int):=by
   unfold Kp
   rw [show (K8 d j).length-((K8 d j).length-j)=j by omega]
   unfold K8
   rw [List.drop_append_of_le_length (by rw [List.length_take];omega),List.drop_eq_nil_of_le (by rw [List.length_take];omega),List.nil_append]
   exact C.eS
  rw [rst_div C (K8 d j) (v:Int) C.posM _ (by omega),es,Int.natCast_ediv]
 rw [eQ,eR,show rst (K8 d j) (v:Int) 0=(v:Int) from rfl] at e
 rw [e]
 congr 2
 have d1:=C.D1
 have h3:v/st*st+v%st=v:=by rw [Nat.mul_comm];exact Nat.div_add_mod v st
 unfold ixs
 obtain ⟨D',rfl⟩:∃ D',D=D' + 1:=⟨D-1,by omega⟩
 have e1:(((D' + 1:Nat):Int)-1)=(D':Int):=by omega
 rw [e1,← Int.natCast_mul,← Int.natCast_add,← Int.natCast_mul,← Int.natCast_add]
 congr 1
 rw [Nat.mul_add,Nat.mul_one,Nat.add_right_comm,Nat.add_mul _ (v/st) st]
 omega
theorem ixs_in (v:Nat) (hv:v<H*st) (k:Nat) (hk:k<D):ixs D st v k<H*(D*st):=by
 have hs:=C.s1
 have hR:v/st<H:=Nat.div_lt_of_lt_mul (by rw [Nat.mul_comm];exact hv)
 have hl:v%st<st:=Nat.mod_lt _ hs
 unfold ixs
 have:=Jm (Jm (c:=H) (L:=D) hR hk) hl
 rw [Nat.mul_assoc] at this
 exact this
end
def prtQ (V:List Int) (D st k v:Nat):Int:=sg (fun i=>if goes D st i=v then rd (0:Int) V (i:Int) else 0) k
theorem part_bd {V:List Int} (iV:inI V) (D st v:Nat):∀ k,k≤V.length→-(k*9223372036854775808)≤prtQ V D st k v∧prtQ V D st k v≤k*9223372036854775808
 | 0,_=>by simp [prtQ,sg]
 | k+1,h=>by
  have:=part_bd iV D st v k (by omega)
  have q:=Jh iV k (by omega)
  unfold InR at q
  unfold prtQ at this ⊢
  simp only [sg]
  split <;> constructor <;> omega
section
variable (d V:List Int) (j H D st:Nat) (C:Cut d j H D st) (hV:V.length=H*(D*st)) (iV:inI V)
include C hV iV
theorem goes_in {i:Nat} (hi:i<H*(D*st)):goes D st i<H*st:=by
 have hs:=C.s1
 have h0:i/(st*D)<H:=by
  refine Nat.div_lt_of_lt_mul ?_
  rw [Nat.mul_comm (st*D) H,Nat.mul_comm st D];exact hi
 exact Jm h0 (Nat.mod_lt _ hs)
theorem side_far (k v:Nat) (hk:k≤H*(D*st)):PlV.far (prtQ V D st k v):=by
 have:=part_bd iV D st v k (by omega)
 have:=C.le
 unfold PlV.far
 omega
theorem side_loop1:Fp (fun go (x:Int×List (Int×Int))=>f220_l4 (d,V) (j:Int) (strL d) go x.1 x.2) Fq ((0:Int),List.replicate (H*st) ((0:Int),(0:Int)))=some (Ga (H*st) (fun v=>PlV.pair (prtQ V D st (H*(D*st)) v))):=by
 have hj:=C.hj
 have hs:=C.s1
 have hD:=C.D1
 have hH:=C.H1
 have hle:=C.le
 have hsD:st*D≤4096:=by rw [Nat.mul_comm];exact Nat.le_trans (Nat.le_mul_of_pos_left _ hH) hle
 have h:=Fx (B:=fun go (x:Int×List (Int×Int))=>f220_l4 (d,V) (j:Int) (strL d) go x.1 x.2) (fun k=>((k:Int),Ga (H*st) (fun v=>PlV.pair (prtQ V D st k v)))) (H*(D*st)) (Ga (H*st) (fun v=>PlV.pair (prtQ V D st (H*(D*st)) v))) ?_ ?_ (by omega)
 ·have e0:Ga (H*st) (fun v=>PlV.pair (prtQ V D st 0 v))=List.replicate (H*st) ((0:Int),(0:Int)):=by
   rw [Ly];exact Ge _ _ _ (fun v hv=>rfl)
  rw [e0] at h;exact h
 ·intro k hk go
  have q:=Jh iV k (by omega)
  unfold InR at q
  have hg:=goes_in d V j H D st C hV iV hk
  have f1:=side_far d V j H D st C hV iV k (goes D st k) (by omega)
  have b1:=part_bd iV D st (goes D st k) k (by omega)
  have e7:rd (0:Int) (strL d) (j:Int)=(st:Int):=by
   unfold strL
   rw [Kx _ _ _ _ hj]
   unfold Kp
   rw [show d.length-(d.length-1-j)=j+1 by omega]
   exact C.eS
  have eSD:IntKind.i64.wrap ((st:Int)*(D:Int))=((st*D:Nat):Int):=wmul st D (by omega)
  have n0:((st*D:Nat):Int)≠0:=by have:1≤st*D:=Nat.mul_pos hs hD;omega
  have n1:(st:Int)≠0:=by omega
  have hM:=C.leM
  have ea:IntKind.i64.wrap (IntKind.i64.wrap (IntKind.i64.wrap (Int.tdiv (k:Int) ((st*D:Nat):Int))*(st:Int))+Int.tmod (k:Int) (st:Int))=((goes D st k:Nat):Int):=by
   have a1:k/(st*D)≤k:=Nat.div_le_self _ _
   have a2:k/(st*D)*st≤goes D st k:=Nat.le_add_right _ _
   rw [Int.tdiv_eq_ediv_of_nonneg (by omega),← Int.natCast_ediv,wnat (by omega),wmul _ _ (by omega),Int.tmod_eq_emod_of_nonneg (by omega),← Int.natCast_emod,wadd _ _ (by show goes D st k<_;omega)]
   rfl
  unfold f220_l4
  simp only [Gb]
  rw [e7,C.eD,eSD,ea,dT,cond_true,Bh,Bh,Bh n0,Bh n1,Bh,PlV.of_ok _ q.1 q.2,A9]
  have er:rd (Ty.z (.p (.int .i64) (.int .u64))) (Ga (H*st) (fun v=>PlV.pair (prtQ V D st k v))) ((goes D st k:Nat):Int)=PlV.pair (prtQ V D st k (goes D st k)):=Kx _ _ _ _ hg
  have f2:PlV.far (rd (0:Int) V (k:Int)):=by unfold PlV.far;omega
  have f3:PlV.far (prtQ V D st k (goes D st k)+rd (0:Int) V (k:Int)):=by unfold PlV.far;omega
  have eadd:f44 ((rd (Ty.z (.p (.int .i64) (.int .u64))) (Ga (H*st) (fun v=>PlV.pair (prtQ V D st k v))) ((goes D st k:Nat):Int)).1,(rd (Ty.z (.p (.int .i64) (.int .u64))) (Ga (H*st) (fun v=>PlV.pair (prtQ V D st k v))) ((goes D st k:Nat):Int)).2) ((PlV.pair (rd (0:Int) V (k:Int))).1,(PlV.pair (rd (0:Int) V (k:Int))).2)=some (PlV.pair (prtQ V D st k (goes D st k)+rd (0:Int) V (k:Int))):=by
   rw [er];exact PlV.add_w _ _ f1 f2 f3
  rw [eadd,A9,Bh,Gh k,Int.toNat_natCast]
  congr 1
  refine Prod.ext rfl ?_
  show (Ga (H*st) (fun v=>PlV.pair (prtQ V D st k v))).set (goes D st k) (PlV.pair (prtQ V D st k (goes D st k)+rd (0:Int) V (k:Int)))=_
  rw [Ke]
  refine Ge _ _ _ (fun v hv=>?_)
  by_cases e:v=goes D st k
  ·subst e
   rw [if_pos rfl]
   unfold prtQ
   simp only [sg,if_true]
  ·rw [if_neg e]
   unfold prtQ
   simp only [sg]
   rw [if_neg (fun h=>e h.symm),Int.add_zero]
 ·intro go
  unfold f220_l4
  simp only
  rw [dF,cond_false]
theorem side_loop2:Fp (fun go (x:Int×List Int)=>f220_l5 (Ga (H*st) (fun v=>PlV.pair (prtQ V D st (H*(D*st)) v))) go x.1 x.2) Fq ((0:Int),List.replicate (H*st) 0)=some (Ga (H*st) (sideV V D st)):=by
 have hM:=C.leM
 rw [Gk _ (sideV V D st)]
 have h:=Fx (B:=fun go (x:Int×List Int)=>f220_l5 (Ga (H*st) (fun v=>PlV.pair (prtQ V D st (H*(D*st)) v))) go x.1 x.2) (fun v=>((v:Int),Kk (H*st) v (sideV V D st))) (H*st) (Ga (H*st) (sideV V D st)) ?_ ?_ (by omega)
 ·exact h
 ·intro v hv go
  unfold f220_l5
  simp only [F9,Gb]
  have er:rd (Ty.z (.p (.int .i64) (.int .u64))) (Ga (H*st) (fun v=>PlV.pair (prtQ V D st (H*(D*st)) v))) (v:Int)=PlV.pair (prtQ V D st (H*(D*st)) v):=Kx _ _ _ _ hv
  have ef:f190 ((rd (Ty.z (.p (.int .i64) (.int .u64))) (Ga (H*st) (fun v=>PlV.pair (prtQ V D st (H*(D*st)) v))) (v:Int)).1,(rd (Ty.z (.p (.int .i64) (.int .u64))) (Ga (H*st) (fun v=>PlV.pair (prtQ V D st (H*(D*st)) v))) (v:Int)).2)=some (sideV V D st v):=by
   rw [er]
   have:=PlV.fix_ok _ (side_far d V j H D st C hV iV (H*(D*st)) v (Nat.le_refl _))
   have es:prtQ V D st (H*(D*st)) v=sg (fun k=>rd (0:Int) V ((ixs D st v k:Nat):Int)) D:=sums_eq (fun i=>rd (0:Int) V (i:Int)) H D st v C.s1 hv
   rw [es] at this ⊢
   exact this
  rw [dT,cond_true,Bh,ef,A9,Bh,Gh v,Int.toNat_natCast,Gu _ v _ _ hv rfl]
 ·intro go
  unfold f220_l5
  simp only [F9,Gb]
  rw [dF,cond_false,Gl]
theorem side_sumR (v:Nat) (hv:v<H*st) :
  ∃ z,Fp (fun go (x:Int×Bool×Int×Int×Int×Int)=>f174_l15 (d,V) (j:Int) (true,plc (K8 d j) (v:Int)) go x.1 x.2.1 x.2.2.1 x.2.2.2.1 x.2.2.2.2.1 x.2.2.2.2.2) Fq ((0:Int),false,(0:Int),(0:Int),(0:Int),(0:Int))=some z∧Nm (sg (fun k=>rd (0:Int) V ((ixs D st v k:Nat):Int)) D) z:=by
 have hj:=C.hj
 have hle:=C.le
 have hl:=Gy C.pos
 have hDle:D≤4096:=Nat.le_trans (Nat.le_mul_of_pos_right _ C.s1) (Nat.le_trans (Nat.le_mul_of_pos_left _ C.H1) hle)
 have hp:(plc (K8 d j) (v:Int)).length=d.length-1:=by rw [plc_len,cut_len C]
 have bd:∀ n,n≤D→-(n*9223372036854775808)≤sg (fun k=>rd (0:Int) V ((ixs D st v k:Nat):Int)) n∧sg (fun k=>rd (0:Int) V ((ixs D st v k:Nat):Int)) n≤n*9223372036854775808:=by
  intro n
  induction n with
  | zero=>intro _;simp [sg]
  | succ n ih=>
   intro h
   have:=ih (by omega)
   have hi:=ixs_in C v hv n (by omega)
   have q:=Jh iV (ixs D st v n) (by omega)
   unfold InR at q
   simp only [sg]
   constructor <;> omega
 refine Le (B:=fun go (x:Int×Bool×Int×Int×Int×Int)=>f174_l15 (d,V) (j:Int) (true,plc (K8 d j) (v:Int)) go x.1 x.2.1 x.2.2.1 x.2.2.2.1 x.2.2.2.2.1 x.2.2.2.2.2)
  (fun k y=>y.1=(k:Int)∧Nm (sg (fun k=>rd (0:Int) V ((ixs D st v k:Nat):Int)) k) y.2) (fun z=>Nm (sg (fun k=>rd (0:Int) V ((ixs D st v k:Nat):Int)) D) z) D _ ⟨rfl,nm_zero⟩ ?_ ?_ (by omega)
 ·rintro k hk ⟨_,u⟩ ⟨rfl,hu⟩
  simp only at hu
  have hi:=ixs_in C v hv k hk
  have q:=Jh iV (ixs D st v k) (by omega)
  have b:=bd k (by omega)
  unfold InR at q
  obtain ⟨y,ey,hy⟩:=from_ok _ q.1 q.2
  have t1:Sm (sg (fun k=>rd (0:Int) V ((ixs D st v k:Nat):Int)) k):=by unfold Sm;omega
  have t2:Sm (rd (0:Int) V ((ixs D st v k:Nat):Int)):=by unfold Sm;omega
  obtain ⟨z,ez,hz⟩:=plus_nm hu hy t1 t2
  simp only at ez
  refine ⟨(((k+1:Nat):Int),z),fun go=>?_,rfl,hz⟩
  have hj16:f174_j16 (j:Int) (true,plc (K8 d j) (v:Int)) (k:Int)=some ():=by
   unfold f174_j16
   simp only [Int.toNat_natCast,List.nil_append,List.length_nil,List.length_append,List.length_take,List.length_drop,List.length_cons,hp]
   rw [Bh,Bh,Bh,Bh,Bh]
  have eat:f128 d ((([]++List.take (Int.toNat (j:Int)) (plc (K8 d j) (v:Int)))++[(k:Int)])++List.drop (Int.toNat (j:Int)) (plc (K8 d j) (v:Int)))=some (((ixs D st v k:Nat):Int),true):=by
   have:=at_ins C v hv k hk
   unfold ins at this
   rw [List.nil_append,List.append_assoc,Int.toNat_natCast]
   exact this
  unfold f174_l15
  simp only
  rw [Bh,C.eD,dT,cond_true,hj16,A9,eat,A9,Bh,ey,A9,ez,A9,Gh k]
 ·rintro ⟨_,u⟩ ⟨rfl,hu⟩
  refine ⟨u,fun go=>?_,hu⟩
  unfold f174_l15
  simp only
  rw [Bh,C.eD,dF,cond_false]
theorem side_loopR:Fp (fun go (x:Int×List Int)=>f174_l12 (d,V) (j:Int) go x.1 x.2) Fq ((0:Int),List.replicate (H*st) 0)=some (Ga (H*st) (sideV V D st)):=by
 have hj:=C.hj
 have hM:=C.leM
 have hle:=C.le
 have hl:=Gy C.pos
 have hDle:D≤4096:=Nat.le_trans (Nat.le_mul_of_pos_right _ C.s1) (Nat.le_trans (Nat.le_mul_of_pos_left _ C.H1) hle)
 rw [Gk _ (sideV V D st)]
 have h:=Fx (B:=fun go (x:Int×List Int)=>f174_l12 (d,V) (j:Int) go x.1 x.2) (fun v=>((v:Int),Kk (H*st) v (sideV V D st))) (H*st) (Ga (H*st) (sideV V D st)) ?_ ?_ (by omega)
 ·exact h
 ·intro v hv go
  have v1:(v:Int)<prd (K8 d j):=by rw [C.eM];omega
  have pl:=placeR (K8 d j) C.posM (v:Int) (by omega) v1
  have ec:(([]++List.take (Int.toNat (j:Int)) d)++List.drop (Int.toNat (IntKind.i64.wrap ((j:Int)+1))) d)=K8 d j:=by
   rw [Gh j,Int.toNat_natCast,Int.toNat_natCast,List.nil_append];rfl
  obtain ⟨z,ez,hz⟩:=side_sumR d V j H D st C hV iV v hv
  have hs:Sm (sg (fun k=>rd (0:Int) V ((ixs D st v k:Nat):Int)) D):=by
   have es:prtQ V D st (H*(D*st)) v=sg (fun k=>rd (0:Int) V ((ixs D st v k:Nat):Int)) D:=sums_eq (fun i=>rd (0:Int) V (i:Int)) H D st v C.s1 hv
   have:=side_far d V j H D st C hV iV (H*(D*st)) v (Nat.le_refl _)
   rw [← es]
   unfold PlV.far at this
   unfold Sm;omega
  unfold f174_l12
  simp only [F9]
  rw [dT,cond_true,ec,pl,A9,ez,A9,Ma hz hs,A9,Bh,Gh v,Int.toNat_natCast,Gu (H*st) v (sideV V D st) (sat (sg (fun k=>rd (0:Int) V ((ixs D st v k:Nat):Int)) D)) hv rfl]
 ·intro go
  unfold f174_l12
  simp only [F9]
  rw [dF,cond_false,Gl]
end
abbrev G6 (a:Tn) (Fy:Int):Prop:=Fu a=true∧0≤Fy∧Fy<a.1.length
def Kq (a:Tn) (Fy:Int):Int×Tn:=
 if G6 a Fy then (0,K8 a.1 Fy.toNat,Ga (prd (K8 a.1 Fy.toNat)).toNat (sideV a.2 (rd (0:Int) a.1 Fy).toNat (Ft (a.1.drop (Fy.toNat+1))).toNat)) else (1,[],[])
theorem side_j3 (a:Tn) (Fy:Int):f220_j3 a Fy=some (!(decide (G6 a Fy))):=by
 unfold f220_j3
 have e1:f113 (a.1,a.2)=some (Fu a):=F8 a
 generalize hd:decide (G6 a Fy)=d
 rw [e1,A9]
 by_cases ha:Fu a=true
 ·rw [ha,Bool.not_true,cond_false]
  by_cases h1:Fy<0
  ·rw [dT h1];rw [dF (show ¬G6 a Fy from fun h=>by omega)] at hd;rw [← hd];rfl
  ·rw [dF h1,cond_false]
   by_cases h2:Fy≥a.1.length
   ·rw [dT h2];rw [dF (show ¬G6 a Fy from fun h=>by omega)] at hd;rw [← hd];rfl
   ·rw [dF h2];rw [dT (show G6 a Fy from ⟨ha,by omega,by omega⟩)] at hd;rw [← hd];rfl
 ·rw [show Fu a=false by simpa using ha];rw [dF (show ¬G6 a Fy from fun h=>ha h.1)] at hd;rw [← hd];rfl
theorem side_j3r (a:Tn) (Fy:Int):f174_j3 a Fy=some (!(decide (G6 a Fy))):=by
 unfold f174_j3
 have e1:f118 (a.1,a.2)=some (Fu a):=isR a
 generalize hd:decide (G6 a Fy)=d
 rw [e1,A9]
 by_cases ha:Fu a=true
 ·rw [ha,Bool.not_true,cond_false]
  by_cases h1:Fy<0
  ·rw [dT h1];rw [dF (show ¬G6 a Fy from fun h=>by omega)] at hd;rw [← hd];rfl
  ·rw [dF h1,cond_false]
   by_cases h2:Fy≥a.1.length
   ·rw [dT h2];rw [dF (show ¬G6 a Fy from fun h=>by omega)] at hd;rw [← hd];rfl
   ·rw [dF h2];rw [dT (show G6 a Fy from ⟨ha,by omega,by omega⟩)] at hd;rw [← hd];rfl
 ·rw [show Fu a=false by simpa using ha];rw [dF (show ¬G6 a Fy from fun h=>ha h.1)] at hd;rw [← hd];rfl
theorem side_val {a:Tn} {j H D st:Nat} (C:Cut a.1 j H D st) (h:G6 a (j:Int)):Kq a (j:Int)=(0,K8 a.1 j,Ga (H*st) (sideV a.2 D st)):=by
 unfold Kq
 rw [if_pos h,Int.toNat_natCast,C.eM,C.eD,C.eS,Int.toNat_natCast,Int.toNat_natCast,Int.toNat_natCast]
theorem sideP (a:Tn) (Fy:Int) (ia:inI a.2):f220 a Fy=some (Kq a Fy):=by
 unfold f220 f220_j2
 rw [side_j3,A9]
 by_cases h:G6 a Fy
 ·obtain ⟨ga,s0,s1⟩:=h
  obtain ⟨j,rfl⟩:=Int.eq_ofNat_of_zero_le s0
  obtain ⟨hp,hl,l1,l2⟩:=Fw ga
  obtain ⟨H,D,st,C⟩:=cut_of hp (show j<a.1.length by omega)
  have hV:a.2.length=H*(D*st):=by have:=C.eN;omega
  have hM:=C.leM
  rw [side_val C ⟨ga,s0,s1⟩,dT (show G6 a (j:Int) from ⟨ga,s0,s1⟩),Bool.not_true,cond_false,A9,Fl,Bh,Gh j,Bh]
  have ec:([]++List.take (Int.toNat (j:Int)) a.1)++List.drop (Int.toNat ((j+1:Nat):Int)) a.1=K8 a.1 j:=by
   rw [Int.toNat_natCast,Int.toNat_natCast,List.nil_append];rfl
  have cl:=cut_len C
  rw [Bh (by simp only [List.length_nil,List.length_take];omega),Bh (by simp only [List.length_append,List.length_nil,List.length_take,List.length_drop];omega),ec,PlB.size_ok,A9,C.eM,Int.toNat_natCast,Bh,strides a.1 hp,A9,
   Bh (by unfold strL;rw [Gb];omega)]
  have e1:Fp (fun go (x:Int×List (Int×Int))=>f220_l4 a (j:Int) (strL a.1) go x.1 x.2) Fq ((0:Int),List.replicate (H*st) (Ty.z (.p (.int .i64) (.int .u64))))=_:=side_loop1 a.1 a.2 j H D st C hV ia
  rw [e1,A9,Ky,if_pos C.posM,A9,C.eM,Int.toNat_natCast]
  simp only
  rw [side_loop2 a.1 a.2 j H D st C hV ia,A9]
 ·unfold Kq
  rw [if_neg h,dF h];rfl
theorem sideR (a:Tn) (Fy:Int) (ia:inI a.2):f174 a Fy=some (Kq a Fy):=by
 unfold f174 f174_j2
 rw [side_j3r,A9]
 by_cases h:G6 a Fy
 ·obtain ⟨ga,s0,s1⟩:=h
  obtain ⟨j,rfl⟩:=Int.eq_ofNat_of_zero_le s0
  obtain ⟨hp,hl,l1,l2⟩:=Fw ga
  obtain ⟨H,D,st,C⟩:=cut_of hp (show j<a.1.length by omega)
  have hV:a.2.length=H*(D*st):=by have:=C.eN;omega
  have hM:=C.leM
  rw [side_val C ⟨ga,s0,s1⟩,dT (show G6 a (j:Int) from ⟨ga,s0,s1⟩),Bool.not_true,cond_false,A9,Fl,Bh,Gh j,Bh]
  have ec:([]++List.take (Int.toNat (j:Int)) a.1)++List.drop (Int.toNat ((j+1:Nat):Int)) a.1=K8 a.1 j:=by
   rw [Int.toNat_natCast,Int.toNat_natCast,List.nil_append];rfl
  rw [Bh (by simp only [List.length_nil,List.length_take];omega),Bh (by simp only [List.length_append,List.length_nil,List.length_take,List.length_drop];omega),ec,newR _ _ C.posM,A9,C.eM,Int.toNat_natCast]
  have e1:Fp (fun go (x:Int×List Int)=>f174_l12 a (j:Int) go x.1 x.2) Fq ((0:Int),List.replicate (H*st) 0)=_:=side_loopR a.1 a.2 j H D st C hV ia
  simp only
  rw [e1,A9]
 ·unfold Kq
  rw [if_neg h,dF h];rfl
end Go.Proofs.Cv
namespace Go.Proofs.Op
open Go.AM Go.Proofs.PlB Go.Proofs.PlW Go.Proofs.PlT Go.Proofs.PlS Go.Proofs.Sh Go.Proofs.Num Go.Proofs.Div
open Go.Proofs.PlR hiding Tn
structure NodeR (l:List Nd) (i:Nat) (ga gb:Tn→Tn):Prop where
 rLeaf:(gn l i).1=1→(gn l i).2.1<0∧(gn l i).2.2.1<0
 rA0:(gn l i).1≠1→0≤(gn l i).2.1
 rOne:(gn l i).1≠1→∀ g,F4 g→g.1=(nd l i).1→f80 l (i:Int) g=some (0,(ga g).1,(ga g).2,(gb g).1,(gb g).2,l)
theorem giveR (l:List Nd) (root:Nat) (st:List Tn×List Bool) (K:Keeps l root st) (n:Int) (g:Tn) (h0:0≤n) (h:n≤root∧F4 g∧g.1=(nd l n.toNat).1) :
  f81 0 (rd Z2 st.1 n) g=some (0,addT (rd Z2 st.1 n) g):=by
 obtain ⟨i,rfl⟩:=Int.eq_ofNat_of_zero_le h0
 obtain ⟨h1,h2,h3⟩:=h
 rw [Int.toNat_natCast] at h3
 obtain ⟨k1,k2⟩:=K.ok i (by omega)
 rw [addR _ _ k1.2 h2.2,both_self _ _ _ k1.1 h2.1 (by rw [k2,h3])]
 rfl
def sr1 (l:List Nd) (root:Nat):Nat→Int×List Tn×Int×List Int×List Int
 | 0=>(0,List.replicate (root+1) Z2,((root+1:Nat):Int),[],[])
 | k+1=>(((k+1:Nat):Int),Kd l k++List.replicate (root+1-k) Z2,(k:Int),(zer l k).1,(zer l k).2)
theorem sr1_set (l:List Nd) (root k:Nat) (hk:k≤root):(sr1 l root k).2.1.set (Int.toNat (sr1 l root k).2.2.1) ((sr1 l root k).2.2.2.1,(sr1 l root k).2.2.2.2)=Kd l k++List.replicate (root+1-k) Z2:=by
 cases k with
 | zero=>simp only [sr1,Int.toNat_natCast];rw [List.set_eq_of_length_le (by simp)];simp [Kd]
 | succ k=>
  simp only [sr1,Int.toNat_natCast]
  rw [List.set_append_right _ _ (by rw [G3];exact Nat.le_refl _),G3,Nat.sub_self,show root+1-k=(root+1-(k+1))+1 by omega,List.replicate_succ,List.set_cons_zero,glist_succ,List.append_assoc]
  rfl
theorem sweepR (l:List Nd) (GA GB:Nat→Tn→Tn) (root:Nat) (hr:root<l.length) (hl:l.length≤512) (hg:∀ i,i<l.length→F4 (nd l i)) (h1:prd (nd l root).1=1)
  (hn:∀ n,n≤root→NodeOk l n (GA n) (GB n)) (hR:∀ n,n≤root→NodeR l n (GA n) (GB n)):f42 l (root:Int)=some (0,(swp l GA GB root (root+1)).1,l):=by
 have hroot:=hg root hr
 obtain ⟨_,lr,lr1,_⟩:=Fw hroot.1
 unfold f42 f42_j1
 rw [dF,cond_false,dF,cond_false,A9,Fl,Bh]
 have er:((rd (Ty.z (.p (.int .i64) (.p (.int .i64) (.p (.int .i64) (.p (.int .i64) (.p (.sl (.int .i64)) (.sl (.int .i64)))))))) l (root:Int)).2.2.2.2)=nd l root:=rfl
 rw [er,nF,cond_false]
 have wr:IntKind.i64.wrap ((root:Int)+1)=((root+1:Nat):Int):=by rw [E9];omega
 rw [wr,Bh,Bh]
 have L1:=Fx (B:=fun go (x:Int×List Tn×Int×List Int×List Int)=>f42_l2 l (root:Int) go x.1 x.2.1 x.2.2.1 x.2.2.2.1 x.2.2.2.2) (sr1 l root) (root+1) (sr1 l root (root+1)).2 ?_ ?_ (by omega)
 ·have e0:sr1 l root 0=((0:Int),List.replicate (Int.toNat ((root+1:Nat):Int)) Z2,(List.length (List.replicate (Int.toNat ((root+1:Nat):Int)) Z2):Int),[],[]):=by
   rw [Int.toNat_natCast,List.length_replicate];rfl
  rw [e0] at L1
  have L1':Fp (fun go (x:Int×List Tn×Int×List Int×List Int)=>f42_l2 l (root:Int) go x.1 x.2.1 x.2.2.1 x.2.2.2.1 x.2.2.2.2) Fq ((0:Int),(List.replicate (Int.toNat ((root+1:Nat):Int)) (Ty.z (.p (.sl (.int .i64)) (.sl (.int .i64))))),(List.length (List.replicate (Int.toNat ((root+1:Nat):Int)) (Ty.z (.p (.sl (.int .i64)) (.sl (.int .i64))))):Int),[],[])=some (Kd l root++List.replicate (root+1-root) Z2,(root:Int),(zer l root).1,(zer l root).2):=L1
  rw [show root+1-root=1 by omega] at L1'
  rw [L1',A9]
  simp only
  rw [Bh (by rw [List.length_append,G3];simp;omega),Bh trivial]
  have hz:(zer l root).2=[0]:=by unfold zer;rw [h1];rfl
  rw [hz,Bh (by decide),Bh (by simp;omega)]
  have es:List.set (Kd l root++List.replicate 1 Z2) (Int.toNat (root:Int)) ((zer l root).1,List.set [(0:Int)] (Int.toNat (0:Int)) 4294967296)=(swp l GA GB root 0).1:=by
   have:=set_last (Kd l root) Z2 ((zer l root).1,List.set [(0:Int)] (Int.toNat (0:Int)) 4294967296)
   rw [G3] at this
   rw [Int.toNat_natCast,show List.replicate 1 Z2=[Z2] from rfl,this];rfl
  have eg:List.set (List.replicate (Int.toNat ((root+1:Nat):Int)) false) (Int.toNat (root:Int)) true=(swp l GA GB root 0).2:=by
   rw [Int.toNat_natCast,Int.toNat_natCast];rfl
  rw [es,eg]
  have L2:=Fx (B:=fun go (x:Int×List Tn×List Bool×List Nd)=>f42_l5 go x.1 x.2.1 x.2.2.1 x.2.2.2) (fun k=>((root:Int)-(k:Int),(swp l GA GB root k).1,(swp l GA GB root k).2,l)) (root+1)
   ((swp l GA GB root (root+1)).1,l) ?_ ?_ (by omega)
  ·have e2:((root:Int)-((0:Nat):Int),(swp l GA GB root 0).1,(swp l GA GB root 0).2,l)=((root:Int),(swp l GA GB root 0).1,(swp l GA GB root 0).2,l):=by
    rw [show (root:Int)-((0:Nat):Int)=(root:Int) by omega]
   rw [e2] at L2
   rw [L2,A9]
  ·intro k hk go
   have K:=keeps l GA GB root hr hg h1 hn k (by omega)
   have kl1:=K.l1
   have kl2:=K.l2
   have N:=hn (root-k) (by omega)
   have R:=hR (root-k) (by omega)
   obtain ⟨q1,q2⟩:=K.ok (root-k) (by omega)
   unfold f42_l5 f42_j6
   simp only
   rw [show (root:Int)-(k:Int)=((root-k:Nat):Int) by omega,dT,cond_true,Bh,Bh]
   have wn:IntKind.i64.wrap (((root-k:Nat):Int)-1)=(root:Int)-((k+1:Nat):Int):=by rw [E9];omega
   simp only [swp]
   have eN:rd (Ty.z (.p (.int .i64) (.p (.int .i64) (.p (.int .i64) (.p (.int .i64) (.p (.sl (.int .i64)) (.sl (.int .i64)))))))) l ((root-k:Nat):Int)=gn l (root-k):=rfl
   rw [eN]
   cases hb:rd false (swp l GA GB root k).2 ((root-k:Nat):Int)
   ·rw [Bool.not_false,cond_true,A9,F6,wn,if_neg (by decide)]
   ·rw [Bool.not_true,cond_false,if_pos rfl]
    by_cases hop:(gn l (root-k)).1=1
    ·obtain ⟨la,lb⟩:=R.rLeaf hop
     rw [bT hop,cond_true,A9,F6,wn]
     unfold giveS
     rw [if_pos la,if_pos lb]
    ·rw [bF hop,cond_false,A9,Fl,Bh]
     have hA0:=R.rA0 hop
     have hta:=N.okTA _ q1 q2 hA0
     have hlt:=hta.1
     have e1:f80 l ((root-k:Nat):Int) ((rd (Ty.z (.p (.sl (.int .i64)) (.sl (.int .i64)))) (swp l GA GB root k).1 ((root-k:Nat):Int)).1,(rd (Ty.z (.p (.sl (.int .i64)) (.sl (.int .i64)))) (swp l GA GB root k).1 ((root-k:Nat):Int)).2)=_:=R.rOne hop _ q1 q2
     rw [e1,A9]
     dsimp only
     generalize hga:GA (root-k) (rd Z2 (swp l GA GB root k).1 ((root-k:Nat):Int))=ga at *
     generalize hgb:GB (root-k) (rd Z2 (swp l GA GB root k).1 ((root-k:Nat):Int))=gb at *
     have e2:f81 0 ((rd (Ty.z (.p (.sl (.int .i64)) (.sl (.int .i64)))) (swp l GA GB root k).1 (gn l (root-k)).2.1).1,(rd (Ty.z (.p (.sl (.int .i64)) (.sl (.int .i64)))) (swp l GA GB root k).1 (gn l (root-k)).2.1).2) (ga.1,ga.2)=_:=giveR l root _ K (gn l (root-k)).2.1 ga hA0 ⟨by omega,hta.2⟩
     have gA1:0≤(gn l (root-k)).2.1∧(gn l (root-k)).2.1<((swp l GA GB root k).1.length:Int):=⟨hA0,by rw [kl1];omega⟩
     have gA2:0≤(gn l (root-k)).2.1∧(gn l (root-k)).2.1<((swp l GA GB root k).2.length:Int):=⟨hA0,by rw [kl2];omega⟩
     rw [Bh gA1,e2,A9,Bh gA1,Bh gA2]
     dsimp only
     have s1:=giveP l root _ K (gn l (root-k)).2.1 ga (fun _=>⟨by omega,hta.2⟩)
     have eS:giveS (swp l GA GB root k) (gn l (root-k)).2.1 ga=((swp l GA GB root k).1.set (gn l (root-k)).2.1.toNat (addT (rd Z2 (swp l GA GB root k).1 (gn l (root-k)).2.1) ga),(swp l GA GB root k).2.set (gn l (root-k)).2.1.toNat true):=by
      unfold giveS;rw [iNo]
     by_cases hB0:0≤(gn l (root-k)).2.2.1
     ·have htb:=N.okTB _ q1 q2 hB0
      rw [hgb] at htb
      have hlb:=htb.1
      rw [dT (show (gn l (root-k)).2.2.1≥0 from hB0),cond_true]
      have e3:=giveR l root _ s1.2 (gn l (root-k)).2.2.1 gb hB0 ⟨by omega,htb.2⟩
      have k1:=s1.2.l1
      have k2:=s1.2.l2
      rw [eS] at e3 k1 k2 ⊢
      simp only at e3 k1 k2
      have e3':f81 0 ((rd (Ty.z (.p (.sl (.int .i64)) (.sl (.int .i64)))) (List.set (swp l GA GB root k).1 (Int.toNat (gn l (root-k)).2.1) ((addT (rd Z2 (swp l GA GB root k).1 (gn l (root-k)).2.1) ga).1,(addT (rd Z2 (swp l GA GB root k).1 (gn l (root-k)).2.1) ga).2)) (gn l (root-k)).2.2.1).1,(rd (Ty.z (.p (.sl (.int .i64)) (.sl (.int .i64)))) (List.set (swp l GA GB root k).1 (Int.toNat (gn l (root-k)).2.1) ((addT (rd Z2 (swp l GA GB root k).1 (gn l (root-k)).2.1) ga).1,(addT (rd Z2 (swp l GA GB root k).1 (gn l (root-k)).2.1) ga).2)) (gn l (root-k)).2.2.1).2) (gb.1,gb.2)=_:=e3
      have gB1:0≤(gn l (root-k)).2.2.1∧(gn l (root-k)).2.2.1<((List.set (swp l GA GB root k).1 (Int.toNat (gn l (root-k)).2.1) ((addT (rd Z2 (swp l GA GB root k).1 (gn l (root-k)).2.1) ga).1,(addT (rd Z2 (swp l GA GB root k).1 (gn l (root-k)).2.1) ga).2)).length:Int):=⟨hB0,by rw [List.length_set,kl1];omega⟩
      have gB2:0≤(gn l (root-k)).2.2.1∧(gn l (root-k)).2.2.1<((List.set (swp l GA GB root k).2 (Int.toNat (gn l (root-k)).2.1) true).length:Int):=⟨hB0,by rw [List.length_set,kl2];omega⟩
      rw [Bh gB1,e3',A9,Bh gB1,Bh gB2,wn]
      unfold giveS
      rw [iNo]
     ·rw [dF (show ¬(gn l (root-k)).2.2.1≥0 from hB0),cond_false,wn,eS]
      unfold giveS
      rw [iPo]
  ·intro go
   unfold f42_l5
   rw [dF,cond_false]
 ·intro k hk go
  have ek:=sr1_set l root k (by omega)
  obtain ⟨p,_,_,_⟩:=Fw (hg k (by omega)).1
  have e1:(sr1 l root k).1=(k:Int):=by cases k <;> rfl
  have e2:(sr1 l root k).2.1.length=root+1:=by
   cases k with
   | zero=>simp [sr1]
   | succ k=>simp only [sr1,List.length_append,G3,List.length_replicate];omega
  unfold f42_l2
  rw [e1,dT,cond_true,Bh]
  have e3:f79 (rd (Ty.z (.p (.int .i64) (.p (.int .i64) (.p (.int .i64) (.p (.int .i64) (.p (.sl (.int .i64)) (.sl (.int .i64)))))))) l (k:Int)).2.2.2.2.1 0=some (zer l k):=newR (nd l k).1 0 p
  rw [e3,A9,Bh,E9,ek]
  rfl
 ·intro go
  unfold f42_l2
  rw [show (sr1 l root (root+1)).1=((root+1:Nat):Int) from rfl,dF,cond_false]
theorem slopeR (kind x:Int):f184 kind x=some (Kl kind x):=by
 unfold f184 Kl
 by_cases k1:kind=1
 ·rw [bT k1,if_pos k1,cond_true];by_cases h:x>0
  ·rw [dT h,if_pos h];rfl
  ·rw [dF h,if_neg h];rfl
 rw [bF k1,if_neg k1,cond_false]
 by_cases k2:kind=2
 ·rw [bT k2,if_pos k2,cond_true];by_cases h:x>0
  ·rw [dT h,if_pos h];rfl
  ·rw [dF h,if_neg h];rfl
 rw [bF k2,if_neg k2,cond_false]
 by_cases k3:kind=3
 ·rw [bT k3,if_pos k3,cond_true];by_cases h:x > -4294967296
  ·rw [dT h,cond_true];by_cases h2:x<4294967296
   ·rw [dT h2,if_pos ⟨h,h2⟩];rfl
   ·rw [dF h2,iNo];rfl
  ·rw [dF h,iNo];rfl
 rw [bF k3,if_neg k3,cond_false]
 by_cases k4:kind=4
 ·rw [bT k4,if_pos k4,cond_true];by_cases h:x>0
  ·rw [dT h,if_pos h];rfl
  ·rw [dF h,if_neg h,cond_false];by_cases h2:x<0
   ·rw [dT h2,if_pos h2];rfl
   ·rw [dF h2,if_neg h2];rfl
 rw [bF k4,if_neg k4,cond_false]
 by_cases h:x > -4294967296
 ·rw [dT h,cond_true];by_cases h2:x<4294967296
  ·rw [dT h2,if_pos ⟨h,h2⟩];rfl
  ·rw [dF h2,iNo];rfl
 ·rw [dF h,iNo];rfl
theorem unbentR (kind:Int) (t g:Tn) (ig:inI g.2):f131 kind t g=some (unbentS kind t g):=by
 unfold f131 unbentS f131_j2 f131_j3
 rw [show ((t.1,t.2):Tn)=t from rfl,show ((g.1,g.2):Tn)=g from rfl,isR,isR]
 by_cases h:1≤kind∧kind≤5∧Fu t=true∧Fu g=true
 ·obtain ⟨hp,hl,l1,l2⟩:=Fw h.2.2.1
  obtain ⟨gp,gl,m1,m2⟩:=Fw h.2.2.2
  rw [if_pos h,dF,cond_false,dF,cond_false,h.2.2.1,h.2.2.2,sameR _ _ (by omega)]
  simp only [A9,Bool.not_true,cond_false,Fl]
  by_cases h2:t.1=g.1
  ·have hlen:g.2.length=t.2.length:=by rw [h2] at hl;omega
   rw [if_pos h2,dT h2,Bool.not_true,cond_false,newR t.1 0 hp,A9,show (prd t.1).toNat=t.2.length by omega]
   simp only
   rw [Gk _ (fun i=>K9 (rd (0:Int) g.2 i) (Kl kind (rd (0:Int) t.2 i)))]
   have:=Fx (B:=fun go (x:Int×List Int)=>f131_l4 kind t g go x.1 x.2) (fun j=>((j:Int),Kk t.2.length j (fun i=>K9 (rd (0:Int) g.2 i) (Kl kind (rd (0:Int) t.2 i))))) t.2.length (Ga t.2.length (fun i=>K9 (rd (0:Int) g.2 i) (Kl kind (rd (0:Int) t.2 i)))) ?_ ?_ (by omega)
   ·rw [show ((0:Nat):Int)=0 from rfl] at this
    rw [this];rfl
   ·intro j hj go
    unfold f131_l4
    simp only [F9]
    have q:=Jh ig j (by omega)
    have s:=slope_in kind (rd (0:Int) t.2 j)
    rw [dT,cond_true,Bh,Bh,slopeR,A9,rMul _ _ q.1 q.2 s.1 s.2,A9,Bh,E9,Int.toNat_natCast]
    have:=Gu t.2.length j (fun i=>K9 (rd (0:Int) g.2 i) (Kl kind (rd (0:Int) t.2 i))) (sat (rhe (rd (0:Int) g.2 j*Kl kind (rd (0:Int) t.2 j)))) hj rfl
    rw [this]
    rfl
   ·intro go
    unfold f131_l4
    simp only [F9]
    rw [dF,cond_false,Gl]
  ·rw [if_neg h2,dF h2];rfl
 ·rw [if_neg h]
  by_cases h1:kind<1
  ·rw [dT h1];rfl
  ·rw [dF h1,cond_false]
   by_cases h2:kind>5
   ·rw [dT h2];rfl
   ·rw [dF h2,cond_false]
    cases ht:Fu t
    ·rfl
    ·cases hgg:Fu g
     ·rfl
     ·exact absurd ⟨by omega,by omega,ht,hgg⟩ h
section
variable (l:List Nd) (i:Nat)
theorem one_j2 (h:i<l.length) (g:Tn) (hg:F4 g) (hd:g.1=(nd l i).1):f80_j2 l (i:Int) g=some (Sum.inl ()):=by
 obtain ⟨_,_,l1,_⟩:=Fw hg.1
 unfold f80_j2 f80_j3
 rw [dF,cond_false,dF,cond_false]
 have e:f118 (g.1,g.2)=some (Fu g):=isR g
 rw [e,hg.1,A9,Bool.not_true,cond_false,Bh]
 have e2:f62 g.1 (rd (Ty.z (.p (.int .i64) (.p (.int .i64) (.p (.int .i64) (.p (.int .i64) (.p (.sl (.int .i64)) (.sl (.int .i64)))))))) l (i:Int)).2.2.2.2.1=some (decide (g.1=(nd l i).1)):=sameR _ _ (by omega)
 rw [e2,dT hd];rfl
theorem one_j4 (h:(gn l i).2.2.1<l.length):f80_j4 l (i:Int)=some (vl l (gn l i).2.2.1):=by
 unfold f80_j4 vl
 have e:rd (Ty.z (.p (.int .i64) (.p (.int .i64) (.p (.int .i64) (.p (.int .i64) (.p (.sl (.int .i64)) (.sl (.int .i64)))))))) l (i:Int)=gn l i:=rfl
 rw [e]
 by_cases hb:(gn l i).2.2.1≥0
 ·rw [dT hb,cond_true,Bh ⟨hb,h⟩,if_pos ⟨hb,h⟩]
  obtain ⟨n,hn⟩:=Int.eq_ofNat_of_zero_le hb
  rw [hn];rfl
 ·rw [dF hb,iNo];rfl
theorem one_go (A:Nat) (hi:i<l.length) (g:Tn) (hg:F4 g) (hd:g.1=(nd l i).1) (op K:Int) (h:(gn l i).1=op) (ho:op≠1) (ha:(gn l i).2.1=A) (hA:A<i) (hk:(gn l i).2.2.2.1=K) (hb:(gn l i).2.2.1<l.length)
  (hx:op=2∨op=3∨op=4∨op=5∨op=9∨op=10∨op=11∨op=14) (ga gb:Tn)
  (H:(if op=2 then D4 (f123 g (nd l A).1) fun p=>D4 (f123 g (vl l (gn l i).2.2.1).1) fun q=>some ((0:Int),p.1,p.2,q.1,q.2,l)
   else if op=3 then D4 (f124 g (-4294967296)) fun s=>D4 (f123 g (nd l A).1) fun p=>D4 (f123 s.2 (vl l (gn l i).2.2.1).1) fun q=>some ((0:Int),p.1,p.2,q.1,q.2,l)
   else if op=4 then D4 (f81 2 g (vl l (gn l i).2.2.1)) fun r=>D4 (f81 2 g (nd l A)) fun s=>D4 (f123 r.2 (nd l A).1) fun p=>D4 (f123 s.2 (vl l (gn l i).2.2.1).1) fun q=>some ((0:Int),p.1,p.2,q.1,q.2,l)
   else if op=5 then D4 (f124 g K) fun p=>some ((0:Int),p.2.1,p.2.2,[],[],l)
   else if op=9 then Ey (0≤(0:Int)∧(0:Int)<(List.length g.2:Int))<|D4 (f79 (nd l A).1 (rd (0:Int) g.2 0)) fun p=>some ((0:Int),p.1,p.2,[],[],l)
   else if op=10 then Ey (0≤(0:Int)∧(0:Int)<(List.length g.2:Int))<|D4 (f48 (rd (0:Int) g.2 0)) fun u=>D4 (f130 u.1 u.2 (0:Int) (0:Int) (0:Int) (List.length (nd l A).2:Int)) fun v=>D4 (f129 v.1 v.2.1 v.2.2.1 v.2.2.2.1 v.2.2.2.2) fun w=>D4 (f79 (nd l A).1 w) fun p=>some ((0:Int),p.1,p.2,[],[],l)
   else if op=11 then D4 (f131 K (nd l A) g) fun p=>some ((0:Int),p.2.1,p.2.2,[],[],l)
   else D4 (f135 g (nd l A).1) fun p=>some ((0:Int),p.2.1,p.2.2,[],[],l))=some ((0:Int),ga.1,ga.2,gb.1,gb.2,l)) :
  f80 l (i:Int) g=some (0,ga.1,ga.2,gb.1,gb.2,l):=by
 unfold f80
 have e:rd (Ty.z (.p (.int .i64) (.p (.int .i64) (.p (.int .i64) (.p (.int .i64) (.p (.sl (.int .i64)) (.sl (.int .i64)))))))) l (i:Int)=gn l i:=rfl
 have g1:0≤(i:Int)∧(i:Int)<(l.length:Int):=by omega
 have g2:0≤(A:Int)∧(A:Int)<(l.length:Int):=by omega
 rw [one_j2 l i hi g hg hd,A9,Fl,e,h,ha,hk,Bh g1,bF ho,cond_false,Bh g2,one_j4 l i hb,A9]
 rcases hx with rfl | rfl | rfl | rfl | rfl | rfl | rfl | rfl <;> exact H
theorem r_leaf (h:(gn l i).1=1) (ha:(gn l i).2.1=-1) (hb:(gn l i).2.2.1=-1):NodeR l i (fun _=>noT) (fun _=>noT):=
 ⟨fun _=>by omega,fun h1=>absurd h h1,fun h1=>absurd h h1⟩
theorem fold_go {g:Tn} {d:List Int} (hg:F4 g) (h:Fits d g.1):f123 g d=some (foldT g d):=by
 unfold f123
 have e:f181 (g.1,g.2) d=_:=foldR g d hg.2
 rw [e,K3 hg h];rfl
theorem r_add (A B:Nat) (h:(gn l i).1=2) (ha:(gn l i).2.1=A) (hb:(gn l i).2.2.1=B) (hA:A<i) (hB:B<i) (hi:i<l.length) (FA:Fits (nd l A).1 (nd l i).1) (FB:Fits (nd l B).1 (nd l i).1) :
  NodeR l i (fun g=>foldT g (nd l A).1) (fun g=>foldT g (nd l B).1):=by
 refine ⟨fun h1=>absurd (h.symm.trans h1) (by decide),fun _=>by omega,fun _ g hg hd=>one_go l i A hi g hg hd 2 _ h (by decide) ha hA rfl (by omega) (.inl rfl) _ _ ?_⟩
 rw [if_pos rfl,hb,Ja l B (by omega),fold_go hg (by rw [hd];exact FA),fold_go hg (by rw [hd];exact FB)];rfl
theorem r_sub (A B:Nat) (h:(gn l i).1=3) (ha:(gn l i).2.1=A) (hb:(gn l i).2.2.1=B) (hA:A<i) (hB:B<i) (hi:i<l.length) (FA:Fits (nd l A).1 (nd l i).1) (FB:Fits (nd l B).1 (nd l i).1) :
  NodeR l i (fun g=>foldT g (nd l A).1) (fun g=>foldT (scaleT g (-4294967296)) (nd l B).1):=by
 refine ⟨fun h1=>absurd (h.symm.trans h1) (by decide),fun _=>by omega,fun _ g hg hd=>one_go l i A hi g hg hd 3 _ h (by decide) ha hA rfl (by omega) (.inr (.inl rfl)) _ _ ?_⟩
 have gs:=scaleT_good hg (-4294967296)
 rw [if_neg (by decide),if_pos rfl,hb,Ja l B (by omega),scaleR _ _ hg.2 (by decide),L8 hg,A9,fold_go hg (by rw [hd];exact FA),fold_go gs (by show Fits _ g.1;rw [hd];exact FB)];rfl
theorem r_mul (A B:Nat) (h:(gn l i).1=4) (ha:(gn l i).2.1=A) (hb:(gn l i).2.2.1=B) (hA:A<i) (hB:B<i) (hi:i<l.length) (hgA:F4 (nd l A)) (hgB:F4 (nd l B)) (FA:Fits (nd l A).1 (nd l i).1) (FB:Fits (nd l B).1 (nd l i).1) :
  NodeR l i (fun g=>foldT (mulT g (nd l B)) (nd l A).1) (fun g=>foldT (mulT g (nd l A)) (nd l B).1):=by
 refine ⟨fun h1=>absurd (h.symm.trans h1) (by decide),fun _=>by omega,fun _ g hg hd=>one_go l i A hi g hg hd 4 _ h (by decide) ha hA rfl (by omega) (.inr (.inr (.inl rfl))) _ _ ?_⟩
 have g1:=mulT_good (b:=nd l B) hg
 have g2:=mulT_good (b:=nd l A) hg
 rw [if_neg (by decide),if_neg (by decide),if_pos rfl,hb,Ja l B (by omega),mulR _ _ hg.2 hgB.2,mulS_fit hg hgB (by rw [hd];exact FB),A9,mulR _ _ hg.2 hgA.2,mulS_fit hg hgA (by rw [hd];exact FA),A9,fold_go g1 (by show Fits _ g.1;rw [hd];exact FA),fold_go g2 (by show Fits _ g.1;rw [hd];exact FB)];rfl
theorem r_scale (A:Nat) (K:Int) (h:(gn l i).1=5) (ha:(gn l i).2.1=A) (hb:(gn l i).2.2.1=-1) (hk:(gn l i).2.2.2.1=K) (hA:A<i) (hi:i<l.length) (hK:InR K) (hd:(nd l A).1=(nd l i).1) :
  NodeR l i (fun g=>scaleT g K) (fun _=>noT):=by
 refine ⟨fun h1=>absurd (h.symm.trans h1) (by decide),fun _=>by omega,fun _ g hg hd=>one_go l i A hi g hg hd 5 K h (by decide) ha hA hk (by omega) (.inr (.inr (.inr (.inl rfl)))) _ _ ?_⟩
 rw [if_neg (by decide),if_neg (by decide),if_neg (by decide),if_pos rfl,scaleR _ _ hg.2 hK,L8 hg];rfl
theorem r_all (A:Nat) (h:(gn l i).1=9) (ha:(gn l i).2.1=A) (hb:(gn l i).2.2.1=-1) (hA:A<i) (hi:i<l.length) (hgA:F4 (nd l A)) (hd:(nd l i).1=[]) :
  NodeR l i (fun g=>newT (nd l A).1 (rd (0:Int) g.2 0)) (fun _=>noT):=by
 obtain ⟨pA,_,_,_⟩:=Fw hgA.1
 refine ⟨fun h1=>absurd (h.symm.trans h1) (by decide),fun _=>by omega,fun _ g hg hdd=>one_go l i A hi g hg hdd 9 _ h (by decide) ha hA rfl (by omega) (.inr (.inr (.inr (.inr (.inl rfl))))) _ _ ?_⟩
 obtain ⟨g0,g1⟩:=one_rd hg (by rw [hdd,hd];rfl)
 rw [if_neg (by decide),if_neg (by decide),if_neg (by decide),if_neg (by decide),if_pos rfl,Bh,newR _ _ pA];rfl
theorem r_mean (A:Nat) (h:(gn l i).1=10) (ha:(gn l i).2.1=A) (hb:(gn l i).2.2.1=-1) (hA:A<i) (hi:i<l.length) (hgA:F4 (nd l A)) (hd:(nd l i).1=[]) :
  NodeR l i (fun g=>newT (nd l A).1 (meanG g (nd l A).2.length)) (fun _=>noT):=by
 obtain ⟨pA,lA,_,lA2⟩:=Fw hgA.1
 refine ⟨fun h1=>absurd (h.symm.trans h1) (by decide),fun _=>by omega,fun _ g hg hdd=>one_go l i A hi g hg hdd 10 _ h (by decide) ha hA rfl (by omega) (.inr (.inr (.inr (.inr (.inr (.inl rfl)))))) _ _ ?_⟩
 obtain ⟨g0,g1⟩:=one_rd hg (by rw [hdd,hd];rfl)
 unfold InR at g1
 obtain ⟨y,ey,hy⟩:=from_ok _ g1.1 g1.2
 obtain ⟨z,ez,hz,hs⟩:=divided_nm hy (by omega) ((nd l A).2.length:Int) (by omega) (by omega) (by omega)
 simp only at ez
 rw [if_neg (by decide),if_neg (by decide),if_neg (by decide),if_neg (by decide),if_neg (by decide),if_pos rfl,Bh,ey,A9,ez,A9,Ma hz hs,A9,newR _ _ pA];rfl
theorem r_bend (A:Nat) (K:Int) (h:(gn l i).1=11) (ha:(gn l i).2.1=A) (hb:(gn l i).2.2.1=-1) (hk:(gn l i).2.2.2.1=K) (k0:1≤K) (k5:K≤5) (hA:A<i) (hi:i<l.length) (hgA:F4 (nd l A)) (hd:(nd l A).1=(nd l i).1) :
  NodeR l i (fun g=>unbentT K (nd l A) g) (fun _=>noT):=by
 refine ⟨fun h1=>absurd (h.symm.trans h1) (by decide),fun _=>by omega,fun _ g hg hdd=>one_go l i A hi g hg hdd 11 K h (by decide) ha hA hk (by omega) (.inr (.inr (.inr (.inr (.inr (.inr (.inl rfl))))))) _ _ ?_⟩
 rw [if_neg (by decide),if_neg (by decide),if_neg (by decide),if_neg (by decide),if_neg (by decide),if_neg (by decide),if_pos rfl,unbentR _ _ _ hg.2]
 unfold unbentS
 rw [if_pos ⟨k0,k5,hgA.1,hg.1⟩,if_pos (by rw [hd,hdd])];rfl
end
open Go.AM Go.Proofs.PlB Go.Proofs.PlW Go.Proofs.PlT Go.Proofs.PlS Go.Proofs.Sh Go.Proofs.Num Go.Proofs.Div Go.Proofs.PlR
def cntK (op k:Int):Int:=if op=5∨op=8∨op=11∨op=12∨op=13 then k else 0
theorem cnt_ok (op k:Int):f157_j2 op k=some (cntK op k):=by
 unfold f157_j2 f194 cntK
 by_cases h1:op=5
 ·rw [bT h1,if_pos (.inl h1)];rfl
 rw [bF h1,cond_false]
 by_cases h2:op=8
 ·rw [bT h2,iPo];rfl
 rw [bF h2,cond_false]
 by_cases h3:op=11
 ·rw [bT h3,iPo];rfl
 rw [bF h3,cond_false]
 by_cases h4:op=12
 ·rw [bT h4,iPo];rfl
 rw [bF h4,cond_false]
 by_cases h5:op=13
 ·rw [bT h5,iPo];rfl
 rw [bF h5,iNo];rfl
def Kh (op:Int):Bool:=decide (op=2∨op=3∨op=4∨op=6∨op=12)
theorem two_ok (op:Int):f193 op=some (Kh op):=by
 unfold f193 Kh
 by_cases h1:op=2
 ·rw [bT h1,dT (.inl h1)];rfl
 rw [bF h1,cond_false]
 by_cases h2:op=3
 ·rw [bT h2,dT];rfl
 rw [bF h2,cond_false]
 by_cases h3:op=4
 ·rw [bT h3,dT];rfl
 rw [bF h3,cond_false]
 by_cases h4:op=6
 ·rw [bT h4,dT];rfl
 rw [bF h4,cond_false]
 by_cases h5:op=12
 ·rw [bT h5,dT]
 rw [bF h5,dF]
theorem twoR (op:Int):f119 op=some (Kh op):=two_ok op
theorem cntR (op k:Int):f78_j3 op k=some (cntK op k):=cnt_ok op k
theorem leafR (l:List Nd) (a:Tn) (h:l.length<512) (hg:Fu a=true):f77 l a=some ((l.length:Int),0,l++[(1,-1,-1,0,a.1,a.2)]):=by
 obtain ⟨_,_,l1,l2⟩:=Fw hg
 unfold f77 f77_j1
 have e:f118 (a.1,a.2)=some (Fu a):=isR a
 have h1:(List.length ([]:List Int)+a.1.length)*8≤140737488355328:=by simp only [List.length_nil];omega
 have h2:(List.length ([]:List Int)+a.2.length)*8≤140737488355328:=by simp only [List.length_nil];omega
 have h3:∀ x:Nd,(l.length+List.length [x])*80≤140737488355328:=fun x=>by simp only [List.length_cons,List.length_nil];omega
 rw [dF,cond_false,e,hg,A9,Bool.not_true,cond_false,Bh h1,Bh h2,A9,Bh (h3 _),List.length_append,E9 (by simp <;> omega) (by simp <;> omega)]
 simp
theorem scalar_go (v:Int):f176 v=some ([],[v]):=by
 unfold f176
 rw [newR [] v (by decide)];rfl
theorem rk_all (a b:Tn) (k:Int) (ha:F4 a):f121 9 a b k=some (0,[],[sat (sumL a.2)]):=by
 obtain ⟨_,_,_,hl⟩:=Fw ha.1
 have e:f177 (a.1,a.2)=some (sat (sumL a.2)):=allR a ha.2 hl
 unfold f121 f121_j3
 rw [show f121_j4 9=some false from rfl,A9,cond_false,bF (by decide),cond_false,bF (by decide),cond_false,bF (by decide),cond_false,bF (by decide),cond_false,bT rfl,cond_true,e,A9,scalar_go];rfl
theorem rk_mean (a b:Tn) (k:Int) (ha:F4 a):f121 10 a b k=some (0,[],[sat (rdI (sumL a.2) a.2.length)]):=by
 obtain ⟨p,q,_,hl⟩:=Fw ha.1
 have e:f178 (a.1,a.2)=some (sat (rdI (sumL a.2) a.2.length)):=meanR a ha.2 (by omega) hl
 unfold f121 f121_j3
 rw [show f121_j4 10=some false from rfl,A9,cond_false,bF (by decide),cond_false,bF (by decide),cond_false,bF (by decide),cond_false,bF (by decide),cond_false,bF (by decide),cond_false,bT rfl,cond_true,e,A9,scalar_go];rfl
end Go.Proofs.Op
namespace Go.Proofs.Cv
open Go.AM Go.Proofs.PlB Go.Proofs.PlW Go.Proofs.PlT Go.Proofs.PlS Go.Proofs.Sh Go.Proofs.Num Go.Proofs.Div Go.Proofs.Op
open Go.Proofs.PlR hiding Tn
theorem Lz {d:List Int} {N:Nat} {g:Nat→Int} (h:0<prd d) (hN:(N:Int)=prd d) (hg:∀ i,i<N→InR (g i)):F4 (d,Ga N g):=
 ⟨G0 h (by simp only [Gb];exact hN),inI_tab hg⟩
theorem toN2 {x y:Int} (hx:1≤x) (hy:1≤y):((x.toNat*y.toNat:Nat):Int)=x*y:=by
 rw [Int.natCast_mul,Int.toNat_of_nonneg (by omega),Int.toNat_of_nonneg (by omega)]
theorem both_good (f:Int→Int→Int) (hf:∀ x y,InR (f x y)) (a b:Tn) (h:(Jd f a b).1=0):F4 (Jd f a b).2:=by
 unfold Jd at h ⊢
 by_cases c:Fu a=true∧Fu b=true
 ·rw [if_pos c] at h ⊢
  by_cases e:(jS a.1 b.1).1=0
  ·rw [if_pos e] at h ⊢
   have J:=jS_zero e
   have:=F2 (jS a.1 b.1).2
   exact Lz J.pd (by have:=J.pd;omega) (fun i hi=>hf _ _)
  ·rw [if_neg e] at h;exact absurd h e
 ·rw [if_neg c] at h;exact absurd h (by decide)
theorem scale_good (a:Tn) (k:Int) (h:(scaleS a k).1=0):F4 (scaleS a k).2:=by
 unfold scaleS at h ⊢
 by_cases c:Fu a=true
 ·rw [if_pos c] at h ⊢
  obtain ⟨p,q,_,_⟩:=Fw c
  exact Lz p q (fun i hi=>Jg _)
 ·rw [if_neg c] at h;exact absurd h (by decide)
theorem bent_good (k:Int) (a:Tn) (ia:inI a.2) (h:(Lx k a).1=0):F4 (Lx k a).2:=by
 unfold Lx at h ⊢
 by_cases c:1≤k∧k≤5∧Fu a=true
 ·rw [if_pos c] at h ⊢
  obtain ⟨p,q,_,_⟩:=Fw c.2.2
  exact Lz p q (fun i hi=>bendV_in _ _ (Jh ia i hi))
 ·rw [if_neg c] at h;exact absurd h (by decide)
theorem resh_good (a:Tn) (d:List Int) (ia:inI a.2) (h:(Li a d).1=0):F4 (Li a d).2:=by
 unfold Li at h ⊢
 by_cases c:Fu a=true∧0<prd d
 ·rw [if_pos c] at h ⊢
  by_cases e:prd d=a.2.length
  ·rw [if_pos e] at h ⊢
   exact ⟨G0 c.2 e.symm,ia⟩
  ·rw [if_neg e] at h;exact absurd h (by decide)
 ·rw [if_neg c] at h;exact absurd h (by decide)
theorem mm_good (a b:Tn) (h:(mmS a b).1=0):F4 (mmS a b).2:=by
 unfold mmS at h ⊢
 by_cases c:G4 a b
 ·rw [if_pos c] at h ⊢
  by_cases e:Lp a b
  ·rw [if_pos e] at h ⊢
   by_cases n0:0<prd [rd (0:Int) a.1 0,rd (0:Int) b.1 1]
   ·rw [if_pos n0] at h ⊢
    obtain ⟨h1,h2,h3⟩:=prod2 n0
    exact Lz n0 (by rw [toN2 h1 h2,h3]) (fun i hi=>Jg _)
   ·rw [if_neg n0] at h;exact absurd h (by decide)
  ·rw [if_neg e] at h;exact absurd h (by decide)
 ·rw [if_neg c] at h;exact absurd h (by decide)
theorem row_good2 (a k:Tn) (s:Int) (h:(rowS a k s).1=0):F4 (rowS a k s).2:=by
 unfold rowS at h ⊢
 by_cases c:Ju a k s
 ·rw [if_pos c] at h ⊢
  by_cases e:J7 a k
  ·rw [if_pos e] at h ⊢
   by_cases n0:0<prd [rd (0:Int) k.1 0,(F7 (rd (0:Int) a.1 1).toNat (rd (0:Int) k.1 2).toNat s.toNat:Int)]
   ·rw [if_pos n0] at h ⊢
    obtain ⟨h1,h2,h3⟩:=prod2 n0
    exact Lz n0 (by rw [Int.natCast_mul,Int.toNat_of_nonneg (by omega),h3]) (fun i hi=>Jg _)
   ·rw [if_neg n0] at h;exact absurd h (by decide)
  ·rw [if_neg e] at h;exact absurd h (by decide)
 ·rw [if_neg c] at h;exact absurd h (by decide)
theorem fl_good (a:Tn) (ia:inI a.2) (h:(flS a).1=0):F4 (flS a).2:=by
 unfold flS at h ⊢
 by_cases c:Fu a=true
 ·rw [if_pos c] at h ⊢
  by_cases e:a.1.length=2
  ·rw [if_pos e] at h ⊢
   obtain ⟨n,m,ea,n1,m1,la,ba⟩:=Gx c e
   clear h c e
   generalize a.2=V at *
   subst ea
   obtain ⟨pm,pmN⟩:=Lc m1 n1 (show m*n≤4096 by rw [Nat.mul_comm];exact ba)
   have:=PlN.flip_inI (n:=n) (m:=m) ia
   exact ⟨G0 pm (by show (((Ga (m*n) (PlM.flipV n m V)).length:Nat):Int)=prd [(m:Int),(n:Int)];rw [Gb];omega),this⟩
  ·rw [if_neg e] at h;exact absurd h (by decide)
 ·rw [if_neg c] at h;exact absurd h (by decide)
theorem side_good (a:Tn) (s:Int) (h:(Kq a s).1=0):F4 (Kq a s).2:=by
 unfold Kq at h ⊢
 by_cases c:G6 a s
 ·rw [if_pos c] at h ⊢
  obtain ⟨ga,s0,s1⟩:=c
  obtain ⟨hp,hl,l1,l2⟩:=Fw ga
  obtain ⟨H,D,st,C⟩:=cut_of hp (show s.toNat<a.1.length by omega)
  have:=C.posM
  exact Lz C.posM (by omega) (fun i hi=>Jg _)
 ·rw [if_neg c] at h;exact absurd h (by decide)
theorem pool_good (a:Tn) (w:Int) (ia:inI a.2) (h:(Gq a w).1=0):F4 ((Gq a w).2.1,(Gq a w).2.2.1):=by
 unfold Gq at h ⊢
 by_cases c:Fu a=true
 ·rw [if_pos c] at h ⊢
  by_cases e:a.1.length=2
  ·rw [if_pos e] at h ⊢
   by_cases f:1≤w∧w≤rd (0:Int) a.1 1
   ·rw [if_pos f] at h ⊢
    obtain ⟨cc,L,ea,c1,L1,la,ba⟩:=Gx c e
    obtain ⟨w',rfl⟩:=Int.eq_ofNat_of_zero_le (show 0≤w by omega)
    clear h c e
    generalize a.2=V at *
    subst ea
    have fw:(w':Int)≤(L:Int):=f.2
    have w1:1≤w':=by omega
    obtain ⟨m1,mL,mN,hL⟩:=pool_m V cc L w' c1 w1 (by omega) la ba
    obtain ⟨p0,pN⟩:=Lc c1 m1 mN
    exact Lz (d:=[(cc:Int),((L/w':Nat):Int)]) (N:=cc*(L/w')) (g:=plV V L w') p0 (by omega) (fun i hi=>Jh ia _ (pl_in V cc L w' c1 w1 (by omega) la ba hi))
   ·rw [if_neg f] at h;exact absurd h (by decide)
  ·rw [if_neg e] at h;exact absurd h (by decide)
 ·rw [if_neg c] at h;exact absurd h (by decide)
def wh (k:Int):Int:=if k < -1000000∨k>1000000 then -1000000 else k
theorem Lb (k:Int):f175 k=some (wh k):=by
 unfold f175 wh
 by_cases h1:k < -1000000
 ·rw [dT h1,if_pos (.inl h1)];rfl
 ·rw [dF h1,cond_false]
  by_cases h2:k>1000000
  ·rw [dT h2,if_pos (.inr h2)];rfl
  ·rw [dF h2,iNo];rfl
theorem wh_or (k:Int):wh k=k∨(wh k=-1000000∧(k < -1000000∨k>1000000)):=by
 unfold wh
 by_cases h:k < -1000000∨k>1000000
 ·rw [if_pos h];exact .inr ⟨rfl,h⟩
 ·rw [if_neg h];exact .inl rfl
theorem side_wh (a:Tn) (k:Int) (ga:Fu a=true):Kq a (wh k)=Kq a k:=by
 obtain ⟨_,_,l1,_⟩:=Fw ga
 rcases wh_or k with e | ⟨e,h⟩
 ·rw [e]
 ·rw [e];unfold Kq
  rw [if_neg (fun c=>by have:=c.2.1;omega),if_neg (fun c=>by have:=c.2.1;have:=c.2.2;omega)]
theorem bent_wh (a:Tn) (k:Int):Lx (wh k) a=Lx k a:=by
 rcases wh_or k with e | ⟨e,h⟩
 ·rw [e]
 ·rw [e];unfold Lx
  rw [if_neg (fun c=>by have:=c.1;omega),if_neg (fun c=>by have:=c.1;have:=c.2.1;omega)]
theorem row_wh (a b:Tn) (k:Int):rowS a b (wh k)=rowS a b k:=by
 rcases wh_or k with e | ⟨e,h⟩
 ·rw [e]
 ·rw [e];unfold rowS
  rw [if_neg (fun c=>by have:=c.2.2.1;omega),if_neg (fun c=>by have:=c.2.2.1;have:=c.2.2.2;omega)]
theorem pool_wh (a:Tn) (k:Int) (ga:Fu a=true):Gq a (wh k)=Gq a k:=by
 rcases wh_or k with e | ⟨e,h⟩
 ·rw [e]
 ·rw [e];unfold Gq
  rw [if_pos ga,if_pos ga]
  by_cases f:a.1.length=2
  ·rw [if_pos f,if_pos f]
   obtain ⟨c,L,ea,c1,L1,la,ba⟩:=Gx ga f
   have hL:rd (0:Int) a.1 1=(L:Int):=by rw [ea];rfl
   have:L≤4096:=Nat.le_trans (Nat.le_mul_of_pos_left _ c1) ba
   rw [if_neg (fun c=>by omega),if_neg (fun c=>by omega)]
  ·rw [if_neg f,if_neg f]
theorem pair_ok (op:Int) (a b:Tn) (k:Int) (ho:Kh op=true) (ga:F4 a) (gb:F4 b):∃ r:Int×Tn,f195 op a b k=some r∧f121 op a b (cntK op k)=some r∧(r.1=0→F4 r.2):=by
 have h:op=2∨op=3∨op=4∨op=6∨op=12:=by unfold Kh at ho;exact of_decide_eq_true ho
 rcases h with rfl | rfl | rfl | rfl | rfl
 ·refine ⟨Jd addV a b,?_,?_,both_good addV (fun x y=>Jg _) a b⟩
  ·show D4 (f117 a b) _=_
   rw [addP a b ga.2 gb.2];rfl
  ·unfold f121 f121_j3
   rw [show f121_j4 2=some true from rfl,A9,cond_true,E9]
   have e:f81 (2-2) (a.1,a.2) (b.1,b.2)=some (Jd addV a b):=addR a b ga.2 gb.2
   rw [e];rfl
 ·refine ⟨Jd subV a b,?_,?_,both_good subV (fun x y=>Jg _) a b⟩
  ·show D4 (f218 a b) _=_
   rw [subP a b ga.2 gb.2];rfl
  ·unfold f121 f121_j3
   rw [show f121_j4 3=some true from rfl,A9,cond_true,E9]
   have e:f81 (3-2) (a.1,a.2) (b.1,b.2)=some (Jd subV a b):=Op.subR a b ga.2 gb.2
   rw [e];rfl
 ·refine ⟨Jd K9 a b,?_,?_,both_good K9 (fun x y=>Jg _) a b⟩
  ·show D4 (f161 a b) _=_
   rw [mulP a b ga.2 gb.2];rfl
  ·unfold f121 f121_j3
   rw [show f121_j4 4=some true from rfl,A9,cond_true,E9]
   have e:f81 (4-2) (a.1,a.2) (b.1,b.2)=some (Jd K9 a b):=mulR a b ga.2 gb.2
   rw [e];rfl
 ·refine ⟨mmS a b,?_,?_,mm_good a b⟩
  ·show D4 (f200 a b) _=_
   rw [mmP a b ga.2 gb.2];rfl
  ·unfold f121 f121_j3
   rw [show f121_j4 6=some false from rfl,A9,cond_false,bF (by decide),cond_false,bT rfl,cond_true]
   have e:f126 (a.1,a.2) (b.1,b.2)=some (mmS a b):=mmR a b ga.2 gb.2
   rw [e];rfl
 ·refine ⟨rowS a b k,?_,?_,row_good2 a b k⟩
  ·show D4 (f219 a b k) _=_
   rw [rowP a b k ga.2 gb.2];rfl
  ·have ek:cntK 12 k=k:=rfl
   unfold f121 f121_j3
   rw [show f121_j4 12=some false from rfl,A9,cond_false,bF (by decide),cond_false,bF (by decide),cond_false,bF (by decide),cond_false,bF (by decide),cond_false,bF (by decide),cond_false,bF (by decide),cond_false,bF (by decide),cond_false,bT rfl,cond_true,ek,Lb,A9]
   have e:f180 (a.1,a.2) (b.1,b.2) (wh k)=some (rowS a b (wh k)):=rowR a b (wh k) ga.2 gb.2
   rw [e,row_wh];rfl
theorem single_go (v:Int):f221 v 0=some (0,[],[v]):=single_ok v
theorem one_ok (op:Int) (a:Tn) (k:Int) (hk:InR k) (o1:2≤op) (o2:op≤14) (ho:Kh op=false) (ga:F4 a):∃ r:Int×Tn,f196 op a k=some r∧f121 op a noT (cntK op k)=some r∧(r.1=0→F4 r.2):=by
 have h:op=5∨op=7∨op=8∨op=9∨op=10∨op=11∨op=13∨op=14:=by
  have:¬(op=2∨op=3∨op=4∨op=6∨op=12):=by unfold Kh at ho;exact of_decide_eq_false ho
  omega
 rcases h with rfl | rfl | rfl | rfl | rfl | rfl | rfl | rfl
 ·refine ⟨scaleS a k,?_,?_,scale_good a k⟩
  ·show D4 (f163 a k) _=_
   rw [scaleP a k ga.2 hk];rfl
  ·have ek:cntK 5 k=k:=rfl
   unfold f121 f121_j3
   rw [show f121_j4 5=some false from rfl,A9,cond_false,bT rfl,cond_true,ek]
   have e:f124 (a.1,a.2) k=some (scaleS a k):=scaleR a k ga.2 hk
   rw [e];rfl
 ·refine ⟨flS a,?_,?_,fl_good a ga.2⟩
  ·show D4 (f165 a) _=_
   rw [flP a];rfl
  ·unfold f121 f121_j3
   rw [show f121_j4 7=some false from rfl,A9,cond_false,bF (by decide),cond_false,bF (by decide),cond_false,bT rfl,cond_true]
   have e:f125 (a.1,a.2)=some (flS a):=flR a
   rw [e];rfl
 ·refine ⟨Kq a k,?_,?_,side_good a k⟩
  ·show D4 (f220 a k) _=_
   rw [sideP a k ga.2];rfl
  ·have ek:cntK 8 k=k:=rfl
   unfold f121 f121_j3
   rw [show f121_j4 8=some false from rfl,A9,cond_false,bF (by decide),cond_false,bF (by decide),cond_false,bF (by decide),cond_false,bT rfl,cond_true,ek,Lb,A9]
   have e:f174 (a.1,a.2) (wh k)=some (Kq a (wh k)):=sideR a (wh k) ga.2
   rw [e,side_wh a k ga.1];rfl
 ·refine ⟨(0,[],[sat (sumL a.2)]),?_,rk_all a noT _ ga,fun _=>⟨rfl,fun y hy=>by rw [List.mem_singleton.1 hy];exact Jg _⟩⟩
  show D4 (f222 a) _=_
  rw [allP a ga.2 ga.1,A9]
  simp only
  rw [single_go];rfl
 ·refine ⟨(0,[],[sat (rdI (sumL a.2) a.2.length)]),?_,rk_mean a noT _ ga,fun _=>⟨rfl,fun y hy=>by rw [List.mem_singleton.1 hy];exact Jg _⟩⟩
  show D4 (f223 a) _=_
  rw [meanP a ga.2 ga.1,A9]
  simp only
  rw [single_go];rfl
 ·refine ⟨Lx k a,?_,?_,bent_good k a ga.2⟩
  ·show D4 (f224 k a) _=_
   rw [bentP k a ga.2];rfl
  ·have ek:cntK 11 k=k:=rfl
   unfold f121 f121_j3
   rw [show f121_j4 11=some false from rfl,A9,cond_false,bF (by decide),cond_false,bF (by decide),cond_false,bF (by decide),cond_false,bF (by decide),cond_false,bF (by decide),cond_false,bF (by decide),cond_false,bT rfl,cond_true,ek,Lb,A9]
   have e:f179 (wh k) (a.1,a.2)=some (Lx (wh k) a):=bentR (wh k) a ga.2
   rw [e,bent_wh];rfl
 ·refine ⟨((Gq a k).1,(Gq a k).2.1,(Gq a k).2.2.1),?_,?_,pool_good a k ga.2⟩
  ·show D4 (f213 a k) _=_
   rw [poolP a k];rfl
  ·have ek:cntK 13 k=k:=rfl
   unfold f121 f121_j3 f121_j5
   rw [show f121_j4 13=some false from rfl,A9,cond_false,bF (by decide),cond_false,bF (by decide),cond_false,bF (by decide),cond_false,bF (by decide),cond_false,bF (by decide),cond_false,bF (by decide),cond_false,bF (by decide),cond_false,bF (by decide),cond_false,bT rfl,cond_true,ek,Lb,A9]
   have e:f134 (a.1,a.2) (wh k)=some (Gq a (wh k)):=poolR a (wh k)
   rw [e,pool_wh a k ga.1];rfl
 ·refine ⟨Li a [(a.2.length:Int)],?_,?_,resh_good a _ ga.2⟩
  ·show D4 (f170 a [(a.2.length:Int)]) _=_
   rw [reshP];rfl
  ·unfold f121 f121_j3
   rw [show f121_j4 14=some false from rfl,A9,cond_false,bF (by decide),cond_false,bF (by decide),cond_false,bF (by decide),cond_false,bF (by decide),cond_false,bF (by decide),cond_false,bF (by decide),cond_false,bF (by decide),cond_false,bF (by decide),cond_false,bF (by decide),cond_false,A9,Fl]
   have e:f135 (a.1,a.2) [(a.2.length:Int)]=some (Li a [(a.2.length:Int)]):=reshR a _
   rw [e];rfl
theorem gn_app (l m:List Nd) (i:Nat) (h:i<l.length):gn (l++m) i=gn l i:=by
 unfold gn
 rw [Gg _ _ _ (by rw [List.length_append];omega),Gg _ _ _ h,List.getElem_append_left h]
theorem gn_last (l:List Nd) (n:Nd):gn (l++[n]) l.length=n:=rd_last _ _ _
theorem side_ask (a:Tn) (k:Int) (h:(Kq a k).1=0):0<prd a.1∧0≤k∧k<a.1.length:=by
 unfold Kq at h
 by_cases c:G6 a k
 ·obtain ⟨ga,s0,s1⟩:=c
  exact ⟨(Fw ga).1,s0,s1⟩
 ·rw [if_neg c] at h;exact absurd h (by decide)
def inJ (G K:List Int) (o c w m s x l j:Nat):Int:=if j*s≤l∧l-j*s<w then sg (fun i=>inT G K c w m x i j (l-j*s)) o else 0
section
variable (G K:List Int) (o c w m s x l:Nat) (o1:1≤o) (c1:1≤c) (w1:1≤w) (hG:G.length=o*m) (hK:K.length=o*(c*w)) (bG:o*m≤4096) (bK:o*(c*w)≤4096) (s1:1≤s) (s64:s≤64) (iG:inI G) (iK:inI K) (hx:x<c) (hl:l<4096)
include o1 c1 w1 hG hK bG bK s1 s64 iG iK hx hl
theorem in_pbT {i j y:Nat} (hi:i<o) (hj:j<m) (hy:y<w):Pb (inT G K c w m x i j y):=
 pb_mul (rdIn iG (in_g G K o c w m s x l c1 w1 hG hK bG bK s1 s64 iG iK hx hl hi hj)) (rdIn iK (in_k G K o c w m s x l c1 w1 hG hK bG bK s1 s64 iG iK hx hl hi hy))
theorem in_m4:m≤4096:=Nat.le_trans (Nat.le_mul_of_pos_left _ o1) bG
theorem in_o4':o≤4096:=Nat.le_trans (Nat.le_mul_of_pos_right _ (Nat.mul_pos c1 w1)) bK
theorem in_bdR (j k:Nat) (hj:j<m) (hk:k≤o) (h:j*s≤l∧l-j*s<w):Bd (sg (inJ G K o c w m s x l) j+sg (fun i=>inT G K c w m x i j (l-j*s)) k):=by
 have h1:=sg_bd2 (inJ G K o c w m s x l) (o*85070591730234615865843651857942052864) j (fun a ha=>by
  unfold inJ
  by_cases hh:a*s≤l∧l-a*s<w
  ·rw [if_pos hh];exact sg_bd _ o (fun i hi=>in_pbT G K o c w m s x l o1 c1 w1 hG hK bG bK s1 s64 iG iK hx hl hi (show a<m by omega) hh.2)
  ·rw [if_neg hh];omega)
 have h2:=sg_bd (fun i=>inT G K c w m x i j (l-j*s)) k (fun i hi=>in_pbT G K o c w m s x l o1 c1 w1 hG hK bG bK s1 s64 iG iK hx hl (by omega) hj h.2)
 have h4:(j+1)*o≤m*o:=Nat.mul_le_mul_right _ hj
 rw [Nat.add_mul,Nat.one_mul,Nat.mul_comm m o] at h4
 rw [← Int.mul_assoc,← Int.natCast_mul] at h1
 generalize j*o=jo at *
 unfold Bd
 constructor <;> omega
theorem in_bdJ (j:Nat) (hj:j≤m):Bd (sg (inJ G K o c w m s x l) j):=by
 have h1:=sg_bd2 (inJ G K o c w m s x l) (o*85070591730234615865843651857942052864) j (fun a ha=>by
  unfold inJ
  by_cases hh:a*s≤l∧l-a*s<w
  ·rw [if_pos hh];exact sg_bd _ o (fun i hi=>in_pbT G K o c w m s x l o1 c1 w1 hG hK bG bK s1 s64 iG iK hx hl hi (show a<m by omega) hh.2)
  ·rw [if_neg hh];omega)
 have h4:j*o≤m*o:=Nat.mul_le_mul_right _ hj
 rw [Nat.mul_comm m o] at h4
 rw [← Int.mul_assoc,← Int.natCast_mul] at h1
 generalize j*o=jo at *
 unfold Bd
 constructor <;> omega
theorem in_innerR (j:Nat) (hj:j<m) (h:j*s≤l∧l-j*s<w) (z:Bool×Int×Int×Int×Int) (hz:Nm (sg (inJ G K o c w m s x l) j) z) :
  ∃ z',Fp (fun go (z:Int×Bool×Int×Int×Int×Int)=>f132_l73 ([(o:Int),(m:Int)],G) ([(o:Int),(c:Int),(w:Int)],K) s (x:Int) (l:Int) (j:Int) go z.1 z.2.1 z.2.2.1 z.2.2.2.1 z.2.2.2.2.1 z.2.2.2.2.2) Fq ((0:Int),z)=some z'∧
   Nm (sg (inJ G K o c w m s x l) j+sg (fun i=>inT G K c w m x i j (l-j*s)) o) z':=by
 have o4:=in_o4' G K o c w m s x l o1 c1 w1 hG hK bG bK s1 s64 iG iK hx hl
 have m4:=in_m4 G K o c w m s x l o1 c1 w1 hG hK bG bK s1 s64 iG iK hx hl
 have js:j*s≤4096*64:=Nat.mul_le_mul (by omega) s64
 refine refif (B:=fun go (z:Int×Bool×Int×Int×Int×Int)=>f132_l73 ([(o:Int),(m:Int)],G) ([(o:Int),(c:Int),(w:Int)],K) s (x:Int) (l:Int) (j:Int) go z.1 z.2.1 z.2.2.1 z.2.2.2.1 z.2.2.2.2.1 z.2.2.2.2.2)
  (sg (inJ G K o c w m s x l) j) (fun i=>inT G K c w m x i j (l-j*s)) o (by omega) ?_ ?_ z hz
 ·intro i hi z hz
  have hg:=in_g G K o c w m s x l c1 w1 hG hK bG bK s1 s64 iG iK hx hl hi hj
  have hk:=in_k G K o c w m s x l c1 w1 hG hK bG bK s1 s64 iG iK hx hl hi h.2
  have qa:=rdIn iG hg
  have qb:=rdIn iK hk
  obtain ⟨t,et,ht⟩:=times_nm _ _ qa.1 qa.2 qb.1 qb.2
  have b1:=in_bdR G K o c w m s x l o1 c1 w1 hG hK bG bK s1 s64 iG iK hx hl j i hj (by omega) h
  have s2:=pb_mul qa qb
  unfold Pb at s2
  unfold Bd at b1
  obtain ⟨u,eu,hu⟩:=plus_nm hz ht (by unfold Sm;omega) (by unfold Sm;omega)
  have ey:IntKind.i64.wrap ((l:Int)-IntKind.i64.wrap ((j:Int)*(s:Int)))=((l-j*s:Nat):Int):=by rw [wmul j s (by omega),E9];omega
  refine ⟨u,fun go=>?_,?_⟩
  ·unfold f132_l73
   simp only
   rw [show rd (0:Int) [(o:Int),(m:Int)] 0=(o:Int) from rfl,show rd (0:Int) [(o:Int),(m:Int)] 1=(m:Int) from rfl,show rd (0:Int) [(o:Int),(c:Int),(w:Int)] 1=(c:Int) from rfl,show rd (0:Int) [(o:Int),(c:Int),(w:Int)] 2=(w:Int) from rfl,
    dT,cond_true,ey,ixM i m j (by omega),ixK i c x w (l-j*s) w1 (by omega),Bh,Bh,et,A9,eu,A9,Gh i]
  ·have e:sg (inJ G K o c w m s x l) j+sg (fun i=>inT G K c w m x i j (l-j*s)) (i+1)=sg (inJ G K o c w m s x l) j+sg (fun i=>inT G K c w m x i j (l-j*s)) i+inT G K c w m x i j (l-j*s):=by
    simp only [sg];omega
   rw [e];exact hu
 ·intro z go
  unfold f132_l73
  simp only
  rw [show rd (0:Int) [(o:Int),(m:Int)] 0=(o:Int) from rfl,dF,cond_false]
theorem in_outR:∃ z',Fp (fun go (z:Int×Bool×Int×Int×Int×Int)=>f132_l71 ([(o:Int),(m:Int)],G) ([(o:Int),(c:Int),(w:Int)],K) s (x:Int) (l:Int) go z.1 z.2.1 z.2.2.1 z.2.2.2.1 z.2.2.2.2.1 z.2.2.2.2.2) Fq ((0:Int),false,(0:Int),(0:Int),(0:Int),(0:Int))=some z'∧
  Nm (sg (inJ G K o c w m s x l) m) z':=by
 have m4:=in_m4 G K o c w m s x l o1 c1 w1 hG hK bG bK s1 s64 iG iK hx hl
 have h:=refif (B:=fun go (z:Int×Bool×Int×Int×Int×Int)=>f132_l71 ([(o:Int),(m:Int)],G) ([(o:Int),(c:Int),(w:Int)],K) s (x:Int) (l:Int) go z.1 z.2.1 z.2.2.1 z.2.2.2.1 z.2.2.2.2.1 z.2.2.2.2.2)
  0 (inJ G K o c w m s x l) m (by omega) ?_ ?_ (false,0,0,0,0) nm_zero
 ·rw [Int.zero_add] at h;exact h
 ·intro j hj z hz
  rw [Int.zero_add] at hz
  have js:j*s≤4096*64:=Nat.mul_le_mul (by omega) s64
  have ewy:IntKind.i64.wrap ((l:Int)-IntKind.i64.wrap ((j:Int)*(s:Int)))=(l:Int)-((j*s:Nat):Int):=by rw [wmul j s (by omega),E9]
  have ej:f132_j72 ([(o:Int),(c:Int),(w:Int)],K) s (l:Int) (j:Int)=some (if j*s≤l∧l-j*s<w then Sum.inl () else Sum.inr ()):=by
   unfold f132_j72
   rw [ewy,show rd (0:Int) [(o:Int),(c:Int),(w:Int)] 2=(w:Int) from rfl]
   by_cases h1:j*s≤l
   ·rw [dF,cond_false]
    by_cases h2:l-j*s<w
    ·rw [dF,if_pos ⟨h1,h2⟩];rfl
    ·rw [dT,if_neg (fun hh=>h2 hh.2)];rfl
   ·rw [dT,if_neg (fun hh=>h1 hh.1)];rfl
  have step:sg (inJ G K o c w m s x l) (j+1)=sg (inJ G K o c w m s x l) j+inJ G K o c w m s x l j:=rfl
  rw [Int.zero_add,step]
  by_cases h:j*s≤l∧l-j*s<w
  ·rw [if_pos h] at ej
   obtain ⟨z',ez,hz'⟩:=in_innerR G K o c w m s x l o1 c1 w1 hG hK bG bK s1 s64 iG iK hx hl j hj h z hz
   have eJ:inJ G K o c w m s x l j=sg (fun i=>inT G K c w m x i j (l-j*s)) o:=if_pos h
   refine ⟨z',fun go=>?_,by rw [eJ];exact hz'⟩
   have ez':Fp (fun go (z:Int×Bool×Int×Int×Int×Int)=>f132_l73 ([(o:Int),(m:Int)],G) ([(o:Int),(c:Int),(w:Int)],K) s (x:Int) (l:Int) (j:Int) go z.1 z.2.1 z.2.2.1 z.2.2.2.1 z.2.2.2.2.1 z.2.2.2.2.2) Fq ((0:Int),z.1,z.2.1,z.2.2.1,z.2.2.2.1,z.2.2.2.2)=_:=ez
   unfold f132_l71
   simp only
   rw [show rd (0:Int) [(o:Int),(m:Int)] 1=(m:Int) from rfl,dT,cond_true,ej,A9,Fl,ez',A9,Gh j]
  ·rw [if_neg h] at ej
   have eJ:inJ G K o c w m s x l j=0:=if_neg h
   refine ⟨z,fun go=>?_,by rw [eJ,Int.add_zero];exact hz⟩
   unfold f132_l71
   simp only
   rw [show rd (0:Int) [(o:Int),(m:Int)] 1=(m:Int) from rfl,dT,cond_true,ej,A9,F6,Gh j]
 ·intro z go
  unfold f132_l71
  simp only
  rw [show rd (0:Int) [(o:Int),(m:Int)] 1=(m:Int) from rfl,dF,cond_false]
end
section
variable (G K:List Int) (o c w m s L:Nat) (o1:1≤o) (c1:1≤c) (w1:1≤w) (hG:G.length=o*m) (hK:K.length=o*(c*w)) (bG:o*m≤4096) (bK:o*(c*w)≤4096) (s1:1≤s) (s64:s≤64) (iG:inI G) (iK:inI K) (L1:1≤L) (bL:c*L≤4096)
include o1 c1 w1 hG hK bG bK s1 s64 iG iK L1 bL
theorem in_loopR :
  Fp (fun go (z:Int×List Int)=>f132_l51 ([(o:Int),(m:Int)],G) ([(o:Int),(c:Int),(w:Int)],K) s L go z.1 z.2) Fq ((0:Int),List.replicate (c*L) 0)=some (Ga (c*L) (inV G K o c w m s L)):=by
 have hL4:L≤4096:=Nat.le_trans (Nat.le_mul_of_pos_left _ c1) bL
 have hc4:c≤4096:=Nat.le_trans (Nat.le_mul_of_pos_right _ L1) bL
 rw [Gk _ (inV G K o c w m s L)]
 have h:=Fx (B:=fun go (z:Int×List Int)=>f132_l51 ([(o:Int),(m:Int)],G) ([(o:Int),(c:Int),(w:Int)],K) s L go z.1 z.2) (fun x=>((x:Int),Kk (c*L) (x*L) (inV G K o c w m s L))) c (Ga (c*L) (inV G K o c w m s L)) ?_ ?_ (by omega)
 ·rw [Nat.zero_mul] at h;exact h
 ·intro x hx go
  unfold f132_l51
  simp only
  have K2:=Fx (B:=fun go (z:Int×List Int)=>f132_l66 ([(o:Int),(m:Int)],G) ([(o:Int),(c:Int),(w:Int)],K) s L (x:Int) go z.1 z.2) (fun l=>((l:Int),Kk (c*L) (x*L+l) (inV G K o c w m s L))) L (Kk (c*L) ((x+1)*L) (inV G K o c w m s L)) ?_ ?_ (by omega)
  ·rw [Nat.add_zero] at K2
   have inner':Fp (fun go (z:Int×List Int)=>f132_l66 ([(o:Int),(m:Int)],G) ([(o:Int),(c:Int),(w:Int)],K) s L (x:Int) go z.1 z.2) Fq ((0:Int),Kk (c*L) (x*L) (inV G K o c w m s L))=_:=K2
   rw [show rd (0:Int) [(o:Int),(c:Int),(w:Int)] 1=(c:Int) from rfl,dT,cond_true,inner',A9,Gh x]
  ·intro l hl go
   have hq:x*L+l<c*L:=Jm hx hl
   obtain ⟨d1,d2⟩:=K5 (x:=x) hl
   obtain ⟨z,ez,hz⟩:=in_outR G K o c w m s x l o1 c1 w1 hG hK bG bK s1 s64 iG iK hx (by omega)
   have hb:=in_bdJ G K o c w m s x l o1 c1 w1 hG hK bG bK s1 s64 iG iK hx (by omega) m (Nat.le_refl _)
   obtain ⟨u,eu,hu⟩:=ref_end hz hb
   have eV:sat (rhe (sg (inJ G K o c w m s x l) m))=inV G K o c w m s L (x*L+l):=by
    unfold inV
    rw [d1,d2]
    congr 2
    exact (in_eq (fun i j y=>inT G K c w m x i j y) l s m w o s1).symm
   unfold f132_l66
   simp only [F9]
   rw [dT,cond_true,ez,A9,eu,A9,hu,A9,ixM x L l (by omega),Bh,Int.toNat_natCast,Gh l]
   have:=Gu (c*L) (x*L+l) (inV G K o c w m s L) _ hq eV
   rw [this]
   rfl
  ·intro go
   unfold f132_l66
   simp only
   rw [dF,cond_false,Nat.add_mul,Nat.one_mul]
 ·intro go
  unfold f132_l51
  simp only
  rw [show rd (0:Int) [(o:Int),(c:Int),(w:Int)] 1=(c:Int) from rfl,dF,cond_false,Gl]
end
abbrev L9 (g k:Tn) (s L:Int):Prop:=g.1.length=2∧k.1.length=3∧rd (0:Int) k.1 0=rd (0:Int) g.1 0∧rd (0:Int) k.1 2≤L∧rd (0:Int) g.1 1=(F7 L.toNat (rd (0:Int) k.1 2).toNat s.toNat:Int)
def binS (g k:Tn) (s L:Int):Int×Tn:=
 if Gs g k s L then
  if L9 g k s L then
   if 0<prd [rd (0:Int) k.1 1,L] then
    (0,[rd (0:Int) k.1 1,L],Ga ((rd (0:Int) k.1 1).toNat*L.toNat) (inV g.2 k.2 (rd (0:Int) g.1 0).toNat (rd (0:Int) k.1 1).toNat (rd (0:Int) k.1 2).toNat (rd (0:Int) g.1 1).toNat s.toNat L.toNat))
   else (2,[],[])
  else (4,[],[])
 else (1,[],[])
theorem in_win (k:Tn) (s L:Int) (hk:Fu k=true) (h3:k.1.length=3) (s1:1≤s) (L4:L≤4096) (h:rd (0:Int) k.1 2≤L) :
  IntKind.i64.wrap (IntKind.i64.wrap (Int.tdiv (IntKind.i64.wrap (L-rd (0:Int) k.1 2)) s)+1)=(F7 L.toNat (rd (0:Int) k.1 2).toNat s.toNat:Int)∧f209 L (rd (0:Int) k.1 2) s=some (F7 L.toNat (rd (0:Int) k.1 2).toNat s.toNat:Int):=by
 obtain ⟨o,c,w,ek,o1,c1,w1,_,_⟩:=ker_nat hk h3
 have e:rd (0:Int) k.1 2=(w:Int):=by rw [ek];rfl
 rw [e] at h ⊢
 obtain ⟨L',rfl⟩:=Int.eq_ofNat_of_zero_le (show 0≤L by omega)
 obtain ⟨s',rfl⟩:=Int.eq_ofNat_of_zero_le (show 0≤s by omega)
 exact ⟨win_eq L' w s' (by omega) (by omega),winP L' w s' (by omega) (by omega) (by omega)⟩
theorem in_j5P (g k:Tn) (s L:Int) (h:Gs g k s L):f168_j5 g k s L=some (!(decide (L9 g k s L))):=by
 obtain ⟨hg,hk,s1,s64,L1,L4⟩:=h
 unfold f168_j5
 by_cases h1:g.1.length=2
 ·rw [nF,cond_false]
  by_cases h2:k.1.length=3
  ·rw [nF,cond_false,Bh,Bh]
   by_cases h3:rd (0:Int) k.1 0=rd (0:Int) g.1 0
   ·rw [nF h3,cond_false,Bh,Bh]
    by_cases h5:rd (0:Int) k.1 2≤L
    ·rw [(in_win k s L hk h2 s1 L4 h5).2,A9]
     by_cases h4:(F7 L.toNat (rd (0:Int) k.1 2).toNat s.toNat:Int)=rd (0:Int) g.1 1
     ·rw [nF h4,dT (show L9 g k s L from ⟨h1,h2,h3,h5,h4.symm⟩)];rfl
     ·rw [nT h4,dF (show ¬L9 g k s L from fun h=>h4 h.2.2.2.2.symm)];rfl
    ·obtain ⟨c,M,eg,c1,M1,_,_⟩:=Gx hg h1
     have e:rd (0:Int) g.1 1=(M:Int):=by rw [eg];rfl
     rw [win_none _ _ _ (by omega),A9,nT,dF (show ¬L9 g k s L from fun h=>h5 h.2.2.2.1)];rfl
   ·rw [nT h3,dF (show ¬L9 g k s L from fun h=>h3 h.2.2.1)];rfl
  ·rw [nT,dF (show ¬L9 g k s L from fun h=>h2 h.2.1)];rfl
 ·rw [nT,dF (show ¬L9 g k s L from fun h=>h1 h.1)];rfl
theorem in_j6R (g k:Tn) (s L:Int) (h:Gs g k s L):f132_j6 g k s L=some (!(decide (L9 g k s L))):=by
 obtain ⟨hg,hk,s1,s64,L1,L4⟩:=h
 unfold f132_j6
 by_cases h1:g.1.length=2
 ·rw [nF,cond_false]
  by_cases h2:k.1.length=3
  ·rw [nF,cond_false,Bh,Bh]
   by_cases h3:rd (0:Int) g.1 0=rd (0:Int) k.1 0
   ·rw [nF h3,cond_false,Bh]
    by_cases h5:rd (0:Int) k.1 2≤L
    ·rw [dF,cond_false,Bh,Bh,Bh,(in_win k s L hk h2 s1 L4 h5).1]
     by_cases h4:rd (0:Int) g.1 1=(F7 L.toNat (rd (0:Int) k.1 2).toNat s.toNat:Int)
     ·rw [nF h4,dT (show L9 g k s L from ⟨h1,h2,h3.symm,h5,h4⟩)];rfl
     ·rw [nT h4,dF (show ¬L9 g k s L from fun h=>h4 h.2.2.2.2)];rfl
    ·rw [dT,dF (show ¬L9 g k s L from fun h=>h5 h.2.2.2.1)];rfl
   ·rw [nT h3,dF (show ¬L9 g k s L from fun h=>h3 h.2.2.1.symm)];rfl
  ·rw [nT,dF (show ¬L9 g k s L from fun h=>h2 h.2.1)];rfl
 ·rw [nT,dF (show ¬L9 g k s L from fun h=>h1 h.1)];rfl
theorem binP (g k:Tn) (s L:Int) (ig:inI g.2) (ik:inI k.2):f168 g k s L=some (binS g k s L):=by
 unfold f168 f168_j3 binS
 have e4:f168_j4 g k s L=some (!(decide (Gs g k s L))):=ker_j4 g k s L
 rw [e4,A9]
 by_cases h:Gs g k s L
 ·rw [dT h,if_pos h,Bool.not_true,cond_false,in_j5P g k s L h,A9]
  by_cases f:L9 g k s L
  ·rw [dT f,if_pos f,Bool.not_true,cond_false,A9,Fl]
   obtain ⟨gg,gk,s1,s64,L1,L4⟩:=h
   obtain ⟨h1,h2,h3,h5,h4⟩:=f
   rw [Bh,Bh,Bh,Bh,of_ok,A9]
   by_cases hp:0<prd [rd (0:Int) k.1 1,L]
   ·rw [if_pos hp,if_pos hp]
    simp only
    rw [nF rfl,cond_false]
    obtain ⟨o,m,eg,o1,m1,lg,bg⟩:=Gx gg h1
    obtain ⟨o',c,w,ek,_,c1,w1,lk,bk⟩:=ker_nat gk h2
    obtain ⟨s',rfl⟩:=Int.eq_ofNat_of_zero_le (show 0≤s by omega)
    obtain ⟨L',rfl⟩:=Int.eq_ofNat_of_zero_le (show 0≤L by omega)
    have eo:o'=o:=by rw [eg,ek] at h3;exact Int.ofNat.inj h3
    subst eo
    clear h3 h4 h5 h1 h2 gg gk e4
    generalize g.2=G at *
    generalize k.2=K at *
    subst eg
    subst ek
    rw [show rd (0:Int) [(o':Int),(c:Int),(w:Int)] 1=(c:Int) from rfl] at hp ⊢
    obtain ⟨h5,h6,h7⟩:=prod2 hp
    have hN:(prd [(c:Int),(L':Int)]).toNat=c*L':=by rw [h7,← Int.natCast_mul,Int.toNat_natCast]
    have:=F2 [(c:Int),(L':Int)]
    rw [h7,← Int.natCast_mul] at this
    rw [hN,in_loopP G K o' c w m s' L' o1 c1 w1 lg lk bg bk (by omega) (by omega) ig ik (by omega) (by omega),A9]
    rfl
   ·rw [if_neg hp,if_neg hp];rfl
  ·rw [dF f,if_neg f];rfl
 ·rw [dF h,if_neg h];rfl
theorem binR (g k:Tn) (s L:Int) (ig:inI g.2) (ik:inI k.2):f132 g k s L=some (binS g k s L):=by
 unfold f132 f132_j2 binS
 have e4:f132_j3 g k s L=some (!(decide (Gs g k s L))):=ker_j3 g k s L
 rw [e4,A9]
 by_cases h:Gs g k s L
 ·rw [dT h,if_pos h,Bool.not_true,cond_false,A9,Fl]
  unfold f132_j5
  rw [in_j6R g k s L h,A9]
  by_cases f:L9 g k s L
  ·rw [dT f,if_pos f,Bool.not_true,cond_false,A9,Fl]
   obtain ⟨gg,gk,s1,s64,L1,L4⟩:=h
   obtain ⟨h1,h2,h3,h5,h4⟩:=f
   rw [Bh,Bh,Bh,Bh,goodR,A9]
   by_cases hp:0<prd [rd (0:Int) k.1 1,L]
   ·rw [dT hp,if_pos hp,Bool.not_true,cond_false,newR _ _ hp,A9]
    simp only
    obtain ⟨o,m,eg,o1,m1,lg,bg⟩:=Gx gg h1
    obtain ⟨o',c,w,ek,_,c1,w1,lk,bk⟩:=ker_nat gk h2
    obtain ⟨s',rfl⟩:=Int.eq_ofNat_of_zero_le (show 0≤s by omega)
    obtain ⟨L',rfl⟩:=Int.eq_ofNat_of_zero_le (show 0≤L by omega)
    have eo:o'=o:=by rw [eg,ek] at h3;exact Int.ofNat.inj h3
    subst eo
    clear h3 h4 h5 h1 h2 gg gk e4
    generalize g.2=G at *
    generalize k.2=K at *
    subst eg
    subst ek
    rw [show rd (0:Int) [(o':Int),(c:Int),(w:Int)] 1=(c:Int) from rfl] at hp ⊢
    obtain ⟨h5,h6,h7⟩:=prod2 hp
    have hN:(prd [(c:Int),(L':Int)]).toNat=c*L':=by rw [h7,← Int.natCast_mul,Int.toNat_natCast]
    have:=F2 [(c:Int),(L':Int)]
    rw [h7,← Int.natCast_mul] at this
    rw [hN,in_loopR G K o' c w m s' L' o1 c1 w1 lg lk bg bk (by omega) (by omega) ig ik (by omega) (by omega),A9]
    rfl
   ·rw [dF hp,if_neg hp];rfl
  ·rw [dF f,if_neg f];rfl
 ·rw [dF h,if_neg h];rfl
theorem at_loops (d p:List Int) (hl:p.length=d.length) (h4:d.length≤4):∀ (m k:Nat) (a:Int),k≤d.length→
  Fp (fun go (x:Int×Int)=>f128_l4 d p go x.1 x.2) m (a,(k:Int))=Fp (fun go (x:Int×Int)=>f204_l4 d p go x.1 x.2) m (a,(k:Int))
 | 0,_,_,_=>rfl
 | m+1,k,a,hk=>by
  rw [G9,G9]
  by_cases h:k<d.length
  ·have ej:f128_j5 d p (k:Int)=f204_j5 d p (k:Int):=by
    unfold f128_j5 f204_j5
    rw [Bh,Bh]
   have e1:f128_l4 d p (Fp (fun go (x:Int×Int)=>f128_l4 d p go x.1 x.2) m) a (k:Int)=D4 (f204_j5 d p (k:Int)) fun z=>F5 z (fun _=>Fp (fun go (x:Int×Int)=>f128_l4 d p go x.1 x.2) m (IntKind.i64.wrap (IntKind.i64.wrap (a*rd (0:Int) d (k:Int))+rd (0:Int) p (k:Int)),((k+1:Nat):Int))) (fun _=>some (Sum.inl ())):=by
    unfold f128_l4
    rw [dT,cond_true,ej,Bh,Bh,Gh k]
   have e2:f204_l4 d p (Fp (fun go (x:Int×Int)=>f204_l4 d p go x.1 x.2) m) a (k:Int)=D4 (f204_j5 d p (k:Int)) fun z=>F5 z (fun _=>Fp (fun go (x:Int×Int)=>f204_l4 d p go x.1 x.2) m (IntKind.i64.wrap (IntKind.i64.wrap (a*rd (0:Int) d (k:Int))+rd (0:Int) p (k:Int)),((k+1:Nat):Int))) (fun _=>some (Sum.inl ())):=by
    unfold f204_l4
    rw [dT,cond_true,Bh,Bh,Gh k]
   simp only
   rw [e1,e2,at_loops d p hl h4 m (k+1) _ h]
  ·simp only
   unfold f128_l4 f204_l4
   rw [dF,dF];rfl
theorem at_same (d p:List Int):f128 d p=f204 d p:=by
 unfold f128 f204 f128_j1 f204_j1
 rw [goodR,Gn,A9]
 show D4 (bif !decide (prd d>0) then some (Sum.inr ()) else bif (p.length:Int) != (d.length:Int) then some (Sum.inr ()) else some (Sum.inl ())) _=D4 (bif !decide (prd d>0) then some (Sum.inr ()) else bif (p.length:Int) != (d.length:Int) then some (Sum.inr ()) else some (Sum.inl ())) _
 by_cases hg:prd d>0
 ·rw [dT hg,Bool.not_true,cond_false]
  by_cases hl:p.length=d.length
  ·have e:=at_loops d p hl (Gy hg) Fq 0 0 (Nat.zero_le _)
   have e':Fp (fun go (x:Int×Int)=>f128_l4 d p go x.1 x.2) Fq ((0:Int),(0:Int))=_:=e
   rw [nF,cond_false,A9,Fl,A9,Fl,e']
   rfl
  ·rw [nT];rfl
 ·rw [dF hg];rfl
def atQ (d p:List Int):Int:=((f204 d p).getD (0,false)).1
def cutP (p:List Int) (s:Int):List Int:=(([]:List Int)++(List.take (Int.toNat s) p))++(List.drop (Int.toNat (IntKind.i64.wrap (s+(1:Int)))) p)
def spV (g:Tn) (d:List Int) (s:Int) (k:Nat):Int:=rd (0:Int) g.2 (atQ g.1 (cutP (plc d (k:Int)) s))
theorem atQ_ok (d p:List Int) (hd:0<prd d):∃ b,f204 d p=some (atQ d p,b)∧0≤atQ d p∧atQ d p<prd d:=by
 obtain ⟨q,b,e,h⟩:=at_any d p hd
 have eq:atQ d p=q:=by unfold atQ;rw [e];rfl
 rw [eq];exact ⟨b,e,h⟩
section
variable (g:Tn) (d:List Int) (s:Int) (gg:Fu g=true) (hd:0<prd d) (s0:0≤s) (s1:s<d.length)
include gg hd s0 s1
theorem sp_guards (k:Nat):(0≤s∧s≤((plc d (k:Int)).length:Int))∧(0≤IntKind.i64.wrap (s+1)∧IntKind.i64.wrap (s+1)≤((plc d (k:Int)).length:Int))∧(List.length ([]:List Int)+List.length (List.take (Int.toNat s) (plc d (k:Int))))*8≤140737488355328∧
  (List.length (([]:List Int)++(List.take (Int.toNat s) (plc d (k:Int))))+List.length (List.drop (Int.toNat (IntKind.i64.wrap (s+(1:Int)))) (plc d (k:Int))))*8≤140737488355328:=by
 have hpl:=plc_len d (k:Int)
 have hdl:=Gy hd
 refine ⟨by omega,by rw [E9];omega,by rw [List.length_take];simp only [List.length_nil];omega,by rw [List.nil_append,List.length_take,List.length_drop];omega⟩
theorem spreadP:f166 g d s=some (d,Ga (prd d).toNat (spV g d s)):=by
 obtain ⟨hp,hl,_,hl2⟩:=Fw gg
 have hr:=F2 d
 unfold f166
 rw [Ky,if_pos hd,A9]
 simp only
 rw [Gk _ (spV g d s)]
 have L:=Fx (B:=fun go (x:Int×List Int)=>f166_l1 g d s (0,d,Kk (prd d).toNat 0 (spV g d s)) go x.1 x.2) (fun k=>((k:Int),Kk (prd d).toNat k (spV g d s))) (prd d).toNat (Ga (prd d).toNat (spV g d s)) ?_ ?_ (by omega)
 ·have L':Fp (fun go (x:Int×List Int)=>f166_l1 g d s (0,d,Kk (prd d).toNat 0 (spV g d s)) go x.1 x.2) Fq ((0:Int),Kk (prd d).toNat 0 (spV g d s))=_:=L
  rw [L'];rfl
 ·intro k hk go
  obtain ⟨b,eq,q0,q1⟩:=atQ_ok g.1 (cutP (plc d (k:Int)) s) hp
  obtain ⟨g1,g2,g3,g4⟩:=sp_guards g d s gg hd s0 s1 k
  have q2:0≤atQ g.1 (cutP (plc d (k:Int)) s)∧atQ g.1 (cutP (plc d (k:Int)) s)<(g.2.length:Int):=⟨q0,by omega⟩
  unfold cutP at eq q2
  unfold f166_l1
  simp only [F9]
  rw [dT,cond_true,placeP d hd (k:Int) (by omega) (by omega),A9]
  simp only
  rw [Bh g1,Bh g2,Bh g3,Bh g4,eq,A9]
  simp only
  rw [Bh q2,Bh,Gh k,Int.toNat_natCast]
  have:=Gu (prd d).toNat k (spV g d s) _ hk (rfl:spV g d s k=spV g d s k)
  rw [← this]
  rfl
 ·intro go
  unfold f166_l1
  simp only [F9]
  rw [dF,cond_false,Gl]
theorem spreadR (l:List Nd) (i A:Nat) (ha:(gn l i).2.1=A) (hk:(gn l i).2.2.2.1=s) (hdA:(nd l A).1=d) :
  Fp (fun go (x:Int×List Int)=>f80_l5 l (i:Int) g go x.1 x.2) Fq ((0:Int),List.replicate (prd d).toNat 0)=some (Ga (prd d).toNat (spV g d s)):=by
 obtain ⟨hp,hl,_,hl2⟩:=Fw gg
 have hr:=F2 d
 rw [Gk _ (spV g d s)]
 refine Fx (B:=fun go (x:Int×List Int)=>f80_l5 l (i:Int) g go x.1 x.2) (fun k=>((k:Int),Kk (prd d).toNat k (spV g d s))) (prd d).toNat (Ga (prd d).toNat (spV g d s)) ?_ ?_ (by omega)
 ·intro k hkk go
  obtain ⟨b,eq,q0,q1⟩:=atQ_ok g.1 (cutP (plc d (k:Int)) s) hp
  obtain ⟨g1,g2,g3,g4⟩:=sp_guards g d s gg hd s0 s1 k
  have e:rd (Ty.z (.p (.int .i64) (.p (.int .i64) (.p (.int .i64) (.p (.int .i64) (.p (.sl (.int .i64)) (.sl (.int .i64)))))))) l (i:Int)=gn l i:=rfl
  have eA:(rd (Ty.z (.p (.int .i64) (.p (.int .i64) (.p (.int .i64) (.p (.int .i64) (.p (.sl (.int .i64)) (.sl (.int .i64)))))))) l (A:Int)).2.2.2.2.1=d:=hdA
  rw [← at_same] at eq
  have q2:0≤atQ g.1 (cutP (plc d (k:Int)) s)∧atQ g.1 (cutP (plc d (k:Int)) s)<(g.2.length:Int):=⟨q0,by omega⟩
  unfold cutP at eq q2
  unfold f80_l5
  simp only [F9]
  rw [e,ha,hk,eA,dT,cond_true,placeR d hd (k:Int) (by omega) (by omega),A9]
  simp only
  rw [Bh g1,Bh g2,Bh g3,Bh g4,eq,A9]
  simp only
  rw [Bh q2,Bh,Gh k,Int.toNat_natCast]
  have:=Gu (prd d).toNat k (spV g d s) _ hkk (rfl:spV g d s k=spV g d s k)
  rw [← this]
  rfl
 ·intro go
  unfold f80_l5
  simp only [F9]
  rw [dF,cond_false,Gl]
end
def pkL (P V:List Int) (N:Nat):Nat→List Int
 | 0=>List.replicate N 0
 | k+1=>(pkL P V N k).set (Int.toNat (rd (0:Int) P (k:Int))) (rd (0:Int) V (k:Int))
theorem pkL_len (P V:List Int) (N:Nat):∀ k,(pkL P V N k).length=N
 | 0=>by simp [pkL]
 | k+1=>by simp only [pkL,List.length_set];exact pkL_len P V N k
theorem pkL_in (P V:List Int) (N:Nat) (iV:inI V):∀ k,k≤V.length→inI (pkL P V N k)
 | 0,_=>inI_rep _ _ (by decide)
 | k+1,h=>by simp only [pkL];exact inI_set (pkL_in P V N iV k (by omega)) _ _ (Jh iV k (by omega))
section
variable (g a:Tn) (w:Int) (h:(Gq a w).1=0) (gg:Fu g=true) (hd:g.1=(Gq a w).2.1)
include h gg hd
theorem pk_len:(Gq a w).2.2.2.length=g.2.length∧Fu a=true:=by
 obtain ⟨ga,hn,hn4,hp⟩:=pool_places a w h
 obtain ⟨_,lg,_,_⟩:=Fw gg
 rw [hd] at lg
 exact ⟨by omega,ga⟩
theorem pickedP:f169 g a w=some (a.1,pkL (Gq a w).2.2.2 g.2 (prd a.1).toNat g.2.length):=by
 obtain ⟨ga,hn,hn4,hp⟩:=pool_places a w h
 obtain ⟨pl,_⟩:=pk_len g a w h gg hd
 obtain ⟨pa,la,_,la2⟩:=Fw ga
 unfold f169
 rw [Ky,if_pos pa,A9]
 have ep:f213 (a.1,a.2) w=some (Gq a w):=poolP a w
 rw [ep,A9]
 simp only
 have L:=Fx (B:=fun go (x:Int×List Int)=>f169_l1 g (Gq a w) go x.1 x.2) (fun k=>((k:Int),pkL (Gq a w).2.2.2 g.2 (prd a.1).toNat k)) g.2.length (pkL (Gq a w).2.2.2 g.2 (prd a.1).toNat g.2.length) ?_ ?_ (by omega)
 ·have L':Fp (fun go (x:Int×List Int)=>f169_l1 g (Gq a w) go x.1 x.2) Fq ((0:Int),List.replicate (prd a.1).toNat 0)=_:=L
  rw [L'];rfl
 ·intro k hk go
  obtain ⟨p0,p1⟩:=hp k (by omega)
  unfold f169_l1
  simp only [pkL_len]
  rw [dT,cond_true,Bh,Bh,Bh,Gh k]
  rfl
 ·intro go
  unfold f169_l1
  simp only
  rw [dF,cond_false]
theorem pickedR:Fp (fun go (x:Int×List Int)=>f80_l8 g (Gq a w) go x.1 x.2) Fq ((0:Int),List.replicate (prd a.1).toNat 0)=some (pkL (Gq a w).2.2.2 g.2 (prd a.1).toNat g.2.length):=by
 obtain ⟨ga,hn,hn4,hp⟩:=pool_places a w h
 obtain ⟨pl,_⟩:=pk_len g a w h gg hd
 obtain ⟨pa,la,_,la2⟩:=Fw ga
 refine Fx (B:=fun go (x:Int×List Int)=>f80_l8 g (Gq a w) go x.1 x.2) (fun k=>((k:Int),pkL (Gq a w).2.2.2 g.2 (prd a.1).toNat k)) g.2.length (pkL (Gq a w).2.2.2 g.2 (prd a.1).toNat g.2.length) ?_ ?_ (by omega)
 ·intro k hk go
  obtain ⟨p0,p1⟩:=hp k (by omega)
  unfold f80_l8
  simp only [pkL_len]
  rw [dT,cond_true,Bh,Bh,Bh,Gh k]
  rfl
 ·intro go
  unfold f80_l8
  simp only
  rw [dF,cond_false]
end
def Bth (T:List Nd) (i:Nat):Prop:=∃ ga gb,NodeOk T i ga gb∧NodeR T i ga gb
section
variable (l:List Nd) (i A:Nat) (h1:i<l.length) (ha:(gn l i).2.1=A) (hA:A<i) (gA:F4 (nd l A)) (gT:F4 (nd l i))
include h1 ha hA gA gT
theorem Lm (op:Int) (h:(gn l i).1=op) (ho:op≠1) (hb:(gn l i).2.2.1<l.length) (g:Tn) (hg:F4 g) (hd:g.1=(nd l i).1) (X:Option (Int×List Int×List Int×List Int×List Int×List Nd))
  (hx:op=6∨op=7∨op=8∨op=12∨op=13∨op=14)
  (H:(if op=6 then D4 (f125 (vl l (gn l i).2.2.1)) fun u=>D4 (f125 (nd l A)) fun v=>D4 (f126 g u.2) fun p=>D4 (f126 v.2 g) fun q=>some ((0:Int),p.2.1,p.2.2,q.2.1,q.2.2,l)
   else if op=7 then D4 (f125 g) fun p=>some ((0:Int),p.2.1,p.2.2,[],[],l)
   else if op=8 then D4 (f79 (nd l A).1 0) fun q=>D4 (Fp (fun go (x:Int×List Int)=>f80_l5 l (i:Int) g go x.1 x.2) Fq ((0:Int),q.2)) fun z=>some ((0:Int),q.1,z,[],[],l)
   else if op=12 then D4 (f80_j6 l (i:Int) g (vl l (gn l i).2.2.1)) fun p=>D4 (f80_j7 l (i:Int) g (vl l (gn l i).2.2.1)) fun q=>some ((0:Int),p.1,p.2,q.1,q.2,l)
   else if op=13 then D4 (f79 (nd l A).1 0) fun q=>D4 (f134 (nd l A) (gn l i).2.2.2.1) fun r=>D4 (Fp (fun go (x:Int×List Int)=>f80_l8 g r go x.1 x.2) Fq ((0:Int),q.2)) fun z=>some ((0:Int),q.1,z,[],[],l)
   else D4 (f135 g (nd l A).1) fun p=>some ((0:Int),p.2.1,p.2.2,[],[],l))=X) :
  f80 l (i:Int) g=X:=by
 unfold f80
 have e:rd (Ty.z (.p (.int .i64) (.p (.int .i64) (.p (.int .i64) (.p (.int .i64) (.p (.sl (.int .i64)) (.sl (.int .i64)))))))) l (i:Int)=gn l i:=rfl
 have g1:0≤(i:Int)∧(i:Int)<(l.length:Int):=by omega
 have g2:0≤(A:Int)∧(A:Int)<(l.length:Int):=by omega
 rw [one_j2 l i h1 g hg hd,A9,Fl,e,h,ha,Bh g1,bF ho,cond_false,Bh g2,one_j4 l i hb,A9]
 rcases hx with rfl | rfl | rfl | rfl | rfl | rfl <;> exact H
theorem b_flip (h:(gn l i).1=7) (hb:(gn l i).2.2.1=-1) (hT:flS (nd l A)=(0,nd l i)):Bth l i:=by
 have h2:(nd l A).1.length=2:=by
  unfold flS at hT
  rw [if_pos gA.1] at hT
  by_cases e:(nd l A).1.length=2
  ·exact e
  ·rw [if_neg e] at hT;exact absurd (show (4:Int)=0 from congrArg Prod.fst hT) (by decide)
 have dT1:(nd l i).1=[rd (0:Int) (nd l A).1 1,rd (0:Int) (nd l A).1 0]:=by
  unfold flS at hT
  rw [if_pos gA.1,if_pos h2] at hT
  exact (congrArg (fun x=>x.2.1) hT).symm
 have key:∀ g,F4 g→g.1=(nd l i).1→(flS g).1=0∧(flS g).2.1=(nd l A).1:=fun g hg hd=>by
  unfold flS
  rw [if_pos hg.1,if_pos (show g.1.length=2 by rw [hd,dT1];rfl),hd,dT1]
  exact ⟨rfl,(two_of h2).symm⟩
 refine ⟨fun g=>(flS g).2,fun _=>noT,⟨fun g hg hd=>?_,fun g hg hd=>?_,fun g hg hd _=>?_,fun g _ _ h0=>absurd h0 (by rw [hb];decide)⟩,fun h3=>absurd (h.symm.trans h3) (by decide),fun _=>by omega,fun _ g hg hd=>?_⟩
 ·unfold f115 f115_j1
  rw [h]
  have e:f165 (g.1,g.2)=some (flS g):=flP g
  show D4 (f165 (g.1,g.2)) _=_
  rw [e,A9,(key g hg hd).1]
 ·unfold f116;rw [h];rfl
 ·rw [ha,Int.toNat_natCast]
  exact ⟨by omega,fl_good g hg.2 (key g hg hd).1,(key g hg hd).2⟩
 ·refine Lm l i A h1 ha hA gA gT 7 h (by decide) (by omega) g hg hd _ (.inr (.inl rfl)) ?_
  have e:f125 g=some (flS g):=flR g
  rw [if_neg (by decide),if_pos rfl,e];rfl
theorem b_shape (h:(gn l i).1=14) (hb:(gn l i).2.2.1=-1) (hT:Li (nd l A) [((nd l A).2.length:Int)]=(0,nd l i)):Bth l i:=by
 obtain ⟨pA,lA,_,_⟩:=Fw gA.1
 have eT:0<prd [((nd l A).2.length:Int)]∧prd [((nd l A).2.length:Int)]=(nd l A).2.length∧(nd l i).1=[((nd l A).2.length:Int)]:=by
  unfold Li at hT
  by_cases c:Fu (nd l A)=true∧0<prd [((nd l A).2.length:Int)]
  ·rw [if_pos c] at hT
   by_cases e:prd [((nd l A).2.length:Int)]=(nd l A).2.length
   ·rw [if_pos e] at hT;exact ⟨c.2,e,(congrArg (fun x=>x.2.1) hT).symm⟩
   ·rw [if_neg e] at hT;exact absurd (show (4:Int)=0 from congrArg Prod.fst hT) (by decide)
  ·rw [if_neg c] at hT;exact absurd (show (1:Int)=0 from congrArg Prod.fst hT) (by decide)
 obtain ⟨e1,e2,e3⟩:=eT
 have key:∀ g,F4 g→g.1=(nd l i).1→Li g (nd l A).1=(0,(nd l A).1,g.2):=fun g hg hd=>by
  obtain ⟨_,lg,_,_⟩:=Fw hg.1
  rw [hd,e3,e2] at lg
  unfold Li
  rw [if_pos ⟨hg.1,pA⟩,iPo]
 refine ⟨fun g=>((nd l A).1,g.2),fun _=>noT,⟨fun g hg hd=>?_,fun g hg hd=>?_,fun g hg hd _=>?_,fun g _ _ h0=>absurd h0 (by rw [hb];decide)⟩,fun h3=>absurd (h.symm.trans h3) (by decide),fun _=>by omega,fun _ g hg hd=>?_⟩
 ·unfold f115 f115_j1
  rw [h,ha,Ja l A (by omega)]
  have e:f170 (g.1,g.2) (nd l A).1=some (Li g (nd l A).1):=reshP g _
  show D4 (f170 (g.1,g.2) (nd l A).1) _=_
  rw [e,key g hg hd];rfl
 ·unfold f116;rw [h];rfl
 ·rw [ha,Int.toNat_natCast]
  obtain ⟨_,lg,_,_⟩:=Fw hg.1
  rw [hd,e3,e2] at lg
  exact ⟨by omega,⟨G0 pA (by simp only;omega),hg.2⟩,rfl⟩
 ·refine Lm l i A h1 ha hA gA gT 14 h (by decide) (by omega) g hg hd _ (.inr (.inr (.inr (.inr (.inr rfl))))) ?_
  rw [if_neg (by decide),if_neg (by decide),if_neg (by decide),if_neg (by decide),if_neg (by decide),reshR,key g hg hd];rfl
theorem b_sum (K:Int) (h:(gn l i).1=8) (hb:(gn l i).2.2.1=-1) (hk:(gn l i).2.2.2.1=K) (hT:Kq (nd l A) K=(0,nd l i)):Bth l i:=by
 obtain ⟨pA,k0,k1⟩:=side_ask (nd l A) K (by rw [hT])
 refine ⟨fun g=>((nd l A).1,Ga (prd (nd l A).1).toNat (spV g (nd l A).1 K)),fun _=>noT,⟨fun g hg hd=>?_,fun g hg hd=>?_,fun g hg hd _=>?_,fun g _ _ h0=>absurd h0 (by rw [hb];decide)⟩,fun h3=>absurd (h.symm.trans h3) (by decide),fun _=>by omega,fun _ g hg hd=>?_⟩
 ·unfold f115 f115_j1
  rw [h,ha,hk,Ja l A (by omega)]
  have e:f166 (g.1,g.2) (nd l A).1 K=_:=spreadP g (nd l A).1 K hg.1 pA k0 k1
  show D4 (f166 (g.1,g.2) (nd l A).1 K) _=_
  rw [e];rfl
 ·unfold f116;rw [h];rfl
 ·rw [ha,Int.toNat_natCast]
  have:=F2 (nd l A).1
  obtain ⟨pg,lg,_,_⟩:=Fw hg.1
  refine ⟨by omega,⟨G0 pA (by simp only [Gb];omega),inI_tab (fun k _=>?_)⟩,rfl⟩
  obtain ⟨_,_,q0,q1⟩:=atQ_ok g.1 (cutP (plc (nd l A).1 (k:Int)) K) pg
  exact rd_any hg.2 _ q0 (by omega)
 ·refine Lm l i A h1 ha hA gA gT 8 h (by decide) (by omega) g hg hd _ (.inr (.inr (.inl rfl))) ?_
  rw [if_neg (by decide),if_neg (by decide),if_pos rfl,newR _ _ pA,A9,spreadR g (nd l A).1 K hg.1 pA k0 k1 l i A ha hk rfl];rfl
theorem b_pool (K:Int) (h:(gn l i).1=13) (hb:(gn l i).2.2.1=-1) (hk:(gn l i).2.2.2.1=K) (hT:(Gq (nd l A) K).1=0∧(nd l i).1=(Gq (nd l A) K).2.1):Bth l i:=by
 obtain ⟨t1,t2⟩:=hT
 obtain ⟨pA,lA,_,_⟩:=Fw gA.1
 refine ⟨fun g=>((nd l A).1,pkL (Gq (nd l A) K).2.2.2 g.2 (prd (nd l A).1).toNat g.2.length),fun _=>noT,⟨fun g hg hd=>?_,fun g hg hd=>?_,fun g hg hd _=>?_,fun g _ _ h0=>absurd h0 (by rw [hb];decide)⟩,fun h3=>absurd (h.symm.trans h3) (by decide),fun _=>by omega,fun _ g hg hd=>?_⟩
 ·unfold f115 f115_j1
  rw [h,ha,hk,Ja l A (by omega)]
  have e:f169 (g.1,g.2) ((nd l A).1,(nd l A).2) K=_:=pickedP g (nd l A) K t1 hg.1 (by rw [hd,t2])
  show D4 (f169 (g.1,g.2) ((nd l A).1,(nd l A).2) K) _=_
  rw [e];rfl
 ·unfold f116;rw [h];rfl
 ·rw [ha,Int.toNat_natCast]
  have:=F2 (nd l A).1
  exact ⟨by omega,⟨G0 pA (by simp only [pkL_len];omega),pkL_in _ _ _ hg.2 _ (Nat.le_refl _)⟩,rfl⟩
 ·refine Lm l i A h1 ha hA gA gT 13 h (by decide) (by omega) g hg hd _ (.inr (.inr (.inr (.inr (.inl rfl))))) ?_
  rw [if_neg (by decide),if_neg (by decide),if_neg (by decide),if_neg (by decide),if_pos rfl,newR _ _ pA,A9,hk,poolR,A9,pickedR g (nd l A) K t1 hg.1 (by rw [hd,t2])];rfl
variable (B:Nat) (hb:(gn l i).2.2.1=B) (hB:B<i) (gB:F4 (nd l B))
include hb hB gB
theorem b_mm (h:(gn l i).1=6) (hT:mmS (nd l A) (nd l B)=(0,nd l i)):Bth l i:=by
 have fit:Lp (nd l A) (nd l B)∧(nd l i).1=[rd (0:Int) (nd l A).1 0,rd (0:Int) (nd l B).1 1]:=by
  unfold mmS at hT
  rw [if_pos (show G4 (nd l A) (nd l B) from ⟨gA.1,gB.1⟩)] at hT
  by_cases e:Lp (nd l A) (nd l B)
  ·rw [if_pos e] at hT
   by_cases n0:0<prd [rd (0:Int) (nd l A).1 0,rd (0:Int) (nd l B).1 1]
   ·rw [if_pos n0] at hT;exact ⟨e,(congrArg (fun x=>x.2.1) hT).symm⟩
   ·rw [if_neg n0] at hT;exact absurd (show (2:Int)=0 from congrArg Prod.fst hT) (by decide)
  ·rw [if_neg e] at hT;exact absurd (show (4:Int)=0 from congrArg Prod.fst hT) (by decide)
 obtain ⟨⟨f1,f2,f3⟩,dT1⟩:=fit
 obtain ⟨pA,_,_,_⟩:=Fw gA.1
 obtain ⟨pB,_,_,_⟩:=Fw gB.1
 have eA:=two_of f1
 have eB:=two_of f2
 have flA:(flS (nd l A)).1=0∧(flS (nd l A)).2.1=[rd (0:Int) (nd l A).1 1,rd (0:Int) (nd l A).1 0]:=by unfold flS;rw [if_pos gA.1,if_pos f1];exact ⟨rfl,rfl⟩
 have flB:(flS (nd l B)).1=0∧(flS (nd l B)).2.1=[rd (0:Int) (nd l B).1 1,rd (0:Int) (nd l B).1 0]:=by unfold flS;rw [if_pos gB.1,if_pos f2];exact ⟨rfl,rfl⟩
 have gfA:=fl_good (nd l A) gA.2 flA.1
 have gfB:=fl_good (nd l B) gB.2 flB.1
 have k1:∀ g,F4 g→g.1=(nd l i).1→(mmS g (flS (nd l B)).2).1=0∧(mmS g (flS (nd l B)).2).2.1=(nd l A).1:=fun g hg hd=>by
  have eg:g.1=[rd (0:Int) (nd l A).1 0,rd (0:Int) (nd l B).1 1]:=hd.trans dT1
  unfold mmS
  rw [if_pos (show G4 g (flS (nd l B)).2 from ⟨hg.1,gfB.1⟩),if_pos (show Lp g (flS (nd l B)).2 from by rw [show Lp g (flS (nd l B)).2=(g.1.length=2∧(flS (nd l B)).2.1.length=2∧rd (0:Int) g.1 1=rd (0:Int) (flS (nd l B)).2.1 0) from rfl,eg,flB.2];exact ⟨rfl,rfl,rfl⟩)]
  have e2:[rd (0:Int) g.1 0,rd (0:Int) (flS (nd l B)).2.1 1]=(nd l A).1:=by
   rw [eg,flB.2]
   show [rd (0:Int) (nd l A).1 0,rd (0:Int) (nd l B).1 0]=(nd l A).1
   rw [← f3];exact eA.symm
  rw [if_pos (by rw [e2];exact pA)]
  exact ⟨rfl,e2⟩
 have k2:∀ g,F4 g→g.1=(nd l i).1→(mmS (flS (nd l A)).2 g).1=0∧(mmS (flS (nd l A)).2 g).2.1=(nd l B).1:=fun g hg hd=>by
  have eg:g.1=[rd (0:Int) (nd l A).1 0,rd (0:Int) (nd l B).1 1]:=hd.trans dT1
  unfold mmS
  rw [if_pos (show G4 (flS (nd l A)).2 g from ⟨gfA.1,hg.1⟩),if_pos (show Lp (flS (nd l A)).2 g from by rw [show Lp (flS (nd l A)).2 g=((flS (nd l A)).2.1.length=2∧g.1.length=2∧rd (0:Int) (flS (nd l A)).2.1 1=rd (0:Int) g.1 0) from rfl,eg,flA.2];exact ⟨rfl,rfl,rfl⟩)]
  have e2:[rd (0:Int) (flS (nd l A)).2.1 0,rd (0:Int) g.1 1]=(nd l B).1:=by
   rw [eg,flA.2]
   show [rd (0:Int) (nd l A).1 1,rd (0:Int) (nd l B).1 1]=(nd l B).1
   rw [f3];exact eB.symm
  rw [if_pos (by rw [e2];exact pB)]
  exact ⟨rfl,e2⟩
 refine ⟨fun g=>(mmS g (flS (nd l B)).2).2,fun g=>(mmS (flS (nd l A)).2 g).2,⟨fun g hg hd=>?_,fun g hg hd=>?_,fun g hg hd _=>?_,fun g hg hd _=>?_⟩,fun h3=>absurd (h.symm.trans h3) (by decide),fun _=>by omega,fun _ g hg hd=>?_⟩
 ·unfold f115 f115_j1
  rw [h,hb,Ja l B (by omega)]
  show D4 (f164 (g.1,g.2) ((nd l B).1,(nd l B).2) false) _=_
  unfold f164
  have e:f165 ((nd l B).1,(nd l B).2)=some (flS (nd l B)):=flP (nd l B)
  have e2:f200 (g.1,g.2) ((flS (nd l B)).2.1,(flS (nd l B)).2.2)=some (mmS g (flS (nd l B)).2):=mmP g _ hg.2 gfB.2
  simp only
  rw [cond_false,e,A9,nF flB.1,cond_false,e2,A9,A9,(k1 g hg hd).1]
 ·unfold f116
  rw [h,ha,Ja l A (by omega)]
  show D4 (f164 ((nd l A).1,(nd l A).2) (g.1,g.2) true) _=_
  unfold f164
  have e:f165 ((nd l A).1,(nd l A).2)=some (flS (nd l A)):=flP (nd l A)
  have e2:f200 ((flS (nd l A)).2.1,(flS (nd l A)).2.2) (g.1,g.2)=some (mmS (flS (nd l A)).2 g):=mmP _ g gfA.2 hg.2
  simp only
  rw [cond_true,e,A9,nF flA.1,cond_false,e2,A9,A9,(k2 g hg hd).1]
 ·rw [ha,Int.toNat_natCast]
  exact ⟨by omega,mm_good _ _ (k1 g hg hd).1,(k1 g hg hd).2⟩
 ·rw [hb,Int.toNat_natCast]
  exact ⟨by omega,mm_good _ _ (k2 g hg hd).1,(k2 g hg hd).2⟩
 ·refine Lm l i A h1 ha hA gA gT 6 h (by decide) (by omega) g hg hd _ (.inl rfl) ?_
  rw [if_pos rfl,hb,Ja l B (by omega),flR,A9,flR,A9,mmR _ _ hg.2 gfB.2,A9,mmR _ _ gfA.2 hg.2,A9]
theorem b_row (K:Int) (h:(gn l i).1=12) (hk:(gn l i).2.2.2.1=K) (hT:rowS (nd l A) (nd l B) K=(0,nd l i)):Bth l i:=by
 have fit:Ju (nd l A) (nd l B) K∧J7 (nd l A) (nd l B)∧(nd l i).1=[rd (0:Int) (nd l B).1 0,(F7 (rd (0:Int) (nd l A).1 1).toNat (rd (0:Int) (nd l B).1 2).toNat K.toNat:Int)]:=by
  unfold rowS at hT
  by_cases c:Ju (nd l A) (nd l B) K
  ·rw [if_pos c] at hT
   by_cases e:J7 (nd l A) (nd l B)
   ·rw [if_pos e] at hT
    by_cases n0:0<prd [rd (0:Int) (nd l B).1 0,(F7 (rd (0:Int) (nd l A).1 1).toNat (rd (0:Int) (nd l B).1 2).toNat K.toNat:Int)]
    ·rw [if_pos n0] at hT;exact ⟨c,e,(congrArg (fun x=>x.2.1) hT).symm⟩
    ·rw [if_neg n0] at hT;exact absurd (show (2:Int)=0 from congrArg Prod.fst hT) (by decide)
   ·rw [if_neg e] at hT;exact absurd (show (4:Int)=0 from congrArg Prod.fst hT) (by decide)
  ·rw [if_neg c] at hT;exact absurd (show (1:Int)=0 from congrArg Prod.fst hT) (by decide)
 obtain ⟨⟨_,_,s1,s64⟩,⟨f1,f2,f3,f4⟩,dT1⟩:=fit
 obtain ⟨pA,_,_,_⟩:=Fw gA.1
 obtain ⟨pB,_,_,_⟩:=Fw gB.1
 have eA:=two_of f1
 have eB:=three_of f2
 obtain ⟨q1,q2,q3⟩:=prod2 (c:=rd (0:Int) (nd l A).1 0) (L:=rd (0:Int) (nd l A).1 1) (by rw [← eA];exact pA)
 obtain ⟨w1,w2,w3,w4⟩:=prod3 (o:=rd (0:Int) (nd l B).1 0) (c:=rd (0:Int) (nd l B).1 1) (w:=rd (0:Int) (nd l B).1 2) (by rw [← eB];exact pB)
 obtain ⟨_,mA,_⟩:=Gw pA
 obtain ⟨_,mB,_⟩:=Gw pB
 have L4:rd (0:Int) (nd l A).1 1≤4096:=(mA _ (by rw [eA];simp)).2
 have W4:rd (0:Int) (nd l B).1 2≤4096:=(mB _ (by rw [eB];simp)).2
 have k1:∀ g,F4 g→g.1=(nd l i).1→(binS g (nd l B) K (rd (0:Int) (nd l A).1 1)).1=0∧(binS g (nd l B) K (rd (0:Int) (nd l A).1 1)).2.1=(nd l A).1:=fun g hg hd=>by
  have eg:=hd.trans dT1
  have e2:[rd (0:Int) (nd l B).1 1,rd (0:Int) (nd l A).1 1]=(nd l A).1:=by rw [f3];exact eA.symm
  unfold binS
  rw [if_pos (show Gs g (nd l B) K (rd (0:Int) (nd l A).1 1) from ⟨hg.1,gB.1,s1,s64,q2,L4⟩),
   if_pos (show L9 g (nd l B) K (rd (0:Int) (nd l A).1 1) from ⟨by rw [eg];rfl,f2,by rw [eg];rfl,f4,by rw [eg];rfl⟩),if_pos (by rw [e2];exact pA)]
  exact ⟨rfl,e2⟩
 have k2:∀ g,F4 g→g.1=(nd l i).1→(kerS g (nd l A) K (rd (0:Int) (nd l B).1 2)).1=0∧(kerS g (nd l A) K (rd (0:Int) (nd l B).1 2)).2.1=(nd l B).1:=fun g hg hd=>by
  have eg:=hd.trans dT1
  have e2:[rd (0:Int) g.1 0,rd (0:Int) (nd l A).1 0,rd (0:Int) (nd l B).1 2]=(nd l B).1:=by
   rw [eg]
   show [rd (0:Int) (nd l B).1 0,rd (0:Int) (nd l A).1 0,rd (0:Int) (nd l B).1 2]=(nd l B).1
   rw [← f3];exact eB.symm
  unfold kerS
  rw [if_pos (show Gs g (nd l A) K (rd (0:Int) (nd l B).1 2) from ⟨hg.1,gA.1,s1,s64,w3,W4⟩),
   if_pos (show Kb g (nd l A) K (rd (0:Int) (nd l B).1 2) from ⟨by rw [eg];rfl,f1,f4,by rw [eg];rfl⟩),if_pos (by rw [e2];exact pB)]
  exact ⟨rfl,e2⟩
 have gbin:∀ g,F4 g→g.1=(nd l i).1→F4 (binS g (nd l B) K (rd (0:Int) (nd l A).1 1)).2:=fun g hg hd=>by
  obtain ⟨z1,z2⟩:=k1 g hg hd
  have eg:=hd.trans dT1
  have e2:[rd (0:Int) (nd l B).1 1,rd (0:Int) (nd l A).1 1]=(nd l A).1:=by rw [f3];exact eA.symm
  unfold binS
  rw [if_pos (show Gs g (nd l B) K (rd (0:Int) (nd l A).1 1) from ⟨hg.1,gB.1,s1,s64,q2,L4⟩),
   if_pos (show L9 g (nd l B) K (rd (0:Int) (nd l A).1 1) from ⟨by rw [eg];rfl,f2,by rw [eg];rfl,f4,by rw [eg];rfl⟩),if_pos (by rw [e2];exact pA)]
  refine Lz (by rw [e2];exact pA) ?_ (fun _ _=>Jg _)
  rw [toN2 (by rw [f3];exact q1) q2,e2,eA,q3,f3]
  rfl
 have gker:∀ g,F4 g→g.1=(nd l i).1→F4 (kerS g (nd l A) K (rd (0:Int) (nd l B).1 2)).2:=fun g hg hd=>by
  have eg:=hd.trans dT1
  have e2:[rd (0:Int) g.1 0,rd (0:Int) (nd l A).1 0,rd (0:Int) (nd l B).1 2]=(nd l B).1:=by
   rw [eg]
   show [rd (0:Int) (nd l B).1 0,rd (0:Int) (nd l A).1 0,rd (0:Int) (nd l B).1 2]=(nd l B).1
   rw [← f3];exact eB.symm
  have eg0:rd (0:Int) g.1 0=rd (0:Int) (nd l B).1 0:=by rw [eg];rfl
  unfold kerS
  rw [if_pos (show Gs g (nd l A) K (rd (0:Int) (nd l B).1 2) from ⟨hg.1,gA.1,s1,s64,w3,W4⟩),
   if_pos (show Kb g (nd l A) K (rd (0:Int) (nd l B).1 2) from ⟨by rw [eg];rfl,f1,f4,by rw [eg];rfl⟩),if_pos (by rw [e2];exact pB)]
  refine Lz (by rw [e2];exact pB) ?_ (fun _ _=>Jg _)
  rw [Int.natCast_mul,toN2 q1 w3,Int.toNat_of_nonneg (by omega),eg0,← f3,← w4]
 refine ⟨fun g=>(binS g (nd l B) K (rd (0:Int) (nd l A).1 1)).2,fun g=>(kerS g (nd l A) K (rd (0:Int) (nd l B).1 2)).2,⟨fun g hg hd=>?_,fun g hg hd=>?_,fun g hg hd _=>?_,fun g hg hd _=>?_⟩,fun h3=>absurd (h.symm.trans h3) (by decide),fun _=>by omega,fun _ g hg hd=>?_⟩
 ·unfold f115 f115_j1
  rw [h,ha,hb,hk,Ja l A (by omega),Ja l B (by omega)]
  have e:f168 (g.1,g.2) ((nd l B).1,(nd l B).2) K (rd (0:Int) (nd l A).1 1)=some (binS g (nd l B) K (rd (0:Int) (nd l A).1 1)):=binP g (nd l B) K _ hg.2 gB.2
  show Ey (0≤(1:Int)∧(1:Int)<(List.length (nd l A).1:Int)) (D4 (f168 (g.1,g.2) ((nd l B).1,(nd l B).2) K (rd (0:Int) (nd l A).1 1)) _)=_
  rw [Bh,e,A9,(k1 g hg hd).1]
 ·unfold f116
  rw [h,ha,hb,hk,Ja l A (by omega),Ja l B (by omega)]
  have e:f171 (g.1,g.2) ((nd l A).1,(nd l A).2) K (rd (0:Int) (nd l B).1 2)=some (kerS g (nd l A) K (rd (0:Int) (nd l B).1 2)):=kerP g (nd l A) K _ hg.2 gA.2
  show Ey (0≤(2:Int)∧(2:Int)<(List.length (nd l B).1:Int)) (D4 (f171 (g.1,g.2) ((nd l A).1,(nd l A).2) K (rd (0:Int) (nd l B).1 2)) _)=_
  rw [Bh,e,A9,(k2 g hg hd).1]
 ·rw [ha,Int.toNat_natCast]
  exact ⟨by omega,gbin g hg hd,(k1 g hg hd).2⟩
 ·rw [hb,Int.toNat_natCast]
  exact ⟨by omega,gker g hg hd,(k2 g hg hd).2⟩
 ·refine Lm l i A h1 ha hA gA gT 12 h (by decide) (by omega) g hg hd _ (.inr (.inr (.inr (.inl rfl)))) ?_
  have e:rd (Ty.z (.p (.int .i64) (.p (.int .i64) (.p (.int .i64) (.p (.int .i64) (.p (.sl (.int .i64)) (.sl (.int .i64)))))))) l (i:Int)=gn l i:=rfl
  have eAl:(rd (Ty.z (.p (.int .i64) (.p (.int .i64) (.p (.int .i64) (.p (.int .i64) (.p (.sl (.int .i64)) (.sl (.int .i64)))))))) l (A:Int)).2.2.2.2=nd l A:=rfl
  have eI:f132 (g.1,g.2) ((nd l B).1,(nd l B).2) K (rd (0:Int) (nd l A).1 1)=some (binS g (nd l B) K (rd (0:Int) (nd l A).1 1)):=binR g (nd l B) K _ hg.2 gB.2
  have eK:f133 (g.1,g.2) ((nd l A).1,(nd l A).2) K (rd (0:Int) (nd l B).1 2)=some (kerS g (nd l A) K (rd (0:Int) (nd l B).1 2)):=kerR g (nd l A) K _ hg.2 gA.2
  have j6:f80_j6 l (i:Int) g (nd l B)=some (binS g (nd l B) K (rd (0:Int) (nd l A).1 1)).2:=by
   unfold f80_j6
   rw [e,ha,hk,eAl,Bh,eI];rfl
  have j7:f80_j7 l (i:Int) g (nd l B)=some (kerS g (nd l A) K (rd (0:Int) (nd l B).1 2)).2:=by
   unfold f80_j7
   rw [e,ha,hk,eAl,Bh,eK];rfl
  rw [if_neg (by decide),if_neg (by decide),if_neg (by decide),if_pos rfl,hb,Ja l B (by omega),j6,A9,j7,A9]
end
def GL (l:List Nd):Prop:=∀ i,i<l.length→F4 (nd l i)
theorem gl_nil:GL []:=fun i h=>absurd h (by simp)
theorem gl_push {l:List Nd} (G:GL l) (n:Nd) (h:F4 n.2.2.2.2):GL (l++[n]):=fun i hi=>by
 by_cases e:i<l.length
 ·rw [Ld _ _ _ e];exact G i e
 ·have:i=l.length:=by simp at hi;omega
  subst this
  rw [Kz];exact h
def PN (l:List Nd) (n:Nd):Prop:=
 (n.1=1∧n.2.1=-1∧n.2.2.1=-1)∨
 (∃ (A B:Nat) (k:Int),n.2.1=A∧n.2.2.1=B∧n.2.2.2.1=cntK n.1 k∧A<l.length∧B<l.length∧Kh n.1=true∧f195 n.1 (nd l A) (nd l B) k=some (0,n.2.2.2.2))∨
 ∃ (A:Nat) (k:Int),n.2.1=A∧n.2.2.1=-1∧n.2.2.2.1=cntK n.1 k∧A<l.length∧2≤n.1∧n.1≤14∧Kh n.1=false∧InR k∧f196 n.1 (nd l A) k=some (0,n.2.2.2.2)
def PL (l:List Nd):Prop:=GL l∧∀ i,i<l.length→PN (l.take i) (gn l i)
theorem pl_nil:PL []:=⟨gl_nil,fun i h=>absurd h (by simp)⟩
theorem pl_push {l:List Nd} (P:PL l) (n:Nd) (h:F4 n.2.2.2.2) (hn:PN l n):PL (l++[n]):=by
 refine ⟨gl_push P.1 n h,fun i hi=>?_⟩
 by_cases e:i<l.length
 ·rw [gn_app _ _ _ e,List.take_append_of_le_length (by omega)];exact P.2 i e
 ·have:i=l.length:=by simp at hi;omega
  subst this
  rw [gn_last,List.take_append_of_le_length (Nat.le_refl _),List.take_length];exact hn
theorem nd_take (l:List Nd) (i j:Nat) (h:j<i) (hi:i≤l.length):nd (l.take i) j=nd l j:=by
 unfold nd
 rw [Gg _ _ _ (by rw [List.length_take];omega),Gg _ _ _ (by omega),List.getElem_take]
def Says2 (p q:Option (Int×Int×List Nd)) (l:List Nd):Prop:=∃ i e m,p=some (i,e,m)∧q=some (i,e,m)∧PL m∧m.length≤l.length+1∧(e=0→i=l.length∧m.length=l.length+1)
theorem says_leaf2 (l:List Nd) (x:Tn) (hl:l.length<512) (P:PL l) (ix:inI x.2):Says2 (f100 l x) (f77 l x) l:=by
 by_cases g:Fu x=true
 ·exact ⟨_,_,_,leaf_ok l x hl g,leafR l x hl g,pl_push P _ ⟨g,ix⟩ (.inl ⟨rfl,rfl,rfl⟩),by simp,fun _=>⟨rfl,by simp⟩⟩
 ·refine ⟨0,1,l,?_,?_,P,by omega,fun h=>absurd h (by decide)⟩
  ·unfold f100
   have e:f113 (x.1,x.2)=some (Fu x):=F8 x
   rw [dF,cond_false,e,show Fu x=false by simpa using g];rfl
  ·unfold f77
   have e:f118 (x.1,x.2)=some (Fu x):=isR x
   rw [dF,cond_false,e,show Fu x=false by simpa using g];rfl
theorem says_do2 (l:List Nd) (op a b k:Int) (hl:l.length<512) (P:PL l) (hk:InR k):Says2 (f157 l op a b k) (f78 l op a b k) l:=by
 have G:=P.1
 by_cases c:2≤op∧op≤14∧0≤a∧a<l.length∧(Kh op=true→0≤b∧b<l.length)
 ·obtain ⟨o1,o2,a0,a1,hb⟩:=c
  obtain ⟨A,rfl⟩:=Int.eq_ofNat_of_zero_le a0
  have hA:A<l.length:=by omega
  have hj1P:f157_j1 l op A b=some (Sum.inl l):=by
   unfold f157_j1
   rw [dF,dF,dF,hasP,dT (show 0≤(A:Int)∧(A:Int)<l.length by omega),two_ok]
   simp only [cond_false,A9,Bool.not_true]
   cases ht:Kh op
   ·rfl
   ·rw [cond_true,hasP,dT (hb ht)];rfl
  have hj1R:f78_j1 l op A b=some (Sum.inl ()):=by
   unfold f78_j1
   rw [dF,dF,dF,dF,twoR]
   simp only [cond_false,A9]
   cases ht:Kh op
   ·rfl
   ·have:=hb ht
    rw [dF,dF];rfl
  have gA:0≤(A:Int)∧(A:Int)<(l.length:Int):=by omega
  have main:∃ (r:Int×Tn) (bn:Int) (B:Tn),f157_j3 op A b k l=some (r.1,bn,r.2.1,r.2.2)∧f78_j2 l op b=some (bn,B)∧f78_j4 l op A (bn,B) (cntK op k)=some r∧(r.1=0→F4 r.2∧((Kh op=true∧∃ B':Nat,bn=B'∧B' < l.length∧f195 op (nd l A) (nd l B') k=some r)∨(Kh op=false∧bn=-1∧f196 op (nd l A) k=some r))):=by
   cases ht:Kh op
   ·obtain ⟨r,e1,e2,e3⟩:=one_ok op (nd l A) k hk o1 o2 ht (G A hA)
    have e1':=e1
    refine ⟨r,-1,noT,?_,?_,?_,fun h0=>⟨e3 h0,.inr ⟨rfl,rfl,e1'⟩⟩⟩
    ·unfold f157_j3
     unfold nd at e1
     rw [two_ok,ht,A9,cond_false,Bh gA,e1];rfl
    ·unfold f78_j2
     rw [twoR,ht];rfl
    ·unfold f78_j4
     have e:f121 op ((rd (Ty.z (.p (.int .i64) (.p (.int .i64) (.p (.int .i64) (.p (.int .i64) (.p (.sl (.int .i64)) (.sl (.int .i64)))))))) l (A:Int)).2.2.2.2.1,(rd (Ty.z (.p (.int .i64) (.p (.int .i64) (.p (.int .i64) (.p (.int .i64) (.p (.sl (.int .i64)) (.sl (.int .i64)))))))) l (A:Int)).2.2.2.2.2) (((-1:Int),noT).2.1,((-1:Int),noT).2.2) (cntK op k)=some r:=e2
     rw [Bh gA,e];rfl
   ·have gB:=hb ht
    obtain ⟨B,rfl⟩:=Int.eq_ofNat_of_zero_le gB.1
    have hB:B<l.length:=by omega
    obtain ⟨r,e1,e2,e3⟩:=pair_ok op (nd l A) (nd l B) k ht (G A hA) (G B hB)
    have e1':=e1
    refine ⟨r,(B:Int),nd l B,?_,?_,?_,fun h0=>⟨e3 h0,.inl ⟨rfl,B,rfl,hB,e1'⟩⟩⟩
    ·unfold f157_j3
     unfold nd at e1
     rw [two_ok,ht,A9,cond_true,Bh gA,Bh gB,e1];rfl
    ·unfold f78_j2
     rw [twoR,ht,A9,cond_true,Bh gB];rfl
    ·unfold f78_j4
     have e:f121 op ((rd (Ty.z (.p (.int .i64) (.p (.int .i64) (.p (.int .i64) (.p (.int .i64) (.p (.sl (.int .i64)) (.sl (.int .i64)))))))) l (A:Int)).2.2.2.2.1,(rd (Ty.z (.p (.int .i64) (.p (.int .i64) (.p (.int .i64) (.p (.int .i64) (.p (.sl (.int .i64)) (.sl (.int .i64)))))))) l (A:Int)).2.2.2.2.2) (((B:Int),nd l B).2.1,((B:Int),nd l B).2.2) (cntK op k)=some r:=e2
     rw [Bh gA,e];rfl
  obtain ⟨r,bn,B,m1,m2,m3,m4⟩:=main
  unfold Says2 f157 f78
  rw [hj1P,A9,Fl,cnt_ok,A9,m1,A9,dF,cond_false,hj1R,A9,Fl,m2,A9,cntR,A9,m3,A9]
  by_cases er:r.1=0
  ·have h3:∀ x:Nd,(l.length+List.length [x])*80≤140737488355328:=fun x=>by simp only [List.length_cons,List.length_nil];omega
   refine ⟨(l.length:Int),0,l++[(op,(A:Int),bn,cntK op k,r.2.1,r.2.2)],?_,?_,pl_push P _ (m4 er).1 ?_,by simp,fun _=>⟨rfl,by simp⟩⟩
   ·rw [nF er,cond_false,push_ok _ _ hl];rfl
   ·rw [nF er,cond_false,Bh (h3 _),List.length_append,E9 (by simp <;> omega) (by simp <;> omega)]
    simp
   ·rcases (m4 er).2 with ⟨t1,B',t2,t3,t4⟩ | ⟨t1,t2,t3⟩
    ·exact .inr (.inl ⟨A,B',k,rfl,t2,rfl,hA,t3,t1,by rw [t4];exact congrArg some (Prod.ext er rfl)⟩)
    ·exact .inr (.inr ⟨A,k,rfl,t2,rfl,hA,o1,o2,t1,hk,by rw [t3];exact congrArg some (Prod.ext er rfl)⟩)
  ·refine ⟨0,r.1,l,?_,?_,P,by omega,fun h=>absurd h er⟩
   ·rw [nT er];rfl
   ·rw [nT er];rfl
 ·refine ⟨0,1,l,?_,?_,P,by omega,fun h=>absurd h (by decide)⟩
  ·have hj1P:f157_j1 l op a b=some (Sum.inr (1,l)):=by
    unfold f157_j1
    rw [dF,cond_false]
    by_cases c1:op<2
    ·rw [dT c1];rfl
    rw [dF c1,cond_false]
    by_cases c2:op>14
    ·rw [dT c2];rfl
    rw [dF c2,cond_false,hasP,A9]
    by_cases c3:0≤a∧a<l.length
    ·rw [dT c3,Bool.not_true,cond_false,two_ok,A9]
     cases ht:Kh op
     ·exact absurd ⟨by omega,by omega,c3.1,c3.2,fun h=>absurd (ht.symm.trans h) (by decide)⟩ c
     ·rw [cond_true,hasP,A9]
      by_cases c4:0≤b∧b<l.length
      ·exact absurd ⟨by omega,by omega,c3.1,c3.2,fun _=>c4⟩ c
      ·rw [dF c4];rfl
    ·rw [dF c3];rfl
   unfold f157
   rw [hj1P];rfl
  ·have hj1R:f78_j1 l op a b=some (Sum.inr ()):=by
    unfold f78_j1
    by_cases c1:op<2
    ·rw [dT c1];rfl
    rw [dF c1,cond_false]
    by_cases c2:op>14
    ·rw [dT c2];rfl
    rw [dF c2,cond_false]
    by_cases c3:a<0
    ·rw [dT c3];rfl
    rw [dF c3,cond_false]
    by_cases c5:a≥l.length
    ·rw [dT c5];rfl
    rw [dF c5,cond_false,twoR,A9]
    cases ht:Kh op
    ·exact absurd ⟨by omega,by omega,by omega,by omega,fun h=>absurd (ht.symm.trans h) (by decide)⟩ c
    ·rw [cond_true]
     by_cases c4:b<0
     ·rw [dT c4];rfl
     rw [dF c4,cond_false]
     by_cases c6:b≥l.length
     ·rw [dT c6];rfl
     exact absurd ⟨by omega,by omega,by omega,by omega,fun _=>by omega⟩ c
   unfold f78
   rw [dF,cond_false,hj1R];rfl
theorem jn_fits {a b d:List Int} (J:Joined a b d):Fits a d∧Fits b d:=by
 have hl:=J.len
 refine ⟨⟨J.pa,J.pd,by omega,fun k hk h=>?_⟩,⟨J.pb,J.pd,by omega,fun k hk h=>?_⟩⟩
 ·have h1:=J.le k (by omega)
  have h2:=J.ok k (by omega)
  have h3:=Gv J.pb k
  omega
 ·have h1:=J.le k (by omega)
  have h2:=J.ok k (by omega)
  have h3:=Gv J.pa k
  omega
theorem both_fits {f:Int→Int→Int} {a b t:Tn} (h:Jd f a b=(0,t)):Fits a.1 t.1∧Fits b.1 t.1:=by
 unfold Jd at h
 by_cases c:Fu a=true∧Fu b=true
 ·rw [if_pos c] at h
  by_cases e:(jS a.1 b.1).1=0
  ·rw [if_pos e] at h
   have J:=jn_fits (jS_zero e)
   have:(jS a.1 b.1).2=t.1:=congrArg (fun x=>x.2.1) h
   rw [this] at J
   exact J
  ·rw [if_neg e] at h;exact absurd (show (jS a.1 b.1).1=0 from congrArg Prod.fst h) e
 ·rw [if_neg c] at h;exact absurd (show (1:Int)=0 from congrArg Prod.fst h) (by decide)
theorem pn_both (l:List Nd) (P:PL l) (i:Nat) (hi:i<l.length):Bth l i:=by
 have G:=P.1
 have gT:=G i hi
 have ht:(l.take i).length=i:=by rw [List.length_take];omega
 rcases P.2 i hi with ⟨h,ha,hb⟩ | ⟨A,B,k,ha,hb,hk,hA,hB,h2,hp⟩ | ⟨A,k,ha,hb,hk,hA,o1,o2,h2,ik,hp⟩
 ·exact ⟨_,_,ok_leaf l i h ha hb,r_leaf l i h ha hb⟩
 ·rw [ht] at hA hB
  rw [nd_take l i A hA (by omega),nd_take l i B hB (by omega)] at hp
  have gA:=G A (by omega)
  have gB:=G B (by omega)
  have ho:(gn l i).1=2∨(gn l i).1=3∨(gn l i).1=4∨(gn l i).1=6∨(gn l i).1=12:=by unfold Kh at h2;exact of_decide_eq_true h2
  rcases ho with h | h | h | h | h <;> rw [h] at hp hk
  ·have e:f195 2 (nd l A) (nd l B) k=some (Jd addV (nd l A) (nd l B)):=by
    show D4 (f117 (nd l A) (nd l B)) _=_
    rw [addP _ _ gA.2 gB.2];rfl
   rw [e] at hp
   injection hp with hp
   obtain ⟨FA,FB⟩:=both_fits hp
   exact ⟨_,_,ok_add l i A B h ha hb hA hB hi FA FB,r_add l i A B h ha hb hA hB hi FA FB⟩
  ·have e:f195 3 (nd l A) (nd l B) k=some (Jd subV (nd l A) (nd l B)):=by
    show D4 (f218 (nd l A) (nd l B)) _=_
    rw [subP _ _ gA.2 gB.2];rfl
   rw [e] at hp
   injection hp with hp
   obtain ⟨FA,FB⟩:=both_fits hp
   exact ⟨_,_,ok_sub l i A B h ha hb hA hB hi FA FB,r_sub l i A B h ha hb hA hB hi FA FB⟩
  ·have e:f195 4 (nd l A) (nd l B) k=some (Jd K9 (nd l A) (nd l B)):=by
    show D4 (f161 (nd l A) (nd l B)) _=_
    rw [mulP _ _ gA.2 gB.2];rfl
   rw [e] at hp
   injection hp with hp
   obtain ⟨FA,FB⟩:=both_fits hp
   exact ⟨_,_,ok_mul l i A B h ha hb hA hB hi gA gB FA FB,r_mul l i A B h ha hb hA hB hi gA gB FA FB⟩
  ·have e:f195 6 (nd l A) (nd l B) k=some (mmS (nd l A) (nd l B)):=by
    show D4 (f200 (nd l A) (nd l B)) _=_
    rw [mmP _ _ gA.2 gB.2];rfl
   rw [e] at hp
   injection hp with hp
   exact b_mm l i A hi ha hA gA gT B hb hB gB h hp
  ·have e:f195 12 (nd l A) (nd l B) k=some (rowS (nd l A) (nd l B) k):=by
    show D4 (f219 (nd l A) (nd l B) k) _=_
    rw [rowP _ _ _ gA.2 gB.2];rfl
   rw [e] at hp
   injection hp with hp
   exact b_row l i A hi ha hA gA gT B hb hB gB k h hk hp
 ·rw [ht] at hA
  rw [nd_take l i A hA (by omega)] at hp
  have gA:=G A (by omega)
  have h1:¬((gn l i).1=2∨(gn l i).1=3∨(gn l i).1=4∨(gn l i).1=6∨(gn l i).1=12):=by unfold Kh at h2;exact of_decide_eq_false h2
  have ho:(gn l i).1=5∨(gn l i).1=7∨(gn l i).1=8∨(gn l i).1=9∨(gn l i).1=10∨(gn l i).1=11∨(gn l i).1=13∨(gn l i).1=14:=by omega
  rcases ho with h | h | h | h | h | h | h | h <;> rw [h] at hp hk
  ·have e:f196 5 (nd l A) k=some (scaleS (nd l A) k):=by
    show D4 (f163 (nd l A) k) _=_
    rw [scaleP _ _ gA.2 ik];rfl
   rw [e] at hp
   injection hp with hp
   have hd:(nd l A).1=(nd l i).1:=by
    unfold scaleS at hp
    rw [if_pos gA.1] at hp
    exact congrArg (fun x=>x.2.1) hp
   exact ⟨_,_,ok_scale l i A k h ha hb hk hA hi ik hd,r_scale l i A k h ha hb hk hA hi ik hd⟩
  ·have e:f196 7 (nd l A) k=some (flS (nd l A)):=by
    show D4 (f165 (nd l A)) _=_
    rw [flP];rfl
   rw [e] at hp
   injection hp with hp
   exact b_flip l i A hi ha hA gA gT h hb hp
  ·have e:f196 8 (nd l A) k=some (Kq (nd l A) k):=by
    show D4 (f220 (nd l A) k) _=_
    rw [sideP _ _ gA.2];rfl
   rw [e] at hp
   injection hp with hp
   exact b_sum l i A hi ha hA gA gT k h hb hk hp
  ·have e:f196 9 (nd l A) k=some (0,[],[sat (sumL (nd l A).2)]):=by
    show D4 (f222 (nd l A)) _=_
    rw [allP _ gA.2 gA.1,A9]
    simp only
    rw [single_go];rfl
   rw [e] at hp
   injection hp with hp
   have hd:(nd l i).1=[]:=(congrArg (fun x=>x.2.1) hp).symm
   exact ⟨_,_,ok_all l i A h ha hb hA hi gA hd,r_all l i A h ha hb hA hi gA hd⟩
  ·have e:f196 10 (nd l A) k=some (0,[],[sat (rdI (sumL (nd l A).2) (nd l A).2.length)]):=by
    show D4 (f223 (nd l A)) _=_
    rw [meanP _ gA.2 gA.1,A9]
    simp only
    rw [single_go];rfl
   rw [e] at hp
   injection hp with hp
   have hd:(nd l i).1=[]:=(congrArg (fun x=>x.2.1) hp).symm
   exact ⟨_,_,ok_mean l i A h ha hb hA hi gA hd,r_mean l i A h ha hb hA hi gA hd⟩
  ·have e:f196 11 (nd l A) k=some (Lx k (nd l A)):=by
    show D4 (f224 k (nd l A)) _=_
    rw [bentP _ _ gA.2];rfl
   rw [e] at hp
   injection hp with hp
   have hd:(1≤k∧k≤5)∧(nd l A).1=(nd l i).1:=by
    unfold Lx at hp
    by_cases c:1≤k∧k≤5∧Fu (nd l A)=true
    ·rw [if_pos c] at hp;exact ⟨⟨c.1,c.2.1⟩,congrArg (fun x=>x.2.1) hp⟩
    ·rw [if_neg c] at hp;exact absurd (show (1:Int)=0 from congrArg Prod.fst hp) (by decide)
   exact ⟨_,_,ok_bend l i A k h ha hb hk hd.1.1 hd.1.2 hA hi gA hd.2,r_bend l i A k h ha hb hk hd.1.1 hd.1.2 hA hi gA hd.2⟩
  ·have e:f196 13 (nd l A) k=some ((Gq (nd l A) k).1,(Gq (nd l A) k).2.1,(Gq (nd l A) k).2.2.1):=by
    show D4 (f213 (nd l A) k) _=_
    rw [poolP];rfl
   rw [e] at hp
   injection hp with hp
   exact b_pool l i A hi ha hA gA gT k h hb hk ⟨congrArg Prod.fst hp,(congrArg (fun x=>x.2.1) hp).symm⟩
  ·have e:f196 14 (nd l A) k=some (Li (nd l A) [((nd l A).2.length:Int)]):=by
    show D4 (f170 (nd l A) [((nd l A).2.length:Int)]) _=_
    rw [reshP];rfl
   rw [e] at hp
   injection hp with hp
   exact b_shape l i A hi ha hA gA gT h hb hp
theorem do_b (l:List Nd) (op a b b' k:Int) (h:Kh op=false):f157 l op a b k=f157 l op a b' k:=by
 unfold f157 f157_j1 f157_j3
 rw [two_ok,h]
 rfl
def LR (l0 N:Nat) (i e:Int) (l:List Nd) (i' e':Int) (l':List Nd):Prop:=
 (e=0∧e'=0∧i'=i∧l'=l∧PL l∧l.length≤N∧i+1=l.length∧l0<l.length)∨(e≠0∧e'=e)
theorem lr_of {l0 N:Nat} {i e:Int} {m:List Nd} {l:List Nd} (h1:PL m) (h2:m.length≤l.length+1) (h3:e=0→i=l.length∧m.length=l.length+1) (hl:l.length≤N) (h0:l0≤l.length):LR l0 (N+1) i e m i e m:=by
 by_cases he:e=0
 ·obtain ⟨a,b⟩:=h3 he
  exact .inl ⟨he,he,rfl,rfl,h1,by omega,by omega,by omega⟩
 ·exact .inr ⟨he,rfl⟩
theorem ls_first {l0:Nat} {l:List Nd} (P:PL l) (hl:l.length≤500) (h0:l0=l.length) (was:Int) (v d:List Int) (iv:inI v) (hd:d=[(v.length:Int)]) :
  ∃ i e m,f106 l was 0 v=some (i,was,e,m)∧f77 l (d,v)=some (i,e,m)∧LR l0 501 i e m i e m:=by
 subst hd
 obtain ⟨i,e,m,e1,e2,e3,e4,e5⟩:=says_leaf2 l ([(v.length:Int)],v) (by omega) P iv
 refine ⟨i,e,m,?_,e2,lr_of e3 e4 e5 (by omega) (by omega)⟩
 unfold f106
 rw [nF rfl,cond_false,e1];rfl
section
variable {l0 N:Nat} {i e:Int} {l:List Nd} {i' e':Int} {l':List Nd} (R:LR l0 N i e l i' e' l') (hN:N<512) (was:Int)
include R hN
theorem ls_core (op a b a' b' k:Int) (hk:InR k) (ha:e=0→a'=a∧(b'=b∨Kh op=false)) :
  (∃ j f m,e=0∧e'=0∧f105 l was e op a b k=some (j,was,f,m)∧f78 l' op a' b' k=some (j,f,m)∧LR l0 (N+1) j f m j f m)∨
  (e≠0∧e'≠0∧e'=e∧f105 l was e op a b k=some (0,was,e,l)):=by
 rcases R with ⟨h1,h2,rfl,rfl,P,hl,hi,hz⟩ | ⟨h1,h2⟩
 ·obtain ⟨rfl,hb⟩:=ha h1
  obtain ⟨j,f,m,e1,e2,e3,e4,e5⟩:=says_do2 l' op a' b' k (by omega) P hk
  refine .inl ⟨j,f,m,h1,h2,?_,e2,lr_of e3 e4 e5 hl (by omega)⟩
  unfold f105
  rw [nF h1,cond_false]
  have:f157 l' op a' b k=f157 l' op a' b' k:=by
   rcases hb with rfl | hb
   ·rfl
   ·exact do_b _ _ _ _ _ _ hb
  rw [this,e1];rfl
 ·refine .inr ⟨h1,by rw [h2];exact h1,h2,?_⟩
  unfold f105
  rw [nT h1];rfl
theorem ls_A (op a b a' b' k:Int) (hk:InR k) (ha:e=0→a'=a∧(b'=b∨Kh op=false)) (i0:Int) (m0:List Nd) :
  ∃ j f m j' f' m',f105 l was e op a b k=some (j,was,f,m)∧(bif (e'==(0:Int)) then D4 (f78 l' op a' b' k) fun r=>some (r.1,r.2.1,r.2.2) else some (i0,e',m0))=some (j',f',m')∧
   LR l0 (N+1) j f m j' f' m'∧(f=0→e=0):=by
 rcases ls_core R hN was op a b a' b' k hk ha with ⟨j,f,m,h1,h2,e1,e2,e3⟩ | ⟨h1,h2,h3,e1⟩
 ·exact ⟨j,f,m,j,f,m,e1,by rw [bT h2,cond_true,e2];rfl,e3,fun _=>h1⟩
 ·exact ⟨0,e,l,i0,e',m0,e1,by rw [bF h2];rfl,.inr ⟨h1,h3⟩,fun h=>h⟩
theorem ls_B (op a b a' b' k:Int) (hk:InR k) (ha:e=0→a'=a∧(b'=b∨Kh op=false)) (i0:Int) (m0:List Nd) :
  ∃ j f m j' f' m',f105 l was e op a b k=some (j,was,f,m)∧(bif (e'==(0:Int)) then D4 (f78 l' op a' b' k) fun r=>some (r.2.1,r.1,r.2.2) else some (e',i0,m0))=some (f',j',m')∧
   LR l0 (N+1) j f m j' f' m'∧(f=0→e=0):=by
 rcases ls_core R hN was op a b a' b' k hk ha with ⟨j,f,m,h1,h2,e1,e2,e3⟩ | ⟨h1,h2,h3,e1⟩
 ·exact ⟨j,f,m,j,f,m,e1,by rw [bT h2,cond_true,e2];rfl,e3,fun _=>h1⟩
 ·exact ⟨0,e,l,i0,e',m0,e1,by rw [bF h2];rfl,.inr ⟨h1,h3⟩,fun h=>h⟩
theorem ls_leafB (v d:List Int) (iv:inI v) (hd:d=[(v.length:Int)]) (i0:Int) (m0:List Nd) :
  ∃ j f m j' f' m',f106 l was e v=some (j,was,f,m)∧(bif (e'==(0:Int)) then D4 (f77 l' (d,v)) fun r=>some (r.2.1,r.1,r.2.2) else some (e',i0,m0))=some (f',j',m')∧
   LR l0 (N+1) j f m j' f' m'∧(f=0→e=0):=by
 subst hd
 rcases R with ⟨h1,h2,rfl,rfl,P,hl,hi,hz⟩ | ⟨h1,h2⟩
 ·obtain ⟨j,f,m,e1,e2,e3,e4,e5⟩:=says_leaf2 l' ([(v.length:Int)],v) (by omega) P iv
  refine ⟨j,f,m,j,f,m,?_,by rw [bT h2,cond_true,e2];rfl,lr_of e3 e4 e5 hl (by omega),fun _=>h1⟩
  unfold f106
  rw [nF h1,cond_false,e1];rfl
 ·refine ⟨0,e,l,i0,e',m0,?_,by rw [bF (by rw [h2];exact h1)];rfl,.inr ⟨h1,h2⟩,fun h=>h⟩
  unfold f106
  rw [nT h1];rfl
theorem ls_told:(∃ T,f107 l was e i=some (0,e,was,e,T)∧e≠0∧e'=e)∨(f107 l was e i=some (i,0,was,0,l)∧e=0∧e'=0∧i'=i∧l'=l∧PL l∧l.length≤N∧i+1=l.length∧l0<l.length):=by
 rcases R with ⟨h1,h2,h3,h4,h5⟩ | ⟨h1,h2⟩
 ·refine .inr ⟨?_,h1,h2,h3,h4,h5⟩
  unfold f107
  rw [nF h1,h1];rfl
 ·have hc:∃ T,f69 l was=some T:=by
   unfold f69
   exact ⟨_,Bh (by constructor <;> (repeat' split) <;> omega)⟩
  obtain ⟨T,hc⟩:=hc
  refine .inl ⟨T,?_,h1,h2⟩
  unfold f107
  rw [nT h1,cond_true,hc];rfl
end
def FB (l:List Nd) (p q:Option (Int×Int×List Nd)):Prop:=
 (∃ e T1 T2,e≠0∧p=some (0,e,T1)∧q=some (0,e,T2))∨∃ i T,p=some (i,0,T)∧q=some (i,0,T)∧PL T∧T.length≤512∧i+1=T.length∧l.length<T.length
abbrev rdN (l:List Nd) (out:Int):Nd:=rd (Ty.z (.p (.int .i64) (.p (.int .i64) (.p (.int .i64) (.p (.int .i64) (.p (.sl (.int .i64)) (.sl (.int .i64)))))))) l out
theorem rdN_vl {l:List Nd} {out:Int} (h:0≤out∧out<(l.length:Int)):(rdN l out).2.2.2.2=vl l out:=by
 obtain ⟨k,rfl⟩:=Int.eq_ofNat_of_zero_le h.1
 unfold vl
 rw [if_pos h];rfl
theorem row_of {t:Tn} (g:F4 t) (h:t.1.length=1):t.1=[(t.2.length:Int)]:=by
 obtain ⟨p0,p1,_,p2⟩:=Fw g.1
 match e:t.1,h with
 | [x],_=>
  rw [e] at p0 p1
  have hx:prd [x]=x:=by
   have e2:prd [x]=if x<1∨x>4096∨1*x>4096 then 0 else 1*x:=by unfold prd;simp [pgo]
   rw [e2] at p0 ⊢
   split at p0
   ·omega
   ·rename_i h1;rw [if_neg h1];omega
  rw [p1,hx]
theorem sq_may {l:List Nd} (P:PL l) (out:Int) (want:List Int) (c kind:Int) (hk:kind≠3) :
  (∃ e,e≠0∧f103 l out want=some (e,l)∧f41 l kind out want c=some (0,e,l))∨
  (f103 l out want=some (0,l)∧(0≤out∧out<(l.length:Int))∧f41_j1 l kind out want=some (Sum.inl ())∧f41_j2 l kind out c=some (Sum.inl ())∧(rdN l out).2.2.2.2.1=[(want.length:Int)]):=by
 unfold f103
 rw [valueP l out P.1,A9]
 by_cases h:0≤out∧out<(l.length:Int)
 ·rw [dT h]
  have ev:=rdN_vl h
  have hg:F4 (vl l out):=by
   have:=P.1 out.toNat (by omega)
   unfold vl;rw [if_pos h];exact this
  have e1:(rdN l out).2.2.2.2.1=(vl l out).1:=congrArg Prod.fst ev
  have e2:(rdN l out).2.2.2.2.2=(vl l out).2:=congrArg Prod.snd ev
  by_cases hw:(want.length:Int)=((vl l out).2.length:Int)
  ·have j1:f41_j1 l kind out want=some (Sum.inl ()):=by
    unfold f41_j1
    rw [dF,cond_false,dF,cond_false,nT hk,cond_true,Bh h]
    show (bif ((want.length:Int) != ((rdN l out).2.2.2.2.2.length:Int)) then _ else _)=_
    rw [e2,nF hw];rfl
   have m1:f103_j1 want (true,(vl l out).1,(vl l out).2,l)=some false:=by
    unfold f103_j1
    show (bif !true then _ else some ((want.length:Int) != ((vl l out).2.length:Int)))=_
    rw [Bool.not_true,cond_false,nF hw]
   rw [m1,A9,cond_false]
   by_cases hd:(((vl l out).1.length:Nat):Int)=1
   ·right
    refine ⟨by simp only;rw [nF hd];rfl,h,j1,?_,?_⟩
    ·unfold f41_j2
     show (bif (((rdN l out).2.2.2.2.1.length:Int) != 1) then _ else _)=_
     rw [e1,nF hd,cond_false,bF hk];rfl
    ·rw [e1,row_of hg (by omega)]
     have:want.length=(vl l out).2.length:=by omega
     rw [this]
   ·left
    refine ⟨4,by decide,by simp only;rw [nT hd];rfl,?_⟩
    have j2:f41_j2 l kind out c=some (Sum.inr ()):=by
     unfold f41_j2
     show (bif (((rdN l out).2.2.2.2.1.length:Int) != 1) then _ else _)=_
     rw [e1,nT hd];rfl
    unfold f41
    rw [j1,A9,Fl,Bh h,j2];rfl
  ·left
   have m1:f103_j1 want (true,(vl l out).1,(vl l out).2,l)=some true:=by
    unfold f103_j1
    show (bif !true then _ else some ((want.length:Int) != ((vl l out).2.length:Int)))=_
    rw [Bool.not_true,cond_false,nT hw]
   refine ⟨1,by decide,by rw [m1];rfl,?_⟩
   have j1:f41_j1 l kind out want=some (Sum.inr ()):=by
    unfold f41_j1
    rw [dF,cond_false,dF,cond_false,nT hk,cond_true,Bh h]
    show (bif ((want.length:Int) != ((rdN l out).2.2.2.2.2.length:Int)) then _ else _)=_
    rw [e2,nT hw];rfl
   unfold f41
   rw [j1];rfl
 ·left
  refine ⟨1,by decide,by rw [dF h];rfl,?_⟩
  have j1:f41_j1 l kind out want=some (Sum.inr ()):=by
   unfold f41_j1
   by_cases h0:out<0
   ·rw [dT h0];rfl
   ·rw [dF h0,cond_false,dT];rfl
  unfold f41
  rw [j1];rfl
theorem square_both {l:List Nd} (P:PL l) (hl:l.length≤400) (out:Int) (want:List Int) (iw:inI want) (c:Int):FB l (f70 l out want) (f41 l 1 out want c):=by
 rcases sq_may P out want c 1 (by decide) with ⟨e,he,e1,e2⟩ | ⟨e1,h,j1,j2,ed⟩
 ·refine .inl ⟨e,l,l,he,?_,e2⟩
  unfold f70
  rw [e1,A9,nT he];rfl
 ·unfold f70 f41
  rw [e1,A9,nF rfl,cond_false,show f104 (0,l).2=some ((l.length:Int),l) from rfl,A9,j1,A9,Fl,Bh h,j2,A9,Fl,nT (by decide),cond_true]
  obtain ⟨i1,f1,m1,a1,b1,R1⟩:=ls_first P (by omega) rfl (l.length:Int) want (rdN l out).2.2.2.2.1 iw ed
  have a1':f106 ((l.length:Int),l).2 ((l.length:Int),l).1 0 want=some (i1,(l.length:Int),f1,m1):=a1
  rw [a1',A9]
  have b1':f77 l ((rd (Ty.z (.p (.int .i64) (.p (.int .i64) (.p (.int .i64) (.p (.int .i64) (.p (.sl (.int .i64)) (.sl (.int .i64)))))))) l out).2.2.2.2.1,want)=some (i1,f1,m1):=b1
  rw [b1',A9]
  simp only
  obtain ⟨i2,f2,m2,i2',f2',m2',a2,b2,R2,_⟩:=ls_A R1 (by omega) (l.length:Int) 3 out i1 out i1 0 (by omega) (fun _=>⟨rfl,.inl rfl⟩) i1 m1
  rw [a2,A9,show f41_j3 out (i1,f1,m1)=some (i2',f2',m2') from b2,A9]
  simp only
  obtain ⟨i3,f3,m3,i3',f3',m3',a3,b3,R3,_⟩:=ls_A R2 (by omega) (l.length:Int) 4 i2 i2 i2' i2' 0 (by omega) (fun h0=>by
   rcases R2 with ⟨_,_,h3,_⟩ | ⟨h3,_⟩
   ·exact ⟨h3,.inl h3⟩
   ·exact absurd h0 h3) i2' m2'
  have j5:f41_j5 1 (i2',f2',m2')=some (i3',f3',m3'):=by
   rw [← b3]
   unfold f41_j5 f41_j6
   show D4 (bif (f2'==(0:Int)) then some ((1:Int)==1) else some false) _=_
   cases f2'==(0:Int) <;> rfl
  rw [a3,A9,j5,A9]
  simp only
  have j8:f41_j8 1 (i3',f3',m3')=some (i3',f3',m3'):=by
   unfold f41_j8 f41_j9
   show D4 (bif (f3'==(0:Int)) then some ((1:Int)==2) else some false) _=_
   cases f3'==(0:Int) <;> rfl
  rw [j8,A9]
  obtain ⟨i4,f4,m4,i4',f4',m4',a4,b4,R4,_⟩:=ls_A R3 (by omega) (l.length:Int) 10 i3 0 i3' (-1) 0 (by omega) (fun h0=>by
   rcases R3 with ⟨_,_,h3,_⟩ | ⟨h3,_⟩
   ·exact ⟨h3,.inr rfl⟩
   ·exact absurd h0 h3) i3' m3'
  rw [a4,A9,show f41_j10 (i3',f3',m3')=some (i4',f4',m4') from b4,A9]
  simp only
  rcases ls_told R4 (by omega) (l.length:Int) with ⟨T,t1,t2,t3⟩ | ⟨t1,t2,t3,t4,t5,t6,t7,t8,t9⟩
  ·rw [t1,A9,t3,nT t2];exact .inl ⟨f4,T,m4',t2,rfl,rfl⟩
  ·rw [t1,A9,nF t3,t4,t5];exact .inr ⟨i4,m4,rfl,rfl,t6,by omega,t8,t9⟩
theorem size_both {l:List Nd} (P:PL l) (hl:l.length≤400) (out:Int) (want:List Int) (iw:inI want) (c:Int):FB l (f71 l out want) (f41 l 2 out want c):=by
 rcases sq_may P out want c 2 (by decide) with ⟨e,he,e1,e2⟩ | ⟨e1,h,j1,j2,ed⟩
 ·refine .inl ⟨e,l,l,he,?_,e2⟩
  unfold f71
  rw [e1,A9,nT he];rfl
 ·unfold f71 f41
  rw [e1,A9,nF rfl,cond_false,show f104 (0,l).2=some ((l.length:Int),l) from rfl,A9,j1,A9,Fl,Bh h,j2,A9,Fl,nT (by decide),cond_true]
  obtain ⟨i1,f1,m1,a1,b1,R1⟩:=ls_first P (by omega) rfl (l.length:Int) want (rdN l out).2.2.2.2.1 iw ed
  have a1':f106 ((l.length:Int),l).2 ((l.length:Int),l).1 0 want=some (i1,(l.length:Int),f1,m1):=a1
  rw [a1',A9]
  have b1':f77 l ((rd (Ty.z (.p (.int .i64) (.p (.int .i64) (.p (.int .i64) (.p (.int .i64) (.p (.sl (.int .i64)) (.sl (.int .i64)))))))) l out).2.2.2.2.1,want)=some (i1,f1,m1):=b1
  rw [b1',A9]
  simp only
  obtain ⟨i2,f2,m2,i2',f2',m2',a2,b2,R2,_⟩:=ls_A R1 (by omega) (l.length:Int) 3 out i1 out i1 0 (by omega) (fun _=>⟨rfl,.inl rfl⟩) i1 m1
  rw [a2,A9,show f41_j3 out (i1,f1,m1)=some (i2',f2',m2') from b2,A9]
  simp only
  have j5:f41_j5 2 (i2',f2',m2')=some (i2',f2',m2'):=by
   unfold f41_j5 f41_j6
   show D4 (bif (f2'==(0:Int)) then some ((2:Int)==1) else some false) _=_
   cases f2'==(0:Int) <;> rfl
  obtain ⟨i3,f3,m3,i3',f3',m3',a3,b3,R3,_⟩:=ls_A R2 (by omega) (l.length:Int) 11 i2 0 i2' (-1) 4 (by omega) (fun h0=>by
   rcases R2 with ⟨_,_,h3,_⟩ | ⟨h3,_⟩
   ·exact ⟨h3,.inr rfl⟩
   ·exact absurd h0 h3) i2' m2'
  have j8:f41_j8 2 (i2',f2',m2')=some (i3',f3',m3'):=by
   rw [← b3]
   unfold f41_j8 f41_j9
   show D4 (bif (f2'==(0:Int)) then some ((2:Int)==2) else some false) _=_
   cases f2'==(0:Int) <;> rfl
  rw [a3,A9,j5,A9,j8,A9]
  simp only
  obtain ⟨i4,f4,m4,i4',f4',m4',a4,b4,R4,_⟩:=ls_A R3 (by omega) (l.length:Int) 10 i3 0 i3' (-1) 0 (by omega) (fun h0=>by
   rcases R3 with ⟨_,_,h3,_⟩ | ⟨h3,_⟩
   ·exact ⟨h3,.inr rfl⟩
   ·exact absurd h0 h3) i3' m3'
  rw [a4,A9,show f41_j10 (i3',f3',m3')=some (i4',f4',m4') from b4,A9]
  simp only
  rcases ls_told R4 (by omega) (l.length:Int) with ⟨T,t1,t2,t3⟩ | ⟨t1,t2,t3,t4,t5,t6,t7,t8,t9⟩
  ·rw [t1,A9,t3,nT t2];exact .inl ⟨f4,T,m4',t2,rfl,rfl⟩
  ·rw [t1,A9,nF t3,t4,t5];exact .inr ⟨i4,m4,rfl,rfl,t6,by omega,t8,t9⟩
theorem hinge_may {l:List Nd} (P:PL l) (out:Int) (want:List Int) (c:Int) :
  (∃ e,e≠0∧f72 l out c=some (0,e,l)∧f41 l 3 out want c=some (0,e,l))∨
  ((0≤out∧out<(l.length:Int))∧f41_j1 l 3 out want=some (Sum.inl ())∧f41_j2 l 3 out c=some (Sum.inl ())∧f72_j1 c (true,(vl l out).1,(vl l out).2,l)=some (Sum.inl ())∧
   0≤c∧c<((vl l out).2.length:Int)∧(vl l out).1=[((vl l out).2.length:Int)]):=by
 by_cases h:0≤out∧out<(l.length:Int)
 ·have ev:=rdN_vl h
  have hg:F4 (vl l out):=by
   have:=P.1 out.toNat (by omega)
   unfold vl;rw [if_pos h];exact this
  have e1:(rdN l out).2.2.2.2.1=(vl l out).1:=congrArg Prod.fst ev
  have j1:f41_j1 l 3 out want=some (Sum.inl ()):=by
   unfold f41_j1
   rw [dF,cond_false,dF,cond_false,nF rfl];rfl
  have bad:∀ e,f72_j1 c (true,(vl l out).1,(vl l out).2,l)=some (Sum.inr e)→f72 l out c=some (0,e,l):=fun e he=>by
   unfold f72
   rw [valueP l out P.1,A9,dT h,he];rfl
  have badR:f41_j2 l 3 out c=some (Sum.inr ())→f41 l 3 out want c=some (0,4,l):=fun he=>by
   unfold f41
   rw [j1,A9,Fl,Bh h,he];rfl
  by_cases hd:(((vl l out).1.length:Nat):Int)=1
  ·have er:=row_of hg (by omega)
   by_cases c0:c<0
   ·left
    refine ⟨4,by decide,bad 4 ?_,badR ?_⟩
    ·unfold f72_j1
     simp only
     rw [Bool.not_true,cond_false,nF hd,cond_false,dT c0];rfl
    ·unfold f41_j2
     show (bif (((rdN l out).2.2.2.2.1.length:Int) != 1) then _ else _)=_
     rw [e1,nF hd,cond_false,bT rfl,cond_true,dT c0];rfl
   ·have g2:0≤(0:Int)∧(0:Int)<(List.length (rdN l out).2.2.2.2.1:Int):=by rw [e1];omega
    have e0:rd (0:Int) (rdN l out).2.2.2.2.1 0=((vl l out).2.length:Int):=by rw [e1,er];rfl
    by_cases c1:c≥((vl l out).2.length:Int)
    ·left
     refine ⟨4,by decide,bad 4 ?_,badR ?_⟩
     ·unfold f72_j1
      simp only
      rw [Bool.not_true,cond_false,nF hd,cond_false,dF c0,cond_false,dT c1];rfl
     ·unfold f41_j2
      show (bif (((rdN l out).2.2.2.2.1.length:Int) != 1) then _ else bif ((3:Int)==3) then bif decide (c<0) then _ else Ey (0≤(0:Int)∧(0:Int)<(List.length (rdN l out).2.2.2.2.1:Int)) (bif decide (c≥rd (0:Int) (rdN l out).2.2.2.2.1 0) then _ else _) else _)=_
      rw [Bh g2,e0,e1,nF hd,cond_false,bT rfl,cond_true,dF c0,cond_false,dT c1];rfl
    ·right
     refine ⟨h,j1,?_,?_,by omega,by omega,er⟩
     ·unfold f41_j2
      show (bif (((rdN l out).2.2.2.2.1.length:Int) != 1) then _ else bif ((3:Int)==3) then bif decide (c<0) then _ else Ey (0≤(0:Int)∧(0:Int)<(List.length (rdN l out).2.2.2.2.1:Int)) (bif decide (c≥rd (0:Int) (rdN l out).2.2.2.2.1 0) then _ else _) else _)=_
      rw [Bh g2,e0,e1,nF hd,cond_false,bT rfl,cond_true,dF c0,cond_false,dF c1];rfl
     ·unfold f72_j1
      simp only
      rw [Bool.not_true,cond_false,nF hd,cond_false,dF c0,cond_false,dF c1];rfl
  ·left
   refine ⟨4,by decide,bad 4 ?_,badR ?_⟩
   ·unfold f72_j1
    simp only
    rw [Bool.not_true,cond_false,nT hd];rfl
   ·unfold f41_j2
    show (bif (((rdN l out).2.2.2.2.1.length:Int) != 1) then _ else _)=_
    rw [e1,nT hd];rfl
 ·left
  refine ⟨1,by decide,?_,?_⟩
  ·unfold f72
   rw [valueP l out P.1,A9,dF h];rfl
  ·have j1:f41_j1 l 3 out want=some (Sum.inr ()):=by
    unfold f41_j1
    by_cases h0:out<0
    ·rw [dT h0];rfl
    ·rw [dF h0,cond_false,dT];rfl
   unfold f41
   rw [j1];rfl
theorem hinge_both {l:List Nd} (P:PL l) (hl:l.length≤400) (out:Int) (want:List Int) (c:Int):FB l (f72 l out c) (f41 l 3 out want c):=by
 rcases hinge_may P out want c with ⟨e,he,e1,e2⟩ | ⟨h,j1,j2,hj,c0,c1,er⟩
 ·exact .inl ⟨e,l,l,he,e1,e2⟩
 ·have hg:F4 (vl l out):=by
   have:=P.1 out.toNat (by omega)
   unfold vl;rw [if_pos h];exact this
  obtain ⟨gp,gl,_,gl2⟩:=Fw hg.1
  have hp:(prd (vl l out).1).toNat=(vl l out).2.length:=by omega
  have ev:(rd (Ty.z (.p (.int .i64) (.p (.int .i64) (.p (.int .i64) (.p (.int .i64) (.p (.sl (.int .i64)) (.sl (.int .i64)))))))) l out).2.2.2.2.1=(vl l out).1:=congrArg Prod.fst (rdN_vl h)
  have iA:inI (List.set (List.replicate (vl l out).2.length (0:Int)) (Int.toNat c) (-4294967296)):=fun x hx=>by
   rcases List.mem_or_eq_of_mem_set hx with hx | rfl
   ·rw [List.eq_of_mem_replicate hx];decide
   ·decide
  have iB:inI (List.set (List.replicate (vl l out).2.length (4294967296:Int)) (Int.toNat c) 0):=fun x hx=>by
   rcases List.mem_or_eq_of_mem_set hx with hx | rfl
   ·rw [List.eq_of_mem_replicate hx];decide
   ·decide
  have gA:0≤c∧c<((List.replicate (vl l out).2.length (0:Int)).length:Int):=by rw [List.length_replicate];omega
  have gB:0≤c∧c<((List.replicate (vl l out).2.length (4294967296:Int)).length:Int):=by rw [List.length_replicate];omega
  unfold f72 f41
  rw [valueP l out P.1,A9,dT h,hj,A9,Fl,j1,A9,Fl,Bh h,j2,A9,Fl,nF rfl,cond_false]
  simp only
  rw [Ky,if_pos gp,A9,repeat_ok _ _ gl2,A9,ev,newR _ _ gp,A9,newR _ _ gp,A9,hp]
  simp only
  rw [Bh gA,Bh gB,Bh gA,Bh gB,show f104 l=some ((l.length:Int),l) from rfl,A9]
  simp only
  obtain ⟨i1,f1,m1,a1,b1,R1⟩:=ls_first P (by omega) rfl (l.length:Int) (List.set (List.replicate (vl l out).2.length (0:Int)) (Int.toNat c) (-4294967296)) (vl l out).1 iA (by rw [er,List.length_set,List.length_replicate])
  rw [a1,A9,b1,A9]
  simp only
  obtain ⟨i2,f2,m2,i2',f2',m2',a2,b2,R2,z2⟩:=ls_leafB R1 (by omega) (l.length:Int) (List.set (List.replicate (vl l out).2.length (4294967296:Int)) (Int.toNat c) 0) (vl l out).1 iB (by rw [er,List.length_set,List.length_replicate]) 0 m1
  rw [a2,A9,show f41_j11 c ((vl l out).1,List.replicate (vl l out).2.length 4294967296) (i1,f1,m1)=some (f2',i2',m2') from b2,A9]
  simp only
  have same:∀ {N:Nat} {i e:Int} {k:List Nd} {i' e':Int} {k':List Nd},LR l.length N i e k i' e' k'→e=0→i'=i:=fun R h0=>by
   rcases R with ⟨_,_,h3,_⟩ | ⟨h3,_⟩
   ·exact h3
   ·exact absurd h0 h3
  obtain ⟨i3,f3,m3,i3',f3',m3',a3,b3,R3,z3⟩:=ls_B R2 (by omega) (l.length:Int) 4 out i1 out i1 0 (by omega) (fun _=>⟨rfl,.inl rfl⟩) 0 m2'
  rw [a3,A9,show f41_j12 out (i1,f1,m1) (f2',i2',m2')=some (f3',i3',m3') from b3,A9]
  simp only
  obtain ⟨i4,f4,m4,i4',f4',m4',a4,b4,R4,z4⟩:=ls_B R3 (by omega) (l.length:Int) 9 i3 0 i3' (-1) 0 (by omega) (fun h0=>⟨same R3 h0,.inr rfl⟩) i3' m3'
  rw [a4,A9,show f41_j13 (f3',i3',m3')=some (f4',i4',m4') from b4,A9]
  simp only
  obtain ⟨i5,f5,m5,i5',f5',m5',a5,b5,R5,z5⟩:=ls_B R4 (by omega) (l.length:Int) 2 out i4 out i4' 0 (by omega) (fun h0=>⟨rfl,.inl (same R4 h0)⟩) i4' m4'
  rw [a5,A9,show f41_j14 out (f4',i4',m4')=some (f5',i5',m5') from b5,A9]
  simp only
  obtain ⟨i6,f6,m6,i6',f6',m6',a6,b6,R6,z6⟩:=ls_B R5 (by omega) (l.length:Int) 2 i5 i2 i5' i2' 0 (by omega) (fun h0=>⟨same R5 h0,.inl (same R2 (z3 (z4 (z5 h0))))⟩) i5' m5'
  rw [a6,A9,show f41_j15 (f2',i2',m2') (f5',i5',m5')=some (f6',i6',m6') from b6,A9]
  simp only
  obtain ⟨i7,f7,m7,i7',f7',m7',a7,b7,R7,z7⟩:=ls_B R6 (by omega) (l.length:Int) 11 i6 0 i6' (-1) 1 (by omega) (fun h0=>⟨same R6 h0,.inr rfl⟩) i6' m6'
  rw [a7,A9,show f41_j16 (f6',i6',m6')=some (f7',i7',m7') from b7,A9]
  simp only
  obtain ⟨i8,f8,m8,i8',f8',m8',a8,b8,R8,z8⟩:=ls_B R7 (by omega) (l.length:Int) 4 i7 i2 i7' i2' 0 (by omega) (fun h0=>⟨same R7 h0,.inl (same R2 (z3 (z4 (z5 (z6 (z7 h0))))))⟩) i7' m7'
  rw [a8,A9,show f41_j17 (f2',i2',m2') (f7',i7',m7')=some (f8',i8',m8') from b8,A9]
  simp only
  obtain ⟨i9,f9,m9,i9',f9',m9',a9,b9,R9,z9⟩:=ls_B R8 (by omega) (l.length:Int) 9 i8 0 i8' (-1) 0 (by omega) (fun h0=>⟨same R8 h0,.inr rfl⟩) i8' m8'
  rw [a9,A9,show f41_j18 (f8',i8',m8')=some (f9',i9',m9') from b9,A9]
  simp only
  rcases ls_told R9 (by omega) (l.length:Int) with ⟨T,t1,t2,t3⟩ | ⟨t1,t2,t3,t4,t5,t6,t7,t8,t9⟩
  ·rw [t1,A9,t3,nT t2];exact .inl ⟨f9,T,m9',t2,rfl,rfl⟩
  ·rw [t1,A9,nF t3,t4,t5];exact .inr ⟨i9,m9,rfl,rfl,t6,by omega,t8,t9⟩
theorem far_both {l:List Nd} (P:PL l) (hl:l.length≤400) (kind out:Int) (k1:1≤kind) (k3:kind≤3) (x:List Int×List Int×Int) (iy:inI x.2.1):FB l (f37 l kind out x) (f41 l kind out x.2.1 x.2.2):=by
 have wrapB:∀ {p q:Option (Int×Int×List Nd)},FB l p q→FB l (D4 p fun r=>some (r.1,r.2.1,r.2.2)) q:=fun {p q} h=>by
  have e:(D4 p fun r=>some (r.1,r.2.1,r.2.2))=p:=by cases p <;> rfl
  rw [e];exact h
 unfold f37
 by_cases h1:kind=1
 ·subst h1
  rw [bT rfl,cond_true];exact wrapB (square_both P hl out x.2.1 iy x.2.2)
 ·rw [bF h1,cond_false]
  by_cases h2:kind=2
  ·subst h2
   rw [bT rfl,cond_true];exact wrapB (size_both P hl out x.2.1 iy x.2.2)
  ·rw [bF h2,cond_false]
   obtain rfl:kind=3:=by omega
   exact wrapB (hinge_both P hl out x.2.1 x.2.2)
abbrev Lay:=ByteArray×Int×Int
abbrev Nt:=(List Int)×(List Lay)
abbrev zLay:Lay:=Ty.z (.p .str (.p (.int .i64) (.int .i64)))
abbrev zL:List Int:=Ty.z (.sl (.int .i64))
def ly (n:Nt) (i:Nat):Lay:=rd zLay n.2 (i:Int)
def kd (b:ByteArray) (l:Lay):Bool:=(ByteArray.toList l.1==ByteArray.toList b)
abbrev Gc:ByteArray:=ByteArray.mk #[100,101,110,115,101]
abbrev G5:ByteArray:=ByteArray.mk #[99,111,110,118]
abbrev Jx:ByteArray:=ByteArray.mk #[112,111,111,108]
theorem prod_ok {d:List Int} (h:0<prd d):f65 d=some (prd d):=by
 obtain ⟨e,h1,h2⟩:=Gw h
 have hr:=F2 d
 unfold f65
 have L:=Fx (B:=fun go (x:Int×Int)=>f65_l1 d go x.1 x.2) (fun k=>(Ft (d.take k),(k:Int))) d.length (prd d) ?_ ?_ (by omega)
 ·have L':Fp (fun go (x:Int×Int)=>f65_l1 d go x.1 x.2) Fq ((1:Int),(0:Int))=_:=L
  rw [L'];rfl
 ·intro k hk go
  obtain ⟨p1,p2⟩:=prodL_le (fun x hx=>(h1 x hx).1) (k+1)
  unfold f65_l1
  simp only
  rw [dT,cond_true,Bh,Gh k,← Kt k hk,E9]
 ·intro go
  unfold f65_l1
  simp only
  rw [dF,cond_false,List.take_length,e]
def pls (l:Lay) (d:List Int):List (List Int):=
 bif kd Gc l then [[l.2.1,(f65 d).getD 0],[l.2.1]] else bif kd G5 l then [[l.2.1,rd (0:Int) d 0,l.2.2]] else []
theorem within_ok (v m:Int):f152 v m=some (decide (1≤v∧v≤m)):=by
 unfold f152
 by_cases h:v≥1
 ·rw [dT h,cond_true];congr 1;rw [decide_eq_decide];omega
 ·rw [dF h,cond_false,dF (fun hh=>h hh.1)]
theorem kd_ne {a b:ByteArray} {l:Lay} (h:kd a l=true) (hab:(ByteArray.toList a==ByteArray.toList b)=false):kd b l=false:=by
 unfold kd at h ⊢
 have h1:=eq_of_beq h
 rw [h1];exact hab
theorem cloneS (d:List Int) (hl:d.length≤4096):f109 d=some d:=PlB.clone_d d (by omega)
def Fit (p:Option (Bool×List Int)) (n:Nat):Prop:=∃ b d,p=some (b,d)∧d.length≤n
def dm (d:List (List Int)) (i:Nat):List Int:=rd zL d (i:Int)
structure WK (n:Nt) (k:Nat) (d:List (List Int)):Prop where
 kL:d.length=k+1
 kD:∀ i,i≤k→(dm d i).length≤2
 kC:∀ i,i<k→kd G5 (ly n i)=true→(dm d i).length=2
theorem dm_app (d:List (List Int)) (o:List Int) (i:Nat) (h:i<d.length):dm (d++[o]) i=dm d i:=rd_app _ _ _ _ h
theorem dm_last (d:List (List Int)) (o:List Int):dm (d++[o]) d.length=o:=rd_last _ _ _
def psm (ps:List (List Int)):Nat→Int
 | 0=>0
 | k+1=>psm ps k+prd (dm ps k)
def tsm (n:Nt) (d:List (List Int)):Nat→Int
 | 0=>0
 | k+1=>tsm n d k+psm (pls (ly n k) (dm d k)) (pls (ly n k) (dm d k)).length
def AllG (ps:List (List Int)) (k:Nat):Prop:=∀ j,j<k→0<prd (dm ps j)
def NS (n:Nt) (d:List (List Int)):Prop:=∀ i,i<n.2.length→AllG (pls (ly n i) (dm d i)) (pls (ly n i) (dm d i)).length
structure Net1 (n:Nt) (d:List (List Int)):Prop where
 t6:n.2.length≤6
 tI:n.1.length≤2
 tW:WK n n.2.length d
 tS:NS n d
 tM:tsm n d n.2.length≤4096
 tSum:f64 n d=some (tsm n d n.2.length,true)
def DD (d:List Int):Prop:=d.length≤2∧∀ x ∈ d,1≤x∧x≤1024
theorem dd_rd {d:List Int} (h:DD d) (i:Nat) (hi:i<d.length):1≤rd (0:Int) d (i:Int)∧rd (0:Int) d (i:Int)≤1024:=by
 rw [Gg _ _ _ hi];exact h.2 _ (List.getElem_mem hi)
theorem Ln {a b A B:Int} (a0:1≤a) (a1:a≤A) (b0:1≤b) (b1:b≤B):1≤a*b∧a*b≤A*B:=by
 have h1:=Int.mul_le_mul a1 b1 (by omega) (by omega)
 have h2:=Int.mul_le_mul a0 b0 (by omega) (by omega)
 omega
theorem in_ok (v lo hi:Int):f95 v lo hi=some (decide (lo≤v∧v≤hi)):=by
 unfold f95
 by_cases h:v≥lo
 ·rw [dT h,cond_true];congr 1;rw [decide_eq_decide];omega
 ·rw [dF h,cond_false,dF (fun hh=>h hh.1)]
structure FL (l:Lay):Prop where
 fD:kd Gc l=true→1≤l.2.1∧l.2.1≤256
 fC:kd G5 l=true→1≤l.2.1∧l.2.1≤16∧1≤l.2.2∧l.2.2≤16
 fP:kd Jx l=true→1≤l.2.1
structure RS (k:Nat) (all:Int) (l:List (List Int)):Prop where
 sL:l.length=k+1
 sDD:∀ i,i≤k→DD (dm l i)
 sA:0≤all∧all≤4097
theorem bif_any {X:Type} (b:Bool) (x y:X):∃ v,(bif b then some x else some y)=some v:=by cases b <;> exact ⟨_,rfl⟩
theorem net_self (n:Nt) (h6:n.2.length≤6):f13 n=some n:=by
 unfold f13
 have L:=Fx (B:=fun go (x:Int×List Lay)=>f13_l1 n go x.1 x.2) (fun k=>((k:Int),n.2.take k)) n.2.length n.2 ?_ ?_ (by omega)
 ·have L':Fp (fun go (x:Int×List Lay)=>f13_l1 n go x.1 x.2) Fq ((0:Int),[])=_:=L
  rw [L'];rfl
 ·intro k hk go
  have e:rd zLay n.2 (k:Int)=n.2[k]:=Gg _ _ _ hk
  have g3:(List.length (n.2.take k)+List.length [((rd (Ty.z (.p .str (.p (.int .i64) (.int .i64)))) n.2 (k:Int)).1,((rd (Ty.z (.p .str (.p (.int .i64) (.int .i64)))) n.2 (k:Int)).2).1,((rd (Ty.z (.p .str (.p (.int .i64) (.int .i64)))) n.2 (k:Int)).2).2)])*32≤140737488355328:=by
   simp only [List.length_cons,List.length_nil,List.length_take];omega
  unfold f13_l1
  simp only
  rw [dT,cond_true,Bh,Bh,Bh,Bh g3,Gh k,List.take_succ_eq_append_getElem hk,← e]
 ·intro go
  unfold f13_l1
  simp only
  rw [dF,cond_false,List.take_length]
theorem lightW (x:List Int×List Int×Int):∃ b,f9 x=some b:=by
 unfold f9
 exact bif_any _ _ _
theorem filledW (p:List Int) (m:Int) (m0:0≤m) (m1:m≤80) (ip:inI p):∃ q,f10 p m=some q∧inI q:=by
 unfold f10
 rw [Bh]
 have LL:=Gd (B:=fun go (x:Int×List Int)=>f10_l3 p m go x.1 x.2) (fun x=>∃ k:Nat,(k:Int)≤m∧x.1=(k:Int)∧x.2.length=m.toNat∧inI x.2) (fun x=>(m-x.1).toNat)
  (fun z=>inI z) ?_ ((0:Int),List.replicate (Int.toNat m) (0:Int)) ⟨0,by omega,rfl,by simp,fun y hy=>by rw [(List.mem_replicate.1 hy).2];decide⟩ (by simp only;omega)
 ·obtain ⟨z,ez,hz⟩:=LL
  rw [ez];exact ⟨_,rfl,hz⟩
 ·rintro ⟨_,l⟩ ⟨k,hk,rfl,hl,il⟩
  simp only at hl il
  by_cases h:(k:Int)<m∧p.length>0
  ·have e1:Int.tmod (k:Int) (List.length p:Int)=((k%p.length:Nat):Int):=by rw [Int.tmod_eq_emod_of_nonneg (Int.natCast_nonneg _),← Int.natCast_emod]
   have e2:k%p.length<p.length:=Nat.mod_lt _ h.2
   have ej:f10_j4 p m (k:Int)=some (Sum.inl ()):=by
    unfold f10_j4
    rw [dT h.1,cond_true,dT];rfl
   refine .inr ⟨(((k+1:Nat):Int),List.set l k (rd (0:Int) p ((k%p.length:Nat):Int))),fun go=>?_,⟨k+1,by omega,rfl,by simp only [List.length_set];exact hl,inI_set il _ _ (Jh ip _ e2)⟩,by simp only;omega⟩
   unfold f10_l3
   simp only
   rw [ej,A9,Fl,Bh,e1,Bh,Bh,Gh k,Int.toNat_natCast]
  ·have ej:f10_j4 p m (k:Int)=some (Sum.inr ()):=by
    unfold f10_j4
    by_cases h1:(k:Int)<m
    ·rw [dT h1,cond_true,dF (fun hh=>h ⟨h1,by omega⟩)];rfl
    ·rw [dF h1];rfl
   refine .inl ⟨l,fun go=>?_,il⟩
   unfold f10_l3
   simp only
   rw [ej,A9,F6]
abbrev bBn:ByteArray:=ByteArray.mk #[98,101,110,100]
abbrev bSk:ByteArray:=ByteArray.mk #[115,107,105,112]
def lok (l:Lay):Bool:=
 bif kd Gc l then decide ((1≤l.2.1∧l.2.1≤256)∧l.2.2=0)
 else bif kd G5 l then decide ((1≤l.2.1∧l.2.1≤16)∧1≤l.2.2∧l.2.2≤16)
 else bif kd Jx l then decide ((1≤l.2.1∧l.2.1≤16)∧l.2.2=0)
 else bif kd bBn l then decide ((1≤l.2.1∧l.2.1≤5)∧l.2.2=0)
 else bif kd bSk l then decide (l.2.1=0∧l.2.2=0) else false
def iok (d:List Int):Bool:=
 bif decide (d.length=1) then decide (1≤rd (0:Int) d 0∧rd (0:Int) d 0≤1024)
 else bif decide (d.length=2) then decide ((1≤rd (0:Int) d 0∧rd (0:Int) d 0≤64)∧1≤rd (0:Int) d 1∧rd (0:Int) d 1≤64) else false
def fbad (n:Nt):Option Nat:=Lt (fun i=>!lok (ly n i)) 0 n.2.length
def gok (n:Nt):Bool:=bif (fbad n).isSome then false else iok n.1
theorem bifd {p q:Prop} [Decidable p] [Decidable q]:(bif decide p then some (decide q) else some false)=some (decide (p∧q)):=by
 by_cases hp:p
 ·rw [dT hp,cond_true];congr 1;rw [decide_eq_decide];exact ⟨fun h=>⟨hp,h⟩,fun h=>h.2⟩
 ·rw [dF hp,cond_false,dF (fun h=>hp h.1)]
theorem rf_lay (n:Nt) (i:Nat):f60_j5 n (i:Int)=some (lok (ly n i)):=by
 unfold f60_j5 lok
 rw [show rd (Ty.z (.p .str (.p (.int .i64) (.int .i64)))) n.2 (i:Int)=ly n i from rfl]
 show (bif kd Gc (ly n i) then _ else bif kd G5 (ly n i) then _ else bif kd Jx (ly n i) then _ else bif kd bBn (ly n i) then _ else bif kd bSk (ly n i) then _ else _)=_
 cases kd Gc (ly n i)
 ·rw [cond_false,cond_false]
  cases kd G5 (ly n i)
  ·rw [cond_false,cond_false]
   cases kd Jx (ly n i)
   ·rw [cond_false,cond_false]
    cases kd bBn (ly n i)
    ·rw [cond_false,cond_false]
     cases kd bSk (ly n i)
     ·rfl
     ·rw [cond_true,cond_true];exact bifd
    ·rw [cond_true,cond_true,in_ok,A9];exact bifd
   ·rw [cond_true,cond_true,in_ok,A9];exact bifd
  ·rw [cond_true,cond_true,in_ok,A9]
   have e:(D4 (f95 (ly n i).2.2 1 16) fun r39=>some r39)=some (decide (1≤(ly n i).2.2∧(ly n i).2.2≤16)):=by rw [in_ok,A9]
   rw [e];exact bifd
 ·rw [cond_true,cond_true,in_ok,A9];exact bifd
theorem rf_in (n:Nt):f60_j1 n=some (bif iok n.1 then Sum.inl () else Sum.inr ()):=by
 unfold f60_j1 iok
 by_cases e1:n.1.length=1
 ·rw [bT (by omega),cond_true,Bh,in_ok,A9,dT e1,cond_true]
  cases decide (1≤rd (0:Int) n.1 0∧rd (0:Int) n.1 0≤1024) <;> rfl
 ·rw [bF (by omega),cond_false,dF e1,cond_false]
  by_cases e2:n.1.length=2
  ·rw [bT (by omega),cond_true,Bh,in_ok,A9,Bh,in_ok,A9,dT e2,cond_true]
   by_cases h:1≤rd (0:Int) n.1 0∧rd (0:Int) n.1 0≤64
   ·by_cases h':1≤rd (0:Int) n.1 1∧rd (0:Int) n.1 1≤64
    ·rw [dT h,dT h',dT ⟨h,h'⟩];rfl
    ·rw [dT h,dF h',dF (fun hh=>h' hh.2)];rfl
   ·rw [dF h,dF (p:=(1≤rd (0:Int) n.1 0∧rd (0:Int) n.1 0≤64)∧1≤rd (0:Int) n.1 1∧rd (0:Int) n.1 1≤64) (fun hh=>h hh.1)];rfl
  ·rw [bF (by omega),cond_false,dF e2];rfl
theorem formedR (n:Nt) (hN:n.2.length≤40):f60 n=some (gok n):=by
 unfold f60 gok fbad
 rw [rf_in,A9]
 cases hi:iok n.1
 ·rw [cond_false,F6]
  cases (Lt (fun i=>!lok (ly n i)) 0 n.2.length) <;> rfl
 ·rw [cond_true,Fl]
  have LL:=loop_find (B:=fun go x=>f60_l4 n go x) (fun k=>(k:Int)) (fun i=>!lok (ly n i)) (fun _=>Sum.inl ()) (Sum.inr ()) n.2.length ?_ ?_ ?_ (by omega)
  ·have L':Fp (fun go x=>f60_l4 n go x) Fq (0:Int)=_:=LL
   rw [L',A9]
   cases Lt (fun i=>!lok (ly n i)) 0 n.2.length <;> rfl
  ·intro k hk hp go
   unfold f60_l4
   rw [dT,cond_true,Bh,rf_lay,A9,hp,cond_false,Gh k]
  ·intro k hk hp go
   unfold f60_l4
   rw [dT,cond_true,Bh,rf_lay,A9,hp,cond_true]
  ·intro go
   unfold f60_l4
   rw [dF,cond_false]
theorem bneI (x:Int):(bif (x != (0:Int)) then some (Sum.inr ()) else some (Sum.inl ()):Option (Sum Unit Unit))=some (bif decide (x=0) then Sum.inl () else Sum.inr ()):=by
 by_cases h:x=0
 ·rw [nF h,dT h];rfl
 ·rw [nT h,dF h];rfl
theorem good_lo {l:Lay} {v:Int} (h:f192 l.1=some v) (hv:v<2):f151_j1 l=some (bif decide (l.2.2=0) then Sum.inl () else Sum.inr ()):=by
 unfold f151_j1
 rw [h,A9,dT hv,cond_true];exact bneI _
theorem sum_b {X:Type} {b:Bool} {f g:Unit→Option X}:F5 (bif b then Sum.inl () else Sum.inr ()) f g=bif b then f () else g ():=by cases b <;> rfl
theorem swap_d {p q:Prop} [Decidable p] [Decidable q]:(bif decide q then some (decide p) else some false)=some (decide (p∧q)):=by
 rw [bifd];congr 1;rw [decide_eq_decide];exact And.comm
theorem lgoodP (l:Lay):f151 l=some (lok l):=by
 have cnt:∀ v,f192 l.1=some v↔(bif (bif kd Gc l then true else bif kd Jx l then true else kd bBn l) then some (1:Int) else bif kd G5 l then some (2:Int) else bif kd bSk l then some (0:Int) else some (-1:Int))=some v:=fun v=>by
  have e:f192 l.1=(bif (bif kd Gc l then true else bif kd Jx l then true else kd bBn l) then some (1:Int) else bif kd G5 l then some (2:Int) else bif kd bSk l then some (0:Int) else some (-1:Int)):=by
   unfold f192 f192_j1
   show D4 (bif kd Gc l then some (kd Gc l) else bif kd Jx l then some (kd Jx l) else some (kd bBn l)) (fun z1=>bif z1 then some (1:Int) else bif kd G5 l then some (2:Int) else bif kd bSk l then some (0:Int) else some (-1:Int))=_
   cases kd Gc l <;> cases kd Jx l <;> rfl
  rw [e]
 have wi:∀ x m:Int,(D4 (f152 x m) fun r=>some r)=some (decide (1≤x∧x≤m)):=fun x m=>by rw [within_ok,A9]
 unfold f151 lok
 show D4 (f151_j1 l) (fun z2=>F5 z2 (fun _=>bif kd Gc l then D4 (f152 l.2.1 256) fun r4=>some r4 else bif kd G5 l then D4 (f152 l.2.1 16) fun r5=>bif r5 then D4 (f152 l.2.2 16) fun r6=>some r6 else some false
  else bif kd Jx l then D4 (f152 l.2.1 16) fun r7=>some r7 else bif kd bBn l then D4 (f152 l.2.1 5) fun r8=>some r8 else bif kd bSk l then some (l.2.1==(0:Int)) else some false) (fun _=>some false))=_
 rw [wi,wi,wi,wi,within_ok,A9]
 cases h1:kd Gc l
 ·cases h2:kd G5 l
  ·cases h3:kd Jx l
   ·cases h4:kd bBn l
    ·cases h5:kd bSk l
     ·rw [good_lo ((cnt (-1)).2 (by rw [h1,h2,h3,h4,h5];rfl)) (by omega),A9,sum_b]
      cases decide (l.2.2=0) <;> rfl
     ·rw [good_lo ((cnt 0).2 (by rw [h1,h2,h3,h4,h5];rfl)) (by omega),A9,sum_b]
      exact swap_d
    ·rw [good_lo ((cnt 1).2 (by rw [h1,h3,h4];rfl)) (by omega),A9,sum_b]
     exact swap_d
   ·rw [good_lo ((cnt 1).2 (by rw [h1,h3];rfl)) (by omega),A9,sum_b]
    exact swap_d
  ·have h3:=kd_ne h2 (b:=Jx) (by kernel_rfl)
   have h4:=kd_ne h2 (b:=bBn) (by kernel_rfl)
   have e:f151_j1 l=some (Sum.inl ()):=by
    unfold f151_j1
    rw [(cnt 2).2 (by rw [h1,h2,h3,h4];rfl),A9,dF,cond_false]
   rw [e,A9,Fl]
   exact bifd
 ·rw [good_lo ((cnt 1).2 (by rw [h1];rfl)) (by omega),A9,sum_b]
  exact swap_d
theorem goodP (n:Nt) (hN:n.2.length≤40):f96 n=some (gok n):=by
 unfold f96 gok fbad
 have LL:=loop_find (B:=fun go x=>f96_l1 n go x) (fun k=>(k:Int)) (fun i=>!lok (ly n i)) (fun _=>Sum.inl ()) (Sum.inr ()) n.2.length ?_ ?_ ?_ (by omega)
 ·have L':Fp (fun go x=>f96_l1 n go x) Fq (0:Int)=_:=LL
  rw [L',A9]
  cases Lt (fun i=>!lok (ly n i)) 0 n.2.length
  ·show (bif ((List.length n.1:Int)==(1:Int)) then _ else _)=some (iok n.1)
   unfold iok
   by_cases e1:n.1.length=1
   ·rw [bT (by omega),cond_true,Bh,within_ok,A9,dT e1,cond_true]
   ·rw [bF (by omega),cond_false,dF e1,cond_false]
    by_cases e2:n.1.length=2
    ·rw [bT (by omega),cond_true,Bh,within_ok,A9,Bh,within_ok,A9,dT e2,cond_true]
     exact bifd
    ·rw [bF (by omega),cond_false,dF e2];rfl
  ·rfl
 ·intro k hk hp go
  have eb2:f151 ((rd (Ty.z (.p .str (.p (.int .i64) (.int .i64)))) n.2 (k:Int)).1,((rd (Ty.z (.p .str (.p (.int .i64) (.int .i64)))) n.2 (k:Int)).2).1,((rd (Ty.z (.p .str (.p (.int .i64) (.int .i64)))) n.2 (k:Int)).2).2)=some (lok (ly n k)):=lgoodP (ly n k)
  unfold f96_l1
  rw [dT,cond_true,Bh,eb2,A9,hp,cond_false,Gh k]
 ·intro k hk hp go
  have eb2:f151 ((rd (Ty.z (.p .str (.p (.int .i64) (.int .i64)))) n.2 (k:Int)).1,((rd (Ty.z (.p .str (.p (.int .i64) (.int .i64)))) n.2 (k:Int)).2).1,((rd (Ty.z (.p .str (.p (.int .i64) (.int .i64)))) n.2 (k:Int)).2).2)=some (lok (ly n k)):=lgoodP (ly n k)
  unfold f96_l1
  rw [dT,cond_true,Bh,eb2,A9,hp,cond_true]
 ·intro go
  unfold f96_l1
  rw [dF,cond_false]
theorem lp0 {X Z:Type} {B:(X→Option Z)→X→Option Z} {x0:X} {z:Z} (h:∀ go,B go x0=some z):Fp B Fq x0=some z:=
 Fx (fun _=>x0) 0 z (fun k hk=>absurd hk (Nat.not_lt_zero _)) h (by omega)
theorem lp1 {X Z:Type} {B:(X→Option Z)→X→Option Z} {x0 x1:X} {z:Z} (h0:∀ go,B go x0=go x1) (h1:∀ go,B go x1=some z):Fp B Fq x0=some z:=
 Fx (fun k=>match k with | 0=>x0 | _=>x1) 1 z (fun k hk=>match k,hk with | 0,_=>h0) h1 (by omega)
theorem lp2 {X Z:Type} {B:(X→Option Z)→X→Option Z} {x0 x1 x2:X} {z:Z} (h0:∀ go,B go x0=go x1) (h1:∀ go,B go x1=go x2) (h2:∀ go,B go x2=some z):Fp B Fq x0=some z:=
 Fx (fun k=>match k with | 0=>x0 | 1=>x1 | _=>x2) 2 z (fun k hk=>match k,hk with | 0,_=>h0 | 1,_=>h1) h2 (by omega)
theorem mprod {d:List Int} (h1:∀ x ∈ d,1≤x) (hb:Ft d≤4000000000000) (hl:d.length≤10):f65 d=some (Ft d):=by
 unfold f65
 have L:=Fx (B:=fun go (x:Int×Int)=>f65_l1 d go x.1 x.2) (fun k=>(Ft (d.take k),(k:Int))) d.length (Ft d) ?_ ?_ (by omega)
 ·have L':Fp (fun go (x:Int×Int)=>f65_l1 d go x.1 x.2) Fq ((1:Int),(0:Int))=_:=L
  rw [L'];rfl
 ·intro k hk go
  obtain ⟨p1,p2⟩:=prodL_le h1 (k+1)
  unfold f65_l1
  simp only
  rw [dT,cond_true,Bh,Gh k,← Kt k hk,E9]
 ·intro go
  unfold f65_l1
  simp only
  rw [dF,cond_false,List.take_length]
theorem rpro {d:List Int} (h1:∀ x ∈ d,1≤x) (hb:Ft d≤4000000000000) (hl:d.length≤10):f61 d=some (Ft d):=by
 unfold f61
 have L:=Fx (B:=fun go (x:Int×Int)=>f61_l1 d go x.1 x.2) (fun k=>(Ft (d.take k),(k:Int))) d.length (Ft d) ?_ ?_ (by omega)
 ·have L':Fp (fun go (x:Int×Int)=>f61_l1 d go x.1 x.2) Fq ((1:Int),(0:Int))=_:=L
  rw [L'];rfl
 ·intro k hk go
  obtain ⟨p1,p2⟩:=prodL_le h1 (k+1)
  unfold f61_l1
  simp only
  rw [dT,cond_true,Bh,Gh k,← Kt k hk,E9]
 ·intro go
  unfold f61_l1
  simp only
  rw [dF,cond_false,List.take_length]
theorem mem_prodL:∀ d:List Int,(∀ x ∈ d,1≤x)→∀ x ∈ d,x≤Ft d
 | [],_,x,hx=>absurd hx (by simp)
 | y::r,h,x,hx=>by
  have hr:∀ z ∈ r,1≤z:=fun z hz=>h z (List.mem_cons_of_mem _ hz)
  have hp:=G8 r hr
  have hy:=h y (by simp)
  simp only [Ft]
  rcases List.mem_cons.1 hx with rfl | hx
  ·have:=Int.mul_le_mul (Int.le_refl x) hp (by omega) (by omega);omega
  ·have h1:=mem_prodL r hr x hx
   have h2:=Int.mul_le_mul hy (Int.le_refl (Ft r)) (by omega) (by omega)
   omega
theorem good_iff {d:List Int} (h1:∀ x ∈ d,1≤x) (hl:d.length≤4):f99 d=some (decide (Ft d≤4096)):=by
 rw [Gn]
 congr 1
 rw [decide_eq_decide]
 constructor
 ·intro h
  have:=Gw h
  have:=F2 d
  omega
 ·intro h
  have e:prd d=1*Ft d:=by
   unfold prd
   rw [iNo]
   exact pgo_of d 1 (by omega) (fun x hx=>⟨h1 x hx,by have:=mem_prodL d h1 x hx;omega⟩) (by omega)
  have:=G8 d h1
  omega
theorem dd_prod {d:List Int} (h:DD d):1≤Ft d∧Ft d≤1048576:=by
 obtain ⟨hl,h⟩:=h
 match d,hl with
 | [],_=>exact ⟨by decide,by decide⟩
 | [a],_=>
  have:=h a (by simp)
  simp only [Ft];omega
 | [a,b],_=>
  have ha:=h a (by simp)
  have hb:=h b (by simp)
  obtain ⟨m1,m2⟩:=Ln ha.1 ha.2 hb.1 hb.2
  simp only [Ft,Int.mul_one];omega
theorem dd_pos {d:List Int} (h:DD d):∀ x ∈ d,1≤x:=fun x hx=>(h.2 x hx).1
def nx (n:Nt) (k:Nat) (d:List (List Int)):Option (List Int):=
 bif kd Gc (ly n k) then some [(ly n k).2.1]
 else bif kd G5 (ly n k) then (if (dm d k).length=2∧(ly n k).2.2≤rd (0:Int) (dm d k) 1 then some [(ly n k).2.1,rd (0:Int) (dm d k) 1-(ly n k).2.2+1] else none)
 else bif kd Jx (ly n k) then (if (dm d k).length=2∧(ly n k).2.1≤rd (0:Int) (dm d k) 1 then some [rd (0:Int) (dm d k) 0,rd (0:Int) (dm d k) 1/(ly n k).2.1] else none)
 else bif kd bSk (ly n k) then (if 0<k∧kd bSk (ly n (k-1))=false∧dm d (k-1)=dm d k then some (dm d k) else none)
 else some (dm d k)
def wk (n:Nt):Nat→Option (List (List Int))
 | 0=>some [n.1]
 | k+1=>match wk n k with
  | none=>none
  | some d=>match nx n k d with
   | none=>none
   | some o=>some (d++[o])
def pc (l:Lay) (e:List Int):Int:=bif kd Gc l then l.2.1*Ft e else bif kd G5 l then l.2.1*rd (0:Int) e 0*l.2.2 else 0
def pt (l:Lay) (e:List Int):Int:=bif kd Gc l then l.2.1*Ft e+l.2.1 else bif kd G5 l then l.2.1*rd (0:Int) e 0*l.2.2 else 0
theorem lokD {l:Lay} (h:lok l=true) (hk:kd Gc l=true):1≤l.2.1∧l.2.1≤256:=by
 unfold lok at h;rw [hk,cond_true] at h;exact (of_decide_eq_true h).1
theorem lokC {l:Lay} (h:lok l=true) (hk:kd G5 l=true):(1≤l.2.1∧l.2.1≤16)∧1≤l.2.2∧l.2.2≤16:=by
 unfold lok at h;rw [kd_ne hk (b:=Gc) (by kernel_rfl),hk,cond_true,cond_false] at h;exact of_decide_eq_true h
theorem lokP {l:Lay} (h:lok l=true) (hk:kd Jx l=true):1≤l.2.1∧l.2.1≤16:=by
 unfold lok at h;rw [kd_ne hk (b:=Gc) (by kernel_rfl),kd_ne hk (b:=G5) (by kernel_rfl),hk,cond_true,cond_false,cond_false] at h;exact (of_decide_eq_true h).1
structure WS (n:Nt) (k:Nat) (d:List (List Int)):Prop where
 wL:d.length=k+1
 wD:∀ i,i≤k→DD (dm d i)
 w0:dm d 0=n.1
theorem Kc {n:Nt} (h:gok n=true):DD n.1∧∀ i,i<n.2.length→lok (ly n i)=true:=by
 unfold gok at h
 cases hf:fbad n with
 | some i=>rw [hf] at h;exact absurd h (by simp)
 | none=>
  rw [hf] at h
  have h:iok n.1=true:=h
  refine ⟨?_,fun i hi=>?_⟩
  ·unfold iok at h
   by_cases e1:n.1.length=1
   ·rw [dT e1,cond_true] at h
    have h:=of_decide_eq_true h
    match n.1,e1,h with
    | [x],_,h=>exact ⟨by simp,fun y hy=>by rw [List.mem_singleton.1 hy];exact h⟩
   ·rw [dF e1,cond_false] at h
    by_cases e2:n.1.length=2
    ·rw [dT e2,cond_true] at h
     have h:=of_decide_eq_true h
     match n.1,e2,h with
     | [x,y],_,h=>
      have hx:1≤x∧x≤64:=h.1
      have hy:1≤y∧y≤64:=h.2
      refine ⟨by simp,fun z hz=>?_⟩
      rcases List.mem_cons.1 hz with rfl | hz
      ·omega
      ·rw [List.mem_singleton.1 hz];omega
    ·rw [dF e2] at h;exact absurd h (by simp)
  ·have:=(firstB_none (fun i=>!lok (ly n i)) n.2.length 0).1 hf i (Nat.zero_le _) (by omega)
   simpa using this
theorem nx_dd {n:Nt} {k:Nat} {d:List (List Int)} {o:List Int} (hl:lok (ly n k)=true) (D:DD (dm d k)) (h:nx n k d=some o):DD o:=by
 unfold nx at h
 cases h1:kd Gc (ly n k)
 ·rw [h1,cond_false] at h
  cases h2:kd G5 (ly n k)
  ·rw [h2,cond_false] at h
   cases h3:kd Jx (ly n k)
   ·rw [h3,cond_false] at h
    cases h4:kd bSk (ly n k)
    ·rw [h4,cond_false] at h;injection h with h;subst h;exact D
    ·rw [h4,cond_true] at h
     split at h
     ·injection h with h;subst h;exact D
     ·exact absurd h (by simp)
   ·rw [h3,cond_true] at h
    split at h
    ·rename_i hc
     injection h with h;subst h
     obtain ⟨p1,p2⟩:=lokP hl h3
     obtain ⟨b0,b1⟩:=dd_rd D 0 (by omega)
     obtain ⟨c0,c1⟩:=dd_rd D 1 (by omega)
     have c0':1≤rd (0:Int) (dm d k) 1:=c0
     have c1':rd (0:Int) (dm d k) 1≤1024:=c1
     refine ⟨Nat.le_refl 2,fun y hy=>?_⟩
     rcases List.mem_cons.1 hy with rfl | hy
     ·exact ⟨b0,b1⟩
     ·rw [List.mem_singleton.1 hy]
      have hc2:=hc.2
      generalize (ly n k).2.1=A at *
      generalize rd (0:Int) (dm d k) 1=X at *
      exact ⟨(Int.le_ediv_iff_mul_le (by omega)).2 (by omega),by have:X/A≤X:=Int.ediv_le_self _ (by omega);omega⟩
    ·exact absurd h (by simp)
  ·rw [h2,cond_true] at h
   split at h
   ·rename_i hc
    injection h with h;subst h
    obtain ⟨⟨p1,p2⟩,p3,p4⟩:=lokC hl h2
    obtain ⟨c0,c1⟩:=dd_rd D 1 (by omega)
    have c0':1≤rd (0:Int) (dm d k) 1:=c0
    have c1':rd (0:Int) (dm d k) 1≤1024:=c1
    refine ⟨Nat.le_refl 2,fun y hy=>?_⟩
    rcases List.mem_cons.1 hy with rfl | hy
    ·omega
    ·rw [List.mem_singleton.1 hy];omega
   ·exact absurd h (by simp)
 ·rw [h1,cond_true] at h
  injection h with h;subst h
  have:=lokD hl h1
  exact ⟨by simp,fun y hy=>by rw [List.mem_singleton.1 hy];omega⟩
theorem wk_ws {n:Nt} (hg:gok n=true):∀ (k:Nat) (d:List (List Int)),k≤n.2.length→wk n k=some d→WS n k d
 | 0,d,_,h=>by
  injection h with h;subst h
  exact ⟨rfl,fun i hi=>by
   obtain rfl:i=0:=by omega
   exact (Kc hg).1,rfl⟩
 | k+1,d,hk,h=>by
  simp only [wk] at h
  cases hw:wk n k with
  | none=>rw [hw] at h;exact absurd h (by simp)
  | some d0=>
   rw [hw] at h
   simp only at h
   have W:=wk_ws hg k d0 (by omega) hw
   cases hn:nx n k d0 with
   | none=>rw [hn] at h;exact absurd h (by simp)
   | some o=>
    rw [hn] at h
    injection h with h;subst h
    have hL:=W.wL
    refine ⟨by simp [hL],fun i hi=>?_,by rw [dm_app _ _ _ (by omega)];exact W.w0⟩
    by_cases e:i<d0.length
    ·rw [dm_app _ _ _ e];exact W.wD i (by omega)
    ·obtain rfl:i=d0.length:=by omega
     rw [dm_last];exact nx_dd ((Kc hg).2 k (by omega)) (W.wD k (Nat.le_refl _)) hn
theorem wk_stop {n:Nt} {k:Nat} (h:wk n k=none):∀ m,k≤m→wk n m=none
 | 0,hm=>by
  obtain rfl:k=0:=by omega
  exact h
 | m+1,hm=>by
  by_cases e:k=m+1
  ·rw [← e];exact h
  ·simp only [wk];rw [wk_stop h m (by omega)]
theorem pc_in {l:Lay} {e:List Int} (hl:lok l=true) (D:DD e) (hc:kd G5 l=true→e.length=2):0≤pc l e∧pc l e≤268435456∧0≤pt l e∧pt l e≤268435712:=by
 unfold pc pt
 obtain ⟨q1,q2⟩:=dd_prod D
 cases h1:kd Gc l
 ·simp only [cond_false]
  cases h2:kd G5 l
  ·simp only [cond_false];omega
  ·simp only [cond_true]
   obtain ⟨⟨p1,p2⟩,p3,p4⟩:=lokC hl h2
   have:=hc h2
   obtain ⟨b0,b1⟩:=dd_rd D 0 (by omega)
   have b0':1≤rd (0:Int) e 0:=b0
   have b1':rd (0:Int) e 0≤1024:=b1
   obtain ⟨m1,m2⟩:=Ln p1 p2 b0' b1'
   obtain ⟨m3,m4⟩:=Ln m1 m2 p3 p4
   omega
 ·simp only [cond_true]
  obtain ⟨p1,p2⟩:=lokD hl h1
  obtain ⟨m1,m2⟩:=Ln p1 p2 q1 q2
  omega
section
variable {n:Nt} {k:Nat} {d:List (List Int)} (W:WS n k d) (hk:k<n.2.length) (hN:n.2.length≤40) (hl:lok (ly n k)=true)
include W hk hN
theorem skipsP:f154 n (k:Int) d=some (decide (0<k∧kd bSk (ly n (k-1))=false∧dm d (k-1)=dm d k)):=by
 have hL:=W.wL
 unfold f154
 by_cases h:(k:Int)>0
 ·have e1:IntKind.i64.wrap ((k:Int)-1)=((k-1:Nat):Int):=by rw [E9];omega
  rw [dT h,cond_true,e1,Bh]
  show (bif !(kd bSk (ly n (k-1))) then _ else _)=_
  cases hs:kd bSk (ly n (k-1))
  ·have hq:(rd (Ty.z (.sl (.int .i64))) d ((k-1:Nat):Int)).length≤2:=(W.wD (k-1) (by omega)).1
   rw [Bool.not_false,cond_true,Bh,Bh,sameP _ _ (Nat.lt_of_le_of_lt hq (by decide)),A9]
   congr 1
   rw [decide_eq_decide]
   exact ⟨fun hh=>⟨by omega,rfl,hh⟩,fun hh=>hh.2.2⟩
  ·rw [Bool.not_true,cond_false,dF (fun hh=>absurd hh.2.1 (by decide))]
 ·rw [dF h,cond_false,dF (fun hh=>h (by omega))]
include hl
theorem stepP:∃ q:Bool×List Int,f153 (ly n k) (dm d k)=some q∧f97_j4 n (k:Int) d q=some (match nx n k d with | none=>Sum.inr () | some _=>Sum.inl ())∧(∀ o,nx n k d=some o→q.2=o):=by
 have D:=W.wD k (Nat.le_refl _)
 have hD:=D.1
 have hs:=skipsP W hk hN
 have hs2:f154 (n.1,n.2) (k:Int) d=_:=hs
 have j4:∀ q:Bool×List Int,f97_j4 n (k:Int) d q=bif !q.1 then some (Sum.inr ()) else bif kd bSk (ly n k) then (bif !(decide (0<k∧kd bSk (ly n (k-1))=false∧dm d (k-1)=dm d k)) then some (Sum.inr ()) else some (Sum.inl ())) else some (Sum.inl ()):=fun q=>by
  unfold f97_j4
  rw [hs2,A9];rfl
 unfold f153 nx
 show ∃ q,(bif kd Gc (ly n k) then _ else bif kd G5 (ly n k) then _ else bif kd Jx (ly n k) then _ else _)=some q∧_
 cases h1:kd Gc (ly n k)
 ·rw [cond_false,cond_false]
  cases h2:kd G5 (ly n k)
  ·rw [cond_false,cond_false]
   cases h3:kd Jx (ly n k)
   ·rw [cond_false,cond_false,cloneS _ (by omega),A9]
    refine ⟨_,rfl,?_,?_⟩
    ·rw [j4]
     cases h4:kd bSk (ly n k)
     ·rfl
     ·simp only [Bool.not_true,cond_false,cond_true]
      by_cases hc:0<k∧kd bSk (ly n (k-1))=false∧dm d (k-1)=dm d k
      ·rw [dT hc,if_pos hc];rfl
      ·rw [dF hc,if_neg hc];rfl
    ·intro o ho
     cases h4:kd bSk (ly n k)
     ·rw [h4,cond_false] at ho;injection ho
     ·rw [h4,cond_true] at ho
      split at ho
      ·injection ho
      ·exact absurd ho (by simp)
   ·rw [cond_true,cond_true]
    have h4:=kd_ne h3 (b:=bSk) (by kernel_rfl)
    obtain ⟨p1,p2⟩:=lokP hl h3
    unfold f153_j2
    by_cases e2:(dm d k).length=2
    ·by_cases hc:(ly n k).2.1≤rd (0:Int) (dm d k) 1
     ·obtain ⟨c0,c1⟩:=dd_rd D 1 (by omega)
      have c0':1≤rd (0:Int) (dm d k) 1:=c0
      have c1':rd (0:Int) (dm d k) 1≤1024:=c1
      have q2:rd (0:Int) (dm d k) 1/(ly n k).2.1≤rd (0:Int) (dm d k) 1:=Int.ediv_le_self _ (by omega)
      have q1:0≤rd (0:Int) (dm d k) 1/(ly n k).2.1:=Int.ediv_nonneg (by omega) (by omega)
      rw [nF,cond_false,Bh,dF,cond_false,A9,Fl,Bh,Bh,Bh,if_pos ⟨e2,hc⟩,Int.tdiv_eq_ediv_of_nonneg (by omega),E9]
      refine ⟨_,rfl,?_,fun o ho=>?_⟩
      ·rw [j4,h4];rfl
      ·injection ho
     ·rw [nF,cond_false,Bh,dT,cond_true,A9,F6,if_neg (fun hh=>hc hh.2)]
      refine ⟨_,rfl,?_,fun o ho=>absurd ho (by simp)⟩
      rw [j4];rfl
    ·rw [nT,cond_true,A9,F6,if_neg (fun hh=>e2 hh.1)]
     refine ⟨_,rfl,?_,fun o ho=>absurd ho (by simp)⟩
     rw [j4];rfl
  ·rw [cond_true,cond_true]
   have h4:=kd_ne h2 (b:=bSk) (by kernel_rfl)
   obtain ⟨⟨p1,p2⟩,p3,p4⟩:=lokC hl h2
   unfold f153_j1
   by_cases e2:(dm d k).length=2
   ·by_cases hc:(ly n k).2.2≤rd (0:Int) (dm d k) 1
    ·obtain ⟨c0,c1⟩:=dd_rd D 1 (by omega)
     have c0':1≤rd (0:Int) (dm d k) 1:=c0
     have c1':rd (0:Int) (dm d k) 1≤1024:=c1
     rw [nF,cond_false,Bh,dF,cond_false,A9,Fl,Bh,if_pos ⟨e2,hc⟩,E9 (n:=rd (0:Int) (dm d k) 1-(ly n k).2.2) (by omega) (by omega),E9]
     refine ⟨_,rfl,?_,fun o ho=>?_⟩
     ·rw [j4,h4];rfl
     ·injection ho
    ·rw [nF,cond_false,Bh,dT,cond_true,A9,F6,if_neg (fun hh=>hc hh.2)]
     refine ⟨_,rfl,?_,fun o ho=>absurd ho (by simp)⟩
     rw [j4];rfl
   ·rw [nT,cond_true,A9,F6,if_neg (fun hh=>e2 hh.1)]
    refine ⟨_,rfl,?_,fun o ho=>absurd ho (by simp)⟩
    rw [j4];rfl
 ·have h4:=kd_ne h1 (b:=bSk) (by kernel_rfl)
  rw [cond_true,cond_true]
  refine ⟨_,rfl,?_,fun o ho=>?_⟩
  ·rw [j4,h4];rfl
  ·injection ho
end
theorem walkP (n:Nt) (hN:n.2.length≤40) (hg:gok n=true):f97 n=some (match wk n n.2.length with | none=>(false,[]) | some d=>(true,d)):=by
 obtain ⟨i1,i2⟩:=(Kc hg).1
 unfold f97
 rw [cloneS n.1 (by omega),A9]
 have LL:=Gd (B:=fun go (x:Int×List (List Int))=>f97_l3 n go x.1 x.2) (fun x=>∃ k:Nat,k≤n.2.length∧x.1=(k:Int)∧wk n k=some x.2) (fun x=>n.2.length-x.1.toNat)
  (fun z=>z=match wk n n.2.length with | none=>Sum.inl () | some d=>Sum.inr d) ?_ ((0:Int),[n.1]) ⟨0,by omega,rfl,rfl⟩ (by simp only;omega)
 ·obtain ⟨z,ez,hz⟩:=LL
  rw [ez,A9,hz]
  cases wk n n.2.length <;> rfl
 ·rintro ⟨_,d⟩ ⟨k,hk,rfl,hd⟩
  simp only at hd
  have W:=wk_ws hg k d hk hd
  have hL:=W.wL
  by_cases h:k<n.2.length
  ·obtain ⟨q,eo,ej,hq⟩:=stepP W h hN ((Kc hg).2 k h)
   have eo2:f153 ((rd (Ty.z (.p .str (.p (.int .i64) (.int .i64)))) n.2 (k:Int)).1,((rd (Ty.z (.p .str (.p (.int .i64) (.int .i64)))) n.2 (k:Int)).2).1,((rd (Ty.z (.p .str (.p (.int .i64) (.int .i64)))) n.2 (k:Int)).2).2) (rd (Ty.z (.sl (.int .i64))) d (k:Int))=some q:=eo
   cases hn:nx n k d with
   | none=>
    have hs:wk n (k+1)=none:=by simp only [wk];rw [hd];simp only;rw [hn]
    rw [hn] at ej
    refine .inl ⟨Sum.inl (),fun go=>?_,by rw [wk_stop hs _ h]⟩
    unfold f97_l3
    simp only
    rw [dT,cond_true,Bh,Bh,eo2,A9,ej,A9,F6]
   | some o=>
    rw [hn] at ej
    have hq2:=hq o hn
    have g3:(List.length d+List.length [q.2])*24≤140737488355328:=by simp only [List.length_cons,List.length_nil];omega
    refine .inr ⟨(((k+1:Nat):Int),d++[o]),fun go=>?_,⟨k+1,h,rfl,by simp only [wk];rw [hd];simp only;rw [hn]⟩,by simp only [Int.toNat_natCast];omega⟩
    unfold f97_l3
    simp only
    rw [dT,cond_true,Bh,Bh,eo2,A9,ej,A9,Fl,Bh g3,Gh k,hq2]
  ·obtain rfl:k=n.2.length:=by omega
   refine .inl ⟨Sum.inr d,fun go=>?_,by rw [hd]⟩
   unfold f97_l3
   simp only
   rw [dF,cond_false]
def mny (n:Nt) (d:List (List Int)):Nat→Int
 | 0=>0
 | k+1=>mny n d k+pt (ly n k) (dm d k)
def gr (n:Nt) (d:List (List Int)):Nat→Bool
 | 0=>decide ((n.2.length:Int)>16)
 | k+1=>gr n d k||decide (pc (ly n k) (dm d k)>4096)||decide (Ft (dm d (k+1))>4096)
def okf (n:Nt) (d:List (List Int)):Nat→Bool
 | 0=>decide ((n.2.length:Int)≤16)
 | k+1=>okf n d k&&!decide (pc (ly n k) (dm d k)>4096)&&decide (Ft (dm d k)≤4096)&&decide (Ft (dm d (k+1))≤4096)
def bad (n:Nt) (d:List (List Int)):Bool:=gr n d n.2.length||decide (mny n d n.2.length>4096)||decide (Ft n.1>4096)
theorem mny_ext {n:Nt} {d d':List (List Int)}:∀ k,(∀ i,i<k→dm d i=dm d' i)→mny n d k=mny n d' k
 | 0,_=>rfl
 | k+1,h=>by simp only [mny];rw [mny_ext k (fun i hi=>h i (by omega)),h k (by omega)]
theorem gr_ext {n:Nt} {d d':List (List Int)}:∀ k,(∀ i,i≤k→dm d i=dm d' i)→gr n d k=gr n d' k
 | 0,_=>rfl
 | k+1,h=>by simp only [gr];rw [gr_ext k (fun i hi=>h i (by omega)),h k (by omega),h (k+1) (by omega)]
structure WF (n:Nt) (k:Nat) (d:List (List Int)):Prop extends WS n k d where
 fC:∀ i,i<k→kd G5 (ly n i)=true→(dm d i).length=2
theorem nx_conv {n:Nt} {k:Nat} {d:List (List Int)} {o:List Int} (h:nx n k d=some o) (hc:kd G5 (ly n k)=true):(dm d k).length=2:=by
 unfold nx at h
 rw [kd_ne hc (b:=Gc) (by kernel_rfl),hc,cond_true,cond_false] at h
 split at h
 ·rename_i hh;exact hh.1
 ·exact absurd h (by simp)
theorem wk_wf {n:Nt} (hg:gok n=true):∀ (k:Nat) (d:List (List Int)),k≤n.2.length→wk n k=some d→WF n k d
 | 0,d,hk,h=>⟨wk_ws hg 0 d hk h,fun i hi=>absurd hi (Nat.not_lt_zero _)⟩
 | k+1,d,hk,h=>by
  have W:=wk_ws hg (k+1) d hk h
  simp only [wk] at h
  cases hw:wk n k with
  | none=>rw [hw] at h;exact absurd h (by simp)
  | some d0=>
   rw [hw] at h
   simp only at h
   have W0:=wk_wf hg k d0 (by omega) hw
   have hL:=W0.wL
   cases hn:nx n k d0 with
   | none=>rw [hn] at h;exact absurd h (by simp)
   | some o=>
    rw [hn] at h
    injection h with h;subst h
    refine ⟨W,fun i hi hc=>?_⟩
    rw [dm_app _ _ _ (by omega)]
    by_cases e:i=k
    ·subst e;exact nx_conv hn hc
    ·exact W0.fC i (by omega) hc
section
variable {n:Nt} {d:List (List Int)} (hg:gok n=true) (hN:n.2.length≤40) (W:WF n n.2.length d)
include hg hN W
theorem mny_in:∀ k,k≤n.2.length→0≤mny n d k∧mny n d k≤k*268435712
 | 0,_=>by simp [mny]
 | k+1,h=>by
  have:=mny_in k (by omega)
  have:=pc_in ((Kc hg).2 k (by omega)) (W.wD k (by omega)) (W.fC k (by omega))
  simp only [mny]
  omega
theorem okf_gr:∀ k,k≤n.2.length→Ft n.1≤4096→okf n d k = !gr n d k
 | 0,_,_=>by
  simp only [okf,gr]
  by_cases h:(n.2.length:Int)≤16
  ·rw [dT h,dF];rfl
  ·rw [dF h,dT];rfl
 | k+1,hk,h0=>by
  have ih:=okf_gr k (by omega) h0
  simp only [okf,gr]
  rw [ih]
  have hd:gr n d k=false→Ft (dm d k)≤4096:=fun hh=>by
   match k with
   | 0=>rw [W.w0];exact h0
   | k+1=>
    simp only [gr,Bool.or_eq_false_iff,decide_eq_false_iff_not] at hh
    omega
  cases hgk:gr n d k
  ·rw [dT (hd hgk)]
   by_cases h1:pc (ly n k) (dm d k)>4096
   ·rw [dT h1];rfl
   ·rw [dF h1]
    by_cases h2:Ft (dm d (k+1))≤4096
    ·rw [dT h2,dF];rfl
    ·rw [dF h2,dT];rfl
  ·rfl
theorem innerP (k:Nat) (hk:k<n.2.length) (m:Int) (hm:0≤m∧m≤100000000000) (ok:Bool) :
  ∃ ps,f98 (ly n k) (dm d k)=some ps∧
  Fp (fun go (x:Int×Bool×Int)=>f64_l4 ps go x.1 x.2.1 x.2.2) Fq (m,ok,(0:Int))=some (m+pt (ly n k) (dm d k),ok&&!decide (pc (ly n k) (dm d k)>4096)):=by
 have hl:=(Kc hg).2 k hk
 have D:=W.wD k (by omega)
 obtain ⟨q1,q2⟩:=dd_prod D
 have mp:f65 (dm d k)=some (Ft (dm d k)):=mprod (dd_pos D) (by omega) (by have:=D.1;omega)
 have w0:IntKind.i64.wrap ((0:Int)+1)=1:=by kernel_rfl
 have w1:IntKind.i64.wrap ((1:Int)+1)=2:=by kernel_rfl
 unfold f98 pt pc
 show ∃ ps,(bif kd Gc (ly n k) then _ else bif kd G5 (ly n k) then _ else _)=some ps∧_
 cases h1:kd Gc (ly n k)
 ·simp only [cond_false]
  cases h2:kd G5 (ly n k)
  ·simp only [cond_false]
   refine ⟨[],rfl,lp0 (fun go=>?_)⟩
   unfold f64_l4
   simp only [List.length_nil]
   rw [dF,cond_false,Int.add_zero,dF,Bool.not_false,Bool.and_true]
  ·simp only [cond_true]
   obtain ⟨⟨p1,p2⟩,p3,p4⟩:=lokC hl h2
   have h2l:=W.fC k hk h2
   obtain ⟨b0,b1⟩:=dd_rd D 0 (by omega)
   have b0':1≤rd (0:Int) (dm d k) 0:=b0
   have b1':rd (0:Int) (dm d k) 0≤1024:=b1
   obtain ⟨m1,m2⟩:=Ln p1 p2 b0' b1'
   obtain ⟨m3,m4⟩:=Ln m1 m2 p3 p4
   have hp:∀ x ∈ [(ly n k).2.1,rd (0:Int) (dm d k) 0,(ly n k).2.2],1≤x:=fun x hx=>by
    simp only [List.mem_cons,List.mem_nil_iff,or_false] at hx
    rcases hx with rfl | rfl | rfl <;> omega
   have ep:Ft [(ly n k).2.1,rd (0:Int) (dm d k) 0,(ly n k).2.2]=(ly n k).2.1*rd (0:Int) (dm d k) 0*(ly n k).2.2:=by simp only [Ft,Int.mul_one];rw [Int.mul_assoc]
   have e1:=mprod hp (by rw [ep];omega) (by simp)
   have e2:=good_iff hp (by simp)
   rw [ep] at e1 e2
   rw [Bh]
   refine ⟨_,rfl,lp1 (x1:=(m+(ly n k).2.1*rd (0:Int) (dm d k) 0*(ly n k).2.2,ok&&!decide ((ly n k).2.1*rd (0:Int) (dm d k) 0*(ly n k).2.2>4096),(1:Int))) (fun go=>?_) (fun go=>?_)⟩
   ·have er:rd (Ty.z (.sl (.int .i64))) [[(ly n k).2.1,rd (0:Int) (dm d k) 0,(ly n k).2.2]] (0:Int)=[(ly n k).2.1,rd (0:Int) (dm d k) 0,(ly n k).2.2]:=rfl
    unfold f64_l4
    simp only
    rw [dT (by simp),cond_true,Bh (by simp),er,e1,A9,e2,A9,w0,E9]
    have eb:decide ((ly n k).2.1*rd (0:Int) (dm d k) 0*(ly n k).2.2≤4096) = !decide ((ly n k).2.1*rd (0:Int) (dm d k) 0*(ly n k).2.2>4096):=by
     by_cases hh:(ly n k).2.1*rd (0:Int) (dm d k) 0*(ly n k).2.2≤4096
     ·rw [dT hh,dF];rfl
     ·rw [dF hh,dT];rfl
    rw [eb]
    cases ok <;> rfl
   ·unfold f64_l4
    simp only
    rw [dF (by simp),cond_false]
 ·simp only [cond_true]
  obtain ⟨p1,p2⟩:=lokD hl h1
  obtain ⟨m1,m2⟩:=Ln p1 p2 q1 q2
  have hp:∀ x ∈ [(ly n k).2.1,Ft (dm d k)],1≤x:=fun x hx=>by
   simp only [List.mem_cons,List.mem_nil_iff,or_false] at hx
   rcases hx with rfl | rfl <;> omega
  have hp1:∀ x ∈ [(ly n k).2.1],1≤x:=fun x hx=>by rw [List.mem_singleton.1 hx];omega
  have ep:Ft [(ly n k).2.1,Ft (dm d k)]=(ly n k).2.1*Ft (dm d k):=by simp only [Ft,Int.mul_one]
  have ep1:Ft [(ly n k).2.1]=(ly n k).2.1:=by simp only [Ft,Int.mul_one]
  have e1:=mprod hp (by rw [ep];omega) (by simp)
  have e2:=good_iff hp (by simp)
  have e3:=mprod hp1 (by rw [ep1];omega) (by simp)
  have e4:=good_iff hp1 (by simp)
  rw [ep] at e1 e2
  rw [ep1] at e3 e4
  rw [dT] at e4
  rw [mp,A9]
  refine ⟨_,rfl,lp2 (x1:=(m+(ly n k).2.1*Ft (dm d k),ok&&!decide ((ly n k).2.1*Ft (dm d k)>4096),(1:Int))) (x2:=(m+((ly n k).2.1*Ft (dm d k)+(ly n k).2.1),ok&&!decide ((ly n k).2.1*Ft (dm d k)>4096),(2:Int))) (fun go=>?_) (fun go=>?_) (fun go=>?_)⟩
  ·have er:rd (Ty.z (.sl (.int .i64))) [[(ly n k).2.1,Ft (dm d k)],[(ly n k).2.1]] (0:Int)=[(ly n k).2.1,Ft (dm d k)]:=rfl
   unfold f64_l4
   simp only
   rw [dT (by simp),cond_true,Bh (by simp),er,e1,A9,e2,A9,w0,E9]
   have eb:decide ((ly n k).2.1*Ft (dm d k)≤4096) = !decide ((ly n k).2.1*Ft (dm d k)>4096):=by
    by_cases hh:(ly n k).2.1*Ft (dm d k)≤4096
    ·rw [dT hh,dF];rfl
    ·rw [dF hh,dT];rfl
   rw [eb]
   cases ok <;> rfl
  ·have er:rd (Ty.z (.sl (.int .i64))) [[(ly n k).2.1,Ft (dm d k)],[(ly n k).2.1]] (1:Int)=[(ly n k).2.1]:=rfl
   unfold f64_l4
   simp only
   rw [dT (by simp),cond_true,Bh (by simp),er,e3,A9,e4,A9,w1,E9,Int.add_assoc]
   cases (ok&&!decide ((ly n k).2.1*Ft (dm d k)>4096)) <;> rfl
  ·unfold f64_l4
   simp only
   rw [dF (by simp),cond_false]
theorem sumP:f64 n d=some (mny n d n.2.length,!bad n d):=by
 have hL:=W.wL
 unfold f64
 have LL:=Fx (B:=fun go (x:Int×Bool×Int)=>f64_l3 n d go x.1 x.2.1 x.2.2) (fun k=>(mny n d k,okf n d k,(k:Int))) n.2.length (mny n d n.2.length,okf n d n.2.length) ?_ ?_ (by omega)
 ·have L':Fp (fun go (x:Int×Bool×Int)=>f64_l3 n d go x.1 x.2.1 x.2.2) Fq ((0:Int),(decide ((List.length n.2:Int)≤(16:Int))),(0:Int))=_:=LL
  have D:=(Kc hg).1
  rw [L',A9]
  simp only
  rw [good_iff (dd_pos D) (by have:=D.1;omega),A9]
  unfold bad
  by_cases h0:Ft n.1≤4096
  ·rw [dT h0,cond_true,okf_gr hg hN W _ (Nat.le_refl _) h0,dF (p:=Ft n.1>4096) (by omega)]
   by_cases hm:mny n d n.2.length≤4096
   ·rw [dT hm,dF]
    cases gr n d n.2.length <;> rfl
   ·rw [dF hm,dT]
    cases gr n d n.2.length <;> rfl
  ·rw [dF h0,cond_false,dT (p:=Ft n.1>4096) (by omega)]
   cases okf n d n.2.length <;> simp
 ·intro k hk go
  obtain ⟨s1,s2⟩:=mny_in hg hN W k (by omega)
  obtain ⟨ps,ep,el⟩:=innerP hg hN W k hk (mny n d k) ⟨s1,by omega⟩ (okf n d k)
  have ep2:f98 ((rd (Ty.z (.p .str (.p (.int .i64) (.int .i64)))) n.2 (k:Int)).1,((rd (Ty.z (.p .str (.p (.int .i64) (.int .i64)))) n.2 (k:Int)).2).1,((rd (Ty.z (.p .str (.p (.int .i64) (.int .i64)))) n.2 (k:Int)).2).2) (rd (Ty.z (.sl (.int .i64))) d (k:Int))=some ps:=ep
  have f1:f99 (rd (Ty.z (.sl (.int .i64))) d (k:Int))=some (decide (Ft (dm d k)≤4096)):=good_iff (d:=dm d k) (dd_pos (W.wD k (by omega))) (by have:=(W.wD k (by omega)).1;omega)
  have f2:f99 (rd (Ty.z (.sl (.int .i64))) d ((k+1:Nat):Int))=some (decide (Ft (dm d (k+1))≤4096)):=good_iff (d:=dm d (k+1)) (dd_pos (W.wD (k+1) (by omega))) (by have:=(W.wD (k+1) (by omega)).1;omega)
  unfold f64_l3
  simp only
  rw [dT,cond_true,Bh,Bh,ep2,A9,el,A9]
  simp only
  rw [Bh,f1,A9,Gh k,Bh,f2,A9]
  simp only [mny,okf]
  cases (okf n d k&&!decide (pc (ly n k) (dm d k)>4096))
  ·rfl
  ·rw [cond_true]
   cases decide (Ft (dm d k)≤4096) <;> rfl
 ·intro go
  unfold f64_l3
  simp only
  rw [dF,cond_false]
end
def shs (n:Nt):Int×Int×List (List Int):=
 bif gok n then (match wk n n.2.length with | none=>(4,0,[]) | some d=>bif bad n d then (2,0,[]) else (0,mny n d n.2.length,d)) else (1,0,[])
theorem shapesP (n:Nt) (hN:n.2.length≤40):f63 n=some ((shs n).1,(shs n).2.2)∧((shs n).1=0→gok n=true∧wk n n.2.length=some (shs n).2.2∧f64 n (shs n).2.2=some ((shs n).2.1,true)):=by
 unfold f63 shs
 have e1:f96 (n.1,n.2)=some (gok n):=goodP n hN
 rw [e1,A9]
 cases hg:gok n
 ·exact ⟨rfl,fun h=>absurd h (by simp)⟩
 ·have e2:f97 (n.1,n.2)=_:=walkP n hN hg
  rw [Bool.not_true,cond_false,e2,A9]
  cases hw:wk n n.2.length with
  | none=>exact ⟨rfl,fun h=>absurd h (by simp)⟩
  | some d=>
   have W:=wk_wf hg _ _ (Nat.le_refl _) hw
   have e3:f64 (n.1,n.2) d=some (mny n d n.2.length,!bad n d):=sumP hg hN W
   have e4:f64 n d=some (mny n d n.2.length,!bad n d):=e3
   simp only [Bool.not_true,cond_false]
   rw [e3,A9]
   cases hb:bad n d
   ·refine ⟨rfl,fun _=>⟨by first | exact rfl | trivial,by first | exact rfl | exact hw,?_⟩⟩
    simp only [cond_false,cond_true]
    rw [e4,hb];rfl
   ·exact ⟨rfl,fun h=>absurd h (by simp)⟩
section
variable {n:Nt} {k:Nat} {d:List (List Int)} (W:WS n k d) (hk:k<n.2.length) (hN:n.2.length≤40) (hl:lok (ly n k)=true)
include W hk hN
theorem j62R:f34_j62 n (k:Int) d=some (!decide (0<k∧kd bSk (ly n (k-1))=false∧dm d (k-1)=dm d k)):=by
 have hL:=W.wL
 have e1:IntKind.i64.wrap ((List.length d:Int)-1)=(k:Int):=by rw [E9];omega
 unfold f34_j62
 by_cases h:k=0
 ·subst h
  rw [bT (show ((0:Nat):Int)=0 from rfl),cond_true,dF];rfl
 ·have e2:IntKind.i64.wrap ((List.length d:Int)-2)=((k-1:Nat):Int):=by rw [E9];omega
  have e3:IntKind.i64.wrap ((k:Int)-1)=((k-1:Nat):Int):=by rw [E9];omega
  rw [bF (by omega),cond_false,e3,Bh]
  show (bif kd bSk (ly n (k-1)) then _ else _)=_
  cases hs:kd bSk (ly n (k-1))
  ·have D2:=(W.wD (k-1) (by omega)).1
   have es:f62 (rd (Ty.z (.sl (.int .i64))) d ((k-1:Nat):Int)) (rd (Ty.z (.sl (.int .i64))) d (k:Int))=some (decide (dm d (k-1)=dm d k)):=sameR (dm d (k-1)) (dm d k) (by omega)
   rw [cond_false,e2,e1,Bh,es,A9]
   congr 2
   rw [decide_eq_decide]
   exact ⟨fun hh=>⟨by omega,rfl,hh⟩,fun hh=>hh.2.2⟩
  ·rw [cond_true,dF (fun hh=>absurd hh.2.1 (by decide))];rfl
include hl
theorem stepR (all:Int) (ha:0≤all∧all≤4097) (great:Bool) :
  f34_j53 n all great (k:Int) d=some (match nx n k d with | none=>Sum.inr () | some o=>Sum.inl (all+pt (ly n k) (dm d k),great||decide (pc (ly n k) (dm d k)>4096),o)):=by
 have hL:=W.wL
 have D:=W.wD k (Nat.le_refl _)
 obtain ⟨q1,q2⟩:=dd_prod D
 have e1:IntKind.i64.wrap ((List.length d:Int)-1)=(k:Int):=by rw [E9];omega
 have hly:rd (Ty.z (.p .str (.p (.int .i64) (.int .i64)))) n.2 (k:Int)=ly n k:=rfl
 have hdm:rd (Ty.z (.sl (.int .i64))) d (k:Int)=dm d k:=rfl
 have ej:=j62R W hk hN
 unfold f34_j53 nx pt pc
 rw [e1,hly,hdm]
 show (bif kd Gc (ly n k) then _ else bif kd G5 (ly n k) then _ else bif kd Jx (ly n k) then _ else bif kd bSk (ly n k) then _ else _)=_
 have z0:∀ g:Bool,(g||decide ((0:Int)>4096))=g:=fun g=>by cases g <;> rfl
 cases h1:kd Gc (ly n k)
 ·simp only [cond_false]
  cases h2:kd G5 (ly n k)
  ·simp only [cond_false]
   cases h3:kd Jx (ly n k)
   ·simp only [cond_false]
    cases h4:kd bSk (ly n k)
    ·simp only [cond_false]
     rw [z0,Int.add_zero]
    ·simp only [cond_true]
     rw [ej,A9]
     by_cases hc:0<k∧kd bSk (ly n (k-1))=false∧dm d (k-1)=dm d k
     ·rw [dT hc,if_pos hc]
      simp only [Bool.not_true,cond_false]
      rw [z0,Int.add_zero]
     ·rw [dF hc,if_neg hc];rfl
   ·simp only [cond_true]
    obtain ⟨p1,p2⟩:=lokP hl h3
    unfold f34_j60 f34_j61
    rw [e1,hly,hdm]
    by_cases e2:(dm d k).length=2
    ·have g:0≤(1:Int)∧(1:Int)<(List.length (dm d k):Int):=by omega
     by_cases hc:(ly n k).2.1≤rd (0:Int) (dm d k) 1
     ·obtain ⟨c0,c1⟩:=dd_rd D 1 (by omega)
      have c0':1≤rd (0:Int) (dm d k) 1:=c0
      have c1':rd (0:Int) (dm d k) 1≤1024:=c1
      have r2:rd (0:Int) (dm d k) 1/(ly n k).2.1≤rd (0:Int) (dm d k) 1:=Int.ediv_le_self _ (by omega)
      have r1:0≤rd (0:Int) (dm d k) 1/(ly n k).2.1:=Int.ediv_nonneg (by omega) (by omega)
      rw [nF,cond_false,Bh g,A9,dF (p:=(ly n k).2.1>rd (0:Int) (dm d k) 1) (by omega)]
      simp only [cond_false,A9,Fl]
      rw [Bh (p:=0≤(0:Int)∧(0:Int)<(List.length (dm d k):Int)) (by omega),Bh g,Bh (p:=(ly n k).2.1≠0) (by omega),if_pos ⟨e2,hc⟩,z0,Int.add_zero,Int.tdiv_eq_ediv_of_nonneg (by omega),E9]
     ·rw [nF,cond_false,Bh g,A9,dT (p:=(ly n k).2.1>rd (0:Int) (dm d k) 1) (by omega),if_neg (fun hh=>hc hh.2)];rfl
    ·rw [nT,cond_true,if_neg (fun hh=>e2 hh.1)];rfl
  ·simp only [cond_true]
   obtain ⟨⟨p1,p2⟩,p3,p4⟩:=lokC hl h2
   unfold f34_j56 f34_j57
   rw [e1,hly,hdm]
   by_cases e2:(dm d k).length=2
   ·have g:0≤(1:Int)∧(1:Int)<(List.length (dm d k):Int):=by omega
    have g0:0≤(0:Int)∧(0:Int)<(List.length (dm d k):Int):=by omega
    obtain ⟨b0,b1⟩:=dd_rd D 0 (by omega)
    have b0':1≤rd (0:Int) (dm d k) 0:=b0
    have b1':rd (0:Int) (dm d k) 0≤1024:=b1
    obtain ⟨m1,m2⟩:=Ln p1 p2 b0' b1'
    obtain ⟨m3,m4⟩:=Ln m1 m2 p3 p4
    by_cases hc:(ly n k).2.2≤rd (0:Int) (dm d k) 1
    ·obtain ⟨c0,c1⟩:=dd_rd D 1 (by omega)
     have c0':1≤rd (0:Int) (dm d k) 1:=c0
     have c1':rd (0:Int) (dm d k) 1≤1024:=c1
     have ej2:f34_j58 n great (k:Int) d=some (great||decide ((ly n k).2.1*rd (0:Int) (dm d k) 0*(ly n k).2.2>4096)):=by
      unfold f34_j58
      cases great
      ·rw [cond_false,e1,hly,hdm,Bh g0,E9 (n:=(ly n k).2.1*rd (0:Int) (dm d k) 0) (by omega) (by omega),E9];rfl
      ·rfl
     rw [nF,cond_false,Bh g,A9,dF (p:=(ly n k).2.2>rd (0:Int) (dm d k) 1) (by omega)]
     simp only [cond_false,A9,Fl]
     rw [ej2,A9,Bh g0,Bh g,if_pos ⟨e2,hc⟩,E9 (n:=(ly n k).2.1*rd (0:Int) (dm d k) 0) (by omega) (by omega),E9 (n:=(ly n k).2.1*rd (0:Int) (dm d k) 0*(ly n k).2.2) (by omega) (by omega),E9 (n:=all+(ly n k).2.1*rd (0:Int) (dm d k) 0*(ly n k).2.2) (by omega) (by omega),
      E9 (n:=rd (0:Int) (dm d k) 1-(ly n k).2.2) (by omega) (by omega),E9]
    ·rw [nF,cond_false,Bh g,A9,dT (p:=(ly n k).2.2>rd (0:Int) (dm d k) 1) (by omega),if_neg (fun hh=>hc hh.2)];rfl
   ·rw [nT,cond_true,if_neg (fun hh=>e2 hh.1)];rfl
 ·simp only [cond_true]
  obtain ⟨p1,p2⟩:=lokD hl h1
  obtain ⟨m1,m2⟩:=Ln p1 p2 q1 q2
  have ej2:f34_j54 n great (k:Int) (Ft (dm d k))=some (great||decide ((ly n k).2.1*Ft (dm d k)>4096)):=by
   unfold f34_j54
   cases great
   ·rw [cond_false,hly,E9];rfl
   ·rfl
  rw [rpro (dd_pos D) (by omega) (by have:=D.1;omega),A9,ej2,A9,E9 (n:=(ly n k).2.1*Ft (dm d k)) (by omega) (by omega),E9 (n:=all+(ly n k).2.1*Ft (dm d k)) (by omega) (by omega),E9,Int.add_assoc]
end
def alR (n:Nt) (d:List (List Int)) (k:Nat):Int:=if mny n d k>4096 then 4097 else mny n d k
def grR (n:Nt) (d:List (List Int)) (k:Nat):Bool:=gr n d k||decide (mny n d k>4096)
theorem mny_grow {n:Nt} {d:List (List Int)} {k:Nat} (W:WF n k d) (hg:gok n=true) (hk:k≤n.2.length):∀ i,i≤k→0≤mny n d i∧mny n d i≤i*268435712
 | 0,_=>by simp [mny]
 | i+1,h=>by
  have:=mny_grow W hg hk i (by omega)
  have:=pc_in ((Kc hg).2 i (by omega)) (W.wD i (by omega)) (W.fC i (by omega))
  simp only [mny]
  omega
theorem loopR (n:Nt) (hN:n.2.length≤40) (hg:gok n=true) :
  Fp (fun go (x:Int×Bool×Int×List (List Int))=>f34_l43 n go x.1 x.2.1 x.2.2.1 x.2.2.2) Fq ((0:Int),decide ((List.length n.2:Int)>16),(0:Int),[n.1]) =
   some (match wk n n.2.length with | none=>Sum.inl () | some d=>Sum.inr (alR n d n.2.length,grR n d n.2.length,d)):=by
 have LL:=Gd (B:=fun go (x:Int×Bool×Int×List (List Int))=>f34_l43 n go x.1 x.2.1 x.2.2.1 x.2.2.2) (fun x=>∃ (k:Nat) (d:List (List Int)),k≤n.2.length∧wk n k=some d∧x=(alR n d k,grR n d k,(k:Int),d)) (fun x=>n.2.length-x.2.2.1.toNat)
  (fun z=>z=match wk n n.2.length with | none=>Sum.inl () | some d=>Sum.inr (alR n d n.2.length,grR n d n.2.length,d)) ?_ ((0:Int),decide ((List.length n.2:Int)>16),(0:Int),[n.1]) ⟨0,[n.1],by omega,rfl,by unfold alR grR mny gr;simp⟩ (by simp only;omega)
 ·obtain ⟨z,ez,hz⟩:=LL
  rw [ez,hz]
 ·rintro _ ⟨k,d,hk,hd,rfl⟩
  have W:=wk_wf hg k d hk hd
  have hL:=W.wL
  obtain ⟨s1,s2⟩:=mny_grow W hg hk k (Nat.le_refl _)
  have ha:0≤alR n d k∧alR n d k≤4097:=by unfold alR;split <;> omega
  by_cases h:k<n.2.length
  ·have hl:=(Kc hg).2 k h
   have es:=stepR W.toWS h hN hl (alR n d k) ha (grR n d k)
   have e1:IntKind.i64.wrap ((List.length d:Int)-1)=(k:Int):=by rw [E9];omega
   cases hn:nx n k d with
   | none=>
    have hs:wk n (k+1)=none:=by simp only [wk];rw [hd];simp only;rw [hn]
    rw [hn] at es
    refine .inl ⟨Sum.inl (),fun go=>?_,by rw [wk_stop hs _ h]⟩
    unfold f34_l43
    simp only
    rw [dT,cond_true,e1,Bh,Bh,es,A9,F6]
   | some o=>
    rw [hn] at es
    have hs:wk n (k+1)=some (d++[o]):=by simp only [wk];rw [hd];simp only;rw [hn]
    have W2:=wk_wf hg (k+1) _ h hs
    have Do:=nx_dd hl (W.wD k (Nat.le_refl _)) hn
    obtain ⟨q1,q2⟩:=dd_prod Do
    have hp:=pc_in hl (W.wD k (Nat.le_refl _)) (fun hc=>nx_conv hn hc)
    have em:mny n (d++[o]) (k+1)=mny n d k+pt (ly n k) (dm d k):=by
     simp only [mny]
     rw [dm_app _ _ _ (by omega),mny_ext (d':=d) k (fun i hi=>dm_app _ _ _ (by omega))]
    have eg:gr n (d++[o]) (k+1)=(gr n d k||decide (pc (ly n k) (dm d k)>4096)||decide (Ft o>4096)):=by
     have el:dm (d++[o]) (k+1)=o:=by have:=dm_last d o;rw [hL] at this;exact this
     simp only [gr]
     rw [dm_app _ _ _ (by omega),gr_ext (d':=d) k (fun i hi=>dm_app _ _ _ (by omega)),el]
    refine .inr ⟨(alR n (d++[o]) (k+1),grR n (d++[o]) (k+1),((k+1:Nat):Int),d++[o]),fun go=>?_,⟨k+1,d++[o],h,hs,rfl⟩,by simp only [Int.toNat_natCast];omega⟩
    have e63:f34_j63 (alR n d k+pt (ly n k) (dm d k),grR n d k||decide (pc (ly n k) (dm d k)>4096),o)=some (grR n d k||decide (pc (ly n k) (dm d k)>4096)||decide (Ft o>4096)):=by
     unfold f34_j63
     simp only
     rw [rpro (dd_pos Do) (by omega) (by have:=Do.1;omega),A9]
     cases (grR n d k||decide (pc (ly n k) (dm d k)>4096)) <;> rfl
    have e64:∀ g,f34_j64 (alR n d k+pt (ly n k) (dm d k),grR n d k||decide (pc (ly n k) (dm d k)>4096),o) g=some (if alR n d k+pt (ly n k) (dm d k)>4096 then (4097,true) else (alR n d k+pt (ly n k) (dm d k),g)):=fun g=>by
     unfold f34_j64
     simp only
     by_cases hh:alR n d k+pt (ly n k) (dm d k)>4096
     ·rw [dT hh,if_pos hh];rfl
     ·rw [dF hh,if_neg hh];rfl
    have fin:(if alR n d k+pt (ly n k) (dm d k)>4096 then ((4097:Int),true) else (alR n d k+pt (ly n k) (dm d k),grR n d k||decide (pc (ly n k) (dm d k)>4096)||decide (Ft o>4096)))=(alR n (d++[o]) (k+1),grR n (d++[o]) (k+1)):=by
     unfold grR alR
     rw [em,eg]
     by_cases h1:mny n d k>4096
     ·rw [if_pos h1,iPo,iPo,dT (p:=mny n d k+pt (ly n k) (dm d k)>4096) (by omega)]
      simp
     ·rw [if_neg h1]
      by_cases h2:mny n d k+pt (ly n k) (dm d k)>4096
      ·rw [if_pos h2,if_pos h2,dT (p:=mny n d k+pt (ly n k) (dm d k)>4096) h2];simp
      ·rw [if_neg h2,if_neg h2,dF (p:=mny n d k+pt (ly n k) (dm d k)>4096) h2,dF (p:=mny n d k>4096) h1];simp
    have g2:(List.length ([]:List Int)+List.length o)*8≤140737488355328:=by have:=Do.1;simp only [List.length_nil];omega
    have g3:(List.length d+List.length [([]:List Int)++o])*24≤140737488355328:=by simp only [List.length_cons,List.length_nil];omega
    unfold f34_l43
    simp only
    rw [dT,cond_true,e1,Bh,Bh,es,A9,Fl,e63,A9,e64,A9,fin,Bh g2,Bh g3,Gh k]
    rfl
  ·obtain rfl:k=n.2.length:=by omega
   refine .inl ⟨Sum.inr (alR n d n.2.length,grR n d n.2.length,d),fun go=>?_,by rw [hd]⟩
   unfold f34_l43
   simp only
   rw [dF,cond_false]
theorem shapesR (n:Nt) (hN:n.2.length≤40):f34 n=some ((shs n).2.1,(shs n).1,(shs n).2.2):=by
 unfold f34 shs
 have e1:f60 (n.1,n.2)=some (gok n):=formedR n hN
 rw [e1,A9]
 cases hg:gok n
 ·rfl
 ·have D:=(Kc hg).1
  have g2:(List.length ([]:List Int)+List.length n.1)*8≤140737488355328:=by have:=D.1;simp only [List.length_nil];omega
  have L:Fp (fun go (x:Int×Bool×Int×List (List Int))=>f34_l43 n go x.1 x.2.1 x.2.2.1 x.2.2.2) Fq ((0:Int),decide ((List.length n.2:Int)>16),(0:Int),[([]:List Int)++n.1])=_:=loopR n hN hg
  rw [Bool.not_true,cond_false,Bh g2,L,A9]
  cases hw:wk n n.2.length with
  | none=>rfl
  | some d=>
   have W:=wk_wf hg _ _ (Nat.le_refl _) hw
   simp only [F6,cond_true]
   unfold f34_j66 f34_j67
   simp only
   obtain ⟨q1,q2⟩:=dd_prod D
   rw [rpro (dd_pos D) (by omega) (by have:=D.1;omega),A9]
   have eb:bad n d=(grR n d n.2.length||decide (Ft n.1>4096)):=by unfold bad grR;rfl
   rw [eb]
   cases hgr:grR n d n.2.length
   ·have hm:¬mny n d n.2.length>4096:=by
     unfold grR at hgr
     simp only [Bool.or_eq_false_iff,decide_eq_false_iff_not] at hgr
     exact hgr.2
    have ea:alR n d n.2.length=mny n d n.2.length:=by unfold alR;rw [if_neg hm]
    rw [ea]
    cases decide (Ft n.1>4096) <;> rfl
   ·rfl
end Go.Proofs.Cv

