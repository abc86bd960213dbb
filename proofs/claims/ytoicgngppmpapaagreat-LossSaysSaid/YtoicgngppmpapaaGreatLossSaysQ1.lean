import Derived.Test.YtoicgngppmpapaaGreatLossSaysQ0
import Derived.Test.YtoicgngppmpapaaGreatAmY
import Derived.Test.YtoicgngppmpapaaGreatLossSaysS6
set_option linter.unusedVariables false
set_option linter.unusedSimpArgs false
set_option maxRecDepth 100000
set_option linter.unusedSectionVars false

namespace Go.Proofs.Op
open Go.AM Go.Proofs.PlB Go.Proofs.PlW Go.Proofs.PlT Go.Proofs.PlS Go.Proofs.Sh Go.Proofs.Num Go.Proofs.Div
abbrev Tn := List Int × List Int
abbrev InR (x : Int) : Prop := -9223372036854775808 ≤ x ∧ x < 9223372036854775808
theorem sat_in (x : Int) : InR (sat x) := PlR.sat_range x
theorem inI_tab {n : Nat} {g : Nat → Int} (h : ∀ i, i < n → InR (g i)) : inI (tabL n g) := PlR.tab_inI n g h
theorem inI_rd {l : List Int} (h : inI l) (i : Nat) (hi : i < l.length) : InR (rd (0 : Int) l (i : Int)) := inI_get h i hi
def bothS (f : Int → Int → Int) (a b : Tn) : Int × Tn :=
 if tgood a = true ∧ tgood b = true then
  (if (jS a.1 b.1).1 = 0 then (0, (jS a.1 b.1).2, tabL (prd (jS a.1 b.1).2).toNat (fun i => f (rd (0 : Int) a.2 (spX a.1 (jS a.1 b.1).2 i)) (rd (0 : Int) b.2 (spX b.1 (jS a.1 b.1).2 i)))) else ((jS a.1 b.1).1, [], []))
 else (1, [], [])
theorem jS_zero {a b : List Int} (h : (jS a b).1 = 0) : Joined a b (jS a b).2 := jS_joined (d := (jS a b).2) (Prod.ext h rfl)
theorem addP (a b : Tn) (ia : inI a.2) (ib : inI b.2) : f113 a b = some (bothS addV a b) := by
 unfold bothS
 by_cases hg : tgood a = true ∧ tgood b = true
 ·rw [if_pos hg]
  by_cases hj : (jS a.1 b.1).1 = 0
  ·rw [if_pos hj]
   exact add_of a b _ ia ib hg.1 hg.2 (by rw [joinP, ← hj]) (jS_zero hj)
  ·rw [if_neg hj]
   unfold f113 f176_143 f176_143_j2 f176_143_j3
   rw [show ((a.1, a.2) : Tn) = a from rfl, show ((b.1, b.2) : Tn) = b from rfl, good_ok, good_ok, hg.1, hg.2, joinP]
   simp only [bindF_some, Bool.not_true, cond_false, sumF_inl]
   rw [nT hj]; rfl
 ·rw [if_neg hg]
  unfold f113 f176_143 f176_143_j2 f176_143_j3
  rw [show ((a.1, a.2) : Tn) = a from rfl, show ((b.1, b.2) : Tn) = b from rfl, good_ok, good_ok]
  cases h1 : tgood a <;> cases h2 : tgood b <;> simp_all <;> rfl
theorem subP (a b : Tn) (ia : inI a.2) (ib : inI b.2) : f198 a b = some (bothS subV a b) := by
 unfold bothS
 by_cases hg : tgood a = true ∧ tgood b = true
 ·rw [if_pos hg]
  by_cases hj : (jS a.1 b.1).1 = 0
  ·rw [if_pos hj]
   exact sub_of a b _ ia ib hg.1 hg.2 (by rw [joinP, ← hj]) (jS_zero hj)
  ·rw [if_neg hj]
   unfold f198 f176_146 f176_146_j2 f176_146_j3
   rw [show ((a.1, a.2) : Tn) = a from rfl, show ((b.1, b.2) : Tn) = b from rfl, good_ok, good_ok, hg.1, hg.2, joinP]
   simp only [bindF_some, Bool.not_true, cond_false, sumF_inl]
   rw [nT hj]; rfl
 ·rw [if_neg hg]
  unfold f198 f176_146 f176_146_j2 f176_146_j3
  rw [show ((a.1, a.2) : Tn) = a from rfl, show ((b.1, b.2) : Tn) = b from rfl, good_ok, good_ok]
  cases h1 : tgood a <;> cases h2 : tgood b <;> simp_all <;> rfl
theorem mulP (a b : Tn) (ia : inI a.2) (ib : inI b.2) : f164 a b = some (bothS mulX a b) := by
 unfold bothS
 by_cases hg : tgood a = true ∧ tgood b = true
 ·rw [if_pos hg]
  by_cases hj : (jS a.1 b.1).1 = 0
  ·rw [if_pos hj]
   exact mul_of a b _ ia ib hg.1 hg.2 (by rw [joinP, ← hj]) (jS_zero hj)
  ·rw [if_neg hj]
   unfold f164 f176_144 f176_144_j2 f176_144_j3
   rw [show ((a.1, a.2) : Tn) = a from rfl, show ((b.1, b.2) : Tn) = b from rfl, good_ok, good_ok, hg.1, hg.2, joinP]
   simp only [bindF_some, Bool.not_true, cond_false, sumF_inl]
   rw [nT hj]; rfl
 ·rw [if_neg hg]
  unfold f164 f176_144 f176_144_j2 f176_144_j3
  rw [show ((a.1, a.2) : Tn) = a from rfl, show ((b.1, b.2) : Tn) = b from rfl, good_ok, good_ok]
  cases h1 : tgood a <;> cases h2 : tgood b <;> simp_all <;> rfl
theorem eachG (op : Int) (f : Int → Int → Int) (F : Int → Int → Option Int) (hF : ∀ x y, InR x → InR y → F x y = some (f x y))
  (hl : ∀ (a b : Tn) (r11 : Int × List Int) (go : (Int × List Int) → Option (List Int)) (i : Int) (l6 : List Int), f77_l4 op a b r11 go i l6 =
   bif (decide (i < (List.length l6 : Int))) then
    bindF (f128 a.1 r11.2 i) fun r18 => bindF (f128 b.1 r11.2 i) fun r19 =>
    guardF (0 ≤ r18.1 ∧ r18.1 < (List.length a.2 : Int)) <| guardF (0 ≤ r19.1 ∧ r19.1 < (List.length b.2 : Int)) <|
    bindF (F (rd (0 : Int) a.2 r18.1) (rd (0 : Int) b.2 r19.1)) fun q => guardF (0 ≤ i ∧ i < (List.length l6 : Int)) <|
    go ((IntKind.i64.wrap (i + (1 : Int))), (List.set l6 (Int.toNat i) q))
   else some l6) (a b : Tn) (ia : inI a.2) (ib : inI b.2) : f77 op a b = some (bothS f a b) := by
 unfold bothS f77 f77_j2 f77_j3
 rw [show ((a.1, a.2) : Tn) = a from rfl, show ((b.1, b.2) : Tn) = b from rfl, isR, isR]
 by_cases hg : tgood a = true ∧ tgood b = true
 ·rw [if_pos hg, hg.1, hg.2, joinR]
  simp only [bindF_some, Bool.not_true, cond_false, sumF_inl]
  by_cases hj : (jS a.1 b.1).1 = 0
  ·have J := jS_zero hj
   have hd : jS a.1 b.1 = (0, (jS a.1 b.1).2) := Prod.ext hj rfl
   generalize (jS a.1 b.1).2 = d at hd J
   simp only [hd]
   rw [if_pos trivial, nF rfl]
   simp only [cond_false]
   have hr := prd_range d
   have hp := J.pd
   have ga := (good_len hg.1).2.1
   have gb := (good_len hg.2).2.1
   rw [newR d 0 J.pd, bindF_some]
   obtain ⟨N, hN⟩ : ∃ N : Nat, prd d = (N : Int) := ⟨(prd d).toNat, by omega⟩
   rw [hN, Int.toNat_natCast]
   simp only
   rw [upto_zero N (fun i => f (rd (0 : Int) a.2 (spX a.1 d i)) (rd (0 : Int) b.2 (spX b.1 d i)))]
   have := loop_for (B := fun go (x : Int × List Int) => f77_l4 op a b (0, d) go x.1 x.2) (fun k => ((k : Int), upto N k (fun i => f (rd (0 : Int) a.2 (spX a.1 d i)) (rd (0 : Int) b.2 (spX b.1 d i))))) N
    (tabL N (fun i => f (rd (0 : Int) a.2 (spX a.1 d i)) (rd (0 : Int) b.2 (spX b.1 d i)))) ?_ ?_ (by omega)
   ·rw [show ((0 : Nat) : Int) = 0 from rfl] at this
    rw [this]; rfl
   ·intro k hk go
    simp only [hl, upto_len]
    obtain ⟨x0, x1⟩ := spX_range J.fa k (by omega)
    obtain ⟨y0, y1⟩ := spX_range J.fb k (by omega)
    have fa := fromR J.fa k (by omega) (by omega)
    have fb := fromR J.fb k (by omega) (by omega)
    rw [show accS a.1 d (k : Int) a.1.length = spX a.1 d k from rfl] at fa
    rw [show accS b.1 d (k : Int) b.1.length = spX b.1 d k from rfl] at fb
    rw [dT (by omega), cond_true, fa, bindF_some, fb, bindF_some]
    simp only
    obtain ⟨xn, hxn⟩ := Int.eq_ofNat_of_zero_le x0
    obtain ⟨yn, hyn⟩ := Int.eq_ofNat_of_zero_le y0
    have qa := inI_rd ia xn (by omega)
    have qb := inI_rd ib yn (by omega)
    rw [← hxn] at qa
    rw [← hyn] at qb
    rw [guardF_pos (by omega), guardF_pos (by omega), hF _ _ qa qb, bindF_some, guardF_pos (by omega), wrap_i64 (by omega) (by omega), Int.toNat_natCast, upto_set N k _ _ hk rfl]
    rfl
   ·intro go
    simp only [hl, upto_len]
    rw [dF (by omega), cond_false, upto_full]
  ·rw [if_neg hj, nT hj]; rfl
 ·rw [if_neg hg]
  cases h1 : tgood a <;> cases h2 : tgood b <;> simp_all <;> rfl
theorem addR (a b : Tn) (ia : inI a.2) (ib : inI b.2) : f77 0 a b = some (bothS addV a b) :=
 eachG 0 addV f129 (fun x y hx hy => rAdd x y hx.1 hx.2 hy.1 hy.2) (fun a b r go i l => rfl) a b ia ib
theorem subR (a b : Tn) (ia : inI a.2) (ib : inI b.2) : f77 1 a b = some (bothS subV a b) :=
 eachG 1 subV f130 (fun x y hx hy => rSub x y hx.1 hx.2 hy.1 hy.2) (fun a b r go i l => rfl) a b ia ib
theorem mulR (a b : Tn) (ia : inI a.2) (ib : inI b.2) : f77 2 a b = some (bothS mulX a b) :=
 eachG 2 mulX f131 (fun x y hx hy => rMul x y hx.1 hx.2 hy.1 hy.2) (fun a b r go i l => rfl) a b ia ib
def scaleS (a : Tn) (k : Int) : Int × Tn := if tgood a = true then (0, a.1, tabL a.2.length (fun i => mulX (rd (0 : Int) a.2 i) k)) else (1, [], [])
theorem scaleP (a : Tn) (k : Int) (ia : inI a.2) (hk : InR k) : f166 a k = some (scaleS a k) := scale_ok a k ia hk.1 hk.2
theorem scaleR (a : Tn) (k : Int) (ia : inI a.2) (hk : InR k) : f115 a k = some (scaleS a k) := by
 unfold f115 scaleS
 rw [show ((a.1, a.2) : Tn) = a from rfl, isR, bindF_some]
 by_cases hg : tgood a = true
 ·obtain ⟨hp, hl, _, l2⟩ := good_len hg
  rw [if_pos hg, hg, Bool.not_true, cond_false, newR a.1 0 hp, bindF_some]
  rw [show (prd a.1).toNat = a.2.length by omega]
  simp only
  rw [upto_zero _ (fun i => mulX (rd (0 : Int) a.2 i) k)]
  have := loop_for (B := fun go (x : Int × List Int) => f115_l1 a k go x.1 x.2) (fun j => ((j : Int), upto a.2.length j (fun i => mulX (rd (0 : Int) a.2 i) k))) a.2.length (tabL a.2.length (fun i => mulX (rd (0 : Int) a.2 i) k)) ?_ ?_ (by omega)
  ·rw [show ((0 : Nat) : Int) = 0 from rfl] at this
   rw [this]; rfl
  ·intro j hj go
   unfold f115_l1
   simp only [upto_len]
   have q := inI_rd ia j hj
   rw [dT (by omega), cond_true, guardF_pos (by omega), rMul _ _ q.1 q.2 hk.1 hk.2, bindF_some, guardF_pos (by omega), wrap_i64 (by omega) (by omega), Int.toNat_natCast, upto_set _ j (fun i => mulX (rd (0 : Int) a.2 i) k) (sat (rhe (rd (0 : Int) a.2 (j : Int) * k))) hj rfl]
   rfl
  ·intro go
   unfold f115_l1
   simp only [upto_len]
   rw [dF (by omega), cond_false, upto_full]
 ·rw [if_neg hg, show tgood a = false by simpa using hg]; rfl
theorem totalR (a : Tn) (ia : inI a.2) (hl : a.2.length ≤ 4096) : ∃ z, f207 a = some z ∧ Nm (PlR.sumL a.2) z := by
 unfold f207
 have key := loop_rel (B := fun go (x : Int × Bool × Int × Int × Int × Int) => f207_l1 a go x.1 x.2.1 x.2.2.1 x.2.2.2.1 x.2.2.2.2.1 x.2.2.2.2.2)
  (fun k x => x.1 = (k : Int) ∧ Nm (PlR.sumL (a.2.take k)) x.2) (fun z => Nm (PlR.sumL a.2) z) a.2.length ((0 : Int), false, (0 : Int), (0 : Int), (0 : Int), (0 : Int)) ⟨rfl, nm_zero⟩ ?_ ?_ (by omega)
 ·obtain ⟨z, e, hz⟩ := key
  rw [e]; exact ⟨_, rfl, hz⟩
 ·rintro k hk ⟨_, x⟩ ⟨rfl, hx⟩
  simp only at hx ⊢
  have q := inI_rd ia k hk
  obtain ⟨y, ey, hy⟩ := from_ok _ q.1 q.2
  have hs := PlR.sumL_bound 9223372036854775808 (by decide) (a.2.take k) (fun v hv => by have := ia v (List.mem_of_mem_take hv); omega)
  have hlt : (a.2.take k).length ≤ 4096 := by rw [List.length_take]; omega
  obtain ⟨z, ez, hz⟩ := plus_nm hx hy (by unfold Sm; omega) (by unfold Sm; omega)
  refine ⟨(((k + 1 : Nat) : Int), z), fun go => ?_, rfl, ?_⟩
  ·unfold f207_l1
   rw [dT (by omega), cond_true, guardF_pos (by omega), ey, bindF_some, ez, bindF_some, wrap_i64 (by omega) (by omega)]
   rfl
  ·have e : PlR.sumL (a.2.take (k + 1)) = PlR.sumL (a.2.take k) + rd (0 : Int) a.2 (k : Int) := by
    rw [List.take_succ_eq_append_getElem hk, PlR.sumL_app, rd_nat _ _ _ hk]
    simp [PlR.sumL]
   simp only
   rw [e]; exact hz
 ·rintro ⟨_, x⟩ ⟨rfl, hx⟩
  refine ⟨x, fun go => ?_, by simpa using hx⟩
  unfold f207_l1
  rw [dF (by simp only; omega)]; rfl
theorem sum_sm (l : List Int) (il : inI l) (hl : l.length ≤ 4096) : -37778931862957161709568 ≤ PlR.sumL l ∧ PlR.sumL l ≤ 37778931862957161709568 := by
 have := PlR.sumL_bound 9223372036854775808 (by decide) l (fun v hv => by have := il v hv; omega)
 omega
theorem allR (a : Tn) (ia : inI a.2) (hl : a.2.length ≤ 4096) : f158 a = some (sat (PlR.sumL a.2)) := by
 unfold f158
 obtain ⟨z, e, hz⟩ := totalR a ia hl
 have := sum_sm a.2 ia hl
 rw [show ((a.1, a.2) : Tn) = a from rfl, e, bindF_some, held_nm hz (by unfold Sm; omega)]; rfl
theorem allP (a : Tn) (ia : inI a.2) (hg : tgood a = true) : f203 a = some (sat (PlR.sumL a.2), 0) := by
 obtain ⟨_, _, _, hl⟩ := good_len hg
 unfold f203
 rw [show ((a.1, a.2) : Tn) = a from rfl, good_ok, hg, bindF_some, Bool.not_true, cond_false, PlR.total_ok a.2 ia hl, bindF_some]
 rw [show ((PlV.pair (PlR.sumL a.2)).1, (PlV.pair (PlR.sumL a.2)).2) = PlV.pair (PlR.sumL a.2) from rfl, PlV.fix_ok _ (PlR.far_sum a.2 ia hl)]
 rfl
theorem meanR (a : Tn) (ia : inI a.2) (h1 : 1 ≤ a.2.length) (hl : a.2.length ≤ 4096) : f159 a = some (sat (rdI (PlR.sumL a.2) a.2.length)) := by
 unfold f159
 obtain ⟨z, e, hz⟩ := totalR a ia hl
 have := sum_sm a.2 ia hl
 obtain ⟨y, ey, hy, hs⟩ := divided_nm hz (by omega) (a.2.length : Int) (by omega) (by omega) (by omega)
 rw [show ((a.1, a.2) : Tn) = a from rfl, e, bindF_some, ey, bindF_some, held_nm hy hs]; rfl
theorem meanP (a : Tn) (ia : inI a.2) (hg : tgood a = true) : f204 a = some (sat (rdI (PlR.sumL a.2) a.2.length), 0) := by
 obtain ⟨hp, hl1, _, hl⟩ := good_len hg
 have := sum_sm a.2 ia hl
 unfold f204
 rw [show ((a.1, a.2) : Tn) = a from rfl, good_ok, hg, bindF_some, Bool.not_true, cond_false, PlR.total_ok a.2 ia hl, bindF_some]
 rw [show ((PlV.pair (PlR.sumL a.2)).1, (PlV.pair (PlR.sumL a.2)).2) = PlV.pair (PlR.sumL a.2) from rfl, over_ok _ _ (by omega) (by omega) (by omega) (by omega) (by omega)]
 rfl
def bendV (kind x : Int) : Int :=
 if kind = 1 then (if x < 0 then 0 else x)
 else if kind = 2 then (if x > 0 then x else sat (rdI (x * 4294967296) 34359738368))
 else if kind = 3 then (if x > 4294967296 then 4294967296 else if x < -4294967296 then -4294967296 else x)
 else if kind = 4 then (if x < 0 then sat (-x) else x)
 else (if sat (sat (rdI (x * 4294967296) 8589934592) + 2147483648) < 0 then 0 else if sat (sat (rdI (x * 4294967296) 8589934592) + 2147483648) > 4294967296 then 4294967296 else sat (sat (rdI (x * 4294967296) 8589934592) + 2147483648))
theorem bendV_in (kind x : Int) (hx : InR x) : InR (bendV kind x) := by
 have h1 := sat_in (rdI (x * 4294967296) 34359738368)
 have h2 := sat_in (-x)
 have h3 := sat_in (sat (rdI (x * 4294967296) 8589934592) + 2147483648)
 unfold bendV InR at *
 split
 ·split <;> omega
 ·split
  ·split <;> omega
  ·split
   ·split <;> (try split) <;> omega
   ·split
    ·split <;> omega
    ·split <;> (try split) <;> omega
theorem bendR (kind x : Int) (hx : InR x) : f208 kind x = some (bendV kind x) := by
 have s1 := sat_in (rdI (x * 4294967296) 8589934592)
 unfold f208 bendV
 by_cases k1 : kind = 1
 ·rw [bT k1, if_pos k1, cond_true]
  by_cases h : x < 0
  ·rw [dT h, if_pos h]; rfl
  ·rw [dF h, if_neg h]; rfl
 rw [bF k1, if_neg k1, cond_false]
 by_cases k2 : kind = 2
 ·rw [bT k2, if_pos k2, cond_true]
  by_cases h : x > 0
  ·rw [dT h, if_pos h]; rfl
  ·rw [dF h, if_neg h, cond_false, rOf8, bindF_some, rDiv x _ hx.1 hx.2 (by decide) (by decide) (by decide)]; rfl
 rw [bF k2, if_neg k2, cond_false]
 by_cases k3 : kind = 3
 ·rw [bT k3, if_pos k3, cond_true]
  by_cases h : x > 4294967296
  ·rw [dT h, if_pos h]; rfl
  ·rw [dF h, if_neg h, cond_false]
   by_cases h : x < -4294967296
   ·rw [dT h, if_pos h]; rfl
   ·rw [dF h, if_neg h]; rfl
 rw [bF k3, if_neg k3, cond_false]
 by_cases k4 : kind = 4
 ·rw [bT k4, if_pos k4, cond_true]
  by_cases h : x < 0
  ·rw [dT h, if_pos h, cond_true, rNeg x hx.1 hx.2]; rfl
  ·rw [dF h, if_neg h]; rfl
 rw [bF k4, if_neg k4, cond_false, rOf2, bindF_some, rDiv x _ hx.1 hx.2 (by decide) (by decide) (by decide), bindF_some, rAdd _ _ s1.1 s1.2 (by decide) (by decide), bindF_some]
 generalize sat (sat (rdI (x * 4294967296) 8589934592) + 2147483648) = y
 by_cases h : y < 0
 ·rw [dT h, if_pos h]; rfl
 ·rw [dF h, if_neg h, cond_false]
  by_cases h : y > 4294967296
  ·rw [dT h, if_pos h]; rfl
  ·rw [dF h, if_neg h]; rfl
theorem pOf8 : f250 8 = some 34359738368 := by kernel_rfl
theorem pOf2 : f250 2 = some 8589934592 := by kernel_rfl
theorem negP (x : Int) (hx : InR x) (h : x < 0) : f252 x = some (sat (-x)) := by
 unfold InR at hx
 unfold f252 sat
 by_cases c : x = -9223372036854775808
 ·rw [bT c, if_pos (by omega)]; rfl
 ·rw [bF c, if_neg (by omega), if_neg (by omega), cond_false, wrap_i64 (by omega) (by omega)]
  congr 1; omega
theorem withinP (y lo hi : Int) (h : lo ≤ hi) : f251 y lo hi = some (if y > hi then hi else if y < lo then lo else y) := by
 unfold f251
 congr 1
 split <;> (try split) <;> (try split) <;> (try split) <;> omega
theorem bendP (kind x : Int) (k0 : 1 ≤ kind) (k5 : kind ≤ 5) (hx : InR x) : f237 kind x = some (bendV kind x, 0) := by
 have s1 := sat_in (rdI (x * 4294967296) 8589934592)
 unfold f237 bendV
 by_cases k1 : kind = 1
 ·rw [bT k1, if_pos k1, cond_true]
 rw [bF k1, if_neg k1, cond_false]
 by_cases k2 : kind = 2
 ·rw [bT k2, if_pos k2, cond_true]
  by_cases h : x > 0
  ·rw [dT h, if_pos h]; rfl
  ·rw [dF h, if_neg h, cond_false, pOf8, bindF_some, fdiv_ok x _ hx.1 hx.2 (by decide) (by decide) (by decide)]; rfl
 rw [bF k2, if_neg k2, cond_false]
 by_cases k3 : kind = 3
 ·rw [bT k3, if_pos k3, cond_true, withinP _ _ _ (by decide)]; rfl
 rw [bF k3, if_neg k3, cond_false]
 by_cases k4 : kind = 4
 ·rw [bT k4, if_pos k4, cond_true]
  by_cases h : x < 0
  ·rw [dT h, if_pos h, cond_true, negP x hx h]; rfl
  ·rw [dF h, if_neg h]; rfl
 rw [bF k4, if_neg k4, cond_false, bT (by omega), cond_true, pOf2, bindF_some, fdiv_ok x _ hx.1 hx.2 (by decide) (by decide) (by decide), bindF_some, addF_ok _ _ s1.1 s1.2 (by decide) (by decide), bindF_some, withinP _ _ _ (by decide), bindF_some]
 unfold addV
 generalize sat (sat (rdI (x * 4294967296) 8589934592) + 2147483648) = y
 congr 2
 split <;> (try split) <;> (try split) <;> omega
def bentS (kind : Int) (t : Tn) : Int × Tn := if 1 ≤ kind ∧ kind ≤ 5 ∧ tgood t = true then (0, t.1, tabL t.2.length (fun i => bendV kind (rd (0 : Int) t.2 i))) else (1, [], [])
theorem bentR (kind : Int) (t : Tn) (it : inI t.2) : f160 kind t = some (bentS kind t) := by
 unfold f160 bentS f160_j2 f160_j3
 rw [show ((t.1, t.2) : Tn) = t from rfl, isR]
 by_cases h : 1 ≤ kind ∧ kind ≤ 5 ∧ tgood t = true
 ·obtain ⟨hp, hl, _, l2⟩ := good_len h.2.2
  rw [if_pos h, dF (by omega), cond_false, dF (by omega), cond_false, h.2.2]
  simp only [bindF_some, Bool.not_true, cond_false, sumF_inl]
  rw [newR t.1 0 hp, bindF_some, show (prd t.1).toNat = t.2.length by omega]
  simp only
  rw [upto_zero _ (fun i => bendV kind (rd (0 : Int) t.2 i))]
  have := loop_for (B := fun go (x : Int × List Int) => f160_l4 kind t go x.1 x.2) (fun j => ((j : Int), upto t.2.length j (fun i => bendV kind (rd (0 : Int) t.2 i)))) t.2.length (tabL t.2.length (fun i => bendV kind (rd (0 : Int) t.2 i))) ?_ ?_ (by omega)
  ·rw [show ((0 : Nat) : Int) = 0 from rfl] at this
   rw [this]; rfl
  ·intro j hj go
   unfold f160_l4
   simp only [upto_len]
   rw [dT (by omega), cond_true, guardF_pos (by omega), bendR _ _ (inI_rd it j hj), bindF_some, guardF_pos (by omega), wrap_i64 (by omega) (by omega), Int.toNat_natCast, upto_set _ j _ _ hj rfl]
   rfl
  ·intro go
   unfold f160_l4
   simp only [upto_len]
   rw [dF (by omega), cond_false, upto_full]
 ·rw [if_neg h]
  by_cases h1 : kind < 1
  ·rw [dT h1]; rfl
  ·rw [dF h1, cond_false]
   by_cases h2 : kind > 5
   ·rw [dT h2]; rfl
   ·rw [dF h2, cond_false, show tgood t = false by cases ht : tgood t; rfl; exact absurd ⟨by omega, by omega, ht⟩ h]; rfl
theorem bentP (kind : Int) (t : Tn) (it : inI t.2) : f205 kind t = some (bentS kind t) := by
 unfold f205 bentS f205_j2 f205_j3 f222
 rw [show ((t.1, t.2) : Tn) = t from rfl, good_ok]
 by_cases h : 1 ≤ kind ∧ kind ≤ 5 ∧ tgood t = true
 ·obtain ⟨hp, hl, l1, l2⟩ := good_len h.2.2
  rw [if_pos h, dT (by omega), cond_true, bindF_some, dT (show kind ≤ 5 by omega), h.2.2]
  simp only [bindF_some, Bool.not_true, cond_false, sumF_inl]
  rw [copy_t t (by omega) (by omega), bindF_some]
  have := loop_for (B := fun go (x : Int × List Int) => f205_l4 kind t go x.1 x.2) (fun j => ((j : Int), tabL t.2.length (fun i => if i < j then bendV kind (rd (0 : Int) t.2 i) else rd (0 : Int) t.2 i))) t.2.length (tabL t.2.length (fun i => bendV kind (rd (0 : Int) t.2 i))) ?_ ?_ (by omega)
  ·have e0 : tabL t.2.length (fun i => if i < 0 then bendV kind (rd (0 : Int) t.2 i) else rd (0 : Int) t.2 i) = t.2 := by
    apply List.ext_getElem (tab_len _ _)
    intro i h1 h2
    rw [tab_get, if_neg (by omega), rd_nat _ _ _ h2]
   rw [show ((0 : Nat) : Int) = 0 from rfl, e0] at this
   rw [this]; rfl
  ·intro j hj go
   unfold f205_l4
   simp only [tab_len]
   rw [dT (by omega), cond_true, guardF_pos (by omega), bendP _ _ h.1 h.2.1 (inI_rd it j hj), bindF_some, guardF_pos (by omega), wrap_i64 (by omega) (by omega), Int.toNat_natCast, tab_set]
   congr 1
   refine Prod.ext rfl (tab_ext _ _ _ (fun i hi => ?_))
   by_cases hik : i = j
   ·rw [if_pos hik, if_pos (by omega), hik]
   ·rw [if_neg hik]
    by_cases h2 : i < j
    ·rw [if_pos h2, if_pos (by omega)]
    ·rw [if_neg h2, if_neg (by omega)]
  ·intro go
   unfold f205_l4
   simp only
   rw [dF (by omega), cond_false]
   congr 1
   exact tab_ext _ _ _ (fun i hi => by rw [if_pos hi])
 ·rw [if_neg h]
  by_cases h1 : kind ≥ 1
  ·rw [dT h1, cond_true, bindF_some]
   by_cases h2 : kind ≤ 5
   ·rw [dT h2, Bool.not_true, cond_false, bindF_some, show tgood t = false by cases ht : tgood t; rfl; exact absurd ⟨by omega, by omega, ht⟩ h]; rfl
   ·rw [dF h2]; rfl
  ·rw [dF h1]; rfl
end Go.Proofs.Op
namespace Go.Proofs.Op
open Go.AM Go.Proofs.PlB Go.Proofs.PlW Go.Proofs.PlT Go.Proofs.PlS Go.Proofs.Sh Go.Proofs.Num Go.Proofs.Div
theorem sameP (a b : List Int) (h : a.length < 4611686018427387904) : f110 a b = some (decide (a = b)) := by
 unfold f110
 rw [show f162 a b = f73 a b from rfl, sameR a b h]; rfl
def foldSt (sp : Nat → Int) (V : List Int) (N : Nat) : Nat → List Int
 | 0 => List.replicate N 0
 | k + 1 => (foldSt sp V N k).set (sp k).toNat (addV (rd (0 : Int) (foldSt sp V N k) (sp k)) (rd (0 : Int) V (k : Int)))
theorem fold_len (sp : Nat → Int) (V : List Int) (N : Nat) : ∀ k, (foldSt sp V N k).length = N
 | 0 => by simp [foldSt]
 | k + 1 => by simp only [foldSt, List.length_set]; exact fold_len sp V N k
theorem inI_set {l : List Int} (h : inI l) (i : Nat) (v : Int) (hv : InR v) : inI (l.set i v) := fun x hx => by
 rcases List.mem_or_eq_of_mem_set hx with h1 | h1
 ·exact h x h1
 ·rw [h1]; exact hv
theorem inI_rep (n : Nat) (v : Int) (hv : InR v) : inI (List.replicate n v) := fun x hx => by
 rw [(List.mem_replicate.1 hx).2]; exact hv
theorem fold_inI (sp : Nat → Int) (V : List Int) (N : Nat) : ∀ k, inI (foldSt sp V N k)
 | 0 => inI_rep _ _ (by decide)
 | k + 1 => by simp only [foldSt]; exact inI_set (fold_inI sp V N k) _ _ (sat_in _)
def foldS (a : Tn) (d : List Int) : Int × Tn :=
 if tgood a = true ∧ 0 < prd d then (if jS d a.1 = (0, a.1) then (0, d, foldSt (spX d a.1) a.2 (prd d).toNat a.2.length) else (4, [], [])) else (1, [], [])
theorem fold_j (r : Int × List Int) (d : List Int) (h : r.2.length < 4611686018427387904) :
  (bif (r.1 != (0 : Int)) then some true else bindF (some (decide (r.2 = d))) fun r18 => some (!r18)) = some (!decide (r = (0, d))) := by
 by_cases h1 : r.1 = 0
 ·rw [nF h1, cond_false, bindF_some]
  by_cases h2 : r.2 = d
  ·rw [dT h2, dT (show r = (0, d) from Prod.ext h1 h2)]
  ·rw [dF h2, dF (show ¬ r = (0, d) from fun h => h2 (by rw [h]))]
 ·rw [nT h1, dF (show ¬ r = (0, d) from fun h => h1 (by rw [h]))]; rfl
theorem jS_len (a b : List Int) (ha : a.length ≤ 4) (hb : b.length ≤ 4) : (jS a b).2.length ≤ 4 := by
 have h1 : jLen a b ≤ 4 := by unfold jLen; split <;> omega
 have h2 : (jL a b).length ≤ 4 := by unfold jL; rw [tab_len]; exact h1
 unfold jS
 split
 ·cases anyB (jLen a b) (jBad a b)
  ·simp only [cond_false]; split
   ·exact h2
   ·exact Nat.zero_le _
  ·exact Nat.zero_le _
 ·exact Nat.zero_le _
theorem foldP (a : Tn) (d : List Int) (ia : inI a.2) : f163 a d = some (foldS a d) := by
 unfold f163 foldS f163_j2 f163_j3
 rw [show ((a.1, a.2) : Tn) = a from rfl, good_ok, shapeGood_ok]
 by_cases h : tgood a = true ∧ 0 < prd d
 ·obtain ⟨hp, hl, l1, l2⟩ := good_len h.1
  have ld := prd_len h.2
  have hr := prd_range d
  rw [if_pos h, h.1, dT (show prd d > 0 from h.2), joinP]
  simp only [bindF_some, Bool.not_true, cond_false, sumF_inl]
  have hj : f163_j6 a (jS d a.1) = some (!decide (jS d a.1 = (0, a.1))) := by
   unfold f163_j6
   have := jS_len d a.1 ld l1
   rw [sameP _ _ (by omega)]
   exact fold_j _ _ (by omega)
  unfold f163_j5
  rw [hj, bindF_some]
  by_cases h2 : jS d a.1 = (0, a.1)
  ·have F := jS_fits.1 h2
   rw [if_pos h2, dT h2, Bool.not_true, cond_false, bindF_some, sumF_inl, new_ok, if_pos h.2, bindF_some, spread_ok F, bindF_some]
   simp only
   rw [show (prd a.1).toNat = a.2.length by omega]
   have := loop_for (B := fun go (x : Int × List Int) => f163_l7 a (tabL a.2.length (spX d a.1)) go x.1 x.2) (fun k => ((k : Int), foldSt (spX d a.1) a.2 (prd d).toNat k)) a.2.length (foldSt (spX d a.1) a.2 (prd d).toNat a.2.length) ?_ ?_ (by omega)
   ·rw [show ((0 : Nat) : Int) = 0 from rfl] at this
    rw [show List.replicate (prd d).toNat 0 = foldSt (spX d a.1) a.2 (prd d).toNat 0 from rfl, this]; rfl
   ·intro k hk go
    unfold f163_l7
    simp only [fold_len, tab_len]
    obtain ⟨s0, s1⟩ := spX_range F k (by omega)
    obtain ⟨sn, hsn⟩ := Int.eq_ofNat_of_zero_le s0
    have q1 := inI_rd (fold_inI (spX d a.1) a.2 (prd d).toNat k) sn (by rw [fold_len]; omega)
    rw [← hsn] at q1
    have q2 := inI_rd ia k hk
    rw [dT (by omega), cond_true, rd_tab _ _ _ _ hk, guardF_pos (by omega), guardF_pos (by omega), guardF_pos (by omega), guardF_pos (by omega), addF_ok _ _ q1.1 q1.2 q2.1 q2.2, bindF_some, guardF_pos (by omega), wrap_i64 (by omega) (by omega)]
    rfl
   ·intro go
    unfold f163_l7
    simp only
    rw [dF (by omega), cond_false]
  ·rw [if_neg h2, dF h2]; rfl
 ·rw [if_neg h]
  cases h1 : tgood a
  ·rfl
  ·rw [dF (fun h3 => h ⟨h1, h3⟩)]; rfl
theorem foldR (a : Tn) (d : List Int) (ia : inI a.2) : f177 a d = some (foldS a d) := by
 unfold f177 foldS f177_j2 f177_j3
 rw [show ((a.1, a.2) : Tn) = a from rfl, isR, goodR]
 by_cases h : tgood a = true ∧ 0 < prd d
 ·obtain ⟨hp, hl, l1, l2⟩ := good_len h.1
  have ld := prd_len h.2
  have hr := prd_range d
  rw [if_pos h, h.1, dT (show prd d > 0 from h.2), joinR]
  simp only [bindF_some, Bool.not_true, cond_false, sumF_inl]
  have hj : f177_j6 a (jS d a.1) = some (!decide (jS d a.1 = (0, a.1))) := by
   unfold f177_j6
   have := jS_len d a.1 ld l1
   rw [sameR _ _ (by omega)]
   exact fold_j _ _ (by omega)
  unfold f177_j5
  rw [hj, bindF_some]
  by_cases h2 : jS d a.1 = (0, a.1)
  ·have F := jS_fits.1 h2
   rw [if_pos h2, dT h2, Bool.not_true, cond_false, bindF_some, sumF_inl, newR d 0 h.2, bindF_some]
   simp only
   have := loop_for (B := fun go (x : Int × List Int) => f177_l7 a d go x.1 x.2) (fun k => ((k : Int), foldSt (spX d a.1) a.2 (prd d).toNat k)) a.2.length (foldSt (spX d a.1) a.2 (prd d).toNat a.2.length) ?_ ?_ (by omega)
   ·rw [show ((0 : Nat) : Int) = 0 from rfl] at this
    rw [show List.replicate (prd d).toNat 0 = foldSt (spX d a.1) a.2 (prd d).toNat 0 from rfl, this]; rfl
   ·intro k hk go
    unfold f177_l7
    simp only [fold_len]
    obtain ⟨s0, s1⟩ := spX_range F k (by omega)
    obtain ⟨sn, hsn⟩ := Int.eq_ofNat_of_zero_le s0
    have q1 := inI_rd (fold_inI (spX d a.1) a.2 (prd d).toNat k) sn (by rw [fold_len]; omega)
    rw [← hsn] at q1
    have q2 := inI_rd ia k hk
    have ef := fromR F k (by omega) (by omega)
    rw [show accS d a.1 (k : Int) d.length = spX d a.1 k from rfl] at ef
    rw [dT (by omega), cond_true, ef, bindF_some]
    simp only
    rw [guardF_pos (by omega), guardF_pos (by omega), rAdd _ _ q1.1 q1.2 q2.1 q2.2, bindF_some, guardF_pos (by omega), wrap_i64 (by omega) (by omega)]
    rfl
   ·intro go
    unfold f177_l7
    simp only
    rw [dF (by omega), cond_false]
  ·rw [if_neg h2, dF h2]; rfl
 ·rw [if_neg h]
  cases h1 : tgood a
  ·rfl
  ·rw [dF (fun h3 => h ⟨h1, h3⟩)]; rfl
def slopeV (kind x : Int) : Int :=
 if kind = 1 then (if x > 0 then 4294967296 else 0)
 else if kind = 2 then (if x > 0 then 4294967296 else 536870912)
 else if kind = 3 then (if x > -4294967296 ∧ x < 4294967296 then 4294967296 else 0)
 else if kind = 4 then (if x > 0 then 4294967296 else if x < 0 then -4294967296 else 0)
 else (if x > -4294967296 ∧ x < 4294967296 then 2147483648 else 0)
theorem slope_in (kind x : Int) : InR (slopeV kind x) := by
 unfold slopeV InR
 repeat' split
 all_goals omega
theorem oneP (b : Bool) (x y : Int) : f245 b x y = some (if b = true then x else y) := by cases b <;> rfl
theorem slopeP (kind x : Int) (k0 : 1 ≤ kind) (k5 : kind ≤ 5) : f223 kind x = some (slopeV kind x, 0) := by
 unfold f223 slopeV
 have hj : f223_j1 x = some (decide (x > -4294967296 ∧ x < 4294967296)) := by
  unfold f223_j1
  by_cases h : x > -4294967296
  ·rw [dT h, cond_true]; congr 1; rw [decide_eq_decide]; omega
  ·rw [dF h, dF (show ¬ (x > -4294967296 ∧ x < 4294967296) from fun hh => h hh.1)]; rfl
 rw [hj]
 simp only [bindF_some, oneP, decide_eq_true_eq]
 by_cases k1 : kind = 1
 ·rw [bT k1, if_pos k1]; rfl
 rw [bF k1, if_neg k1, cond_false]
 by_cases k2 : kind = 2
 ·rw [bT k2, if_pos k2]; rfl
 rw [bF k2, if_neg k2, cond_false]
 by_cases k3 : kind = 3
 ·rw [bT k3, if_pos k3]; rfl
 rw [bF k3, if_neg k3, cond_false]
 by_cases k4 : kind = 4
 ·rw [bT k4, if_pos k4, cond_true]
  unfold f246
  by_cases h : x < 0
  ·rw [dT h, if_neg (by omega), if_pos h]; rfl
  ·rw [dF h, cond_false]
   by_cases h1 : x > 0
   ·rw [dT h1, if_pos h1]; rfl
   ·rw [dF h1, if_neg h1, if_neg h]; rfl
 rw [bF k4, if_neg k4, cond_false, bT (by omega)]; rfl
def unbentS (kind : Int) (t g : Tn) : Int × Tn :=
 if 1 ≤ kind ∧ kind ≤ 5 ∧ tgood t = true ∧ tgood g = true then (if t.1 = g.1 then (0, t.1, tabL t.2.length (fun i => mulX (rd (0 : Int) g.2 i) (slopeV kind (rd (0 : Int) t.2 i)))) else (4, [], [])) else (1, [], [])
theorem unbentP (kind : Int) (t g : Tn) (ig : inI g.2) : f171 kind t g = some (unbentS kind t g) := by
 unfold f171 unbentS f171_j2 f171_j3 f222
 rw [show ((t.1, t.2) : Tn) = t from rfl, show ((g.1, g.2) : Tn) = g from rfl, good_ok, good_ok]
 by_cases h : 1 ≤ kind ∧ kind ≤ 5 ∧ tgood t = true ∧ tgood g = true
 ·obtain ⟨hp, hl, l1, l2⟩ := good_len h.2.2.1
  obtain ⟨gp, gl, m1, m2⟩ := good_len h.2.2.2
  rw [if_pos h, dT (show kind ≥ 1 by omega), cond_true, bindF_some, dT (show kind ≤ 5 by omega), h.2.2.1, h.2.2.2, sameP _ _ (by omega)]
  simp only [bindF_some, Bool.not_true, cond_false]
  by_cases h2 : t.1 = g.1
  ·have hlen : g.2.length = t.2.length := by rw [h2] at hl; omega
   rw [if_pos h2, dT h2, Bool.not_true, cond_false, bindF_some, sumF_inl, copy_t g (by omega) (by omega), bindF_some]
   have := loop_for (B := fun go (x : Int × List Int) => f171_l4 kind t g go x.1 x.2) (fun j => ((j : Int), tabL t.2.length (fun i => if i < j then mulX (rd (0 : Int) g.2 i) (slopeV kind (rd (0 : Int) t.2 i)) else rd (0 : Int) g.2 i))) t.2.length (tabL t.2.length (fun i => mulX (rd (0 : Int) g.2 i) (slopeV kind (rd (0 : Int) t.2 i)))) ?_ ?_ (by omega)
   ·have e0 : tabL t.2.length (fun i => if i < 0 then mulX (rd (0 : Int) g.2 i) (slopeV kind (rd (0 : Int) t.2 i)) else rd (0 : Int) g.2 i) = g.2 := by
     apply List.ext_getElem (by rw [tab_len, hlen])
     intro i h1 h2
     rw [tab_get, if_neg (by omega), rd_nat _ _ _ h2]
    rw [show ((0 : Nat) : Int) = 0 from rfl, e0] at this
    rw [this, bindF_some, h2]
   ·intro j hj go
    unfold f171_l4
    simp only [tab_len]
    have q := inI_rd ig j (by omega)
    have s := slope_in kind (rd (0 : Int) t.2 j)
    rw [dT (by omega), cond_true, guardF_pos (by omega), slopeP _ _ h.1 h.2.1, bindF_some, guardF_pos (by omega), mulF_ok _ _ q.1 q.2 s.1 s.2, bindF_some, guardF_pos (by omega), wrap_i64 (by omega) (by omega), Int.toNat_natCast, tab_set]
    congr 1
    refine Prod.ext rfl (tab_ext _ _ _ (fun i hi => ?_))
    by_cases hik : i = j
    ·rw [if_pos hik, if_pos (by omega), hik]
    ·rw [if_neg hik]
     by_cases h2 : i < j
     ·rw [if_pos h2, if_pos (by omega)]
     ·rw [if_neg h2, if_neg (by omega)]
   ·intro go
    unfold f171_l4
    simp only
    rw [dF (by omega), cond_false]
    congr 1
    exact tab_ext _ _ _ (fun i hi => by rw [if_pos hi])
  ·rw [if_neg h2, dF h2]; rfl
 ·rw [if_neg h]
  by_cases h1 : kind ≥ 1
  ·rw [dT h1, cond_true, bindF_some]
   by_cases h2 : kind ≤ 5
   ·rw [dT h2]
    cases ht : tgood t
    ·rfl
    ·cases hgg : tgood g
     ·rfl
     ·exact absurd ⟨h1, h2, ht, hgg⟩ h
   ·rw [dF h2]; rfl
  ·rw [dF h1]; rfl
end Go.Proofs.Op
namespace Go.Proofs.Op
open Go.AM Go.Proofs.PlB Go.Proofs.PlW Go.Proofs.PlT Go.Proofs.PlS Go.Proofs.Sh Go.Proofs.Num Go.Proofs.Div Go.Proofs.PlR
theorem fits_self {d : List Int} (h : 0 < prd d) : Fits d d := ⟨h, h, Nat.le_refl _, fun k hk h1 => rfl⟩
theorem acc_self {d : List Int} (h : 0 < prd d) (v : Int) (v0 : 0 ≤ v) (v1 : v ≤ 4096) : ∀ k, k ≤ d.length → accS d d v k + strd d k * rst d v k = v
 | 0, _ => by simp only [accS, rst, strd_zero]; omega
 | k + 1, hk => by
  have ih := acc_self h v v0 v1 k (by omega)
  obtain ⟨s0, s1⟩ := side_pos h k
  rw [strd_succ d k hk]
  simp only [accS, rst]
  have e := Int.mul_ediv_add_emod (rst d v k) (side d k)
  have e2 : (if side d k > 1 then rst d v k % side d k * strd d k else 0) = rst d v k % side d k * strd d k := by
   split
   ·rfl
   ·have : side d k = 1 := by omega
    rw [this, Int.emod_one, Int.zero_mul]
  rw [e2]
  have e3 : side d k * strd d k * (rst d v k / side d k) = strd d k * (side d k * (rst d v k / side d k)) := by
   rw [Int.mul_comm (side d k), Int.mul_assoc]
  have e4 : strd d k * rst d v k = strd d k * (side d k * (rst d v k / side d k)) + rst d v k % side d k * strd d k := by
   conv => lhs; rw [← e]
   rw [Int.mul_add, Int.mul_comm (strd d k) (rst d v k % side d k)]
  omega
theorem rst_all {d : List Int} (h : 0 < prd d) (v : Int) (v0 : 0 ≤ v) (v1 : v < prd d) : rst d v d.length = 0 := by
 have hr := prd_range d
 have e := acc_self h v v0 (by omega) d.length (Nat.le_refl _)
 obtain ⟨a, b⟩ := acc_range (fits_self h) v v0 (by omega) d.length (Nat.le_refl _)
 obtain ⟨r0, r1⟩ := rst_range h v v0 (by omega) d.length
 rw [strd_all, ← (prd_prod h).1] at e
 by_cases hz : rst d v d.length = 0
 ·exact hz
 ·have : prd d * 1 ≤ prd d * rst d v d.length := Int.mul_le_mul_of_nonneg_left (by omega) (by omega)
  omega
theorem spX_self {d : List Int} (h : 0 < prd d) (i : Nat) (hi : (i : Int) < prd d) : spX d d i = i := by
 have hr := prd_range d
 have e := acc_self h (i : Int) (by omega) (by omega) d.length (Nat.le_refl _)
 rw [rst_all h _ (by omega) hi, Int.mul_zero, Int.add_zero] at e
 exact e
def addT (a b : Tn) : Tn := (a.1, tabL a.2.length (fun i => addV (rd (0 : Int) a.2 i) (rd (0 : Int) b.2 i)))
theorem both_self (f : Int → Int → Int) (a b : Tn) (ga : tgood a = true) (gb : tgood b = true) (h : a.1 = b.1) : bothS f a b = (0, a.1, tabL a.2.length (fun i => f (rd (0 : Int) a.2 i) (rd (0 : Int) b.2 i))) := by
 obtain ⟨pa, la, _, _⟩ := good_len ga
 unfold bothS
 rw [if_pos ⟨ga, gb⟩, ← h, jS_fits.2 (fits_self pa), if_pos rfl]
 congr 2
 simp only
 rw [show (prd a.1).toNat = a.2.length by omega]
 exact tab_ext _ _ _ (fun i hi => by rw [spX_self pa i (by omega)])
theorem tgood_of {t : Tn} (h : 0 < prd t.1) (hl : (t.2.length : Int) = prd t.1) : tgood t = true := by
 unfold tgood; rw [dT (show prd t.1 > 0 from h), bT hl]; rfl
def gn (l : List Nd) (i : Nat) : Nd := rd (Ty.z (.p (.int .i64) (.p (.int .i64) (.p (.int .i64) (.p (.int .i64) (.p (.sl (.int .i64)) (.sl (.int .i64)))))))) l (i : Int)
def GoodT (t : Tn) : Prop := tgood t = true ∧ inI t.2
def vl (l : List Nd) (n : Int) : Tn := if 0 ≤ n ∧ n < l.length then nd l n.toNat else ([], [])
theorem hasP (l : List Nd) (n : Int) : f72 l n = some (decide (0 ≤ n ∧ n < l.length), l) := by
 unfold f72
 by_cases h : n ≥ 0
 ·rw [dT h, cond_true]
  congr 2
  rw [decide_eq_decide]; omega
 ·rw [dF h, cond_false, dF (show ¬ (0 ≤ n ∧ n < l.length) from fun hh => h hh.1)]
theorem atP (l : List Nd) (i : Nat) (h : i < l.length) (hg : GoodT (nd l i)) : f24 l (i : Int) = some ((gn l i).1, (gn l i).2.1, (gn l i).2.2.1, (gn l i).2.2.2.1, true, (nd l i).1, (nd l i).2, l) := by
 obtain ⟨_, _, l1, l2⟩ := good_len hg.1
 unfold f24
 rw [hasP, bindF_some, dT (by omega)]
 simp only [Bool.not_true, cond_false]
 rw [guardF_pos (by omega)]
 show bindF (f61 (nd l i)) _ = _
 rw [copy_t _ (by omega) (by omega), bindF_some]
 rfl
theorem atP_none (l : List Nd) (n : Int) (h : ¬ (0 ≤ n ∧ n < l.length)) : f24 l n = some (0, 0, 0, 0, false, [], [], l) := by
 unfold f24
 rw [hasP, bindF_some, dF h]
 rfl
theorem valueP (l : List Nd) (n : Int) (hg : ∀ i, i < l.length → GoodT (nd l i)) : f58 l n = some (decide (0 ≤ n ∧ n < l.length), (vl l n).1, (vl l n).2, l) := by
 unfold f58 vl
 by_cases h : 0 ≤ n ∧ n < l.length
 ·obtain ⟨i, rfl⟩ := Int.eq_ofNat_of_zero_le h.1
  rw [atP l i (by omega) (hg i (by omega)), bindF_some, if_pos h, dT h, Int.toNat_natCast]
 ·rw [atP_none l n h, bindF_some, if_neg h, dF h]
theorem oneT (l : List Nd) (hg : ∀ i, i < l.length → GoodT (nd l i)) (i : Nat) (h : i < l.length) (g ga gb : Tn) (gg : tgood g = true) (hd : g.1 = (nd l i).1)
  (hA : f111 (gn l i) (vl l (gn l i).2.1) (vl l (gn l i).2.2.1) g = some (0, ga)) (hB : f112 (gn l i) (vl l (gn l i).2.1) (vl l (gn l i).2.2.1) g = some (0, gb)) :
  f74 l (i : Int) g = some (0, ga.1, ga.2, gb.1, gb.2, l) := by
 obtain ⟨_, _, l1, _⟩ := good_len gg
 unfold f74
 rw [atP l i h (hg i h), bindF_some]
 have hj : f74_j2 g ((gn l i).1, (gn l i).2.1, (gn l i).2.2.1, (gn l i).2.2.2.1, true, (nd l i).1, (nd l i).2, l) = some (Sum.inl ()) := by
  unfold f74_j2 f74_j3
  simp only [Bool.not_true, cond_false]
  rw [show ((g.1, g.2) : Tn) = g from rfl, good_ok, gg, sameP _ _ (by omega), dT hd]
  rfl
 rw [hj, bindF_some, sumF_inl]
 simp only
 rw [valueP l _ hg, bindF_some]
 simp only
 rw [valueP l _ hg, bindF_some]
 have eA : f111 ((gn l i).1, (gn l i).2.1, (gn l i).2.2.1, (gn l i).2.2.2.1, (nd l i).1, (nd l i).2) ((vl l (gn l i).2.1).1, (vl l (gn l i).2.1).2) ((vl l (gn l i).2.2.1).1, (vl l (gn l i).2.2.1).2) (g.1, g.2) = some (0, ga) := hA
 have eB : f112 ((gn l i).1, (gn l i).2.1, (gn l i).2.2.1, (gn l i).2.2.2.1, (nd l i).1, (nd l i).2) ((vl l (gn l i).2.1).1, (vl l (gn l i).2.1).2) ((vl l (gn l i).2.2.1).1, (vl l (gn l i).2.2.1).2) (g.1, g.2) = some (0, gb) := hB
 rw [eA, bindF_some, nF rfl, cond_false, eB, bindF_some, nF rfl, cond_false]
structure NodeOk (l : List Nd) (i : Nat) (ga gb : Tn → Tn) : Prop where
 a : ∀ g, GoodT g → g.1 = (nd l i).1 → f111 (gn l i) (vl l (gn l i).2.1) (vl l (gn l i).2.2.1) g = some (0, ga g)
 b : ∀ g, GoodT g → g.1 = (nd l i).1 → f112 (gn l i) (vl l (gn l i).2.1) (vl l (gn l i).2.2.1) g = some (0, gb g)
 ta : ∀ g, GoodT g → g.1 = (nd l i).1 → 0 ≤ (gn l i).2.1 → (gn l i).2.1 < i ∧ GoodT (ga g) ∧ (ga g).1 = (nd l (gn l i).2.1.toNat).1
 tb : ∀ g, GoodT g → g.1 = (nd l i).1 → 0 ≤ (gn l i).2.2.1 → (gn l i).2.2.1 < i ∧ GoodT (gb g) ∧ (gb g).1 = (nd l (gn l i).2.2.1.toNat).1
abbrev Z2 : Tn := Ty.z (.p (.sl (.int .i64)) (.sl (.int .i64)))
def giveS (st : List Tn × List Bool) (n : Int) (g : Tn) : List Tn × List Bool :=
 if n < 0 then st else (st.1.set n.toNat (addT (rd Z2 st.1 n) g), st.2.set n.toNat true)
def zer (l : List Nd) (i : Nat) : Tn := ((nd l i).1, List.replicate (prd (nd l i).1).toNat 0)
def glist (l : List Nd) (k : Nat) : List Tn := (List.range k).map (zer l)
theorem glist_len (l : List Nd) (k : Nat) : (glist l k).length = k := by simp [glist]
theorem glist_succ (l : List Nd) (k : Nat) : glist l (k + 1) = glist l k ++ [zer l k] := by simp [glist, List.range_succ]
def swp (l : List Nd) (GA GB : Nat → Tn → Tn) (root : Nat) : Nat → List Tn × List Bool
 | 0 => (glist l root ++ [((nd l root).1, [4294967296])], (List.replicate (root + 1) false).set root true)
 | k + 1 => if rd false (swp l GA GB root k).2 ((root - k : Nat) : Int) = true then
   giveS (giveS (swp l GA GB root k) (gn l (root - k)).2.1 (GA (root - k) (rd Z2 (swp l GA GB root k).1 ((root - k : Nat) : Int)))) (gn l (root - k)).2.2.1 (GB (root - k) (rd Z2 (swp l GA GB root k).1 ((root - k : Nat) : Int)))
  else swp l GA GB root k
structure Keeps (l : List Nd) (root : Nat) (st : List Tn × List Bool) : Prop where
 l1 : st.1.length = root + 1
 l2 : st.2.length = root + 1
 ok : ∀ i, i ≤ root → GoodT (rd Z2 st.1 (i : Int)) ∧ (rd Z2 st.1 (i : Int)).1 = (nd l i).1
theorem rd_set {α : Type} (z : α) (xs : List α) (i j : Nat) (v : α) (hj : j < xs.length) : rd z (xs.set i v) (j : Int) = if i = j then v else rd z xs (j : Int) := by
 rw [rd_nat _ _ _ (by rw [List.length_set]; exact hj), List.getElem_set]
 split
 ·rfl
 ·rw [rd_nat _ _ _ hj]
theorem good_addT {a b : Tn} (ha : GoodT a) (h : a.1 = b.1) : GoodT (addT a b) ∧ (addT a b).1 = a.1 := by
 obtain ⟨pa, la, _, _⟩ := good_len ha.1
 exact ⟨⟨tgood_of pa (by unfold addT; rw [tab_len]; exact la), inI_tab (fun i hi => sat_in _)⟩, rfl⟩
theorem giveP (l : List Nd) (root : Nat) (st : List Tn × List Bool) (K : Keeps l root st) (n : Int) (g : Tn) (h : 0 ≤ n → n ≤ root ∧ GoodT g ∧ g.1 = (nd l n.toNat).1) :
  f75 st.1 st.2 n g = some (0, giveS st n g) ∧ Keeps l root (giveS st n g) := by
 unfold f75 giveS
 by_cases hn : n < 0
 ·rw [dT hn, if_pos hn]; exact ⟨rfl, K⟩
 ·obtain ⟨h1, h2, h3⟩ := h (by omega)
  obtain ⟨i, rfl⟩ := Int.eq_ofNat_of_zero_le (show 0 ≤ n by omega)
  rw [Int.toNat_natCast] at h3
  obtain ⟨k1, k2⟩ := K.ok i (by omega)
  have l1 := K.l1
  have l2 := K.l2
  rw [dF hn, if_neg hn, cond_false, guardF_pos (by omega)]
  have ea : f113 ((rd Z2 st.1 (i : Int)).1, (rd Z2 st.1 (i : Int)).2) (g.1, g.2) = some (0, addT (rd Z2 st.1 (i : Int)) g) := by
   rw [show (((rd Z2 st.1 (i : Int)).1, (rd Z2 st.1 (i : Int)).2) : Tn) = rd Z2 st.1 (i : Int) from rfl, show ((g.1, g.2) : Tn) = g from rfl, addP _ _ k1.2 h2.2, both_self _ _ _ k1.1 h2.1 (by rw [k2, h3])]
   rfl
  have ea2 : f113 ((rd (Ty.z (.p (.sl (.int .i64)) (.sl (.int .i64)))) st.1 (i : Int)).1, (rd (Ty.z (.p (.sl (.int .i64)) (.sl (.int .i64)))) st.1 (i : Int)).2) (g.1, g.2) = some (0, addT (rd Z2 st.1 (i : Int)) g) := ea
  rw [ea2, bindF_some, guardF_pos (by omega), guardF_pos (by omega)]
  refine ⟨rfl, by simp only [List.length_set]; exact l1, by simp only [List.length_set]; exact l2, fun j hj => ?_⟩
  simp only [Int.toNat_natCast]
  rw [rd_set _ _ _ _ _ (by omega)]
  obtain ⟨q1, q2⟩ := good_addT (a := rd Z2 st.1 (i : Int)) (b := g) k1 (by rw [k2, h3])
  split
  ·next e => subst e; exact ⟨q1, by rw [q2, k2]⟩
  ·exact K.ok j hj
theorem rd_app {α : Type} (z : α) (l : List α) (v : α) (i : Nat) (h : i < l.length) : rd z (l ++ [v]) (i : Int) = rd z l (i : Int) := by
 rw [rd_nat _ _ _ (by rw [List.length_append]; simp; omega), rd_nat _ _ _ h, List.getElem_append_left h]
theorem rd_last {α : Type} (z : α) (l : List α) (v : α) : rd z (l ++ [v]) (l.length : Int) = v := by
 rw [rd_nat _ _ _ (by rw [List.length_append]; simp), List.getElem_append_right (Nat.le_refl _)]
 simp
theorem glist_rd (l : List Nd) (k i : Nat) (h : i < k) : rd Z2 (glist l k) (i : Int) = zer l i := by
 rw [rd_nat _ _ _ (by rw [glist_len]; exact h)]; simp [glist]
theorem zer_good (l : List Nd) (i : Nat) (h : GoodT (nd l i)) : GoodT (zer l i) := by
 obtain ⟨p, _, _, _⟩ := good_len h.1
 have := prd_range (nd l i).1
 refine ⟨tgood_of p ?_, inI_rep _ _ (by decide)⟩
 unfold zer; simp only [List.length_replicate]; omega
theorem keeps0 (l : List Nd) (GA GB : Nat → Tn → Tn) (root : Nat) (hr : root < l.length) (hg : ∀ i, i < l.length → GoodT (nd l i)) (h1 : prd (nd l root).1 = 1) : Keeps l root (swp l GA GB root 0) := by
 refine ⟨by simp [swp, glist_len], by simp [swp], fun i hi => ?_⟩
 simp only [swp]
 by_cases h : i < root
 ·rw [rd_app _ _ _ _ (by rw [glist_len]; exact h), glist_rd _ _ _ h]
  exact ⟨zer_good l i (hg i (by omega)), rfl⟩
 ·obtain rfl : i = root := by omega
  have e := rd_last Z2 (glist l i) ((nd l i).1, [4294967296])
  rw [glist_len] at e
  rw [e]
  exact ⟨⟨tgood_of (by simp only; omega) (by simp only [List.length_cons, List.length_nil]; omega), fun x hx => by rw [List.mem_singleton.1 hx]; decide⟩, rfl⟩
theorem keeps (l : List Nd) (GA GB : Nat → Tn → Tn) (root : Nat) (hr : root < l.length) (hg : ∀ i, i < l.length → GoodT (nd l i)) (h1 : prd (nd l root).1 = 1)
  (hn : ∀ n, n ≤ root → NodeOk l n (GA n) (GB n)) : ∀ k, k ≤ root + 1 → Keeps l root (swp l GA GB root k)
 | 0, _ => keeps0 l GA GB root hr hg h1
 | k + 1, hk => by
  have K := keeps l GA GB root hr hg h1 hn k (by omega)
  simp only [swp]
  split
  ·have N := hn (root - k) (by omega)
   obtain ⟨q1, q2⟩ := K.ok (root - k) (by omega)
   have s1 := giveP l root _ K (gn l (root - k)).2.1 (GA (root - k) (rd Z2 (swp l GA GB root k).1 ((root - k : Nat) : Int))) (fun h => by
    obtain ⟨a, b, c⟩ := N.ta _ q1 q2 h; exact ⟨by omega, b, c⟩)
   exact (giveP l root _ s1.2 (gn l (root - k)).2.2.1 (GB (root - k) (rd Z2 (swp l GA GB root k).1 ((root - k : Nat) : Int))) (fun h => by
    obtain ⟨a, b, c⟩ := N.tb _ q1 q2 h; exact ⟨by omega, b, c⟩)).2
  ·exact K
def sw1 (l : List Nd) : Nat → Int × List Nd × List Tn × Int × List Int × List Int
 | 0 => (0, l, [], 0, [], [])
 | k + 1 => (((k + 1 : Nat) : Int), l, glist l k ++ [Z2], (k : Int), (zer l k).1, (zer l k).2)
theorem set_last {α : Type} (l : List α) (v w : α) : (l ++ [v]).set l.length w = l ++ [w] := by
 rw [List.set_append_right _ _ (Nat.le_refl _)]; simp
theorem sweepP (l : List Nd) (GA GB : Nat → Tn → Tn) (root : Nat) (hr : root < l.length) (hl : l.length ≤ 512) (hg : ∀ i, i < l.length → GoodT (nd l i)) (h1 : prd (nd l root).1 = 1)
  (hn : ∀ n, n ≤ root → NodeOk l n (GA n) (GB n)) : f26 l (root : Int) = some (0, (swp l GA GB root (root + 1)).1, l) := by
 have hroot := hg root hr
 obtain ⟨_, lr, lr1, _⟩ := good_len hroot.1
 unfold f26
 rw [valueP l _ hg, bindF_some]
 have ev : vl l (root : Int) = nd l root := by unfold vl; rw [if_pos (by omega), Int.toNat_natCast]
 simp only [ev]
 rw [dT (show 0 ≤ (root : Int) ∧ (root : Int) < l.length by omega), Bool.not_true, cond_false, dF (show ¬ ((nd l root).2.length : Int) > 1 by omega), cond_false]
 have wr : IntKind.i64.wrap ((root : Int) + 1) = ((root + 1 : Nat) : Int) := by rw [wrap_i64 (by omega) (by omega)]; omega
 rw [wr, guardF_pos (by omega)]
 have L1 := loop_for (B := fun go (x : Int × List Nd × List Tn × Int × List Int × List Int) => f26_l1 (root : Int) go x.1 x.2.1 x.2.2.1 x.2.2.2.1 x.2.2.2.2.1 x.2.2.2.2.2) (sw1 l) (root + 1) (sw1 l (root + 1)).2 ?_ ?_ (by omega)
 ·have e0 : sw1 l 0 = ((0 : Int), l, [], (0 : Int), [], []) := rfl
  rw [e0, show (sw1 l (root + 1)).2 = (l, glist l root ++ [Z2], (root : Int), (zer l root).1, (zer l root).2) from rfl] at L1
  rw [L1, bindF_some]
  simp only
  rw [guardF_pos (by rw [List.length_append, glist_len]; simp; omega), guardF_pos trivial]
  have hz : (zer l root).2 = [0] := by unfold zer; rw [h1]; rfl
  rw [hz, guardF_pos (by decide), guardF_pos (by simp; omega)]
  have es : List.set (glist l root ++ [Z2]) (Int.toNat (root : Int)) ((zer l root).1, List.set [(0 : Int)] (Int.toNat (0 : Int)) 4294967296) = (swp l GA GB root 0).1 := by
   have := set_last (glist l root) Z2 ((zer l root).1, List.set [(0 : Int)] (Int.toNat (0 : Int)) 4294967296)
   rw [glist_len] at this
   rw [Int.toNat_natCast, this]; rfl
  have eg : List.set (List.replicate (Int.toNat ((root + 1 : Nat) : Int)) false) (Int.toNat (root : Int)) true = (swp l GA GB root 0).2 := by
   rw [Int.toNat_natCast, Int.toNat_natCast]; rfl
  rw [es, eg]
  have L2 := loop_for (B := fun go (x : Int × List Nd × List Tn × List Bool) => f26_l2 go x.1 x.2.1 x.2.2.1 x.2.2.2) (fun k => ((root : Int) - (k : Int), l, (swp l GA GB root k).1, (swp l GA GB root k).2)) (root + 1)
   (Sum.inr ((swp l GA GB root (root + 1)).1, (swp l GA GB root (root + 1)).2, l)) ?_ ?_ (by omega)
  ·have e2 : ((root : Int) - ((0 : Nat) : Int), l, (swp l GA GB root 0).1, (swp l GA GB root 0).2) = ((root : Int), l, (swp l GA GB root 0).1, (swp l GA GB root 0).2) := by
    rw [show (root : Int) - ((0 : Nat) : Int) = (root : Int) by omega]
   rw [e2] at L2
   rw [L2, bindF_some, sumF_inr]
  ·intro k hk go
   have K := keeps l GA GB root hr hg h1 hn k (by omega)
   have kl1 := K.l1
   have kl2 := K.l2
   unfold f26_l2
   simp only
   rw [show (root : Int) - (k : Int) = ((root - k : Nat) : Int) by omega, dT (by omega), cond_true, guardF_pos (by omega)]
   have wn : IntKind.i64.wrap (((root - k : Nat) : Int) - 1) = (root : Int) - ((k + 1 : Nat) : Int) := by rw [wrap_i64 (by omega) (by omega)]; omega
   simp only [swp]
   cases hb : rd false (swp l GA GB root k).2 ((root - k : Nat) : Int)
   ·rw [Bool.not_false, cond_true, wn, if_neg (by decide)]
   ·rw [Bool.not_true, cond_false, if_pos rfl]
    have N := hn (root - k) (by omega)
    obtain ⟨q1, q2⟩ := K.ok (root - k) (by omega)
    rw [atP l (root - k) (by omega) (hg _ (by omega)), bindF_some, guardF_pos (by omega)]
    simp only
    have eo := oneT l hg (root - k) (by omega) _ _ _ q1.1 q2 (N.a _ q1 q2) (N.b _ q1 q2)
    have eo2 : f74 l ((root - k : Nat) : Int) ((rd (Ty.z (.p (.sl (.int .i64)) (.sl (.int .i64)))) (swp l GA GB root k).1 ((root - k : Nat) : Int)).1, (rd (Ty.z (.p (.sl (.int .i64)) (.sl (.int .i64)))) (swp l GA GB root k).1 ((root - k : Nat) : Int)).2) = _ := eo
    have s1 := giveP l root _ K (gn l (root - k)).2.1 (GA (root - k) (rd Z2 (swp l GA GB root k).1 ((root - k : Nat) : Int))) (fun h => by
     obtain ⟨a, b, c⟩ := N.ta _ q1 q2 h; exact ⟨by omega, b, c⟩)
    have s2 := giveP l root _ s1.2 (gn l (root - k)).2.2.1 (GB (root - k) (rd Z2 (swp l GA GB root k).1 ((root - k : Nat) : Int))) (fun h => by
     obtain ⟨a, b, c⟩ := N.tb _ q1 q2 h; exact ⟨by omega, b, c⟩)
    rw [eo2, bindF_some, nF rfl, cond_false]
    simp only
    have g1 : f75 (swp l GA GB root k).1 (swp l GA GB root k).2 (gn l (root - k)).2.1 ((GA (root - k) (rd Z2 (swp l GA GB root k).1 ((root - k : Nat) : Int))).1, (GA (root - k) (rd Z2 (swp l GA GB root k).1 ((root - k : Nat) : Int))).2) = _ := s1.1
    rw [g1, bindF_some, nF rfl, cond_false]
    simp only
    have g2 : f75 _ _ (gn l (root - k)).2.2.1 ((GB (root - k) (rd Z2 (swp l GA GB root k).1 ((root - k : Nat) : Int))).1, (GB (root - k) (rd Z2 (swp l GA GB root k).1 ((root - k : Nat) : Int))).2) = _ := s2.1
    rw [g2, bindF_some, nF rfl, cond_false, wn]
  ·intro go
   unfold f26_l2
   simp only
   rw [dF (by omega), cond_false]
 ·intro k hk go
  have hgk := hg k (by omega)
  obtain ⟨pk, _, _, _⟩ := good_len hgk.1
  have evk : vl l (k : Int) = nd l k := by unfold vl; rw [if_pos (by omega), Int.toNat_natCast]
  have en : f68 (nd l k).1 0 = some (0, (zer l k).1, (zer l k).2) := by rw [new_ok, if_pos pk]; rfl
  cases k with
  | zero =>
   show f26_l1 (root : Int) go 0 l [] 0 [] [] = go (((0 + 1 : Nat) : Int), l, glist l 0 ++ [Z2], ((0 : Nat) : Int), (zer l 0).1, (zer l 0).2)
   unfold f26_l1
   rw [show ((0 : Nat) : Int) = 0 from rfl] at evk
   rw [wr, dT (by omega), cond_true, valueP l _ hg, bindF_some]
   simp only
   rw [evk, en, bindF_some, guardF_pos (by simp)]
   rfl
  | succ j =>
   show f26_l1 (root : Int) go ((j + 1 : Nat) : Int) l (glist l j ++ [Z2]) (j : Int) (zer l j).1 (zer l j).2 = go (((j + 1 + 1 : Nat) : Int), l, glist l (j + 1) ++ [Z2], ((j + 1 : Nat) : Int), (zer l (j + 1)).1, (zer l (j + 1)).2)
   unfold f26_l1
   rw [wr, dT (by omega), cond_true, valueP l _ hg, bindF_some]
   simp only
   rw [evk, en, bindF_some]
   have es : List.set (glist l j ++ [Z2]) (Int.toNat (j : Int)) ((zer l j).1, (zer l j).2) = glist l (j + 1) := by
    have := set_last (glist l j) Z2 ((zer l j).1, (zer l j).2)
    rw [glist_len] at this
    rw [Int.toNat_natCast, this, glist_succ]
   rw [es, guardF_pos (by rw [glist_len]; omega), wrap_i64 (by omega) (by omega), glist_len]
   rfl
 ·intro go
  show f26_l1 (root : Int) go ((root + 1 : Nat) : Int) l (glist l root ++ [Z2]) (root : Int) (zer l root).1 (zer l root).2 = _
  unfold f26_l1
  rw [wr, dF (by omega), cond_false]
  rfl
end Go.Proofs.Op
namespace Go.Proofs.Op
open Go.AM Go.Proofs.PlB Go.Proofs.PlW Go.Proofs.PlT Go.Proofs.PlS Go.Proofs.Sh Go.Proofs.Num Go.Proofs.Div Go.Proofs.PlR
theorem anyB_congr {n : Nat} {P Q : Nat → Bool} (h : ∀ i, P i = Q i) : anyB n P = anyB n Q := by rw [show P = Q from funext h]
theorem jS_comm (a b : List Int) : jS a b = jS b a := by
 have e1 : jLen a b = jLen b a := by unfold jLen; split <;> split <;> omega
 have e2 : ∀ k, jMax a b k = jMax b a k := fun k => by unfold jMax; split <;> split <;> omega
 have e3 : jL a b = jL b a := by unfold jL; rw [e1]; exact tab_ext _ _ _ (fun i _ => e2 _)
 have e4 : anyB (jLen a b) (jBad a b) = anyB (jLen b a) (jBad b a) := by
  rw [e1]
  refine anyB_congr (fun k => ?_)
  unfold jBad
  rw [Bool.and_comm (side a k != 1), bne_comm]
 unfold jS
 rw [e3, e4]
 by_cases h : 0 < prd a ∧ 0 < prd b
 ·rw [if_pos h, if_pos (show 0 < prd b ∧ 0 < prd a from ⟨h.2, h.1⟩)]
 ·rw [if_neg h, if_neg (show ¬ (0 < prd b ∧ 0 < prd a) from fun h2 => h ⟨h2.2, h2.1⟩)]
def foldT (g : Tn) (d : List Int) : Tn := (d, foldSt (spX d g.1) g.2 (prd d).toNat g.2.length)
theorem foldS_fit {g : Tn} {d : List Int} (hg : GoodT g) (h : Fits d g.1) : foldS g d = (0, foldT g d) := by
 unfold foldS foldT
 rw [if_pos ⟨hg.1, h.pd⟩, if_pos (jS_fits.2 h)]
theorem foldT_good {g : Tn} {d : List Int} (h : 0 < prd d) : GoodT (foldT g d) :=
 ⟨tgood_of h (by have := prd_range d; show ((foldSt _ _ _ _).length : Int) = prd d; rw [fold_len]; omega), fold_inI _ _ _ _⟩
def mulT (g b : Tn) : Tn := (g.1, tabL g.2.length (fun i => mulX (rd (0 : Int) g.2 i) (rd (0 : Int) b.2 (spX b.1 g.1 i))))
theorem mulS_fit {g b : Tn} (hg : GoodT g) (hb : GoodT b) (h : Fits b.1 g.1) : bothS mulX g b = (0, mulT g b) := by
 obtain ⟨p, l, _, _⟩ := good_len hg.1
 unfold bothS mulT
 rw [if_pos ⟨hg.1, hb.1⟩, jS_comm, jS_fits.2 h, if_pos rfl]
 congr 2
 simp only
 rw [show (prd g.1).toNat = g.2.length by omega]
 exact tab_ext _ _ _ (fun i hi => by rw [spX_self p i (by omega)])
theorem mulT_good {g b : Tn} (hg : GoodT g) : GoodT (mulT g b) := by
 obtain ⟨p, l, _, _⟩ := good_len hg.1
 exact ⟨tgood_of p (by unfold mulT; rw [tab_len]; exact l), inI_tab (fun i hi => sat_in _)⟩
def scaleT (g : Tn) (k : Int) : Tn := (g.1, tabL g.2.length (fun i => mulX (rd (0 : Int) g.2 i) k))
theorem scaleS_good {g : Tn} (hg : GoodT g) (k : Int) : scaleS g k = (0, scaleT g k) := by unfold scaleS scaleT; rw [if_pos hg.1]
theorem scaleT_good {g : Tn} (hg : GoodT g) (k : Int) : GoodT (scaleT g k) := by
 obtain ⟨p, l, _, _⟩ := good_len hg.1
 exact ⟨tgood_of p (by unfold scaleT; rw [tab_len]; exact l), inI_tab (fun i hi => sat_in _)⟩
def newT (d : List Int) (v : Int) : Tn := (d, List.replicate (prd d).toNat v)
theorem newT_good {d : List Int} {v : Int} (h : 0 < prd d) (hv : InR v) : GoodT (newT d v) :=
 ⟨tgood_of h (by have := prd_range d; unfold newT; simp only [List.length_replicate]; omega), inI_rep _ _ hv⟩
abbrev noT : Tn := ([], [])
section
variable (l : List Nd) (i : Nat)
theorem ok_leaf (h : (gn l i).1 = 1) (ha : (gn l i).2.1 = -1) (hb : (gn l i).2.2.1 = -1) : NodeOk l i (fun _ => noT) (fun _ => noT) := by
 refine ⟨fun g _ _ => ?_, fun g _ _ => ?_, fun g _ _ h0 => absurd h0 (by rw [ha]; decide), fun g _ _ h0 => absurd h0 (by rw [hb]; decide)⟩
 ·unfold f111 f111_j1; rw [h]; rfl
 ·unfold f112; rw [h]; rfl
theorem vl_nat (n : Nat) (h : n < l.length) : vl l (n : Int) = nd l n := by unfold vl; rw [if_pos (by omega), Int.toNat_natCast]
theorem ok_add (A B : Nat) (h : (gn l i).1 = 2) (ha : (gn l i).2.1 = A) (hb : (gn l i).2.2.1 = B) (hA : A < i) (hB : B < i) (hi : i < l.length) (FA : Fits (nd l A).1 (nd l i).1) (FB : Fits (nd l B).1 (nd l i).1) :
  NodeOk l i (fun g => foldT g (nd l A).1) (fun g => foldT g (nd l B).1) := by
 refine ⟨fun g hg hd => ?_, fun g hg hd => ?_, fun g hg hd _ => ?_, fun g hg hd _ => ?_⟩
 ·unfold f111 f111_j1
  rw [h, ha, vl_nat l A (by omega)]
  show bindF (f163 g (nd l A).1) _ = _
  rw [foldP _ _ hg.2, foldS_fit hg (by rw [hd]; exact FA)]; rfl
 ·unfold f112
  rw [h, hb, vl_nat l B (by omega)]
  show bindF (f163 g (nd l B).1) _ = _
  rw [foldP _ _ hg.2, foldS_fit hg (by rw [hd]; exact FB)]; rfl
 ·rw [ha, Int.toNat_natCast]; exact ⟨by omega, foldT_good FA.pd, rfl⟩
 ·rw [hb, Int.toNat_natCast]; exact ⟨by omega, foldT_good FB.pd, rfl⟩
theorem ok_sub (A B : Nat) (h : (gn l i).1 = 3) (ha : (gn l i).2.1 = A) (hb : (gn l i).2.2.1 = B) (hA : A < i) (hB : B < i) (hi : i < l.length) (FA : Fits (nd l A).1 (nd l i).1) (FB : Fits (nd l B).1 (nd l i).1) :
  NodeOk l i (fun g => foldT g (nd l A).1) (fun g => foldT (scaleT g (-4294967296)) (nd l B).1) := by
 refine ⟨fun g hg hd => ?_, fun g hg hd => ?_, fun g hg hd _ => ?_, fun g hg hd _ => ?_⟩
 ·unfold f111 f111_j1
  rw [h, ha, vl_nat l A (by omega)]
  show bindF (f163 g (nd l A).1) _ = _
  rw [foldP _ _ hg.2, foldS_fit hg (by rw [hd]; exact FA)]; rfl
 ·unfold f112
  rw [h, hb, vl_nat l B (by omega)]
  show bindF (f166 g (-4294967296)) _ = _
  have gs := scaleT_good hg (-4294967296)
  rw [scaleP _ _ hg.2 (by decide), scaleS_good hg, bindF_some]
  show bindF (bindF (f163 (scaleT g (-4294967296)) (nd l B).1) _) _ = _
  rw [foldP _ _ gs.2, foldS_fit gs (by show Fits _ g.1; rw [hd]; exact FB)]; rfl
 ·rw [ha, Int.toNat_natCast]; exact ⟨by omega, foldT_good FA.pd, rfl⟩
 ·rw [hb, Int.toNat_natCast]; exact ⟨by omega, foldT_good FB.pd, rfl⟩
theorem ok_mul (A B : Nat) (h : (gn l i).1 = 4) (ha : (gn l i).2.1 = A) (hb : (gn l i).2.2.1 = B) (hA : A < i) (hB : B < i) (hi : i < l.length) (hgA : GoodT (nd l A)) (hgB : GoodT (nd l B)) (FA : Fits (nd l A).1 (nd l i).1) (FB : Fits (nd l B).1 (nd l i).1) :
  NodeOk l i (fun g => foldT (mulT g (nd l B)) (nd l A).1) (fun g => foldT (mulT g (nd l A)) (nd l B).1) := by
 refine ⟨fun g hg hd => ?_, fun g hg hd => ?_, fun g hg hd _ => ?_, fun g hg hd _ => ?_⟩
 ·unfold f111 f111_j1
  rw [h, ha, hb, vl_nat l A (by omega), vl_nat l B (by omega)]
  show bindF (f164 g (nd l B)) _ = _
  have gs := mulT_good (b := nd l B) hg
  rw [mulP _ _ hg.2 hgB.2, mulS_fit hg hgB (by rw [hd]; exact FB), bindF_some]
  show bindF (bindF (f163 (mulT g (nd l B)) (nd l A).1) _) _ = _
  rw [foldP _ _ gs.2, foldS_fit gs (by show Fits _ g.1; rw [hd]; exact FA)]; rfl
 ·unfold f112
  rw [h, ha, hb, vl_nat l A (by omega), vl_nat l B (by omega)]
  show bindF (f164 g (nd l A)) _ = _
  have gs := mulT_good (b := nd l A) hg
  rw [mulP _ _ hg.2 hgA.2, mulS_fit hg hgA (by rw [hd]; exact FA), bindF_some]
  show bindF (bindF (f163 (mulT g (nd l A)) (nd l B).1) _) _ = _
  rw [foldP _ _ gs.2, foldS_fit gs (by show Fits _ g.1; rw [hd]; exact FB)]; rfl
 ·rw [ha, Int.toNat_natCast]; exact ⟨by omega, foldT_good FA.pd, rfl⟩
 ·rw [hb, Int.toNat_natCast]; exact ⟨by omega, foldT_good FB.pd, rfl⟩
theorem one_rd {g : Tn} (hg : GoodT g) (h1 : prd g.1 = 1) : 0 < g.2.length ∧ InR (rd (0 : Int) g.2 0) := by
 obtain ⟨p, l, _, _⟩ := good_len hg.1
 exact ⟨by omega, inI_rd hg.2 0 (by omega)⟩
theorem ok_all (A : Nat) (h : (gn l i).1 = 9) (ha : (gn l i).2.1 = A) (hb : (gn l i).2.2.1 = -1) (hA : A < i) (hi : i < l.length) (hgA : GoodT (nd l A)) (hd : (nd l i).1 = []) :
  NodeOk l i (fun g => newT (nd l A).1 (rd (0 : Int) g.2 0)) (fun _ => noT) := by
 obtain ⟨pA, _, _, _⟩ := good_len hgA.1
 refine ⟨fun g hg hdd => ?_, fun g hg hd => ?_, fun g hg hdd _ => ?_, fun g _ _ h0 => absurd h0 (by rw [hb]; decide)⟩
 ·obtain ⟨g0, g1⟩ := one_rd hg (by rw [hdd, hd]; rfl)
  unfold f111 f111_j1
  rw [h, ha, vl_nat l A (by omega)]
  show guardF (0 ≤ (0 : Int) ∧ (0 : Int) < (List.length g.2 : Int)) _ = _
  rw [guardF_pos (by omega), new_ok, if_pos pA]; rfl
 ·unfold f112; rw [h]; rfl
 ·obtain ⟨g0, g1⟩ := one_rd hg (by rw [hdd, hd]; rfl)
  rw [ha, Int.toNat_natCast]; exact ⟨by omega, newT_good pA g1, rfl⟩
def meanG (g : Tn) (n : Nat) : Int := sat (rdI (rd (0 : Int) g.2 0) n)
theorem ok_mean (A : Nat) (h : (gn l i).1 = 10) (ha : (gn l i).2.1 = A) (hb : (gn l i).2.2.1 = -1) (hA : A < i) (hi : i < l.length) (hgA : GoodT (nd l A)) (hd : (nd l i).1 = []) :
  NodeOk l i (fun g => newT (nd l A).1 (meanG g (nd l A).2.length)) (fun _ => noT) := by
 obtain ⟨pA, lA, _, lA2⟩ := good_len hgA.1
 refine ⟨fun g hg hdd => ?_, fun g hg hd => ?_, fun g hg hdd _ => ?_, fun g _ _ h0 => absurd h0 (by rw [hb]; decide)⟩
 ·obtain ⟨g0, g1⟩ := one_rd hg (by rw [hdd, hd]; rfl)
  unfold f111 f111_j1
  rw [h, ha, vl_nat l A (by omega)]
  show guardF (0 ≤ (0 : Int) ∧ (0 : Int) < (List.length g.2 : Int)) _ = _
  unfold InR at g1
  rw [guardF_pos (by omega), PlV.of_ok _ g1.1 g1.2, bindF_some]
  show bindF (f170 (PlV.pair (rd (0 : Int) g.2 0)) (List.length (nd l A).2 : Int)) _ = _
  rw [over_ok _ _ (by omega) (by omega) (by omega) (by omega) (by omega), bindF_some, new_ok, if_pos pA]; rfl
 ·unfold f112; rw [h]; rfl
 ·rw [ha, Int.toNat_natCast]; exact ⟨by omega, newT_good pA (sat_in _), rfl⟩
def unbentT (kind : Int) (t g : Tn) : Tn := (t.1, tabL t.2.length (fun i => mulX (rd (0 : Int) g.2 i) (slopeV kind (rd (0 : Int) t.2 i))))
theorem ok_bend (A : Nat) (K : Int) (h : (gn l i).1 = 11) (ha : (gn l i).2.1 = A) (hb : (gn l i).2.2.1 = -1) (hk : (gn l i).2.2.2.1 = K) (k0 : 1 ≤ K) (k5 : K ≤ 5) (hA : A < i) (hi : i < l.length) (hgA : GoodT (nd l A)) (hd : (nd l A).1 = (nd l i).1) :
  NodeOk l i (fun g => unbentT K (nd l A) g) (fun _ => noT) := by
 obtain ⟨pA, lA, _, lA2⟩ := good_len hgA.1
 refine ⟨fun g hg hdd => ?_, fun g hg hd => ?_, fun g hg hdd _ => ?_, fun g _ _ h0 => absurd h0 (by rw [hb]; decide)⟩
 ·unfold f111 f111_j1
  rw [h, ha, hk, vl_nat l A (by omega)]
  show bindF (f171 K (nd l A) g) _ = _
  rw [unbentP _ _ _ hg.2]
  unfold unbentS
  rw [if_pos ⟨k0, k5, hgA.1, hg.1⟩, if_pos (by rw [hd, hdd])]; rfl
 ·unfold f112; rw [h]; rfl
 ·rw [ha, Int.toNat_natCast]
  exact ⟨by omega, ⟨tgood_of pA (by unfold unbentT; rw [tab_len]; exact lA), inI_tab (fun i hi => sat_in _)⟩, rfl⟩
end
end Go.Proofs.Op
namespace Go.Proofs.Op
open Go.AM Go.Proofs.PlB Go.Proofs.PlW Go.Proofs.PlT Go.Proofs.PlS Go.Proofs.Sh Go.Proofs.Num Go.Proofs.Div
open Go.Proofs.PlR hiding Tn
structure NodeR (l : List Nd) (i : Nat) (ga gb : Tn → Tn) : Prop where
 leaf : (gn l i).1 = 1 → (gn l i).2.1 < 0 ∧ (gn l i).2.2.1 < 0
 a0 : (gn l i).1 ≠ 1 → 0 ≤ (gn l i).2.1
 one : (gn l i).1 ≠ 1 → ∀ g, GoodT g → g.1 = (nd l i).1 → f76 l (i : Int) g = some (0, (ga g).1, (ga g).2, (gb g).1, (gb g).2, l)
theorem giveR (l : List Nd) (root : Nat) (st : List Tn × List Bool) (K : Keeps l root st) (n : Int) (g : Tn) (h0 : 0 ≤ n) (h : n ≤ root ∧ GoodT g ∧ g.1 = (nd l n.toNat).1) :
  f77 0 (rd Z2 st.1 n) g = some (0, addT (rd Z2 st.1 n) g) := by
 obtain ⟨i, rfl⟩ := Int.eq_ofNat_of_zero_le h0
 obtain ⟨h1, h2, h3⟩ := h
 rw [Int.toNat_natCast] at h3
 obtain ⟨k1, k2⟩ := K.ok i (by omega)
 rw [addR _ _ k1.2 h2.2, both_self _ _ _ k1.1 h2.1 (by rw [k2, h3])]
 rfl
def sr1 (l : List Nd) (root : Nat) : Nat → Int × List Tn × Int × List Int × List Int
 | 0 => (0, List.replicate (root + 1) Z2, ((root + 1 : Nat) : Int), [], [])
 | k + 1 => (((k + 1 : Nat) : Int), glist l k ++ List.replicate (root + 1 - k) Z2, (k : Int), (zer l k).1, (zer l k).2)
theorem sr1_set (l : List Nd) (root k : Nat) (hk : k ≤ root) : (sr1 l root k).2.1.set (Int.toNat (sr1 l root k).2.2.1) ((sr1 l root k).2.2.2.1, (sr1 l root k).2.2.2.2) = glist l k ++ List.replicate (root + 1 - k) Z2 := by
 cases k with
 | zero => simp only [sr1, Int.toNat_natCast]; rw [List.set_eq_of_length_le (by simp)]; simp [glist]
 | succ k =>
  simp only [sr1, Int.toNat_natCast]
  rw [List.set_append_right _ _ (by rw [glist_len]; exact Nat.le_refl _), glist_len, Nat.sub_self, show root + 1 - k = (root + 1 - (k + 1)) + 1 by omega, List.replicate_succ, List.set_cons_zero, glist_succ, List.append_assoc]
  rfl
theorem sweepR (l : List Nd) (GA GB : Nat → Tn → Tn) (root : Nat) (hr : root < l.length) (hl : l.length ≤ 512) (hg : ∀ i, i < l.length → GoodT (nd l i)) (h1 : prd (nd l root).1 = 1)
  (hn : ∀ n, n ≤ root → NodeOk l n (GA n) (GB n)) (hR : ∀ n, n ≤ root → NodeR l n (GA n) (GB n)) : f27 l (root : Int) = some (0, (swp l GA GB root (root + 1)).1, l) := by
 have hroot := hg root hr
 obtain ⟨_, lr, lr1, _⟩ := good_len hroot.1
 unfold f27 f27_j1
 rw [dF (by omega), cond_false, dF (by omega), cond_false, bindF_some, sumF_inl, guardF_pos (by omega)]
 have er : ((rd (Ty.z (.p (.int .i64) (.p (.int .i64) (.p (.int .i64) (.p (.int .i64) (.p (.sl (.int .i64)) (.sl (.int .i64)))))))) l (root : Int)).2.2.2.2) = nd l root := rfl
 rw [er, nF (by omega), cond_false]
 have wr : IntKind.i64.wrap ((root : Int) + 1) = ((root + 1 : Nat) : Int) := by rw [wrap_i64 (by omega) (by omega)]; omega
 rw [wr, guardF_pos (by omega), guardF_pos (by omega)]
 have L1 := loop_for (B := fun go (x : Int × List Tn × Int × List Int × List Int) => f27_l2 l (root : Int) go x.1 x.2.1 x.2.2.1 x.2.2.2.1 x.2.2.2.2) (sr1 l root) (root + 1) (sr1 l root (root + 1)).2 ?_ ?_ (by omega)
 ·have e0 : sr1 l root 0 = ((0 : Int), List.replicate (Int.toNat ((root + 1 : Nat) : Int)) Z2, (List.length (List.replicate (Int.toNat ((root + 1 : Nat) : Int)) Z2) : Int), [], []) := by
   rw [Int.toNat_natCast, List.length_replicate]; rfl
  rw [e0] at L1
  have L1' : loopF (fun go (x : Int × List Tn × Int × List Int × List Int) => f27_l2 l (root : Int) go x.1 x.2.1 x.2.2.1 x.2.2.2.1 x.2.2.2.2) fuelN ((0 : Int), (List.replicate (Int.toNat ((root + 1 : Nat) : Int)) (Ty.z (.p (.sl (.int .i64)) (.sl (.int .i64))))), (List.length (List.replicate (Int.toNat ((root + 1 : Nat) : Int)) (Ty.z (.p (.sl (.int .i64)) (.sl (.int .i64))))) : Int), [], []) = some (glist l root ++ List.replicate (root + 1 - root) Z2, (root : Int), (zer l root).1, (zer l root).2) := L1
  rw [show root + 1 - root = 1 by omega] at L1'
  rw [L1', bindF_some]
  simp only
  rw [guardF_pos (by rw [List.length_append, glist_len]; simp; omega), guardF_pos trivial]
  have hz : (zer l root).2 = [0] := by unfold zer; rw [h1]; rfl
  rw [hz, guardF_pos (by decide), guardF_pos (by simp; omega)]
  have es : List.set (glist l root ++ List.replicate 1 Z2) (Int.toNat (root : Int)) ((zer l root).1, List.set [(0 : Int)] (Int.toNat (0 : Int)) 4294967296) = (swp l GA GB root 0).1 := by
   have := set_last (glist l root) Z2 ((zer l root).1, List.set [(0 : Int)] (Int.toNat (0 : Int)) 4294967296)
   rw [glist_len] at this
   rw [Int.toNat_natCast, show List.replicate 1 Z2 = [Z2] from rfl, this]; rfl
  have eg : List.set (List.replicate (Int.toNat ((root + 1 : Nat) : Int)) false) (Int.toNat (root : Int)) true = (swp l GA GB root 0).2 := by
   rw [Int.toNat_natCast, Int.toNat_natCast]; rfl
  rw [es, eg]
  have L2 := loop_for (B := fun go (x : Int × List Tn × List Bool × List Nd) => f27_l5 go x.1 x.2.1 x.2.2.1 x.2.2.2) (fun k => ((root : Int) - (k : Int), (swp l GA GB root k).1, (swp l GA GB root k).2, l)) (root + 1)
   ((swp l GA GB root (root + 1)).1, l) ?_ ?_ (by omega)
  ·have e2 : ((root : Int) - ((0 : Nat) : Int), (swp l GA GB root 0).1, (swp l GA GB root 0).2, l) = ((root : Int), (swp l GA GB root 0).1, (swp l GA GB root 0).2, l) := by
    rw [show (root : Int) - ((0 : Nat) : Int) = (root : Int) by omega]
   rw [e2] at L2
   rw [L2, bindF_some]
  ·intro k hk go
   have K := keeps l GA GB root hr hg h1 hn k (by omega)
   have kl1 := K.l1
   have kl2 := K.l2
   have N := hn (root - k) (by omega)
   have R := hR (root - k) (by omega)
   obtain ⟨q1, q2⟩ := K.ok (root - k) (by omega)
   unfold f27_l5 f27_j6
   simp only
   rw [show (root : Int) - (k : Int) = ((root - k : Nat) : Int) by omega, dT (by omega), cond_true, guardF_pos (by omega), guardF_pos (by omega)]
   have wn : IntKind.i64.wrap (((root - k : Nat) : Int) - 1) = (root : Int) - ((k + 1 : Nat) : Int) := by rw [wrap_i64 (by omega) (by omega)]; omega
   simp only [swp]
   have eN : rd (Ty.z (.p (.int .i64) (.p (.int .i64) (.p (.int .i64) (.p (.int .i64) (.p (.sl (.int .i64)) (.sl (.int .i64)))))))) l ((root - k : Nat) : Int) = gn l (root - k) := rfl
   rw [eN]
   cases hb : rd false (swp l GA GB root k).2 ((root - k : Nat) : Int)
   ·rw [Bool.not_false, cond_true, bindF_some, sumF_inr, wn, if_neg (by decide)]
   ·rw [Bool.not_true, cond_false, if_pos rfl]
    by_cases hop : (gn l (root - k)).1 = 1
    ·obtain ⟨la, lb⟩ := R.leaf hop
     rw [bT hop, cond_true, bindF_some, sumF_inr, wn]
     unfold giveS
     rw [if_pos la, if_pos lb]
    ·rw [bF hop, cond_false, bindF_some, sumF_inl, guardF_pos (by omega)]
     have hA0 := R.a0 hop
     have hta := N.ta _ q1 q2 hA0
     have hlt := hta.1
     have e1 : f76 l ((root - k : Nat) : Int) ((rd (Ty.z (.p (.sl (.int .i64)) (.sl (.int .i64)))) (swp l GA GB root k).1 ((root - k : Nat) : Int)).1, (rd (Ty.z (.p (.sl (.int .i64)) (.sl (.int .i64)))) (swp l GA GB root k).1 ((root - k : Nat) : Int)).2) = _ := R.one hop _ q1 q2
     rw [e1, bindF_some]
     dsimp only
     generalize hga : GA (root - k) (rd Z2 (swp l GA GB root k).1 ((root - k : Nat) : Int)) = ga at *
     generalize hgb : GB (root - k) (rd Z2 (swp l GA GB root k).1 ((root - k : Nat) : Int)) = gb at *
     have e2 : f77 0 ((rd (Ty.z (.p (.sl (.int .i64)) (.sl (.int .i64)))) (swp l GA GB root k).1 (gn l (root - k)).2.1).1, (rd (Ty.z (.p (.sl (.int .i64)) (.sl (.int .i64)))) (swp l GA GB root k).1 (gn l (root - k)).2.1).2) (ga.1, ga.2) = _ := giveR l root _ K (gn l (root - k)).2.1 ga hA0 ⟨by omega, hta.2⟩
     have gA1 : 0 ≤ (gn l (root - k)).2.1 ∧ (gn l (root - k)).2.1 < ((swp l GA GB root k).1.length : Int) := ⟨hA0, by rw [kl1]; omega⟩
     have gA2 : 0 ≤ (gn l (root - k)).2.1 ∧ (gn l (root - k)).2.1 < ((swp l GA GB root k).2.length : Int) := ⟨hA0, by rw [kl2]; omega⟩
     rw [guardF_pos gA1, e2, bindF_some, guardF_pos gA1, guardF_pos gA2]
     dsimp only
     have s1 := giveP l root _ K (gn l (root - k)).2.1 ga (fun _ => ⟨by omega, hta.2⟩)
     have eS : giveS (swp l GA GB root k) (gn l (root - k)).2.1 ga = ((swp l GA GB root k).1.set (gn l (root - k)).2.1.toNat (addT (rd Z2 (swp l GA GB root k).1 (gn l (root - k)).2.1) ga), (swp l GA GB root k).2.set (gn l (root - k)).2.1.toNat true) := by
      unfold giveS; rw [if_neg (by omega)]
     by_cases hB0 : 0 ≤ (gn l (root - k)).2.2.1
     ·have htb := N.tb _ q1 q2 hB0
      rw [hgb] at htb
      have hlb := htb.1
      rw [dT (show (gn l (root - k)).2.2.1 ≥ 0 from hB0), cond_true]
      have e3 := giveR l root _ s1.2 (gn l (root - k)).2.2.1 gb hB0 ⟨by omega, htb.2⟩
      have k1 := s1.2.l1
      have k2 := s1.2.l2
      rw [eS] at e3 k1 k2 ⊢
      simp only at e3 k1 k2
      have e3' : f77 0 ((rd (Ty.z (.p (.sl (.int .i64)) (.sl (.int .i64)))) (List.set (swp l GA GB root k).1 (Int.toNat (gn l (root - k)).2.1) ((addT (rd Z2 (swp l GA GB root k).1 (gn l (root - k)).2.1) ga).1, (addT (rd Z2 (swp l GA GB root k).1 (gn l (root - k)).2.1) ga).2)) (gn l (root - k)).2.2.1).1, (rd (Ty.z (.p (.sl (.int .i64)) (.sl (.int .i64)))) (List.set (swp l GA GB root k).1 (Int.toNat (gn l (root - k)).2.1) ((addT (rd Z2 (swp l GA GB root k).1 (gn l (root - k)).2.1) ga).1, (addT (rd Z2 (swp l GA GB root k).1 (gn l (root - k)).2.1) ga).2)) (gn l (root - k)).2.2.1).2) (gb.1, gb.2) = _ := e3
      have gB1 : 0 ≤ (gn l (root - k)).2.2.1 ∧ (gn l (root - k)).2.2.1 < ((List.set (swp l GA GB root k).1 (Int.toNat (gn l (root - k)).2.1) ((addT (rd Z2 (swp l GA GB root k).1 (gn l (root - k)).2.1) ga).1, (addT (rd Z2 (swp l GA GB root k).1 (gn l (root - k)).2.1) ga).2)).length : Int) := ⟨hB0, by rw [List.length_set, kl1]; omega⟩
      have gB2 : 0 ≤ (gn l (root - k)).2.2.1 ∧ (gn l (root - k)).2.2.1 < ((List.set (swp l GA GB root k).2 (Int.toNat (gn l (root - k)).2.1) true).length : Int) := ⟨hB0, by rw [List.length_set, kl2]; omega⟩
      rw [guardF_pos gB1, e3', bindF_some, guardF_pos gB1, guardF_pos gB2, wn]
      unfold giveS
      rw [if_neg (by omega)]
     ·rw [dF (show ¬ (gn l (root - k)).2.2.1 ≥ 0 from hB0), cond_false, wn, eS]
      unfold giveS
      rw [if_pos (by omega)]
  ·intro go
   unfold f27_l5
   rw [dF (by omega), cond_false]
 ·intro k hk go
  have ek := sr1_set l root k (by omega)
  obtain ⟨p, _, _, _⟩ := good_len (hg k (by omega)).1
  have e1 : (sr1 l root k).1 = (k : Int) := by cases k <;> rfl
  have e2 : (sr1 l root k).2.1.length = root + 1 := by
   cases k with
   | zero => simp [sr1]
   | succ k => simp only [sr1, List.length_append, glist_len, List.length_replicate]; omega
  unfold f27_l2
  rw [e1, dT (by omega), cond_true, guardF_pos (by omega)]
  have e3 : f71 (rd (Ty.z (.p (.int .i64) (.p (.int .i64) (.p (.int .i64) (.p (.int .i64) (.p (.sl (.int .i64)) (.sl (.int .i64)))))))) l (k : Int)).2.2.2.2.1 0 = some (zer l k) := newR (nd l k).1 0 p
  rw [e3, bindF_some, guardF_pos (by omega), wrap_i64 (by omega) (by omega), ek]
  rfl
 ·intro go
  unfold f27_l2
  rw [show (sr1 l root (root + 1)).1 = ((root + 1 : Nat) : Int) from rfl, dF (by omega), cond_false]
end Go.Proofs.Op
namespace Go.Proofs.Op
open Go.AM Go.Proofs.PlB Go.Proofs.PlW Go.Proofs.PlT Go.Proofs.PlS Go.Proofs.Sh Go.Proofs.Num Go.Proofs.Div
open Go.Proofs.PlR hiding Tn
theorem slopeR (kind x : Int) : f183 kind x = some (slopeV kind x) := by
 unfold f183 slopeV
 by_cases k1 : kind = 1
 ·rw [bT k1, if_pos k1, cond_true]; by_cases h : x > 0
  ·rw [dT h, if_pos h]; rfl
  ·rw [dF h, if_neg h]; rfl
 rw [bF k1, if_neg k1, cond_false]
 by_cases k2 : kind = 2
 ·rw [bT k2, if_pos k2, cond_true]; by_cases h : x > 0
  ·rw [dT h, if_pos h]; rfl
  ·rw [dF h, if_neg h]; rfl
 rw [bF k2, if_neg k2, cond_false]
 by_cases k3 : kind = 3
 ·rw [bT k3, if_pos k3, cond_true]; by_cases h : x > -4294967296
  ·rw [dT h, cond_true]; by_cases h2 : x < 4294967296
   ·rw [dT h2, if_pos ⟨h, h2⟩]; rfl
   ·rw [dF h2, if_neg (by omega)]; rfl
  ·rw [dF h, if_neg (by omega)]; rfl
 rw [bF k3, if_neg k3, cond_false]
 by_cases k4 : kind = 4
 ·rw [bT k4, if_pos k4, cond_true]; by_cases h : x > 0
  ·rw [dT h, if_pos h]; rfl
  ·rw [dF h, if_neg h, cond_false]; by_cases h2 : x < 0
   ·rw [dT h2, if_pos h2]; rfl
   ·rw [dF h2, if_neg h2]; rfl
 rw [bF k4, if_neg k4, cond_false]
 by_cases h : x > -4294967296
 ·rw [dT h, cond_true]; by_cases h2 : x < 4294967296
  ·rw [dT h2, if_pos ⟨h, h2⟩]; rfl
  ·rw [dF h2, if_neg (by omega)]; rfl
 ·rw [dF h, if_neg (by omega)]; rfl
theorem unbentR (kind : Int) (t g : Tn) (ig : inI g.2) : f122 kind t g = some (unbentS kind t g) := by
 unfold f122 unbentS f122_j2 f122_j3
 rw [show ((t.1, t.2) : Tn) = t from rfl, show ((g.1, g.2) : Tn) = g from rfl, isR, isR]
 by_cases h : 1 ≤ kind ∧ kind ≤ 5 ∧ tgood t = true ∧ tgood g = true
 ·obtain ⟨hp, hl, l1, l2⟩ := good_len h.2.2.1
  obtain ⟨gp, gl, m1, m2⟩ := good_len h.2.2.2
  rw [if_pos h, dF (by omega), cond_false, dF (by omega), cond_false, h.2.2.1, h.2.2.2, sameR _ _ (by omega)]
  simp only [bindF_some, Bool.not_true, cond_false, sumF_inl]
  by_cases h2 : t.1 = g.1
  ·have hlen : g.2.length = t.2.length := by rw [h2] at hl; omega
   rw [if_pos h2, dT h2, Bool.not_true, cond_false, newR t.1 0 hp, bindF_some, show (prd t.1).toNat = t.2.length by omega]
   simp only
   rw [upto_zero _ (fun i => mulX (rd (0 : Int) g.2 i) (slopeV kind (rd (0 : Int) t.2 i)))]
   have := loop_for (B := fun go (x : Int × List Int) => f122_l4 kind t g go x.1 x.2) (fun j => ((j : Int), upto t.2.length j (fun i => mulX (rd (0 : Int) g.2 i) (slopeV kind (rd (0 : Int) t.2 i))))) t.2.length (tabL t.2.length (fun i => mulX (rd (0 : Int) g.2 i) (slopeV kind (rd (0 : Int) t.2 i)))) ?_ ?_ (by omega)
   ·rw [show ((0 : Nat) : Int) = 0 from rfl] at this
    rw [this]; rfl
   ·intro j hj go
    unfold f122_l4
    simp only [upto_len]
    have q := inI_rd ig j (by omega)
    have s := slope_in kind (rd (0 : Int) t.2 j)
    rw [dT (by omega), cond_true, guardF_pos (by omega), guardF_pos (by omega), slopeR, bindF_some, rMul _ _ q.1 q.2 s.1 s.2, bindF_some, guardF_pos (by omega), wrap_i64 (by omega) (by omega), Int.toNat_natCast]
    have := upto_set t.2.length j (fun i => mulX (rd (0 : Int) g.2 i) (slopeV kind (rd (0 : Int) t.2 i))) (sat (rhe (rd (0 : Int) g.2 j * slopeV kind (rd (0 : Int) t.2 j)))) hj rfl
    rw [this]
    rfl
   ·intro go
    unfold f122_l4
    simp only [upto_len]
    rw [dF (by omega), cond_false, upto_full]
  ·rw [if_neg h2, dF h2]; rfl
 ·rw [if_neg h]
  by_cases h1 : kind < 1
  ·rw [dT h1]; rfl
  ·rw [dF h1, cond_false]
   by_cases h2 : kind > 5
   ·rw [dT h2]; rfl
   ·rw [dF h2, cond_false]
    cases ht : tgood t
    ·rfl
    ·cases hgg : tgood g
     ·rfl
     ·exact absurd ⟨by omega, by omega, ht, hgg⟩ h
section
variable (l : List Nd) (i : Nat)
theorem one_j2 (h : i < l.length) (g : Tn) (hg : GoodT g) (hd : g.1 = (nd l i).1) : f76_j2 l (i : Int) g = some (Sum.inl ()) := by
 obtain ⟨_, _, l1, _⟩ := good_len hg.1
 unfold f76_j2 f76_j3
 rw [dF (by omega), cond_false, dF (by omega), cond_false]
 have e : f62 (g.1, g.2) = some (tgood g) := isR g
 rw [e, hg.1, bindF_some, Bool.not_true, cond_false, guardF_pos (by omega)]
 have e2 : f73 g.1 (rd (Ty.z (.p (.int .i64) (.p (.int .i64) (.p (.int .i64) (.p (.int .i64) (.p (.sl (.int .i64)) (.sl (.int .i64)))))))) l (i : Int)).2.2.2.2.1 = some (decide (g.1 = (nd l i).1)) := sameR _ _ (by omega)
 rw [e2, dT hd]; rfl
theorem one_j4 (h : (gn l i).2.2.1 < l.length) : f76_j4 l (i : Int) = some (vl l (gn l i).2.2.1) := by
 unfold f76_j4 vl
 have e : rd (Ty.z (.p (.int .i64) (.p (.int .i64) (.p (.int .i64) (.p (.int .i64) (.p (.sl (.int .i64)) (.sl (.int .i64)))))))) l (i : Int) = gn l i := rfl
 rw [e]
 by_cases hb : (gn l i).2.2.1 ≥ 0
 ·rw [dT hb, cond_true, guardF_pos ⟨hb, h⟩, if_pos ⟨hb, h⟩]
  obtain ⟨n, hn⟩ := Int.eq_ofNat_of_zero_le hb
  rw [hn]; rfl
 ·rw [dF hb, if_neg (by omega)]; rfl
theorem one_go (A : Nat) (hi : i < l.length) (g : Tn) (hg : GoodT g) (hd : g.1 = (nd l i).1) (op K : Int) (h : (gn l i).1 = op) (ho : op ≠ 1) (ha : (gn l i).2.1 = A) (hA : A < i) (hk : (gn l i).2.2.2.1 = K) (hb : (gn l i).2.2.1 < l.length)
  (hx : op = 2 ∨ op = 3 ∨ op = 4 ∨ op = 5 ∨ op = 9 ∨ op = 10 ∨ op = 11 ∨ op = 14) (ga gb : Tn)
  (H : (if op = 2 then bindF (f114 g (nd l A).1) fun p => bindF (f114 g (vl l (gn l i).2.2.1).1) fun q => some ((0 : Int), p.1, p.2, q.1, q.2, l)
   else if op = 3 then bindF (f115 g (-4294967296)) fun s => bindF (f114 g (nd l A).1) fun p => bindF (f114 s.2 (vl l (gn l i).2.2.1).1) fun q => some ((0 : Int), p.1, p.2, q.1, q.2, l)
   else if op = 4 then bindF (f77 2 g (vl l (gn l i).2.2.1)) fun r => bindF (f77 2 g (nd l A)) fun s => bindF (f114 r.2 (nd l A).1) fun p => bindF (f114 s.2 (vl l (gn l i).2.2.1).1) fun q => some ((0 : Int), p.1, p.2, q.1, q.2, l)
   else if op = 5 then bindF (f115 g K) fun p => some ((0 : Int), p.2.1, p.2.2, [], [], l)
   else if op = 9 then guardF (0 ≤ (0 : Int) ∧ (0 : Int) < (List.length g.2 : Int)) <| bindF (f71 (nd l A).1 (rd (0 : Int) g.2 0)) fun p => some ((0 : Int), p.1, p.2, [], [], l)
   else if op = 10 then guardF (0 ≤ (0 : Int) ∧ (0 : Int) < (List.length g.2 : Int)) <| bindF (f87 (rd (0 : Int) g.2 0)) fun u => bindF (f121 u.1 u.2 (0 : Int) (0 : Int) (0 : Int) (List.length (nd l A).2 : Int)) fun v => bindF (f120 v.1 v.2.1 v.2.2.1 v.2.2.2.1 v.2.2.2.2) fun w => bindF (f71 (nd l A).1 w) fun p => some ((0 : Int), p.1, p.2, [], [], l)
   else if op = 11 then bindF (f122 K (nd l A) g) fun p => some ((0 : Int), p.2.1, p.2.2, [], [], l)
   else bindF (f126 g (nd l A).1) fun p => some ((0 : Int), p.2.1, p.2.2, [], [], l)) = some ((0 : Int), ga.1, ga.2, gb.1, gb.2, l)) :
  f76 l (i : Int) g = some (0, ga.1, ga.2, gb.1, gb.2, l) := by
 unfold f76
 have e : rd (Ty.z (.p (.int .i64) (.p (.int .i64) (.p (.int .i64) (.p (.int .i64) (.p (.sl (.int .i64)) (.sl (.int .i64)))))))) l (i : Int) = gn l i := rfl
 have g1 : 0 ≤ (i : Int) ∧ (i : Int) < (l.length : Int) := by omega
 have g2 : 0 ≤ (A : Int) ∧ (A : Int) < (l.length : Int) := by omega
 rw [one_j2 l i hi g hg hd, bindF_some, sumF_inl, e, h, ha, hk, guardF_pos g1, bF ho, cond_false, guardF_pos g2, one_j4 l i hb, bindF_some]
 rcases hx with rfl | rfl | rfl | rfl | rfl | rfl | rfl | rfl <;> exact H
theorem r_leaf (h : (gn l i).1 = 1) (ha : (gn l i).2.1 = -1) (hb : (gn l i).2.2.1 = -1) : NodeR l i (fun _ => noT) (fun _ => noT) :=
 ⟨fun _ => by omega, fun h1 => absurd h h1, fun h1 => absurd h h1⟩
theorem fold_go {g : Tn} {d : List Int} (hg : GoodT g) (h : Fits d g.1) : f114 g d = some (foldT g d) := by
 unfold f114
 have e : f177 (g.1, g.2) d = _ := foldR g d hg.2
 rw [e, foldS_fit hg h]; rfl
theorem r_add (A B : Nat) (h : (gn l i).1 = 2) (ha : (gn l i).2.1 = A) (hb : (gn l i).2.2.1 = B) (hA : A < i) (hB : B < i) (hi : i < l.length) (FA : Fits (nd l A).1 (nd l i).1) (FB : Fits (nd l B).1 (nd l i).1) :
  NodeR l i (fun g => foldT g (nd l A).1) (fun g => foldT g (nd l B).1) := by
 refine ⟨fun h1 => absurd (h.symm.trans h1) (by decide), fun _ => by omega, fun _ g hg hd => one_go l i A hi g hg hd 2 _ h (by decide) ha hA rfl (by omega) (.inl rfl) _ _ ?_⟩
 rw [if_pos rfl, hb, vl_nat l B (by omega), fold_go hg (by rw [hd]; exact FA), fold_go hg (by rw [hd]; exact FB)]; rfl
theorem r_sub (A B : Nat) (h : (gn l i).1 = 3) (ha : (gn l i).2.1 = A) (hb : (gn l i).2.2.1 = B) (hA : A < i) (hB : B < i) (hi : i < l.length) (FA : Fits (nd l A).1 (nd l i).1) (FB : Fits (nd l B).1 (nd l i).1) :
  NodeR l i (fun g => foldT g (nd l A).1) (fun g => foldT (scaleT g (-4294967296)) (nd l B).1) := by
 refine ⟨fun h1 => absurd (h.symm.trans h1) (by decide), fun _ => by omega, fun _ g hg hd => one_go l i A hi g hg hd 3 _ h (by decide) ha hA rfl (by omega) (.inr (.inl rfl)) _ _ ?_⟩
 have gs := scaleT_good hg (-4294967296)
 rw [if_neg (by decide), if_pos rfl, hb, vl_nat l B (by omega), scaleR _ _ hg.2 (by decide), scaleS_good hg, bindF_some, fold_go hg (by rw [hd]; exact FA), fold_go gs (by show Fits _ g.1; rw [hd]; exact FB)]; rfl
theorem r_mul (A B : Nat) (h : (gn l i).1 = 4) (ha : (gn l i).2.1 = A) (hb : (gn l i).2.2.1 = B) (hA : A < i) (hB : B < i) (hi : i < l.length) (hgA : GoodT (nd l A)) (hgB : GoodT (nd l B)) (FA : Fits (nd l A).1 (nd l i).1) (FB : Fits (nd l B).1 (nd l i).1) :
  NodeR l i (fun g => foldT (mulT g (nd l B)) (nd l A).1) (fun g => foldT (mulT g (nd l A)) (nd l B).1) := by
 refine ⟨fun h1 => absurd (h.symm.trans h1) (by decide), fun _ => by omega, fun _ g hg hd => one_go l i A hi g hg hd 4 _ h (by decide) ha hA rfl (by omega) (.inr (.inr (.inl rfl))) _ _ ?_⟩
 have g1 := mulT_good (b := nd l B) hg
 have g2 := mulT_good (b := nd l A) hg
 rw [if_neg (by decide), if_neg (by decide), if_pos rfl, hb, vl_nat l B (by omega), mulR _ _ hg.2 hgB.2, mulS_fit hg hgB (by rw [hd]; exact FB), bindF_some, mulR _ _ hg.2 hgA.2, mulS_fit hg hgA (by rw [hd]; exact FA), bindF_some, fold_go g1 (by show Fits _ g.1; rw [hd]; exact FA), fold_go g2 (by show Fits _ g.1; rw [hd]; exact FB)]; rfl
theorem r_all (A : Nat) (h : (gn l i).1 = 9) (ha : (gn l i).2.1 = A) (hb : (gn l i).2.2.1 = -1) (hA : A < i) (hi : i < l.length) (hgA : GoodT (nd l A)) (hd : (nd l i).1 = []) :
  NodeR l i (fun g => newT (nd l A).1 (rd (0 : Int) g.2 0)) (fun _ => noT) := by
 obtain ⟨pA, _, _, _⟩ := good_len hgA.1
 refine ⟨fun h1 => absurd (h.symm.trans h1) (by decide), fun _ => by omega, fun _ g hg hdd => one_go l i A hi g hg hdd 9 _ h (by decide) ha hA rfl (by omega) (.inr (.inr (.inr (.inr (.inl rfl))))) _ _ ?_⟩
 obtain ⟨g0, g1⟩ := one_rd hg (by rw [hdd, hd]; rfl)
 rw [if_neg (by decide), if_neg (by decide), if_neg (by decide), if_neg (by decide), if_pos rfl, guardF_pos (by omega), newR _ _ pA]; rfl
theorem r_mean (A : Nat) (h : (gn l i).1 = 10) (ha : (gn l i).2.1 = A) (hb : (gn l i).2.2.1 = -1) (hA : A < i) (hi : i < l.length) (hgA : GoodT (nd l A)) (hd : (nd l i).1 = []) :
  NodeR l i (fun g => newT (nd l A).1 (meanG g (nd l A).2.length)) (fun _ => noT) := by
 obtain ⟨pA, lA, _, lA2⟩ := good_len hgA.1
 refine ⟨fun h1 => absurd (h.symm.trans h1) (by decide), fun _ => by omega, fun _ g hg hdd => one_go l i A hi g hg hdd 10 _ h (by decide) ha hA rfl (by omega) (.inr (.inr (.inr (.inr (.inr (.inl rfl)))))) _ _ ?_⟩
 obtain ⟨g0, g1⟩ := one_rd hg (by rw [hdd, hd]; rfl)
 unfold InR at g1
 obtain ⟨y, ey, hy⟩ := from_ok _ g1.1 g1.2
 obtain ⟨z, ez, hz, hs⟩ := divided_nm hy (by omega) ((nd l A).2.length : Int) (by omega) (by omega) (by omega)
 simp only at ez
 rw [if_neg (by decide), if_neg (by decide), if_neg (by decide), if_neg (by decide), if_neg (by decide), if_pos rfl, guardF_pos (by omega), ey, bindF_some, ez, bindF_some, held_nm hz hs, bindF_some, newR _ _ pA]; rfl
theorem r_bend (A : Nat) (K : Int) (h : (gn l i).1 = 11) (ha : (gn l i).2.1 = A) (hb : (gn l i).2.2.1 = -1) (hk : (gn l i).2.2.2.1 = K) (k0 : 1 ≤ K) (k5 : K ≤ 5) (hA : A < i) (hi : i < l.length) (hgA : GoodT (nd l A)) (hd : (nd l A).1 = (nd l i).1) :
  NodeR l i (fun g => unbentT K (nd l A) g) (fun _ => noT) := by
 refine ⟨fun h1 => absurd (h.symm.trans h1) (by decide), fun _ => by omega, fun _ g hg hdd => one_go l i A hi g hg hdd 11 K h (by decide) ha hA hk (by omega) (.inr (.inr (.inr (.inr (.inr (.inr (.inl rfl))))))) _ _ ?_⟩
 rw [if_neg (by decide), if_neg (by decide), if_neg (by decide), if_neg (by decide), if_neg (by decide), if_neg (by decide), if_pos rfl, unbentR _ _ _ hg.2]
 unfold unbentS
 rw [if_pos ⟨k0, k5, hgA.1, hg.1⟩, if_pos (by rw [hd, hdd])]; rfl
end
end Go.Proofs.Op
namespace Go.Proofs.Op
open Go.AM Go.Proofs.PlB Go.Proofs.PlW Go.Proofs.PlT Go.Proofs.PlS Go.Proofs.Sh Go.Proofs.Num Go.Proofs.Div Go.Proofs.PlR
def cntK (op k : Int) : Int := if op = 5 ∨ op = 8 ∨ op = 11 ∨ op = 12 ∨ op = 13 then k else 0
theorem cnt_ok (op k : Int) : f104_j2 op k = some (cntK op k) := by
 unfold f104_j2 f150 cntK
 by_cases h1 : op = 5
 ·rw [bT h1, if_pos (.inl h1)]; rfl
 rw [bF h1, cond_false]
 by_cases h2 : op = 8
 ·rw [bT h2, if_pos (by omega)]; rfl
 rw [bF h2, cond_false]
 by_cases h3 : op = 11
 ·rw [bT h3, if_pos (by omega)]; rfl
 rw [bF h3, cond_false]
 by_cases h4 : op = 12
 ·rw [bT h4, if_pos (by omega)]; rfl
 rw [bF h4, cond_false]
 by_cases h5 : op = 13
 ·rw [bT h5, if_pos (by omega)]; rfl
 rw [bF h5, if_neg (by omega)]; rfl
def isTwo (op : Int) : Bool := decide (op = 2 ∨ op = 3 ∨ op = 4 ∨ op = 6 ∨ op = 12)
theorem two_ok (op : Int) : f149 op = some (isTwo op) := by
 unfold f149 isTwo
 by_cases h1 : op = 2
 ·rw [bT h1, dT (.inl h1)]; rfl
 rw [bF h1, cond_false]
 by_cases h2 : op = 3
 ·rw [bT h2, dT (by omega)]; rfl
 rw [bF h2, cond_false]
 by_cases h3 : op = 4
 ·rw [bT h3, dT (by omega)]; rfl
 rw [bF h3, cond_false]
 by_cases h4 : op = 6
 ·rw [bT h4, dT (by omega)]; rfl
 rw [bF h4, cond_false]
 by_cases h5 : op = 12
 ·rw [bT h5, dT (by omega)]
 rw [bF h5, dF (by omega)]
theorem do2 (l : List Nd) (op : Int) (a b : Nat) (k : Int) (h : l.length < 512) (o1 : ¬ op < 2) (o2 : ¬ op > 14) (ho : isTwo op = true) (ha : a < l.length) (hb : b < l.length)
  (t : Tn) (hr : f151 op (nd l a) (nd l b) k = some (0, t)) : f104 l op a b k = some ((l.length : Int), 0, l ++ [(op, (a : Int), (b : Int), cntK op k, t.1, t.2)]) := by
 have hj1 : f104_j1 l op a b = some (Sum.inl l) := by
  unfold f104_j1
  rw [dF (by omega), dF o1, dF o2, hasP, dT (show 0 ≤ (a : Int) ∧ (a : Int) < l.length by omega), two_ok, ho]
  simp only [cond_false, bindF_some, Bool.not_true, cond_true]
  rw [hasP, dT (show 0 ≤ (b : Int) ∧ (b : Int) < l.length by omega)]
  rfl
 have hj3 : f104_j3 op a b k l = some (0, (b : Int), t.1, t.2) := by
  unfold f104_j3
  rw [two_ok, ho]
  simp only [bindF_some, cond_true]
  rw [guardF_pos (by omega), guardF_pos (by omega)]
  unfold nd at hr
  rw [hr]
  rfl
 unfold f104
 rw [hj1, bindF_some, sumF_inl, cnt_ok, bindF_some, hj3, bindF_some, nF rfl, cond_false, push_ok _ _ h]
 rfl
theorem do1 (l : List Nd) (op : Int) (a : Nat) (b k : Int) (h : l.length < 512) (o1 : ¬ op < 2) (o2 : ¬ op > 14) (ho : isTwo op = false) (ha : a < l.length)
  (t : Tn) (hr : f152 op (nd l a) k = some (0, t)) : f104 l op a b k = some ((l.length : Int), 0, l ++ [(op, (a : Int), -1, cntK op k, t.1, t.2)]) := by
 have hj1 : f104_j1 l op a b = some (Sum.inl l) := by
  unfold f104_j1
  rw [dF (by omega), dF o1, dF o2, hasP, dT (show 0 ≤ (a : Int) ∧ (a : Int) < l.length by omega), two_ok, ho]
  rfl
 have hj3 : f104_j3 op a b k l = some (0, -1, t.1, t.2) := by
  unfold f104_j3
  rw [two_ok, ho]
  simp only [bindF_some, cond_false]
  rw [guardF_pos (by omega)]
  unfold nd at hr
  rw [hr]
  rfl
 unfold f104
 rw [hj1, bindF_some, sumF_inl, cnt_ok, bindF_some, hj3, bindF_some, nF rfl, cond_false, push_ok _ _ h]
 rfl
end Go.Proofs.Op
namespace Go.Proofs.Op
open Go.AM Go.Proofs.PlB Go.Proofs.PlW Go.Proofs.PlT Go.Proofs.PlS Go.Proofs.Sh Go.Proofs.Num Go.Proofs.Div
open Go.Proofs.PlR hiding Tn
theorem twoR (op : Int) : f107 op = some (isTwo op) := two_ok op
theorem cntR (op k : Int) : f70_j3 op k = some (cntK op k) := cnt_ok op k
theorem leafR (l : List Nd) (a : Tn) (h : l.length < 512) (hg : tgood a = true) : f19 l a = some ((l.length : Int), 0, l ++ [(1, -1, -1, 0, a.1, a.2)]) := by
 obtain ⟨_, _, l1, l2⟩ := good_len hg
 unfold f19 f19_j1
 have e : f62 (a.1, a.2) = some (tgood a) := isR a
 have h1 : (List.length ([] : List Int) + a.1.length) * 8 ≤ 140737488355328 := by simp only [List.length_nil]; omega
 have h2 : (List.length ([] : List Int) + a.2.length) * 8 ≤ 140737488355328 := by simp only [List.length_nil]; omega
 have h3 : ∀ x : Nd, (l.length + List.length [x]) * 80 ≤ 140737488355328 := fun x => by simp only [List.length_cons, List.length_nil]; omega
 rw [dF (by omega), cond_false, e, hg, bindF_some, Bool.not_true, cond_false, guardF_pos h1, guardF_pos h2, bindF_some, guardF_pos (h3 _), List.length_append, wrap_i64 (by simp <;> omega) (by simp <;> omega)]
 simp
theorem doR (l : List Nd) (op : Int) (a : Nat) (b k : Int) (h : l.length < 512) (o1 : ¬ op < 2) (o2 : ¬ op > 14) (ha : a < l.length) (hb : isTwo op = true → 0 ≤ b ∧ b < l.length)
  (t : Tn) (hr : f109 op (nd l a) (if isTwo op = true then nd l b.toNat else noT) (cntK op k) = some (0, t)) :
  f70 l op a b k = some ((l.length : Int), 0, l ++ [(op, (a : Int), if isTwo op = true then b else -1, cntK op k, t.1, t.2)]) := by
 have hj1 : f70_j1 l op a b = some (Sum.inl ()) := by
  unfold f70_j1
  rw [dF o1, dF o2, dF (by omega), dF (by omega), twoR]
  simp only [cond_false, bindF_some]
  cases ht : isTwo op
  ·rfl
  ·obtain ⟨b0, b1⟩ := hb ht
   rw [dF (by omega), dF (by omega)]; rfl
 have hj2 : f70_j2 l op b = some ((if isTwo op = true then b else -1), (if isTwo op = true then nd l b.toNat else noT)) := by
  unfold f70_j2
  rw [twoR, bindF_some]
  cases ht : isTwo op
  ·rfl
  ·have g := hb ht
   obtain ⟨m, rfl⟩ := Int.eq_ofNat_of_zero_le g.1
   rw [cond_true, guardF_pos g, if_pos rfl, if_pos rfl]; rfl
 have hj4 : f70_j4 l op a ((if isTwo op = true then b else -1), (if isTwo op = true then nd l b.toNat else noT)) (cntK op k) = some (0, t) := by
  unfold f70_j4
  have g : 0 ≤ (a : Int) ∧ (a : Int) < (l.length : Int) := by omega
  have e : f109 op ((rd (Ty.z (.p (.int .i64) (.p (.int .i64) (.p (.int .i64) (.p (.int .i64) (.p (.sl (.int .i64)) (.sl (.int .i64)))))))) l (a : Int)).2.2.2.2.1, (rd (Ty.z (.p (.int .i64) (.p (.int .i64) (.p (.int .i64) (.p (.int .i64) (.p (.sl (.int .i64)) (.sl (.int .i64)))))))) l (a : Int)).2.2.2.2.2) ((if isTwo op = true then nd l b.toNat else noT).1, (if isTwo op = true then nd l b.toNat else noT).2) (cntK op k) = some (0, t) := hr
  rw [guardF_pos g, e]; rfl
 have h3 : ∀ x : Nd, (l.length + List.length [x]) * 80 ≤ 140737488355328 := fun x => by simp only [List.length_cons, List.length_nil]; omega
 unfold f70
 rw [dF (by omega), cond_false, hj1, bindF_some, sumF_inl, hj2, bindF_some, cntR, bindF_some, hj4, bindF_some, nF rfl, cond_false, guardF_pos (h3 _), List.length_append, wrap_i64 (by simp <;> omega) (by simp <;> omega)]
 simp
theorem rk_add (a b : Tn) (k : Int) (t : Tn) (ia : inI a.2) (ib : inI b.2) (h : f113 a b = some (0, t)) : f109 2 a b k = some (0, t) := by
 rw [addP a b ia ib] at h
 have e : f77 (IntKind.i64.wrap (2 - 2)) (a.1, a.2) (b.1, b.2) = some (0, t) := by
  rw [wrap_i64 (by omega) (by omega)]; exact (addR a b ia ib).trans h
 unfold f109 f109_j3 f109_j4
 rw [bT rfl, cond_true, bindF_some, cond_true, e]; rfl
theorem rk_sub (a b : Tn) (k : Int) (t : Tn) (ia : inI a.2) (ib : inI b.2) (h : f198 a b = some (0, t)) : f109 3 a b k = some (0, t) := by
 rw [subP a b ia ib] at h
 have e : f77 (IntKind.i64.wrap (3 - 2)) (a.1, a.2) (b.1, b.2) = some (0, t) := by
  rw [wrap_i64 (by omega) (by omega)]; exact (Op.subR a b ia ib).trans h
 unfold f109 f109_j3
 rw [show f109_j4 3 = some true from rfl, bindF_some, cond_true, e]; rfl
theorem rk_mul (a b : Tn) (k : Int) (t : Tn) (ia : inI a.2) (ib : inI b.2) (h : f164 a b = some (0, t)) : f109 4 a b k = some (0, t) := by
 rw [mulP a b ia ib] at h
 have e : f77 (IntKind.i64.wrap (4 - 2)) (a.1, a.2) (b.1, b.2) = some (0, t) := by
  rw [wrap_i64 (by omega) (by omega)]; exact (mulR a b ia ib).trans h
 unfold f109 f109_j3
 rw [show f109_j4 4 = some true from rfl, bindF_some, cond_true, e]; rfl
theorem scalar_go (v : Int) : f157 v = some ([], [v]) := by
 unfold f157
 rw [newR [] v (by decide)]; rfl
theorem rk_all (a b : Tn) (k : Int) (ha : GoodT a) : f109 9 a b k = some (0, [], [sat (sumL a.2)]) := by
 obtain ⟨_, _, _, hl⟩ := good_len ha.1
 have e : f158 (a.1, a.2) = some (sat (sumL a.2)) := allR a ha.2 hl
 unfold f109 f109_j3
 rw [show f109_j4 9 = some false from rfl, bindF_some, cond_false, bF (by decide), cond_false, bF (by decide), cond_false, bF (by decide), cond_false, bF (by decide), cond_false, bT rfl, cond_true, e, bindF_some, scalar_go]; rfl
theorem rk_mean (a b : Tn) (k : Int) (ha : GoodT a) : f109 10 a b k = some (0, [], [sat (rdI (sumL a.2) a.2.length)]) := by
 obtain ⟨p, q, _, hl⟩ := good_len ha.1
 have e : f159 (a.1, a.2) = some (sat (rdI (sumL a.2) a.2.length)) := meanR a ha.2 (by omega) hl
 unfold f109 f109_j3
 rw [show f109_j4 10 = some false from rfl, bindF_some, cond_false, bF (by decide), cond_false, bF (by decide), cond_false, bF (by decide), cond_false, bF (by decide), cond_false, bF (by decide), cond_false, bT rfl, cond_true, e, bindF_some, scalar_go]; rfl
theorem rk_bend (a b : Tn) (k : Int) (t : Tn) (k0 : 1 ≤ k) (k5 : k ≤ 5) (ia : inI a.2) (h : f205 k a = some (0, t)) : f109 11 a b k = some (0, t) := by
 rw [bentP k a ia] at h
 have e : f160 k (a.1, a.2) = some (0, t) := (bentR k a ia).trans h
 unfold f109 f109_j3 f156
 rw [show f109_j4 11 = some false from rfl, bindF_some, cond_false, bF (by decide), cond_false, bF (by decide), cond_false, bF (by decide), cond_false, bF (by decide), cond_false, bF (by decide), cond_false, bF (by decide), cond_false, bT rfl, cond_true, dF (by omega), cond_false, dF (by omega), cond_false, bindF_some, e]; rfl
theorem steps_two (l : List Nd) (was op : Int) (a b : Nat) (h : l.length < 512) (o1 : ¬ op < 2) (o2 : ¬ op > 14) (ho : isTwo op = true) (ha : a < l.length) (hb : b < l.length) (t : Tn)
  (hP : f151 op (nd l a) (nd l b) 0 = some (0, t)) (hR : f109 op (nd l a) (nd l b) (cntK op 0) = some (0, t)) :
  f65 l was 0 op a b 0 = some ((l.length : Int), was, 0, l ++ [(op, (a : Int), (b : Int), cntK op 0, t.1, t.2)]) ∧
  f70 l op a b 0 = some ((l.length : Int), 0, l ++ [(op, (a : Int), (b : Int), cntK op 0, t.1, t.2)]) := by
 refine ⟨?_, ?_⟩
 ·unfold f65
  rw [nF rfl, cond_false, do2 l op a b 0 h o1 o2 ho ha hb t hP]; rfl
 ·have := doR l op a (b : Int) 0 h o1 o2 ha (fun _ => by omega) t (by rw [if_pos ho, Int.toNat_natCast]; exact hR)
  rw [if_pos ho] at this; exact this
theorem steps_one (l : List Nd) (was op : Int) (a : Nat) (k : Int) (h : l.length < 512) (o1 : ¬ op < 2) (o2 : ¬ op > 14) (ho : isTwo op = false) (ha : a < l.length) (t : Tn)
  (hP : f152 op (nd l a) k = some (0, t)) (hR : f109 op (nd l a) noT (cntK op k) = some (0, t)) :
  f65 l was 0 op a 0 k = some ((l.length : Int), was, 0, l ++ [(op, (a : Int), -1, cntK op k, t.1, t.2)]) ∧
  f70 l op a (-1) k = some ((l.length : Int), 0, l ++ [(op, (a : Int), -1, cntK op k, t.1, t.2)]) := by
 refine ⟨?_, ?_⟩
 ·unfold f65
  rw [nF rfl, cond_false, do1 l op a 0 k h o1 o2 ho ha t hP]; rfl
 ·have := doR l op a (-1) k h o1 o2 ha (fun h1 => by rw [ho] at h1; exact absurd h1 (by decide)) t (by rw [if_neg (by rw [ho]; decide)]; exact hR)
  rw [if_neg (by rw [ho]; decide)] at this; exact this
theorem steps_leaf (l : List Nd) (was : Int) (n : Nat) (v : List Int) (h : l.length < 512) (hv : v.length = n) (hg : tgood ([(n : Int)], v) = true) :
  f66 l was 0 v = some ((l.length : Int), was, 0, l ++ [(1, -1, -1, 0, [(n : Int)], v)]) ∧
  f19 l ([(n : Int)], v) = some ((l.length : Int), 0, l ++ [(1, -1, -1, 0, [(n : Int)], v)]) := by
 refine ⟨?_, leafR l _ h hg⟩
 unfold f66
 rw [nF rfl, cond_false, hv, leaf_ok l ([(n : Int)], v) h hg]; rfl
end Go.Proofs.Op
namespace Go.Proofs.PlG
open Go.AM Go.Proofs.PlW
theorem range_i64 {x : Int} (h : Ty.wf (.int .i64) x) : -9223372036854775808 ≤ x ∧ x < 9223372036854775808 := by
 have h : (Lit.int .i64 x).wf = true := h
 simp only [Lit.wf, IntKind.min, IntKind.max, IntKind.signed, IntKind.bits, Bool.and_eq_true, decide_eq_true_eq, if_true] at h
 omega
theorem row_i64 {l : List Int} (h : Ty.wf (.sl (.int .i64)) l) : inI l := fun x hx => range_i64 (h.2 x hx)
end Go.Proofs.PlG
namespace Go.Proofs.LossSays
open Go.AM Go.Proofs.PlB Go.Proofs.PlW Go.Proofs.PlT Go.Proofs.PlS Go.Proofs.Sh Go.Proofs.Num Go.Proofs.Div Go.Proofs.Op
open Go.Proofs.PlR hiding Tn
section
variable (n : Nat) (l : List Int) (hn : l.length = n) (h0 : 1 ≤ n) (h1 : n ≤ 60) (il : inI l)
def vc (n : Nat) (v : List Int) : Tn := ([(n : Int)], v)
def zp (f : Int → Int → Int) (n : Nat) (a b : List Int) : List Int := tabL n (fun i => f (rd (0 : Int) a i) (rd (0 : Int) b i))
def mp (f : Int → Int) (n : Nat) (a : List Int) : List Int := tabL n (fun i => f (rd (0 : Int) a i))
include h0 h1
theorem posn : 0 < prd [(n : Int)] := by rw [prd_one _ (by omega) (by omega)]; omega
theorem gvc {v : List Int} (hv : v.length = n) (iv : inI v) : GoodT (vc n v) := ⟨tgood_of (posn n h0 h1) (by unfold vc; simp only; rw [prd_one _ (by omega) (by omega), hv]), iv⟩
theorem fitn : Fits [(n : Int)] [(n : Int)] := fits_self (posn n h0 h1)
theorem subn {a b : List Int} (ha : a.length = n) (hb : b.length = n) (ia : inI a) (ib : inI b) : f198 (vc n a) (vc n b) = some (0, vc n (zp subV n a b)) := by
 rw [subP _ _ ia ib, both_self _ _ _ (gvc n h0 h1 ha ia).1 (gvc n h0 h1 hb ib).1 rfl]
 unfold vc zp; simp only; rw [ha]
theorem muln {a b : List Int} (ha : a.length = n) (hb : b.length = n) (ia : inI a) (ib : inI b) : f164 (vc n a) (vc n b) = some (0, vc n (zp mulX n a b)) := by
 rw [mulP _ _ ia ib, both_self _ _ _ (gvc n h0 h1 ha ia).1 (gvc n h0 h1 hb ib).1 rfl]
 unfold vc zp; simp only; rw [ha]
theorem addn {a b : List Int} (ha : a.length = n) (hb : b.length = n) (ia : inI a) (ib : inI b) : f113 (vc n a) (vc n b) = some (0, vc n (zp addV n a b)) := by
 rw [addP _ _ ia ib, both_self _ _ _ (gvc n h0 h1 ha ia).1 (gvc n h0 h1 hb ib).1 rfl]
 unfold vc zp; simp only; rw [ha]
theorem addo {a : List Int} (v : Int) (ha : a.length = n) (ia : inI a) (iv : inI [v]) : f113 (vc n a) ([], [v]) = some (0, vc n (mp (fun x => addV x v) n a)) := by
 have := add_one a v (by omega) (by omega) ia iv
 unfold row at this
 rw [ha, tab_len] at this
 exact this
theorem bendn {a : List Int} (k : Int) (k0 : 1 ≤ k) (k5 : k ≤ 5) (ha : a.length = n) (ia : inI a) : f205 k (vc n a) = some (0, vc n (mp (bendV k) n a)) := by
 rw [bentP _ _ ia]
 unfold bentS
 rw [if_pos ⟨k0, k5, (gvc n h0 h1 ha ia).1⟩]
 unfold vc mp; simp only; rw [ha]
theorem inb {a : List Int} (k : Int) (ha : a.length = n) (ia : inI a) : inI (mp (bendV k) n a) := inI_tab (fun i hi => bendV_in _ _ (inI_rd ia i (by omega)))
omit h0 h1
theorem zl (f : Int → Int → Int) (a b : List Int) : (zp f n a b).length = n := tab_len _ _
theorem ml (f : Int → Int) (a : List Int) : (mp f n a).length = n := tab_len _ _
theorem isub (a b : List Int) : inI (zp subV n a b) := inI_tab (fun i hi => sat_in _)
theorem imul (a b : List Int) : inI (zp mulX n a b) := inI_tab (fun i hi => sat_in _)
theorem iadd (a b : List Int) : inI (zp addV n a b) := inI_tab (fun i hi => sat_in _)
theorem iado (a : List Int) (v : Int) : inI (mp (fun x => addV x v) n a) := inI_tab (fun i hi => sat_in _)
theorem inOne (x : Int) : inI [sat x] := fun y hy => by rw [List.mem_singleton.1 hy]; exact sat_in x
theorem gone (x : Int) : GoodT (([], [sat x]) : Tn) := ⟨rfl, inOne x⟩
def t0 : List Nd := [(1, -1, -1, 0, [(n : Int)], l)]
theorem in0 : 0 ≤ (0 : Int) ∧ (0 : Int) < ((t0 n l).length : Int) := ⟨Int.le_refl _, by show (0 : Int) < ((1 : Nat) : Int); decide⟩
theorem dim0 : (List.length (rd (Ty.z (.p (.int .i64) (.p (.int .i64) (.p (.int .i64) (.p (.int .i64) (.p (.sl (.int .i64)) (.sl (.int .i64)))))))) (t0 n l) 0).2.2.2.2.1 : Int) = 1 := rfl
theorem no0 : ¬ (0 : Int) ≥ ((t0 n l).length : Int) := by show ¬ (0 : Int) ≥ ((1 : Nat) : Int); decide
def t1 (w : List Int) : List Nd := t0 n l ++ [(1, -1, -1, 0, [(n : Int)], w)]
def t2 (w : List Int) : List Nd := t1 n l w ++ [(3, 0, 1, 0, [(n : Int)], zp subV n l w)]
def s3 (w : List Int) : List Nd := t2 n l w ++ [(4, 2, 2, 0, [(n : Int)], zp mulX n (zp subV n l w) (zp subV n l w))]
def s4 (w : List Int) : List Nd := s3 n l w ++ [(10, 3, -1, 0, [], [sat (rdI (sumL (zp mulX n (zp subV n l w) (zp subV n l w))) ((zp mulX n (zp subV n l w) (zp subV n l w)).length : Int))])]
def z3 (w : List Int) : List Nd := t2 n l w ++ [(11, 2, -1, 4, [(n : Int)], mp (bendV 4) n (zp subV n l w))]
def z4 (w : List Int) : List Nd := z3 n l w ++ [(10, 3, -1, 0, [], [sat (rdI (sumL (mp (bendV 4) n (zp subV n l w))) ((mp (bendV 4) n (zp subV n l w)).length : Int))])]
section
variable (w : List Int) (hw : w.length = n) (iw : inI w)
include hn h0 h1 il hw iw
theorem stL : f66 (t0 n l) 1 0 w = some (1, 1, 0, t1 n l w) ∧ f19 (t0 n l) ([(n : Int)], w) = some (1, 0, t1 n l w) :=
 steps_leaf (t0 n l) 1 n w (by decide : 1 < 512) hw (gvc n h0 h1 hw iw).1
theorem stS : f65 (t1 n l w) 1 0 3 0 1 0 = some (2, 1, 0, t2 n l w) ∧ f70 (t1 n l w) 3 0 1 0 = some (2, 0, t2 n l w) :=
 steps_two (t1 n l w) 1 3 0 1 (by decide : 2 < 512) (by decide) (by decide) rfl (by decide : 0 < 2) (by decide : 1 < 2) (vc n (zp subV n l w))
  (op_sub _ _ _ _ (subn n h0 h1 hn hw il iw)) (rk_sub _ _ _ _ il iw (subn n h0 h1 hn hw il iw))
theorem stM : f65 (t2 n l w) 1 0 4 2 2 0 = some (3, 1, 0, s3 n l w) ∧ f70 (t2 n l w) 4 2 2 0 = some (3, 0, s3 n l w) :=
 steps_two (t2 n l w) 1 4 2 2 (by decide : 3 < 512) (by decide) (by decide) rfl (by decide : 2 < 3) (by decide : 2 < 3) (vc n (zp mulX n (zp subV n l w) (zp subV n l w)))
  (op_mul _ _ _ _ (muln n h0 h1 (zl n _ _ _) (zl n _ _ _) (isub n _ _) (isub n _ _))) (rk_mul _ _ _ _ (isub n _ _) (isub n _ _) (muln n h0 h1 (zl n _ _ _) (zl n _ _ _) (isub n _ _) (isub n _ _)))
theorem stA : f65 (s3 n l w) 1 0 10 3 0 0 = some (4, 1, 0, s4 n l w) ∧ f70 (s3 n l w) 10 3 (-1) 0 = some (4, 0, s4 n l w) := by
 have g := gvc n h0 h1 (zl n mulX (zp subV n l w) (zp subV n l w)) (imul n _ _)
 exact steps_one (s3 n l w) 1 10 3 0 (by decide : 4 < 512) (by decide) (by decide) rfl (by decide : 3 < 4) ([], [sat (rdI (sumL (zp mulX n (zp subV n l w) (zp subV n l w))) ((zp mulX n (zp subV n l w) (zp subV n l w)).length : Int))])
  (op_mean _ _ _ (meanP _ g.2 g.1)) (rk_mean _ _ _ g)
theorem stB : f65 (t2 n l w) 1 0 11 2 0 4 = some (3, 1, 0, z3 n l w) ∧ f70 (t2 n l w) 11 2 (-1) 4 = some (3, 0, z3 n l w) :=
 steps_one (t2 n l w) 1 11 2 4 (by decide : 3 < 512) (by decide) (by decide) rfl (by decide : 2 < 3) (vc n (mp (bendV 4) n (zp subV n l w)))
  (op_bend _ _ _ (bendn n h0 h1 4 (by decide) (by decide) (zl n _ _ _) (isub n _ _))) (rk_bend _ _ _ _ (by decide) (by decide) (isub n _ _) (bendn n h0 h1 4 (by decide) (by decide) (zl n _ _ _) (isub n _ _)))
theorem stC : f65 (z3 n l w) 1 0 10 3 0 0 = some (4, 1, 0, z4 n l w) ∧ f70 (z3 n l w) 10 3 (-1) 0 = some (4, 0, z4 n l w) := by
 have g := gvc n h0 h1 (ml n (bendV 4) (zp subV n l w)) (inb n h0 h1 4 (zl n _ _ _) (isub n _ _))
 exact steps_one (z3 n l w) 1 10 3 0 (by decide : 4 < 512) (by decide) (by decide) rfl (by decide : 3 < 4) ([], [sat (rdI (sumL (mp (bendV 4) n (zp subV n l w))) ((mp (bendV 4) n (zp subV n l w)).length : Int))])
  (op_mean _ _ _ (meanP _ g.2 g.1)) (rk_mean _ _ _ g)
theorem may0 : f63 (t0 n l) 0 w = some (0, t0 n l) := by
 have g := gvc n h0 h1 hn il
 unfold f63
 have e := valueP (t0 n l) 0 (fun i hi => by obtain rfl : i = 0 := by { have : i < 1 := hi; omega }; exact g)
 rw [e, bindF_some]
 unfold f63_j1
 have e2 : vl (t0 n l) 0 = vc n l := rfl
 simp only [e2]
 rw [dT (in0 n l), Bool.not_true, cond_false, nF (show (w.length : Int) = ((vc n l).2.length : Int) by show (w.length : Int) = (l.length : Int); omega), bindF_some, cond_false]
 rfl
theorem squareP : f20 (t0 n l) 0 w = some (4, 0, s4 n l w) := by
 unfold f20
 rw [may0 n l hn h0 h1 il w hw iw, bindF_some, nF rfl, cond_false, show f64 (t0 n l) = some (1, t0 n l) from rfl, bindF_some]
 simp only
 rw [(stL n l hn h0 h1 il w hw iw).1, bindF_some]
 simp only
 rw [(stS n l hn h0 h1 il w hw iw).1, bindF_some]
 simp only
 rw [(stM n l hn h0 h1 il w hw iw).1, bindF_some]
 simp only
 rw [(stA n l hn h0 h1 il w hw iw).1, bindF_some]
 rfl
theorem sizeP : f21 (t0 n l) 0 w = some (4, 0, z4 n l w) := by
 unfold f21
 rw [may0 n l hn h0 h1 il w hw iw, bindF_some, nF rfl, cond_false, show f64 (t0 n l) = some (1, t0 n l) from rfl, bindF_some]
 simp only
 rw [(stL n l hn h0 h1 il w hw iw).1, bindF_some]
 simp only
 rw [(stS n l hn h0 h1 il w hw iw).1, bindF_some]
 simp only
 rw [(stB n l hn h0 h1 il w hw iw).1, bindF_some]
 simp only
 rw [(stC n l hn h0 h1 il w hw iw).1, bindF_some]
 rfl
theorem lossR (kind c : Int) (hk : kind = 1 ∨ kind = 2) : f23 (t0 n l) kind 0 w c = some (4, 0, if kind = 1 then s4 n l w else z4 n l w) := by
 have hj1 : f23_j1 (t0 n l) kind 0 w = some (Sum.inl ()) := by
  unfold f23_j1
  have g := in0 n l
  have e : (w.length : Int) = (List.length (rd (Ty.z (.p (.int .i64) (.p (.int .i64) (.p (.int .i64) (.p (.int .i64) (.p (.sl (.int .i64)) (.sl (.int .i64)))))))) (t0 n l) 0).2.2.2.2.2 : Int) := by
   show (w.length : Int) = (l.length : Int); omega
  rw [dF (by decide), cond_false, dF (no0 n l), cond_false, nT (by omega), cond_true, guardF_pos g, nF e]; rfl
 have hj2 : f23_j2 (t0 n l) kind 0 c = some (Sum.inl ()) := by
  unfold f23_j2
  rw [nF (dim0 n l), cond_false, bF (by omega)]; rfl
 have g := in0 n l
 unfold f23
 rw [hj1, bindF_some, sumF_inl, guardF_pos g, hj2, bindF_some, sumF_inl, nT (by omega), cond_true]
 have e1 : f19 (t0 n l) ((rd (Ty.z (.p (.int .i64) (.p (.int .i64) (.p (.int .i64) (.p (.int .i64) (.p (.sl (.int .i64)) (.sl (.int .i64)))))))) (t0 n l) 0).2.2.2.2.1, w) = some (1, 0, t1 n l w) := (stL n l hn h0 h1 il w hw iw).2
 have e2 : f23_j3 0 (1, 0, t1 n l w) = some (2, 0, t2 n l w) := by
  unfold f23_j3
  rw [bT rfl, cond_true]
  show bindF (f70 (t1 n l w) 3 0 1 0) _ = _
  rw [(stS n l hn h0 h1 il w hw iw).2]; rfl
 rw [e1, bindF_some, e2, bindF_some]
 rcases hk with rfl | rfl
 ·have e3 : f23_j5 1 (2, 0, t2 n l w) = some (3, 0, s3 n l w) := by
   unfold f23_j5
   rw [show f23_j6 1 (2, 0, t2 n l w) = some true from rfl, bindF_some, cond_true]
   show bindF (f70 (t2 n l w) 4 2 2 0) _ = _
   rw [(stM n l hn h0 h1 il w hw iw).2]; rfl
  have e5 : f23_j10 (3, 0, s3 n l w) = some (4, 0, s4 n l w) := by
   unfold f23_j10
   rw [bT rfl, cond_true]
   show bindF (f70 (s3 n l w) 10 3 (-1) 0) _ = _
   rw [(stA n l hn h0 h1 il w hw iw).2]; rfl
  rw [e3, bindF_some, show f23_j8 1 (3, 0, s3 n l w) = some (3, 0, s3 n l w) from rfl, bindF_some, e5, bindF_some, nF rfl, if_pos rfl]; rfl
 ·have e3 : f23_j8 2 (2, 0, t2 n l w) = some (3, 0, z3 n l w) := by
   unfold f23_j8
   rw [show f23_j9 2 (2, 0, t2 n l w) = some true from rfl, bindF_some, cond_true]
   show bindF (f70 (t2 n l w) 11 2 (-1) 4) _ = _
   rw [(stB n l hn h0 h1 il w hw iw).2]; rfl
  have e5 : f23_j10 (3, 0, z3 n l w) = some (4, 0, z4 n l w) := by
   unfold f23_j10
   rw [bT rfl, cond_true]
   show bindF (f70 (z3 n l w) 10 3 (-1) 0) _ = _
   rw [(stC n l hn h0 h1 il w hw iw).2]; rfl
  rw [show f23_j5 2 (2, 0, t2 n l w) = some (2, 0, t2 n l w) from rfl, bindF_some, e3, bindF_some, e5, bindF_some, nF rfl, if_neg (by decide)]; rfl
end
section
variable (c : Nat) (hc : c < n)
def al : List Int := (List.replicate n 0).set c (-4294967296)
def bl : List Int := (List.replicate n 4294967296).set c 0
theorem al_len : (al n c).length = n := by unfold al; simp
theorem bl_len : (bl n c).length = n := by unfold bl; simp
theorem al_in : inI (al n c) := inI_set (inI_rep _ _ (by decide)) _ _ (by decide)
theorem bl_in : inI (bl n c) := inI_set (inI_rep _ _ (by decide)) _ _ (by decide)
def vP : List Int := zp mulX n l (al n c)
def vO : Int := sat (sumL (vP n l c))
def vE : List Int := mp (fun x => addV x (vO n l c)) n l
def vF : List Int := zp addV n (vE n l c) (bl n c)
def vR : List Int := mp (bendV 1) n (vF n l c)
def vQ : List Int := zp mulX n (vR n l c) (bl n c)
def k1 : List Nd := t0 n l ++ [(1, -1, -1, 0, [(n : Int)], al n c)]
def k2 : List Nd := k1 n l c ++ [(1, -1, -1, 0, [(n : Int)], bl n c)]
def k3 : List Nd := k2 n l c ++ [(4, 0, 1, 0, [(n : Int)], vP n l c)]
def k4 : List Nd := k3 n l c ++ [(9, 3, -1, 0, [], [vO n l c])]
def k5 : List Nd := k4 n l c ++ [(2, 0, 4, 0, [(n : Int)], vE n l c)]
def k6 : List Nd := k5 n l c ++ [(2, 5, 2, 0, [(n : Int)], vF n l c)]
def k7 : List Nd := k6 n l c ++ [(11, 6, -1, 1, [(n : Int)], vR n l c)]
def k8 : List Nd := k7 n l c ++ [(4, 7, 2, 0, [(n : Int)], vQ n l c)]
def k9 : List Nd := k8 n l c ++ [(9, 8, -1, 0, [], [sat (sumL (vQ n l c))])]
include hn h0 h1 il hc
theorem kP : GoodT (vc n (vP n l c)) := gvc n h0 h1 (zl n _ _ _) (imul n _ _)
theorem kE : GoodT (vc n (vE n l c)) := gvc n h0 h1 (ml n _ _) (iado n _ _)
theorem kF : GoodT (vc n (vF n l c)) := gvc n h0 h1 (zl n _ _ _) (iadd n _ _)
theorem kR : GoodT (vc n (vR n l c)) := gvc n h0 h1 (ml n _ _) (inb n h0 h1 1 (zl n _ _ _) (iadd n _ _))
theorem kQ : GoodT (vc n (vQ n l c)) := gvc n h0 h1 (zl n _ _ _) (imul n _ _)
theorem d1 : f66 (t0 n l) 1 0 (al n c) = some (1, 1, 0, k1 n l c) ∧ f19 (t0 n l) ([(n : Int)], al n c) = some (1, 0, k1 n l c) :=
 steps_leaf (t0 n l) 1 n _ (by decide : 1 < 512) (al_len n c) (gvc n h0 h1 (al_len n c) (al_in n c)).1
theorem d2 : f66 (k1 n l c) 1 0 (bl n c) = some (2, 1, 0, k2 n l c) ∧ f19 (k1 n l c) ([(n : Int)], bl n c) = some (2, 0, k2 n l c) :=
 steps_leaf (k1 n l c) 1 n _ (by decide : 2 < 512) (bl_len n c) (gvc n h0 h1 (bl_len n c) (bl_in n c)).1
theorem d3 : f65 (k2 n l c) 1 0 4 0 1 0 = some (3, 1, 0, k3 n l c) ∧ f70 (k2 n l c) 4 0 1 0 = some (3, 0, k3 n l c) :=
 steps_two (k2 n l c) 1 4 0 1 (by decide : 3 < 512) (by decide) (by decide) rfl (by decide : 0 < 3) (by decide : 1 < 3) (vc n (vP n l c))
  (op_mul _ _ _ _ (muln n h0 h1 hn (al_len n c) il (al_in n c))) (rk_mul _ _ _ _ il (al_in n c) (muln n h0 h1 hn (al_len n c) il (al_in n c)))
theorem d4 : f65 (k3 n l c) 1 0 9 3 0 0 = some (4, 1, 0, k4 n l c) ∧ f70 (k3 n l c) 9 3 (-1) 0 = some (4, 0, k4 n l c) :=
 steps_one (k3 n l c) 1 9 3 0 (by decide : 4 < 512) (by decide) (by decide) rfl (by decide : 3 < 4) ([], [vO n l c])
  (op_all _ _ _ (allP (vc n (vP n l c)) (kP n l hn h0 h1 il c hc).2 (kP n l hn h0 h1 il c hc).1)) (rk_all (vc n (vP n l c)) _ _ (kP n l hn h0 h1 il c hc))
theorem d5 : f65 (k4 n l c) 1 0 2 0 4 0 = some (5, 1, 0, k5 n l c) ∧ f70 (k4 n l c) 2 0 4 0 = some (5, 0, k5 n l c) :=
 steps_two (k4 n l c) 1 2 0 4 (by decide : 5 < 512) (by decide) (by decide) rfl (by decide : 0 < 5) (by decide : 4 < 5) (vc n (vE n l c))
  (op_add _ _ _ _ (addo n h0 h1 _ hn il (inOne _))) (rk_add _ _ _ _ il (inOne _) (addo n h0 h1 _ hn il (inOne _)))
theorem d6 : f65 (k5 n l c) 1 0 2 5 2 0 = some (6, 1, 0, k6 n l c) ∧ f70 (k5 n l c) 2 5 2 0 = some (6, 0, k6 n l c) :=
 steps_two (k5 n l c) 1 2 5 2 (by decide : 6 < 512) (by decide) (by decide) rfl (by decide : 5 < 6) (by decide : 2 < 6) (vc n (vF n l c))
  (op_add _ _ _ _ (addn n h0 h1 (ml n _ _) (bl_len n c) (iado n _ _) (bl_in n c))) (rk_add _ _ _ _ (iado n _ _) (bl_in n c) (addn n h0 h1 (ml n _ _) (bl_len n c) (iado n _ _) (bl_in n c)))
theorem d7 : f65 (k6 n l c) 1 0 11 6 0 1 = some (7, 1, 0, k7 n l c) ∧ f70 (k6 n l c) 11 6 (-1) 1 = some (7, 0, k7 n l c) :=
 steps_one (k6 n l c) 1 11 6 1 (by decide : 7 < 512) (by decide) (by decide) rfl (by decide : 6 < 7) (vc n (vR n l c))
  (op_bend _ _ _ (bendn n h0 h1 1 (by decide) (by decide) (zl n _ _ _) (iadd n _ _))) (rk_bend _ _ _ _ (by decide) (by decide) (iadd n _ _) (bendn n h0 h1 1 (by decide) (by decide) (zl n _ _ _) (iadd n _ _)))
theorem d8 : f65 (k7 n l c) 1 0 4 7 2 0 = some (8, 1, 0, k8 n l c) ∧ f70 (k7 n l c) 4 7 2 0 = some (8, 0, k8 n l c) := by
 have g := kR n l hn h0 h1 il c hc
 exact steps_two (k7 n l c) 1 4 7 2 (by decide : 8 < 512) (by decide) (by decide) rfl (by decide : 7 < 8) (by decide : 2 < 8) (vc n (vQ n l c))
  (op_mul _ _ _ _ (muln n h0 h1 (ml n _ _) (bl_len n c) g.2 (bl_in n c))) (rk_mul _ _ _ _ g.2 (bl_in n c) (muln n h0 h1 (ml n _ _) (bl_len n c) g.2 (bl_in n c)))
theorem d9 : f65 (k8 n l c) 1 0 9 8 0 0 = some (9, 1, 0, k9 n l c) ∧ f70 (k8 n l c) 9 8 (-1) 0 = some (9, 0, k9 n l c) :=
 steps_one (k8 n l c) 1 9 8 0 (by decide : 9 < 512) (by decide) (by decide) rfl (by decide : 8 < 9) ([], [sat (sumL (vQ n l c))])
  (op_all _ _ _ (allP (vc n (vQ n l c)) (kQ n l hn h0 h1 il c hc).2 (kQ n l hn h0 h1 il c hc).1)) (rk_all (vc n (vQ n l c)) _ _ (kQ n l hn h0 h1 il c hc))
theorem val0 : f58 (t0 n l) 0 = some (true, [(n : Int)], l, t0 n l) := by
 have g := gvc n h0 h1 hn il
 have e := valueP (t0 n l) 0 (fun i hi => by obtain rfl : i = 0 := by { have : i < 1 := hi; omega }; exact g)
 rw [dT (in0 n l)] at e
 exact e
theorem hingeP : f22 (t0 n l) 0 c = some (9, 0, k9 n l c) := by
 unfold f22
 rw [val0 n l hn h0 h1 il c hc, bindF_some]
 have hj : f22_j1 (c : Int) (true, [(n : Int)], l, t0 n l) = some (Sum.inl ()) := by
  unfold f22_j1
  simp only
  rw [Bool.not_true, cond_false, nF (show (([(n : Int)].length : Nat) : Int) = 1 from rfl), cond_false, dF (by omega), cond_false, dF (by omega)]; rfl
 have e3 : f68 [(n : Int)] 0 = some (0, [(n : Int)], List.replicate n 0) := by
  rw [new_ok, if_pos (posn n h0 h1), prd_one _ (by omega) (by omega), Int.toNat_natCast]
 have e4 : f69 [(4294967296 : Int)] (l.length : Int) = some (List.replicate n 4294967296) := by
  rw [hn]; exact repeat_ok _ n (by omega)
 rw [hj, bindF_some, sumF_inl]
 simp only
 rw [e3, bindF_some, e4, bindF_some]
 simp only
 have g1 : 0 ≤ (c : Int) ∧ (c : Int) < ((List.replicate n (0 : Int)).length : Int) := by rw [List.length_replicate]; omega
 have g2 : 0 ≤ (c : Int) ∧ (c : Int) < ((List.replicate n (4294967296 : Int)).length : Int) := by rw [List.length_replicate]; omega
 rw [guardF_pos g1, guardF_pos g2, show f64 (t0 n l) = some (1, t0 n l) from rfl, bindF_some]
 simp only
 have f1 : f66 (t0 n l) 1 0 (List.set (List.replicate n 0) (Int.toNat (c : Int)) (-4294967296)) = _ := (d1 n l hn h0 h1 il c hc).1
 rw [f1, bindF_some]
 simp only
 have f2 : f66 (k1 n l c) 1 0 (List.set (List.replicate n 4294967296) (Int.toNat (c : Int)) 0) = _ := (d2 n l hn h0 h1 il c hc).1
 rw [f2, bindF_some]
 simp only
 rw [(d3 n l hn h0 h1 il c hc).1, bindF_some]
 simp only
 rw [(d4 n l hn h0 h1 il c hc).1, bindF_some]
 simp only
 rw [(d5 n l hn h0 h1 il c hc).1, bindF_some]
 simp only
 rw [(d6 n l hn h0 h1 il c hc).1, bindF_some]
 simp only
 rw [(d7 n l hn h0 h1 il c hc).1, bindF_some]
 simp only
 rw [(d8 n l hn h0 h1 il c hc).1, bindF_some]
 simp only
 rw [(d9 n l hn h0 h1 il c hc).1, bindF_some]
 rfl
theorem hingeR (w : List Int) : f23 (t0 n l) 3 0 w c = some (9, 0, k9 n l c) := by
 have g := in0 n l
 have hj1 : f23_j1 (t0 n l) 3 0 w = some (Sum.inl ()) := by
  unfold f23_j1
  rw [dF (by decide), cond_false, dF (no0 n l), cond_false, nF rfl]; rfl
 have hj2 : f23_j2 (t0 n l) 3 0 c = some (Sum.inl ()) := by
  unfold f23_j2
  have g2 : 0 ≤ (0 : Int) ∧ (0 : Int) < (List.length (rd (Ty.z (.p (.int .i64) (.p (.int .i64) (.p (.int .i64) (.p (.int .i64) (.p (.sl (.int .i64)) (.sl (.int .i64)))))))) (t0 n l) 0).2.2.2.2.1 : Int) := by rw [dim0 n l]; decide
  have g3 : ¬ (c : Int) ≥ rd (0 : Int) (rd (Ty.z (.p (.int .i64) (.p (.int .i64) (.p (.int .i64) (.p (.int .i64) (.p (.sl (.int .i64)) (.sl (.int .i64)))))))) (t0 n l) 0).2.2.2.2.1 0 := by
   show ¬ (c : Int) ≥ (n : Int); omega
  rw [nF (dim0 n l), cond_false, bT rfl, cond_true, dF (by omega), cond_false, guardF_pos g2, dF g3]; rfl
 unfold f23
 rw [hj1, bindF_some, sumF_inl, guardF_pos g, hj2, bindF_some, sumF_inl, nF rfl, cond_false]
 have n0 : ∀ v : Int, f71 (rd (Ty.z (.p (.int .i64) (.p (.int .i64) (.p (.int .i64) (.p (.int .i64) (.p (.sl (.int .i64)) (.sl (.int .i64)))))))) (t0 n l) 0).2.2.2.2.1 v = some ([(n : Int)], List.replicate n v) := fun v => by
  have := newR [(n : Int)] v (posn n h0 h1)
  rw [prd_one _ (by omega) (by omega), Int.toNat_natCast] at this
  exact this
 rw [n0, bindF_some, n0, bindF_some]
 simp only
 have g1 : 0 ≤ (c : Int) ∧ (c : Int) < ((List.replicate n (0 : Int)).length : Int) := by rw [List.length_replicate]; omega
 have g2 : 0 ≤ (c : Int) ∧ (c : Int) < ((List.replicate n (4294967296 : Int)).length : Int) := by rw [List.length_replicate]; omega
 rw [guardF_pos g1, guardF_pos g2]
 have f1 : f19 (t0 n l) ([(n : Int)], List.set (List.replicate n 0) (Int.toNat (c : Int)) (-4294967296)) = _ := (d1 n l hn h0 h1 il c hc).2
 have f2 : f23_j11 c ([(n : Int)], List.replicate n 4294967296) (1, 0, k1 n l c) = some (0, 2, k2 n l c) := by
  unfold f23_j11
  rw [bT rfl, cond_true]
  show bindF (f19 (k1 n l c) ([(n : Int)], bl n c)) _ = _
  rw [(d2 n l hn h0 h1 il c hc).2]; rfl
 have f3 : f23_j12 0 (1, 0, k1 n l c) (0, 2, k2 n l c) = some (0, 3, k3 n l c) := by
  unfold f23_j12
  rw [bT rfl, cond_true]
  show bindF (f70 (k2 n l c) 4 0 1 0) _ = _
  rw [(d3 n l hn h0 h1 il c hc).2]; rfl
 have f4 : f23_j13 (0, 3, k3 n l c) = some (0, 4, k4 n l c) := by
  unfold f23_j13
  rw [bT rfl, cond_true]
  show bindF (f70 (k3 n l c) 9 3 (-1) 0) _ = _
  rw [(d4 n l hn h0 h1 il c hc).2]; rfl
 have f5 : f23_j14 0 (0, 4, k4 n l c) = some (0, 5, k5 n l c) := by
  unfold f23_j14
  rw [bT rfl, cond_true]
  show bindF (f70 (k4 n l c) 2 0 4 0) _ = _
  rw [(d5 n l hn h0 h1 il c hc).2]; rfl
 have f6 : f23_j15 (0, 2, k2 n l c) (0, 5, k5 n l c) = some (0, 6, k6 n l c) := by
  unfold f23_j15
  rw [bT rfl, cond_true]
  show bindF (f70 (k5 n l c) 2 5 2 0) _ = _
  rw [(d6 n l hn h0 h1 il c hc).2]; rfl
 have f7 : f23_j16 (0, 6, k6 n l c) = some (0, 7, k7 n l c) := by
  unfold f23_j16
  rw [bT rfl, cond_true]
  show bindF (f70 (k6 n l c) 11 6 (-1) 1) _ = _
  rw [(d7 n l hn h0 h1 il c hc).2]; rfl
 have f8 : f23_j17 (0, 2, k2 n l c) (0, 7, k7 n l c) = some (0, 8, k8 n l c) := by
  unfold f23_j17
  rw [bT rfl, cond_true]
  show bindF (f70 (k7 n l c) 4 7 2 0) _ = _
  rw [(d8 n l hn h0 h1 il c hc).2]; rfl
 have f9 : f23_j18 (0, 8, k8 n l c) = some (0, 9, k9 n l c) := by
  unfold f23_j18
  rw [bT rfl, cond_true]
  show bindF (f70 (k8 n l c) 9 8 (-1) 0) _ = _
  rw [(d9 n l hn h0 h1 il c hc).2]; rfl
 rw [f1, bindF_some, f2, bindF_some, f3, bindF_some, f4, bindF_some, f5, bindF_some, f6, bindF_some, f7, bindF_some, f8, bindF_some, f9, bindF_some, nF rfl]; rfl
end
def Both (T : List Nd) (i : Nat) : Prop := ∃ ga gb, NodeOk T i ga gb ∧ NodeR T i ga gb
theorem b_leaf {T : List Nd} {i : Nat} (h : (gn T i).1 = 1) (ha : (gn T i).2.1 = -1) (hb : (gn T i).2.2.1 = -1) : Both T i := ⟨_, _, ok_leaf T i h ha hb, r_leaf T i h ha hb⟩
theorem sweeps (T : List Nd) (root : Nat) (hr : root < T.length) (hl : T.length ≤ 512) (hg : ∀ i, i < T.length → GoodT (nd T i)) (h1 : prd (nd T root).1 = 1) (H : ∀ i, i ≤ root → Both T i) :
  ∃ g, f26 T (root : Int) = some (0, g, T) ∧ f27 T (root : Int) = some (0, g, T) ∧ g.length = root + 1 ∧ ∀ i, i ≤ root → GoodT (rd Z2 g (i : Int)) := by
 have C : ∀ i, ∃ ga gb, i ≤ root → NodeOk T i ga gb ∧ NodeR T i ga gb := fun i => by
  by_cases h : i ≤ root
  ·obtain ⟨ga, gb, h1⟩ := H i h; exact ⟨ga, gb, fun _ => h1⟩
  ·exact ⟨fun _ => noT, fun _ => noT, fun h1 => absurd h1 h⟩
 have C2 : ∃ GA GB : Nat → Tn → Tn, ∀ i, i ≤ root → NodeOk T i (GA i) (GB i) ∧ NodeR T i (GA i) (GB i) :=
  ⟨fun i => Classical.choose (C i), fun i => Classical.choose (Classical.choose_spec (C i)), fun i hi => Classical.choose_spec (Classical.choose_spec (C i)) hi⟩
 obtain ⟨GA, GB, C3⟩ := C2
 have K := keeps T GA GB root hr hg h1 (fun i hi => (C3 i hi).1) (root + 1) (Nat.le_refl _)
 exact ⟨_, sweepP T GA GB root hr hl hg h1 (fun i hi => (C3 i hi).1), sweepR T GA GB root hr hl hg h1 (fun i hi => (C3 i hi).1) (fun i hi => (C3 i hi).2), K.l1, fun i hi => (K.ok i hi).1⟩
theorem told (T : List Nd) (a b : Int) (hl : T.length ≤ 512) (hg : ∀ i, i < T.length → GoodT (nd T i)) :
  loopF (fun go (x : Int × List Nd) => f3_l4 (a, b, T) go x.1 x.2) fuelN ((0 : Int), T) = some (Sum.inr T) := by
 refine loop_for (B := fun go (x : Int × List Nd) => f3_l4 (a, b, T) go x.1 x.2) (fun k => ((k : Int), T)) T.length (Sum.inr T) ?_ ?_ (by omega)
 ·intro k hk go
  unfold f3_l4
  simp only
  have g : 0 ≤ (k : Int) ∧ (k : Int) < (T.length : Int) := by omega
  have hgk := hg k hk
  obtain ⟨_, _, l1, l2⟩ := good_len hgk.1
  rw [dT (by omega), cond_true, atP T k hk hgk, bindF_some]
  simp only
  have e1 : ((gn T k).1 != (rd (Ty.z (.p (.int .i64) (.p (.int .i64) (.p (.int .i64) (.p (.int .i64) (.p (.sl (.int .i64)) (.sl (.int .i64)))))))) T (k : Int)).1) = false := nF rfl
  have e2 : ((gn T k).2.1 != (rd (Ty.z (.p (.int .i64) (.p (.int .i64) (.p (.int .i64) (.p (.int .i64) (.p (.sl (.int .i64)) (.sl (.int .i64)))))))) T (k : Int)).2.1) = false := nF rfl
  have e3 : ((gn T k).2.2.1 != (rd (Ty.z (.p (.int .i64) (.p (.int .i64) (.p (.int .i64) (.p (.int .i64) (.p (.sl (.int .i64)) (.sl (.int .i64)))))))) T (k : Int)).2.2.1) = false := nF rfl
  have e4 : f25 ((nd T k).1, (nd T k).2) ((rd (Ty.z (.p (.int .i64) (.p (.int .i64) (.p (.int .i64) (.p (.int .i64) (.p (.sl (.int .i64)) (.sl (.int .i64)))))))) T (k : Int)).2.2.2.2.1, (rd (Ty.z (.p (.int .i64) (.p (.int .i64) (.p (.int .i64) (.p (.int .i64) (.p (.sl (.int .i64)) (.sl (.int .i64)))))))) T (k : Int)).2.2.2.2.2) = some true := by
   have := alikeR (nd T k) (nd T k) (by omega) (by omega)
   rw [dT rfl] at this; exact this
  rw [Bool.not_true, cond_false, guardF_pos g, e1, cond_false, guardF_pos g, e2, cond_false, guardF_pos g, e3, cond_false, guardF_pos g, e4, bindF_some, Bool.not_true, cond_false, wrap_i64 (by omega) (by omega)]
  rfl
 ·intro go
  unfold f3_l4
  simp only
  rw [dF (by omega), cond_false]
theorem close (w : List Int) (c kind : Int) (T : List Nd) (root : Nat) (h0 : 1 ≤ n) (h1 : n ≤ 60) (hn : l.length = n) (il : inI l) (hw : w.length ≤ 80) (k1 : 1 ≤ kind) (k3 : kind ≤ 3)
  (hP : f3_j2 w c kind (0, 0, t0 n l) = some ((root : Int), 0, T)) (hR : f23 (t0 n l) kind 0 w c = some ((root : Int), 0, T))
  (hr : root < T.length) (hl : T.length ≤ 512) (hg : ∀ i, i < T.length → GoodT (nd T i)) (hp : prd (nd T root).1 = 1) (H : ∀ i, i ≤ root → Both T i) : f3 l w c kind = some true := by
 have gl := gvc n h0 h1 hn il
 obtain ⟨g, s1, s2, s3, s4⟩ := sweeps T root hr hl hg hp H
 unfold f3 f3_j1
 rw [show f15 = some true by kernel_rfl, bindF_some, Bool.not_true, cond_false, dF (by omega), cond_false, dF (by omega), cond_false, dF (by omega), cond_false, dF (by omega), cond_false, dF (by omega), cond_false, bindF_some, sumF_inl,
  show f16 = some () from rfl, bindF_some, show f18 l = some (l, [(l.length : Int)]) from rfl, bindF_some]
 simp only
 have e1 : f17 [] ([(l.length : Int)], l) = some (0, 0, t0 n l) := by rw [hn]; exact leaf_ok [] (vc n l) (by decide) gl.1
 have e2 : f19 [] ([(l.length : Int)], l) = some (0, 0, t0 n l) := by rw [hn]; exact leafR [] (vc n l) (by decide) gl.1
 rw [e1, bindF_some, bindF_some, e2, bindF_some, hP, bindF_some]
 simp only
 rw [hR, bindF_some]
 have e3 : f3_j3 ((root : Int), 0, T) ((root : Int), 0, T) = some (Sum.inl ()) := by
  unfold f3_j3
  rw [nF rfl, cond_false, nF rfl]; rfl
 rw [e3, bindF_some, sumF_inl, nF rfl, cond_false]
 have e4 := told T (root : Int) 0 hl hg
 rw [e4, bindF_some, sumF_inr, s1, bindF_some]
 simp only
 rw [s2, bindF_some]
 have g2 : 0 ≤ (0 : Int) ∧ (0 : Int) < (g.length : Int) := by omega
 have gd := s4 0 (Nat.zero_le _)
 obtain ⟨_, _, l1, l2⟩ := good_len gd.1
 have e5 : f25 ((rd (Ty.z (.p (.sl (.int .i64)) (.sl (.int .i64)))) g 0).1, (rd (Ty.z (.p (.sl (.int .i64)) (.sl (.int .i64)))) g 0).2) ((rd (Ty.z (.p (.sl (.int .i64)) (.sl (.int .i64)))) g 0).1, (rd (Ty.z (.p (.sl (.int .i64)) (.sl (.int .i64)))) g 0).2) = some true := by
  have := alikeR (rd Z2 g ((0 : Nat) : Int)) (rd Z2 g ((0 : Nat) : Int)) (by omega) (by omega)
  rw [dT rfl] at this; exact this
 simp only
 rw [bT rfl, cond_true, bT rfl, cond_true, show f28 T = some ((T.length : Int), T) from rfl, bindF_some]
 simp only
 rw [bT rfl, cond_true, guardF_pos g2, guardF_pos g2, e5]; rfl
section
variable (hn : l.length = n) (h0 : 1 ≤ n) (h1 : n ≤ 60) (il : inI l)
include hn h0 h1 il
theorem goodS (w : List Int) (hw : w.length = n) (iw : inI w) : ∀ i, i < (s4 n l w).length → GoodT (nd (s4 n l w) i)
 | 0, _ => gvc n h0 h1 hn il
 | 1, _ => gvc n h0 h1 hw iw
 | 2, _ => gvc n h0 h1 (zl n _ _ _) (isub n _ _)
 | 3, _ => gvc n h0 h1 (zl n _ _ _) (imul n _ _)
 | 4, _ => gone _
 | k + 5, h => absurd (show k + 5 < 5 from h) (by omega)
theorem nodeS (w : List Int) (hw : w.length = n) (iw : inI w) : ∀ i, i ≤ 4 → Both (s4 n l w) i
 | 0, _ => b_leaf rfl rfl rfl
 | 1, _ => b_leaf rfl rfl rfl
 | 2, _ => ⟨_, _, ok_sub (s4 n l w) 2 0 1 rfl rfl rfl (by decide) (by decide) (by decide : 2 < 5) (fitn n h0 h1) (fitn n h0 h1), r_sub (s4 n l w) 2 0 1 rfl rfl rfl (by decide) (by decide) (by decide : 2 < 5) (fitn n h0 h1) (fitn n h0 h1)⟩
 | 3, _ => ⟨_, _, ok_mul (s4 n l w) 3 2 2 rfl rfl rfl (by decide) (by decide) (by decide : 3 < 5) (goodS n l hn h0 h1 il w hw iw 2 (by decide : 2 < 5)) (goodS n l hn h0 h1 il w hw iw 2 (by decide : 2 < 5)) (fitn n h0 h1) (fitn n h0 h1),
   r_mul (s4 n l w) 3 2 2 rfl rfl rfl (by decide) (by decide) (by decide : 3 < 5) (goodS n l hn h0 h1 il w hw iw 2 (by decide : 2 < 5)) (goodS n l hn h0 h1 il w hw iw 2 (by decide : 2 < 5)) (fitn n h0 h1) (fitn n h0 h1)⟩
 | 4, _ => ⟨_, _, ok_mean (s4 n l w) 4 3 rfl rfl rfl (by decide) (by decide : 4 < 5) (goodS n l hn h0 h1 il w hw iw 3 (by decide : 3 < 5)) rfl, r_mean (s4 n l w) 4 3 rfl rfl rfl (by decide) (by decide : 4 < 5) (goodS n l hn h0 h1 il w hw iw 3 (by decide : 3 < 5)) rfl⟩
 | k + 5, h => absurd h (by omega)
theorem goodZ (w : List Int) (hw : w.length = n) (iw : inI w) : ∀ i, i < (z4 n l w).length → GoodT (nd (z4 n l w) i)
 | 0, _ => gvc n h0 h1 hn il
 | 1, _ => gvc n h0 h1 hw iw
 | 2, _ => gvc n h0 h1 (zl n _ _ _) (isub n _ _)
 | 3, _ => gvc n h0 h1 (ml n _ _) (inb n h0 h1 4 (zl n _ _ _) (isub n _ _))
 | 4, _ => gone _
 | k + 5, h => absurd (show k + 5 < 5 from h) (by omega)
theorem nodeZ (w : List Int) (hw : w.length = n) (iw : inI w) : ∀ i, i ≤ 4 → Both (z4 n l w) i
 | 0, _ => b_leaf rfl rfl rfl
 | 1, _ => b_leaf rfl rfl rfl
 | 2, _ => ⟨_, _, ok_sub (z4 n l w) 2 0 1 rfl rfl rfl (by decide) (by decide) (by decide : 2 < 5) (fitn n h0 h1) (fitn n h0 h1), r_sub (z4 n l w) 2 0 1 rfl rfl rfl (by decide) (by decide) (by decide : 2 < 5) (fitn n h0 h1) (fitn n h0 h1)⟩
 | 3, _ => ⟨_, _, ok_bend (z4 n l w) 3 2 4 rfl rfl rfl rfl (by decide) (by decide) (by decide) (by decide : 3 < 5) (goodZ n l hn h0 h1 il w hw iw 2 (by decide : 2 < 5)) rfl,
   r_bend (z4 n l w) 3 2 4 rfl rfl rfl rfl (by decide) (by decide) (by decide) (by decide : 3 < 5) (goodZ n l hn h0 h1 il w hw iw 2 (by decide : 2 < 5)) rfl⟩
 | 4, _ => ⟨_, _, ok_mean (z4 n l w) 4 3 rfl rfl rfl (by decide) (by decide : 4 < 5) (goodZ n l hn h0 h1 il w hw iw 3 (by decide : 3 < 5)) rfl, r_mean (z4 n l w) 4 3 rfl rfl rfl (by decide) (by decide : 4 < 5) (goodZ n l hn h0 h1 il w hw iw 3 (by decide : 3 < 5)) rfl⟩
 | k + 5, h => absurd h (by omega)
theorem fito : Fits [] [(n : Int)] := (join_one (n : Int) (by omega) (by omega)).2.fb
theorem goodK (c : Nat) (hc : c < n) : ∀ i, i < (k9 n l c).length → GoodT (nd (k9 n l c) i)
 | 0, _ => gvc n h0 h1 hn il
 | 1, _ => gvc n h0 h1 (al_len n c) (al_in n c)
 | 2, _ => gvc n h0 h1 (bl_len n c) (bl_in n c)
 | 3, _ => kP n l hn h0 h1 il c hc
 | 4, _ => gone _
 | 5, _ => kE n l hn h0 h1 il c hc
 | 6, _ => kF n l hn h0 h1 il c hc
 | 7, _ => kR n l hn h0 h1 il c hc
 | 8, _ => kQ n l hn h0 h1 il c hc
 | 9, _ => gone _
 | k + 10, h => absurd (show k + 10 < 10 from h) (by omega)
theorem nk3 (c : Nat) (hc : c < n) : Both (k9 n l c) 3 := ⟨_, _, ok_mul (k9 n l c) 3 0 1 rfl rfl rfl (by decide) (by decide) (by decide : 3 < 10) (goodK n l hn h0 h1 il c hc 0 (by decide : 0 < 10)) (goodK n l hn h0 h1 il c hc 1 (by decide : 1 < 10)) (fitn n h0 h1) (fitn n h0 h1),
      r_mul (k9 n l c) 3 0 1 rfl rfl rfl (by decide) (by decide) (by decide : 3 < 10) (goodK n l hn h0 h1 il c hc 0 (by decide : 0 < 10)) (goodK n l hn h0 h1 il c hc 1 (by decide : 1 < 10)) (fitn n h0 h1) (fitn n h0 h1)⟩
theorem nk4 (c : Nat) (hc : c < n) : Both (k9 n l c) 4 := ⟨_, _, ok_all (k9 n l c) 4 3 rfl rfl rfl (by decide) (by decide : 4 < 10) (goodK n l hn h0 h1 il c hc 3 (by decide : 3 < 10)) rfl, r_all (k9 n l c) 4 3 rfl rfl rfl (by decide) (by decide : 4 < 10) (goodK n l hn h0 h1 il c hc 3 (by decide : 3 < 10)) rfl⟩
theorem nk5 (c : Nat) (hc : c < n) : Both (k9 n l c) 5 := ⟨_, _, ok_add (k9 n l c) 5 0 4 rfl rfl rfl (by decide) (by decide) (by decide : 5 < 10) (fitn n h0 h1) (fito n l hn h0 h1 il), r_add (k9 n l c) 5 0 4 rfl rfl rfl (by decide) (by decide) (by decide : 5 < 10) (fitn n h0 h1) (fito n l hn h0 h1 il)⟩
theorem nk6 (c : Nat) (hc : c < n) : Both (k9 n l c) 6 := ⟨_, _, ok_add (k9 n l c) 6 5 2 rfl rfl rfl (by decide) (by decide) (by decide : 6 < 10) (fitn n h0 h1) (fitn n h0 h1), r_add (k9 n l c) 6 5 2 rfl rfl rfl (by decide) (by decide) (by decide : 6 < 10) (fitn n h0 h1) (fitn n h0 h1)⟩
theorem nk7 (c : Nat) (hc : c < n) : Both (k9 n l c) 7 := ⟨_, _, ok_bend (k9 n l c) 7 6 1 rfl rfl rfl rfl (by decide) (by decide) (by decide) (by decide : 7 < 10) (goodK n l hn h0 h1 il c hc 6 (by decide : 6 < 10)) rfl,
      r_bend (k9 n l c) 7 6 1 rfl rfl rfl rfl (by decide) (by decide) (by decide) (by decide : 7 < 10) (goodK n l hn h0 h1 il c hc 6 (by decide : 6 < 10)) rfl⟩
theorem nk8 (c : Nat) (hc : c < n) : Both (k9 n l c) 8 := ⟨_, _, ok_mul (k9 n l c) 8 7 2 rfl rfl rfl (by decide) (by decide) (by decide : 8 < 10) (goodK n l hn h0 h1 il c hc 7 (by decide : 7 < 10)) (goodK n l hn h0 h1 il c hc 2 (by decide : 2 < 10)) (fitn n h0 h1) (fitn n h0 h1),
      r_mul (k9 n l c) 8 7 2 rfl rfl rfl (by decide) (by decide) (by decide : 8 < 10) (goodK n l hn h0 h1 il c hc 7 (by decide : 7 < 10)) (goodK n l hn h0 h1 il c hc 2 (by decide : 2 < 10)) (fitn n h0 h1) (fitn n h0 h1)⟩
theorem nk9 (c : Nat) (hc : c < n) : Both (k9 n l c) 9 := ⟨_, _, ok_all (k9 n l c) 9 8 rfl rfl rfl (by decide) (by decide : 9 < 10) (goodK n l hn h0 h1 il c hc 8 (by decide : 8 < 10)) rfl, r_all (k9 n l c) 9 8 rfl rfl rfl (by decide) (by decide : 9 < 10) (goodK n l hn h0 h1 il c hc 8 (by decide : 8 < 10)) rfl⟩
theorem nodeK (c : Nat) (hc : c < n) : ∀ i, i ≤ 9 → Both (k9 n l c) i
 | 0, _ => b_leaf rfl rfl rfl
 | 1, _ => b_leaf rfl rfl rfl
 | 2, _ => b_leaf rfl rfl rfl
 | 3, _ => nk3 n l hn h0 h1 il c hc
 | 4, _ => nk4 n l hn h0 h1 il c hc
 | 5, _ => nk5 n l hn h0 h1 il c hc
 | 6, _ => nk6 n l hn h0 h1 il c hc
 | 7, _ => nk7 n l hn h0 h1 il c hc
 | 8, _ => nk8 n l hn h0 h1 il c hc
 | 9, _ => nk9 n l hn h0 h1 il c hc
 | k + 10, h => absurd h (by omega)
end
theorem valT (hn : l.length = n) (h0 : 1 ≤ n) (h1 : n ≤ 60) (il : inI l) : f58 (t0 n l) 0 = some (true, [(n : Int)], l, t0 n l) := by
 have g := gvc n h0 h1 hn il
 have e := valueP (t0 n l) 0 (fun i hi => by obtain rfl : i = 0 := by { have : i < 1 := hi; omega }; exact g)
 rw [dT (in0 n l)] at e
 exact e
theorem mayBad (w : List Int) (hn : l.length = n) (h0 : 1 ≤ n) (h1 : n ≤ 60) (il : inI l) (hw : w.length ≠ n) : f63 (t0 n l) 0 w = some (1, t0 n l) := by
 unfold f63
 rw [valT n l hn h0 h1 il, bindF_some]
 unfold f63_j1
 simp only
 rw [Bool.not_true, cond_false, nT (by omega), bindF_some, cond_true]
theorem lossBad (w : List Int) (c kind : Int) (hn : l.length = n) (hw : w.length ≠ n) (hk : kind ≠ 3) : f23 (t0 n l) kind 0 w c = some (0, 1, t0 n l) := by
 have hj1 : f23_j1 (t0 n l) kind 0 w = some (Sum.inr ()) := by
  unfold f23_j1
  have e : ¬ (w.length : Int) = (List.length (rd (Ty.z (.p (.int .i64) (.p (.int .i64) (.p (.int .i64) (.p (.int .i64) (.p (.sl (.int .i64)) (.sl (.int .i64)))))))) (t0 n l) 0).2.2.2.2.2 : Int) := by
   show ¬ (w.length : Int) = (l.length : Int); omega
  rw [dF (by decide), cond_false, dF (no0 n l), cond_false, nT hk, cond_true, guardF_pos (in0 n l), nT e]; rfl
 unfold f23
 rw [hj1, bindF_some, sumF_inr]
theorem hingeBad (c : Int) (hn : l.length = n) (h0 : 1 ≤ n) (h1 : n ≤ 60) (il : inI l) (hc : ¬ (0 ≤ c ∧ c < n)) : f22 (t0 n l) 0 c = some (0, 4, t0 n l) := by
 unfold f22
 rw [valT n l hn h0 h1 il, bindF_some]
 have hj : f22_j1 c (true, [(n : Int)], l, t0 n l) = some (Sum.inr 4) := by
  unfold f22_j1
  simp only
  rw [Bool.not_true, cond_false, nF (show (([(n : Int)].length : Nat) : Int) = 1 from rfl), cond_false]
  by_cases h : c < 0
  ·rw [dT h]; rfl
  ·rw [dF h, cond_false, dT (by omega)]; rfl
 rw [hj, bindF_some, sumF_inr]
theorem hingeBadR (w : List Int) (c : Int) (hc : ¬ (0 ≤ c ∧ c < n)) : f23 (t0 n l) 3 0 w c = some (0, 4, t0 n l) := by
 have hj1 : f23_j1 (t0 n l) 3 0 w = some (Sum.inl ()) := by
  unfold f23_j1
  rw [dF (by decide), cond_false, dF (no0 n l), cond_false, nF rfl]; rfl
 have hj2 : f23_j2 (t0 n l) 3 0 c = some (Sum.inr ()) := by
  unfold f23_j2
  have g2 : 0 ≤ (0 : Int) ∧ (0 : Int) < (List.length (rd (Ty.z (.p (.int .i64) (.p (.int .i64) (.p (.int .i64) (.p (.int .i64) (.p (.sl (.int .i64)) (.sl (.int .i64)))))))) (t0 n l) 0).2.2.2.2.1 : Int) := by rw [dim0 n l]; decide
  rw [nF (dim0 n l), cond_false, bT rfl, cond_true]
  by_cases h : c < 0
  ·rw [dT h]; rfl
  ·have g3 : c ≥ rd (0 : Int) (rd (Ty.z (.p (.int .i64) (.p (.int .i64) (.p (.int .i64) (.p (.int .i64) (.p (.sl (.int .i64)) (.sl (.int .i64)))))))) (t0 n l) 0).2.2.2.2.1 0 := by
    show c ≥ (n : Int); omega
   rw [dF h, cond_false, guardF_pos g2, dT g3]; rfl
 unfold f23
 rw [hj1, bindF_some, sumF_inl, guardF_pos (in0 n l), hj2, bindF_some, sumF_inr]
theorem closeBad (w : List Int) (c kind e : Int) (he : e ≠ 0) (h0 : 1 ≤ n) (h1 : n ≤ 60) (hn : l.length = n) (il : inI l) (hw : w.length ≤ 80) (k1 : 1 ≤ kind) (k3 : kind ≤ 3)
  (hP : f3_j2 w c kind (0, 0, t0 n l) = some (0, e, t0 n l)) (hR : f23 (t0 n l) kind 0 w c = some (0, e, t0 n l)) : f3 l w c kind = some true := by
 have gl := gvc n h0 h1 hn il
 unfold f3 f3_j1
 rw [show f15 = some true by kernel_rfl, bindF_some, Bool.not_true, cond_false, dF (by omega), cond_false, dF (by omega), cond_false, dF (by omega), cond_false, dF (by omega), cond_false, dF (by omega), cond_false, bindF_some, sumF_inl,
  show f16 = some () from rfl, bindF_some, show f18 l = some (l, [(l.length : Int)]) from rfl, bindF_some]
 simp only
 have e1 : f17 [] ([(l.length : Int)], l) = some (0, 0, t0 n l) := by rw [hn]; exact leaf_ok [] (vc n l) (by decide) gl.1
 have e2 : f19 [] ([(l.length : Int)], l) = some (0, 0, t0 n l) := by rw [hn]; exact leafR [] (vc n l) (by decide) gl.1
 rw [e1, bindF_some, bindF_some, e2, bindF_some, hP, bindF_some]
 simp only
 rw [hR, bindF_some]
 have e3 : f3_j3 (0, e, t0 n l) (0, e, t0 n l) = some (Sum.inl ()) := by
  unfold f3_j3
  rw [nF rfl, cond_false, nF rfl]; rfl
 rw [e3, bindF_some, sumF_inl, nT he, cond_true]
theorem outside (w : List Int) (c kind : Int) (h : ¬ (1 ≤ l.length ∧ l.length ≤ 60 ∧ w.length ≤ 80 ∧ 1 ≤ kind ∧ kind ≤ 3)) : f3 l w c kind = some true := by
 unfold f3 f3_j1
 rw [show f15 = some true by kernel_rfl, bindF_some, Bool.not_true, cond_false]
 by_cases a1 : (l.length : Int) < 1
 ·rw [dT a1]; rfl
 by_cases a2 : (l.length : Int) > 60
 ·rw [dF a1, dT a2]; rfl
 by_cases a3 : (w.length : Int) > 80
 ·rw [dF a1, dF a2, dT a3]; rfl
 by_cases a4 : kind < 1
 ·rw [dF a1, dF a2, dF a3, dT a4]; rfl
 by_cases a5 : kind > 3
 ·rw [dF a1, dF a2, dF a3, dF a4, dT a5]; rfl
 exact absurd ⟨by omega, by omega, by omega, by omega, by omega⟩ h
theorem j2_1 (w : List Int) (c : Int) : f3_j2 w c 1 (0, 0, t0 n l) = bindF (f20 (t0 n l) 0 w) fun r => some (r.1, r.2.1, r.2.2) := rfl
theorem j2_2 (w : List Int) (c : Int) : f3_j2 w c 2 (0, 0, t0 n l) = bindF (f21 (t0 n l) 0 w) fun r => some (r.1, r.2.1, r.2.2) := rfl
theorem j2_3 (w : List Int) (c : Int) : f3_j2 w c 3 (0, 0, t0 n l) = bindF (f22 (t0 n l) 0 c) fun r => some (r.1, r.2.1, r.2.2) := rfl
theorem plainSays (w : List Int) (c kind : Int) (il : inI l) (iw : inI w) : f3 l w c kind = some true := by
 by_cases h : 1 ≤ l.length ∧ l.length ≤ 60 ∧ w.length ≤ 80 ∧ 1 ≤ kind ∧ kind ≤ 3
 ·obtain ⟨h0, h1, hw, k1, k3⟩ := h
  rcases (show kind = 1 ∨ kind = 2 ∨ kind = 3 by omega) with rfl | rfl | rfl
  ·by_cases e : w.length = l.length
   ·have r := lossR l.length l rfl h0 h1 il w e iw 1 c (.inl rfl)
    rw [if_pos rfl] at r
    exact close l.length l w c 1 (s4 l.length l w) 4 h0 h1 rfl il hw (by decide) (by decide) (by rw [j2_1, squareP l.length l rfl h0 h1 il w e iw]; rfl) r (by decide : 4 < 5) (by decide : 5 ≤ 512) (goodS _ l rfl h0 h1 il w e iw) rfl (nodeS _ l rfl h0 h1 il w e iw)
   ·exact closeBad l.length l w c 1 1 (by decide) h0 h1 rfl il hw (by decide) (by decide) (by
     rw [j2_1]; unfold f20
     rw [mayBad l.length l w rfl h0 h1 il e, bindF_some, nT (show ¬ ((1 : Int), t0 l.length l).1 = 0 from (by decide : ¬ (1 : Int) = 0))]; rfl) (lossBad l.length l w c 1 rfl e (by decide))
  ·by_cases e : w.length = l.length
   ·have r := lossR l.length l rfl h0 h1 il w e iw 2 c (.inr rfl)
    rw [if_neg (by decide)] at r
    exact close l.length l w c 2 (z4 l.length l w) 4 h0 h1 rfl il hw (by decide) (by decide) (by rw [j2_2, sizeP l.length l rfl h0 h1 il w e iw]; rfl) r (by decide : 4 < 5) (by decide : 5 ≤ 512) (goodZ _ l rfl h0 h1 il w e iw) rfl (nodeZ _ l rfl h0 h1 il w e iw)
   ·exact closeBad l.length l w c 2 1 (by decide) h0 h1 rfl il hw (by decide) (by decide) (by
     rw [j2_2]; unfold f21
     rw [mayBad l.length l w rfl h0 h1 il e, bindF_some, nT (show ¬ ((1 : Int), t0 l.length l).1 = 0 from (by decide : ¬ (1 : Int) = 0))]; rfl) (lossBad l.length l w c 2 rfl e (by decide))
  ·by_cases e : 0 ≤ c ∧ c < (l.length : Int)
   ·obtain ⟨m, rfl⟩ := Int.eq_ofNat_of_zero_le e.1
    have hm : m < l.length := by omega
    exact close l.length l w m 3 (k9 l.length l m) 9 h0 h1 rfl il hw (by decide) (by decide) (by rw [j2_3, hingeP l.length l rfl h0 h1 il m hm]; rfl) (hingeR l.length l rfl h0 h1 il m hm w) (by decide : 9 < 10) (by decide : 10 ≤ 512) (goodK _ l rfl h0 h1 il m hm) rfl (nodeK _ l rfl h0 h1 il m hm)
   ·exact closeBad l.length l w c 3 4 (by decide) h0 h1 rfl il hw (by decide) (by decide) (by rw [j2_3, hingeBad l.length l c rfl h0 h1 il e]; rfl) (hingeBadR l.length l w c e)
 ·exact outside l w c kind h
end
end Go.Proofs.LossSays

