/- natural.product and Mul where one factor is short; integer.Mul, Cmp, Same. -/
import Derived.Test.YtmamkgbldaehgaaGreatDoorCyInt
namespace Go.Cy
open Go Go.Proofs
set_option maxRecDepth 20000

theorem product_ok {m : Mem} {v u : Value} {xs ys : List Nat} (hv : Dg m v xs) (hu : Dg m u ys) (hl : xs.length + ys.length ≤ 35184372088832) (hs : xs.length < 48 ∨ ys.length < 48) :
    Pure Tryz.prog 202 #[v, u] m fun r m' => ∃ zs, Dg m' r zs ∧ zs.length = xs.length + ys.length ∧ nv zs = nv xs * nv ys := by
  have hv' := hv
  have hu' := hu
  obtain ⟨hxo, hxl, a, acap, rfl, hac, har⟩ := hv
  obtain ⟨hyo, hyl, b, bcap, rfl, hbc, hbr⟩ := hu
  refine enterp Tryz.func202 rfl rfl ?_
  intro K hm0 hks
  refine w_seq ?_
  refine w_region ?_
  refine wl_val rfl rfl rfl (x_assign rfl) ?_
  refine wl_nil ?_
  refine at_seq ?_
  refine w_seq ?_
  refine w_seq ?_
  refine w_region ?_
  refine wl_val rfl rfl rfl (x_move rfl) ?_
  refine wl_val rfl rfl rfl (x_len Tryz.underlying47 rfl rfl) ?_
  refine wl_val rfl rfl rfl (x_move rfl) ?_
  refine wl_val rfl rfl rfl (x_len Tryz.underlying47 rfl rfl) ?_
  refine wl_val rfl rfl rfl (x_lss rfl rfl) ?_
  refine wl_nil ?_
  refine at_seq ?_
  refine w_if rfl (fun h1 => ?_) (fun h1 => ?_)
  · skip
    refine w_region ?_
    refine wl_val rfl rfl rfl (x_move rfl) ?_
    refine wl_val rfl rfl rfl (x_move rfl) ?_
    refine wl_val rfl rfl rfl (x_assign rfl) ?_
    refine wl_val rfl rfl rfl (x_assign rfl) ?_
    refine wl_nil ?_
    refine at_seq ?_
    refine w_seq ?_
    refine w_seq ?_
    refine w_region ?_
    refine wl_val rfl rfl rfl (x_move rfl) ?_
    refine wl_val rfl rfl rfl (x_len Tryz.underlying47 rfl rfl) ?_
    refine wl_val rfl rfl rfl (x_lss rfl rfl) ?_
    refine wl_nil ?_
    refine at_seq ?_
    refine w_if rfl (fun h2 => ?_) (fun h2 => ?_)
    · skip
      refine w_seq ?_
      refine w_region ?_
      refine wl_val rfl rfl rfl (x_move rfl) ?_
      refine wl_val rfl rfl rfl (x_move rfl) ?_
      refine wl_callp rfl rfl rfl Tryz.c233 (schoolbook_ok hv' hu' hl) ?_; rintro v1 m1 hm1 ⟨zs, h3, h4, h5⟩
      refine wl_val rfl rfl rfl (x_assign rfl) ?_
      refine wl_nil ?_
      refine at_seq ?_
      refine w_ret ?_
      refine at_then_ret ?_
      refine at_endp (res1 rfl rfl) ?_
      exact ⟨zs, h3, h4, h5⟩
    · skip
      omega
  · skip
    refine w_skip ?_
    refine at_seq ?_
    refine w_seq ?_
    refine w_seq ?_
    refine w_region ?_
    refine wl_val rfl rfl rfl (x_move rfl) ?_
    refine wl_val rfl rfl rfl (x_len Tryz.underlying47 rfl rfl) ?_
    refine wl_val rfl rfl rfl (x_lss rfl rfl) ?_
    refine wl_nil ?_
    refine at_seq ?_
    refine w_if rfl (fun h2 => ?_) (fun h2 => ?_)
    · skip
      refine w_seq ?_
      refine w_region ?_
      refine wl_val rfl rfl rfl (x_move rfl) ?_
      refine wl_val rfl rfl rfl (x_move rfl) ?_
      refine wl_callp rfl rfl rfl Tryz.c233 (schoolbook_ok hu' hv' (by omega)) ?_; rintro v1 m1 hm1 ⟨zs, h3, h4, h5⟩
      refine wl_val rfl rfl rfl (x_assign rfl) ?_
      refine wl_nil ?_
      refine at_seq ?_
      refine w_ret ?_
      refine at_then_ret ?_
      refine at_endp (res1 rfl rfl) ?_
      exact ⟨zs, h3, by omega, by rw [h5, Nat.mul_comm]⟩
    · skip
      omega

theorem Mul_ok {m : Mem} {v u : Value} {x y : Nat} (hv : Nt m v x) (hu : Nt m u y) (hs : dlen x < 48 ∨ dlen y < 48) (hl : dlen x + dlen y ≤ 35184372088832) :
    Pure Tryz.prog 167 #[v, u] m fun r m' => Nn m' r (x * y) := by
  refine enterp Tryz.func167 rfl rfl ?_
  intro K hm0 hks
  refine w_seq ?_
  refine w_region ?_
  refine wl_val rfl rfl rfl (x_assign rfl) ?_
  refine wl_nil ?_
  refine at_seq ?_
  refine w_seq ?_
  refine w_region ?_
  refine wl_val rfl rfl rfl (x_move rfl) ?_
  refine wl_callp rfl rfl rfl Tryz.c151 (trim_ok hv) ?_; rintro v1 m1 hm1 ⟨xs, hx, rfl, hxn⟩
  refine wl_val rfl rfl rfl (x_move rfl) ?_
  refine wl_callp rfl rfl rfl Tryz.c151 (trim_ok (hu.up hm1)) ?_; rintro v2 m2 hm2 ⟨ys, hy, rfl, hyn⟩
  refine wl_callp rfl rfl rfl Tryz.c202 (product_ok (hx.up hm2) hy (by rw [dlen_nv hx.1 hxn, dlen_nv hy.1 hyn]; exact hl) (by rw [dlen_nv hx.1 hxn, dlen_nv hy.1 hyn]; exact hs)) ?_; rintro v3 m3 hm3 ⟨zs, hz, hzl, hzv⟩
  refine wl_callp rfl rfl rfl Tryz.c151 (trim_ok ⟨zs, hz, hzv⟩) ?_; rintro v4 m4 hm4 hv4
  refine wl_val rfl rfl rfl (x_assign rfl) ?_
  refine wl_nil ?_
  refine at_seq ?_
  refine w_ret ?_
  refine at_endp (res1 rfl rfl) ?_
  exact hv4

/-- -1, 0 or 1. -/
def cmpI (a b : Int) : Int := if a < b then -1 else if b < a then 1 else 0

theorem sign_cases (x : Int) : (x < 0 ∧ x.sign = -1) ∨ (x = 0 ∧ x.sign = 0) ∨ (0 < x ∧ x.sign = 1) := by
  rcases Int.lt_trichotomy x 0 with h | h | h
  · exact .inl ⟨h, Int.sign_eq_neg_one_of_neg h⟩
  · subst h; exact .inr (.inl ⟨rfl, rfl⟩)
  · exact .inr (.inr ⟨h, Int.sign_eq_one_of_pos h⟩)
theorem cmpI_lt {x y : Int} (h : x.sign < y.sign) : cmpI x y = -1 := by
  have := sign_cases x; have := sign_cases y
  rw [cmpI, if_pos (by omega)]
theorem cmpI_gt {x y : Int} (h : y.sign < x.sign) : cmpI x y = 1 := by
  have := sign_cases x; have := sign_cases y
  rw [cmpI, if_neg (by omega), if_pos (by omega)]
theorem sg_cases (n : Bool) (a : Nat) : (n = true ∧ sg n a = -(a : Int)) ∨ (n = false ∧ sg n a = a) := by cases n <;> simp [sg]
theorem cmpI_neg {n1 n2 : Bool} {a1 a2 : Nat} (h1 : ¬ (sg n1 a1).sign < (sg n2 a2).sign) (h2 : ¬ (sg n2 a2).sign < (sg n1 a1).sign) (h : (sg n1 a1).sign < 0) : cmpI (sg n1 a1) (sg n2 a2) = cmpZ a2 a1 := by
  have := sign_cases (sg n1 a1); have := sign_cases (sg n2 a2); have := sg_cases n1 a1; have := sg_cases n2 a2
  unfold cmpI cmpZ
  repeat' split
  all_goals omega
theorem cmpI_pos {n1 n2 : Bool} {a1 a2 : Nat} (h1 : ¬ (sg n1 a1).sign < (sg n2 a2).sign) (h2 : ¬ (sg n2 a2).sign < (sg n1 a1).sign) (h : ¬ (sg n1 a1).sign < 0) : cmpI (sg n1 a1) (sg n2 a2) = cmpZ a1 a2 := by
  have := sign_cases (sg n1 a1); have := sign_cases (sg n2 a2); have := sg_cases n1 a1; have := sg_cases n2 a2
  unfold cmpI cmpZ
  repeat' split
  all_goals omega

theorem Cmp_ok' {m : Mem} {v u : Value} {x y : Int} (hv : In m v x) (hu : In m u y) : Pure Tryz.prog 65 #[v, u] m fun r _ => r = .int .i64 (cmpI x y) := by
  obtain ⟨n1, s1, a1, rfl, hs1, rfl⟩ := hv
  obtain ⟨n2, s2, a2, rfl, hs2, rfl⟩ := hu
  refine enterp Tryz.func65 rfl rfl ?_
  intro K hm0 hks
  refine w_seq ?_
  refine w_region ?_
  refine wl_box rfl rfl rfl rfl ?_; intro b2
  refine wl_box rfl rfl rfl rfl ?_; intro b3
  refine wl_val rfl rfl rfl (x_assign rfl) ?_
  refine wl_nil ?_
  refine at_seq ?_
  refine w_seq ?_
  refine dr_start [] [[], [0], []] ?_
  refine dr_val rfl rfl (fun m' hm' => ds_val rfl (x_loads Tryz.agg49 (by exact Tryz.size49) rfl (rowH0 (.tail _ (.head _))))) ?_
  refine dr_val rfl rfl (fun m' hm' => ds_callc rfl rfl Tryz.c40 (Sign_ok (In.of (hs1.up hm')))) ?_
  refine dr_val rfl rfl (fun m' hm' => ds_val rfl (x_loads Tryz.agg49 (by exact Tryz.size49) rfl (rowH0 (.head _)))) ?_
  refine dr_done (k := 3) Tryz.mixed rfl rfl rfl fun m1 hm_m1 => ?_
  show WL _ _ _ _ _ _ _ _ _
  refine wl_callp rfl rfl rfl Tryz.c40 (Sign_ok (In.of (hs2.up hm_m1))) ?_; rintro v2 m2 hm2 rfl
  refine wl_val rfl rfl rfl (x_assign rfl) ?_
  refine wl_val rfl rfl rfl (x_assign rfl) ?_
  refine wl_nil ?_
  refine at_seq ?_
  refine w_seq ?_
  refine w_block ?_
  refine w_seq ?_
  refine w_region ?_
  refine wl_val rfl rfl rfl (x_move rfl) ?_
  refine wl_val rfl rfl rfl (x_move rfl) ?_
  refine wl_val rfl rfl rfl (x_lss rfl rfl) ?_
  refine wl_val rfl rfl rfl (x_assign rfl) ?_
  refine wl_nil ?_
  refine at_seq ?_
  refine w_if rfl (fun h1 => ?_) (fun h1 => ?_)
  · skip
    refine w_seq ?_
    refine w_region ?_
    refine wl_val rfl rfl rfl (x_assign rfl) ?_
    refine wl_nil ?_
    refine at_seq ?_
    refine w_ret ?_
    refine at_block_ret ?_
    refine at_then_ret ?_
    refine at_endp (res1 rfl rfl) ?_
    rw [cmpI_lt h1]
  · skip
    refine w_seq ?_
    refine w_region ?_
    refine wl_val rfl rfl rfl (x_move rfl) ?_
    refine wl_val rfl rfl rfl (x_move rfl) ?_
    refine wl_val rfl rfl rfl (x_gtr rfl rfl) ?_
    refine wl_val rfl rfl rfl (x_assign rfl) ?_
    refine wl_nil ?_
    refine at_seq ?_
    refine w_if rfl (fun h2 => ?_) (fun h2 => ?_)
    · skip
      refine w_seq ?_
      refine w_region ?_
      refine wl_val rfl rfl rfl (x_assign rfl) ?_
      refine wl_nil ?_
      refine at_seq ?_
      refine w_ret ?_
      refine at_block_ret ?_
      refine at_then_ret ?_
      refine at_endp (res1 rfl rfl) ?_
      rw [cmpI_gt h2]
    · skip
      refine w_seq ?_
      refine w_region ?_
      refine wl_val rfl rfl rfl (x_move rfl) ?_
      refine wl_val rfl rfl rfl (x_lss rfl rfl) ?_
      refine wl_val rfl rfl rfl (x_assign rfl) ?_
      refine wl_nil ?_
      refine at_seq ?_
      refine w_if rfl (fun h3 => ?_) (fun h3 => ?_)
      · skip
        refine w_seq ?_
        refine w_region ?_
        refine wl_val rfl rfl rfl (x_fieldAddr Tryz.underlying49 rfl Tryz.size47 rfl) ?_
        refine wl_val rfl rfl rfl (x_load Tryz.plain47 rfl (rowH1 (.head _) rfl)) ?_
        refine wl_val rfl rfl rfl (x_fieldAddr Tryz.underlying49 rfl Tryz.size47 rfl) ?_
        refine wl_val rfl rfl rfl (x_load Tryz.plain47 rfl (rowH1 (.tail _ (.head _)) rfl)) ?_
        refine wl_callp rfl rfl rfl Tryz.c106 (Cmp_ok (hs2.up (hm_m1.trans hm2)) (hs1.up (hm_m1.trans hm2))) ?_; rintro v3 m3 hm3 rfl
        refine wl_val rfl rfl rfl (x_assign rfl) ?_
        refine wl_nil ?_
        refine at_seq ?_
        refine w_ret ?_
        refine at_block_ret ?_
        refine at_then_ret ?_
        refine at_endp (res1 rfl rfl) ?_
        rw [cmpI_neg h1 h2 h3]
      · skip
        refine w_skip ?_
        refine at_block_normal ?_
        refine at_seq ?_
        refine w_seq ?_
        refine w_region ?_
        refine wl_val rfl rfl rfl (x_fieldAddr Tryz.underlying49 rfl Tryz.size47 rfl) ?_
        refine wl_val rfl rfl rfl (x_load Tryz.plain47 rfl (rowH1 (.tail _ (.head _)) rfl)) ?_
        refine wl_val rfl rfl rfl (x_fieldAddr Tryz.underlying49 rfl Tryz.size47 rfl) ?_
        refine wl_val rfl rfl rfl (x_load Tryz.plain47 rfl (rowH1 (.head _) rfl)) ?_
        refine wl_callp rfl rfl rfl Tryz.c106 (Cmp_ok (hs1.up (hm_m1.trans hm2)) (hs2.up (hm_m1.trans hm2))) ?_; rintro v3 m3 hm3 rfl
        refine wl_val rfl rfl rfl (x_assign rfl) ?_
        refine wl_nil ?_
        refine at_seq ?_
        refine w_ret ?_
        refine at_endp (res1 rfl rfl) ?_
        rw [cmpI_pos h1 h2 h3]

theorem Same_ok {m : Mem} {v u : Value} {x y : Int} (hv : In m v x) (hu : In m u y) : Pure Tryz.prog 29 #[v, u] m fun r _ => r = .bool (decide (x = y)) := by
  have hv' := hv
  have hu' := hu
  obtain ⟨n1, s1, a1, rfl, hs1, e1⟩ := hv
  obtain ⟨n2, s2, a2, rfl, hs2, e2⟩ := hu
  refine enterp Tryz.func29 rfl rfl ?_
  intro K hm0 hks
  refine w_seq ?_
  refine w_region ?_
  refine wl_box rfl rfl rfl rfl ?_; intro b2
  refine wl_box rfl rfl rfl rfl ?_; intro b3
  refine wl_val rfl rfl rfl (x_assign rfl) ?_
  refine wl_nil ?_
  refine at_seq ?_
  refine w_seq ?_
  refine w_region ?_
  refine wl_val rfl rfl rfl (x_loads Tryz.agg49 (by exact Tryz.size49) rfl (rowH0 (.tail _ (.head _)))) ?_
  refine wl_val rfl rfl rfl (x_loads Tryz.agg49 (by exact Tryz.size49) rfl (rowH0 (.head _))) ?_
  refine wl_callp rfl rfl rfl Tryz.c65 (Cmp_ok' hv' hu') ?_; rintro v3 m3 hm3 rfl
  refine wl_val rfl rfl rfl (x_eql rfl rfl) ?_
  refine wl_val rfl rfl rfl (x_assign rfl) ?_
  refine wl_nil ?_
  refine at_seq ?_
  refine w_ret ?_
  refine at_endp (res1 rfl rfl) ?_
  rw [show decide (cmpI x y = 0) = decide (x = y) by rw [decide_eq_decide]; unfold cmpI; repeat' split <;> omega]

theorem Mul_ok' {m : Mem} {v u : Value} {x y : Int} (hv : In m v x) (hu : In m u y) (hs : dlen x.natAbs < 48 ∨ dlen y.natAbs < 48) (hl : dlen x.natAbs + dlen y.natAbs ≤ 35184372088832) : Pure Tryz.prog 118 #[v, u] m fun r m' => Ic m' r (x * y) := by
  obtain ⟨n1, s1, a1, rfl, hs1, rfl⟩ := hv
  obtain ⟨n2, s2, a2, rfl, hs2, rfl⟩ := hu
  have e1 : (sg n1 a1).natAbs = a1 := by cases n1 <;> simp [sg]
  have e2 : (sg n2 a2).natAbs = a2 := by cases n2 <;> simp [sg]
  rw [e1, e2] at hs hl
  refine enterp Tryz.func118 rfl rfl ?_
  intro K hm0 hks
  refine w_seq ?_
  refine w_region ?_
  refine wl_box rfl rfl rfl rfl ?_; intro b2
  refine wl_box rfl rfl rfl rfl ?_; intro b3
  refine wl_alloc rfl rfl Tryz.zero49 ?_; intro b4
  refine wl_nil ?_
  refine at_seq ?_
  refine w_seq ?_
  refine dr_start [] [[], [0], [], [2], [1, 3], [], [5], [], [7], [6, 8]] ?_
  refine dr_val rfl rfl (fun m' hm' => ds_val rfl (x_fieldAddr Tryz.underlying49 rfl Tryz.size4 rfl)) ?_
  refine dr_val rfl rfl (fun m' hm' => ds_val rfl (x_load Tryz.plain4 rfl (rowH1 (.tail _ (.tail _ (.head _))) rfl))) ?_
  refine dr_val rfl rfl (fun m' hm' => ds_val rfl (x_fieldAddr Tryz.underlying49 rfl Tryz.size4 rfl)) ?_
  refine dr_val rfl rfl (fun m' hm' => ds_val rfl (x_load Tryz.plain4 rfl (rowH1 (.tail _ (.head _)) rfl))) ?_
  refine dr_val rfl rfl (fun m' hm' => ds_val rfl (x_neqB Tryz.underlying4 rfl rfl)) ?_
  refine dr_val rfl rfl (fun m' hm' => ds_val rfl (x_fieldAddr Tryz.underlying49 rfl Tryz.size47 rfl)) ?_
  refine dr_val rfl rfl (fun m' hm' => ds_val rfl (x_load Tryz.plain47 rfl (rowH1 (.tail _ (.tail _ (.head _))) rfl))) ?_
  refine dr_val rfl rfl (fun m' hm' => ds_val rfl (x_fieldAddr Tryz.underlying49 rfl Tryz.size47 rfl)) ?_
  refine dr_val rfl rfl (fun m' hm' => ds_val rfl (x_load Tryz.plain47 rfl (rowH1 (.tail _ (.head _)) rfl))) ?_
  refine dr_op (.ret (fun r m' => Nn m' r (a1 * a2)) (fun _ _ _ hm h => h.up hm)) rfl rfl (fun m' hm' => ds_call rfl rfl Tryz.c167 (Mul_ok (hs1.up hm') (hs2.up hm') hs hl)) ?_
  refine dr_done (k := 10) Tryz.mixed rfl rfl rfl fun m1 hm_m1 v9 h9 => ?_
  show WL _ _ _ _ _ _ _ _ _
  refine wl_callp rfl rfl rfl Tryz.c104 (signed_ok h9) ?_; rintro v3 m3 hm3 ⟨neg3, s3, a3, rfl, h2, h3, h4⟩
  obtain ⟨ad3, l3, c3, rfl⟩ := h2.slice
  refine wl_storeAll rfl (by exact Tryz.size49) rfl rfl (by simp [Value.oneCell']) rfl ?_
  refine wl_nil ?_
  refine at_seq ?_
  refine w_ret ?_
  refine at_endp (resA rfl ⟨⟨_, _, _, rfl, rowH0 (.head _), .inr ⟨Tryz.agg49, Tryz.size49, rfl⟩⟩, trivial⟩) ?_
  refine ⟨neg3, _, a3, rfl, h2, ?_, h4⟩
  rw [← h3]
  cases n1 <;> cases n2 <;> simp [sg, Int.mul_neg, Int.neg_mul]
end Go.Cy

