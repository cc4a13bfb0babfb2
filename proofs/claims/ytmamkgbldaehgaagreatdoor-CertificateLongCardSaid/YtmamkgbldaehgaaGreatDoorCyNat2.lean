/- natural.Cmp, Add, Sub. -/
import Derived.Test.YtmamkgbldaehgaaGreatDoorCyNat
namespace Go.Cy
open Go Go.Proofs

/-- -1, 0 or 1. -/
def cmpZ (a b : Nat) : Int := if a < b then -1 else if b < a then 1 else 0

theorem nv_cmp_top {xs ys : List Nat} (hx : okd xs) {k : Nat} (h1 : k < xs.length) (h2 : k < ys.length) (hl : xs.length = ys.length) (he : nv (xs.drop (k + 1)) = nv (ys.drop (k + 1))) (hlt : xs[k] < ys[k]) : nv xs < nv ys := by
  rw [nv_split xs (k + 1) (by omega), nv_split ys (k + 1) (by omega), he, nv_take_succ h1, nv_take_succ h2]
  have g1 := nv_lt (okd_take hx k)
  have e1 : (xs.take k).length = k := by simp; omega
  rw [e1] at g1
  have : 4294967296 ^ k * xs[k] + 4294967296 ^ k ≤ 4294967296 ^ k * ys[k] := by
    rw [← Nat.mul_succ]; exact Nat.mul_le_mul_left _ hlt
  omega
theorem nv_cmp_len {xs ys : List Nat} (hx : okd xs) (ny : norm ys) (h : xs.length < ys.length) : nv xs < nv ys := by
  have g1 := nv_lt hx
  have g2 := nv_pos ny (fun e => by subst e; simp at h)
  have : 4294967296 ^ xs.length ≤ 4294967296 ^ (ys.length - 1) := Nat.pow_le_pow_right (by omega) (by omega)
  omega

theorem nv_drop_pred {xs ys : List Nat} {k : Nat} (h1 : k - 1 < xs.length) (h2 : k - 1 < ys.length) (hk : 0 < k) (he : xs[k - 1] = ys[k - 1]) (h : nv (xs.drop k) = nv (ys.drop k)) : nv (xs.drop (k - 1)) = nv (ys.drop (k - 1)) := by
  rw [List.drop_eq_getElem_cons h1, List.drop_eq_getElem_cons h2]
  simp only [nv, he, show k - 1 + 1 = k by omega, h]

theorem Cmp_ok {m : Mem} {v u : Value} {x y : Nat} (hv : Nt m v x) (hu : Nt m u y) : Pure Tryz.prog 106 #[v, u] m fun r _ => r = .int .i64 (cmpZ x y) := by
  refine enterp Tryz.func106 rfl rfl ?_
  intro K hm0 hks
  refine w_seq ?_
  refine w_region ?_
  refine wl_val rfl rfl rfl (x_assign rfl) ?_
  refine wl_nil ?_
  refine at_seq ?_
  refine w_seq ?_
  refine w_region ?_
  refine wl_val rfl rfl rfl (x_move rfl) ?_
  refine wl_callp rfl rfl rfl Tryz.c151 (trim_ok hv) ?_; rintro v1 m1 hm1 ⟨xs, ⟨hxo, hxl, a, acap, rfl, hac, har⟩, rfl, hxn⟩
  refine wl_val rfl rfl rfl (x_move rfl) ?_
  refine wl_callp rfl rfl rfl Tryz.c151 (trim_ok (hu.up hm1)) ?_; rintro u1 m2 hm2 ⟨ys, ⟨hyo, hyl, b, bcap, rfl, hbc, hbr⟩, rfl, hyn⟩
  refine wl_val rfl rfl rfl (x_assign rfl) ?_
  refine wl_val rfl rfl rfl (x_assign rfl) ?_
  refine wl_nil ?_
  refine at_seq ?_
  refine w_seq ?_
  refine w_block ?_
  refine w_seq ?_
  refine w_region ?_
  refine wl_val rfl rfl rfl (x_move rfl) ?_
  refine wl_val rfl rfl rfl (x_len Tryz.underlying47 rfl rfl) ?_
  refine wl_val rfl rfl rfl (x_move rfl) ?_
  refine wl_val rfl rfl rfl (x_len Tryz.underlying47 rfl rfl) ?_
  refine wl_val rfl rfl rfl (x_lss rfl rfl) ?_
  refine wl_val rfl rfl rfl (x_assign rfl) ?_
  refine wl_nil ?_
  refine at_seq ?_
  refine w_if rfl (fun h1 => ?_) (fun h1 => ?_)
  · skip
    refine w_seq ?_
    refine w_region ?_
    refine wl_val rfl rfl rfl (x_assign rfl) ?_
    refine wl_nil ?_
    refine at_seq ?_
    refine w_ret ?_
    refine at_block_ret ?_
    refine at_then_ret ?_
    refine at_endp (res1 rfl rfl) ?_
    have := nv_cmp_len hxo hyn (by omega)
    simp [cmpZ, this]
  · skip
    refine w_seq ?_
    refine w_region ?_
    refine wl_val rfl rfl rfl (x_move rfl) ?_
    refine wl_val rfl rfl rfl (x_len Tryz.underlying47 rfl rfl) ?_
    refine wl_val rfl rfl rfl (x_move rfl) ?_
    refine wl_val rfl rfl rfl (x_len Tryz.underlying47 rfl rfl) ?_
    refine wl_val rfl rfl rfl (x_gtr rfl rfl) ?_
    refine wl_val rfl rfl rfl (x_assign rfl) ?_
    refine wl_nil ?_
    refine at_seq ?_
    refine w_if rfl (fun h2 => ?_) (fun h2 => ?_)
    · skip
      refine w_seq ?_
      refine w_region ?_
      refine wl_val rfl rfl rfl (x_assign rfl) ?_
      refine wl_nil ?_
      refine at_seq ?_
      refine w_ret ?_
      refine at_block_ret ?_
      refine at_then_ret ?_
      refine at_endp (res1 rfl rfl) ?_
      have := nv_cmp_len hyo hxn (by omega)
      simp [cmpZ, this, show ¬ nv xs < nv ys by omega]
    · skip
      have hl : xs.length = ys.length := by omega
      refine w_skip ?_
      refine at_block_normal ?_
      refine at_seq ?_
      refine w_seq ?_
      refine w_seq ?_
      refine w_region ?_
      refine wl_val rfl rfl rfl (x_move rfl) ?_
      refine wl_val rfl rfl rfl (x_len Tryz.underlying47 rfl rfl) ?_
      refine wl_val rfl rfl rfl (x_sub rfl rfl (wrap_i64 (by omega) (by omega))) ?_
      refine wl_val rfl rfl rfl (x_assign rfl) ?_
      refine wl_nil ?_
      refine at_seq ?_
      refine w_block ?_
      refine w_loop (fun k m' H' env' => k ≤ xs.length ∧ m2.le m' ∧ H' = [] ∧ env' = [(0, .slice a xs.length acap), (1, .slice b ys.length bcap), (5, .int .i64 ((k : Int) - 1))] ∧ nv (xs.drop k) = nv (ys.drop k)) xs.length [(0, .slice a xs.length acap), (1, .slice b ys.length bcap), (5, .int .i64 ((xs.length : Int) - 1))] ⟨Nat.le_refl _, Mem.le.refl _, rfl, rfl, by rw [List.drop_eq_nil_of_le (Nat.le_refl _), List.drop_eq_nil_of_le (by omega)]⟩ ⟨rfl, rfl, rfl, trivial⟩ ?_
      rintro k m3 H' env' ⟨hk, hm3, rfl, rfl, he⟩
      refine w_seq ?_
      refine w_seq ?_
      refine w_region ?_
      refine wl_val rfl rfl rfl (x_move rfl) ?_
      refine wl_val rfl rfl rfl (x_geq rfl rfl) ?_
      refine wl_nil ?_
      refine at_seq ?_
      refine w_if rfl (fun h3 => ?_) (fun h3 => ?_)
      · skip
        have hk1 : k - 1 < xs.length := by omega
        have hk2 : k - 1 < ys.length := by omega
        have he' : nv (xs.drop (k - 1 + 1)) = nv (ys.drop (k - 1 + 1)) := by rw [show k - 1 + 1 = k by omega]; exact he
        obtain ⟨ba, oa, rfl, hra⟩ := har (by omega)
        obtain ⟨bb, ob, rfl, hrb⟩ := hbr (by omega)
        replace hra := hra.up (hm2.trans hm3)
        replace hrb := hrb.up hm3
        refine w_skip ?_
        refine at_seq ?_
        refine w_seq ?_
        refine w_block ?_
        refine w_block ?_
        refine w_seq ?_
        refine dr_start [] [[], [], [0, 1], [2], [], [], [4, 5], [6]] ?_
        refine dr_val rfl rfl (fun m' hm' => ds_val rfl (x_move rfl)) ?_
        refine dr_val rfl rfl (fun m' hm' => ds_val rfl (x_move rfl)) ?_
        refine dr_val rfl rfl (fun m' hm' => ds_val rfl (x_index Tryz.underlying47 Tryz.size51 rfl rfl (j := (k - 1)) (by omega) (by omega))) ?_
        refine dr_val rfl rfl (fun m' hm' => ds_val rfl (x_load Tryz.plain51 rfl (((hra.up hm').nth (k - 1) (dsv_get hk1) (by omega))))) ?_
        refine dr_val rfl rfl (fun m' hm' => ds_val rfl (x_move rfl)) ?_
        refine dr_val rfl rfl (fun m' hm' => ds_val rfl (x_move rfl)) ?_
        refine dr_val rfl rfl (fun m' hm' => ds_val rfl (x_index Tryz.underlying47 Tryz.size51 rfl rfl (j := (k - 1)) (by omega) (by omega))) ?_
        refine dr_val rfl rfl (fun m' hm' => ds_val rfl (x_load Tryz.plain51 rfl (((hrb.up hm').nth (k - 1) (dsv_get hk2) (by omega))))) ?_
        refine dr_done (k := 8) Tryz.mixed rfl rfl rfl fun m4 hm_m4 => ?_
        show WL _ _ _ _ _ _ _ _ _
        refine wl_val rfl rfl rfl (x_lss rfl rfl) ?_
        refine wl_val rfl rfl rfl (x_assign rfl) ?_
        refine wl_nil ?_
        refine at_seq ?_
        refine w_if rfl (fun h4 => ?_) (fun h4 => ?_)
        · skip
          refine w_seq ?_
          refine w_region ?_
          refine wl_val rfl rfl rfl (x_assign rfl) ?_
          refine wl_nil ?_
          refine at_seq ?_
          refine w_ret ?_
          refine at_block_ret ?_
          refine at_block_ret ?_
          refine at_then_ret ?_
          refine at_then_ret ?_
          refine at_block_ret ?_
          refine at_then_ret ?_
          refine at_endp (res1 rfl rfl) ?_
          have := nv_cmp_top hxo hk1 hk2 hl he' (by omega)
          simp [cmpZ, this]
        · skip
          refine w_seq ?_
          refine dr_start [] [[], [], [0, 1], [2], [], [], [4, 5], [6]] ?_
          refine dr_val rfl rfl (fun m' hm' => ds_val rfl (x_move rfl)) ?_
          refine dr_val rfl rfl (fun m' hm' => ds_val rfl (x_move rfl)) ?_
          refine dr_val rfl rfl (fun m' hm' => ds_val rfl (x_index Tryz.underlying47 Tryz.size51 rfl rfl (j := (k - 1)) (by omega) (by omega))) ?_
          refine dr_val rfl rfl (fun m' hm' => ds_val rfl (x_load Tryz.plain51 rfl (((hra.up (hm_m4.trans hm')).nth (k - 1) (dsv_get hk1) (by omega))))) ?_
          refine dr_val rfl rfl (fun m' hm' => ds_val rfl (x_move rfl)) ?_
          refine dr_val rfl rfl (fun m' hm' => ds_val rfl (x_move rfl)) ?_
          refine dr_val rfl rfl (fun m' hm' => ds_val rfl (x_index Tryz.underlying47 Tryz.size51 rfl rfl (j := (k - 1)) (by omega) (by omega))) ?_
          refine dr_val rfl rfl (fun m' hm' => ds_val rfl (x_load Tryz.plain51 rfl (((hrb.up (hm_m4.trans hm')).nth (k - 1) (dsv_get hk2) (by omega))))) ?_
          refine dr_done (k := 8) Tryz.mixed rfl rfl rfl fun m5 hm_m5 => ?_
          show WL _ _ _ _ _ _ _ _ _
          refine wl_val rfl rfl rfl (x_gtr rfl rfl) ?_
          refine wl_val rfl rfl rfl (x_assign rfl) ?_
          refine wl_nil ?_
          refine at_seq ?_
          refine w_if rfl (fun h5 => ?_) (fun h5 => ?_)
          · skip
            refine w_seq ?_
            refine w_region ?_
            refine wl_val rfl rfl rfl (x_assign rfl) ?_
            refine wl_nil ?_
            refine at_seq ?_
            refine w_ret ?_
            refine at_block_ret ?_
            refine at_block_ret ?_
            refine at_then_ret ?_
            refine at_then_ret ?_
            refine at_block_ret ?_
            refine at_then_ret ?_
            refine at_endp (res1 rfl rfl) ?_
            have := nv_cmp_top hyo hk2 hk1 hl.symm he'.symm (by omega)
            simp [cmpZ, this, show ¬ nv xs < nv ys by omega]
          · skip
            refine w_skip ?_
            refine at_block_normal ?_
            refine at_block_normal ?_
            refine at_seq ?_
            refine w_region ?_
            refine wl_val rfl rfl rfl (x_move rfl) ?_
            refine wl_val rfl rfl rfl (x_sub rfl rfl (wrap_i64 (by omega) (by omega))) ?_
            refine wl_val rfl rfl rfl (x_assign rfl) ?_
            refine wl_nil ?_
            exact at_again (k - 1) [(0, .slice (some ⟨ba, oa, none⟩) xs.length acap), (1, .slice (some ⟨bb, ob, none⟩) ys.length bcap), (5, .int .i64 (((k - 1 : Nat) : Int) - 1))] (by omega) ⟨by omega, hm3.trans (hm_m4.trans hm_m5), rfl, rfl, nv_drop_pred hk1 hk2 (by omega) (by omega) he⟩ ⟨rfl, rfl, lk_int rfl (by omega), trivial⟩
      · skip
        obtain rfl : k = 0 := by omega
        refine w_exit ?_
        refine at_then_exit ?_
        refine at_then_exit ?_
        refine at_block_hit ?_
        refine at_seq ?_
        refine w_seq ?_
        refine w_region ?_
        refine wl_val rfl rfl rfl (x_assign rfl) ?_
        refine wl_nil ?_
        refine at_seq ?_
        refine w_ret ?_
        refine at_endp (res1 rfl rfl) ?_
        simp at he
        simp [cmpZ, he]
end Go.Cy

