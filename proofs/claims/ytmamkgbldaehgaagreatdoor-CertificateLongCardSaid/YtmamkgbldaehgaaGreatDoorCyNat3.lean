/- math/bits.Div32, Len32; natural.DivSmall, MulAdd, Uint64, BitLen. -/
import Derived.Test.YtmamkgbldaehgaaGreatDoorCyNat2
namespace Go.Cy
open Go Go.Proofs
set_option maxRecDepth 20000

theorem div32_ok {m : Mem} {x y d : Nat} (hx : x < d) (hy : y < 4294967296) (hd : d < 4294967296) : Pure Tryz.prog 240 #[.int .u32 x, .int .u32 y, .int .u32 d] m fun v _ => v = two ((x * 4294967296 + y) / d) ((x * 4294967296 + y) % d) := by
  have e1 : (x * 4294967296 + y) / d < 4294967296 := Nat.div_lt_of_lt_mul (by have : d * 4294967296 ≥ (x + 1) * 4294967296 := Nat.mul_le_mul_right _ hx; omega)
  have e2 : (x * 4294967296 + y) % d < d := Nat.mod_lt _ (by omega)
  have e3 := or_hi64 (a := x) (b := y) (by omega) (by omega)
  have e4 := shl_32_64 (a := x) (by omega)
  generalize hz : x * 4294967296 + y = z at *
  generalize hu : x * 4294967296 = u at *
  refine enterp Tryz.func240 rfl rfl ?_
  intro K hm0 hks
  refine w_seq ?_
  refine w_region ?_
  refine wl_val rfl rfl rfl (x_assign rfl) ?_
  refine wl_val rfl rfl rfl (x_assign rfl) ?_
  refine wl_nil ?_
  refine at_seq ?_
  refine w_seq ?_
  refine w_seq ?_
  refine w_region ?_
  refine wl_val rfl rfl rfl (x_move rfl) ?_
  refine wl_val rfl rfl rfl (x_neq rfl rfl) ?_
  refine wl_val rfl rfl rfl (x_move rfl) ?_
  refine wl_splitp (t := 11) rfl (fun h0 => ?_) (fun h0 => ?_)
  · skip
    refine wl_val rfl rfl rfl (x_move rfl) ?_
    refine wl_val rfl rfl rfl (x_move rfl) ?_
    refine wl_val rfl rfl rfl (x_leq rfl rfl) ?_
    refine wl_val rfl rfl rfl (x_pick_t rfl rfl) ?_
    refine wl_nil ?_
    refine at_seq ?_
    refine w_if rfl (fun h1 => ?_) (fun h1 => ?_)
    · skip
      omega
    · skip
      refine w_skip ?_
      refine at_seq ?_
      refine w_seq ?_
      refine w_region ?_
      refine wl_val rfl rfl rfl (x_move rfl) ?_
      refine wl_val rfl rfl rfl (x_conv Tryz.underlying51 Tryz.underlying111 rfl (u64n (r := x) (by omega) (by omega))) ?_
      refine wl_val rfl rfl rfl (x_shl rfl rfl (by omega) (e4)) ?_
      refine wl_val rfl rfl rfl (x_move rfl) ?_
      refine wl_val rfl rfl rfl (x_conv Tryz.underlying51 Tryz.underlying111 rfl (u64n (r := y) (by omega) (by omega))) ?_
      refine wl_val rfl rfl rfl (x_or rfl rfl (e3)) ?_
      refine wl_val rfl rfl rfl (x_assign rfl) ?_
      refine wl_nil ?_
      refine at_seq ?_
      refine w_seq ?_
      refine dr_start [(6, [])] [[], [], [1], [0, 2], [3], [], [], [6], [5, 7], [8], [4]] ?_
      refine dr_val rfl rfl (fun m' hm' => ds_val rfl (x_move rfl)) ?_
      refine dr_val rfl rfl (fun m' hm' => ds_val rfl (x_move rfl)) ?_
      refine dr_val rfl rfl (fun m' hm' => ds_val rfl (x_conv Tryz.underlying51 Tryz.underlying111 rfl (u64n (r := d) (by omega) (by omega)))) ?_
      refine dr_val rfl rfl (fun m' hm' => ds_val rfl (x_quo rfl rfl (by omega) (u64n (r := z / d) (by rw [Int.ofNat_tdiv]) (by omega)))) ?_
      refine dr_val rfl rfl (fun m' hm' => ds_val rfl (x_conv Tryz.underlying111 Tryz.underlying51 rfl (u32n (r := z / d) (by omega) (by omega)))) ?_
      refine dr_val rfl rfl (fun m' hm' => ds_val rfl (x_move rfl)) ?_
      refine dr_val rfl rfl (fun m' hm' => ds_val rfl (x_move rfl)) ?_
      refine dr_val rfl rfl (fun m' hm' => ds_val rfl (x_conv Tryz.underlying51 Tryz.underlying111 rfl (u64n (r := d) (by omega) (by omega)))) ?_
      refine dr_val rfl rfl (fun m' hm' => ds_val rfl (x_rem rfl rfl (by omega) ((Int.ofNat_tmod _ _).symm))) ?_
      refine dr_val rfl rfl (fun m' hm' => ds_val rfl (x_conv Tryz.underlying111 Tryz.underlying51 rfl (u32n (r := z % d) (by omega) (by omega)))) ?_
      refine dr_val rfl rfl (fun m' hm' => ds_val rfl (x_assign rfl)) ?_
      refine dr_done (k := 11) Tryz.mixed rfl rfl rfl fun m1 hm_m1 => ?_
      show WL _ _ _ _ _ _ _ _ _
      refine wl_val rfl rfl rfl (x_assign rfl) ?_
      refine wl_nil ?_
      refine at_seq ?_
      refine w_ret ?_
      refine at_endp (res2 rfl rfl rfl) ?_
      rfl
  · skip
    omega

theorem DivSmall_ok {m : Mem} {v : Value} {x d : Nat} (h : Nt m v x) (hd : d < 4294967296) (h0 : 0 < d) : Pure Tryz.prog 211 #[v, .int .u32 d] m fun r m' => ∃ q, r = .tuple #[q, .int .u32 (x % d : Nat), .bool true] ∧ Nn m' q (x / d) := by
  refine enterp Tryz.func211 rfl rfl ?_
  intro K hm0 hks
  refine w_seq ?_
  refine w_region ?_
  refine wl_val rfl rfl rfl (x_assign rfl) ?_
  refine wl_val rfl rfl rfl (x_assign rfl) ?_
  refine wl_val rfl rfl rfl (x_assign rfl) ?_
  refine wl_nil ?_
  refine at_seq ?_
  refine w_seq ?_
  refine w_seq ?_
  refine w_region ?_
  refine wl_val rfl rfl rfl (x_move rfl) ?_
  refine wl_val rfl rfl rfl (x_eql rfl rfl) ?_
  refine wl_nil ?_
  refine at_seq ?_
  refine w_if rfl (fun h1 => ?_) (fun h1 => ?_)
  · skip
    omega
  · skip
    refine w_skip ?_
    refine at_seq ?_
    refine w_seq ?_
    refine w_region ?_
    refine wl_val rfl rfl rfl (x_move rfl) ?_
    refine wl_callp rfl rfl rfl Tryz.c151 (trim_ok h) ?_; rintro v1 m1 hm1 ⟨ds, ⟨hb, hl, a, cap, rfl, hc, hr⟩, rfl, hn⟩
    refine wl_val rfl rfl rfl (x_assign rfl) ?_
    refine wl_nil ?_
    refine at_seq ?_
    refine w_seq ?_
    refine w_region ?_
    refine wl_val rfl rfl rfl (x_move rfl) ?_
    refine wl_val rfl rfl rfl (x_len Tryz.underlying47 rfl rfl) ?_
    refine wl_make (N := ds.length) rfl rfl Tryz.underlying47 Tryz.size51 Tryz.bytes51 Tryz.zero51 rfl rfl rfl (by omega) (by omega) (by omega) (by omega) ?_; intro b16
    refine wl_val rfl rfl rfl (x_assign rfl) ?_
    refine wl_nil ?_
    refine at_seq ?_
    refine w_seq ?_
    refine w_region ?_
    refine wl_val rfl rfl rfl (x_assign rfl) ?_
    refine wl_nil ?_
    refine at_seq ?_
    refine w_seq ?_
    refine w_seq ?_
    refine w_region ?_
    refine wl_val rfl rfl rfl (x_move rfl) ?_
    refine wl_val rfl rfl rfl (x_len Tryz.underlying47 rfl rfl) ?_
    refine wl_val rfl rfl rfl (x_sub rfl rfl (wrap_i64 (by omega) (by omega))) ?_
    refine wl_val rfl rfl rfl (x_assign rfl) ?_
    refine wl_nil ?_
    refine at_seq ?_
    refine w_block ?_
    refine w_loop (fun k m' H' env' => ∃ zs rest, k ≤ ds.length ∧ m1.le m' ∧ H' = [(b16, cl 51 (dsv zs))] ∧ zs.length = ds.length ∧ okd zs ∧ rest < d ∧ nv (ds.drop k) = d * nv (zs.drop k) + rest ∧ env' = [(0, .slice a ds.length cap), (1, .int .u32 d), (7, .slice (some ⟨b16, 0, none⟩) ds.length ds.length), (8, .int .u32 rest), (9, .int .i64 ((k : Int) - 1))]) ds.length [(0, .slice a ds.length cap), (1, .int .u32 d), (7, .slice (some ⟨b16, 0, none⟩) ds.length ds.length), (8, .int .u32 0), (9, .int .i64 ((ds.length : Int) - 1))] ⟨List.replicate ds.length 0, 0, Nat.le_refl _, Mem.le.refl _, by rw [dsv_zero], by simp, fun e he => by simp at he; omega, h0, by simp [nv], rfl⟩ ⟨rfl, rfl, rfl, rfl, rfl, trivial⟩ ?_
    rintro k m2 H' env' ⟨zs, rest, hk, hm2, rfl, hzl, hzo, hrest, hinv, rfl⟩
    refine w_seq ?_
    refine w_seq ?_
    refine w_region ?_
    refine wl_val rfl rfl rfl (x_move rfl) ?_
    refine wl_val rfl rfl rfl (x_geq rfl rfl) ?_
    refine wl_nil ?_
    refine at_seq ?_
    refine w_if rfl (fun h2 => ?_) (fun h2 => ?_)
    · skip
      have hk1 : k - 1 < ds.length := by omega
      obtain ⟨ba, oa, rfl, hra⟩ := hr (by omega)
      refine w_skip ?_
      refine at_seq ?_
      refine w_seq ?_
      refine w_block ?_
      refine w_region ?_
      refine wl_val rfl rfl rfl (x_move rfl) ?_
      refine wl_val rfl rfl rfl (x_move rfl) ?_
      refine wl_val rfl rfl rfl (x_move rfl) ?_
      refine wl_val rfl rfl rfl (x_move rfl) ?_
      refine wl_val rfl rfl rfl (x_move rfl) ?_
      refine wl_val rfl rfl rfl (x_index Tryz.underlying47 Tryz.size51 rfl rfl (j := (k - 1)) (by omega) (by omega)) ?_
      refine wl_val rfl rfl rfl (x_load Tryz.plain51 rfl (((hra.up hm2).heap.nth (k - 1) (dsv_get hk1) (by omega)))) ?_
      refine wl_val rfl rfl rfl (x_move rfl) ?_
      refine wl_callp rfl rfl rfl Tryz.c240 (div32_ok hrest (hb _ (List.getElem_mem _)) hd) ?_; rintro v3 m3 hm3 rfl
      refine wl_val rfl rfl rfl (x_move rfl) ?_
      refine wl_val rfl rfl rfl (x_extract rfl rfl) ?_
      refine wl_val rfl rfl rfl (x_extract rfl rfl) ?_
      refine wl_val rfl rfl rfl (x_index Tryz.underlying47 Tryz.size51 rfl rfl (j := (k - 1)) (by omega) (by omega)) ?_
      refine wl_storeAs (xs' := dsv (zs.set (k - 1) ((rest * 4294967296 + ds[k - 1]) / d))) rfl Tryz.size51 rfl rfl rfl (by simp [dsv]; omega) (dsv_setAs (by omega) (by omega)) ?_
      refine wl_val rfl rfl rfl (x_assign rfl) ?_
      refine wl_nil ?_
      refine at_block_normal ?_
      refine at_seq ?_
      refine w_region ?_
      refine wl_val rfl rfl rfl (x_move rfl) ?_
      refine wl_val rfl rfl rfl (x_sub rfl rfl (wrap_i64 (by omega) (by omega))) ?_
      refine wl_val rfl rfl rfl (x_assign rfl) ?_
      refine wl_nil ?_
      exact at_again (k - 1) [(0, .slice (some ⟨ba, oa, none⟩) ds.length cap), (1, .int .u32 d), (7, .slice (some ⟨b16, 0, none⟩) ds.length ds.length), (8, .int .u32 ((rest * 4294967296 + ds[k - 1]) % d : Nat)), (9, .int .i64 (((k - 1 : Nat) : Int) - 1))] (by omega) ⟨zs.set (k - 1) ((rest * 4294967296 + ds[k - 1]) / d), (rest * 4294967296 + ds[k - 1]) % d, by omega, hm2.trans hm3, rfl, by simp [hzl], okd_set hzo _ (divStep_lt hrest (hb _ (List.getElem_mem _))), Nat.mod_lt _ h0, divStep hk1 (by omega) (by omega) hinv, rfl⟩ ⟨rfl, rfl, rfl, rfl, lk_int rfl (by omega), trivial⟩
    · skip
      obtain rfl : k = 0 := by omega
      simp at hinv
      refine w_exit ?_
      refine at_then_exit ?_
      refine at_then_exit ?_
      refine at_block_hit ?_
      refine at_seq ?_
      refine w_seq ?_
      refine w_region ?_
      refine wl_val rfl rfl rfl (x_move rfl) ?_
      refine wl_freeze ?_; intro hfz
      refine wl_callp rfl rfl rfl Tryz.c151 (trim_ok ⟨zs, hzl ▸ Dg.made (Mem.add_at _ _ _) hzo (by omega), rfl⟩) ?_; rintro v4 m4 hm4 hv4
      refine wl_val rfl rfl rfl (x_move rfl) ?_
      refine wl_val rfl rfl rfl (x_assign rfl) ?_
      refine wl_val rfl rfl rfl (x_assign rfl) ?_
      refine wl_val rfl rfl rfl (x_assign rfl) ?_
      refine wl_nil ?_
      refine at_seq ?_
      refine w_ret ?_
      refine at_endp (res3 rfl rfl rfl rfl) ?_
      have e1 : nv ds / d = nv zs := by rw [hinv, Nat.mul_comm, Nat.add_comm, Nat.add_mul_div_right _ _ h0, Nat.div_eq_of_lt hrest]; omega
      have e2 : nv ds % d = rest := by rw [hinv, Nat.mul_add_mod, Nat.mod_eq_of_lt hrest]
      rw [e1, e2]
      exact ⟨_, rfl, hv4⟩
end Go.Cy

