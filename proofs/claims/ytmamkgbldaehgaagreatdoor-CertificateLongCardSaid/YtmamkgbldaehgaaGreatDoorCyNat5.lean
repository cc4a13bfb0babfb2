/- math/bits.Len32; natural.BitLen, Uint64. -/
import Derived.Test.YtmamkgbldaehgaaGreatDoorCyInt2
namespace Go.Cy
open Go Go.Proofs
set_option maxRecDepth 20000

theorem u8n {p : Int} {r : Nat} (h : p = r) (h2 : r ≤ 255) : IntKind.u8.wrap p = (r : Int) := by rw [wrap_u8_in (by omega) (by omega)]; exact h
theorem len_two {ds : List Nat} (h : ds.length = 2) : ∃ d e, ds = [d, e] := by
  match ds, h with
  | [d, e], _ => exact ⟨d, e, rfl⟩

theorem len32_ok {m : Mem} {x : Nat} (hx : x < 4294967296) : Pure Tryz.prog 176 #[.int .u32 x] m fun v _ => v = .int .i64 (blen x) := by
  have b0 : ∀ y, y < 256 → blen y ≤ 8 := fun y h => blen_le.2 (by simpa using h)
  refine enterp Tryz.func176 rfl rfl ?_
  intro K hm0 hks
  refine w_seq ?_
  refine w_region ?_
  refine wl_val rfl rfl rfl (x_assign rfl) ?_
  refine wl_nil ?_
  refine at_seq ?_
  refine w_seq ?_
  refine w_seq ?_
  refine w_region ?_
  refine wl_val rfl rfl rfl (x_move rfl) ?_
  refine wl_val rfl rfl rfl (x_geq rfl rfl) ?_
  refine wl_nil ?_
  refine at_seq ?_
  refine w_if rfl (fun h1 => ?_) (fun h1 => ?_)
  · skip
    have e1 := blen_shr (n := x) (k := 16) (by omega)
    refine w_seq ?_
    refine w_region ?_
    refine wl_val rfl rfl rfl (x_move rfl) ?_
    refine wl_val rfl rfl rfl (x_shr rfl rfl (by omega) (shr_nat x 16 32 (by omega))) ?_
    refine wl_val rfl rfl rfl (x_assign rfl) ?_
    refine wl_nil ?_
    refine at_seq ?_
    refine w_region ?_
    refine wl_val rfl rfl rfl (x_assign rfl) ?_
    refine wl_nil ?_
    refine at_seq ?_
    refine w_seq ?_
    refine w_seq ?_
    refine w_region ?_
    refine wl_val rfl rfl rfl (x_move rfl) ?_
    refine wl_val rfl rfl rfl (x_geq rfl rfl) ?_
    refine wl_nil ?_
    refine at_seq ?_
    refine w_if rfl (fun h2 => ?_) (fun h2 => ?_)
    · skip
      have e2 := blen_shr (n := x / 2 ^ 16) (k := 8) (by omega)
      refine w_seq ?_
      refine w_region ?_
      refine wl_val rfl rfl rfl (x_move rfl) ?_
      refine wl_val rfl rfl rfl (x_shr rfl rfl (by omega) (shr_nat (x / 2 ^ 16) 8 32 (by omega))) ?_
      refine wl_val rfl rfl rfl (x_assign rfl) ?_
      refine wl_nil ?_
      refine at_seq ?_
      refine w_region ?_
      refine wl_val rfl rfl rfl (x_move rfl) ?_
      refine wl_val rfl rfl rfl (x_add rfl rfl (wrap_i64 (by omega) (by omega))) ?_
      refine wl_val rfl rfl rfl (x_assign rfl) ?_
      refine wl_nil ?_
      refine at_seq ?_
      refine w_seq ?_
      refine w_region ?_
      refine wl_val rfl rfl rfl (x_move rfl) ?_
      refine wl_val rfl rfl rfl (x_move rfl) ?_
      refine wl_val rfl rfl rfl (x_conv Tryz.underlying51 Tryz.underlying5 rfl (u8n (r := x / 2 ^ 16 / 2 ^ 8) (by omega) (by omega))) ?_
      refine wl_val rfl rfl rfl (x_indexLen Tryz.underlying9 rfl rfl rfl (by omega) (by decide +kernel)) ?_
      have := b0 (x / 2 ^ 16 / 2 ^ 8) (by omega)
      refine wl_val rfl rfl rfl (x_conv Tryz.underlying5 Tryz.underlying3 rfl (wrap_i64 (by omega) (by omega))) ?_
      refine wl_val rfl rfl rfl (x_add rfl rfl (wrap_i64 (by omega) (by omega))) ?_
      refine wl_val rfl rfl rfl (x_assign rfl) ?_
      refine wl_nil ?_
      refine at_seq ?_
      refine w_ret ?_
      refine at_endp (res1 rfl rfl) ?_
      simp only [Value.int.injEq, true_and]
      omega
    · skip
      refine w_skip ?_
      refine at_seq ?_
      refine w_seq ?_
      refine w_region ?_
      refine wl_val rfl rfl rfl (x_move rfl) ?_
      refine wl_val rfl rfl rfl (x_move rfl) ?_
      refine wl_val rfl rfl rfl (x_conv Tryz.underlying51 Tryz.underlying5 rfl (u8n (r := x / 2 ^ 16) (by omega) (by omega))) ?_
      refine wl_val rfl rfl rfl (x_indexLen Tryz.underlying9 rfl rfl rfl (by omega) (by decide +kernel)) ?_
      have := b0 (x / 2 ^ 16) (by omega)
      refine wl_val rfl rfl rfl (x_conv Tryz.underlying5 Tryz.underlying3 rfl (wrap_i64 (by omega) (by omega))) ?_
      refine wl_val rfl rfl rfl (x_add rfl rfl (wrap_i64 (by omega) (by omega))) ?_
      refine wl_val rfl rfl rfl (x_assign rfl) ?_
      refine wl_nil ?_
      refine at_seq ?_
      refine w_ret ?_
      refine at_endp (res1 rfl rfl) ?_
      simp only [Value.int.injEq, true_and]
      omega
  · skip
    refine w_skip ?_
    refine at_seq ?_
    refine w_seq ?_
    refine w_seq ?_
    refine w_region ?_
    refine wl_val rfl rfl rfl (x_move rfl) ?_
    refine wl_val rfl rfl rfl (x_geq rfl rfl) ?_
    refine wl_nil ?_
    refine at_seq ?_
    refine w_if rfl (fun h2 => ?_) (fun h2 => ?_)
    · skip
      have e2 := blen_shr (n := x) (k := 8) (by omega)
      refine w_seq ?_
      refine w_region ?_
      refine wl_val rfl rfl rfl (x_move rfl) ?_
      refine wl_val rfl rfl rfl (x_shr rfl rfl (by omega) (shr_nat x 8 32 (by omega))) ?_
      refine wl_val rfl rfl rfl (x_assign rfl) ?_
      refine wl_nil ?_
      refine at_seq ?_
      refine w_region ?_
      refine wl_val rfl rfl rfl (x_move rfl) ?_
      refine wl_val rfl rfl rfl (x_add rfl rfl (wrap_i64 (by omega) (by omega))) ?_
      refine wl_val rfl rfl rfl (x_assign rfl) ?_
      refine wl_nil ?_
      refine at_seq ?_
      refine w_seq ?_
      refine w_region ?_
      refine wl_val rfl rfl rfl (x_move rfl) ?_
      refine wl_val rfl rfl rfl (x_move rfl) ?_
      refine wl_val rfl rfl rfl (x_conv Tryz.underlying51 Tryz.underlying5 rfl (u8n (r := x / 2 ^ 8) (by omega) (by omega))) ?_
      refine wl_val rfl rfl rfl (x_indexLen Tryz.underlying9 rfl rfl rfl (by omega) (by decide +kernel)) ?_
      have := b0 (x / 2 ^ 8) (by omega)
      refine wl_val rfl rfl rfl (x_conv Tryz.underlying5 Tryz.underlying3 rfl (wrap_i64 (by omega) (by omega))) ?_
      refine wl_val rfl rfl rfl (x_add rfl rfl (wrap_i64 (by omega) (by omega))) ?_
      refine wl_val rfl rfl rfl (x_assign rfl) ?_
      refine wl_nil ?_
      refine at_seq ?_
      refine w_ret ?_
      refine at_endp (res1 rfl rfl) ?_
      simp only [Value.int.injEq, true_and]
      omega
    · skip
      refine w_skip ?_
      refine at_seq ?_
      refine w_seq ?_
      refine w_region ?_
      refine wl_val rfl rfl rfl (x_move rfl) ?_
      refine wl_val rfl rfl rfl (x_move rfl) ?_
      refine wl_val rfl rfl rfl (x_conv Tryz.underlying51 Tryz.underlying5 rfl (u8n (r := x) (by omega) (by omega))) ?_
      refine wl_val rfl rfl rfl (x_indexLen Tryz.underlying9 rfl rfl rfl (by omega) (by decide +kernel)) ?_
      have := b0 x (by omega)
      refine wl_val rfl rfl rfl (x_conv Tryz.underlying5 Tryz.underlying3 rfl (wrap_i64 (by omega) (by omega))) ?_
      refine wl_val rfl rfl rfl (x_add rfl rfl (wrap_i64 (by omega) (by omega))) ?_
      refine wl_val rfl rfl rfl (x_assign rfl) ?_
      refine wl_nil ?_
      refine at_seq ?_
      refine w_ret ?_
      refine at_endp (res1 rfl rfl) ?_
      simp only [Value.int.injEq, true_and]
      omega

theorem blen_nv {ds : List Nat} (hn : norm ds) (hb : okd ds) (hk : ds.length - 1 < ds.length) : blen (nv ds) = 32 * (ds.length - 1) + blen ds[ds.length - 1] := by
  have h0 : ds[ds.length - 1] ≠ 0 := by
    intro e
    refine hn ?_
    rw [List.getLast?_eq_getElem?, List.getElem?_eq_getElem hk, e]
  have e1 : nv ds = nv (ds.take (ds.length - 1)) + 2 ^ (32 * (ds.length - 1)) * ds[ds.length - 1] := by
    have := nv_take_succ hk
    rw [show ds.length - 1 + 1 = ds.length by omega, List.take_length] at this
    rw [this, Nat.pow_mul]
  have h1 := nv_lt (okd_take hb (ds.length - 1))
  rw [List.length_take, Nat.min_eq_left (by omega), show 4294967296 = 2 ^ 32 from rfl, ← Nat.pow_mul] at h1
  have hp : 0 < 2 ^ (32 * (ds.length - 1)) := Nat.pow_pos (by omega)
  have e2 : nv ds / 2 ^ (32 * (ds.length - 1)) = ds[ds.length - 1] := by
    rw [e1, Nat.add_mul_div_left _ _ hp, Nat.div_eq_of_lt h1, Nat.zero_add]
  have h2 : 2 ^ (32 * (ds.length - 1)) ≤ nv ds := by
    rw [e1]
    have := Nat.mul_le_mul_left (2 ^ (32 * (ds.length - 1))) (Nat.pos_of_ne_zero h0)
    omega
  rw [blen_shr h2, e2, Nat.add_comm]

theorem BitLen_ok {m : Mem} {v : Value} {x : Nat} (h : Nt m v x) : Pure Tryz.prog 213 #[v] m fun r _ => r = .int .i64 (blen x) := by
  refine enterp Tryz.func213 rfl rfl ?_
  intro K hm0 hks
  refine w_seq ?_
  refine w_region ?_
  refine wl_val rfl rfl rfl (x_assign rfl) ?_
  refine wl_nil ?_
  refine at_seq ?_
  refine w_seq ?_
  refine w_region ?_
  refine wl_val rfl rfl rfl (x_move rfl) ?_
  refine wl_callp rfl rfl rfl Tryz.c151 (trim_ok h) ?_; rintro v1 m1 hm1 ⟨ds, ⟨hb, hl, a, cap, rfl, hc, hr⟩, rfl, hn⟩
  refine wl_val rfl rfl rfl (x_assign rfl) ?_
  refine wl_nil ?_
  refine at_seq ?_
  refine w_seq ?_
  refine w_seq ?_
  refine w_region ?_
  refine wl_val rfl rfl rfl (x_move rfl) ?_
  refine wl_val rfl rfl rfl (x_len Tryz.underlying47 rfl rfl) ?_
  refine wl_val rfl rfl rfl (x_eql rfl rfl) ?_
  refine wl_nil ?_
  refine at_seq ?_
  refine w_if rfl (fun h0 => ?_) (fun h0 => ?_)
  · skip
    have : ds = [] := List.length_eq_zero_iff.1 (by omega)
    subst this
    refine w_seq ?_
    refine w_region ?_
    refine wl_val rfl rfl rfl (x_assign rfl) ?_
    refine wl_nil ?_
    refine at_seq ?_
    refine w_ret ?_
    refine at_then_ret ?_
    refine at_endp (res1 rfl rfl) ?_
    rfl
  · skip
    have hk : ds.length - 1 < ds.length := by omega
    obtain ⟨ba, oa, rfl, hra⟩ := hr (by omega)
    have hd := hb _ (List.getElem_mem hk)
    have hd2 : blen ds[ds.length - 1] ≤ 32 := blen_le.2 (by simpa using hd)
    refine w_skip ?_
    refine at_seq ?_
    refine w_seq ?_
    refine w_region ?_
    refine wl_val rfl rfl rfl (x_move rfl) ?_
    refine wl_val rfl rfl rfl (x_len Tryz.underlying47 rfl rfl) ?_
    refine wl_val rfl rfl rfl (x_sub rfl rfl (wrap_i64 (by omega) (by omega))) ?_
    refine wl_val rfl rfl rfl (x_mul rfl rfl (wrap_i64 (by omega) (by omega))) ?_
    refine wl_val rfl rfl rfl (x_move rfl) ?_
    refine wl_val rfl rfl rfl (x_move rfl) ?_
    refine wl_val rfl rfl rfl (x_len Tryz.underlying47 rfl rfl) ?_
    refine wl_val rfl rfl rfl (x_sub rfl rfl (wrap_i64 (by omega) (by omega))) ?_
    refine wl_val rfl rfl rfl (x_index Tryz.underlying47 Tryz.size51 rfl rfl (j := (ds.length - 1)) (by omega) (by omega)) ?_
    refine wl_val rfl rfl rfl (x_load Tryz.plain51 rfl ((hra.heap.nth (ds.length - 1) (dsv_get hk) (by omega)))) ?_
    refine wl_callp rfl rfl rfl Tryz.c176 (len32_ok hd) ?_; rintro v2 m2 hm2 rfl
    refine wl_val rfl rfl rfl (x_add rfl rfl (wrap_i64 (by omega) (by omega))) ?_
    refine wl_val rfl rfl rfl (x_assign rfl) ?_
    refine wl_nil ?_
    refine at_seq ?_
    refine w_ret ?_
    refine at_endp (res1 rfl rfl) ?_
    simp only [Value.int.injEq, true_and]
    rw [blen_nv hn hb hk]
    omega

theorem Uint64_ok {m : Mem} {v : Value} {x : Nat} (h : Nt m v x) : Pure Tryz.prog 190 #[v] m fun r _ => r = .tuple #[.int .u64 (if x < 18446744073709551616 then x else 0 : Nat), .bool (decide (x < 18446744073709551616))] := by
  refine enterp Tryz.func190 rfl rfl ?_
  intro K hm0 hks
  refine w_seq ?_
  refine w_region ?_
  refine wl_val rfl rfl rfl (x_assign rfl) ?_
  refine wl_val rfl rfl rfl (x_assign rfl) ?_
  refine wl_nil ?_
  refine at_seq ?_
  refine w_seq ?_
  refine w_region ?_
  refine wl_val rfl rfl rfl (x_move rfl) ?_
  refine wl_callp rfl rfl rfl Tryz.c151 (trim_ok h) ?_; rintro v1 m1 hm1 ⟨ds, ⟨hb, hl, a, cap, rfl, hc, hr⟩, rfl, hn⟩
  refine wl_val rfl rfl rfl (x_assign rfl) ?_
  refine wl_nil ?_
  refine at_seq ?_
  refine w_seq ?_
  refine w_seq ?_
  refine w_region ?_
  refine wl_val rfl rfl rfl (x_move rfl) ?_
  refine wl_val rfl rfl rfl (x_len Tryz.underlying47 rfl rfl) ?_
  refine wl_nil ?_
  refine at_seq ?_
  refine w_block ?_
  refine w_seq ?_
  refine w_region ?_
  refine wl_val rfl rfl rfl (x_eql rfl rfl) ?_
  refine wl_val rfl rfl rfl (x_assign rfl) ?_
  refine wl_nil ?_
  refine at_seq ?_
  refine w_if rfl (fun h0 => ?_) (fun h0 => ?_)
  · skip
    have : ds = [] := List.length_eq_zero_iff.1 (by omega)
    subst this
    refine w_seq ?_
    refine w_region ?_
    refine wl_val rfl rfl rfl (x_assign rfl) ?_
    refine wl_val rfl rfl rfl (x_assign rfl) ?_
    refine wl_nil ?_
    refine at_seq ?_
    refine w_ret ?_
    refine at_block_ret ?_
    refine at_then_ret ?_
    refine at_endp (res2 rfl rfl rfl) ?_
    rfl
  · skip
    obtain ⟨ba, oa, rfl, hra⟩ := hr (by omega)
    refine w_seq ?_
    refine w_region ?_
    refine wl_val rfl rfl rfl (x_eql rfl rfl) ?_
    refine wl_val rfl rfl rfl (x_assign rfl) ?_
    refine wl_nil ?_
    refine at_seq ?_
    refine w_if rfl (fun h1 => ?_) (fun h1 => ?_)
    · skip
      obtain ⟨d, rfl⟩ : ∃ d, ds = [d] := List.length_eq_one_iff.1 (by omega)
      have hd : d < 4294967296 := hb d (by simp)
      refine w_seq ?_
      refine w_region ?_
      refine wl_val rfl rfl rfl (x_move rfl) ?_
      refine wl_val rfl rfl rfl (x_index Tryz.underlying47 Tryz.size51 rfl rfl (j := 0) (by omega) (by omega)) ?_
      refine wl_val rfl rfl rfl (x_load Tryz.plain51 rfl ((hra.heap.nth 0 (dsv_get (by simp)) (by omega)))) ?_
      refine wl_val rfl rfl rfl (x_conv Tryz.underlying51 Tryz.underlying111 rfl (u64n (r := d) (by simp) (by omega))) ?_
      refine wl_val rfl rfl rfl (x_assign rfl) ?_
      refine wl_val rfl rfl rfl (x_assign rfl) ?_
      refine wl_nil ?_
      refine at_seq ?_
      refine w_ret ?_
      refine at_block_ret ?_
      refine at_then_ret ?_
      refine at_endp (res2 rfl rfl rfl) ?_
      simp [nv, show d < 18446744073709551616 by omega]
    · skip
      refine w_seq ?_
      refine w_region ?_
      refine wl_val rfl rfl rfl (x_eql rfl rfl) ?_
      refine wl_val rfl rfl rfl (x_assign rfl) ?_
      refine wl_nil ?_
      refine at_seq ?_
      refine w_if rfl (fun h2 => ?_) (fun h2 => ?_)
      · skip
        obtain ⟨d, e, rfl⟩ : ∃ d e, ds = [d, e] := len_two (by omega)
        have hd : d < 4294967296 := hb d (by simp)
        have he : e < 4294967296 := hb e (by simp)
        refine w_seq ?_
        refine dr_start [] [[], [0], [1], [2], [3], [], [5], [6], [7]] ?_
        refine dr_val rfl rfl (fun m' hm' => ds_val rfl (x_move rfl)) ?_
        refine dr_val rfl rfl (fun m' hm' => ds_val rfl (x_index Tryz.underlying47 Tryz.size51 rfl rfl (j := 1) (by omega) (by omega))) ?_
        refine dr_val rfl rfl (fun m' hm' => ds_val rfl (x_load Tryz.plain51 rfl (((hra.up hm').heap.nth 1 (dsv_get (ds := [d, e]) (i := 1) (by simp)) (by omega))))) ?_
        refine dr_val rfl rfl (fun m' hm' => ds_val rfl (x_conv Tryz.underlying51 Tryz.underlying111 rfl (u64n (r := e) (by simp) (by omega)))) ?_
        refine dr_val rfl rfl (fun m' hm' => ds_val rfl (x_shl rfl rfl (by omega) (shl_32_64 he))) ?_
        refine dr_val rfl rfl (fun m' hm' => ds_val rfl (x_move rfl)) ?_
        refine dr_val rfl rfl (fun m' hm' => ds_val rfl (x_index Tryz.underlying47 Tryz.size51 rfl rfl (j := 0) (by omega) (by omega))) ?_
        refine dr_val rfl rfl (fun m' hm' => ds_val rfl (x_load Tryz.plain51 rfl (((hra.up hm').heap.nth 0 (dsv_get (ds := [d, e]) (i := 0) (by simp)) (by omega))))) ?_
        refine dr_val rfl rfl (fun m' hm' => ds_val rfl (x_conv Tryz.underlying51 Tryz.underlying111 rfl (u64n (r := d) (by simp) (by omega)))) ?_
        refine dr_done (k := 9) Tryz.mixed rfl rfl rfl fun m2 hm_m2 => ?_
        show WL _ _ _ _ _ _ _ _ _
        refine wl_val rfl rfl rfl (x_or rfl rfl (or_hi64 he hd)) ?_
        refine wl_val rfl rfl rfl (x_assign rfl) ?_
        refine wl_val rfl rfl rfl (x_assign rfl) ?_
        refine wl_nil ?_
        refine at_seq ?_
        refine w_ret ?_
        refine at_block_ret ?_
        refine at_then_ret ?_
        refine at_endp (res2 rfl rfl rfl) ?_
        have e1 : nv [d, e] = e * 4294967296 + d := by simp [nv]; omega
        rw [e1]
        simp [show e * 4294967296 + d < 18446744073709551616 by omega]
      · skip
        refine w_skip ?_
        refine at_block_normal ?_
        refine at_seq ?_
        refine w_seq ?_
        refine w_region ?_
        refine wl_val rfl rfl rfl (x_assign rfl) ?_
        refine wl_val rfl rfl rfl (x_assign rfl) ?_
        refine wl_nil ?_
        refine at_seq ?_
        refine w_ret ?_
        refine at_endp (res2 rfl rfl rfl) ?_
        have g1 := nv_pos hn (fun e => by subst e; simp at h0)
        have g2 : 4294967296 ^ 2 ≤ 4294967296 ^ (ds.length - 1) := Nat.pow_le_pow_right (by omega) (by omega)
        have g3 : ¬ nv ds < 18446744073709551616 := by omega
        simp [g3]
end Go.Cy

