/- natural.schoolbook, and products in which one factor has less than 48 digits. -/
import Derived.Test.YtmamkgbldaehgaaGreatDoorCyNat3
namespace Go.Cy
open Go Go.Proofs
set_option maxRecDepth 20000

theorem dsv_at {ds : List Nat} {i o : Nat} (h : i < ds.length) (e : o = i) : (dsv ds)[o]? = some (.int .u32 (ds[i] : Nat)) := by subst e; simp [dsv, h]

theorem schoolbook_ok {m : Mem} {v u : Value} {xs ys : List Nat} (hv : Dg m v xs) (hu : Dg m u ys) (hl : xs.length + ys.length ≤ 35184372088832) :
    Pure Tryz.prog 233 #[v, u] m fun r m' => ∃ zs, Dg m' r zs ∧ zs.length = xs.length + ys.length ∧ nv zs = nv xs * nv ys := by
  obtain ⟨hxo, hxl, a, acap, rfl, hac, har⟩ := hv
  obtain ⟨hyo, hyl, b, bcap, rfl, hbc, hbr⟩ := hu
  refine enterp Tryz.func233 rfl rfl ?_
  intro K hm0 hks
  refine w_seq ?_
  refine w_region ?_
  refine wl_val rfl rfl rfl (x_assign rfl) ?_
  refine wl_nil ?_
  refine at_seq ?_
  refine w_seq ?_
  refine w_region ?_
  refine wl_val rfl rfl rfl (x_move rfl) ?_
  refine wl_val rfl rfl rfl (x_len Tryz.underlying47 rfl rfl) ?_
  refine wl_val rfl rfl rfl (x_move rfl) ?_
  refine wl_val rfl rfl rfl (x_len Tryz.underlying47 rfl rfl) ?_
  refine wl_val rfl rfl rfl (x_add rfl rfl (wrap_i64 (by omega) (by omega))) ?_
  refine wl_make (N := (xs.length + ys.length)) rfl rfl Tryz.underlying47 Tryz.size51 Tryz.bytes51 Tryz.zero51 rfl rfl rfl (by omega) (by omega) (by omega) (by omega) ?_; intro b20
  refine wl_val rfl rfl rfl (x_assign rfl) ?_
  refine wl_nil ?_
  refine at_seq ?_
  refine w_seq ?_
  refine w_seq ?_
  refine w_region ?_
  refine wl_val rfl rfl rfl (x_move rfl) ?_
  refine wl_val rfl rfl rfl (x_len Tryz.underlying47 rfl rfl) ?_
  refine wl_val rfl rfl rfl (x_move rfl) ?_
  refine wl_nil ?_
  refine at_seq ?_
  refine w_block ?_
  refine w_loop (fun r m' H' env' => ∃ i zs, r + i = xs.length ∧ m.le m' ∧ H' = [(b20, cl 51 (dsv zs))] ∧ zs.length = xs.length + ys.length ∧ okd zs ∧ nv zs = nv (xs.take i) * nv ys ∧ zs.drop (i + ys.length) = List.replicate (xs.length + ys.length - (i + ys.length)) 0 ∧ env' = [(0, .slice a xs.length acap), (1, .slice b ys.length bcap), (5, .slice (some ⟨b20, 0, none⟩) (xs.length + ys.length) (xs.length + ys.length)), (21, .slice a xs.length acap), (22, .int .i64 xs.length), (23, .int .i64 i)]) xs.length [(0, .slice a xs.length acap), (1, .slice b ys.length bcap), (5, .slice (some ⟨b20, 0, none⟩) (xs.length + ys.length) (xs.length + ys.length)), (21, .slice a xs.length acap), (22, .int .i64 xs.length), (23, .int .i64 (0 : Nat))] ⟨0, List.replicate (xs.length + ys.length) 0, rfl, Mem.le.refl _, by rw [dsv_zero], by simp, fun e he => by simp at he; omega, by simp [nv, nv_zero], by simp, rfl⟩ (by repeat' (first | exact trivial | exact rfl | exact lk_int rfl (by omega) | apply And.intro)) ?_
  rintro r m1 H' env' ⟨i, zs, hri, hm1, rfl, hzl, hzo, hzv, hzd, rfl⟩
  refine w_seq ?_
  refine w_region ?_
  refine wl_val rfl rfl rfl (x_lss rfl rfl) ?_
  refine wl_nil ?_
  refine at_seq ?_
  refine w_seq ?_
  refine w_if rfl (fun h1 => ?_) (fun h1 => ?_)
  · skip
    have hi : i < xs.length := by omega
    obtain ⟨ba, oa, rfl, hra⟩ := har (by omega)
    refine w_skip ?_
    refine at_seq ?_
    refine w_seq ?_
    refine w_block ?_
    refine w_seq ?_
    refine w_region ?_
    refine wl_val rfl rfl rfl (x_move rfl) ?_
    refine wl_val rfl rfl rfl (x_index Tryz.underlying47 Tryz.size51 rfl rfl rfl (by omega)) ?_
    refine wl_val rfl rfl rfl (x_load Tryz.plain51 rfl (((hra.up hm1).heap.nth i (dsv_get hi) (by omega)))) ?_
    refine wl_val rfl rfl rfl (x_assign rfl) ?_
    refine wl_val rfl rfl rfl (x_assign rfl) ?_
    refine wl_nil ?_
    refine at_seq ?_
    refine w_seq ?_
    refine w_seq ?_
    refine w_region ?_
    refine wl_val rfl rfl rfl (x_move rfl) ?_
    refine wl_val rfl rfl rfl (x_eql rfl rfl) ?_
    refine wl_nil ?_
    refine at_seq ?_
    refine w_if rfl (fun h2 => ?_) (fun h2 => ?_)
    · skip
      refine w_exit ?_
      refine at_then_exit ?_
      refine at_block_hit ?_
      refine at_seq ?_
      refine w_region ?_
      refine wl_val rfl rfl rfl (x_add rfl rfl (wrap_i64 (by omega) (by omega))) ?_
      refine wl_val rfl rfl rfl (x_move rfl) ?_
      refine wl_nil ?_
      exact at_again (r - 1) [(0, .slice (some ⟨ba, oa, none⟩) xs.length acap), (1, .slice b ys.length bcap), (5, .slice (some ⟨b20, 0, none⟩) (xs.length + ys.length) (xs.length + ys.length)), (21, .slice (some ⟨ba, oa, none⟩) xs.length acap), (22, .int .i64 xs.length), (23, .int .i64 (i + 1 : Nat))] (by omega) ⟨i + 1, zs, by omega, hm1, rfl, hzl, hzo, by rw [hzv, nv_take_pred hi (by omega)], by rw [Nat.add_right_comm]; exact drop_zeros hzd, rfl⟩ ⟨rfl, rfl, rfl, rfl, rfl, lk_int rfl (by omega), trivial⟩
    · skip
      refine w_skip ?_
      refine at_seq ?_
      refine w_seq ?_
      refine w_region ?_
      refine wl_val rfl rfl rfl (x_move rfl) ?_
      refine wl_val rfl rfl rfl (x_move rfl) ?_
      refine wl_val rfl rfl rfl (x_sliceAs (lo := i) (hi := xs.length + ys.length) (p := some ⟨b20, i, none⟩) (L := xs.length + ys.length - i) (C := xs.length + ys.length - i) Tryz.underlying47 Tryz.size51 rfl (⟨_, by first | rfl | exact lk_int rfl (by omega)⟩) (rfl) (by omega) (by omega) (by first | (rw [offTo_lt (by omega)]; simp) | rfl) (by omega) (by omega)) ?_
      refine wl_val rfl rfl rfl (x_assign rfl) ?_
      refine wl_nil ?_
      refine at_seq ?_
      refine w_seq ?_
      refine w_region ?_
      refine wl_val rfl rfl rfl (x_assign rfl) ?_
      refine wl_nil ?_
      refine at_seq ?_
      refine w_seq ?_
      refine w_seq ?_
      refine w_region ?_
      refine wl_val rfl rfl rfl (x_move rfl) ?_
      refine wl_val rfl rfl rfl (x_len Tryz.underlying47 rfl rfl) ?_
      refine wl_val rfl rfl rfl (x_move rfl) ?_
      refine wl_nil ?_
      refine at_seq ?_
      refine w_block ?_
      refine w_loop (fun s m' H' env' => ∃ j zs c, s + j = ys.length ∧ m1.le m' ∧ H' = [(b20, cl 51 (dsv zs))] ∧ zs.length = xs.length + ys.length ∧ okd zs ∧ c < 4294967296 ∧ nv zs + 4294967296 ^ (i + j) * c = nv (xs.take i) * nv ys + 4294967296 ^ i * (xs[i] * nv (ys.take j)) ∧ zs.drop (i + ys.length) = List.replicate (xs.length + ys.length - (i + ys.length)) 0 ∧ env' = [(0, .slice (some ⟨ba, oa, none⟩) xs.length acap), (1, .slice (b) ys.length bcap), (5, .slice (some ⟨b20, 0, none⟩) (xs.length + ys.length) (xs.length + ys.length)), (7, .int .u32 (xs[i] : Nat)), (8, .slice (some ⟨b20, i, none⟩) (xs.length + ys.length - i) (xs.length + ys.length - i)), (9, .int .u32 (c : Nat)), (21, .slice (some ⟨ba, oa, none⟩) xs.length acap), (22, .int .i64 xs.length), (23, .int .i64 i), (33, .slice (b) ys.length bcap), (34, .int .i64 ys.length), (35, .int .i64 (j : Nat))]) ys.length [(0, .slice (some ⟨ba, oa, none⟩) xs.length acap), (1, .slice (b) ys.length bcap), (5, .slice (some ⟨b20, 0, none⟩) (xs.length + ys.length) (xs.length + ys.length)), (7, .int .u32 (xs[i] : Nat)), (8, .slice (some ⟨b20, i, none⟩) (xs.length + ys.length - i) (xs.length + ys.length - i)), (9, .int .u32 (0 : Nat)), (21, .slice (some ⟨ba, oa, none⟩) xs.length acap), (22, .int .i64 xs.length), (23, .int .i64 i), (33, .slice (b) ys.length bcap), (34, .int .i64 ys.length), (35, .int .i64 (0 : Nat))] ⟨0, zs, 0, rfl, Mem.le.refl _, rfl, hzl, hzo, by omega, by simp [hzv, nv], hzd, rfl⟩ (by repeat' (first | exact trivial | exact rfl | exact lk_int rfl (by omega) | apply And.intro)) ?_
      rintro s m2 H' env' ⟨j, ws, c, hsj, hm2, rfl, hwl, hwo, hc, hwv, hwd, rfl⟩
      refine w_seq ?_
      refine w_region ?_
      refine wl_val rfl rfl rfl (x_lss rfl rfl) ?_
      refine wl_nil ?_
      refine at_seq ?_
      refine w_seq ?_
      refine w_if rfl (fun h3 => ?_) (fun h3 => ?_)
      · skip
        have hj : j < ys.length := by omega
        have hk : i + j < ws.length := by omega
        obtain ⟨bb, ob, rfl, hrb⟩ := hbr (by omega)
        have hx := hxo _ (List.getElem_mem hi)
        have hy := hyo _ (List.getElem_mem hj)
        have hz := hwo _ (List.getElem_mem hk)
        have hp : xs[i] * ys[j] ≤ 4294967295 * 4294967295 := Nat.mul_le_mul (by omega) (by omega)
        have st := row_inner hk hj hwv
        refine w_skip ?_
        refine at_seq ?_
        refine w_seq ?_
        refine w_block ?_
        refine w_seq ?_
        refine w_region ?_
        refine wl_val rfl rfl rfl (x_move rfl) ?_
        refine wl_val rfl rfl rfl (x_index Tryz.underlying47 Tryz.size51 rfl rfl rfl (by omega)) ?_
        refine wl_val rfl rfl rfl (x_load Tryz.plain51 rfl (((hrb.up (hm1.trans hm2)).heap.nth j (dsv_get hj) (by omega)))) ?_
        refine wl_val rfl rfl rfl (x_assign rfl) ?_
        refine wl_val rfl rfl rfl (x_assign rfl) ?_
        refine wl_nil ?_
        refine at_seq ?_
        refine w_seq ?_
        refine w_region ?_
        refine wl_val rfl rfl rfl (x_move rfl) ?_
        refine wl_val rfl rfl rfl (x_move rfl) ?_
        refine wl_callp rfl rfl rfl Tryz.c252 (mul32_ok hx hy) ?_; rintro v3 m3 hm3 rfl
        refine wl_val rfl rfl rfl (x_move rfl) ?_
        refine wl_val rfl rfl rfl (x_extract rfl rfl) ?_
        refine wl_val rfl rfl rfl (x_extract rfl rfl) ?_
        refine wl_val rfl rfl rfl (x_assign rfl) ?_
        refine wl_val rfl rfl rfl (x_assign rfl) ?_
        refine wl_nil ?_
        refine at_seq ?_
        refine w_seq ?_
        refine w_region ?_
        refine wl_val rfl rfl rfl (x_move rfl) ?_
        refine wl_val rfl rfl rfl (x_move rfl) ?_
        refine wl_val rfl rfl rfl (x_move rfl) ?_
        refine wl_val rfl rfl rfl (x_index Tryz.underlying47 Tryz.size51 rfl rfl rfl (by omega)) ?_
        refine wl_val rfl rfl rfl (x_load Tryz.plain51 rfl (rowH1 (.head _) (dsv_at hk (by omega)))) ?_
        refine wl_callp rfl rfl rfl Tryz.c156 (add32_ok (c := 0) (Nat.mod_lt _ (by omega)) hz (by omega)) ?_; rintro v4 m4 hm4 rfl
        refine wl_val rfl rfl rfl (x_move rfl) ?_
        refine wl_val rfl rfl rfl (x_extract rfl rfl) ?_
        refine wl_val rfl rfl rfl (x_extract rfl rfl) ?_
        refine wl_val rfl rfl rfl (x_assign rfl) ?_
        refine wl_val rfl rfl rfl (x_assign rfl) ?_
        refine wl_nil ?_
        refine at_seq ?_
        refine w_seq ?_
        refine w_region ?_
        refine wl_val rfl rfl rfl (x_move rfl) ?_
        refine wl_val rfl rfl rfl (x_move rfl) ?_
        refine wl_val rfl rfl rfl (x_add rfl rfl (u32n (r := (xs[i] * ys[j] + ws[i + j]) / 4294967296) (by omega) (by omega))) ?_
        refine wl_val rfl rfl rfl (x_assign rfl) ?_
        refine wl_nil ?_
        refine at_seq ?_
        refine w_seq ?_
        refine w_region ?_
        refine wl_val rfl rfl rfl (x_move rfl) ?_
        refine wl_val rfl rfl rfl (x_move rfl) ?_
        refine wl_callp rfl rfl rfl Tryz.c156 (add32_ok (c := 0) (Nat.mod_lt _ (by omega)) hc (by omega)) ?_; rintro v5 m5 hm5 rfl
        refine wl_val rfl rfl rfl (x_move rfl) ?_
        refine wl_val rfl rfl rfl (x_extract rfl rfl) ?_
        refine wl_val rfl rfl rfl (x_extract rfl rfl) ?_
        refine wl_val rfl rfl rfl (x_assign rfl) ?_
        refine wl_val rfl rfl rfl (x_assign rfl) ?_
        refine wl_nil ?_
        refine at_seq ?_
        refine w_seq ?_
        refine w_region ?_
        refine wl_val rfl rfl rfl (x_move rfl) ?_
        refine wl_val rfl rfl rfl (x_move rfl) ?_
        refine wl_val rfl rfl rfl (x_move rfl) ?_
        refine wl_val rfl rfl rfl (x_index Tryz.underlying47 Tryz.size51 rfl rfl rfl (by omega)) ?_
        refine wl_storeAs (xs' := dsv (ws.set (i + j) ((xs[i] * ys[j] + ws[i + j] + c) % 4294967296))) rfl Tryz.size51 rfl rfl rfl (by simp [dsv]; omega) (dsv_setAs (by omega) (by omega)) ?_
        refine wl_nil ?_
        refine at_seq ?_
        refine w_region ?_
        refine wl_val rfl rfl rfl (x_move rfl) ?_
        refine wl_val rfl rfl rfl (x_move rfl) ?_
        refine wl_val rfl rfl rfl (x_add rfl rfl (u32n (r := (xs[i] * ys[j] + ws[i + j] + c) / 4294967296) (by omega) (by omega))) ?_
        refine wl_val rfl rfl rfl (x_assign rfl) ?_
        refine wl_nil ?_
        refine at_block_normal ?_
        refine at_seq ?_
        refine w_region ?_
        refine wl_val rfl rfl rfl (x_add rfl rfl (wrap_i64 (by omega) (by omega))) ?_
        refine wl_val rfl rfl rfl (x_move rfl) ?_
        refine wl_nil ?_
        exact at_again (s - 1) [(0, .slice (some ⟨ba, oa, none⟩) xs.length acap), (1, .slice (some ⟨bb, ob, none⟩) ys.length bcap), (5, .slice (some ⟨b20, 0, none⟩) (xs.length + ys.length) (xs.length + ys.length)), (7, .int .u32 (xs[i] : Nat)), (8, .slice (some ⟨b20, i, none⟩) (xs.length + ys.length - i) (xs.length + ys.length - i)), (9, .int .u32 ((xs[i] * ys[j] + ws[i + j] + c) / 4294967296 : Nat)), (21, .slice (some ⟨ba, oa, none⟩) xs.length acap), (22, .int .i64 xs.length), (23, .int .i64 i), (33, .slice (some ⟨bb, ob, none⟩) ys.length bcap), (34, .int .i64 ys.length), (35, .int .i64 (j + 1 : Nat))] (by omega) ⟨j + 1, ws.set (i + j) ((xs[i] * ys[j] + ws[i + j] + c) % 4294967296), (xs[i] * ys[j] + ws[i + j] + c) / 4294967296, by omega, hm2.trans (hm3.trans (hm4.trans hm5)), rfl, by simpa using hwl, okd_set hwo _ (Nat.mod_lt _ (by omega)), by omega, st, by rw [List.drop_set_of_lt (by omega)]; exact hwd, rfl⟩ (by repeat' (first | exact trivial | exact rfl | exact lk_int rfl (by omega) | apply And.intro))
      · skip
        have hjl : j = ys.length := by omega
        subst hjl
        have hk : i + ys.length < ws.length := by omega
        refine w_exit ?_
        refine at_then_exit ?_
        refine at_then_exit ?_
        refine at_block_hit ?_
        refine at_seq ?_
        refine w_region ?_
        refine wl_val rfl rfl rfl (x_move rfl) ?_
        refine wl_val rfl rfl rfl (x_move rfl) ?_
        refine wl_val rfl rfl rfl (x_len Tryz.underlying47 rfl rfl) ?_
        refine wl_val rfl rfl rfl (x_move rfl) ?_
        refine wl_val rfl rfl rfl (x_index Tryz.underlying47 Tryz.size51 rfl rfl (j := ys.length) (by omega) (by omega)) ?_
        refine wl_storeAs (xs' := dsv (ws.set (i + ys.length) c)) rfl Tryz.size51 rfl rfl rfl (by simp [dsv]; omega) (dsv_setAs (by omega) (by omega)) ?_
        refine wl_nil ?_
        refine at_block_normal ?_
        refine at_seq ?_
        refine w_region ?_
        refine wl_val rfl rfl rfl (x_add rfl rfl (wrap_i64 (by omega) (by omega))) ?_
        refine wl_val rfl rfl rfl (x_move rfl) ?_
        refine wl_nil ?_
        exact at_again (r - 1) [(0, .slice (some ⟨ba, oa, none⟩) xs.length acap), (1, .slice b ys.length bcap), (5, .slice (some ⟨b20, 0, none⟩) (xs.length + ys.length) (xs.length + ys.length)), (21, .slice (some ⟨ba, oa, none⟩) xs.length acap), (22, .int .i64 xs.length), (23, .int .i64 (i + 1 : Nat))] (by omega) ⟨i + 1, ws.set (i + ys.length) c, by omega, hm1.trans hm2, rfl, by simpa using hwl, okd_set hwo _ hc, row_end hk hi (zero_digit hk hwd) (by simpa using hwv), by rw [List.drop_set_of_lt (by omega), Nat.add_right_comm]; exact drop_zeros hwd, rfl⟩ (by repeat' (first | exact trivial | exact rfl | exact lk_int rfl (by omega) | apply And.intro))
  · skip
    obtain rfl : i = xs.length := by omega
    refine w_freeze ?_; intro hfz
    refine w_exit ?_
    refine at_then_exit ?_
    refine at_then_exit ?_
    refine at_block_hit ?_
    refine at_seq ?_
    refine w_seq ?_
    refine w_region ?_
    refine wl_val rfl rfl rfl (x_move rfl) ?_
    refine wl_val rfl rfl rfl (x_assign rfl) ?_
    refine wl_nil ?_
    refine at_seq ?_
    refine w_ret ?_
    refine at_endp (res1 rfl rfl) ?_
    exact ⟨zs, ⟨hzo, by omega, _, _, by rw [hzl], Nat.le_refl _, fun _ => ⟨b20, 0, rfl, rowM (Mem.add_at _ _ _) fun i _ => by simp⟩⟩, hzl, by simpa using hzv⟩
end Go.Cy

