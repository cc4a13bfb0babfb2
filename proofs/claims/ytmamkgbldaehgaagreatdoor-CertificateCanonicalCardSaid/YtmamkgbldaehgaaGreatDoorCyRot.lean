/- natural.Add, Sub, addInto. -/
import Derived.Test.YtmamkgbldaehgaaGreatDoorCyInt
import Derived.Test.YtmamkgbldaehgaaGreatDoorCyDig2
namespace Go.Cy
open Go Go.Proofs
set_option maxRecDepth 20000

theorem Dg.made' {m : Mem} {b k : Nat} {T : TypeId} {ds : List Nat} (hm : m b = some (cl T (dsv ds))) (ho : okd ds) (hk : ds.length = k) (hl : k ≤ 35184372088832) : Dg m (.slice (some ⟨b, 0, none⟩) k k) ds := by
  subst hk; exact Dg.made hm ho hl
theorem AddF_ok {m : Mem} {b x y c : Nat} (hx : x < 4294967296) (hy : y < 4294967296) (hc : c ≤ 1) : Does Tryz.prog 155 #[.int .u32 x, .int .u32 y, .pointer (some ⟨b, 0, none⟩)] m [(b, cl 51 [.int .u32 c])] fun r _ H' => r = .int .u32 ((x + y + c) % 4294967296 : Nat) ∧ H' = [(b, cl 51 [.int .u32 ((x + y + c) / 4294967296 : Nat)])] := by
  refine enter Tryz.func155 rfl rfl ?_
  intro K hm0 hks
  refine wsr ?_
  refine was ?_
  refine wnr ?_
  refine wmv ?_
  refine wmv ?_
  refine wv (x_load Tryz.plain51 rfl (rowH1 (.head _) rfl)) ?_
  refine wl_callp rfl rfl rfl Tryz.c156 (add32_ok hx hy hc) ?_; rintro v1 m1 hm1 rfl
  refine wmv ?_
  refine wex ?_
  refine wex ?_
  refine was ?_
  refine was ?_
  refine wnr ?_
  refine wmv ?_
  refine wl_store rfl Tryz.size51 rfl rfl rfl (by simp) ?_
  refine wnr ?_
  refine wmv ?_
  refine was ?_
  refine wns ?_
  refine w_ret ?_
  refine at_end (res1 rfl rfl) ?_
  exact ⟨rfl, rfl⟩
theorem SubF_ok {m : Mem} {b x y c : Nat} (hx : x < 4294967296) (hy : y < 4294967296) (hc : c ≤ 1) : Does Tryz.prog 157 #[.int .u32 x, .int .u32 y, .pointer (some ⟨b, 0, none⟩)] m [(b, cl 51 [.int .u32 c])] fun r _ H' => r = .int .u32 ((x + 8589934592 - y - c) % 4294967296 : Nat) ∧ H' = [(b, cl 51 [.int .u32 (if x < y + c then 1 else 0 : Nat)])] := by
  refine enter Tryz.func157 rfl rfl ?_
  intro K hm0 hks
  refine wsr ?_
  refine was ?_
  refine wnr ?_
  refine wmv ?_
  refine wmv ?_
  refine wv (x_load Tryz.plain51 rfl (rowH1 (.head _) rfl)) ?_
  refine wl_callp rfl rfl rfl Tryz.c158 (sub32_ok hx hy hc) ?_; rintro v1 m1 hm1 rfl
  refine wmv ?_
  refine wex ?_
  refine wex ?_
  refine was ?_
  refine was ?_
  refine wnr ?_
  refine wmv ?_
  refine wl_store rfl Tryz.size51 rfl rfl rfl (by simp) ?_
  refine wnr ?_
  refine wmv ?_
  refine was ?_
  refine wns ?_
  refine w_ret ?_
  refine at_end (res1 rfl rfl) ?_
  exact ⟨rfl, rfl⟩

theorem Add_ok {m : Mem} {v u : Value} {x y : Nat} (hv : Nt m v x) (hu : Nt m u y) (hl : dlen x ≤ 35184372088831 ∧ dlen y ≤ 35184372088831) : Pure Tryz.prog 105 #[v, u] m fun r m' => Nn m' r (x + y) := by
  refine enterp Tryz.func105 rfl rfl ?_
  intro K hm0 hks
  refine wsr ?_
  refine was ?_
  refine wnr ?_
  refine wmv ?_
  refine wl_callp rfl rfl rfl Tryz.c151 (trim_ok hv) ?_; rintro v1 m1 hm1 ⟨xs0, hx0, hx0v, hxn0⟩
  refine wmv ?_
  refine wl_callp rfl rfl rfl Tryz.c151 (trim_ok (hu.up hm1)) ?_; rintro v2 m2 hm2 ⟨ys0, hy0, hy0v, hyn0⟩
  refine was ?_
  refine was ?_
  refine wns ?_
  have ex := dlen_nv hx0.1 hxn0
  have ey := dlen_nv hy0.1 hyn0
  have hx0' := hx0.up hm2
  have hy0' := hy0
  obtain ⟨_, _, a0, acap0, rfl, _, _⟩ := hx0
  obtain ⟨_, _, b0, bcap0, rfl, _, _⟩ := hy0
  refine w_seq_mid (fun m' H' env' => m' = m2 ∧ H' = [] ∧ ∃ xs ys a b acap bcap, Dg m2 (.slice a xs.length acap) xs ∧ Dg m2 (.slice b ys.length bcap) ys ∧ ys.length ≤ xs.length ∧ xs.length ≤ 35184372088831 ∧ nv xs + nv ys = x + y ∧ env' = [(0, .slice a xs.length acap), (1, .slice b ys.length bcap)]) ?_ ?_
  · skip
    refine wsr ?_
    refine wmv ?_
    refine wv (x_len Tryz.underlying47 rfl rfl) ?_
    refine wmv ?_
    refine wv (x_len Tryz.underlying47 rfl rfl) ?_
    refine wv (x_lss rfl rfl) ?_
    refine wns ?_
    refine w_if rfl (fun h1 => ?_) (fun h1 => ?_)
    · skip
      refine w_region ?_
      refine wmv ?_
      refine wmv ?_
      refine was ?_
      refine was ?_
      refine wl_nil ?_
      exact at_meets [(0, .slice b0 ys0.length bcap0), (1, .slice a0 xs0.length acap0)] ⟨rfl, rfl, ys0, xs0, _, _, _, _, hy0', hx0', by omega, by rw [ey, hy0v]; exact hl.2, by omega, rfl⟩ (by repeat' (first | exact trivial | exact rfl | exact lk_int rfl (by omega) | apply And.intro))
    · skip
      refine w_skip ?_
      exact at_meets [(0, .slice a0 xs0.length acap0), (1, .slice b0 ys0.length bcap0)] ⟨rfl, rfl, xs0, ys0, _, _, _, _, hx0', hy0', by omega, by rw [ex, hx0v]; exact hl.1, by omega, rfl⟩ (by repeat' (first | exact trivial | exact rfl | exact lk_int rfl (by omega) | apply And.intro))
  · skip
    rintro m' H' env' ⟨rfl, rfl, xs, ys, a, b, acap, bcap, hx, hy, hle, hlx, hsum, rfl⟩
    obtain ⟨hxo, hxl, a', acap', e1, hac, har⟩ := hx
    cases e1
    obtain ⟨hyo, hyl, b', bcap', e2, hbc, hbr⟩ := hy
    cases e2
    refine wsr ?_
    refine wl_alloc rfl rfl Tryz.zero51 ?_; intro b5
    refine wnr ?_
    refine wv (x_makeFunc rfl rfl) ?_
    refine was ?_
    refine wnr ?_
    refine wmv ?_
    refine wv (x_len Tryz.underlying47 rfl rfl) ?_
    refine wv (x_add rfl rfl (wrap_i64 (by omega) (by omega))) ?_
    refine wl_make (N := (xs.length + 1)) rfl rfl Tryz.underlying47 Tryz.size51 Tryz.bytes51 Tryz.zero51 rfl rfl rfl (by omega) (by omega) (by omega) (by omega) ?_; intro b26
    refine was ?_
    refine wns ?_
    refine w_seq ?_
    refine wsr ?_
    refine wmv ?_
    refine wv (x_len Tryz.underlying47 rfl rfl) ?_
    refine wmv ?_
    refine wns ?_
    refine w_block ?_
    refine w_loop (fun r m3 H' env' => ∃ i zs c, m'.le m3 ∧ r + i = ys.length ∧ zs.length = xs.length + 1 ∧ okd zs ∧ c ≤ 1 ∧ nv (zs.take i) + 4294967296 ^ i * c = nv (xs.take i) + nv (ys.take i) ∧ H' = [(b26, cl 51 (dsv zs)), (b5, cl 51 [.int .u32 (c : Nat)])] ∧ env' = [(0, .slice a xs.length acap), (1, .slice b ys.length bcap), (5, .pointer (some ⟨b5, 0, none⟩)), (6, .func (.func 155) #[] #[.pointer (some ⟨b5, 0, none⟩)]), (7, .slice (some ⟨b26, 0, none⟩) (xs.length + 1) (xs.length + 1)), (27, .slice b ys.length bcap), (28, .int .i64 ys.length), (29, .int .i64 (i : Nat))]) ys.length [(0, .slice a xs.length acap), (1, .slice b ys.length bcap), (5, .pointer (some ⟨b5, 0, none⟩)), (6, .func (.func 155) #[] #[.pointer (some ⟨b5, 0, none⟩)]), (7, .slice (some ⟨b26, 0, none⟩) (xs.length + 1) (xs.length + 1)), (27, .slice b ys.length bcap), (28, .int .i64 ys.length), (29, .int .i64 (0 : Nat))] ⟨0, List.replicate (xs.length + 1) 0, 0, Mem.le.refl _, rfl, by simp, fun e he => by simp at he; omega, by omega, by simp [nv], by rw [dsv_zero]; rfl, rfl⟩ (by repeat' (first | exact trivial | exact rfl | exact lk_int rfl (by omega) | apply And.intro)) ?_
    rintro r m3 H' env' ⟨i, zs, c, hm3, hri, hzl, hzo, hc, hinv, rfl, rfl⟩
    refine wsr ?_
    refine wv (x_lss rfl rfl) ?_
    refine wns ?_
    refine w_seq ?_
    refine w_if rfl (fun h2 => ?_) (fun h2 => ?_)
    · skip
      have hi : i < ys.length := by omega
      have hi2 : i < xs.length := by omega
      obtain ⟨ba, oa, rfl, hra⟩ := har (by omega)
      obtain ⟨bb, ob, rfl, hrb⟩ := hbr (by omega)
      have hx1 := hxo _ (List.getElem_mem hi2)
      have hy1 := hyo _ (List.getElem_mem hi)
      have st := add_step (x := xs[i]) (y := ys[i]) (show i < zs.length by omega) hinv
      refine w_skip ?_
      refine at_seq ?_
      refine w_seq ?_
      refine w_block ?_
      refine wsr ?_
      refine wmv ?_
      refine wv (x_index Tryz.underlying47 Tryz.size51 rfl rfl rfl (by omega)) ?_
      refine wv (x_load Tryz.plain51 rfl (((hrb.up hm3).heap.nth i (dsv_get hi) (by omega)))) ?_
      refine was ?_
      refine was ?_
      refine wns ?_
      refine w_region ?_
      refine wmv ?_
      refine wmv ?_
      refine wmv ?_
      refine wmv ?_
      refine wmv ?_
      refine wv (x_index Tryz.underlying47 Tryz.size51 rfl rfl rfl (by omega)) ?_
      refine wv (x_load Tryz.plain51 rfl (((hra.up hm3).heap.nth i (dsv_get hi2) (by omega)))) ?_
      refine wmv ?_
      refine wl_callvdp (Hc := [_]) (Hr := [_]) (List.perm_append_comm (l₁ := [_]) (l₂ := [_])) rfl rfl rfl rfl Tryz.c155 (AddF_ok hx1 hy1 hc) ?_; rintro v4 m4 H4 hm4 ⟨rfl, rfl⟩; show WL _ _ _ _ _ _ _ _ [_, _]
      refine wv (x_index Tryz.underlying47 Tryz.size51 rfl rfl rfl (by omega)) ?_
      refine wl_storeAs (xs' := dsv (zs.set i ((xs[i] + ys[i] + c) % 4294967296))) rfl Tryz.size51 rfl rfl rfl (by simp [dsv]; omega) (dsv_setAs (by omega) (by omega)) ?_
      refine wl_nil ?_
      refine at_block_normal ?_
      refine at_seq ?_
      refine w_region ?_
      refine wv (x_add rfl rfl (wrap_i64 (by omega) (by omega))) ?_
      refine wmv ?_
      refine wl_nil ?_
      exact at_again (r - 1) [(0, .slice (some ⟨ba, oa, none⟩) xs.length acap), (1, .slice (some ⟨bb, ob, none⟩) ys.length bcap), (5, .pointer (some ⟨b5, 0, none⟩)), (6, .func (.func 155) #[] #[.pointer (some ⟨b5, 0, none⟩)]), (7, .slice (some ⟨b26, 0, none⟩) (xs.length + 1) (xs.length + 1)), (27, .slice (some ⟨bb, ob, none⟩) ys.length bcap), (28, .int .i64 ys.length), (29, .int .i64 (i + 1 : Nat))] (by omega) ⟨i + 1, _, _, hm3.trans hm4, by omega, by simpa using hzl, okd_set hzo _ (Nat.mod_lt _ (by omega)), by omega, by rw [st, nv_take_succ hi, nv_take_succ hi2]; omega, rfl, rfl⟩ (by repeat' (first | exact trivial | exact rfl | exact lk_int rfl (by omega) | apply And.intro))
    · skip
      obtain rfl : i = ys.length := by omega
      refine w_exit ?_
      refine at_then_exit ?_
      refine at_then_exit ?_
      refine at_block_hit ?_
      refine at_seq ?_
      refine w_seq ?_
      refine wsr ?_
      refine wmv ?_
      refine wv (x_len Tryz.underlying47 rfl rfl) ?_
      refine was ?_
      refine wns ?_
      refine w_block ?_
      refine w_loop (fun r m4 H' env' => ∃ i zs c, m'.le m4 ∧ r + i = xs.length ∧ zs.length = xs.length + 1 ∧ okd zs ∧ c ≤ 1 ∧ nv (zs.take i) + 4294967296 ^ i * c = nv (xs.take i) + nv ys ∧ H' = [(b26, cl 51 (dsv zs)), (b5, cl 51 [.int .u32 (c : Nat)])] ∧ env' = [(0, .slice a xs.length acap), (5, .pointer (some ⟨b5, 0, none⟩)), (6, .func (.func 155) #[] #[.pointer (some ⟨b5, 0, none⟩)]), (7, .slice (some ⟨b26, 0, none⟩) (xs.length + 1) (xs.length + 1)), (10, .int .i64 (i : Nat))]) (xs.length - ys.length) [(0, .slice a xs.length acap), (5, .pointer (some ⟨b5, 0, none⟩)), (6, .func (.func 155) #[] #[.pointer (some ⟨b5, 0, none⟩)]), (7, .slice (some ⟨b26, 0, none⟩) (xs.length + 1) (xs.length + 1)), (10, .int .i64 (ys.length : Nat))] ⟨ys.length, zs, c, hm3, by omega, hzl, hzo, hc, by rw [hinv, List.take_length], rfl, rfl⟩ (by repeat' (first | exact trivial | exact rfl | exact lk_int rfl (by omega) | apply And.intro)) ?_
      clear hinv hzl hzo hc
      rintro r2 m4 H' env' ⟨i, zs, c, hm4, hri, hzl, hzo, hc, hinv, rfl, rfl⟩
      refine w_seq ?_
      refine wsr ?_
      refine wmv ?_
      refine wmv ?_
      refine wv (x_len Tryz.underlying47 rfl rfl) ?_
      refine wv (x_lss rfl rfl) ?_
      refine wns ?_
      refine w_if rfl (fun h3 => ?_) (fun h3 => ?_)
      · skip
        have hi2 : i < xs.length := by omega
        obtain ⟨ba, oa, rfl, hra⟩ := har (by omega)
        have hx1 := hxo _ (List.getElem_mem hi2)
        have st := add_step (x := xs[i]) (y := 0) (show i < zs.length by omega) hinv
        refine w_skip ?_
        refine at_seq ?_
        refine w_seq ?_
        refine w_block ?_
        refine w_region ?_
        refine wmv ?_
        refine wmv ?_
        refine wmv ?_
        refine wmv ?_
        refine wmv ?_
        refine wv (x_index Tryz.underlying47 Tryz.size51 rfl rfl rfl (by omega)) ?_
        refine wv (x_load Tryz.plain51 rfl (((hra.up hm4).heap.nth i (dsv_get hi2) (by omega)))) ?_
        refine wl_callvdp (Hc := [_]) (Hr := [_]) (List.perm_append_comm (l₁ := [_]) (l₂ := [_])) rfl rfl rfl rfl Tryz.c155 (AddF_ok (y := 0) hx1 (by omega) hc) ?_; rintro v5 m5 H5 hm5 ⟨rfl, rfl⟩; show WL _ _ _ _ _ _ _ _ [_, _]
        refine wv (x_index Tryz.underlying47 Tryz.size51 rfl rfl rfl (by omega)) ?_
        refine wl_storeAs (xs' := dsv (zs.set i ((xs[i] + 0 + c) % 4294967296))) rfl Tryz.size51 rfl rfl rfl (by simp [dsv]; omega) (dsv_setAs (by omega) (by omega)) ?_
        refine wl_nil ?_
        refine at_block_normal ?_
        refine at_seq ?_
        refine w_region ?_
        refine wmv ?_
        refine wv (x_add rfl rfl (wrap_i64 (by omega) (by omega))) ?_
        refine was ?_
        refine wl_nil ?_
        exact at_again (r2 - 1) [(0, .slice (some ⟨ba, oa, none⟩) xs.length acap), (5, .pointer (some ⟨b5, 0, none⟩)), (6, .func (.func 155) #[] #[.pointer (some ⟨b5, 0, none⟩)]), (7, .slice (some ⟨b26, 0, none⟩) (xs.length + 1) (xs.length + 1)), (10, .int .i64 (i + 1 : Nat))] (by omega) ⟨i + 1, _, _, hm4.trans hm5, by omega, by simpa using hzl, okd_set hzo _ (Nat.mod_lt _ (by omega)), by omega, by rw [st, nv_take_succ hi2]; omega, rfl, rfl⟩ (by repeat' (first | exact trivial | exact rfl | exact lk_int rfl (by omega) | apply And.intro))
      · skip
        obtain rfl : i = xs.length := by omega
        have st := nv_take_set (show xs.length < zs.length by omega) c
        rw [List.take_length] at hinv
        refine w_exit ?_
        refine at_then_exit ?_
        refine at_then_exit ?_
        refine at_block_hit ?_
        refine at_seq ?_
        refine wsr ?_
        refine wmv ?_
        refine wmv ?_
        refine wv (x_len Tryz.underlying47 rfl rfl) ?_
        refine wv (x_load Tryz.plain51 rfl (rowH1 (.tail _ (.head _)) rfl)) ?_
        refine wv (x_index Tryz.underlying47 Tryz.size51 rfl rfl (j := xs.length) (by omega) (by omega)) ?_
        refine wl_storeAs (xs' := dsv (zs.set xs.length c)) rfl Tryz.size51 rfl rfl rfl (by simp [dsv]; omega) (dsv_setAs (by omega) (by omega)) ?_
        refine wnr ?_
        refine wmv ?_
        refine wl_freeze ?_; intro hfz
        refine wl_callp rfl rfl rfl Tryz.c151 (trim_ok (x := x + y) ⟨zs.set xs.length c, Dg.made' (Mem.add_at _ _ _) (okd_set hzo _ (by omega)) (by simpa using hzl) (by omega), by rw [List.take_of_length_le (by simp; omega)] at st; omega⟩) ?_; rintro v6 m6 hm6 hv6
        refine was ?_
        refine wns ?_
        refine w_ret ?_
        refine at_endp (res1 rfl rfl) ?_
        exact hv6

theorem Sub_ok {m : Mem} {v u : Value} {x y : Nat} (hv : Nt m v x) (hu : Nt m u y) (hle : y ≤ x) (hl : dlen x ≤ 35184372088832) : Pure Tryz.prog 107 #[v, u] m fun r m' => ∃ q, r = .tuple #[q, .bool true] ∧ Nn m' q (x - y) := by
  refine enterp Tryz.func107 rfl rfl ?_
  intro K hm0 hks
  refine wsr ?_
  refine was ?_
  refine was ?_
  refine wnr ?_
  refine wmv ?_
  refine wl_callp rfl rfl rfl Tryz.c151 (trim_ok hv) ?_; rintro v1 m1 hm1 ⟨xs, hx0, hxv, hxn⟩
  refine wmv ?_
  refine wl_callp rfl rfl rfl Tryz.c151 (trim_ok (hu.up hm1)) ?_; rintro v2 m2 hm2 ⟨ys, hy, hyv, hyn⟩
  refine was ?_
  refine was ?_
  refine wns ?_
  refine w_seq ?_
  refine wsr ?_
  refine wmv ?_
  refine wmv ?_
  refine wl_callp rfl rfl rfl Tryz.c106 (Cmp_ok (x := x) (y := y) ⟨xs, hx0.up hm2, hxv⟩ ⟨ys, hy, hyv⟩) ?_; rintro v3 m3 hm3 rfl
  refine wv (x_lss rfl rfl) ?_
  refine wns ?_
  have ex := dlen_nv hx0.1 hxn
  have ey := dlen_nv hy.1 hyn
  have hlm := dlen_mono hle
  rw [hxv] at ex
  rw [hyv] at ey
  have hx := hx0.up (hm2.trans hm3)
  replace hy := hy.up hm3
  obtain ⟨_, _, a, acap, rfl, _, _⟩ := hx0
  obtain ⟨hxo, hxl, a', acap', e1, hac, har⟩ := hx
  cases e1
  obtain ⟨hyo, hyl, b, bcap, rfl, hbc, hbr⟩ := hy
  refine w_if rfl (fun h1 => ?_) (fun h1 => ?_)
  · skip
    exact absurd h1 (by unfold cmpZ; rw [if_neg (by omega)]; split <;> omega)
  · skip
    refine w_skip ?_
    refine at_seq ?_
    refine wsr ?_
    refine wl_alloc rfl rfl Tryz.zero51 ?_; intro b6
    refine wnr ?_
    refine wv (x_makeFunc rfl rfl) ?_
    refine was ?_
    refine wnr ?_
    refine wmv ?_
    refine wv (x_len Tryz.underlying47 rfl rfl) ?_
    refine wl_make (N := xs.length) rfl rfl Tryz.underlying47 Tryz.size51 Tryz.bytes51 Tryz.zero51 rfl rfl rfl (by omega) (by omega) (by omega) (by omega) ?_; intro b23
    refine was ?_
    refine wns ?_
    refine w_seq ?_
    refine wsr ?_
    refine wmv ?_
    refine wv (x_len Tryz.underlying47 rfl rfl) ?_
    refine wmv ?_
    refine wns ?_
    refine w_block ?_
    refine w_loop (fun r m4 H' env' => ∃ i zs c, m3.le m4 ∧ r + i = ys.length ∧ zs.length = xs.length ∧ okd zs ∧ c ≤ 1 ∧ nv (zs.take i) + nv (ys.take i) = nv (xs.take i) + 4294967296 ^ i * c ∧ H' = [(b23, cl 51 (dsv zs)), (b6, cl 51 [.int .u32 (c : Nat)])] ∧ env' = [(0, .slice a xs.length acap), (1, .slice b ys.length bcap), (5, .bool false), (6, .pointer (some ⟨b6, 0, none⟩)), (7, .func (.func 157) #[] #[.pointer (some ⟨b6, 0, none⟩)]), (8, .slice (some ⟨b23, 0, none⟩) xs.length xs.length), (24, .slice b ys.length bcap), (25, .int .i64 ys.length), (26, .int .i64 (i : Nat))]) ys.length [(0, .slice a xs.length acap), (1, .slice b ys.length bcap), (5, .bool false), (6, .pointer (some ⟨b6, 0, none⟩)), (7, .func (.func 157) #[] #[.pointer (some ⟨b6, 0, none⟩)]), (8, .slice (some ⟨b23, 0, none⟩) xs.length xs.length), (24, .slice b ys.length bcap), (25, .int .i64 ys.length), (26, .int .i64 (0 : Nat))] ⟨0, List.replicate xs.length 0, 0, Mem.le.refl _, rfl, by simp, fun e he => by simp at he; omega, by omega, by simp [nv], by rw [dsv_zero]; rfl, rfl⟩ (by repeat' (first | exact trivial | exact rfl | exact lk_int rfl (by omega) | apply And.intro)) ?_
    rintro r m4 H' env' ⟨i, zs, c, hm4, hri, hzl, hzo, hc, hinv, rfl, rfl⟩
    refine wsr ?_
    refine wv (x_lss rfl rfl) ?_
    refine wns ?_
    refine w_seq ?_
    refine w_if rfl (fun h2 => ?_) (fun h2 => ?_)
    · skip
      have hi : i < ys.length := by omega
      have hi2 : i < xs.length := by omega
      obtain ⟨ba, oa, rfl, hra⟩ := har (by omega)
      obtain ⟨bb, ob, rfl, hrb⟩ := hbr (by omega)
      have hx1 := hxo _ (List.getElem_mem hi2)
      have hy1 := hyo _ (List.getElem_mem hi)
      have st := sub_step (x := xs[i]) (y := ys[i]) (show i < zs.length by omega) hx1 hy1 hc hinv
      have hc' : (if xs[i] < ys[i] + c then 1 else 0) ≤ 1 := by split <;> omega
      refine w_skip ?_
      refine at_seq ?_
      refine w_seq ?_
      refine w_block ?_
      refine wsr ?_
      refine wmv ?_
      refine wv (x_index Tryz.underlying47 Tryz.size51 rfl rfl rfl (by omega)) ?_
      refine wv (x_load Tryz.plain51 rfl (((hrb.up hm4).heap.nth i (dsv_get hi) (by omega)))) ?_
      refine was ?_
      refine was ?_
      refine wns ?_
      refine w_region ?_
      refine wmv ?_
      refine wmv ?_
      refine wmv ?_
      refine wmv ?_
      refine wmv ?_
      refine wv (x_index Tryz.underlying47 Tryz.size51 rfl rfl rfl (by omega)) ?_
      refine wv (x_load Tryz.plain51 rfl (((hra.up hm4).heap.nth i (dsv_get hi2) (by omega)))) ?_
      refine wmv ?_
      refine wl_callvdp (Hc := [_]) (Hr := [_]) (List.perm_append_comm (l₁ := [_]) (l₂ := [_])) rfl rfl rfl rfl Tryz.c157 (SubF_ok hx1 hy1 hc) ?_; rintro v4 m5 H4 hm5 ⟨rfl, rfl⟩; show WL _ _ _ _ _ _ _ _ [_, _]
      refine wv (x_index Tryz.underlying47 Tryz.size51 rfl rfl rfl (by omega)) ?_
      refine wl_storeAs (xs' := dsv (zs.set i ((xs[i] + 8589934592 - ys[i] - c) % 4294967296))) rfl Tryz.size51 rfl rfl rfl (by simp [dsv]; omega) (dsv_setAs (by omega) (by omega)) ?_
      refine wl_nil ?_
      refine at_block_normal ?_
      refine at_seq ?_
      refine w_region ?_
      refine wv (x_add rfl rfl (wrap_i64 (by omega) (by omega))) ?_
      refine wmv ?_
      refine wl_nil ?_
      exact at_again (r - 1) [(0, .slice (some ⟨ba, oa, none⟩) xs.length acap), (1, .slice (some ⟨bb, ob, none⟩) ys.length bcap), (5, .bool false), (6, .pointer (some ⟨b6, 0, none⟩)), (7, .func (.func 157) #[] #[.pointer (some ⟨b6, 0, none⟩)]), (8, .slice (some ⟨b23, 0, none⟩) xs.length xs.length), (24, .slice (some ⟨bb, ob, none⟩) ys.length bcap), (25, .int .i64 ys.length), (26, .int .i64 (i + 1 : Nat))] (by omega) ⟨i + 1, _, _, hm4.trans hm5, by omega, by simpa using hzl, okd_set hzo _ (Nat.mod_lt _ (by omega)), hc', by rw [nv_take_succ hi, nv_take_succ hi2]; exact st, rfl, rfl⟩ (by repeat' (first | exact trivial | exact rfl | exact lk_int rfl (by omega) | apply And.intro))
    · skip
      obtain rfl : i = ys.length := by omega
      refine w_exit ?_
      refine at_then_exit ?_
      refine at_then_exit ?_
      refine at_block_hit ?_
      refine at_seq ?_
      refine w_seq ?_
      refine wsr ?_
      refine wmv ?_
      refine wv (x_len Tryz.underlying47 rfl rfl) ?_
      refine was ?_
      refine wns ?_
      refine w_block ?_
      refine w_loop (fun r m4 H' env' => ∃ i zs c, m3.le m4 ∧ r + i = xs.length ∧ zs.length = xs.length ∧ okd zs ∧ c ≤ 1 ∧ nv (zs.take i) + nv ys = nv (xs.take i) + 4294967296 ^ i * c ∧ H' = [(b23, cl 51 (dsv zs)), (b6, cl 51 [.int .u32 (c : Nat)])] ∧ env' = [(0, .slice a xs.length acap), (5, .bool false), (6, .pointer (some ⟨b6, 0, none⟩)), (7, .func (.func 157) #[] #[.pointer (some ⟨b6, 0, none⟩)]), (8, .slice (some ⟨b23, 0, none⟩) xs.length xs.length), (11, .int .i64 (i : Nat))]) (xs.length - ys.length) [(0, .slice a xs.length acap), (5, .bool false), (6, .pointer (some ⟨b6, 0, none⟩)), (7, .func (.func 157) #[] #[.pointer (some ⟨b6, 0, none⟩)]), (8, .slice (some ⟨b23, 0, none⟩) xs.length xs.length), (11, .int .i64 (ys.length : Nat))] ⟨ys.length, zs, c, hm4, by omega, hzl, hzo, hc, by rw [List.take_length] at hinv; exact hinv, rfl, rfl⟩ (by repeat' (first | exact trivial | exact rfl | exact lk_int rfl (by omega) | apply And.intro)) ?_
      clear hinv hzl hzo hc
      rintro r2 m5 H' env' ⟨i, zs, c, hm5, hri, hzl, hzo, hc, hinv, rfl, rfl⟩
      refine w_seq ?_
      refine wsr ?_
      refine wmv ?_
      refine wmv ?_
      refine wv (x_len Tryz.underlying47 rfl rfl) ?_
      refine wv (x_lss rfl rfl) ?_
      refine wns ?_
      refine w_if rfl (fun h3 => ?_) (fun h3 => ?_)
      · skip
        have hi2 : i < xs.length := by omega
        obtain ⟨ba, oa, rfl, hra⟩ := har (by omega)
        have hx1 := hxo _ (List.getElem_mem hi2)
        have st := sub_step (x := xs[i]) (y := 0) (show i < zs.length by omega) hx1 (by omega) hc hinv
        have hc' : (if xs[i] < 0 + c then 1 else 0) ≤ 1 := by split <;> omega
        refine w_skip ?_
        refine at_seq ?_
        refine w_seq ?_
        refine w_block ?_
        refine w_region ?_
        refine wmv ?_
        refine wmv ?_
        refine wmv ?_
        refine wmv ?_
        refine wmv ?_
        refine wv (x_index Tryz.underlying47 Tryz.size51 rfl rfl rfl (by omega)) ?_
        refine wv (x_load Tryz.plain51 rfl (((hra.up hm5).heap.nth i (dsv_get hi2) (by omega)))) ?_
        refine wl_callvdp (Hc := [_]) (Hr := [_]) (List.perm_append_comm (l₁ := [_]) (l₂ := [_])) rfl rfl rfl rfl Tryz.c157 (SubF_ok (y := 0) hx1 (by omega) hc) ?_; rintro v5 m6 H5 hm6 ⟨rfl, rfl⟩; show WL _ _ _ _ _ _ _ _ [_, _]
        refine wv (x_index Tryz.underlying47 Tryz.size51 rfl rfl rfl (by omega)) ?_
        refine wl_storeAs (xs' := dsv (zs.set i ((xs[i] + 8589934592 - 0 - c) % 4294967296))) rfl Tryz.size51 rfl rfl rfl (by simp [dsv]; omega) (dsv_setAs (by omega) (by omega)) ?_
        refine wl_nil ?_
        refine at_block_normal ?_
        refine at_seq ?_
        refine w_region ?_
        refine wmv ?_
        refine wv (x_add rfl rfl (wrap_i64 (by omega) (by omega))) ?_
        refine was ?_
        refine wl_nil ?_
        exact at_again (r2 - 1) [(0, .slice (some ⟨ba, oa, none⟩) xs.length acap), (5, .bool false), (6, .pointer (some ⟨b6, 0, none⟩)), (7, .func (.func 157) #[] #[.pointer (some ⟨b6, 0, none⟩)]), (8, .slice (some ⟨b23, 0, none⟩) xs.length xs.length), (11, .int .i64 (i + 1 : Nat))] (by omega) ⟨i + 1, _, _, hm5.trans hm6, by omega, by simpa using hzl, okd_set hzo _ (Nat.mod_lt _ (by omega)), hc', by rw [nv_take_succ hi2, ← Nat.add_assoc] at *; simpa using st, rfl, rfl⟩ (by repeat' (first | exact trivial | exact rfl | exact lk_int rfl (by omega) | apply And.intro))
      · skip
        obtain rfl : i = xs.length := by omega
        rw [List.take_length, List.take_of_length_le (by omega)] at hinv
        have hc0 : c = 0 := by
          have h9 := nv_lt hzo
          rw [hzl] at h9
          rcases Nat.eq_zero_or_pos c with h | h
          · exact h
          · obtain rfl : c = 1 := by omega
            omega
        subst hc0
        refine w_exit ?_
        refine at_then_exit ?_
        refine at_then_exit ?_
        refine at_block_hit ?_
        refine at_seq ?_
        refine wsr ?_
        refine wmv ?_
        refine wl_freeze ?_; intro hfz
        refine wl_callp rfl rfl rfl Tryz.c151 (trim_ok (x := x - y) ⟨zs, Dg.made' (Mem.add_at _ _ _) hzo hzl (by omega), by omega⟩) ?_; rintro v6 m6 hm6 ⟨ds6, ⟨q1, q2, a6, c6, rfl, q3, q4⟩, q5, q6⟩
        refine was ?_
        refine was ?_
        refine wns ?_
        refine w_ret ?_
        refine at_endp (res2 rfl rfl rfl) ?_
        exact ⟨_, rfl, ds6, ⟨q1, q2, a6, c6, rfl, q3, q4⟩, q5, q6⟩

theorem addInto_ok {m : Mem} {b o L cap : Nat} {u : Value} {zs xs : List Nat} (hu : Dg m u xs) (hzo : okd zs) (hL : o + L = zs.length) (hxL : xs.length ≤ L) (hs : zs.length ≤ 35184372088832) (hb : nv zs + 4294967296 ^ o * nv xs < 4294967296 ^ zs.length) :
    Does Tryz.prog 234 #[.slice (some ⟨b, o, none⟩) L cap, u] m [(b, cl 51 (dsv zs))] fun r _ H' => r = .tuple #[] ∧ ∃ ws, ws.length = zs.length ∧ okd ws ∧ nv ws = nv zs + 4294967296 ^ o * nv xs ∧ H' = [(b, cl 51 (dsv ws))] := by
  obtain ⟨hxo, hxl, a, xcap, rfl, hac, har⟩ := hu
  refine enter Tryz.func234 rfl rfl ?_
  intro K hm0 hks
  refine wsr ?_
  refine was ?_
  refine wns ?_
  refine w_seq ?_
  refine wsr ?_
  refine wmv ?_
  refine wv (x_len Tryz.underlying47 rfl rfl) ?_
  refine wmv ?_
  refine wns ?_
  refine w_block ?_
  refine w_loop (fun r m' H' env' => ∃ i ws c, m.le m' ∧ r + i = xs.length ∧ ws.length = zs.length ∧ okd ws ∧ c ≤ 1 ∧ nv ws + 4294967296 ^ (o + i) * c = nv zs + 4294967296 ^ o * nv (xs.take i) ∧ H' = [(b, cl 51 (dsv ws))] ∧ env' = [(0, .slice (some ⟨b, o, none⟩) L cap), (1, .slice a xs.length xcap), (4, .int .u32 (c : Nat)), (8, .slice a xs.length xcap), (9, .int .i64 xs.length), (10, .int .i64 (i : Nat))]) xs.length [(0, .slice (some ⟨b, o, none⟩) L cap), (1, .slice a xs.length xcap), (4, .int .u32 (0 : Nat)), (8, .slice a xs.length xcap), (9, .int .i64 xs.length), (10, .int .i64 (0 : Nat))] ⟨0, zs, 0, Mem.le.refl _, rfl, rfl, hzo, by omega, by simp [nv], rfl, rfl⟩ (by repeat' (first | exact trivial | exact rfl | exact lk_int rfl (by omega) | apply And.intro)) ?_
  rintro r m1 H' env' ⟨i, ws, c, hm1, hri, hwl, hwo, hc, hinv, rfl, rfl⟩
  refine wsr ?_
  refine wv (x_lss rfl rfl) ?_
  refine wns ?_
  refine w_seq ?_
  refine w_if rfl (fun h1 => ?_) (fun h1 => ?_)
  · skip
    have hi : i < xs.length := by omega
    have hk : o + i < ws.length := by omega
    obtain ⟨bx, ox, rfl, hrx⟩ := har (by omega)
    have hx := hxo _ (List.getElem_mem hi)
    have hw := hwo _ (List.getElem_mem hk)
    have st := into_step hk hi hinv
    refine w_skip ?_
    refine at_seq ?_
    refine w_seq ?_
    refine w_block ?_
    refine wsr ?_
    refine wmv ?_
    refine wv (x_index Tryz.underlying47 Tryz.size51 rfl rfl rfl (by omega)) ?_
    refine wv (x_load Tryz.plain51 rfl (((hrx.up hm1).heap.nth i (dsv_get hi) (by omega)))) ?_
    refine was ?_
    refine was ?_
    refine wns ?_
    refine w_region ?_
    refine wmv ?_
    refine wmv ?_
    refine wmv ?_
    refine wmv ?_
    refine wv (x_index Tryz.underlying47 Tryz.size51 rfl rfl (j := i) (by omega) (by omega)) ?_
    refine wv (x_load Tryz.plain51 rfl (rowH1 (.head _) (dsv_at hk (by omega)))) ?_
    refine wmv ?_
    refine wmv ?_
    refine wl_callp rfl rfl rfl Tryz.c156 (add32_ok hw hx hc) ?_; rintro v2 m2 hm2 rfl
    refine wmv ?_
    refine wex ?_
    refine wex ?_
    refine wv (x_index Tryz.underlying47 Tryz.size51 rfl rfl (j := i) (by omega) (by omega)) ?_
    refine wl_storeAs (xs' := dsv (ws.set (o + i) ((ws[o + i] + xs[i] + c) % 4294967296))) rfl Tryz.size51 rfl rfl rfl (by simp [dsv]; omega) (dsv_setAs (by omega) (by omega)) ?_
    refine was ?_
    refine wl_nil ?_
    refine at_block_normal ?_
    refine at_seq ?_
    refine w_region ?_
    refine wv (x_add rfl rfl (wrap_i64 (by omega) (by omega))) ?_
    refine wmv ?_
    refine wl_nil ?_
    exact at_again (r - 1) [(0, .slice (some ⟨b, o, none⟩) L cap), (1, .slice (some ⟨bx, ox, none⟩) xs.length xcap), (4, .int .u32 ((ws[o + i] + xs[i] + c) / 4294967296 : Nat)), (8, .slice (some ⟨bx, ox, none⟩) xs.length xcap), (9, .int .i64 xs.length), (10, .int .i64 (i + 1 : Nat))] (by omega) ⟨i + 1, _, _, hm1.trans hm2, by omega, by simpa using hwl, okd_set hwo _ (Nat.mod_lt _ (by omega)), by omega, st, rfl, rfl⟩ (by repeat' (first | exact trivial | exact rfl | exact lk_int rfl (by omega) | apply And.intro))
  · skip
    obtain rfl : i = xs.length := by omega
    rw [List.take_length] at hinv
    refine w_exit ?_
    refine at_then_exit ?_
    refine at_then_exit ?_
    refine at_block_hit ?_
    refine at_seq ?_
    refine wsr ?_
    refine wmv ?_
    refine wv (x_len Tryz.underlying47 rfl rfl) ?_
    refine was ?_
    refine wns ?_
    refine w_block ?_
    refine w_loop (fun r m' H' env' => ∃ i ws c, m.le m' ∧ r + i = L ∧ ws.length = zs.length ∧ okd ws ∧ c ≤ 1 ∧ nv ws + 4294967296 ^ (o + i) * c = nv zs + 4294967296 ^ o * nv xs ∧ H' = [(b, cl 51 (dsv ws))] ∧ env' = [(0, .slice (some ⟨b, o, none⟩) L cap), (4, .int .u32 (c : Nat)), (7, .int .i64 (i : Nat))]) (L - xs.length) [(0, .slice (some ⟨b, o, none⟩) L cap), (4, .int .u32 (c : Nat)), (7, .int .i64 (xs.length : Nat))] ⟨xs.length, ws, c, hm1, by omega, hwl, hwo, hc, hinv, rfl, rfl⟩ (by repeat' (first | exact trivial | exact rfl | exact lk_int rfl (by omega) | apply And.intro)) ?_
    clear hinv hwl hwo hc
    rintro r m2 H' env' ⟨i, ws, c, hm2, hri, hwl, hwo, hc, hinv, rfl, rfl⟩
    have hsz := nv_lt hwo
    refine w_seq ?_
    refine wsr ?_
    refine wmv ?_
    refine wv (x_neq rfl rfl) ?_
    refine wmv ?_
    refine wl_splitp (t := 33) rfl (fun h2 => ?_) (fun h2 => ?_)
    · skip
      refine wmv ?_
      refine wmv ?_
      refine wv (x_len Tryz.underlying47 rfl rfl) ?_
      refine wv (x_lss rfl rfl) ?_
      refine wv (x_pick_t rfl rfl) ?_
      refine wns ?_
      refine w_if rfl (fun h3 => ?_) (fun h3 => ?_)
      · skip
        have hk : o + i < ws.length := by omega
        have hw := hwo _ (List.getElem_mem hk)
        have st := into_carry hk hinv
        refine w_skip ?_
        refine at_seq ?_
        refine w_seq ?_
        refine w_block ?_
        refine w_region ?_
        refine wmv ?_
        refine wmv ?_
        refine wmv ?_
        refine wmv ?_
        refine wv (x_index Tryz.underlying47 Tryz.size51 rfl rfl (j := i) (by omega) (by omega)) ?_
        refine wv (x_load Tryz.plain51 rfl (rowH1 (.head _) (dsv_at hk (by omega)))) ?_
        refine wmv ?_
        refine wl_callp rfl rfl rfl Tryz.c156 (add32_ok (y := 0) hw (by omega) hc) ?_; rintro v3 m3 hm3 rfl
        refine wmv ?_
        refine wex ?_
        refine wex ?_
        refine wv (x_index Tryz.underlying47 Tryz.size51 rfl rfl (j := i) (by omega) (by omega)) ?_
        refine wl_storeAs (xs' := dsv (ws.set (o + i) ((ws[o + i] + 0 + c) % 4294967296))) rfl Tryz.size51 rfl rfl rfl (by simp [dsv]; omega) (dsv_setAs (by omega) (by omega)) ?_
        refine was ?_
        refine wl_nil ?_
        refine at_block_normal ?_
        refine at_seq ?_
        refine w_region ?_
        refine wmv ?_
        refine wv (x_add rfl rfl (wrap_i64 (by omega) (by omega))) ?_
        refine was ?_
        refine wl_nil ?_
        exact at_again (r - 1) [(0, .slice (some ⟨b, o, none⟩) L cap), (4, .int .u32 ((ws[o + i] + 0 + c) / 4294967296 : Nat)), (7, .int .i64 (i + 1 : Nat))] (by omega) ⟨i + 1, _, _, hm2.trans hm3, by omega, by simpa using hwl, okd_set hwo _ (Nat.mod_lt _ (by omega)), by omega, st, rfl, rfl⟩ (by repeat' (first | exact trivial | exact rfl | exact lk_int rfl (by omega) | apply And.intro))
      · skip
        exfalso
        have hc1 : c = 1 := by omega
        subst hc1
        have : o + i = zs.length := by omega
        rw [this] at hinv
        omega
    · skip
      have hc0 : c = 0 := by omega
      subst hc0
      refine wl_off rfl rfl rfl ?_
      refine wl_off rfl rfl rfl ?_
      refine wl_off rfl rfl rfl ?_
      refine wl_off rfl rfl rfl ?_
      refine wv (x_pick_f rfl rfl) ?_
      refine wns ?_
      refine w_false rfl ?_
      refine w_exit ?_
      refine at_then_exit ?_
      refine at_then_exit ?_
      refine at_block_hit ?_
      refine at_end_normal (res0 rfl) ?_
      exact ⟨rfl, ws, hwl, hwo, by omega, rfl⟩
end Go.Cy


/- natural.product, Mul. -/
namespace Go.Cy
open Go Go.Proofs
set_option maxRecDepth 20000

theorem Dg.drop {m : Mem} {a : Option Addr} {cap : Nat} {ds : List Nat} (h : Dg m (.slice a ds.length cap) ds) {k : Nat} (hk : k ≤ ds.length) : Dg m (.slice (offTo a k 1 cap) (ds.length - k) (cap - k)) (ds.drop k) := by
  obtain ⟨h1, h2, a', cap', h3, h4, h5⟩ := h
  simp only [Value.slice.injEq, true_and] at h3
  obtain ⟨rfl, rfl⟩ := h3
  refine ⟨okd_drop h1 k, by simp; omega, offTo a k 1 cap, cap - k, by simp, by simp; omega, fun h0 => ?_⟩
  simp at h0
  obtain ⟨b, o, rfl, h7⟩ := h5 (by omega)
  refine ⟨b, o + k, by rw [offTo_lt (by omega), Nat.mul_one], h7.sub k rfl fun j hj => ?_⟩
  simp [dsv] at hj ⊢
theorem half_int (n : Nat) : ((n : Int) + 1).tdiv 2 = (((n + 1) / 2 : Nat) : Int) := by
  rw [Int.tdiv_eq_ediv_of_nonneg (by omega)]
  omega

theorem splice_dsv {ds vs : List Nat} {o : Nat} (h : o + vs.length ≤ ds.length) : splice (dsv ds) o (dsv vs) = dsv (ds.take o ++ vs ++ ds.drop (o + vs.length)) := by
  rw [splice_eq _ _ _ (by simpa [dsv] using h)]
  simp [dsv]
def Pr (xs ys : List Nat) (m : Mem) (r : Value) : Prop := ∃ zs, Dg m r zs ∧ zs.length = xs.length + ys.length ∧ nv zs = nv xs * nv ys
theorem Pr.up {xs ys : List Nat} {m m' : Mem} {r : Value} (h : Pr xs ys m r) (hm : m.le m') : Pr xs ys m' r := by obtain ⟨zs, h1, h2⟩ := h; exact ⟨zs, h1.up hm, h2⟩
theorem Pr.nt {xs ys : List Nat} {m : Mem} {r : Value} (h : Pr xs ys m r) : Nt m r (nv xs * nv ys) := by obtain ⟨zs, h1, _, h2⟩ := h; exact ⟨zs, h1, h2⟩
theorem prod_lt {xs ys : List Nat} (hx : okd xs) (hy : okd ys) : nv xs * nv ys < 4294967296 ^ (xs.length + ys.length) := by
  rw [Nat.pow_add]
  exact Nat.mul_lt_mul_of_lt_of_le (nv_lt hx) (Nat.le_of_lt (nv_lt hy)) (Nat.pow_pos (by omega))
theorem part_lt {A M h N : Nat} (h1 : h ≤ N) (hA : 4294967296 ^ h * M ≤ A) (hlt : A < 4294967296 ^ N) : M < 4294967296 ^ (N - h) := by
  have hpow : 4294967296 ^ N = 4294967296 ^ h * 4294967296 ^ (N - h) := by rw [← Nat.pow_add, Nat.add_sub_cancel' h1]
  rw [hpow] at hlt
  exact Nat.lt_of_mul_lt_mul_left (Nat.lt_of_le_of_lt hA hlt)
def PrOk (n : Nat) : Prop := ∀ (m : Mem) (v u : Value) (xs ys : List Nat), xs.length + ys.length < n → Dg m v xs → Dg m u ys → xs.length + ys.length ≤ 35184372088800 →
  Pure Tryz.prog 202 #[v, u] m fun r m' => Pr xs ys m' r

theorem product_step {n : Nat} (ih : PrOk n) : PrOk (n + 1) := by
  intro m v u xs0 ys0 hn hv hu hl
  have hv' := hv
  have hu' := hu
  obtain ⟨_, _, a0, acap0, rfl, _, _⟩ := hv
  obtain ⟨_, _, b0, bcap0, rfl, _, _⟩ := hu
  refine enterp Tryz.func202 rfl rfl ?_
  intro K hm0 hks
  refine wsr ?_
  refine was ?_
  refine wns ?_
  refine w_seq_mid (fun m' H' env' => m' = m ∧ H' = [] ∧ ∃ xs ys a b acap bcap, Dg m (.slice a xs.length acap) xs ∧ Dg m (.slice b ys.length bcap) ys ∧ ys.length ≤ xs.length ∧ xs.length + ys.length = xs0.length + ys0.length ∧ nv xs * nv ys = nv xs0 * nv ys0 ∧ env' = [(0, .slice a xs.length acap), (1, .slice b ys.length bcap)]) ?_ ?_
  · skip
    refine wsr ?_
    refine wmv ?_
    refine wv (x_len Tryz.underlying47 rfl rfl) ?_
    refine wmv ?_
    refine wv (x_len Tryz.underlying47 rfl rfl) ?_
    refine wv (x_lss rfl rfl) ?_
    refine wns ?_
    refine w_if rfl (fun h1 => ?_) (fun h1 => ?_)
    · skip
      refine w_region ?_
      refine wmv ?_
      refine wmv ?_
      refine was ?_
      refine was ?_
      refine wl_nil ?_
      exact at_meets [(0, .slice b0 ys0.length bcap0), (1, .slice a0 xs0.length acap0)] ⟨rfl, rfl, ys0, xs0, _, _, _, _, hu', hv', by omega, by omega, Nat.mul_comm _ _, rfl⟩ (by repeat' (first | exact trivial | exact rfl | exact lk_int rfl (by omega) | apply And.intro))
    · skip
      refine w_skip ?_
      exact at_meets [(0, .slice a0 xs0.length acap0), (1, .slice b0 ys0.length bcap0)] ⟨rfl, rfl, xs0, ys0, _, _, _, _, hv', hu', by omega, rfl, rfl, rfl⟩ (by repeat' (first | exact trivial | exact rfl | exact lk_int rfl (by omega) | apply And.intro))
  · skip
    rintro m' H' env' ⟨rfl, rfl, xs, ys, a, b, acap, bcap, hx, hy, hle, hlen, hmul, rfl⟩
    rw [← hlen] at hn hl
    have hfin : ∀ {m r}, Pr xs ys m r → Pr xs0 ys0 m r := fun ⟨zs, h1, h2, h3⟩ => ⟨zs, h1, h2.trans hlen, h3.trans hmul⟩
    clear hlen hmul hv' hu'
    refine w_seq ?_
    refine wsr ?_
    refine wmv ?_
    refine wv (x_len Tryz.underlying47 rfl rfl) ?_
    refine wv (x_lss rfl rfl) ?_
    refine wns ?_
    refine w_if rfl (fun h2 => ?_) (fun h2 => ?_)
    · skip
      refine wsr ?_
      refine wmv ?_
      refine wmv ?_
      refine wl_callp rfl rfl rfl Tryz.c233 (schoolbook_ok hy hx (by omega)) ?_; rintro v1 m1 hm1 ⟨zs, h3, h4, h5⟩
      refine was ?_
      refine wns ?_
      refine w_ret ?_
      refine at_then_ret ?_
      refine at_endp (res1 rfl rfl) ?_
      exact hfin ⟨zs, h3, by omega, by rw [h5, Nat.mul_comm]⟩
    · skip
      have h2' : 48 ≤ ys.length := by omega
      refine w_skip ?_
      refine at_seq ?_
      refine wsr ?_
      refine wmv ?_
      refine wv (x_len Tryz.underlying47 rfl rfl) ?_
      refine wmv ?_
      refine wv (x_len Tryz.underlying47 rfl rfl) ?_
      refine wv (x_add rfl rfl (wrap_i64 (by omega) (by omega))) ?_
      refine wl_make (N := (xs.length + ys.length)) rfl rfl Tryz.underlying47 Tryz.size51 Tryz.bytes51 Tryz.zero51 rfl rfl rfl (by omega) (by omega) (by omega) (by omega) ?_; intro b28
      refine was ?_
      refine wns ?_
      refine w_seq ?_
      refine wsr ?_
      refine wmv ?_
      refine wl_callp rfl rfl rfl Tryz.c100 (IsZero_ok ⟨xs, hx, rfl⟩) ?_; rintro v1 m1 hm1 rfl
      refine wmv ?_
      refine wl_splitp (t := 31) rfl (fun h3 => ?_) (fun h3 => ?_)
      · skip
        refine wl_off rfl rfl rfl ?_
        refine wl_off rfl rfl rfl ?_
        refine wv (x_pick_t rfl rfl) ?_
        refine wns ?_
        refine w_true rfl ?_
        refine wsr ?_
        refine wmv ?_
        refine was ?_
        refine wns ?_
        refine w_ret ?_
        refine at_then_ret ?_
        refine at_freeze ?_; intro hfz
        refine at_endp (res1 rfl rfl) ?_
        exact hfin ⟨List.replicate (xs.length + ys.length) 0, Dg.made' (by rw [← dsv_zero]; exact Mem.add_at _ _ _) (fun e he => by simp at he; omega) (by simp) (by omega), by simp, by rw [h3, nv_zero, Nat.zero_mul]⟩
      · skip
        refine wmv ?_
        refine wl_callp rfl rfl rfl Tryz.c100 (IsZero_ok ⟨ys, hy.up hm1, rfl⟩) ?_; rintro v2 m2 hm2 rfl
        refine wv (x_pick_f rfl rfl) ?_
        refine wns ?_
        refine w_if rfl (fun h4 => ?_) (fun h4 => ?_)
        · skip
          refine wsr ?_
          refine wmv ?_
          refine was ?_
          refine wns ?_
          refine w_ret ?_
          refine at_then_ret ?_
          refine at_freeze ?_; intro hfz
          refine at_endp (res1 rfl rfl) ?_
          exact hfin ⟨List.replicate (xs.length + ys.length) 0, Dg.made' (by rw [← dsv_zero]; exact Mem.add_at _ _ _) (fun e he => by simp at he; omega) (by simp) (by omega), by simp, by rw [h4, nv_zero, Nat.mul_zero]⟩
        · skip
          have hm02 := hm1.trans hm2
          have hxo := hx.1
          have hyo := hy.1
          obtain ⟨hf, hhf⟩ : ∃ k, k = (xs.length + 1) / 2 := ⟨_, rfl⟩
          have x0 := hx.take (k := hf) (by omega)
          have x1 := hx.drop (k := hf) (by omega)
          have hac : xs.length ≤ acap := by obtain ⟨_, _, _, _, e, h, _⟩ := hx; cases e; exact h
          have hbc : ys.length ≤ bcap := by obtain ⟨_, _, _, _, e, h, _⟩ := hy; cases e; exact h
          have exs := nv_split xs hf (by omega)
          have hlt := prod_lt hxo hyo
          have l0 : (xs.take hf).length = hf := by simp; omega
          have l1 : (xs.drop hf).length = xs.length - hf := by simp
          have hsum : nv (xs.take hf) * nv ys + 4294967296 ^ hf * (nv (xs.drop hf) * nv ys) = nv xs * nv ys := by rw [exs, Nat.add_mul, Nat.mul_assoc]
          refine w_skip ?_
          refine at_seq ?_
          refine wsr ?_
          refine wmv ?_
          refine wv (x_len Tryz.underlying47 rfl rfl) ?_
          refine wv (x_add rfl rfl (wrap_i64 (by omega) (by omega))) ?_
          refine wv (x_quo rfl rfl (by omega) (i64n (r := hf) (by rw [hhf]; exact half_int _) (by omega))) ?_
          refine was ?_
          refine wns ?_
          refine w_seq ?_
          refine wsr ?_
          refine wmv ?_
          refine wv (x_len Tryz.underlying47 rfl rfl) ?_
          refine wmv ?_
          refine wv (x_leq rfl rfl) ?_
          refine wns ?_
          refine w_if rfl (fun h5 => ?_) (fun h5 => ?_)
          · skip
            refine wsr ?_
            refine wmv ?_
            refine wmv ?_
            refine wmv ?_
            refine wv (x_sliceTo Tryz.underlying47 Tryz.size51 rfl rfl (by omega)) ?_
            refine wmv ?_
            refine wl_callp rfl rfl rfl Tryz.c202 (ih _ _ _ _ _ (by omega) (x0.up hm02) (hy.up hm02) (by omega)) ?_; rintro v3 m3 hm3 ⟨z1, hz1, hz1l, hz1v⟩
            have hz1' := hz1
            obtain ⟨hz1o, hz1s, az, cz, rfl, hcz, hrz⟩ := hz1
            refine wl_copy rfl rfl rfl Tryz.underlying47 Tryz.size51 rfl rfl rfl (by omega) (by rw [dsv_length, Nat.mul_one]) (Dg.src hrz) (dsv_one z1) (by simp [reps_length, dsv_length]; omega) ?_; rw [dsv_zero, splice_dsv (by simp; omega)]
            refine wns ?_
            refine w_seq ?_
            refine dr_start [] [[], [], [0, 1], [], [], [3, 4], [], [5, 6], [7]] ?_
            refine dr_val rfl rfl (fun m' hm' => ds_val rfl (x_move rfl)) ?_
            refine dr_val rfl rfl (fun m' hm' => ds_val rfl (x_move rfl)) ?_
            refine dr_val rfl rfl (fun m' hm' => ds_val rfl (x_sliceAs (lo := hf) (hi := xs.length + ys.length) (p := some ⟨b28, hf, none⟩) (L := xs.length + ys.length - hf) (C := xs.length + ys.length - hf) Tryz.underlying47 Tryz.size51 rfl (⟨_, by first | rfl | exact lk_int rfl (by omega)⟩) (rfl) (by omega) (by omega) (by first | (rw [offTo_lt (by omega)]; simp) | rfl) (by omega) (by omega))) ?_
            refine dr_val rfl rfl (fun m' hm' => ds_val rfl (x_move rfl)) ?_
            refine dr_val rfl rfl (fun m' hm' => ds_val rfl (x_move rfl)) ?_
            refine dr_val rfl rfl (fun m' hm' => ds_val rfl (x_slice Tryz.underlying47 Tryz.size51 rfl ⟨_, rfl⟩ (rfl) (by omega) (by omega))) ?_
            refine dr_val rfl rfl (fun m' hm' => ds_val rfl (x_move rfl)) ?_
            refine dr_op (.ret (fun r m' => Pr (xs.drop hf) ys m' r) (fun _ _ _ hm h => h.up hm)) rfl rfl (fun m' hm' => ds_call rfl rfl Tryz.c202 (ih _ _ _ _ _ (by rw [l1]; omega) (x1.up (hm02.trans (hm3.trans hm'))) (hy.up (hm02.trans (hm3.trans hm'))) (by rw [l1]; omega))) ?_
            refine dr_op (.ret (fun r m' => Nn m' r (nv (xs.drop hf) * nv ys)) (fun _ _ _ hm h => h.up hm)) rfl rfl (fun m' hm' v7 h7 => ds_call rfl rfl Tryz.c151 (trim_ok h7.nt)) ?_
            refine dr_done (k := 9) Tryz.mixed rfl rfl rfl fun m4 hm_m4 v8 h8 v7 h7 => ?_
            show WL _ _ _ _ _ _ _ _ _
            obtain ⟨z2, hz2, hz2v, hz2n⟩ := h8
            have hz2l := dlen_nv hz2.1 hz2n
            rw [hz2v] at hz2l
            have hz2d : z2.length ≤ xs.length + ys.length - hf := by rw [hz2l]; exact dlen_le (Nat.lt_of_lt_of_le (prod_lt (okd_drop hxo hf) hyo) (Nat.pow_le_pow_right (by omega) (by rw [l1]; omega)))
            have hZ : nv (List.take 0 (List.replicate (xs.length + ys.length) 0) ++ z1 ++ List.drop (0 + z1.length) (List.replicate (xs.length + ys.length) 0)) = nv (xs.take hf) * nv ys := by rw [List.drop_replicate, List.take_zero, List.nil_append, nv_append, nv_zero, Nat.mul_zero, Nat.add_zero, hz1v]
            refine wl_calld0 rfl rfl rfl Tryz.c234 (addInto_ok (L := xs.length + ys.length - hf) hz2 (by intro e he; simp at he; rcases he with he | he; exact hz1o e he; omega) (by simp; omega) hz2d (by simp; omega) (by rw [hZ, hz2v, hsum]; exact Nat.lt_of_lt_of_le hlt (Nat.pow_le_pow_right (by omega) (by simp; omega)))) ?_; rintro v9 m9 H9 hm9 ⟨rfl, ws, hwl, hwo, hwv, rfl⟩
            refine wnr ?_
            refine wmv ?_
            refine was ?_
            refine wns ?_
            refine w_ret ?_
            refine at_then_ret ?_
            refine at_freeze ?_; intro hfz
            refine at_endp (res1 rfl rfl) ?_
            exact hfin ⟨ws, Dg.made' (Mem.add_at _ _ _) hwo (by rw [hwl]; simp; omega) (by omega), by rw [hwl]; simp; omega, by rw [hwv, hZ, hz2v, hsum]⟩
          · skip
            have y0 := hy.take (k := hf) (by omega)
            have y1 := hy.drop (k := hf) (by omega)
            have eys := nv_split ys hf (by omega)
            have k0 : (ys.take hf).length = hf := by simp; omega
            have k1 : (ys.drop hf).length = ys.length - hf := by simp
            have b0 := nv_lt (okd_take hxo hf)
            have b1 := nv_lt (okd_drop hxo hf)
            have b2 := nv_lt (okd_take hyo hf)
            have b3 := nv_lt (okd_drop hyo hf)
            rw [l0] at b0
            rw [k0] at b2
            have p1 : 4294967296 ^ (xs.drop hf).length ≤ 4294967296 ^ hf := Nat.pow_le_pow_right (by omega) (by rw [l1]; omega)
            have p2 : 4294967296 ^ (ys.drop hf).length ≤ 4294967296 ^ hf := Nat.pow_le_pow_right (by omega) (by rw [k1]; omega)
            have d0 : dlen (nv (xs.take hf)) ≤ hf := dlen_le b0
            have d1 : dlen (nv (xs.drop hf)) ≤ hf := dlen_le (by omega)
            have d2 : dlen (nv (ys.take hf)) ≤ hf := dlen_le b2
            have d3 : dlen (nv (ys.drop hf)) ≤ hf := dlen_le (by omega)
            have d4 : dlen (nv (xs.take hf) + nv (xs.drop hf)) ≤ hf + 1 := dlen_le (by rw [Nat.pow_succ]; omega)
            have d5 : dlen (nv (ys.take hf) + nv (ys.drop hf)) ≤ hf + 1 := dlen_le (by rw [Nat.pow_succ]; omega)
            have d6 := dlen_mul (nv (xs.take hf)) (nv (ys.take hf))
            have d7 := dlen_mul (nv (xs.drop hf)) (nv (ys.drop hf))
            have d8 := dlen_mul (nv (xs.take hf) + nv (xs.drop hf)) (nv (ys.take hf) + nv (ys.drop hf))
            have kz := karatsuba (nv (xs.take hf)) (nv (xs.drop hf)) (nv (ys.take hf)) (nv (ys.drop hf))
            have ks := karatsuba_sum (nv (xs.take hf)) (nv (xs.drop hf)) (nv (ys.take hf)) (nv (ys.drop hf)) (4294967296 ^ hf)
            rw [← exs, ← eys] at ks
            have kle : nv (xs.take hf) * nv (ys.take hf) + nv (xs.drop hf) * nv (ys.drop hf) ≤ (nv (xs.take hf) + nv (xs.drop hf)) * (nv (ys.take hf) + nv (ys.drop hf)) := by rw [Nat.add_mul, Nat.mul_add, Nat.mul_add]; omega
            refine w_skip ?_
            refine at_seq ?_
            refine w_seq ?_
            refine dr_start [] [[], [], [0, 1], [], [], [3, 4]] ?_
            refine dr_val rfl rfl (fun m' hm' => ds_val rfl (x_move rfl)) ?_
            refine dr_val rfl rfl (fun m' hm' => ds_val rfl (x_move rfl)) ?_
            refine dr_val rfl rfl (fun m' hm' => ds_val rfl (x_sliceTo Tryz.underlying47 Tryz.size51 rfl rfl (by omega))) ?_
            refine dr_val rfl rfl (fun m' hm' => ds_val rfl (x_move rfl)) ?_
            refine dr_val rfl rfl (fun m' hm' => ds_val rfl (x_move rfl)) ?_
            refine dr_val rfl rfl (fun m' hm' => ds_val rfl (x_sliceTo Tryz.underlying47 Tryz.size51 rfl rfl (by omega))) ?_
            refine dr_done (k := 6) Tryz.mixed rfl rfl rfl fun m3 hm_m3 => ?_
            show WL _ _ _ _ _ _ _ _ _
            refine wl_callp rfl rfl rfl Tryz.c202 (ih _ _ _ _ _ (by rw [l0, k0]; omega) (x0.up (hm02.trans hm_m3)) (y0.up (hm02.trans hm_m3)) (by rw [l0, k0]; omega)) ?_; rintro v4 m4 hm4 ⟨z1, hz1, hz1l, hz1v⟩
            refine was ?_
            refine wns ?_
            refine w_seq ?_
            refine dr_start [] [[], [], [0, 1], [], [], [3, 4]] ?_
            refine dr_val rfl rfl (fun m' hm' => ds_val rfl (x_move rfl)) ?_
            refine dr_val rfl rfl (fun m' hm' => ds_val rfl (x_move rfl)) ?_
            refine dr_val rfl rfl (fun m' hm' => ds_val rfl (x_slice Tryz.underlying47 Tryz.size51 rfl ⟨_, rfl⟩ (rfl) (by omega) (by omega))) ?_
            refine dr_val rfl rfl (fun m' hm' => ds_val rfl (x_move rfl)) ?_
            refine dr_val rfl rfl (fun m' hm' => ds_val rfl (x_move rfl)) ?_
            refine dr_val rfl rfl (fun m' hm' => ds_val rfl (x_slice Tryz.underlying47 Tryz.size51 rfl ⟨_, rfl⟩ (rfl) (by omega) (by omega))) ?_
            refine dr_done (k := 6) Tryz.mixed rfl rfl rfl fun m5 hm_m5 => ?_
            show WL _ _ _ _ _ _ _ _ _
            refine wl_callp rfl rfl rfl Tryz.c202 (ih _ _ _ _ _ (by rw [l1, k1]; omega) (x1.up (hm02.trans (hm_m3.trans (hm4.trans hm_m5)))) (y1.up (hm02.trans (hm_m3.trans (hm4.trans hm_m5)))) (by rw [l1, k1]; omega)) ?_; rintro v6 m6 hm6 ⟨z2, hz2, hz2l, hz2v⟩
            refine was ?_
            refine wns ?_
            refine w_seq ?_
            have hm06 := hm02.trans (hm_m3.trans (hm4.trans (hm_m5.trans hm6)))
            refine dr_start [] [[], [], [0, 1], [], [], [3, 4], [2, 5], [], [], [7, 8], [], [], [10, 11]] ?_
            refine dr_val rfl rfl (fun m' hm' => ds_val rfl (x_move rfl)) ?_
            refine dr_val rfl rfl (fun m' hm' => ds_val rfl (x_move rfl)) ?_
            refine dr_val rfl rfl (fun m' hm' => ds_val rfl (x_sliceTo Tryz.underlying47 Tryz.size51 rfl rfl (by omega))) ?_
            refine dr_val rfl rfl (fun m' hm' => ds_val rfl (x_move rfl)) ?_
            refine dr_val rfl rfl (fun m' hm' => ds_val rfl (x_move rfl)) ?_
            refine dr_val rfl rfl (fun m' hm' => ds_val rfl (x_slice Tryz.underlying47 Tryz.size51 rfl ⟨_, rfl⟩ (rfl) (by omega) (by omega))) ?_
            refine dr_op (.ret (fun r m' => Nn m' r (nv (xs.take hf) + nv (xs.drop hf))) (fun _ _ _ hm h => h.up hm)) rfl rfl (fun m' hm' => ds_call rfl rfl Tryz.c105 (Add_ok ⟨_, x0.up (hm06.trans hm'), rfl⟩ ⟨_, x1.up (hm06.trans hm'), rfl⟩ ⟨by omega, by omega⟩)) ?_
            refine dr_val rfl rfl (fun m' hm' => ds_val rfl (x_move rfl)) ?_
            refine dr_val rfl rfl (fun m' hm' => ds_val rfl (x_move rfl)) ?_
            refine dr_val rfl rfl (fun m' hm' => ds_val rfl (x_sliceTo Tryz.underlying47 Tryz.size51 rfl rfl (by omega))) ?_
            refine dr_val rfl rfl (fun m' hm' => ds_val rfl (x_move rfl)) ?_
            refine dr_val rfl rfl (fun m' hm' => ds_val rfl (x_move rfl)) ?_
            refine dr_val rfl rfl (fun m' hm' => ds_val rfl (x_slice Tryz.underlying47 Tryz.size51 rfl ⟨_, rfl⟩ (rfl) (by omega) (by omega))) ?_
            refine dr_done (k := 13) Tryz.mixed rfl rfl rfl fun m7 hm_m7 v6 h6 => ?_
            show WL _ _ _ _ _ _ _ _ _
            refine wl_callp rfl rfl rfl Tryz.c105 (Add_ok ⟨_, y0.up (hm06.trans hm_m7), rfl⟩ ⟨_, y1.up (hm06.trans hm_m7), rfl⟩ ⟨by omega, by omega⟩) ?_; rintro v8 m8 hm8 ⟨t2, ht2, ht2v, ht2n⟩
            obtain ⟨t1, ht1, ht1v, ht1n⟩ := h6
            have e1 := dlen_nv ht1.1 ht1n
            have e2 := dlen_nv ht2.1 ht2n
            rw [ht1v] at e1
            rw [ht2v] at e2
            refine wl_callp rfl rfl rfl Tryz.c202 (ih _ _ _ _ _ (by omega) (ht1.up hm8) ht2 (by omega)) ?_; rintro v9 m9 hm9 ⟨z3, hz3, hz3l, hz3v⟩
            refine was ?_
            refine wnr ?_
            refine wmv ?_
            refine wmv ?_
            refine wmv ?_
            have hm69 := hm_m7.trans (hm8.trans hm9)
            rw [ht1v, ht2v] at hz3v
            refine wl_callp rfl rfl rfl Tryz.c105 (Add_ok ⟨_, hz1.up (hm_m5.trans (hm6.trans hm69)), hz1v⟩ ⟨_, hz2.up hm69, hz2v⟩ ⟨by omega, by omega⟩) ?_; rintro v10 m10 hm10 hv10
            refine wl_callp rfl rfl rfl Tryz.c107 (Sub_ok ⟨_, hz3.up hm10, hz3v⟩ hv10.nt kle (by omega)) ?_; rintro v11 m11 hm11 ⟨q, rfl, hq⟩
            rw [kz] at hq
            have hz1' := hz1.up (hm_m5.trans (hm6.trans (hm69.trans (hm10.trans hm11))))
            have hz2' := hz2.up (hm69.trans (hm10.trans hm11))
            obtain ⟨_, _, az, cz, rfl, _, _⟩ := hz1
            obtain ⟨hz1o, hz1s, _, _, ez, hcz, hrz⟩ := hz1'
            cases ez
            obtain ⟨_, _, ay, cy, rfl, _, _⟩ := hz2
            obtain ⟨hz2o, hz2s, _, _, ey, hcy, hry⟩ := hz2'
            cases ey
            refine wmv ?_
            refine wex ?_
            refine wex ?_
            refine was ?_
            refine wnr ?_
            refine wmv ?_
            refine wmv ?_
            refine wl_copy rfl rfl rfl Tryz.underlying47 Tryz.size51 rfl rfl rfl (by omega) (by rw [dsv_length, Nat.mul_one]) (Dg.src hrz) (dsv_one z1) (by simp [reps_length, dsv_length]; omega) ?_; rw [dsv_zero, splice_dsv (by simp; omega)]
            refine wnr ?_
            refine wmv ?_
            refine wmv ?_
            refine wv (x_mul rfl rfl (i64n (r := 2 * hf) (by omega) (by omega))) ?_
            refine wv (x_sliceAs (lo := 2 * hf) (hi := xs.length + ys.length) (p := some ⟨b28, 2 * hf, none⟩) (L := xs.length + ys.length - 2 * hf) (C := xs.length + ys.length - 2 * hf) Tryz.underlying47 Tryz.size51 rfl (⟨_, by first | rfl | exact lk_int rfl (by omega)⟩) (rfl) (by omega) (by omega) (by first | (rw [offTo_lt (by omega)]; simp) | rfl) (by omega) (by omega)) ?_
            refine wmv ?_
            refine wl_copy rfl rfl rfl Tryz.underlying47 Tryz.size51 rfl rfl rfl (by omega) (by rw [dsv_length, Nat.mul_one]) (Dg.src hry) (dsv_one z2) (by simp [dsv_length]; omega) ?_; rw [splice_dsv (by simp; omega)]
            refine wnr ?_
            refine wmv ?_
            refine wmv ?_
            refine wv (x_sliceAs (lo := hf) (hi := xs.length + ys.length) (p := some ⟨b28, hf, none⟩) (L := xs.length + ys.length - hf) (C := xs.length + ys.length - hf) Tryz.underlying47 Tryz.size51 rfl (⟨_, by first | rfl | exact lk_int rfl (by omega)⟩) (rfl) (by omega) (by omega) (by first | (rw [offTo_lt (by omega)]; simp) | rfl) (by omega) (by omega)) ?_
            have hZe : List.take (2 * hf) (List.take 0 (List.replicate (xs.length + ys.length) 0) ++ z1 ++ List.drop (0 + z1.length) (List.replicate (xs.length + ys.length) 0)) ++ z2 ++ List.drop (2 * hf + z2.length) (List.take 0 (List.replicate (xs.length + ys.length) 0) ++ z1 ++ List.drop (0 + z1.length) (List.replicate (xs.length + ys.length) 0)) = z1 ++ z2 := by rw [List.take_zero, List.nil_append, List.take_left' (by omega), List.drop_eq_nil_of_le (by simp; omega), List.append_nil]
            have hzz : nv (z1 ++ z2) = nv (List.take hf xs) * nv (List.take hf ys) + 4294967296 ^ hf * 4294967296 ^ hf * (nv (List.drop hf xs) * nv (List.drop hf ys)) := by rw [nv_append, hz1v, hz2v, show z1.length = hf + hf by omega, Nat.pow_add]
            have hZl : (z1 ++ z2).length = xs.length + ys.length := by rw [List.length_append]; omega
            have hZo := okd_append hz1o hz2o
            rw [hZe]
            generalize z1 ++ z2 = Z at hZe hzz hZl hZo ⊢
            obtain ⟨z4, hz4, hz4v, hz4n⟩ := hq
            have hz4l := dlen_nv hz4.1 hz4n
            rw [hz4v] at hz4l
            have hz4d : z4.length ≤ xs.length + ys.length - hf := by rw [hz4l]; exact dlen_le (part_lt (by omega) (by rw [← ks]; omega) hlt)
            refine wmv ?_
            refine wl_calld0 rfl rfl rfl Tryz.c234 (addInto_ok (L := xs.length + ys.length - hf) hz4 hZo (by omega) hz4d (by omega) (by rw [hzz, hz4v, ks, hZl]; exact hlt)) ?_; rintro v12 m12 H12 hm12 ⟨rfl, ws, hwl, hwo, hwv, rfl⟩
            refine wnr ?_
            refine wmv ?_
            refine was ?_
            refine wns ?_
            refine w_ret ?_
            refine at_freeze ?_; intro hfz
            refine at_endp (res1 rfl rfl) ?_
            exact hfin ⟨ws, Dg.made' (Mem.add_at _ _ _) hwo (by omega) (by omega), by omega, by rw [hwv, hzz, hz4v, ks]⟩

theorem product_ok {m : Mem} {v u : Value} {xs ys : List Nat} (hv : Dg m v xs) (hu : Dg m u ys) (hl : xs.length + ys.length ≤ 35184372088800) : Pure Tryz.prog 202 #[v, u] m fun r m' => Pr xs ys m' r := by
  have h : ∀ n, PrOk n := fun n => by
    induction n with
    | zero => exact fun _ _ _ _ _ h => absurd h (Nat.not_lt_zero _)
    | succ n ih => exact product_step ih
  exact h _ m v u xs ys (Nat.lt_succ_self _) hv hu hl

theorem Mul_ok {m : Mem} {v u : Value} {x y : Nat} (hv : Nt m v x) (hu : Nt m u y) (hl : dlen x + dlen y ≤ 35184372088800) :
    Pure Tryz.prog 167 #[v, u] m fun r m' => Nn m' r (x * y) := by
  refine enterp Tryz.func167 rfl rfl ?_
  intro K hm0 hks
  refine wsr ?_
  refine was ?_
  refine wnr ?_
  refine wmv ?_
  refine wl_callp rfl rfl rfl Tryz.c151 (trim_ok hv) ?_; rintro v1 m1 hm1 ⟨xs, hx, rfl, hxn⟩
  refine wmv ?_
  refine wl_callp rfl rfl rfl Tryz.c151 (trim_ok (hu.up hm1)) ?_; rintro v2 m2 hm2 ⟨ys, hy, rfl, hyn⟩
  refine wl_callp rfl rfl rfl Tryz.c202 (product_ok (hx.up hm2) hy (by rw [dlen_nv hx.1 hxn, dlen_nv hy.1 hyn]; exact hl)) ?_; rintro v3 m3 hm3 ⟨zs, hz, hzl, hzv⟩
  refine wl_callp rfl rfl rfl Tryz.c151 (trim_ok ⟨zs, hz, hzv⟩) ?_; rintro v4 m4 hm4 hv4
  refine was ?_
  refine wns ?_
  refine w_ret ?_
  refine at_endp (res1 rfl rfl) ?_
  exact hv4
end Go.Cy


/- natural.product and Mul where one factor is short; integer.Mul, Cmp, Same. -/
namespace Go.Cy
open Go Go.Proofs
set_option maxRecDepth 20000

def cmpI (a b : Int) : Int := if a < b then -1 else if b < a then 1 else 0

theorem sign_cases (x : Int) : (x < 0 ∧ x.sign = -1) ∨ (x = 0 ∧ x.sign = 0) ∨ (0 < x ∧ x.sign = 1) := by
  rcases Int.lt_trichotomy x 0 with h | h | h
  · exact .inl ⟨h, Int.sign_eq_neg_one_of_neg h⟩
  · subst h; exact .inr (.inl ⟨rfl, rfl⟩)
  · exact .inr (.inr ⟨h, Int.sign_eq_one_of_pos h⟩)
theorem cmpI_lt {x y : Int} (h : x.sign < y.sign) : cmpI x y = -1 := by
  have := sign_cases x; have := sign_cases y
  rw [cmpI, if_pos (by omega)]
theorem cmpI_gt {x y : Int} (h : y.sign < x.sign) : cmpI x y = 1 := by
  have := sign_cases x; have := sign_cases y
  rw [cmpI, if_neg (by omega), if_pos (by omega)]
theorem sg_cases (n : Bool) (a : Nat) : (n = true ∧ sg n a = -(a : Int)) ∨ (n = false ∧ sg n a = a) := by cases n <;> simp [sg]
theorem cmpI_neg {n1 n2 : Bool} {a1 a2 : Nat} (h1 : ¬ (sg n1 a1).sign < (sg n2 a2).sign) (h2 : ¬ (sg n2 a2).sign < (sg n1 a1).sign) (h : (sg n1 a1).sign < 0) : cmpI (sg n1 a1) (sg n2 a2) = cmpZ a2 a1 := by
  have := sign_cases (sg n1 a1); have := sign_cases (sg n2 a2); have := sg_cases n1 a1; have := sg_cases n2 a2
  unfold cmpI cmpZ
  repeat' split
  all_goals omega
theorem cmpI_pos {n1 n2 : Bool} {a1 a2 : Nat} (h1 : ¬ (sg n1 a1).sign < (sg n2 a2).sign) (h2 : ¬ (sg n2 a2).sign < (sg n1 a1).sign) (h : ¬ (sg n1 a1).sign < 0) : cmpI (sg n1 a1) (sg n2 a2) = cmpZ a1 a2 := by
  have := sign_cases (sg n1 a1); have := sign_cases (sg n2 a2); have := sg_cases n1 a1; have := sg_cases n2 a2
  unfold cmpI cmpZ
  repeat' split
  all_goals omega

theorem Cmp_ok' {m : Mem} {v u : Value} {x y : Int} (hv : In m v x) (hu : In m u y) : Pure Tryz.prog 65 #[v, u] m fun r _ => r = .int .i64 (cmpI x y) := by
  obtain ⟨n1, s1, a1, rfl, hs1, rfl⟩ := hv
  obtain ⟨n2, s2, a2, rfl, hs2, rfl⟩ := hu
  refine enterp Tryz.func65 rfl rfl ?_
  intro K hm0 hks
  refine wsr ?_
  refine wl_box rfl rfl rfl rfl ?_; intro b2
  refine wl_box rfl rfl rfl rfl ?_; intro b3
  refine was ?_
  refine wns ?_
  refine w_seq ?_
  refine dr_start [] [[], [0], []] ?_
  refine dr_val rfl rfl (fun m' hm' => ds_val rfl (x_loads Tryz.agg49 (by exact Tryz.size49) rfl (rowH0 (.tail _ (.head _))))) ?_
  refine dr_val rfl rfl (fun m' hm' => ds_callc rfl rfl Tryz.c40 (Sign_ok (In.of (hs1.up hm')))) ?_
  refine dr_val rfl rfl (fun m' hm' => ds_val rfl (x_loads Tryz.agg49 (by exact Tryz.size49) rfl (rowH0 (.head _)))) ?_
  refine dr_done (k := 3) Tryz.mixed rfl rfl rfl fun m1 hm_m1 => ?_
  show WL _ _ _ _ _ _ _ _ _
  refine wl_callp rfl rfl rfl Tryz.c40 (Sign_ok (In.of (hs2.up hm_m1))) ?_; rintro v2 m2 hm2 rfl
  refine was ?_
  refine was ?_
  refine wns ?_
  refine w_seq ?_
  refine w_block ?_
  refine wsr ?_
  refine wmv ?_
  refine wmv ?_
  refine wv (x_lss rfl rfl) ?_
  refine was ?_
  refine wns ?_
  refine w_if rfl (fun h1 => ?_) (fun h1 => ?_)
  · skip
    refine wsr ?_
    refine was ?_
    refine wns ?_
    refine w_ret ?_
    refine at_block_ret ?_
    refine at_then_ret ?_
    refine at_endp (res1 rfl rfl) ?_
    rw [cmpI_lt h1]
  · skip
    refine wsr ?_
    refine wmv ?_
    refine wmv ?_
    refine wv (x_gtr rfl rfl) ?_
    refine was ?_
    refine wns ?_
    refine w_if rfl (fun h2 => ?_) (fun h2 => ?_)
    · skip
      refine wsr ?_
      refine was ?_
      refine wns ?_
      refine w_ret ?_
      refine at_block_ret ?_
      refine at_then_ret ?_
      refine at_endp (res1 rfl rfl) ?_
      rw [cmpI_gt h2]
    · skip
      refine wsr ?_
      refine wmv ?_
      refine wv (x_lss rfl rfl) ?_
      refine was ?_
      refine wns ?_
      refine w_if rfl (fun h3 => ?_) (fun h3 => ?_)
      · skip
        refine wsr ?_
        refine wv (x_fieldAddr Tryz.underlying49 rfl Tryz.size47 rfl) ?_
        refine wv (x_load Tryz.plain47 rfl (rowH1 (.head _) rfl)) ?_
        refine wv (x_fieldAddr Tryz.underlying49 rfl Tryz.size47 rfl) ?_
        refine wv (x_load Tryz.plain47 rfl (rowH1 (.tail _ (.head _)) rfl)) ?_
        refine wl_callp rfl rfl rfl Tryz.c106 (Cmp_ok (hs2.up (hm_m1.trans hm2)) (hs1.up (hm_m1.trans hm2))) ?_; rintro v3 m3 hm3 rfl
        refine was ?_
        refine wns ?_
        refine w_ret ?_
        refine at_block_ret ?_
        refine at_then_ret ?_
        refine at_endp (res1 rfl rfl) ?_
        rw [cmpI_neg h1 h2 h3]
      · skip
        refine w_skip ?_
        refine at_block_normal ?_
        refine at_seq ?_
        refine wsr ?_
        refine wv (x_fieldAddr Tryz.underlying49 rfl Tryz.size47 rfl) ?_
        refine wv (x_load Tryz.plain47 rfl (rowH1 (.tail _ (.head _)) rfl)) ?_
        refine wv (x_fieldAddr Tryz.underlying49 rfl Tryz.size47 rfl) ?_
        refine wv (x_load Tryz.plain47 rfl (rowH1 (.head _) rfl)) ?_
        refine wl_callp rfl rfl rfl Tryz.c106 (Cmp_ok (hs1.up (hm_m1.trans hm2)) (hs2.up (hm_m1.trans hm2))) ?_; rintro v3 m3 hm3 rfl
        refine was ?_
        refine wns ?_
        refine w_ret ?_
        refine at_endp (res1 rfl rfl) ?_
        rw [cmpI_pos h1 h2 h3]

theorem Same_ok {m : Mem} {v u : Value} {x y : Int} (hv : In m v x) (hu : In m u y) : Pure Tryz.prog 29 #[v, u] m fun r _ => r = .bool (decide (x = y)) := by
  have hv' := hv
  have hu' := hu
  obtain ⟨n1, s1, a1, rfl, hs1, e1⟩ := hv
  obtain ⟨n2, s2, a2, rfl, hs2, e2⟩ := hu
  refine enterp Tryz.func29 rfl rfl ?_
  intro K hm0 hks
  refine wsr ?_
  refine wl_box rfl rfl rfl rfl ?_; intro b2
  refine wl_box rfl rfl rfl rfl ?_; intro b3
  refine was ?_
  refine wnr ?_
  refine wv (x_loads Tryz.agg49 (by exact Tryz.size49) rfl (rowH0 (.tail _ (.head _)))) ?_
  refine wv (x_loads Tryz.agg49 (by exact Tryz.size49) rfl (rowH0 (.head _))) ?_
  refine wl_callp rfl rfl rfl Tryz.c65 (Cmp_ok' hv' hu') ?_; rintro v3 m3 hm3 rfl
  refine wv (x_eql rfl rfl) ?_
  refine was ?_
  refine wns ?_
  refine w_ret ?_
  refine at_endp (res1 rfl rfl) ?_
  rw [show decide (cmpI x y = 0) = decide (x = y) by rw [decide_eq_decide]; unfold cmpI; repeat' split <;> omega]

theorem Mul_ok' {m : Mem} {v u : Value} {x y : Int} (hv : In m v x) (hu : In m u y) (hl : dlen x.natAbs + dlen y.natAbs ≤ 35184372088800) : Pure Tryz.prog 118 #[v, u] m fun r m' => Ic m' r (x * y) := by
  obtain ⟨n1, s1, a1, rfl, hs1, rfl⟩ := hv
  obtain ⟨n2, s2, a2, rfl, hs2, rfl⟩ := hu
  have e1 : (sg n1 a1).natAbs = a1 := by cases n1 <;> simp [sg]
  have e2 : (sg n2 a2).natAbs = a2 := by cases n2 <;> simp [sg]
  rw [e1, e2] at hl
  refine enterp Tryz.func118 rfl rfl ?_
  intro K hm0 hks
  refine wsr ?_
  refine wl_box rfl rfl rfl rfl ?_; intro b2
  refine wl_box rfl rfl rfl rfl ?_; intro b3
  refine wl_alloc rfl rfl Tryz.zero49 ?_; intro b4
  refine wns ?_
  refine w_seq ?_
  refine dr_start [] [[], [0], [], [2], [1, 3], [], [5], [], [7], [6, 8]] ?_
  refine dr_val rfl rfl (fun m' hm' => ds_val rfl (x_fieldAddr Tryz.underlying49 rfl Tryz.size4 rfl)) ?_
  refine dr_val rfl rfl (fun m' hm' => ds_val rfl (x_load Tryz.plain4 rfl (rowH1 (.tail _ (.tail _ (.head _))) rfl))) ?_
  refine dr_val rfl rfl (fun m' hm' => ds_val rfl (x_fieldAddr Tryz.underlying49 rfl Tryz.size4 rfl)) ?_
  refine dr_val rfl rfl (fun m' hm' => ds_val rfl (x_load Tryz.plain4 rfl (rowH1 (.tail _ (.head _)) rfl))) ?_
  refine dr_val rfl rfl (fun m' hm' => ds_val rfl (x_neqB Tryz.underlying4 rfl rfl)) ?_
  refine dr_val rfl rfl (fun m' hm' => ds_val rfl (x_fieldAddr Tryz.underlying49 rfl Tryz.size47 rfl)) ?_
  refine dr_val rfl rfl (fun m' hm' => ds_val rfl (x_load Tryz.plain47 rfl (rowH1 (.tail _ (.tail _ (.head _))) rfl))) ?_
  refine dr_val rfl rfl (fun m' hm' => ds_val rfl (x_fieldAddr Tryz.underlying49 rfl Tryz.size47 rfl)) ?_
  refine dr_val rfl rfl (fun m' hm' => ds_val rfl (x_load Tryz.plain47 rfl (rowH1 (.tail _ (.head _)) rfl))) ?_
  refine dr_op (.ret (fun r m' => Nn m' r (a1 * a2)) (fun _ _ _ hm h => h.up hm)) rfl rfl (fun m' hm' => ds_call rfl rfl Tryz.c167 (Mul_ok (hs1.up hm') (hs2.up hm') hl)) ?_
  refine dr_done (k := 10) Tryz.mixed rfl rfl rfl fun m1 hm_m1 v9 h9 => ?_
  show WL _ _ _ _ _ _ _ _ _
  refine wl_callp rfl rfl rfl Tryz.c104 (signed_ok h9) ?_; rintro v3 m3 hm3 ⟨neg3, s3, a3, rfl, h2, h3, h4⟩
  obtain ⟨ad3, l3, c3, rfl⟩ := h2.slice
  refine wl_storeAll rfl (by exact Tryz.size49) rfl rfl (by simp [Value.oneCell']) rfl ?_
  refine wns ?_
  refine w_ret ?_
  refine at_endp (resA rfl ⟨⟨_, _, _, rfl, rowH0 (.head _), .inr ⟨Tryz.agg49, Tryz.size49, rfl⟩⟩, trivial⟩) ?_
  refine ⟨neg3, _, a3, rfl, h2, ?_, h4⟩
  rw [← h3]
  cases n1 <;> cases n2 <;> simp [sg, Int.mul_neg, Int.neg_mul]
end Go.Cy


/- cmp.Compare, checkpoly.compareExp, slices.Min. -/
namespace Go.Cy
open Go Go.Proofs
set_option maxRecDepth 20000

theorem isNaN_ok {m : Mem} {x : Int} : Pure Tryz.prog 152 #[.int .i64 x] m fun r _ => r = .bool false := by
  refine enterp Tryz.func152 rfl rfl ?_
  intro K hm0 hks
  refine wsr ?_
  refine was ?_
  refine wnr ?_
  refine wmv ?_
  refine wmv ?_
  refine wv (x_neq rfl rfl) ?_
  refine was ?_
  refine wns ?_
  refine w_ret ?_
  refine at_endp (res1 rfl rfl) ?_
  simp
theorem Compare_ok {m : Mem} {x y : Int} : Pure Tryz.prog 102 #[.int .i64 x, .int .i64 y] m fun r _ => r = .int .i64 (cmpI x y) := by
  refine enterp Tryz.func102 rfl rfl ?_
  intro K hm0 hks
  refine wsr ?_
  refine was ?_
  refine wnr ?_
  refine wmv ?_
  refine wl_callp rfl rfl rfl Tryz.c152 (isNaN_ok) ?_; rintro v1 m1 hm1 rfl
  refine was ?_
  refine wnr ?_
  refine wmv ?_
  refine wl_callp rfl rfl rfl Tryz.c152 (isNaN_ok) ?_; rintro v2 m2 hm2 rfl
  refine was ?_
  refine wns ?_
  refine w_seq ?_
  refine wsr ?_
  refine wmv ?_
  refine wns ?_
  refine w_false rfl ?_
  refine w_skip ?_
  refine at_seq ?_
  refine w_seq ?_
  refine wsr ?_
  refine wmv ?_
  refine wns ?_
  refine w_false rfl ?_
  refine w_skip ?_
  refine at_seq ?_
  refine w_seq ?_
  refine wsr ?_
  refine wmv ?_
  refine wmv ?_
  refine wv (x_lss rfl rfl) ?_
  refine wns ?_
  refine w_if rfl (fun h1 => ?_) (fun h1 => ?_)
  · skip
    refine wsr ?_
    refine was ?_
    refine wns ?_
    refine w_ret ?_
    refine at_then_ret ?_
    refine at_endp (res1 rfl rfl) ?_
    rw [cmpI, if_pos h1]
  · skip
    refine w_skip ?_
    refine at_seq ?_
    refine w_seq ?_
    refine wsr ?_
    refine wmv ?_
    refine wmv ?_
    refine wv (x_gtr rfl rfl) ?_
    refine wns ?_
    refine w_if rfl (fun h2 => ?_) (fun h2 => ?_)
    · skip
      refine wsr ?_
      refine was ?_
      refine wns ?_
      refine w_ret ?_
      refine at_then_ret ?_
      refine at_endp (res1 rfl rfl) ?_
      rw [cmpI, if_neg h1, if_pos h2]
    · skip
      refine w_skip ?_
      refine at_seq ?_
      refine wsr ?_
      refine was ?_
      refine wns ?_
      refine w_ret ?_
      refine at_endp (res1 rfl rfl) ?_
      rw [cmpI, if_neg h1, if_neg h2]

def iv (es : List Int) : List Value := es.map fun e => .int .i64 e
theorem iv_get {es : List Int} {i : Nat} (h : i < es.length) : (iv es)[i]? = some (.int .i64 (es.getD i 0)) := by simp [iv, h, List.getD]
def cmpE : Nat → List Int → List Int → Int
  | 0, _, _ => 0
  | k + 1, a, b => if a.getD k 0 ≠ b.getD k 0 then cmpI (a.getD k 0) (b.getD k 0) else cmpE k a b

theorem compareExp_ok {m : Mem} {a b : List Int} (ha : a.length = 4) (hb : b.length = 4) : Pure Tryz.prog 44 #[.agg (iv a).toArray, .agg (iv b).toArray] m fun r _ => r = .int .i64 (cmpE 4 a b) := by
  refine enterp Tryz.func44 rfl rfl ?_
  intro K hm0 hks
  refine wsr ?_
  refine wl_box rfl rfl rfl rfl ?_; intro b2
  refine wl_box rfl rfl rfl rfl ?_; intro b3
  refine was ?_
  refine wns ?_
  refine w_seq ?_
  refine wsr ?_
  refine was ?_
  refine wns ?_
  refine w_block ?_
  refine w_loop (fun k m' H' env' => m.le m' ∧ k ≤ 4 ∧ cmpE 4 a b = cmpE k a b ∧ H' = [(b3, cl 70 (iv b)), (b2, cl 70 (iv a))] ∧ env' = [(2, .pointer (some ⟨b2, 0, none⟩)), (3, .pointer (some ⟨b3, 0, none⟩)), (4, .int .i64 0), (5, .int .i64 ((((k : Nat) : Int) : Int) - 1))]) 4 [(2, .pointer (some ⟨b2, 0, none⟩)), (3, .pointer (some ⟨b3, 0, none⟩)), (4, .int .i64 0), (5, .int .i64 ((((4 : Nat) : Int) : Int) - 1))] ⟨Mem.le.refl _, by omega, rfl, rfl, rfl⟩ (by repeat' (first | exact trivial | exact rfl | exact lk_int rfl (by omega) | apply And.intro)) ?_
  rintro k m1 H' env' ⟨hm1, hk4, he, rfl, rfl⟩
  refine w_seq ?_
  refine wsr ?_
  refine wmv ?_
  refine wv (x_geq rfl rfl) ?_
  refine wns ?_
  refine w_if rfl (fun h1 => ?_) (fun h1 => ?_)
  · skip
    obtain ⟨j, rfl⟩ : ∃ j, k = j + 1 := ⟨k - 1, by omega⟩
    refine w_skip ?_
    refine at_seq ?_
    refine w_seq ?_
    refine w_block ?_
    refine w_seq ?_
    refine dr_start [] [[], [0], [1], [], [3], [4]] ?_
    refine dr_val rfl rfl (fun m' hm' => ds_val rfl (x_move rfl)) ?_
    refine dr_val rfl rfl (fun m' hm' => ds_val rfl (x_indexA Tryz.underlying70 Tryz.size3 rfl rfl (j := j) (by omega) (by omega))) ?_
    refine dr_val rfl rfl (fun m' hm' => ds_val rfl (x_load Tryz.plain3 rfl (rowH1 (v := .int .i64 (a.getD j 0)) (o := 0 + j * 1) (.tail _ (.head _)) (by rw [show 0 + j * 1 = j by omega]; exact iv_get (by omega))))) ?_
    refine dr_val rfl rfl (fun m' hm' => ds_val rfl (x_move rfl)) ?_
    refine dr_val rfl rfl (fun m' hm' => ds_val rfl (x_indexA Tryz.underlying70 Tryz.size3 rfl rfl (j := j) (by omega) (by omega))) ?_
    refine dr_val rfl rfl (fun m' hm' => ds_val rfl (x_load Tryz.plain3 rfl (rowH1 (v := .int .i64 (b.getD j 0)) (o := 0 + j * 1) (.head _) (by rw [show 0 + j * 1 = j by omega]; exact iv_get (by omega))))) ?_
    refine dr_done (k := 6) Tryz.mixed rfl rfl rfl fun m2 hm_m2 => ?_
    show WL _ _ _ _ _ _ _ _ _
    refine wv (x_neq rfl rfl) ?_
    refine wns ?_
    refine w_if rfl (fun h2 => ?_) (fun h2 => ?_)
    · skip
      refine w_seq ?_
      refine dr_start [] [[], [0], [1], [], [3], [4]] ?_
      refine dr_val rfl rfl (fun m' hm' => ds_val rfl (x_move rfl)) ?_
      refine dr_val rfl rfl (fun m' hm' => ds_val rfl (x_indexA Tryz.underlying70 Tryz.size3 rfl rfl (j := j) (by omega) (by omega))) ?_
      refine dr_val rfl rfl (fun m' hm' => ds_val rfl (x_load Tryz.plain3 rfl (rowH1 (v := .int .i64 (a.getD j 0)) (o := 0 + j * 1) (.tail _ (.head _)) (by rw [show 0 + j * 1 = j by omega]; exact iv_get (by omega))))) ?_
      refine dr_val rfl rfl (fun m' hm' => ds_val rfl (x_move rfl)) ?_
      refine dr_val rfl rfl (fun m' hm' => ds_val rfl (x_indexA Tryz.underlying70 Tryz.size3 rfl rfl (j := j) (by omega) (by omega))) ?_
      refine dr_val rfl rfl (fun m' hm' => ds_val rfl (x_load Tryz.plain3 rfl (rowH1 (v := .int .i64 (b.getD j 0)) (o := 0 + j * 1) (.head _) (by rw [show 0 + j * 1 = j by omega]; exact iv_get (by omega))))) ?_
      refine dr_done (k := 6) Tryz.mixed rfl rfl rfl fun m3 hm_m3 => ?_
      show WL _ _ _ _ _ _ _ _ _
      refine wl_callp rfl rfl rfl Tryz.c102 (Compare_ok) ?_; rintro v4 m4 hm4 rfl
      refine was ?_
      refine wns ?_
      refine w_ret ?_
      refine at_block_ret ?_
      refine at_then_ret ?_
      refine at_then_ret ?_
      refine at_block_ret ?_
      refine at_then_ret ?_
      refine at_endp (res1 rfl rfl) ?_
      rw [he, cmpE, if_pos h2]
    · skip
      refine w_skip ?_
      refine at_block_normal ?_
      refine at_seq ?_
      refine w_region ?_
      refine wmv ?_
      refine wv (x_sub rfl rfl (wrap_i64 (by omega) (by omega))) ?_
      refine was ?_
      refine wl_nil ?_
      exact at_again j [(2, .pointer (some ⟨b2, 0, none⟩)), (3, .pointer (some ⟨b3, 0, none⟩)), (4, .int .i64 0), (5, .int .i64 ((((j : Nat) : Int) : Int) - 1))] (by omega) ⟨hm1.trans hm_m2, by omega, by rw [he, cmpE, if_neg h2], rfl, rfl⟩ (by repeat' (first | exact trivial | exact rfl | exact lk_int rfl (by omega) | apply And.intro))
  · skip
    obtain rfl : k = 0 := by omega
    refine w_exit ?_
    refine at_then_exit ?_
    refine at_then_exit ?_
    refine at_block_hit ?_
    refine at_seq ?_
    refine wsr ?_
    refine was ?_
    refine wns ?_
    refine w_ret ?_
    refine at_endp (res1 rfl rfl) ?_
    rw [he]; rfl

def minS : List Int → Int → Int
  | [], a => a
  | y :: l, a => minS l (if y < a then y else a)
def minL : List Int → Int
  | [] => 0
  | x :: l => minS l x
theorem minS_snoc (l : List Int) (y a : Int) : minS (l ++ [y]) a = if y < minS l a then y else minS l a := by
  induction l generalizing a with
  | nil => rfl
  | cons z l ih => exact ih _
theorem minL_take_succ {l : List Int} {k : Nat} (h : k < l.length) (h0 : 0 < k) : minL (l.take (k + 1)) = if l.getD k 0 < minL (l.take k) then l.getD k 0 else minL (l.take k) := by
  rcases l with _ | ⟨x, l⟩
  · exact absurd h (by simp)
  obtain ⟨j, rfl⟩ : ∃ j, k = j + 1 := ⟨k - 1, by omega⟩
  have hj : j < l.length := by simpa using h
  rw [List.take_succ_cons, List.take_succ_cons]
  show minS (l.take (j + 1)) x = if l.getD j 0 < minS (l.take j) x then l.getD j 0 else minS (l.take j) x
  rw [List.take_succ_eq_append_getElem hj, minS_snoc]
  simp [List.getD, hj]
theorem minL1 {l : List Int} (h : 0 < l.length) : minL (l.take 1) = l.getD 0 0 := by
  rcases l with _ | ⟨x, l⟩
  · exact absurd h (by simp)
  · rfl
theorem minS_le (l : List Int) (a : Int) : minS l a ≤ a ∧ ∀ y ∈ l, minS l a ≤ y := by
  induction l generalizing a with
  | nil => exact ⟨Int.le_refl _, fun y h => absurd h List.not_mem_nil⟩
  | cons z l ih =>
    have h := ih (if z < a then z else a)
    have h1 : (if z < a then z else a) ≤ a ∧ (if z < a then z else a) ≤ z := by split <;> omega
    refine ⟨Int.le_trans h.1 h1.1, fun y hy => ?_⟩
    rcases List.mem_cons.1 hy with rfl | hy
    · exact Int.le_trans h.1 h1.2
    · exact h.2 y hy
theorem minS_mem (l : List Int) (a : Int) : minS l a = a ∨ minS l a ∈ l := by
  induction l generalizing a with
  | nil => exact .inl rfl
  | cons z l ih =>
    rcases ih (if z < a then z else a) with h | h
    · simp only [minS]
      rw [h]
      split
      · exact .inr (List.mem_cons_self ..)
      · exact .inl rfl
    · exact .inr (List.mem_cons_of_mem _ h)
theorem minL_nonneg {l : List Int} (h : l ≠ []) : 0 ≤ minL l ↔ ∀ y ∈ l, 0 ≤ y := by
  rcases l with _ | ⟨x, l⟩
  · exact absurd rfl h
  have h1 := minS_le l x
  constructor
  · intro h2 y hy
    have h2 : 0 ≤ minS l x := h2
    rcases List.mem_cons.1 hy with rfl | hy
    · omega
    · have := h1.2 y hy; omega
  · intro h2
    show 0 ≤ minS l x
    rcases minS_mem l x with h3 | h3
    · rw [h3]; exact h2 x (List.mem_cons_self ..)
    · exact h2 _ (List.mem_cons_of_mem _ h3)

theorem Min_ok {m : Mem} {H : Hp} {b o cap : Nat} {es : List Int} (hl : es.length ≤ 4294967296) (h0 : 0 < es.length) (hr : Row m H b o (iv es)) : Does Tryz.prog 41 #[.slice (some ⟨b, o, none⟩) es.length cap] m H fun r _ H' => r = .int .i64 (minL es) ∧ H' = H := by
  refine enter Tryz.func41 rfl rfl ?_
  intro K hm0 hks
  refine wsr ?_
  refine was ?_
  refine wns ?_
  refine w_seq ?_
  refine wsr ?_
  refine wmv ?_
  refine wv (x_len Tryz.underlying88 rfl rfl) ?_
  refine wv (x_lss rfl rfl) ?_
  refine wns ?_
  refine w_if rfl (fun h1 => ?_) (fun h1 => ?_)
  · skip
    omega
  · skip
    refine w_skip ?_
    refine at_seq ?_
    refine wsr ?_
    refine wmv ?_
    refine wv (x_index Tryz.underlying88 Tryz.size3 rfl rfl (j := 0) (by omega) (by omega)) ?_
    refine wv (x_load Tryz.plain3 rfl (hr.nth 0 (v := .int .i64 (minL (es.take 1))) (by rw [minL1 h0]; exact iv_get h0) (by omega))) ?_
    refine was ?_
    refine wns ?_
    refine w_seq ?_
    refine wsr ?_
    refine was ?_
    refine wns ?_
    refine w_block ?_
    refine w_loop (fun r m' H' env' => ∃ k, k + r = es.length ∧ 0 < k ∧ m.le m' ∧ H' = H ∧ env' = [(0, .slice (some ⟨b, o, none⟩) es.length cap), (3, .int .i64 (minL (es.take k))), (4, .int .i64 (k : Nat))]) (es.length - 1) [(0, .slice (some ⟨b, o, none⟩) es.length cap), (3, .int .i64 (minL (es.take 1))), (4, .int .i64 (1 : Nat))] ⟨1, by omega, by omega, Mem.le.refl _, rfl, rfl⟩ (by repeat' (first | exact trivial | exact rfl | exact lk_int rfl (by omega) | apply And.intro)) ?_
    rintro r m1 H' env' ⟨k, hk, hk0, hm1, rfl, rfl⟩
    refine w_seq ?_
    refine wsr ?_
    refine wmv ?_
    refine wmv ?_
    refine wv (x_len Tryz.underlying88 rfl rfl) ?_
    refine wv (x_lss rfl rfl) ?_
    refine wns ?_
    refine w_if rfl (fun h2 => ?_) (fun h2 => ?_)
    · skip
      obtain ⟨j, rfl⟩ : ∃ j, r = j + 1 := ⟨r - 1, by omega⟩
      refine w_skip ?_
      refine at_seq ?_
      refine w_seq ?_
      refine w_block ?_
      refine w_region ?_
      refine wmv ?_
      refine wmv ?_
      refine wmv ?_
      refine wv (x_index Tryz.underlying88 Tryz.size3 rfl rfl (j := k) (by omega) (by omega)) ?_
      refine wv (x_load Tryz.plain3 rfl ((hr.up hm1).nth k (iv_get (by omega)) (by omega))) ?_
      refine wv (x_minAs (r := minL (es.take (k + 1))) rfl rfl (minL_take_succ (by omega) hk0).symm) ?_
      refine was ?_
      refine wl_nil ?_
      refine at_block_normal ?_
      refine at_seq ?_
      refine w_region ?_
      refine wmv ?_
      refine wv (x_add rfl rfl (wrap_i64 (by omega) (by omega))) ?_
      refine was ?_
      refine wl_nil ?_
      exact at_again j [(0, .slice (some ⟨b, o, none⟩) es.length cap), (3, .int .i64 (minL (es.take (k + 1)))), (4, .int .i64 ((k + 1) : Nat))] (by omega) ⟨k + 1, by omega, by omega, hm1, rfl, rfl⟩ (by repeat' (first | exact trivial | exact rfl | exact lk_int rfl (by omega) | apply And.intro))
    · skip
      obtain rfl : k = es.length := by omega
      refine w_exit ?_
      refine at_then_exit ?_
      refine at_then_exit ?_
      refine at_block_hit ?_
      refine at_seq ?_
      refine wsr ?_
      refine wmv ?_
      refine was ?_
      refine wns ?_
      refine w_ret ?_
      refine at_end (res1 rfl rfl) ?_
      exact ⟨by rw [List.take_length], rfl⟩
end Go.Cy


/- Terms as cells; the order of exponents; checkpoly.Normal$1; slices.swapRangeCmpFunc, rotateCmpFunc. -/
namespace Go.Cy
open Go Go.Proofs
set_option maxRecDepth 20000

section
variable {P : Program} {n : Nat} {K : Ctx} {Q : Exit → Act → World → Prop} {rest : List Oper} {env : Env} {m : Mem} {H : Hp} {ops : Array Oper}
variable {ty : TypeId} {pos : String} {aft : Array Edge} {g : Option (Nat × Bool)} {x y : Operand} {v : Value}
theorem wl_storesAs {T E : TypeId} {b o : Nat} {xs xs' vs : List Value} (hg : gd ops env g = some true) (hs : sizeIs P T vs.length) (hx : ev env x = some (.pointer (some ⟨b, o, none⟩))) (hy : ev env y = some (.agg vs.toArray)) (hv : ∀ u ∈ vs, u.oneCell' = true) (ho : o + vs.length ≤ xs.length) (he : splice xs o vs = xs')
    (h : WL P n K ops Q rest env m ((b, cl E xs') :: H)) : WL P n K ops Q (⟨none, .store T x y, ty, pos, aft, g⟩ :: rest) env m ((b, cl E xs) :: H) := wl_stores hg hs hx hy hv ho (by rw [he]; exact h)
end
structure TV where
  sg : Bool
  p : Option Addr
  ln : Nat
  cp : Nat
  e0 : Int
  e1 : Int
  e2 : Int
  e3 : Int
def TV.ex (x : TV) : List Int := [x.e0, x.e1, x.e2, x.e3]
def TV.cells (x : TV) : List Value := [.bool x.sg, .slice x.p x.ln x.cp, .int .i64 x.e0, .int .i64 x.e1, .int .i64 x.e2, .int .i64 x.e3]
theorem TV.one (x : TV) : ∀ u ∈ x.cells, u.oneCell' = true := by
  intro u hu
  simp only [TV.cells, List.mem_cons, List.not_mem_nil, or_false] at hu
  rcases hu with rfl | rfl | rfl | rfl | rfl | rfl <;> rfl
def fl6 : List TV → List Value
  | [] => []
  | x :: l => x.cells ++ fl6 l
theorem fl6_app (a b : List TV) : fl6 (a ++ b) = fl6 a ++ fl6 b := by
  induction a with
  | nil => rfl
  | cons x a ih => simp [fl6, ih]
theorem fl6_len (l : List TV) : (fl6 l).length = l.length * 6 := by
  induction l with
  | nil => rfl
  | cons x l ih => simp only [fl6, List.length_append, ih, List.length_cons]; show 6 + _ = _; omega
theorem fl6_row {P Q : List TV} {x : TV} {o : Nat} (h : o = P.length * 6) : ∀ i, i < x.cells.length → (fl6 (P ++ x :: Q))[o + i]? = x.cells[i]? := by
  intro i hi
  rw [fl6_app, List.getElem?_append_right (by rw [fl6_len]; omega), fl6_len, show o + i - P.length * 6 = i by omega]
  show (x.cells ++ fl6 Q)[i]? = _
  rw [List.getElem?_append_left hi]
theorem fl6_set {P Q : List TV} {x y : TV} {o : Nat} (h : o = P.length * 6) : splice (fl6 (P ++ x :: Q)) o y.cells = fl6 (P ++ y :: Q) := by
  have e : o + y.cells.length ≤ (fl6 (P ++ x :: Q)).length := by rw [fl6_len]; show o + 6 ≤ _; simp; omega
  rw [splice_eq _ _ _ e, fl6_app, fl6_app]
  have l1 : (fl6 P).length = o := by rw [fl6_len]; omega
  rw [List.take_left' l1, List.drop_append, List.drop_of_length_le (by rw [l1]; omega)]
  show _ = fl6 P ++ (y.cells ++ fl6 Q)
  rw [l1, show o + y.cells.length - o = x.cells.length from by show o + 6 - o = 6; omega]
  simp [fl6]

theorem rowT {m : Mem} {H : Hp} {b o : Nat} {T : TypeId} {L P Q : List TV} {x : TV} (hm : (b, cl T (fl6 L)) ∈ H) (hL : L = P ++ x :: Q) (h : o = P.length * 6) : Row m H b o x.cells := by
  subst hL; exact rowH hm (fl6_row h)
theorem rowT_fits {P Q : List TV} {x y : TV} {o : Nat} (h : o = P.length * 6) : o + y.cells.length ≤ (fl6 (P ++ x :: Q)).length := by
  rw [fl6_len]; show o + 6 ≤ _; simp; omega
def lxl : Nat → List Int → List Int → Prop
  | 0, _, _ => False
  | k + 1, a, b => a.getD k 0 < b.getD k 0 ∨ (a.getD k 0 = b.getD k 0 ∧ lxl k a b)
theorem cmpE_lt : ∀ (k : Nat) (a b : List Int), cmpE k a b < 0 ↔ lxl k a b
  | 0, a, b => by simp [cmpE, lxl]
  | k + 1, a, b => by
    simp only [cmpE, lxl]
    split <;> rename_i h
    · unfold cmpI
      split
      · rename_i h1; exact ⟨fun _ => .inl h1, fun _ => by decide⟩
      · split
        · constructor
          · intro h; exact absurd h (by decide)
          · rintro (h1 | h1) <;> omega
        · omega
    · have h : a.getD k 0 = b.getD k 0 := Classical.byContradiction h
      rw [cmpE_lt k a b]
      constructor
      · intro h1; exact .inr ⟨h, h1⟩
      · rintro (h1 | h1)
        · omega
        · exact h1.2
theorem lxl_asymm : ∀ (k : Nat) (a b : List Int), lxl k a b → ¬ lxl k b a
  | 0, _, _, h => h.elim
  | k + 1, a, b, h => by
    rintro (h1 | h1)
    · rcases h with h | h <;> omega
    · rcases h with h | h
      · omega
      · exact lxl_asymm k a b h.2 h1.2
theorem nlxl_trans : ∀ (k : Nat) (a b c : List Int), ¬ lxl k a b → ¬ lxl k b c → ¬ lxl k a c
  | 0, _, _, _, _, _ => id
  | k + 1, a, b, c, h1, h2 => by
    simp only [lxl, not_or, not_and] at h1 h2 ⊢
    refine ⟨by omega, fun h => ?_⟩
    have e1 : a.getD k 0 = b.getD k 0 := by omega
    have e2 : b.getD k 0 = c.getD k 0 := by omega
    exact nlxl_trans k a b c (h1.2 e1) (h2.2 e2)

def TV.le (x y : TV) : Prop := ¬ lxl 4 x.ex y.ex
def TV.lt (x y : TV) : Prop := lxl 4 y.ex x.ex
theorem TV.le_of_lt {x y : TV} (h : x.lt y) : x.le y := lxl_asymm _ _ _ h
theorem TV.le_of_nlt {x y : TV} (h : ¬ y.lt x) : x.le y := h
theorem TV.le_trans {x y z : TV} (h1 : x.le y) (h2 : y.le z) : x.le z := nlxl_trans _ _ _ _ h1 h2
theorem TV.lt_iff {x y : TV} : cmpE 4 y.ex x.ex < 0 ↔ x.lt y := cmpE_lt 4 _ _

theorem less_ok {m : Mem} {x y : TV} : Pure Tryz.prog 43 #[.agg x.cells.toArray, .agg y.cells.toArray] m fun r _ => r = .int .i64 (cmpE 4 y.ex x.ex) := by
  refine enterp Tryz.func43 rfl rfl ?_
  intro K hm0 hks
  refine wsr ?_
  refine wl_box rfl rfl rfl rfl ?_; intro b2
  refine wl_box rfl rfl rfl rfl ?_; intro b3
  refine was ?_
  refine wnr ?_
  refine wv (x_fieldAddr Tryz.underlying72 rfl Tryz.size70 rfl) ?_
  refine wv (x_loads Tryz.agg70 (by exact Tryz.size70) rfl (rowHs (vs := [_, _, _, _]) (.head _) 2 rfl)) ?_
  refine wv (x_fieldAddr Tryz.underlying72 rfl Tryz.size70 rfl) ?_
  refine wv (x_loads Tryz.agg70 (by exact Tryz.size70) rfl (rowHs (vs := [_, _, _, _]) (.tail _ (.head _)) 2 rfl)) ?_
  refine wl_callp rfl rfl rfl Tryz.c44 (compareExp_ok (a := y.ex) (b := x.ex) rfl rfl) ?_; rintro v1 m1 hm1 rfl
  refine was ?_
  refine wns ?_
  refine w_ret ?_
  refine at_endp (res1 rfl rfl) ?_
  rfl

theorem swapRange_ok {m : Mem} {b n cap k i j : Nat} {f : Value} {P X M Y R : List TV} (hn : n ≤ (P ++ X ++ M ++ Y ++ R).length) (hb : (P ++ X ++ M ++ Y).length ≤ n) (hl : n ≤ 4294967296) (hX : X.length = k) (hY : Y.length = k) (hi : i = P.length) (hj : j = P.length + k + M.length) :
    Does Tryz.prog 232 #[.slice (some ⟨b, 0, none⟩) n cap, .int .i64 i, .int .i64 j, .int .i64 k, f] m [(b, cl 72 (fl6 (P ++ X ++ M ++ Y ++ R)))] fun _ m' H' => H' = [(b, cl 72 (fl6 (P ++ Y ++ M ++ X ++ R)))] := by
  subst hi hj
  simp only [List.length_append] at hn hb
  refine enter Tryz.func232 rfl rfl ?_
  intro K hm0 hks
  refine wsr ?_
  refine was ?_
  refine wns ?_
  refine w_block ?_
  refine w_loop (fun r m' H' env' => ∃ q, q + r = k ∧ m.le m' ∧ H' = [(b, cl 72 (fl6 (P ++ (Y.take q ++ X.drop q) ++ M ++ (X.take q ++ Y.drop q) ++ R)))] ∧ env' = [(0, .slice (some ⟨b, 0, none⟩) n cap), (1, .int .i64 P.length), (2, .int .i64 ((P.length + k + M.length : Nat))), (3, .int .i64 k), (10, .int .i64 (q : Nat))]) k [(0, .slice (some ⟨b, 0, none⟩) n cap), (1, .int .i64 P.length), (2, .int .i64 ((P.length + k + M.length : Nat))), (3, .int .i64 k), (10, .int .i64 (0 : Nat))] ⟨0, by omega, Mem.le.refl _, rfl, rfl⟩ (by repeat' (first | exact trivial | exact rfl | exact lk_int rfl (by omega) | apply And.intro)) ?_
  rintro r m1 H' env' ⟨q, hq, hm1, rfl, rfl⟩
  refine w_seq ?_
  refine wsr ?_
  refine wmv ?_
  refine wmv ?_
  refine wv (x_lss rfl rfl) ?_
  refine wns ?_
  refine w_if rfl (fun h1 => ?_) (fun h1 => ?_)
  · skip
    obtain ⟨r', rfl⟩ : ∃ r', r = r' + 1 := ⟨r - 1, by omega⟩
    have q1 : q < X.length := by omega
    have q2 : q < Y.length := by omega
    obtain ⟨x, hx, tx⟩ : ∃ x, X.drop q = x :: X.drop (q + 1) ∧ X.take (q + 1) = X.take q ++ [x] := ⟨X[q], List.drop_eq_getElem_cons q1, List.take_succ_eq_append_getElem q1⟩
    obtain ⟨y, hy, ty⟩ : ∃ y, Y.drop q = y :: Y.drop (q + 1) ∧ Y.take (q + 1) = Y.take q ++ [y] := ⟨Y[q], List.drop_eq_getElem_cons q2, List.take_succ_eq_append_getElem q2⟩
    have l1 : (P ++ Y.take q).length = P.length + q := by simp; omega
    have l2 : ∀ y : TV, (P ++ Y.take q ++ y :: (X.drop (q + 1) ++ M ++ X.take q)).length = P.length + k + M.length + q := by intro y; simp; omega
    have e0 : P ++ (Y.take q ++ X.drop q) ++ M ++ (X.take q ++ Y.drop q) ++ R = (P ++ Y.take q) ++ x :: (X.drop (q + 1) ++ M ++ X.take q ++ Y.drop q ++ R) := by rw [hx]; simp only [List.append_assoc, List.cons_append]
    have e2 : ∀ x, (P ++ Y.take q) ++ x :: (X.drop (q + 1) ++ M ++ X.take q ++ Y.drop q ++ R) = (P ++ Y.take q ++ x :: (X.drop (q + 1) ++ M ++ X.take q)) ++ y :: (Y.drop (q + 1) ++ R) := by intro x; rw [hy]; simp only [List.append_assoc, List.cons_append]
    have e4 : (P ++ Y.take q ++ y :: (X.drop (q + 1) ++ M ++ X.take q)) ++ x :: (Y.drop (q + 1) ++ R) = P ++ (Y.take (q + 1) ++ X.drop (q + 1)) ++ M ++ (X.take (q + 1) ++ Y.drop (q + 1)) ++ R := by
      rw [tx, ty]; simp only [List.append_assoc, List.cons_append, List.nil_append]
    rw [e0]
    refine w_skip ?_
    refine at_seq ?_
    refine w_seq ?_
    refine w_block ?_
    refine dr_start [] [[], [], [], [1, 2], [], [], [], [5, 6], [], [], [], [9, 10], [8, 11], [12], [], [], [], [15, 16], [14, 17], [18], [0, 3]] ?_
    refine dr_val rfl rfl (fun m' hm' => ds_val rfl (x_move rfl)) ?_
    refine dr_val rfl rfl (fun m' hm' => ds_val rfl (x_move rfl)) ?_
    refine dr_val rfl rfl (fun m' hm' => ds_val rfl (x_move rfl)) ?_
    refine dr_val rfl rfl (fun m' hm' => ds_val rfl (x_add rfl rfl (wrap_i64 (by omega) (by omega)))) ?_
    refine dr_val rfl rfl (fun m' hm' => ds_val rfl (x_move rfl)) ?_
    refine dr_val rfl rfl (fun m' hm' => ds_val rfl (x_move rfl)) ?_
    refine dr_val rfl rfl (fun m' hm' => ds_val rfl (x_move rfl)) ?_
    refine dr_val rfl rfl (fun m' hm' => ds_val rfl (x_add rfl rfl (wrap_i64 (by omega) (by omega)))) ?_
    refine dr_val rfl rfl (fun m' hm' => ds_val rfl (x_move rfl)) ?_
    refine dr_val rfl rfl (fun m' hm' => ds_val rfl (x_move rfl)) ?_
    refine dr_val rfl rfl (fun m' hm' => ds_val rfl (x_move rfl)) ?_
    refine dr_val rfl rfl (fun m' hm' => ds_val rfl (x_add rfl rfl (wrap_i64 (by omega) (by omega)))) ?_
    refine dr_val rfl rfl (fun m' hm' => ds_val rfl (x_index Tryz.underlying27 Tryz.size72 rfl rfl (j := (P.length + k + M.length + q)) (by omega) (by omega))) ?_
    refine dr_val rfl rfl (fun m' hm' => ds_val rfl (x_loads Tryz.agg72 (by exact Tryz.size72) rfl (rowT (.head _) (e2 x) (by rw [l2]; omega)))) ?_
    refine dr_val rfl rfl (fun m' hm' => ds_val rfl (x_move rfl)) ?_
    refine dr_val rfl rfl (fun m' hm' => ds_val rfl (x_move rfl)) ?_
    refine dr_val rfl rfl (fun m' hm' => ds_val rfl (x_move rfl)) ?_
    refine dr_val rfl rfl (fun m' hm' => ds_val rfl (x_add rfl rfl (wrap_i64 (by omega) (by omega)))) ?_
    refine dr_val rfl rfl (fun m' hm' => ds_val rfl (x_index Tryz.underlying27 Tryz.size72 rfl rfl (j := (P.length + q)) (by omega) (by omega))) ?_
    refine dr_val rfl rfl (fun m' hm' => ds_val rfl (x_loads Tryz.agg72 (by exact Tryz.size72) rfl (rowT (.head _) rfl (by rw [l1]; omega)))) ?_
    refine dr_val rfl rfl (fun m' hm' => ds_val rfl (x_index Tryz.underlying27 Tryz.size72 rfl rfl (j := (P.length + q)) (by omega) (by omega))) ?_
    refine dr_doneF (k := 21) [(4, _), (5, _), (6, _), (7, _)] Tryz.mixed ⟨rfl, rfl, rfl, rfl, trivial⟩ rfl rfl rfl fun m2 hm_m2 => ?_
    show WLF _ _ _ _ _ _ _ _ _ _
    refine wlf_stores (xs' := fl6 ((P ++ Y.take q) ++ y :: (X.drop (q + 1) ++ M ++ X.take q ++ Y.drop q ++ R))) (vs := y.cells) rfl rfl rfl rfl rfl ⟨⟨_, _, [], rfl, rfl, rfl, rfl, rfl, rfl, x_move rfl⟩, ⟨_, _, [], rfl, rfl, rfl, rfl, rfl, rfl, x_move rfl⟩, ⟨_, _, [], rfl, rfl, rfl, rfl, rfl, rfl, x_move rfl⟩, ⟨_, _, [5, 6], rfl, rfl, rfl, rfl, rfl, rfl, x_add rfl rfl (wrap_i64 (by omega) (by omega))⟩, trivial⟩ rfl Tryz.size72 rfl rfl (TV.one _) (rowT_fits (by rw [l1]; omega)) (fl6_set (by rw [l1]; omega)) ?_
    refine wlf_done rfl rfl rfl ⟨⟨_, _, [], rfl, rfl, rfl, rfl, rfl, rfl, x_move rfl⟩, ⟨_, _, [], rfl, rfl, rfl, rfl, rfl, rfl, x_move rfl⟩, ⟨_, _, [], rfl, rfl, rfl, rfl, rfl, rfl, x_move rfl⟩, ⟨_, _, [5, 6], rfl, rfl, rfl, rfl, rfl, rfl, x_add rfl rfl (wrap_i64 (by omega) (by omega))⟩, trivial⟩ ?_
    show WL _ _ _ _ _ _ _ _ _
    refine wv (x_index Tryz.underlying27 Tryz.size72 rfl rfl (j := (P.length + k + M.length + q)) (by omega) (by omega)) ?_
    refine wl_storesAs (xs' := fl6 (P ++ (Y.take (q + 1) ++ X.drop (q + 1)) ++ M ++ (X.take (q + 1) ++ Y.drop (q + 1)) ++ R)) (vs := x.cells) rfl (by exact Tryz.size72) rfl rfl (TV.one _) (by rw [e2]; exact rowT_fits (by rw [l2]; omega)) (by rw [e2, ← e4]; exact fl6_set (by rw [l2]; omega)) ?_
    refine wl_nil ?_
    refine at_block_normal ?_
    refine at_seq ?_
    refine w_region ?_
    refine wmv ?_
    refine wv (x_add rfl rfl (wrap_i64 (by omega) (by omega))) ?_
    refine was ?_
    refine wl_nil ?_
    exact at_again r' [(0, .slice (some ⟨b, 0, none⟩) n cap), (1, .int .i64 P.length), (2, .int .i64 ((P.length + k + M.length : Nat))), (3, .int .i64 k), (10, .int .i64 ((q + 1) : Nat))] (by omega) ⟨q + 1, by omega, hm1.trans hm_m2, rfl, rfl⟩ (by repeat' (first | exact trivial | exact rfl | exact lk_int rfl (by omega) | apply And.intro))
  · skip
    obtain rfl : q = k := by omega
    refine w_exit ?_
    refine at_then_exit ?_
    refine at_then_exit ?_
    refine at_block_hit ?_
    refine at_end_normal (res0 rfl) ?_
    rw [List.take_of_length_le (by omega), List.drop_of_length_le (by omega), List.take_of_length_le (by omega), List.drop_of_length_le (by omega)]; simp

end Go.Cy


/- slices.rotateCmpFunc, insertionSortCmpFunc, symMergeCmpFunc. -/
namespace Go.Cy
open Go Go.Proofs
set_option maxRecDepth 20000

theorem asN {x : Int} (n : Nat) (h : x = n) (hn : n ≤ 4611686018427387904) : IntKind.i64.wrap x = (n : Int) := by
  rw [h]; exact wrap_i64 (by omega) (by omega)
theorem cut_at {α : Type} (l : List α) (k : Nat) (h : k ≤ l.length) : ∃ a b, l = a ++ b ∧ a.length = k := ⟨l.take k, l.drop k, (List.take_append_drop k l).symm, by rw [List.length_take]; omega⟩
theorem rotate_ok {m : Mem} {b n cap i j k : Nat} {f : Value} {P X Y R : List TV} (hn : n ≤ (P ++ X ++ Y ++ R).length) (hb : (P ++ X ++ Y).length ≤ n) (hl : n ≤ 4294967296) (hX : 0 < X.length) (hY : 0 < Y.length) (hi : i = P.length) (hj : j = P.length + X.length) (hk : k = P.length + X.length + Y.length) :
    Does Tryz.prog 196 #[.slice (some ⟨b, 0, none⟩) n cap, .int .i64 i, .int .i64 j, .int .i64 k, f] m [(b, cl 72 (fl6 (P ++ X ++ Y ++ R)))] fun _ m' H' => H' = [(b, cl 72 (fl6 (P ++ Y ++ X ++ R)))] := by
  subst hi hj hk
  simp only [List.length_append] at hn hb
  refine enter Tryz.func196 rfl rfl ?_
  intro K hm0 hks
  refine wsr ?_
  refine wmv ?_
  refine wmv ?_
  refine wv (x_sub rfl rfl (wrap_i64 (by omega) (by omega))) ?_
  refine was ?_
  refine wnr ?_
  refine wmv ?_
  refine wmv ?_
  refine wv (x_sub rfl rfl (wrap_i64 (by omega) (by omega))) ?_
  refine was ?_
  refine wns ?_
  refine w_seq ?_
  refine w_block ?_
  refine w_loop (fun r m' H' env' => ∃ P' U V R', P' ++ V ++ U ++ R' = P ++ Y ++ X ++ R ∧ P'.length + U.length = P.length + X.length ∧ 0 < U.length ∧ 0 < V.length ∧ r = U.length + V.length ∧ P'.length + U.length + V.length ≤ P.length + X.length + Y.length ∧ m.le m' ∧ H' = [(b, cl 72 (fl6 (P' ++ U ++ V ++ R')))] ∧ env' = [(0, .slice (some ⟨b, 0, none⟩) n cap), (1, .int .i64 P.length), (2, .int .i64 ((P.length + X.length : Nat))), (3, .int .i64 ((P.length + X.length + Y.length : Nat))), (4, f), (10, .int .i64 (U).length), (11, .int .i64 (V).length)]) (X.length + Y.length) [(0, .slice (some ⟨b, 0, none⟩) n cap), (1, .int .i64 P.length), (2, .int .i64 ((P.length + X.length : Nat))), (3, .int .i64 ((P.length + X.length + Y.length : Nat))), (4, f), (10, .int .i64 (X).length), (11, .int .i64 (Y).length)] ⟨P, X, Y, R, rfl, rfl, hX, hY, rfl, Nat.le_refl _, Mem.le.refl _, rfl, rfl⟩ (by repeat' (first | exact trivial | exact rfl | exact lk_int rfl (by omega) | apply And.intro)) ?_
  rintro r m1 H' env' ⟨P', U, V, R', hall, hmid, hU, hV, rfl, hle, hm1, rfl, rfl⟩
  have hlen : P'.length + V.length + U.length + R'.length = P.length + Y.length + X.length + R.length := by have := congrArg List.length hall; simp only [List.length_append] at this; exact this
  refine w_seq ?_
  refine wsr ?_
  refine wmv ?_
  refine wmv ?_
  refine wv (x_neq rfl rfl) ?_
  refine wns ?_
  refine w_if rfl (fun h1 => ?_) (fun h1 => ?_)
  · skip
    refine w_skip ?_
    refine at_seq ?_
    refine w_block ?_
    refine wsr ?_
    refine wmv ?_
    refine wmv ?_
    refine wv (x_gtr rfl rfl) ?_
    refine wns ?_
    refine w_if rfl (fun h2 => ?_) (fun h2 => ?_)
    · skip
      obtain ⟨U1, U2, rfl, hu⟩ := cut_at U V.length (by omega)
      rw [List.length_append] at *
      rw [show P' ++ (U1 ++ U2) ++ V ++ R' = P' ++ U1 ++ U2 ++ V ++ R' by simp only [List.append_assoc]]
      refine wsr ?_
      refine wmv ?_
      refine wmv ?_
      refine wmv ?_
      refine wv (x_sub rfl rfl (asN P'.length (by omega) (by omega))) ?_
      refine wmv ?_
      refine wmv ?_
      refine wmv ?_
      refine wl_calld0 rfl rfl rfl Tryz.c232 (swapRange_ok (f := f) (P := P') (X := U1) (M := U2) (Y := V) (R := R') (by simp only [List.length_append]; omega) (by simp only [List.length_append]; omega) hl hu rfl rfl (by omega)) ?_; rintro v2 m2 H2 hm2 rfl
      refine wns ?_
      refine w_region ?_
      refine wmv ?_
      refine wmv ?_
      refine wv (x_sub rfl rfl (asN U2.length (by omega) (by omega))) ?_
      refine was ?_
      refine wl_nil ?_
      refine at_block_normal ?_
      rw [show P' ++ V ++ U2 ++ U1 ++ R' = (P' ++ V) ++ U2 ++ U1 ++ R' by simp only [List.append_assoc]]
      exact at_again (U2.length + U1.length) [(0, .slice (some ⟨b, 0, none⟩) n cap), (1, .int .i64 P.length), (2, .int .i64 ((P.length + X.length : Nat))), (3, .int .i64 ((P.length + X.length + Y.length : Nat))), (4, f), (10, .int .i64 (U2).length), (11, .int .i64 (U1).length)] (by omega) ⟨P' ++ V, U2, U1, R', by rw [← hall]; simp only [List.append_assoc], by simp only [List.length_append]; omega, by omega, by omega, rfl, by simp only [List.length_append]; omega, hm1.trans hm2, rfl, rfl⟩ (by repeat' (first | exact trivial | exact rfl | exact lk_int rfl (by omega) | apply And.intro))
    · skip
      obtain ⟨V1, V2, rfl, hv⟩ := cut_at V (V.length - U.length) (by omega)
      rw [List.length_append] at *
      rw [show P' ++ U ++ (V1 ++ V2) ++ R' = P' ++ U ++ V1 ++ V2 ++ R' by simp only [List.append_assoc]]
      refine wsr ?_
      refine wmv ?_
      refine wmv ?_
      refine wmv ?_
      refine wv (x_sub rfl rfl (asN P'.length (by omega) (by omega))) ?_
      refine wmv ?_
      refine wmv ?_
      refine wv (x_add rfl rfl (asN (P.length + X.length + (V1.length + V2.length)) (by omega) (by omega))) ?_
      refine wmv ?_
      refine wv (x_sub rfl rfl (asN (P'.length + U.length + V1.length) (by omega) (by omega))) ?_
      refine wmv ?_
      refine wmv ?_
      refine wl_calld0 rfl rfl rfl Tryz.c232 (swapRange_ok (f := f) (P := P') (X := U) (M := V1) (Y := V2) (R := R') (by simp only [List.length_append]; omega) (by simp only [List.length_append]; omega) hl rfl (by omega) rfl rfl) ?_; rintro v2 m2 H2 hm2 rfl
      refine wns ?_
      refine w_region ?_
      refine wmv ?_
      refine wmv ?_
      refine wv (x_sub rfl rfl (asN V1.length (by omega) (by omega))) ?_
      refine was ?_
      refine wl_nil ?_
      refine at_block_normal ?_
      rw [show P' ++ V2 ++ V1 ++ U ++ R' = P' ++ V2 ++ V1 ++ (U ++ R') by simp only [List.append_assoc]]
      exact at_again (V2.length + V1.length) [(0, .slice (some ⟨b, 0, none⟩) n cap), (1, .int .i64 P.length), (2, .int .i64 ((P.length + X.length : Nat))), (3, .int .i64 ((P.length + X.length + Y.length : Nat))), (4, f), (10, .int .i64 (V2).length), (11, .int .i64 (V1).length)] (by omega) ⟨P', V2, V1, U ++ R', by rw [← hall]; simp only [List.append_assoc], by omega, by omega, by omega, rfl, by omega, hm1.trans hm2, rfl, rfl⟩ (by repeat' (first | exact trivial | exact rfl | exact lk_int rfl (by omega) | apply And.intro))
  · skip
    rw [show P' ++ U ++ V ++ R' = P' ++ U ++ [] ++ V ++ R' by simp]
    refine w_exit ?_
    refine at_then_exit ?_
    refine at_then_exit ?_
    refine at_block_hit ?_
    refine at_seq ?_
    refine w_region ?_
    refine wmv ?_
    refine wmv ?_
    refine wmv ?_
    refine wv (x_sub rfl rfl (asN P'.length (by omega) (by omega))) ?_
    refine wmv ?_
    refine wmv ?_
    refine wmv ?_
    refine wl_calld0 rfl rfl rfl Tryz.c232 (swapRange_ok (f := f) (P := P') (X := U) (M := []) (Y := V) (R := R') (by simp only [List.length_append, List.length_nil]; omega) (by simp only [List.length_append, List.length_nil]; omega) hl rfl (by omega) rfl (by simp only [List.length_nil]; omega)) ?_; rintro v2 m2 H2 hm2 rfl
    refine wl_nil ?_
    refine at_end_normal (res0 rfl) ?_
    rw [List.append_nil, hall]
end Go.Cy
