/- division.addBack, divide. -/
import Derived.Test.YtmamkgbldaehgaaGreatDoorCyKnuth
import Derived.Test.YtmamkgbldaehgaaGreatDoorCyRot
namespace Go.Cy
open Go Go.Proofs
set_option maxRecDepth 20000

theorem addBack_ok {m : Mem} {b o L cap : Nat} {u : Value} {us vs : List Nat} (hu : Dg m u vs) (huo : okd us) (hL : L = vs.length + 1) (hoL : o + L ≤ us.length) (hs : us.length ≤ 35184372088832) :
    Does Tryz.prog 227 #[.slice (some ⟨b, o, none⟩) L cap, u] m [(b, cl 51 (dsv us))] fun r _ H' => r = .tuple #[] ∧ ∃ ws c, c ≤ 1 ∧ ws.length = us.length ∧ okd ws ∧ ws.drop (o + (vs.length + 1)) = us.drop (o + (vs.length + 1)) ∧ nv ws + 4294967296 ^ (o + (vs.length + 1)) * c = nv us + 4294967296 ^ o * nv vs ∧ H' = [(b, cl 51 (dsv ws))] := by
  obtain ⟨hvo, hvl, a, vcap, rfl, hac, har⟩ := hu
  refine enter Tryz.func227 rfl rfl ?_
  intro K hm0 hks
  refine wsr ?_
  refine was ?_
  refine wns ?_
  refine w_seq ?_
  refine wsr ?_
  refine wmv ?_
  refine wv (x_len Tryz.underlying47 rfl rfl) ?_
  refine wmv ?_
  refine wns ?_
  refine w_block ?_
  refine w_loop (fun r m' H' env' => ∃ i ws c, m.le m' ∧ r + i = vs.length ∧ ws.length = us.length ∧ okd ws ∧ c ≤ 1 ∧ ws.drop (o + (vs.length + 1)) = us.drop (o + (vs.length + 1)) ∧ nv ws + 4294967296 ^ (o + i) * c = nv us + 4294967296 ^ o * nv (vs.take i) ∧ H' = [(b, cl 51 (dsv ws))] ∧ env' = [(0, .slice (some ⟨b, o, none⟩) L cap), (1, .slice a vs.length vcap), (4, .int .u32 (c : Nat)), (7, .slice a vs.length vcap), (8, .int .i64 vs.length), (9, .int .i64 (i : Nat))]) vs.length [(0, .slice (some ⟨b, o, none⟩) L cap), (1, .slice a vs.length vcap), (4, .int .u32 (0 : Nat)), (7, .slice a vs.length vcap), (8, .int .i64 vs.length), (9, .int .i64 (0 : Nat))] ⟨0, us, 0, Mem.le.refl _, rfl, rfl, huo, by omega, rfl, by simp [nv], rfl, rfl⟩ (by repeat' (first | exact trivial | exact rfl | exact lk_int rfl (by omega) | apply And.intro)) ?_
  rintro r m1 H' env' ⟨i, ws, c, hm1, hri, hwl, hwo, hc, hwd, hinv, rfl, rfl⟩
  refine wsr ?_
  refine wv (x_lss rfl rfl) ?_
  refine wns ?_
  refine w_seq ?_
  refine w_if rfl (fun h1 => ?_) (fun h1 => ?_)
  · skip
    have hi : i < vs.length := by omega
    have hk : o + i < ws.length := by omega
    obtain ⟨bx, ox, rfl, hrx⟩ := har (by omega)
    have hx := hvo _ (List.getElem_mem hi)
    have hw := hwo _ (List.getElem_mem hk)
    have st := into_step hk hi hinv
    refine w_skip ?_
    refine at_seq ?_
    refine w_seq ?_
    refine w_block ?_
    refine wsr ?_
    refine wmv ?_
    refine wv (x_index Tryz.underlying47 Tryz.size51 rfl rfl rfl (by omega)) ?_
    refine wv (x_load Tryz.plain51 rfl (((hrx.up hm1).heap.nth i (dsv_get hi) (by omega)))) ?_
    refine was ?_
    refine was ?_
    refine wns ?_
    refine w_region ?_
    refine wmv ?_
    refine wmv ?_
    refine wmv ?_
    refine wmv ?_
    refine wv (x_index Tryz.underlying47 Tryz.size51 rfl rfl (j := i) (by omega) (by omega)) ?_
    refine wv (x_load Tryz.plain51 rfl (rowH1 (.head _) (dsv_at hk (by omega)))) ?_
    refine wmv ?_
    refine wmv ?_
    refine wl_callp rfl rfl rfl Tryz.c156 (add32_ok hw hx hc) ?_; rintro v2 m2 hm2 rfl
    refine wmv ?_
    refine wex ?_
    refine wex ?_
    refine wv (x_index Tryz.underlying47 Tryz.size51 rfl rfl (j := i) (by omega) (by omega)) ?_
    refine wl_storeAs (xs' := dsv (ws.set (o + i) ((ws[o + i] + vs[i] + c) % 4294967296))) rfl Tryz.size51 rfl rfl rfl (by simp [dsv]; omega) (dsv_setAs (by omega) (by omega)) ?_
    refine was ?_
    refine wl_nil ?_
    refine at_block_normal ?_
    refine at_seq ?_
    refine w_region ?_
    refine wv (x_add rfl rfl (wrap_i64 (by omega) (by omega))) ?_
    refine wmv ?_
    refine wl_nil ?_
    exact at_again (r - 1) [(0, .slice (some ⟨b, o, none⟩) L cap), (1, .slice (some ⟨bx, ox, none⟩) vs.length vcap), (4, .int .u32 ((ws[o + i] + vs[i] + c) / 4294967296 : Nat)), (7, .slice (some ⟨bx, ox, none⟩) vs.length vcap), (8, .int .i64 vs.length), (9, .int .i64 (i + 1 : Nat))] (by omega) ⟨i + 1, _, _, hm1.trans hm2, by omega, by simpa using hwl, okd_set hwo _ (Nat.mod_lt _ (by omega)), by omega, by rw [List.drop_set_of_lt (by omega)]; exact hwd, st, rfl, rfl⟩ (by repeat' (first | exact trivial | exact rfl | exact lk_int rfl (by omega) | apply And.intro))
  · skip
    obtain rfl : i = vs.length := by omega
    rw [List.take_length] at hinv
    have hk : o + vs.length < ws.length := by omega
    have hw := hwo _ (List.getElem_mem hk)
    have st := into_carry hk hinv
    refine w_exit ?_
    refine at_then_exit ?_
    refine at_then_exit ?_
    refine at_block_hit ?_
    refine at_seq ?_
    refine w_region ?_
    refine wmv ?_
    refine wmv ?_
    refine wv (x_len Tryz.underlying47 rfl rfl) ?_
    refine wv (x_index Tryz.underlying47 Tryz.size51 rfl rfl (j := vs.length) (by omega) (by omega)) ?_
    refine wv (x_load Tryz.plain51 rfl (rowH1 (.head _) (dsv_at hk (by omega)))) ?_
    refine wmv ?_
    refine wv (x_add rfl rfl (u32m (r := (ws[o + vs.length] + 0 + c) % 4294967296) (by omega))) ?_
    refine wv (x_index Tryz.underlying47 Tryz.size51 rfl rfl (j := vs.length) (by omega) (by omega)) ?_
    refine wl_storeAs (xs' := dsv (ws.set (o + vs.length) ((ws[o + vs.length] + 0 + c) % 4294967296))) rfl Tryz.size51 rfl rfl rfl (by simp [dsv]; omega) (dsv_setAs (by omega) (by omega)) ?_
    refine wl_nil ?_
    refine at_end_normal (res0 rfl) ?_
    exact ⟨rfl, _, (ws[o + vs.length] + 0 + c) / 4294967296, by omega, by simpa using hwl, okd_set hwo _ (Nat.mod_lt _ (by omega)), by rw [List.drop_set_of_lt (by omega)]; exact hwd, by rw [← Nat.add_assoc]; exact st, rfl⟩

theorem top_bits {y L s t : Nat} (h1 : blen y = 32 * (L - 1) + blen t) (hL : 0 < L) (ht : blen t ≤ 32) (hs : s = 32 - blen t) (hy : y ≠ 0) : 2147483648 * 4294967296 ^ (L - 1) ≤ y * 2 ^ s ∧ y * 2 ^ s < 4294967296 ^ L := by
  have e : blen y + s = 32 * L := by omega
  have a := blen_lt y
  have b := blen_ge hy
  have hb : blen y ≠ 0 := fun e => by rw [e, Nat.pow_zero] at a; omega
  have p : 4294967296 ^ L = 2 ^ blen y * 2 ^ s := by rw [← Nat.pow_add, e, Nat.pow_mul]
  have q : 2147483648 * 4294967296 ^ (L - 1) = 2 ^ (blen y - 1) * 2 ^ s := by
    rw [show 4294967296 = 2 ^ 32 from rfl, ← Nat.pow_mul, show 2147483648 = 2 ^ 31 from rfl, ← Nat.pow_add, ← Nat.pow_add]
    congr 1
    omega
  constructor
  · rw [q]; exact Nat.mul_le_mul_right _ b
  · rw [p]; exact Nat.mul_lt_mul_of_pos_right a (Nat.pow_pos (by omega))
theorem drop_small {us : List Nat} {k : Nat} (h : nv us < 4294967296 ^ k) (hk : k ≤ us.length) : nv (us.drop k) = 0 := by
  have := nv_split us k hk
  rcases Nat.eq_zero_or_pos (nv (us.drop k)) with h0 | h0
  · exact h0
  · have := Nat.mul_le_mul_left (4294967296 ^ k) h0
    omega

theorem top3 {ds : List Nat} {n : Nat} (hn : 2 ≤ n) (hl : n < ds.length) (h0 : nv (ds.drop (n + 1)) = 0) : nv ds = ((ds[n] * 4294967296 + ds[n - 1]) * 4294967296 + ds[n - 2]) * 4294967296 ^ (n - 2) + nv (ds.take (n - 2)) := by
  obtain ⟨k, rfl⟩ : ∃ k, n = k + 2 := ⟨n - 2, by omega⟩
  simp only [Nat.add_sub_cancel, show k + 2 - 1 = k + 1 by omega]
  rw [nv_split ds k (by omega), List.drop_eq_getElem_cons (show k < ds.length by omega), List.drop_eq_getElem_cons (show k + 1 < ds.length by omega), List.drop_eq_getElem_cons (show k + 1 + 1 < ds.length by omega)]
  have h0' : nv (ds.drop (k + 1 + 1 + 1)) = 0 := h0
  simp only [nv, h0']
  rw [Nat.mul_comm (4294967296 ^ k)]
  have e0 : ds[k + 1 + 1] = ds[k + 2] := rfl
  have e : ds[k] + 4294967296 * (ds[k + 1] + 4294967296 * (ds[k + 1 + 1] + 4294967296 * 0)) = (ds[k + 2] * 4294967296 + ds[k + 1]) * 4294967296 + ds[k] := by omega
  rw [e, Nat.add_comm]
theorem top2 {ds : List Nat} {n : Nat} (hn : 2 ≤ n) (hl : ds.length = n) : nv ds = (ds[n - 1] * 4294967296 + ds[n - 2]) * 4294967296 ^ (n - 2) + nv (ds.take (n - 2)) := by
  obtain ⟨k, rfl⟩ : ∃ k, n = k + 2 := ⟨n - 2, by omega⟩
  simp only [Nat.add_sub_cancel, show k + 2 - 1 = k + 1 by omega]
  rw [nv_split ds k (by omega), List.drop_eq_getElem_cons (show k < ds.length by omega), List.drop_eq_getElem_cons (show k + 1 < ds.length by omega), List.drop_eq_nil_of_le (by omega)]
  simp only [nv]
  rw [Nat.mul_comm (4294967296 ^ k)]
  have e : ds[k] + 4294967296 * (ds[k + 1] + 4294967296 * 0) = ds[k + 1] * 4294967296 + ds[k] := by omega
  rw [e, Nat.add_comm]

theorem top_norm {P W l : Nat} (h : 2147483648 * 4294967296 * P ≤ W * P + l) (hl : l < P) : 9223372036854775808 ≤ W := by
  have h9 : 9223372036854775808 * P < (W + 1) * P := by rw [Nat.add_mul, Nat.one_mul]; omega
  have := Nat.lt_of_mul_lt_mul_right h9
  omega
theorem sub_case0 {A D q ws : Nat} (hq : A / D ≤ q) (hD : 0 < D) (h : ws + D * q = A) : q = A / D ∧ ws = A % D := by
  have h1 : q ≤ A / D := (Nat.le_div_iff_mul_le hD).2 (by rw [Nat.mul_comm]; omega)
  have h2 : q = A / D := by omega
  have h3 := Nat.div_add_mod A D
  subst h2
  exact ⟨rfl, by omega⟩
theorem sub_case1 {A D q ws M : Nat} (hq : A / D ≤ q) (hq2 : q ≤ A / D + 1) (h : ws + D * q = A + M) (hM : ws < M) : q = A / D + 1 := by
  rcases Nat.lt_or_ge (A / D) q with h1 | h1
  · omega
  · obtain rfl : q = A / D := by omega
    have h3 := Nat.div_add_mod A D
    omega
theorem add_case {A D ws ws2 M c : Nat} (h : ws + D * (A / D + 1) = A + M) (h2 : ws2 + M * c = ws + D) (hM2 : ws2 < M) (hc : c ≤ 1) : ws2 = A % D := by
  have h3 := Nat.div_add_mod A D
  rw [Nat.mul_add, Nat.mul_one] at h
  rcases Nat.lt_or_ge c 1 with h1 | h1
  · obtain rfl : c = 0 := by omega
    omega
  · obtain rfl : c = 1 := by omega
    omega
theorem est_quot {us vs : List Nat} {j n q : Nat} (hn : 2 ≤ n) (hvl : vs.length = n) (hvo : okd vs) (huo : okd us) (hj : j + n < us.length) (hhi : 2147483648 * 4294967296 ^ (n - 1) ≤ nv vs) (hlt : nv us < 4294967296 ^ (j + 1) * nv vs)
    (hE : Est ((us[j + n] * 4294967296 + us[j + (n - 1)]) * 4294967296 + us[j + (n - 2)]) (vs[n - 1] * 4294967296 + vs[n - 2]) q) : nv us / (4294967296 ^ j * nv vs) ≤ q ∧ q ≤ nv us / (4294967296 ^ j * nv vs) + 1 := by
  have hU : nv us / 4294967296 ^ j = nv (us.drop j) := by
    rw [nv_split us j (by omega), Nat.add_mul_div_left _ _ (Nat.pow_pos (by omega)), Nat.div_eq_of_lt, Nat.zero_add]
    have := nv_lt (okd_take huo j)
    rwa [List.length_take, Nat.min_eq_left (by omega)] at this
  have hvt := nv_lt hvo
  rw [hvl] at hvt
  have hbig : nv us < 4294967296 ^ (j + (n + 1)) := by
    refine Nat.lt_of_lt_of_le hlt ?_
    rw [show j + (n + 1) = (j + 1) + n by omega, Nat.pow_add _ (j + 1)]
    exact Nat.mul_le_mul_left _ (Nat.le_of_lt hvt)
  have h0 : nv ((us.drop j).drop (n + 1)) = 0 := by rw [List.drop_drop]; exact drop_small hbig (by omega)
  have t3 := top3 hn (show n < (us.drop j).length by simp; omega) h0
  have t2 := top2 hn hvl
  have ul := nv_lt (okd_take (okd_drop huo j) (n - 2))
  have vl := nv_lt (okd_take hvo (n - 2))
  rw [List.length_take, Nat.min_eq_left (by simp; omega)] at ul
  rw [List.length_take, Nat.min_eq_left (by omega)] at vl
  simp only [List.getElem_drop] at t3
  rw [← Nat.div_div_eq_div_mul, hU]
  refine hE.quot t3 ul t2 vl ?_ ?_
  · have hp : 2147483648 * 4294967296 ^ (n - 1) = 2147483648 * 4294967296 * 4294967296 ^ (n - 2) := by rw [show n - 1 = (n - 2) + 1 by omega, Nat.pow_succ, Nat.mul_assoc, Nat.mul_comm (4294967296 ^ (n - 2))]
    rw [hp, t2] at hhi
    have := top_norm hhi vl
    omega
  · rw [← hU]
    refine Nat.div_lt_of_lt_mul ?_
    rw [Nat.pow_succ, Nat.mul_assoc] at hlt
    exact hlt
theorem top_le {us vs : List Nat} {j n : Nat} (hn : 2 ≤ n) (hvl : vs.length = n) (hvo : okd vs) (hj : j + n < us.length) (hlt : nv us < 4294967296 ^ (j + 1) * nv vs) : us[j + n] ≤ vs[n - 1] := by
  have h1 : 4294967296 ^ (j + n) * us[j + n] ≤ nv us := by
    rw [nv_split us (j + n) (by omega), List.drop_eq_getElem_cons hj]
    simp only [nv, Nat.mul_add]
    omega
  have h2 : nv vs < 4294967296 ^ (n - 1) * (vs[n - 1] + 1) := by
    have hl := nv_lt (okd_take hvo (n - 1))
    rw [List.length_take, Nat.min_eq_left (by omega)] at hl
    have h3 : nv (vs.drop (n - 1)) = vs[n - 1] := by rw [List.drop_eq_getElem_cons (by omega), List.drop_eq_nil_of_le (by omega)]; simp [nv]
    rw [nv_split vs (n - 1) (by omega), h3, Nat.mul_add]
    omega
  have h4 : 4294967296 ^ (j + n) * us[j + n] < 4294967296 ^ (j + n) * (vs[n - 1] + 1) := by
    refine Nat.lt_of_le_of_lt h1 (Nat.lt_of_lt_of_le hlt ?_)
    rw [show j + n = (j + 1) + (n - 1) by omega, Nat.pow_add _ (j + 1), Nat.mul_assoc]
    exact Nat.mul_le_mul_left _ (Nat.le_of_lt h2)
  have := Nat.lt_of_mul_lt_mul_left h4
  omega

theorem Nn.zero (m : Mem) : Nn m (.slice none 0 0) 0 := ⟨[], ⟨fun _ h => absurd h List.not_mem_nil, by simp, none, 0, rfl, Nat.le_refl _, fun h => absurd h (by simp)⟩, rfl, norm_nil⟩

theorem divide_ok {m : Mem} {v u : Value} {x y : Nat} (hv : Nt m v x) (hu : Nt m u y) (h0 : y ≠ 0) (hlx : dlen x ≤ 35183000000000) :
    Pure Tryz.prog 189 #[v, u] m fun r m' => ∃ q s, r = .tuple #[q, s] ∧ Nn m' q (x / y) ∧ Nn m' s (x % y) := by
  refine enterp Tryz.func189 rfl rfl ?_
  intro K hm0 hks
  refine wsr ?_
  refine was ?_
  refine was ?_
  refine wns ?_
  refine w_scope ?_
  refine wsr ?_
  refine wmv ?_
  refine wl_callp rfl rfl rfl Tryz.c123 (Normal_ok hu) ?_; rintro v1 m1 hm1 hv1
  refine was ?_
  refine wns ?_
  refine w_seq ?_
  refine wsr ?_
  refine wmv ?_
  refine wmv ?_
  refine wl_callp rfl rfl rfl Tryz.c106 (Cmp_ok (hv.up hm1) hv1.nt) ?_; rintro v2 m2 hm2 rfl
  refine wv (x_lss rfl rfl) ?_
  refine wns ?_
  refine w_if rfl (fun h1 => ?_) (fun h1 => ?_)
  · skip
    have hlt : x < y := by unfold cmpZ at h1; split at h1 <;> (try split at h1) <;> omega
    refine wsr ?_
    refine wmv ?_
    refine wl_callp rfl rfl rfl Tryz.c123 (Normal_ok (hv.up (hm1.trans hm2))) ?_; rintro v3 m3 hm3 hv3
    refine was ?_
    refine was ?_
    refine wns ?_
    refine w_ret ?_
    refine at_then_ret ?_
    refine at_scope_ret ?_
    refine at_endp (res2 rfl rfl rfl) ?_
    exact ⟨_, _, rfl, (Nn.zero _).eq (Nat.div_eq_of_lt hlt).symm, hv3.eq (Nat.mod_eq_of_lt hlt).symm⟩
  · skip
    have hge : ¬ x < y := by unfold cmpZ at h1; intro h; rw [if_pos h] at h1; omega
    obtain ⟨ds, hds, hd, hn⟩ := hv1
    have hds' := hds
    obtain ⟨hb, hl, a, cap, rfl, hc, hr⟩ := hds
    have e1 := dlen_nv hb hn
    have e3 : ds ≠ [] := by intro e; subst e; simp [nv] at hd; omega
    have e4 : ds.length ≠ 0 := fun e => e3 (List.length_eq_zero_iff.1 e)
    refine w_skip ?_
    refine at_seq ?_
    refine w_seq ?_
    refine wsr ?_
    refine wmv ?_
    refine wv (x_len Tryz.underlying47 rfl rfl) ?_
    refine wv (x_eql rfl rfl) ?_
    refine wns ?_
    refine w_if rfl (fun h2 => ?_) (fun h2 => ?_)
    · skip
      obtain ⟨d, rfl⟩ : ∃ d, ds = [d] := List.length_eq_one_iff.1 (by omega)
      obtain ⟨ba, oa, rfl, hra⟩ := hr (by simp)
      have hd' : d = y := by simpa [nv] using hd
      subst hd'
      have hdb : d < 4294967296 := hb d (by simp)
      refine wsr ?_
      refine wmv ?_
      refine wmv ?_
      refine wv (x_index Tryz.underlying47 Tryz.size51 rfl rfl (j := 0) (by omega) (by omega)) ?_
      refine wv (x_load Tryz.plain51 rfl (((hra.up hm2).heap.nth 0 (show (dsv [d])[0]? = some (.int .u32 (d : Nat)) from rfl) (by omega)))) ?_
      refine wl_callp rfl rfl rfl Tryz.c211 (DivSmall_ok (hv.up (hm1.trans hm2)) hdb (by omega)) ?_; rintro v3 m3 hm3 ⟨q, rfl, hq⟩
      refine wmv ?_
      refine wex ?_
      refine wex ?_
      refine wex ?_
      refine was ?_
      refine was ?_
      refine was ?_
      refine wnr ?_
      refine wmv ?_
      refine wmv ?_
      refine wv (x_conv Tryz.underlying51 Tryz.underlying111 rfl (u64n (r := x % d) (by omega) (by have := Nat.mod_lt x (show 0 < d by omega); omega))) ?_
      refine wl_callp rfl rfl rfl Tryz.c66 (Of_ok (by have := Nat.mod_lt x (show 0 < d by omega); omega)) ?_; rintro v4 m4 hm4 hv4
      refine was ?_
      refine was ?_
      refine wns ?_
      refine w_ret ?_
      refine at_then_ret ?_
      refine at_scope_ret ?_
      refine at_endp (res2 rfl rfl rfl) ?_
      exact ⟨_, _, rfl, hq.up hm4, hv4⟩
    · skip
      have hL2 : 2 ≤ ds.length := by omega
      have hk : ds.length - 1 < ds.length := by omega
      obtain ⟨ba, oa, rfl, hra⟩ := hr (by omega)
      have hbn := blen_nv hn hb hk
      generalize ht : ds[ds.length - 1] = t at *
      have htb : t < 4294967296 := by rw [← ht]; exact hb _ (List.getElem_mem hk)
      have htl : blen t ≤ 32 := blen_le.2 (by simpa using htb)
      rw [hd] at hbn e1
      have htop := top_bits hbn (by omega) htl rfl h0
      generalize hs : 32 - blen t = s at *
      have hs32 : s ≤ 32 := by omega
      have hs31 : s < 32 := by
        rcases Nat.lt_or_ge s 32 with h | h
        · exact h
        · exfalso
          have hb0 : blen t = 0 := by omega
          have := blen_lt t
          rw [hb0, Nat.pow_zero] at this
          have ht0 : ds[ds.length - 1] = 0 := by omega
          exact hn (by rw [List.getLast?_eq_getElem?, List.getElem?_eq_getElem hk, ht0])
      have hlxy := dlen_mono (show y ≤ x by omega)
      have hla1 := lt_dlen x
      have hxs : x * 2 ^ s < 4294967296 ^ (dlen x + 1) := by
        rw [Nat.pow_succ]
        refine Nat.lt_of_lt_of_le (Nat.mul_lt_mul_of_pos_right hla1 (Nat.pow_pos (by omega))) (Nat.mul_le_mul_left _ ?_)
        exact Nat.le_trans (Nat.pow_le_pow_right (by omega) (show s ≤ 31 by omega)) (by omega)
      refine w_skip ?_
      refine at_seq ?_
      refine wsr ?_
      refine wmv ?_
      refine wmv ?_
      refine wv (x_len Tryz.underlying47 rfl rfl) ?_
      refine wv (x_sub rfl rfl (wrap_i64 (by omega) (by omega))) ?_
      refine wv (x_index Tryz.underlying47 Tryz.size51 rfl rfl (j := (ds.length - 1)) (by omega) (by omega)) ?_
      refine wv (x_load Tryz.plain51 rfl (((hra.up hm2).heap.nth (ds.length - 1) (by rw [dsv_get hk, ht]) (by omega)))) ?_
      refine wl_callp rfl rfl rfl Tryz.c223 (lz32_ok htb) ?_; rintro v3 m3 hm3 hz3
      rw [hs] at hz3
      subst hz3
      refine was ?_
      refine wnr ?_
      refine wmv ?_
      refine wmv ?_
      refine wl_callp rfl rfl rfl Tryz.c224 (Shl_ok (n := s) ⟨ds, hds'.up (hm2.trans hm3), hd⟩ (by omega) (by omega)) ?_; rintro v4 m4 hm4 ⟨vs, hvs, hvsv, hvsn⟩
      have evl := dlen_nv hvs.1 hvsn
      have hvs' := hvs
      obtain ⟨hvo, hvll, va, vc, rfl, hvc, hvr⟩ := hvs
      rw [hvsv] at evl
      have hvL : vs.length = ds.length := (by have a1 := dlen_le htop.2; have a2 := lt_dlen (y * 2 ^ s); rcases Nat.lt_or_ge (dlen (y * 2 ^ s)) ds.length with h | h; exact absurd (Nat.le_trans (Nat.le_mul_of_pos_left _ (by omega)) htop.1) (Nat.not_le.2 (Nat.lt_of_lt_of_le a2 (Nat.pow_le_pow_right (by omega) (by omega)))); omega)
      have hVhi : 2147483648 * 4294967296 ^ (vs.length - 1) ≤ nv vs := (by rw [hvL, hvsv]; exact htop.1)
      refine was ?_
      refine wnr ?_
      refine wmv ?_
      refine wv (x_len Tryz.underlying47 rfl rfl) ?_
      refine was ?_
      refine wnr ?_
      refine wmv ?_
      refine wl_callp rfl rfl rfl Tryz.c123 (Normal_ok (hv.up (hm1.trans (hm2.trans (hm3.trans hm4))))) ?_; rintro v5 m5 hm5 ⟨xs, ⟨hxo, hxl, xa, xc, rfl, hxc, hxr⟩, hxv, hxn⟩
      have exl := dlen_nv hxo hxn
      rw [hxv] at exl
      generalize hla : xs.length = la at *
      refine wv (x_len Tryz.underlying47 rfl rfl) ?_
      refine wv (x_add rfl rfl (wrap_i64 (by omega) (by omega))) ?_
      refine wl_make (N := (la + 1)) rfl rfl Tryz.underlying47 Tryz.size51 Tryz.bytes51 Tryz.zero51 rfl rfl rfl (by omega) (by omega) (by omega) (by omega) ?_; intro b55
      refine was ?_
      refine wnr ?_
      refine wmv ?_
      refine wmv ?_
      refine wmv ?_
      refine wl_callp rfl rfl rfl Tryz.c224 (Shl_ok (n := s) (hv.up (hm1.trans (hm2.trans (hm3.trans (hm4.trans hm5))))) (by omega) (by omega)) ?_; rintro v6 m6 hm6 ⟨ws0, ⟨huo0, hul0, ua, uc, rfl, huc, hur⟩, huv0, hun0⟩
      have eul0 := dlen_nv huo0 hun0
      rw [huv0] at eul0
      have eul02 : ws0.length ≤ la + 1 := by rw [eul0]; exact dlen_le (by rw [exl]; exact hxs)
      refine wl_copy rfl rfl rfl Tryz.underlying47 Tryz.size51 rfl rfl rfl (by omega) (by rw [dsv_length, Nat.mul_one]) (Dg.src hur) (dsv_one ws0) (by simp [reps_length, dsv_length]; omega) ?_; rw [dsv_zero, splice_dsv (by simp; omega)]
      refine wnr ?_
      have hz0v : nv (List.take 0 (List.replicate (la + 1) 0) ++ ws0 ++ List.drop (0 + ws0.length) (List.replicate (la + 1) 0)) = x * 2 ^ s := by rw [List.drop_replicate, List.take_zero, List.nil_append, nv_append, nv_zero, Nat.mul_zero, Nat.add_zero, huv0]
      have hz0l : (List.take 0 (List.replicate (la + 1) 0) ++ ws0 ++ List.drop (0 + ws0.length) (List.replicate (la + 1) 0)).length = la + 1 := by simp; omega
      have hz0o : okd (List.take 0 (List.replicate (la + 1) 0) ++ ws0 ++ List.drop (0 + ws0.length) (List.replicate (la + 1) 0)) := by rw [List.take_zero, List.nil_append]; exact okd_append huo0 (fun e he => by simp at he; omega)
      generalize List.take 0 (List.replicate (la + 1) 0) ++ ws0 ++ List.drop (0 + ws0.length) (List.replicate (la + 1) 0) = z0 at hz0v hz0l hz0o ⊢
      refine wmv ?_
      refine wv (x_len Tryz.underlying47 rfl rfl) ?_
      refine wmv ?_
      refine wv (x_sub rfl rfl (wrap_i64 (by omega) (by omega))) ?_
      refine wl_make (N := (la + 1 - vs.length)) rfl rfl Tryz.underlying47 Tryz.size51 Tryz.bytes51 Tryz.zero51 rfl rfl rfl (by omega) (by omega) (by omega) (by omega) ?_; intro b65
      refine was ?_
      refine wns ?_
      refine w_seq ?_
      refine w_label ?_
      refine at_seq ?_
      refine w_seq ?_
      refine wsr ?_
      refine wmv ?_
      refine wv (x_len Tryz.underlying47 rfl rfl) ?_
      refine wv (x_sub rfl rfl (wrap_i64 (by omega) (by omega))) ?_
      refine was ?_
      refine wns ?_
      refine w_block ?_
      have hVp : 0 < nv vs := Nat.lt_of_lt_of_le (Nat.mul_pos (by omega) (Nat.pow_pos (by omega))) hVhi
      have hm46 := hm5.trans hm6
      have hinit : nv z0 < 4294967296 ^ (la + 1 - vs.length) * nv vs := by
        rw [hz0v]
        have q1 : x * 2 ^ s < 4294967296 ^ la * 2147483648 := by
          have a1 := lt_dlen x
          rw [← exl] at a1
          refine Nat.lt_of_lt_of_le (Nat.mul_lt_mul_of_pos_right a1 (Nat.pow_pos (by omega))) (Nat.mul_le_mul_left _ ?_)
          exact (Nat.pow_le_pow_right (by omega) (show s ≤ 31 by omega) : 2 ^ s ≤ 2 ^ 31)
        refine Nat.lt_of_lt_of_le q1 (Nat.le_trans ?_ (Nat.mul_le_mul_left _ hVhi))
        rw [Nat.mul_left_comm, ← Nat.pow_add, Nat.mul_comm, show la + 1 - vs.length + (vs.length - 1) = la by omega]
        exact Nat.le_refl _
      refine w_loop (fun r m' H' env' => ∃ us qs, m6.le m' ∧ r ≤ la + 1 - vs.length ∧ us.length = la + 1 ∧ okd us ∧ qs.length = la + 1 - vs.length ∧ okd qs ∧ qs.take r = List.replicate r 0 ∧ x * 2 ^ s = nv us + nv vs * nv qs ∧ nv us < 4294967296 ^ r * nv vs ∧ H' = [(b65, cl 51 (dsv qs)), (b55, cl 51 (dsv us))] ∧ env' = [(4, .slice (some ⟨b65, 0, none⟩) (la + 1 - vs.length) (la + 1 - vs.length)), (9, .int .i64 (s : Nat)), (10, .slice va vs.length vc), (11, .int .i64 vs.length), (12, .slice (some ⟨b55, 0, none⟩) (la + 1) (la + 1)), (13, .int .i64 (((r : Nat) : Int) - 1))]) (la + 1 - vs.length) [(4, .slice (some ⟨b65, 0, none⟩) (la + 1 - vs.length) (la + 1 - vs.length)), (9, .int .i64 (s : Nat)), (10, .slice va vs.length vc), (11, .int .i64 vs.length), (12, .slice (some ⟨b55, 0, none⟩) (la + 1) (la + 1)), (13, .int .i64 (((la + 1 - vs.length : Nat) : Int) - 1))] ⟨z0, List.replicate (la + 1 - vs.length) 0, Mem.le.refl _, Nat.le_refl _, hz0l, hz0o, by simp, fun e he => by simp at he; omega, by simp, by rw [nv_zero, hz0v]; simp, hinit, by rw [dsv_zero], rfl⟩ (by repeat' (first | exact trivial | exact rfl | exact lk_int rfl (by omega) | apply And.intro)) ?_
      clear hinit hz0v hz0l hz0o
      rintro k m7 H' env' ⟨us, qs, hm7, hk1, hul, huo, hql, hqo, hqz, hval, hlt, rfl, rfl⟩
      refine w_seq ?_
      refine wsr ?_
      refine wmv ?_
      refine wv (x_geq rfl rfl) ?_
      refine wns ?_
      refine w_if rfl (fun h3 => ?_) (fun h3 => ?_)
      · skip
        obtain ⟨j, rfl⟩ : ∃ j, k = j + 1 := ⟨k - 1, by omega⟩
        obtain ⟨bv, ov, rfl, hvr'⟩ := hvr (by omega)
        have hjl : j + vs.length < us.length := by omega
        have htl' := top_le (by omega) rfl hvo hjl hlt
        have hvh : 2147483648 ≤ vs[vs.length - 1] := by
          have hl := nv_lt (okd_take hvo (vs.length - 1))
          rw [List.length_take, Nat.min_eq_left (by omega)] at hl
          have h3 : nv (vs.drop (vs.length - 1)) = vs[vs.length - 1] := by rw [List.drop_eq_getElem_cons (by omega), List.drop_eq_nil_of_le (by omega)]; simp [nv]
          have h4 := nv_split vs (vs.length - 1) (by omega)
          rw [h3] at h4
          rcases Nat.lt_or_ge vs[vs.length - 1] 2147483648 with h | h
          · exfalso
            have h5 : 4294967296 ^ (vs.length - 1) * (vs[vs.length - 1] + 1) ≤ 4294967296 ^ (vs.length - 1) * 2147483648 := Nat.mul_le_mul_left _ h
            rw [Nat.mul_add, Nat.mul_one, Nat.mul_comm _ 2147483648] at h5
            omega
          · exact h
        have hqj : j < qs.length := by omega
        have hq0 : qs[j] = 0 := by
          have h : (qs.take (j + 1))[j]? = some 0 := by rw [hqz]; simp
          rw [List.getElem?_take_of_lt (by omega), List.getElem?_eq_getElem hqj] at h
          exact Option.some.inj h
        have hDp : 0 < 4294967296 ^ j * nv vs := Nat.mul_pos (Nat.pow_pos (by omega)) hVp
        have hup := hm46.trans hm7
        refine w_skip ?_
        refine at_seq ?_
        refine w_seq ?_
        refine w_block ?_
        refine wsr ?_
        refine wmv ?_
        refine wmv ?_
        refine wmv ?_
        refine wmv ?_
        refine wv (x_add rfl rfl (wrap_i64 (by omega) (by omega))) ?_
        refine wv (x_add rfl rfl (wrap_i64 (by omega) (by omega))) ?_
        refine wv (x_sliceAs (lo := j) (hi := j + vs.length + 1) (p := some ⟨b55, j, none⟩) (L := vs.length + 1) (C := la + 1 - j) Tryz.underlying47 Tryz.size51 rfl (⟨_, by first | rfl | exact lk_int rfl (by omega)⟩) (⟨_, by first | rfl | exact lk_int rfl (by omega)⟩) (by omega) (by omega) (by first | (rw [offTo_lt (by omega)]; simp) | rfl) (by omega) (by omega)) ?_
        refine was ?_
        refine wns ?_
        refine w_seq ?_
        refine dr_start [] [[], [], [], [], [2, 3], [4], [], [], [7], [6, 8], [9], [], [], [12], [11, 13], [14], [], [], [17], [16, 18], [19], [], [], [22], [21, 23], [24], [5, 10, 15, 20, 25]] ?_
        refine dr_val rfl rfl (fun m' hm' => ds_val rfl (x_move rfl)) ?_
        refine dr_val rfl rfl (fun m' hm' => ds_val rfl (x_move rfl)) ?_
        refine dr_val rfl rfl (fun m' hm' => ds_val rfl (x_move rfl)) ?_
        refine dr_val rfl rfl (fun m' hm' => ds_val rfl (x_move rfl)) ?_
        refine dr_val rfl rfl (fun m' hm' => ds_val rfl (x_index Tryz.underlying47 Tryz.size51 rfl rfl (j := vs.length) (by omega) (by omega))) ?_
        refine dr_val rfl rfl (fun m' hm' => ds_val rfl (x_load Tryz.plain51 rfl (rowH1 (o := j + vs.length * 1) (.tail _ (.head _)) (dsv_at hjl (by omega))))) ?_
        refine dr_val rfl rfl (fun m' hm' => ds_val rfl (x_move rfl)) ?_
        refine dr_val rfl rfl (fun m' hm' => ds_val rfl (x_move rfl)) ?_
        refine dr_val rfl rfl (fun m' hm' => ds_val rfl (x_sub rfl rfl (wrap_i64 (by omega) (by omega)))) ?_
        refine dr_val rfl rfl (fun m' hm' => ds_val rfl (x_index Tryz.underlying47 Tryz.size51 rfl rfl (j := (vs.length - 1)) (by omega) (by omega))) ?_
        refine dr_val rfl rfl (fun m' hm' => ds_val rfl (x_load Tryz.plain51 rfl (rowH1 (o := j + (vs.length - 1) * 1) (.tail _ (.head _)) (dsv_at (ds := us) (o := j + (vs.length - 1) * 1) (show j + (vs.length - 1) < us.length by omega) (by omega))))) ?_
        refine dr_val rfl rfl (fun m' hm' => ds_val rfl (x_move rfl)) ?_
        refine dr_val rfl rfl (fun m' hm' => ds_val rfl (x_move rfl)) ?_
        refine dr_val rfl rfl (fun m' hm' => ds_val rfl (x_sub rfl rfl (wrap_i64 (by omega) (by omega)))) ?_
        refine dr_val rfl rfl (fun m' hm' => ds_val rfl (x_index Tryz.underlying47 Tryz.size51 rfl rfl (j := (vs.length - 2)) (by omega) (by omega))) ?_
        refine dr_val rfl rfl (fun m' hm' => ds_val rfl (x_load Tryz.plain51 rfl (rowH1 (o := j + (vs.length - 2) * 1) (.tail _ (.head _)) (dsv_at (ds := us) (o := j + (vs.length - 2) * 1) (show j + (vs.length - 2) < us.length by omega) (by omega))))) ?_
        refine dr_val rfl rfl (fun m' hm' => ds_val rfl (x_move rfl)) ?_
        refine dr_val rfl rfl (fun m' hm' => ds_val rfl (x_move rfl)) ?_
        refine dr_val rfl rfl (fun m' hm' => ds_val rfl (x_sub rfl rfl (wrap_i64 (by omega) (by omega)))) ?_
        refine dr_val rfl rfl (fun m' hm' => ds_val rfl (x_index Tryz.underlying47 Tryz.size51 rfl rfl (j := (vs.length - 1)) (by omega) (by omega))) ?_
        refine dr_val rfl rfl (fun m' hm' => ds_val rfl (x_load Tryz.plain51 rfl (((hvr'.up (hup.trans hm')).heap.nth (o' := ov + (vs.length - 1) * 1) (vs.length - 1) (dsv_get (show vs.length - 1 < vs.length by omega)) (by omega))))) ?_
        refine dr_val rfl rfl (fun m' hm' => ds_val rfl (x_move rfl)) ?_
        refine dr_val rfl rfl (fun m' hm' => ds_val rfl (x_move rfl)) ?_
        refine dr_val rfl rfl (fun m' hm' => ds_val rfl (x_sub rfl rfl (wrap_i64 (by omega) (by omega)))) ?_
        refine dr_val rfl rfl (fun m' hm' => ds_val rfl (x_index Tryz.underlying47 Tryz.size51 rfl rfl (j := (vs.length - 2)) (by omega) (by omega))) ?_
        refine dr_val rfl rfl (fun m' hm' => ds_val rfl (x_load Tryz.plain51 rfl (((hvr'.up (hup.trans hm')).heap.nth (o' := ov + (vs.length - 2) * 1) (vs.length - 2) (dsv_get (show vs.length - 2 < vs.length by omega)) (by omega))))) ?_
        refine dr_op (.ret (fun r _ => ∃ q, r = .int .u32 ((q : Nat) : Int) ∧ Est ((us[j + vs.length] * 4294967296 + us[j + (vs.length - 1)]) * 4294967296 + us[j + (vs.length - 2)]) (vs[vs.length - 1] * 4294967296 + vs[vs.length - 2]) q) fun _ _ _ _ h => h) rfl rfl (fun m' hm' => ds_call rfl rfl Tryz.c225 (estimate_ok (huo _ (List.getElem_mem _)) (huo _ (List.getElem_mem _)) (huo _ (List.getElem_mem _)) (hvo _ (List.getElem_mem _)) (hvo _ (List.getElem_mem _)) hvh htl')) ?_
        refine dr_done (k := 27) Tryz.mixed rfl rfl rfl fun m8 hm_m8 v26 h26 => ?_
        show WL _ _ _ _ _ _ _ _ _
        obtain ⟨q, rfl, hE⟩ := h26
        refine wv (x_index Tryz.underlying47 Tryz.size51 rfl rfl (j := j) (by omega) (by omega)) ?_
        refine wl_storeAs (xs' := dsv (qs.set j q)) rfl Tryz.size51 rfl rfl rfl (by simp [dsv]; omega) (dsv_setAs (by omega) (by omega)) ?_
        refine wns ?_
        refine w_seq ?_
        refine wsr ?_
        refine wmv ?_
        refine wmv ?_
        refine wmv ?_
        refine wmv ?_
        refine wv (x_index Tryz.underlying47 Tryz.size51 rfl rfl (j := j) (by omega) (by omega)) ?_
        refine wv (x_load Tryz.plain51 rfl (rowH1 (v := .int .u32 (q : Nat)) (o := 0 + j * 1) (.head _) (by rw [dsv_at (ds := qs.set j q) (i := j) (by simp; omega) (by omega)]; simp))) ?_
        refine wl_calld1 rfl rfl rfl Tryz.c226 (subm_ok (L := vs.length + 1) (hvs'.up (hup.trans hm_m8)) huo rfl (by omega) (by omega) hE.lt) ?_; rintro v9 m9 H9 hm9 ⟨ws, bo, hbo, rfl, hwl, hwo, hwd, hwv, rfl⟩
        refine wv (x_not rfl rfl) ?_
        refine wns ?_
        have hbig : nv us < 4294967296 ^ (j + (vs.length + 1)) := by
          refine Nat.lt_of_lt_of_le hlt ?_
          rw [show j + (vs.length + 1) = (j + 1) + vs.length by omega, Nat.pow_add _ (j + 1)]
          exact Nat.mul_le_mul_left _ (Nat.le_of_lt (nv_lt hvo))
        have hu0 := drop_small hbig (by omega)
        have hwlt : ∀ {zs : List Nat}, okd zs → zs.length = us.length → nv (zs.drop (j + (vs.length + 1))) = 0 → nv zs < 4294967296 ^ (j + (vs.length + 1)) := by
          intro zs h1 h2 h3
          have h4 := nv_lt (okd_take h1 (j + (vs.length + 1)))
          rw [List.length_take, Nat.min_eq_left (by omega)] at h4
          have h5 := nv_split zs (j + (vs.length + 1)) (by omega)
          rw [h3] at h5
          omega
        have hws := hwlt hwo hwl (by rw [hwd]; exact hu0)
        obtain ⟨hq1, hq2⟩ := est_quot (by omega) rfl hvo huo hjl hVhi hlt hE
        have hwv' : nv ws + 4294967296 ^ j * nv vs * q = nv us + 4294967296 ^ (j + (vs.length + 1)) * bo := by rw [Nat.mul_assoc]; exact hwv
        have hdm := Nat.div_add_mod (nv us) (4294967296 ^ j * nv vs)
        have hml := Nat.mod_lt (nv us) hDp
        have hnset : ∀ d, nv (qs.set j d) = nv qs + 4294967296 ^ j * d := fun d => by have := nv_set hqj d; rw [hq0] at this; omega
        have hnext : ∀ {zs : List Nat} {d : Nat}, d = nv us / (4294967296 ^ j * nv vs) → nv zs = nv us % (4294967296 ^ j * nv vs) → x * 2 ^ s = nv zs + nv vs * nv (qs.set j d) := by
          intro zs d hd hz
          have e : nv vs * (4294967296 ^ j * d) = 4294967296 ^ j * nv vs * d := by rw [Nat.mul_left_comm, ← Nat.mul_assoc]
          rw [← hd, ← hz] at hdm
          rw [hnset, hval, Nat.mul_add, e]
          omega
        have htz : ∀ d, (qs.set j d).take j = List.replicate j 0 := fun d => by
          rw [List.take_set_of_le (Nat.le_refl _)]
          have := congrArg (List.take j) hqz
          rw [List.take_take, Nat.min_eq_left (by omega), List.take_replicate, Nat.min_eq_left (by omega)] at this
          exact this
        refine w_cond rfl (fun h5 => ?_) (fun h5 => ?_)
        · skip
          have hb0 : bo = 0 := by simpa using h5
          subst hb0
          obtain ⟨hqe, hwe⟩ := sub_case0 hq1 hDp (by rw [hwv', Nat.mul_zero, Nat.add_zero])
          refine w_exit ?_
          refine at_then_exit ?_
          refine at_block_hit ?_
          refine at_seq ?_
          refine w_region ?_
          refine wmv ?_
          refine wv (x_sub rfl rfl (wrap_i64 (by omega) (by omega))) ?_
          refine was ?_
          refine wl_nil ?_
          exact at_again j [(4, .slice (some ⟨b65, 0, none⟩) (la + 1 - vs.length) (la + 1 - vs.length)), (9, .int .i64 (s : Nat)), (10, .slice (some ⟨bv, ov, none⟩) vs.length vc), (11, .int .i64 vs.length), (12, .slice (some ⟨b55, 0, none⟩) (la + 1) (la + 1)), (13, .int .i64 (((j : Nat) : Int) - 1))] (by omega) ⟨ws, qs.set j q, hm7.trans (hm_m8.trans hm9), by omega, by omega, hwo, by simpa using hql, okd_set hqo _ hE.lt, htz q, hnext hqe hwe, by rw [hwe]; exact hml, rfl, rfl⟩ (by repeat' (first | exact trivial | exact rfl | exact lk_int rfl (by omega) | apply And.intro))
        · skip
          have hb1 : bo = 1 := by have : ¬ bo = 0 := fun e => by subst e; simp at h5
                                  omega
          subst hb1
          rw [Nat.mul_one] at hwv'
          have hqe := sub_case1 hq1 hq2 hwv' hws
          have hqpos : 1 ≤ q := by rw [hqe]; exact Nat.le_add_left _ _
          have hqm : q - 1 = nv us / (4294967296 ^ j * nv vs) := by rw [hqe, Nat.add_sub_cancel]
          have hqlt := hE.lt
          refine w_skip ?_
          refine at_seq ?_
          refine wsr ?_
          refine wmv ?_
          refine wmv ?_
          refine wv (x_index Tryz.underlying47 Tryz.size51 rfl rfl (j := j) (by omega) (by omega)) ?_
          refine wv (x_load Tryz.plain51 rfl (rowH1 (v := .int .u32 (q : Nat)) (o := 0 + j * 1) (.head _) (by rw [dsv_at (ds := qs.set j q) (i := j) (by simp; omega) (by omega)]; simp))) ?_
          refine wv (x_sub rfl rfl (u32n (r := q - 1) (Int.ofNat_sub hqpos).symm (Nat.le_trans (Nat.sub_le _ _) (Nat.le_of_lt_succ hqlt)))) ?_
          refine wv (x_index Tryz.underlying47 Tryz.size51 rfl rfl (j := j) (by omega) (by omega)) ?_
          refine wl_storeAs (xs' := dsv ((qs.set j q).set j (q - 1))) rfl Tryz.size51 rfl rfl rfl (by simp [dsv]; omega) (dsv_setAs (by omega) (by omega)) ?_
          refine wns ?_
          refine w_region ?_
          refine wmv ?_
          refine wmv ?_
          refine wl_calld1 rfl rfl rfl Tryz.c227 (addBack_ok (L := vs.length + 1) (hvs'.up (hup.trans (hm_m8.trans hm9))) hwo rfl (by omega) (by omega)) ?_; rintro v10 m10 H10 hm10 ⟨rfl, ws2, c, hc, hw2l, hw2o, hw2d, hw2v, rfl⟩
          refine wl_nil ?_
          refine at_block_normal ?_
          refine at_seq ?_
          refine w_region ?_
          refine wmv ?_
          refine wv (x_sub rfl rfl (wrap_i64 (by omega) (by omega))) ?_
          refine was ?_
          refine wl_nil ?_
          have hws2 := hwlt hw2o (by omega) (by rw [hw2d, hwd]; exact hu0)
          rw [hqe] at hwv'
          have hwe := add_case hwv' hw2v hws2 hc
          rw [List.set_set]
          exact at_again j [(4, .slice (some ⟨b65, 0, none⟩) (la + 1 - vs.length) (la + 1 - vs.length)), (9, .int .i64 (s : Nat)), (10, .slice (some ⟨bv, ov, none⟩) vs.length vc), (11, .int .i64 vs.length), (12, .slice (some ⟨b55, 0, none⟩) (la + 1) (la + 1)), (13, .int .i64 (((j : Nat) : Int) - 1))] (by omega) ⟨ws2, qs.set j (q - 1), hm7.trans (hm_m8.trans (hm9.trans hm10)), by omega, by omega, hw2o, by simpa using hql, okd_set hqo _ (Nat.lt_of_le_of_lt (Nat.sub_le _ _) hqlt), htz _, hnext hqm hwe, by rw [hwe]; exact hml, rfl, rfl⟩ (by repeat' (first | exact trivial | exact rfl | exact lk_int rfl (by omega) | apply And.intro))
      · skip
        obtain rfl : k = 0 := by omega
        rw [Nat.pow_zero, Nat.one_mul] at hlt
        have hp2 : 0 < 2 ^ s := Nat.pow_pos (by omega)
        have hquo : nv qs = x / y := by
          have h1 : x * 2 ^ s / (y * 2 ^ s) = nv qs := by rw [← hvsv, hval, Nat.add_mul_div_left _ _ hVp, Nat.div_eq_of_lt hlt, Nat.zero_add]
          rw [← h1, Nat.mul_div_mul_right _ _ hp2]
        have hrem : nv us / 2 ^ s = x % y := by
          have h1 : x * 2 ^ s % (y * 2 ^ s) = nv us := by rw [← hvsv, hval, Nat.add_mul_mod_self_left, Nat.mod_eq_of_lt hlt]
          rw [← h1, Nat.mul_mod_mul_right, Nat.mul_div_cancel _ hp2]
        refine w_exit ?_
        refine at_then_exit ?_
        refine at_then_exit ?_
        refine at_block_hit ?_
        refine at_seq ?_
        refine wsr ?_
        refine wmv ?_
        refine wl_freeze ?_; intro hfz1; refine wl_freeze ?_; intro hfz2
        refine wl_callp rfl rfl rfl Tryz.c123 (Normal_ok (x := x / y) ⟨qs, (Dg.made' (Mem.add_at _ _ _) hqo hql (by omega)).up hfz2, hquo⟩) ?_; rintro v8 m8 hm8 hv8
        obtain ⟨qd, ⟨g1, g2, qa, qc, rfl, g3, g4⟩, g5, g6⟩ := hv8
        refine wmv ?_
        refine wmv ?_
        refine wl_callp rfl rfl rfl Tryz.c228 (Shr_ok (n := s) (x := nv us) ⟨us, (Dg.made' (Mem.add_at _ _ _) huo hul (by omega)).up hm8, rfl⟩ (by omega) (by have := dlen_le_length huo; omega)) ?_; rintro v9 m9 hm9 hv9
        refine was ?_
        refine was ?_
        refine wns ?_
        refine w_ret ?_
        refine at_scope_ret ?_
        refine at_endp (res2 rfl rfl rfl) ?_
        exact ⟨_, _, rfl, Nn.up ⟨qd, ⟨g1, g2, qa, qc, rfl, g3, g4⟩, g5, g6⟩ hm9, hv9.eq hrem⟩
end Go.Cy


/- division: divide by one digit, Quo, Exact, Gcd of small numbers. -/
namespace Go.Cy
open Go Go.Proofs
set_option maxRecDepth 20000

theorem isZero_ok {m : Mem} {v : Value} {z : Int} (h : In m v z) : Pure Tryz.prog 192 #[v] m fun r _ => r = .bool (decide (z = 0)) := by
  have h' := h
  obtain ⟨neg, s, a, rfl, hs, e⟩ := h
  refine enterp Tryz.func192 rfl rfl ?_
  intro K hm0 hks
  refine wsr ?_
  refine wl_box rfl rfl rfl rfl ?_; intro b1
  refine was ?_
  refine wnr ?_
  refine wv (x_loads Tryz.agg49 (by exact Tryz.size49) rfl (rowH0 (.head _))) ?_
  refine wl_callp rfl rfl rfl Tryz.c40 (Sign_ok h') ?_; rintro v1 m1 hm1 rfl
  refine wv (x_eql rfl rfl) ?_
  refine was ?_
  refine wns ?_
  refine w_ret ?_
  refine at_endp (res1 rfl rfl) ?_
  have := sign_cases z
  rw [show decide (z.sign = 0) = decide (z = 0) by rw [decide_eq_decide]; omega]

theorem Ic.agg {m : Mem} {v : Value} {z : Int} (h : Ic m v z) : ∃ neg ad l c, v = .agg #[.bool neg, .slice ad l c] := by
  obtain ⟨neg, s, a, rfl, hs, _⟩ := h
  obtain ⟨ad, l, c, rfl⟩ := hs.slice
  exact ⟨_, _, _, _, rfl⟩

theorem sg_tdiv (n1 n2 : Bool) (a b : Nat) : sg (n1 != n2) (a / b) = (sg n1 a).tdiv (sg n2 b) := by
  cases n1 <;> cases n2 <;> simp [sg, Int.neg_tdiv, Int.tdiv_neg]
theorem sg_tmod (n1 n2 : Bool) (a b : Nat) : sg n1 (a % b) = (sg n1 a).tmod (sg n2 b) := by
  have := Int.ofNat_tmod a b
  cases n1 <;> cases n2 <;> simp [sg, Int.neg_tmod, Int.tmod_neg] <;> simpa using this

theorem Quo_ok {m : Mem} {v u : Value} {x y : Int} (hv : In m v x) (hu : In m u y) (h0 : y ≠ 0) (hs : dlen x.natAbs ≤ 35183000000000) :
    Pure Tryz.prog 191 #[v, u] m fun r m' => ∃ q s, r = .tuple #[q, s, .int .i64 0] ∧ Ic m' q (x.tdiv y) ∧ Ic m' s (x.tmod y) := by
  have hv' := hv
  have hu' := hu
  obtain ⟨n1, s1, a1, rfl, hs1, e1⟩ := hv
  obtain ⟨n2, s2, a2, rfl, hs2, e2⟩ := hu
  have g1 : x.natAbs = a1 := by subst e1; cases n1 <;> simp [sg]
  have g2 : y.natAbs = a2 := by subst e2; cases n2 <;> simp [sg]
  refine enterp Tryz.func191 rfl rfl ?_
  intro K hm0 hks
  refine wsr ?_
  refine wl_box rfl rfl rfl rfl ?_; intro b2
  refine wl_box rfl rfl rfl rfl ?_; intro b3
  refine wl_alloc rfl rfl Tryz.zero49 ?_; intro b4
  refine wl_alloc rfl rfl Tryz.zero49 ?_; intro b5
  refine was ?_
  refine wns ?_
  refine w_seq ?_
  refine wsr ?_
  refine wv (x_loads Tryz.agg49 (by exact Tryz.size49) rfl (rowH0 (.tail _ (.tail _ (.head _))))) ?_
  refine wl_callp rfl rfl rfl Tryz.c192 (isZero_ok hu') ?_; rintro v1 m1 hm1 rfl
  refine wns ?_
  refine w_if rfl (fun h1 => ?_) (fun h1 => ?_)
  · skip
    exact absurd h1 h0
  · skip
    refine w_skip ?_
    refine at_seq ?_
    refine wsr ?_
    refine wv (x_fieldAddr Tryz.underlying49 rfl Tryz.size47 rfl) ?_
    refine wv (x_load Tryz.plain47 rfl (rowH1 (.tail _ (.tail _ (.tail _ (.head _)))) rfl)) ?_
    refine wv (x_fieldAddr Tryz.underlying49 rfl Tryz.size47 rfl) ?_
    refine wv (x_load Tryz.plain47 rfl (rowH1 (.tail _ (.tail _ (.head _))) rfl)) ?_
    refine wl_callp rfl rfl rfl Tryz.c189 (divide_ok (hs1.up hm1) (hs2.up hm1) (by omega) (by rw [← g1]; exact hs)) ?_; rintro v2 m2 hm2 ⟨q, s, rfl, hq, hr⟩
    refine wmv ?_
    refine wex ?_
    refine wex ?_
    refine was ?_
    refine was ?_
    refine wns ?_
    refine w_seq ?_
    refine dr_start [] [[], [0], [], [2], [1, 3], [], [4, 5], [], [7], []] ?_
    refine dr_val rfl rfl (fun m' hm' => ds_val rfl (x_fieldAddr Tryz.underlying49 rfl Tryz.size4 rfl)) ?_
    refine dr_val rfl rfl (fun m' hm' => ds_val rfl (x_load Tryz.plain4 rfl (rowH1 (.tail _ (.tail _ (.tail _ (.head _)))) rfl))) ?_
    refine dr_val rfl rfl (fun m' hm' => ds_val rfl (x_fieldAddr Tryz.underlying49 rfl Tryz.size4 rfl)) ?_
    refine dr_val rfl rfl (fun m' hm' => ds_val rfl (x_load Tryz.plain4 rfl (rowH1 (.tail _ (.tail _ (.head _))) rfl))) ?_
    refine dr_val rfl rfl (fun m' hm' => ds_val rfl (x_neqB Tryz.underlying4 rfl rfl)) ?_
    refine dr_val rfl rfl (fun m' hm' => ds_val rfl (x_move rfl)) ?_
    refine dr_op (.ret (fun r m' => Ic m' r (x.tdiv y)) (fun _ _ _ hm h => h.up hm)) rfl rfl (fun m' hm' => ds_call rfl rfl Tryz.c101 ((From_ok (hq.up hm').nt).mono fun _ _ _ h => h.eq (by rw [sg_tdiv, ← e1, ← e2]))) ?_
    refine dr_val rfl rfl (fun m' hm' => ds_val rfl (x_fieldAddr Tryz.underlying49 rfl Tryz.size4 rfl)) ?_
    refine dr_val rfl rfl (fun m' hm' => ds_val rfl (x_load Tryz.plain4 rfl (rowH1 (.tail _ (.tail _ (.tail _ (.head _)))) rfl))) ?_
    refine dr_val rfl rfl (fun m' hm' => ds_val rfl (x_move rfl)) ?_
    refine dr_done (k := 10) Tryz.mixed rfl rfl rfl fun m3 hm_m3 v6 h6 => ?_
    show WL _ _ _ _ _ _ _ _ _
    refine wl_callp rfl rfl rfl Tryz.c101 (From_ok (hr.up hm_m3).nt) ?_; rintro v4 m4 hm4 h4
    obtain ⟨n4, d4, l4, c4, rfl⟩ := h4.agg
    obtain ⟨n6, d6, l6, c6, rfl⟩ := h6.agg
    refine wl_front1 ?_
    refine wl_storeAll rfl (by exact Tryz.size49) rfl rfl (by simp [Value.oneCell']) rfl ?_
    refine wl_front1 ?_
    refine wl_storeAll rfl (by exact Tryz.size49) rfl rfl (by simp [Value.oneCell']) rfl ?_
    refine was ?_
    refine wns ?_
    refine w_ret ?_
    refine at_endp (resAs (vs := [_, _, _]) rfl rfl ⟨⟨_, _, _, rfl, rowH0 (.tail _ (.head _)), .inr ⟨Tryz.agg49, Tryz.size49, rfl⟩⟩, ⟨_, _, _, rfl, rowH0 (.head _), .inr ⟨Tryz.agg49, Tryz.size49, rfl⟩⟩, rfl, trivial⟩) ?_
    exact ⟨_, _, rfl, h6.up hm4, h4.eq (by rw [sg_tmod n1 n2, ← e1, ← e2])⟩

theorem Exact_ok {m : Mem} {v u : Value} {x y : Int} (hv : In m v x) (hu : In m u y) (h0 : y ≠ 0) (hs : dlen x.natAbs ≤ 35183000000000) (hd : y ∣ x) :
    Pure Tryz.prog 141 #[v, u] m fun r m' => ∃ q, r = .tuple #[q, .int .i64 0] ∧ Ic m' q (x.tdiv y) := by
  have hv' := hv
  have hu' := hu
  obtain ⟨n1, s1, a1, rfl, hs1, e1⟩ := hv
  obtain ⟨n2, s2, a2, rfl, hs2, e2⟩ := hu
  refine enterp Tryz.func141 rfl rfl ?_
  intro K hm0 hks
  refine wsr ?_
  refine wl_box rfl rfl rfl rfl ?_; intro b2
  refine wl_box rfl rfl rfl rfl ?_; intro b3
  refine wl_alloc rfl rfl Tryz.zero49 ?_; intro b4
  refine was ?_
  refine wnr ?_
  refine wv (x_loads Tryz.agg49 (by exact Tryz.size49) rfl (rowH0 (.tail _ (.tail _ (.head _))))) ?_
  refine wv (x_loads Tryz.agg49 (by exact Tryz.size49) rfl (rowH0 (.tail _ (.head _)))) ?_
  refine wl_callp rfl rfl rfl Tryz.c191 (Quo_ok hv' hu' h0 hs) ?_; rintro v1 m1 hm1 ⟨q, s, rfl, hq, hr⟩
  obtain ⟨n4, d4, l4, c4, rfl⟩ := hq.agg
  obtain ⟨n5, d5, l5, c5, rfl⟩ := hr.agg
  refine wmv ?_
  refine wex ?_
  refine wex ?_
  refine wex ?_
  refine wl_alloc rfl rfl Tryz.zero49 ?_; intro b6
  refine wl_alloc rfl rfl Tryz.zero49 ?_; intro b7
  refine wl_front1 ?_
  refine wl_storeAll rfl (by exact Tryz.size49) rfl rfl (by simp [Value.oneCell']) rfl ?_
  refine wl_front1 ?_
  refine wl_storeAll rfl (by exact Tryz.size49) rfl rfl (by simp [Value.oneCell']) rfl ?_
  refine was ?_
  refine wns ?_
  refine w_seq ?_
  refine w_block ?_
  refine wsr ?_
  refine wmv ?_
  refine wv (x_neq rfl rfl) ?_
  refine was ?_
  refine wns ?_
  refine w_if rfl (fun h1 => ?_) (fun h1 => ?_)
  · skip
    exact absurd rfl h1
  · skip
    refine wsr ?_
    refine wv (x_loads Tryz.agg49 (by exact Tryz.size49) rfl (rowH0 (.head _))) ?_
    refine wl_callp rfl rfl rfl Tryz.c192 (isZero_ok hr.in') ?_; rintro v2 m2 hm2 rfl
    refine wv (x_not rfl rfl) ?_
    refine was ?_
    refine wns ?_
    refine w_cond rfl (fun h2 => ?_) (fun h2 => ?_)
    · skip
      have := Int.tmod_eq_zero_of_dvd hd
      simp [this] at h2
    · skip
      refine w_skip ?_
      refine at_block_normal ?_
      refine at_seq ?_
      refine wsr ?_
      refine wv (x_loads Tryz.agg49 (by exact Tryz.size49) rfl (rowH0 (.tail _ (.head _)))) ?_
      refine wl_front2 ?_
      refine wl_storeAll rfl (by exact Tryz.size49) rfl rfl (by simp [Value.oneCell']) rfl ?_
      refine was ?_
      refine wns ?_
      refine w_ret ?_
      refine at_endp (resAs (vs := [_, _]) rfl rfl ⟨⟨_, _, _, rfl, rowH0 (.head _), .inr ⟨Tryz.agg49, Tryz.size49, rfl⟩⟩, rfl, trivial⟩) ?_
      exact ⟨_, rfl, hq.up hm2⟩

theorem Gcd_ok {m : Mem} {v u : Value} {x y : Int} (hv : In m v x) (hu : In m u y) (hs : dlen x.natAbs ≤ 35183000000000 ∧ dlen y.natAbs ≤ 35183000000000) :
    Pure Tryz.prog 139 #[v, u] m fun r m' => Ic m' r (Int.gcd x y) := by
  obtain ⟨n1, s1, a1, rfl, hs1, e1⟩ := hv
  obtain ⟨n2, s2, a2, rfl, hs2, e2⟩ := hu
  have g1 : x.natAbs = a1 := by subst e1; cases n1 <;> simp [sg]
  have g2 : y.natAbs = a2 := by subst e2; cases n2 <;> simp [sg]
  have g3 : Int.gcd x y = Nat.gcd a1 a2 := by rw [Int.gcd, g1, g2]
  rw [g3]
  rw [g1, g2] at hs
  refine enterp Tryz.func139 rfl rfl ?_
  intro K hm0 hks
  refine wsr ?_
  refine wl_box rfl rfl rfl rfl ?_; intro b2
  refine wl_box rfl rfl rfl rfl ?_; intro b3
  refine wl_alloc rfl rfl Tryz.zero49 ?_; intro b4
  refine wns ?_
  refine w_seq ?_
  refine dr_start [] [[], [0], [1], [], [3]] ?_
  refine dr_val rfl rfl (fun m' hm' => ds_val rfl (x_fieldAddr Tryz.underlying49 rfl Tryz.size47 rfl)) ?_
  refine dr_val rfl rfl (fun m' hm' => ds_val rfl (x_load Tryz.plain47 rfl (rowH1 (.tail _ (.tail _ (.head _))) rfl))) ?_
  refine dr_op (.ret (fun r m' => Nn m' r a1) (fun _ _ _ hm h => h.up hm)) rfl rfl (fun m' hm' => ds_call rfl rfl Tryz.c123 (Normal_ok (hs1.up hm'))) ?_
  refine dr_val rfl rfl (fun m' hm' => ds_val rfl (x_fieldAddr Tryz.underlying49 rfl Tryz.size47 rfl)) ?_
  refine dr_val rfl rfl (fun m' hm' => ds_val rfl (x_load Tryz.plain47 rfl (rowH1 (.tail _ (.head _)) rfl))) ?_
  refine dr_done (k := 5) Tryz.mixed rfl rfl rfl fun m1 hm_m1 v2 h2 => ?_
  show WL _ _ _ _ _ _ _ _ _
  refine wl_callp rfl rfl rfl Tryz.c123 (Normal_ok (hs2.up hm_m1)) ?_; rintro w2 m2 hm2 hw2
  refine was ?_
  refine was ?_
  refine wns ?_
  refine w_seq ?_
  refine w_block ?_
  have hX := h2.up hm2
  refine w_loop (fun Y m' H' env' => ∃ X vx vy, Nn m' vx X ∧ Nn m' vy Y ∧ Nat.gcd X Y = Nat.gcd a1 a2 ∧ dlen X ≤ 35183000000000 ∧ dlen Y ≤ 35183000000000 ∧ H' = [(b4, cl 49 [.bool false, .slice none 0 0]), (b3, cl 49 (Iv n2 s2).cells.toList), (b2, cl 49 (Iv n1 s1).cells.toList)] ∧ env' = [(4, .pointer (some ⟨b4, 0, none⟩)), (5, vx), (6, vy)]) a2 [(4, .pointer (some ⟨b4, 0, none⟩)), (5, v2), (6, w2)] ⟨a1, _, _, hX, hw2, rfl, hs.1, hs.2, rfl, rfl⟩ (by repeat' (first | exact trivial | exact rfl | exact lk_int rfl (by omega) | apply And.intro)) ?_
  clear hX hw2
  rintro Y m3 H' env' ⟨X, vx, vy, hX, hY, hg, hlX, hlY, rfl, rfl⟩
  have hX' := hX
  have hY' := hY
  obtain ⟨xs, ⟨hxo, hxl, ax, cx, rfl, hcx, hrx⟩, hxv, hxn⟩ := hX
  obtain ⟨ys, ⟨hyo, hyl, ay, cy, rfl, hcy, hry⟩, hyv, hyn⟩ := hY
  refine w_seq ?_
  refine w_seq_mid (fun m' H' env' => m' = m3 ∧ H' = [(b4, cl 49 [.bool false, .slice none 0 0]), (b3, cl 49 (Iv n2 s2).cells.toList), (b2, cl 49 (Iv n1 s1).cells.toList)] ∧ env' = [(4, .pointer (some ⟨b4, 0, none⟩)), (5, .slice ax xs.length cx), (6, .slice ay ys.length cy), (26, .bool (decide (2 < xs.length ∨ 2 < ys.length)))]) ?_ ?_
  · skip
    refine w_region ?_
    refine wmv ?_
    refine wv (x_len Tryz.underlying47 rfl rfl) ?_
    refine wv (x_gtr rfl rfl) ?_
    refine wmv ?_
    refine wl_splitp (t := 22) rfl (fun h3 => ?_) (fun h3 => ?_)
    · skip
      refine wl_off rfl rfl rfl ?_
      refine wl_off rfl rfl rfl ?_
      refine wl_off rfl rfl rfl ?_
      refine wv (x_pick_t rfl rfl) ?_
      refine wl_nil ?_
      exact at_meets [(4, .pointer (some ⟨b4, 0, none⟩)), (5, .slice ax xs.length cx), (6, .slice ay ys.length cy), (26, .bool (decide (2 < xs.length ∨ 2 < ys.length)))] ⟨rfl, rfl, rfl⟩ ⟨rfl, rfl, rfl, lk_eq rfl (congrArg Value.bool (decide_eq_true (show 2 < xs.length ∨ 2 < ys.length by omega)).symm), trivial⟩
    · skip
      refine wmv ?_
      refine wv (x_len Tryz.underlying47 rfl rfl) ?_
      refine wv (x_gtr rfl rfl) ?_
      refine wv (x_pick_f rfl rfl) ?_
      refine wl_nil ?_
      exact at_meets [(4, .pointer (some ⟨b4, 0, none⟩)), (5, .slice ax xs.length cx), (6, .slice ay ys.length cy), (26, .bool (decide (2 < xs.length ∨ 2 < ys.length)))] ⟨rfl, rfl, rfl⟩ ⟨rfl, rfl, rfl, lk_eq rfl (congrArg Value.bool (by rw [decide_eq_decide]; omega)), trivial⟩
  · skip
    rintro m' H' env' ⟨rfl, rfl, rfl⟩
    refine w_if rfl (fun h3 => ?_) (fun h3 => ?_)
    · skip
      refine w_skip ?_
      refine at_seq ?_
      refine w_block ?_
      refine w_seq ?_
      refine wsr ?_
      refine wmv ?_
      refine wv (x_len Tryz.underlying47 rfl rfl) ?_
      refine wv (x_eql rfl rfl) ?_
      refine wns ?_
      refine w_if rfl (fun h4 => ?_) (fun h4 => ?_)
      · skip
        have hy0 : ys = [] := List.length_eq_zero_iff.1 (by omega)
        subst hy0
        obtain rfl : Y = 0 := by simpa [nv] using hyv.symm
        rw [Nat.gcd_zero_right] at hg
        refine wsr ?_
        refine wmv ?_
        refine wl_callp rfl rfl rfl Tryz.c101 (From_ok hX'.nt) ?_; rintro v4 m4 hm4 h4'
        obtain ⟨n5, d5, l5, c5, rfl⟩ := h4'.agg
        refine wl_storeAll rfl (by exact Tryz.size49) rfl rfl (by simp [Value.oneCell']) rfl ?_
        refine wns ?_
        refine w_ret ?_
        refine at_then_ret ?_
        refine at_block_ret ?_
        refine at_then_ret ?_
        refine at_block_ret ?_
        refine at_then_ret ?_
        refine at_endp (resA rfl ⟨⟨_, _, _, rfl, rowH0 (.head _), .inr ⟨Tryz.agg49, Tryz.size49, rfl⟩⟩, trivial⟩) ?_
        exact h4'.eq (by rw [← hg]; rfl)
      · skip
        have hY0 : Y ≠ 0 := fun e => by
          have := (nv_eq_zero hyn).1 (by rw [hyv, e])
          subst this
          simp at h4
        have hml := Nat.mod_lt X (Nat.pos_of_ne_zero hY0)
        refine w_skip ?_
        refine at_seq ?_
        refine wsr ?_
        refine wmv ?_
        refine wmv ?_
        refine wl_callp rfl rfl rfl Tryz.c189 (divide_ok hX'.nt hY'.nt hY0 (by omega)) ?_; rintro v4 m4 hm4 ⟨q, s, rfl, hq, hr⟩
        refine wmv ?_
        refine wex ?_
        refine wex ?_
        refine was ?_
        refine was ?_
        refine wns ?_
        refine w_region ?_
        refine wmv ?_
        refine wmv ?_
        refine was ?_
        refine was ?_
        refine wl_nil ?_
        refine at_block_normal ?_
        exact at_again (X % Y) [(4, .pointer (some ⟨b4, 0, none⟩)), (5, .slice ay ys.length cy), (6, s)] (by omega) ⟨Y, _, _, hY'.up hm4, hr, by rw [← hg, Nat.gcd_comm X, Nat.gcd_rec Y X, Nat.gcd_comm], hlY, by have := dlen_mono (Nat.le_of_lt hml); omega, rfl, rfl⟩ (by repeat' (first | exact trivial | exact rfl | exact lk_int rfl (by omega) | apply And.intro))
    · skip
      have hX2 : X < 18446744073709551616 := by
        have := nv_lt hxo
        rw [hxv] at this
        exact Nat.lt_of_lt_of_le this (Nat.pow_le_pow_right (n := 4294967296) (by omega) (show xs.length ≤ 2 by omega))
      have hY2 : Y < 18446744073709551616 := by
        have := nv_lt hyo
        rw [hyv] at this
        exact Nat.lt_of_lt_of_le this (Nat.pow_le_pow_right (n := 4294967296) (by omega) (show ys.length ≤ 2 by omega))
      refine w_exit ?_
      refine at_then_exit ?_
      refine at_then_exit ?_
      refine at_block_hit ?_
      refine at_seq ?_
      refine wsr ?_
      refine wmv ?_
      refine wl_callp rfl rfl rfl Tryz.c190 (Uint64_ok hX'.nt) ?_; rintro v5 m5 hm5 rfl
      refine wmv ?_
      refine wex ?_
      refine wex ?_
      refine was ?_
      refine was ?_
      refine wnr ?_
      refine wmv ?_
      refine wl_callp rfl rfl rfl Tryz.c190 (Uint64_ok (hY'.nt.up hm5)) ?_; rintro v6 m6 hm6 rfl
      refine wmv ?_
      refine wex ?_
      refine wex ?_
      refine was ?_
      refine was ?_
      refine wns ?_
      refine w_seq ?_
      refine w_block ?_
      simp only [hX2, hY2, if_true]
      refine w_loop (fun k m' H' env' => ∃ p, m6.le m' ∧ p < 18446744073709551616 ∧ k < 18446744073709551616 ∧ Nat.gcd p k = Nat.gcd a1 a2 ∧ H' = [(b4, cl 49 [.bool false, .slice none 0 0]), (b3, cl 49 (Iv n2 s2).cells.toList), (b2, cl 49 (Iv n1 s1).cells.toList)] ∧ env' = [(4, .pointer (some ⟨b4, 0, none⟩)), (9, .int .u64 p), (11, .int .u64 k)]) Y [(4, .pointer (some ⟨b4, 0, none⟩)), (9, .int .u64 (X : Nat)), (11, .int .u64 (Y : Nat))] ⟨X, Mem.le.refl _, hX2, hY2, hg, rfl, rfl⟩ (by repeat' (first | exact trivial | exact rfl | exact lk_int rfl (by omega) | apply And.intro)) ?_
      clear hg
      rintro k m7 H' env' ⟨p, hm7, hp, hk, hg, rfl, rfl⟩
      refine w_seq ?_
      refine wsr ?_
      refine wmv ?_
      refine wv (x_neq rfl rfl) ?_
      refine wns ?_
      refine w_if rfl (fun h5 => ?_) (fun h5 => ?_)
      · skip
        have hk0 : 0 < k := by omega
        have hlt := Nat.mod_lt p hk0
        refine w_skip ?_
        refine at_seq ?_
        refine w_block ?_
        refine dr_start [(9, [1])] [[], [], [], [1, 2], [0]] ?_
        refine dr_val rfl rfl (fun m' hm' => ds_val rfl (x_move rfl)) ?_
        refine dr_val rfl rfl (fun m' hm' => ds_val rfl (x_move rfl)) ?_
        refine dr_val rfl rfl (fun m' hm' => ds_val rfl (x_move rfl)) ?_
        refine dr_val rfl rfl (fun m' hm' => ds_val rfl (x_rem rfl rfl (by omega) ((Int.ofNat_tmod _ _).symm))) ?_
        refine dr_val rfl rfl (fun m' hm' => ds_val rfl (x_assign rfl)) ?_
        refine dr_done (k := 5) Tryz.mixed rfl rfl rfl fun m8 hm_m8 => ?_
        show WL _ _ _ _ _ _ _ _ _
        refine was ?_
        refine wl_nil ?_
        refine at_block_normal ?_
        exact at_again (p % k) [(4, .pointer (some ⟨b4, 0, none⟩)), (9, .int .u64 k), (11, .int .u64 (p % k : Nat))] (by omega) ⟨k, hm7.trans hm_m8, hk, by omega, by rw [← hg, Nat.gcd_comm k, ← Nat.gcd_rec, Nat.gcd_comm], rfl, rfl⟩ (by repeat' (first | exact trivial | exact rfl | exact lk_int rfl (by omega) | apply And.intro))
      · skip
        obtain rfl : k = 0 := by omega
        rw [Nat.gcd_zero_right] at hg
        refine w_exit ?_
        refine at_then_exit ?_
        refine at_then_exit ?_
        refine at_block_hit ?_
        refine at_seq ?_
        refine wsr ?_
        refine wmv ?_
        refine wl_callp rfl rfl rfl Tryz.c66 (Of_ok hp) ?_; rintro v9 m9 hm9 hv9
        refine wl_callp rfl rfl rfl Tryz.c101 (From_ok hv9.nt) ?_; rintro v10 m10 hm10 hv10
        obtain ⟨n11, d11, l11, c11, rfl⟩ := hv10.agg
        refine wl_storeAll rfl (by exact Tryz.size49) rfl rfl (by simp [Value.oneCell']) rfl ?_
        refine wns ?_
        refine w_ret ?_
        refine at_endp (resA rfl ⟨⟨_, _, _, rfl, rowH0 (.head _), .inr ⟨Tryz.agg49, Tryz.size49, rfl⟩⟩, trivial⟩) ?_
        exact hv10.eq (by rw [← hg]; rfl)
end Go.Cy
