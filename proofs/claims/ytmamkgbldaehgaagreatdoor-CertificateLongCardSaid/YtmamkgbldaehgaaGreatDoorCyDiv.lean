/- division: divide by one digit, Quo, Exact, Gcd of small numbers. -/
import Derived.Test.YtmamkgbldaehgaaGreatDoorCyNat5
namespace Go.Cy
open Go Go.Proofs
set_option maxRecDepth 20000

theorem Nn.zero (m : Mem) : Nn m (.slice none 0 0) 0 := ⟨[], ⟨fun _ h => absurd h List.not_mem_nil, by simp, none, 0, rfl, Nat.le_refl _, fun h => absurd h (by simp)⟩, rfl, norm_nil⟩

theorem divide_ok {m : Mem} {v u : Value} {x y : Nat} (hv : Nt m v x) (hu : Nt m u y) (h0 : y ≠ 0) (hs : x < y ∨ y < 4294967296) :
    Pure Tryz.prog 189 #[v, u] m fun r m' => ∃ q s, r = .tuple #[q, s] ∧ Nn m' q (x / y) ∧ Nn m' s (x % y) := by
  refine enterp Tryz.func189 rfl rfl ?_
  intro K hm0 hks
  refine w_seq ?_
  refine w_region ?_
  refine wl_val rfl rfl rfl (x_assign rfl) ?_
  refine wl_val rfl rfl rfl (x_assign rfl) ?_
  refine wl_nil ?_
  refine at_seq ?_
  refine w_scope ?_
  refine w_seq ?_
  refine w_region ?_
  refine wl_val rfl rfl rfl (x_move rfl) ?_
  refine wl_callp rfl rfl rfl Tryz.c123 (Normal_ok hu) ?_; rintro v1 m1 hm1 hv1
  refine wl_val rfl rfl rfl (x_assign rfl) ?_
  refine wl_nil ?_
  refine at_seq ?_
  refine w_seq ?_
  refine w_seq ?_
  refine w_region ?_
  refine wl_val rfl rfl rfl (x_move rfl) ?_
  refine wl_val rfl rfl rfl (x_move rfl) ?_
  refine wl_callp rfl rfl rfl Tryz.c106 (Cmp_ok (hv.up hm1) hv1.nt) ?_; rintro v2 m2 hm2 rfl
  refine wl_val rfl rfl rfl (x_lss rfl rfl) ?_
  refine wl_nil ?_
  refine at_seq ?_
  refine w_if rfl (fun h1 => ?_) (fun h1 => ?_)
  · skip
    have hlt : x < y := by unfold cmpZ at h1; split at h1 <;> (try split at h1) <;> omega
    refine w_seq ?_
    refine w_region ?_
    refine wl_val rfl rfl rfl (x_move rfl) ?_
    refine wl_callp rfl rfl rfl Tryz.c123 (Normal_ok (hv.up (hm1.trans hm2))) ?_; rintro v3 m3 hm3 hv3
    refine wl_val rfl rfl rfl (x_assign rfl) ?_
    refine wl_val rfl rfl rfl (x_assign rfl) ?_
    refine wl_nil ?_
    refine at_seq ?_
    refine w_ret ?_
    refine at_then_ret ?_
    refine at_scope_ret ?_
    refine at_endp (res2 rfl rfl rfl) ?_
    exact ⟨_, _, rfl, (Nn.zero _).eq (Nat.div_eq_of_lt hlt).symm, hv3.eq (Nat.mod_eq_of_lt hlt).symm⟩
  · skip
    have hge : ¬ x < y := by unfold cmpZ at h1; intro h; rw [if_pos h] at h1; omega
    have hv1' := hv1
    obtain ⟨ds, ⟨hb, hl, a, cap, rfl, hc, hr⟩, hd, hn⟩ := hv1
    have e1 := dlen_nv hb hn
    have e2 : dlen (nv ds) ≤ 1 := by rw [hd]; exact dlen_small (by omega)
    have e3 : ds ≠ [] := by intro e; subst e; simp [nv] at hd; omega
    have e4 : ds.length ≠ 0 := fun e => e3 (List.length_eq_zero_iff.1 e)
    obtain ⟨d, rfl⟩ : ∃ d, ds = [d] := List.length_eq_one_iff.1 (by omega)
    obtain ⟨ba, oa, rfl, hra⟩ := hr (by omega)
    have hd' : d = y := by simpa [nv] using hd
    subst hd'
    have hdb : d < 4294967296 := hb d (by simp)
    refine w_skip ?_
    refine at_seq ?_
    refine w_seq ?_
    refine w_seq ?_
    refine w_region ?_
    refine wl_val rfl rfl rfl (x_move rfl) ?_
    refine wl_val rfl rfl rfl (x_len Tryz.underlying47 rfl rfl) ?_
    refine wl_val rfl rfl rfl (x_eql rfl rfl) ?_
    refine wl_nil ?_
    refine at_seq ?_
    refine w_if rfl (fun h2 => ?_) (fun h2 => ?_)
    · skip
      refine w_seq ?_
      refine w_region ?_
      refine wl_val rfl rfl rfl (x_move rfl) ?_
      refine wl_val rfl rfl rfl (x_move rfl) ?_
      refine wl_val rfl rfl rfl (x_index Tryz.underlying47 Tryz.size51 rfl rfl (j := 0) (by omega) (by omega)) ?_
      refine wl_val rfl rfl rfl (x_load Tryz.plain51 rfl (((hra.up hm2).heap.nth 0 (show (dsv [d])[0]? = some (.int .u32 (d : Nat)) from rfl) (by omega)))) ?_
      refine wl_callp rfl rfl rfl Tryz.c211 (DivSmall_ok (hv.up (hm1.trans hm2)) hdb (by omega)) ?_; rintro v3 m3 hm3 ⟨q, rfl, hq⟩
      refine wl_val rfl rfl rfl (x_move rfl) ?_
      refine wl_val rfl rfl rfl (x_extract rfl rfl) ?_
      refine wl_val rfl rfl rfl (x_extract rfl rfl) ?_
      refine wl_val rfl rfl rfl (x_extract rfl rfl) ?_
      refine wl_val rfl rfl rfl (x_assign rfl) ?_
      refine wl_val rfl rfl rfl (x_assign rfl) ?_
      refine wl_val rfl rfl rfl (x_assign rfl) ?_
      refine wl_nil ?_
      refine at_seq ?_
      refine w_seq ?_
      refine w_region ?_
      refine wl_val rfl rfl rfl (x_move rfl) ?_
      refine wl_val rfl rfl rfl (x_move rfl) ?_
      refine wl_val rfl rfl rfl (x_conv Tryz.underlying51 Tryz.underlying111 rfl (u64n (r := x % d) (by omega) (by have := Nat.mod_lt x (show 0 < d by omega); omega))) ?_
      refine wl_callp rfl rfl rfl Tryz.c66 (Of_ok (by have := Nat.mod_lt x (show 0 < d by omega); omega)) ?_; rintro v4 m4 hm4 hv4
      refine wl_val rfl rfl rfl (x_assign rfl) ?_
      refine wl_val rfl rfl rfl (x_assign rfl) ?_
      refine wl_nil ?_
      refine at_seq ?_
      refine w_ret ?_
      refine at_then_ret ?_
      refine at_scope_ret ?_
      refine at_endp (res2 rfl rfl rfl) ?_
      exact ⟨_, _, rfl, hq.up hm4, hv4⟩
    · skip
      exact absurd (by simp) h2

theorem isZero_ok {m : Mem} {v : Value} {z : Int} (h : In m v z) : Pure Tryz.prog 192 #[v] m fun r _ => r = .bool (decide (z = 0)) := by
  have h' := h
  obtain ⟨neg, s, a, rfl, hs, e⟩ := h
  refine enterp Tryz.func192 rfl rfl ?_
  intro K hm0 hks
  refine w_seq ?_
  refine w_region ?_
  refine wl_box rfl rfl rfl rfl ?_; intro b1
  refine wl_val rfl rfl rfl (x_assign rfl) ?_
  refine wl_nil ?_
  refine at_seq ?_
  refine w_seq ?_
  refine w_region ?_
  refine wl_val rfl rfl rfl (x_loads Tryz.agg49 (by exact Tryz.size49) rfl (rowH0 (.head _))) ?_
  refine wl_callp rfl rfl rfl Tryz.c40 (Sign_ok h') ?_; rintro v1 m1 hm1 rfl
  refine wl_val rfl rfl rfl (x_eql rfl rfl) ?_
  refine wl_val rfl rfl rfl (x_assign rfl) ?_
  refine wl_nil ?_
  refine at_seq ?_
  refine w_ret ?_
  refine at_endp (res1 rfl rfl) ?_
  have := sign_cases z
  rw [show decide (z.sign = 0) = decide (z = 0) by rw [decide_eq_decide]; omega]

theorem Ic.agg {m : Mem} {v : Value} {z : Int} (h : Ic m v z) : ∃ neg ad l c, v = .agg #[.bool neg, .slice ad l c] := by
  obtain ⟨neg, s, a, rfl, hs, _⟩ := h
  obtain ⟨ad, l, c, rfl⟩ := hs.slice
  exact ⟨_, _, _, _, rfl⟩

theorem sg_tdiv (n1 n2 : Bool) (a b : Nat) : sg (n1 != n2) (a / b) = (sg n1 a).tdiv (sg n2 b) := by
  cases n1 <;> cases n2 <;> simp [sg, Int.neg_tdiv, Int.tdiv_neg]
theorem sg_tmod (n1 n2 : Bool) (a b : Nat) : sg n1 (a % b) = (sg n1 a).tmod (sg n2 b) := by
  have := Int.ofNat_tmod a b
  cases n1 <;> cases n2 <;> simp [sg, Int.neg_tmod, Int.tmod_neg] <;> simpa using this

theorem Quo_ok {m : Mem} {v u : Value} {x y : Int} (hv : In m v x) (hu : In m u y) (h0 : y ≠ 0) (hs : x.natAbs < y.natAbs ∨ y.natAbs < 4294967296) :
    Pure Tryz.prog 191 #[v, u] m fun r m' => ∃ q s, r = .tuple #[q, s, .int .i64 0] ∧ Ic m' q (x.tdiv y) ∧ Ic m' s (x.tmod y) := by
  have hv' := hv
  have hu' := hu
  obtain ⟨n1, s1, a1, rfl, hs1, e1⟩ := hv
  obtain ⟨n2, s2, a2, rfl, hs2, e2⟩ := hu
  have g1 : x.natAbs = a1 := by subst e1; cases n1 <;> simp [sg]
  have g2 : y.natAbs = a2 := by subst e2; cases n2 <;> simp [sg]
  refine enterp Tryz.func191 rfl rfl ?_
  intro K hm0 hks
  refine w_seq ?_
  refine w_region ?_
  refine wl_box rfl rfl rfl rfl ?_; intro b2
  refine wl_box rfl rfl rfl rfl ?_; intro b3
  refine wl_alloc rfl rfl Tryz.zero49 ?_; intro b4
  refine wl_alloc rfl rfl Tryz.zero49 ?_; intro b5
  refine wl_val rfl rfl rfl (x_assign rfl) ?_
  refine wl_nil ?_
  refine at_seq ?_
  refine w_seq ?_
  refine w_seq ?_
  refine w_region ?_
  refine wl_val rfl rfl rfl (x_loads Tryz.agg49 (by exact Tryz.size49) rfl (rowH0 (.tail _ (.tail _ (.head _))))) ?_
  refine wl_callp rfl rfl rfl Tryz.c192 (isZero_ok hu') ?_; rintro v1 m1 hm1 rfl
  refine wl_nil ?_
  refine at_seq ?_
  refine w_if rfl (fun h1 => ?_) (fun h1 => ?_)
  · skip
    exact absurd h1 h0
  · skip
    refine w_skip ?_
    refine at_seq ?_
    refine w_seq ?_
    refine w_region ?_
    refine wl_val rfl rfl rfl (x_fieldAddr Tryz.underlying49 rfl Tryz.size47 rfl) ?_
    refine wl_val rfl rfl rfl (x_load Tryz.plain47 rfl (rowH1 (.tail _ (.tail _ (.tail _ (.head _)))) rfl)) ?_
    refine wl_val rfl rfl rfl (x_fieldAddr Tryz.underlying49 rfl Tryz.size47 rfl) ?_
    refine wl_val rfl rfl rfl (x_load Tryz.plain47 rfl (rowH1 (.tail _ (.tail _ (.head _))) rfl)) ?_
    refine wl_callp rfl rfl rfl Tryz.c189 (divide_ok (hs1.up hm1) (hs2.up hm1) (by omega) (by omega)) ?_; rintro v2 m2 hm2 ⟨q, s, rfl, hq, hr⟩
    refine wl_val rfl rfl rfl (x_move rfl) ?_
    refine wl_val rfl rfl rfl (x_extract rfl rfl) ?_
    refine wl_val rfl rfl rfl (x_extract rfl rfl) ?_
    refine wl_val rfl rfl rfl (x_assign rfl) ?_
    refine wl_val rfl rfl rfl (x_assign rfl) ?_
    refine wl_nil ?_
    refine at_seq ?_
    refine w_seq ?_
    refine dr_start [] [[], [0], [], [2], [1, 3], [], [4, 5], [], [7], []] ?_
    refine dr_val rfl rfl (fun m' hm' => ds_val rfl (x_fieldAddr Tryz.underlying49 rfl Tryz.size4 rfl)) ?_
    refine dr_val rfl rfl (fun m' hm' => ds_val rfl (x_load Tryz.plain4 rfl (rowH1 (.tail _ (.tail _ (.tail _ (.head _)))) rfl))) ?_
    refine dr_val rfl rfl (fun m' hm' => ds_val rfl (x_fieldAddr Tryz.underlying49 rfl Tryz.size4 rfl)) ?_
    refine dr_val rfl rfl (fun m' hm' => ds_val rfl (x_load Tryz.plain4 rfl (rowH1 (.tail _ (.tail _ (.head _))) rfl))) ?_
    refine dr_val rfl rfl (fun m' hm' => ds_val rfl (x_neqB Tryz.underlying4 rfl rfl)) ?_
    refine dr_val rfl rfl (fun m' hm' => ds_val rfl (x_move rfl)) ?_
    refine dr_op (.ret (fun r m' => Ic m' r (x.tdiv y)) (fun _ _ _ hm h => h.up hm)) rfl rfl (fun m' hm' => ds_call rfl rfl Tryz.c101 ((From_ok (hq.up hm').nt).mono fun _ _ _ h => h.eq (by rw [sg_tdiv, ← e1, ← e2]))) ?_
    refine dr_val rfl rfl (fun m' hm' => ds_val rfl (x_fieldAddr Tryz.underlying49 rfl Tryz.size4 rfl)) ?_
    refine dr_val rfl rfl (fun m' hm' => ds_val rfl (x_load Tryz.plain4 rfl (rowH1 (.tail _ (.tail _ (.tail _ (.head _)))) rfl))) ?_
    refine dr_val rfl rfl (fun m' hm' => ds_val rfl (x_move rfl)) ?_
    refine dr_done (k := 10) Tryz.mixed rfl rfl rfl fun m3 hm_m3 v6 h6 => ?_
    show WL _ _ _ _ _ _ _ _ _
    refine wl_callp rfl rfl rfl Tryz.c101 (From_ok (hr.up hm_m3).nt) ?_; rintro v4 m4 hm4 h4
    obtain ⟨n4, d4, l4, c4, rfl⟩ := h4.agg
    obtain ⟨n6, d6, l6, c6, rfl⟩ := h6.agg
    refine wl_front1 ?_
    refine wl_storeAll rfl (by exact Tryz.size49) rfl rfl (by simp [Value.oneCell']) rfl ?_
    refine wl_front1 ?_
    refine wl_storeAll rfl (by exact Tryz.size49) rfl rfl (by simp [Value.oneCell']) rfl ?_
    refine wl_val rfl rfl rfl (x_assign rfl) ?_
    refine wl_nil ?_
    refine at_seq ?_
    refine w_ret ?_
    refine at_endp (resAs (vs := [_, _, _]) rfl rfl ⟨⟨_, _, _, rfl, rowH0 (.tail _ (.head _)), .inr ⟨Tryz.agg49, Tryz.size49, rfl⟩⟩, ⟨_, _, _, rfl, rowH0 (.head _), .inr ⟨Tryz.agg49, Tryz.size49, rfl⟩⟩, rfl, trivial⟩) ?_
    exact ⟨_, _, rfl, h6.up hm4, h4.eq (by rw [sg_tmod n1 n2, ← e1, ← e2])⟩

theorem Exact_ok {m : Mem} {v u : Value} {x y : Int} (hv : In m v x) (hu : In m u y) (h0 : y ≠ 0) (hs : x.natAbs < y.natAbs ∨ y.natAbs < 4294967296) (hd : y ∣ x) :
    Pure Tryz.prog 141 #[v, u] m fun r m' => ∃ q, r = .tuple #[q, .int .i64 0] ∧ Ic m' q (x.tdiv y) := by
  have hv' := hv
  have hu' := hu
  obtain ⟨n1, s1, a1, rfl, hs1, e1⟩ := hv
  obtain ⟨n2, s2, a2, rfl, hs2, e2⟩ := hu
  refine enterp Tryz.func141 rfl rfl ?_
  intro K hm0 hks
  refine w_seq ?_
  refine w_region ?_
  refine wl_box rfl rfl rfl rfl ?_; intro b2
  refine wl_box rfl rfl rfl rfl ?_; intro b3
  refine wl_alloc rfl rfl Tryz.zero49 ?_; intro b4
  refine wl_val rfl rfl rfl (x_assign rfl) ?_
  refine wl_nil ?_
  refine at_seq ?_
  refine w_seq ?_
  refine w_region ?_
  refine wl_val rfl rfl rfl (x_loads Tryz.agg49 (by exact Tryz.size49) rfl (rowH0 (.tail _ (.tail _ (.head _))))) ?_
  refine wl_val rfl rfl rfl (x_loads Tryz.agg49 (by exact Tryz.size49) rfl (rowH0 (.tail _ (.head _)))) ?_
  refine wl_callp rfl rfl rfl Tryz.c191 (Quo_ok hv' hu' h0 hs) ?_; rintro v1 m1 hm1 ⟨q, s, rfl, hq, hr⟩
  obtain ⟨n4, d4, l4, c4, rfl⟩ := hq.agg
  obtain ⟨n5, d5, l5, c5, rfl⟩ := hr.agg
  refine wl_val rfl rfl rfl (x_move rfl) ?_
  refine wl_val rfl rfl rfl (x_extract rfl rfl) ?_
  refine wl_val rfl rfl rfl (x_extract rfl rfl) ?_
  refine wl_val rfl rfl rfl (x_extract rfl rfl) ?_
  refine wl_alloc rfl rfl Tryz.zero49 ?_; intro b6
  refine wl_alloc rfl rfl Tryz.zero49 ?_; intro b7
  refine wl_front1 ?_
  refine wl_storeAll rfl (by exact Tryz.size49) rfl rfl (by simp [Value.oneCell']) rfl ?_
  refine wl_front1 ?_
  refine wl_storeAll rfl (by exact Tryz.size49) rfl rfl (by simp [Value.oneCell']) rfl ?_
  refine wl_val rfl rfl rfl (x_assign rfl) ?_
  refine wl_nil ?_
  refine at_seq ?_
  refine w_seq ?_
  refine w_block ?_
  refine w_seq ?_
  refine w_region ?_
  refine wl_val rfl rfl rfl (x_move rfl) ?_
  refine wl_val rfl rfl rfl (x_neq rfl rfl) ?_
  refine wl_val rfl rfl rfl (x_assign rfl) ?_
  refine wl_nil ?_
  refine at_seq ?_
  refine w_if rfl (fun h1 => ?_) (fun h1 => ?_)
  · skip
    exact absurd rfl h1
  · skip
    refine w_seq ?_
    refine w_region ?_
    refine wl_val rfl rfl rfl (x_loads Tryz.agg49 (by exact Tryz.size49) rfl (rowH0 (.head _))) ?_
    refine wl_callp rfl rfl rfl Tryz.c192 (isZero_ok hr.in') ?_; rintro v2 m2 hm2 rfl
    refine wl_val rfl rfl rfl (x_not rfl rfl) ?_
    refine wl_val rfl rfl rfl (x_assign rfl) ?_
    refine wl_nil ?_
    refine at_seq ?_
    refine w_cond rfl (fun h2 => ?_) (fun h2 => ?_)
    · skip
      have := Int.tmod_eq_zero_of_dvd hd
      simp [this] at h2
    · skip
      refine w_skip ?_
      refine at_block_normal ?_
      refine at_seq ?_
      refine w_seq ?_
      refine w_region ?_
      refine wl_val rfl rfl rfl (x_loads Tryz.agg49 (by exact Tryz.size49) rfl (rowH0 (.tail _ (.head _)))) ?_
      refine wl_front2 ?_
      refine wl_storeAll rfl (by exact Tryz.size49) rfl rfl (by simp [Value.oneCell']) rfl ?_
      refine wl_val rfl rfl rfl (x_assign rfl) ?_
      refine wl_nil ?_
      refine at_seq ?_
      refine w_ret ?_
      refine at_endp (resAs (vs := [_, _]) rfl rfl ⟨⟨_, _, _, rfl, rowH0 (.head _), .inr ⟨Tryz.agg49, Tryz.size49, rfl⟩⟩, rfl, trivial⟩) ?_
      exact ⟨_, rfl, hq.up hm2⟩

theorem Gcd_ok {m : Mem} {v u : Value} {x y : Int} (hv : In m v x) (hu : In m u y) (hs : x.natAbs < 18446744073709551616 ∧ y.natAbs < 18446744073709551616) :
    Pure Tryz.prog 139 #[v, u] m fun r m' => Ic m' r (Int.gcd x y) := by
  obtain ⟨n1, s1, a1, rfl, hs1, e1⟩ := hv
  obtain ⟨n2, s2, a2, rfl, hs2, e2⟩ := hu
  have g1 : x.natAbs = a1 := by subst e1; cases n1 <;> simp [sg]
  have g2 : y.natAbs = a2 := by subst e2; cases n2 <;> simp [sg]
  have g3 : Int.gcd x y = Nat.gcd a1 a2 := by rw [Int.gcd, g1, g2]
  rw [g3]
  rw [g1, g2] at hs
  refine enterp Tryz.func139 rfl rfl ?_
  intro K hm0 hks
  refine w_seq ?_
  refine w_region ?_
  refine wl_box rfl rfl rfl rfl ?_; intro b2
  refine wl_box rfl rfl rfl rfl ?_; intro b3
  refine wl_alloc rfl rfl Tryz.zero49 ?_; intro b4
  refine wl_nil ?_
  refine at_seq ?_
  refine w_seq ?_
  refine dr_start [] [[], [0], [1], [], [3]] ?_
  refine dr_val rfl rfl (fun m' hm' => ds_val rfl (x_fieldAddr Tryz.underlying49 rfl Tryz.size47 rfl)) ?_
  refine dr_val rfl rfl (fun m' hm' => ds_val rfl (x_load Tryz.plain47 rfl (rowH1 (.tail _ (.tail _ (.head _))) rfl))) ?_
  refine dr_op (.ret (fun r m' => Nn m' r a1) (fun _ _ _ hm h => h.up hm)) rfl rfl (fun m' hm' => ds_call rfl rfl Tryz.c123 (Normal_ok (hs1.up hm'))) ?_
  refine dr_val rfl rfl (fun m' hm' => ds_val rfl (x_fieldAddr Tryz.underlying49 rfl Tryz.size47 rfl)) ?_
  refine dr_val rfl rfl (fun m' hm' => ds_val rfl (x_load Tryz.plain47 rfl (rowH1 (.tail _ (.head _)) rfl))) ?_
  refine dr_done (k := 5) Tryz.mixed rfl rfl rfl fun m1 hm_m1 v2 h2 => ?_
  show WL _ _ _ _ _ _ _ _ _
  refine wl_callp rfl rfl rfl Tryz.c123 (Normal_ok (hs2.up hm_m1)) ?_; rintro w2 m2 hm2 hw2
  obtain ⟨ys, ⟨hyo, hyl, ay, cy, rfl, hcy, hry⟩, rfl, hyn⟩ := hw2
  obtain ⟨xs, ⟨hxo, hxl, ax, cx, rfl, hcx, hrx⟩, rfl, hxn⟩ := h2
  refine wl_val rfl rfl rfl (x_assign rfl) ?_
  refine wl_val rfl rfl rfl (x_assign rfl) ?_
  refine wl_nil ?_
  refine at_seq ?_
  refine w_seq ?_
  refine w_block ?_
  have lx : xs.length ≤ 2 := by rw [dlen_nv hxo hxn]; exact dlen_u64 hs.1
  have ly : ys.length ≤ 2 := by rw [dlen_nv hyo hyn]; exact dlen_u64 hs.2
  have hX : Nt m2 (.slice ax xs.length cx) (nv xs) := ⟨xs, Dg.up ⟨hxo, hxl, _, _, rfl, hcx, hrx⟩ hm2, rfl⟩
  have hY : Nt m2 (.slice ay ys.length cy) (nv ys) := ⟨ys, ⟨hyo, hyl, _, _, rfl, hcy, hry⟩, rfl⟩
  refine w_loop (fun k m' H' env' => m' = m2 ∧ H' = [(b4, cl 49 [.bool false, .slice none 0 0]), (b3, cl 49 (Iv n2 s2).cells.toList), (b2, cl 49 (Iv n1 s1).cells.toList)] ∧ env' = [(4, .pointer (some ⟨b4, 0, none⟩)), (5, .slice ax xs.length cx), (6, .slice ay ys.length cy)]) 0 [(4, .pointer (some ⟨b4, 0, none⟩)), (5, .slice ax xs.length cx), (6, .slice ay ys.length cy)] ⟨rfl, rfl, rfl⟩ (by repeat' (first | exact trivial | exact rfl | exact lk_int rfl (by omega) | apply And.intro)) ?_
  rintro k m3 H' env' ⟨rfl, rfl, rfl⟩
  refine w_seq ?_
  refine w_seq ?_
  refine w_region ?_
  refine wl_val rfl rfl rfl (x_move rfl) ?_
  refine wl_val rfl rfl rfl (x_len Tryz.underlying47 rfl rfl) ?_
  refine wl_val rfl rfl rfl (x_gtr rfl rfl) ?_
  refine wl_val rfl rfl rfl (x_move rfl) ?_
  refine wl_splitp (t := 22) rfl (fun h3 => ?_) (fun h3 => ?_)
  · skip
    omega
  · skip
    refine wl_val rfl rfl rfl (x_move rfl) ?_
    refine wl_val rfl rfl rfl (x_len Tryz.underlying47 rfl rfl) ?_
    refine wl_val rfl rfl rfl (x_gtr rfl rfl) ?_
    refine wl_val rfl rfl rfl (x_pick_f rfl rfl) ?_
    refine wl_nil ?_
    refine at_seq ?_
    refine w_if rfl (fun h4 => ?_) (fun h4 => ?_)
    · skip
      omega
    · skip
      refine w_exit ?_
      refine at_then_exit ?_
      refine at_then_exit ?_
      refine at_block_hit ?_
      refine at_seq ?_
      refine w_seq ?_
      refine w_region ?_
      refine wl_val rfl rfl rfl (x_move rfl) ?_
      refine wl_callp rfl rfl rfl Tryz.c190 (Uint64_ok hX) ?_; rintro v5 m5 hm5 rfl
      refine wl_val rfl rfl rfl (x_move rfl) ?_
      refine wl_val rfl rfl rfl (x_extract rfl rfl) ?_
      refine wl_val rfl rfl rfl (x_extract rfl rfl) ?_
      refine wl_val rfl rfl rfl (x_assign rfl) ?_
      refine wl_val rfl rfl rfl (x_assign rfl) ?_
      refine wl_nil ?_
      refine at_seq ?_
      refine w_seq ?_
      refine w_region ?_
      refine wl_val rfl rfl rfl (x_move rfl) ?_
      refine wl_callp rfl rfl rfl Tryz.c190 (Uint64_ok (hY.up hm5)) ?_; rintro v6 m6 hm6 rfl
      refine wl_val rfl rfl rfl (x_move rfl) ?_
      refine wl_val rfl rfl rfl (x_extract rfl rfl) ?_
      refine wl_val rfl rfl rfl (x_extract rfl rfl) ?_
      refine wl_val rfl rfl rfl (x_assign rfl) ?_
      refine wl_val rfl rfl rfl (x_assign rfl) ?_
      refine wl_nil ?_
      refine at_seq ?_
      refine w_seq ?_
      refine w_block ?_
      simp only [hs.1, hs.2, if_true]
      refine w_loop (fun k m' H' env' => ∃ p, m6.le m' ∧ p < 18446744073709551616 ∧ k < 18446744073709551616 ∧ Nat.gcd p k = Nat.gcd (nv xs) (nv ys) ∧ H' = [(b4, cl 49 [.bool false, .slice none 0 0]), (b3, cl 49 (Iv n2 s2).cells.toList), (b2, cl 49 (Iv n1 s1).cells.toList)] ∧ env' = [(4, .pointer (some ⟨b4, 0, none⟩)), (9, .int .u64 p), (11, .int .u64 k)]) (nv ys) [(4, .pointer (some ⟨b4, 0, none⟩)), (9, .int .u64 (nv xs : Nat)), (11, .int .u64 (nv ys : Nat))] ⟨nv xs, Mem.le.refl _, hs.1, hs.2, rfl, rfl, rfl⟩ (by repeat' (first | exact trivial | exact rfl | exact lk_int rfl (by omega) | apply And.intro)) ?_
      rintro k m7 H' env' ⟨p, hm7, hp, hk, hg, rfl, rfl⟩
      refine w_seq ?_
      refine w_seq ?_
      refine w_region ?_
      refine wl_val rfl rfl rfl (x_move rfl) ?_
      refine wl_val rfl rfl rfl (x_neq rfl rfl) ?_
      refine wl_nil ?_
      refine at_seq ?_
      refine w_if rfl (fun h5 => ?_) (fun h5 => ?_)
      · skip
        have hk0 : 0 < k := by omega
        have hlt := Nat.mod_lt p hk0
        refine w_skip ?_
        refine at_seq ?_
        refine w_block ?_
        refine dr_start [(9, [1])] [[], [], [], [1, 2], [0]] ?_
        refine dr_val rfl rfl (fun m' hm' => ds_val rfl (x_move rfl)) ?_
        refine dr_val rfl rfl (fun m' hm' => ds_val rfl (x_move rfl)) ?_
        refine dr_val rfl rfl (fun m' hm' => ds_val rfl (x_move rfl)) ?_
        refine dr_val rfl rfl (fun m' hm' => ds_val rfl (x_rem rfl rfl (by omega) ((Int.ofNat_tmod _ _).symm))) ?_
        refine dr_val rfl rfl (fun m' hm' => ds_val rfl (x_assign rfl)) ?_
        refine dr_done (k := 5) Tryz.mixed rfl rfl rfl fun m8 hm_m8 => ?_
        show WL _ _ _ _ _ _ _ _ _
        refine wl_val rfl rfl rfl (x_assign rfl) ?_
        refine wl_nil ?_
        refine at_block_normal ?_
        exact at_again (p % k) [(4, .pointer (some ⟨b4, 0, none⟩)), (9, .int .u64 k), (11, .int .u64 (p % k : Nat))] (by omega) ⟨k, hm7.trans hm_m8, hk, by omega, by rw [← hg, Nat.gcd_comm k, ← Nat.gcd_rec, Nat.gcd_comm], rfl, rfl⟩ (by repeat' (first | exact trivial | exact rfl | exact lk_int rfl (by omega) | apply And.intro))
      · skip
        obtain rfl : k = 0 := by omega
        rw [Nat.gcd_zero_right] at hg
        refine w_exit ?_
        refine at_then_exit ?_
        refine at_then_exit ?_
        refine at_block_hit ?_
        refine at_seq ?_
        refine w_seq ?_
        refine w_region ?_
        refine wl_val rfl rfl rfl (x_move rfl) ?_
        refine wl_callp rfl rfl rfl Tryz.c66 (Of_ok hp) ?_; rintro v9 m9 hm9 hv9
        refine wl_callp rfl rfl rfl Tryz.c101 (From_ok hv9.nt) ?_; rintro v10 m10 hm10 hv10
        obtain ⟨n11, d11, l11, c11, rfl⟩ := hv10.agg
        refine wl_storeAll rfl (by exact Tryz.size49) rfl rfl (by simp [Value.oneCell']) rfl ?_
        refine wl_nil ?_
        refine at_seq ?_
        refine w_ret ?_
        refine at_endp (resA rfl ⟨⟨_, _, _, rfl, rowH0 (.head _), .inr ⟨Tryz.agg49, Tryz.size49, rfl⟩⟩, trivial⟩) ?_
        exact hv10.eq (by rw [← hg]; rfl)
end Go.Cy

