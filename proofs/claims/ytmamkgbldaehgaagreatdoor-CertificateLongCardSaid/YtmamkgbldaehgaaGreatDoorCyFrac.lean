/- checksign: fractions. -/
import Derived.Test.YtmamkgbldaehgaaGreatDoorCyDiv
import Derived.Test.YtmamkgbldaehgaaGreatDoorCyCal2
namespace Go.Cy
open Go Go.Proofs
set_option maxRecDepth 20000

/-- A fraction in any form. -/
def Fi (m : Mem) (v : Value) (z : Int) (d : Nat) : Prop := ∃ neg s a t, v = .agg #[.bool neg, s, t] ∧ Nt m s a ∧ z = sg neg a ∧ Nt m t d
/-- A fraction whose parts are in canonical form. -/
def Fc (m : Mem) (v : Value) (z : Int) (d : Nat) : Prop := ∃ neg s a t, v = .agg #[.bool neg, s, t] ∧ Nn m s a ∧ z = sg neg a ∧ (neg = true → a ≠ 0) ∧ Nn m t d
theorem Fi.up {m m' : Mem} {v : Value} {z : Int} {d : Nat} (h : Fi m v z d) (hm : m.le m') : Fi m' v z d := by obtain ⟨neg, s, a, t, h1, h2, h3, h4⟩ := h; exact ⟨neg, s, a, t, h1, h2.up hm, h3, h4.up hm⟩
theorem Fc.up {m m' : Mem} {v : Value} {z : Int} {d : Nat} (h : Fc m v z d) (hm : m.le m') : Fc m' v z d := by obtain ⟨neg, s, a, t, h1, h2, h3, h4, h5⟩ := h; exact ⟨neg, s, a, t, h1, h2.up hm, h3, h4, h5.up hm⟩
theorem Fc.fi {m : Mem} {v : Value} {z : Int} {d : Nat} (h : Fc m v z d) : Fi m v z d := by obtain ⟨neg, s, a, t, h1, h2, h3, h4, h5⟩ := h; exact ⟨neg, s, a, t, h1, h2.nt, h3, h5.nt⟩
theorem Fi.agg {m : Mem} {v : Value} {z : Int} {d : Nat} (h : Fi m v z d) : ∃ neg a1 l1 c1 a2 l2 c2, v = .agg #[.bool neg, .slice a1 l1 c1, .slice a2 l2 c2] := by
  obtain ⟨neg, s, a, t, rfl, hs, _, ht⟩ := h
  obtain ⟨a1, l1, c1, rfl⟩ := hs.slice
  obtain ⟨a2, l2, c2, rfl⟩ := ht.slice
  exact ⟨_, _, _, _, _, _, _, rfl⟩
def lowZ (z : Int) (d : Nat) : Int := if d = 0 ∨ z = 0 then 0 else z.tdiv (Int.gcd z d)
def lowD (z : Int) (d : Nat) : Nat := if d = 0 ∨ z = 0 then 1 else d / Int.gcd z d

theorem Ic.nat {m : Mem} {neg : Bool} {s : Value} {k : Nat} (h : Ic m (.agg #[.bool neg, s]) (k : Int)) : Nn m s k := by
  obtain ⟨n, s', a, e, h1, h2, h3⟩ := h
  cases e
  have := sg_cases neg a
  refine h1.eq ?_
  cases neg with
  | false => simp [sg] at h2; omega
  | true => simp [sg] at h2 h3; omega

theorem den_ok {m : Mem} {v : Value} {z : Int} {d : Nat} (h : Fi m v z d) : Pure Tryz.prog 140 #[v] m fun r m' => Ic m' r d := by
  obtain ⟨neg, s, a, t, rfl, hs, e1, ht⟩ := h
  refine enterp Tryz.func140 rfl rfl ?_
  intro K hm0 hks
  refine w_seq ?_
  refine w_region ?_
  refine wl_box rfl rfl rfl rfl ?_; intro b1
  refine wl_alloc rfl rfl Tryz.zero49 ?_; intro b2
  refine wl_nil ?_
  refine at_seq ?_
  refine w_seq ?_
  refine w_region ?_
  refine wl_val rfl rfl rfl (x_fieldAddr Tryz.underlying53 rfl Tryz.size47 rfl) ?_
  refine wl_val rfl rfl rfl (x_load Tryz.plain47 rfl (rowH1 (.tail _ (.head _)) rfl)) ?_
  refine wl_callp rfl rfl rfl Tryz.c101 (From_ok ht) ?_; rintro v1 m1 hm1 h1
  obtain ⟨n4, d4, l4, c4, rfl⟩ := h1.agg
  refine wl_storeAll rfl (by exact Tryz.size49) rfl rfl (by simp [Value.oneCell']) rfl ?_
  refine wl_nil ?_
  refine at_seq ?_
  refine w_ret ?_
  refine at_endp (resA rfl ⟨⟨_, _, _, rfl, rowH0 (.head _), .inr ⟨Tryz.agg49, Tryz.size49, rfl⟩⟩, trivial⟩) ?_
  exact h1.eq rfl

theorem Lowest_ok {m : Mem} {v : Value} {z : Int} {d : Nat} (h : Fi m v z d) (hs : z.natAbs < 4294967296 ∧ d < 4294967296) : Pure Tryz.prog 83 #[v] m fun r m' => Fc m' r (lowZ z d) (lowD z d) := by
  have h' := h
  obtain ⟨neg, s, a, t, rfl, hS, e1, ht⟩ := h
  have hI : ∀ {m'}, m.le m' → In m' (.agg [.bool neg, s].toArray) z := fun hm => e1 ▸ In.of (hS.up hm)
  refine enterp Tryz.func83 rfl rfl ?_
  intro K hm0 hks
  refine w_seq ?_
  refine w_region ?_
  refine wl_box rfl rfl rfl rfl ?_; intro b1
  refine wl_alloc rfl rfl Tryz.zero53 ?_; intro b2
  refine wl_nil ?_
  refine at_seq ?_
  refine w_seq ?_
  refine w_seq ?_
  refine w_region ?_
  refine wl_val rfl rfl rfl (x_fieldAddr Tryz.underlying53 rfl Tryz.size47 rfl) ?_
  refine wl_val rfl rfl rfl (x_load Tryz.plain47 rfl (rowH1 (.tail _ (.head _)) rfl)) ?_
  refine wl_callp rfl rfl rfl Tryz.c100 (IsZero_ok ht) ?_; rintro v1 m1 hm1 rfl
  refine wl_val rfl rfl rfl (x_move rfl) ?_
  refine wl_splitp (t := 11) rfl (fun h0 => ?_) (fun h0 => ?_)
  · skip
    refine wl_off rfl rfl rfl ?_
    refine wl_off rfl rfl rfl ?_
    refine wl_off rfl rfl rfl ?_
    refine wl_off rfl rfl rfl ?_
    refine wl_val rfl rfl rfl (x_pick_t rfl rfl) ?_
    refine wl_nil ?_
    refine at_seq ?_
    refine w_true rfl ?_
    refine w_seq ?_
    refine w_region ?_
    refine wl_callp rfl rfl rfl Tryz.c25 (Of_ok' (by omega) (by omega)) ?_; rintro v2 m2 hm2 h2
    obtain ⟨n4, d4, l4, c4, rfl⟩ := h2.agg
    refine wl_callp rfl rfl rfl Tryz.c66 (Of_ok (x := 1) (by omega)) ?_; rintro v3 m3 hm3 h3
    obtain ⟨ad5, l5, c5, rfl⟩ := h3.slice
    refine wl_val rfl rfl rfl (x_build (cs := [_, _, _]) Tryz.underlying53 Tryz.places53 Tryz.zero53 rfl rfl) ?_
    refine wl_storeAll rfl (by exact Tryz.size53) rfl rfl (by simp [Value.oneCell']) rfl ?_
    refine wl_nil ?_
    refine at_seq ?_
    refine w_ret ?_
    refine at_then_ret ?_
    refine at_endp (resA rfl ⟨⟨_, _, _, rfl, rowH0 (.head _), .inr ⟨Tryz.agg53, Tryz.size53, rfl⟩⟩, trivial⟩) ?_
    rw [lowZ, lowD, if_pos (.inl h0), if_pos (.inl h0)]
    obtain ⟨n6, s6, a6, e6, h6, h7, h8⟩ := h2.up hm3
    cases e6
    exact ⟨_, _, _, _, rfl, h6, h7, h8, h3⟩
  · skip
    refine wl_val rfl rfl rfl (x_fieldAddr Tryz.underlying53 rfl Tryz.size49 rfl) ?_
    refine wl_val rfl rfl rfl (x_loads Tryz.agg49 (by exact Tryz.size49) rfl (rowHs (vs := [_, _]) (.tail _ (.head _)) 0 rfl)) ?_
    refine wl_callp rfl rfl rfl Tryz.c40 (Sign_ok (hI hm1)) ?_; rintro v2 m2 hm2 rfl
    refine wl_val rfl rfl rfl (x_eql rfl rfl) ?_
    refine wl_val rfl rfl rfl (x_pick_f rfl rfl) ?_
    refine wl_nil ?_
    refine at_seq ?_
    refine w_if rfl (fun h1 => ?_) (fun h1 => ?_)
    · skip
      have hz : z = 0 := by have := sign_cases z; omega
      refine w_seq ?_
      refine w_region ?_
      refine wl_callp rfl rfl rfl Tryz.c25 (Of_ok' (by omega) (by omega)) ?_; rintro v3 m3 hm3 h3
      obtain ⟨n4, d4, l4, c4, rfl⟩ := h3.agg
      refine wl_callp rfl rfl rfl Tryz.c66 (Of_ok (x := 1) (by omega)) ?_; rintro v4 m4 hm4 h4
      obtain ⟨ad5, l5, c5, rfl⟩ := h4.slice
      refine wl_val rfl rfl rfl (x_build (cs := [_, _, _]) Tryz.underlying53 Tryz.places53 Tryz.zero53 rfl rfl) ?_
      refine wl_storeAll rfl (by exact Tryz.size53) rfl rfl (by simp [Value.oneCell']) rfl ?_
      refine wl_nil ?_
      refine at_seq ?_
      refine w_ret ?_
      refine at_then_ret ?_
      refine at_endp (resA rfl ⟨⟨_, _, _, rfl, rowH0 (.head _), .inr ⟨Tryz.agg53, Tryz.size53, rfl⟩⟩, trivial⟩) ?_
      rw [lowZ, lowD, if_pos (.inr hz), if_pos (.inr hz)]
      obtain ⟨n6, s6, a6, e6, h6, h7, h8⟩ := h3.up hm4
      cases e6
      exact ⟨_, _, _, _, rfl, h6, h7, h8, h4⟩
    · skip
      have hz : z ≠ 0 := by have := sign_cases z; omega
      have hg0 : 0 < Int.gcd z d := Int.gcd_pos_of_ne_zero_left _ hz
      have hg1 : Int.gcd z d ≤ d := Nat.le_of_dvd (by omega) (by have := Int.gcd_dvd_right z (d : Int); exact Int.ofNat_dvd.1 this)
      refine w_skip ?_
      refine at_seq ?_
      refine w_seq ?_
      refine dr_start [] [[], [0], [], [2], [1, 3], []] ?_
      refine dr_val rfl rfl (fun m' hm' => ds_val rfl (x_fieldAddr Tryz.underlying53 rfl Tryz.size49 rfl)) ?_
      refine dr_val rfl rfl (fun m' hm' => ds_val rfl (x_loads Tryz.agg49 (by exact Tryz.size49) rfl (rowHs (vs := [_, _]) (.tail _ (.head _)) 0 rfl))) ?_
      refine dr_val rfl rfl (fun m' hm' => ds_val rfl (x_loads Tryz.agg53 (by exact Tryz.size53) rfl (rowH0 (.tail _ (.head _))))) ?_
      refine dr_op (.ret (fun r m' => Ic m' r d) (fun _ _ _ hm h => h.up hm)) rfl rfl (fun m' hm' => ds_call rfl rfl Tryz.c140 (den_ok (h'.up ((hm1.trans hm2).trans hm')))) ?_
      refine dr_op (.ret (fun r m' => Ic m' r (Int.gcd z d)) (fun _ _ _ hm h => h.up hm)) rfl rfl (fun m' hm' v3 h3 => ds_call rfl rfl Tryz.c139 (Gcd_ok (hI (hm1.trans (hm2.trans hm'))) h3.in' ⟨by omega, by omega⟩)) ?_
      refine dr_op (.box 49 [.bool false, .slice none 0 0]) rfl rfl (fun m' hm' => ds_alloc rfl Tryz.zero49) ?_
      refine dr_done (k := 6) Tryz.mixed rfl rfl rfl fun m3 hm_m3 b3 v4 h4 v3 h3 => ?_
      show WL _ _ _ _ _ _ _ _ _
      obtain ⟨n5, d5, l5, c5, rfl⟩ := h4.agg
      refine wl_storeAll rfl (by exact Tryz.size49) rfl rfl (by simp [Value.oneCell']) rfl ?_
      refine wl_nil ?_
      refine at_seq ?_
      refine w_seq ?_
      refine w_region ?_
      refine wl_val rfl rfl rfl (x_fieldAddr Tryz.underlying53 rfl Tryz.size49 rfl) ?_
      refine wl_val rfl rfl rfl (x_loads Tryz.agg49 (by exact Tryz.size49) rfl (rowHs (vs := [_, _]) (.tail _ (.tail _ (.head _))) 0 rfl)) ?_
      refine wl_val rfl rfl rfl (x_loads Tryz.agg49 (by exact Tryz.size49) rfl (rowH0 (.head _))) ?_
      refine wl_callp rfl rfl rfl Tryz.c141 (Exact_ok (hI (hm1.trans (hm2.trans hm_m3))) h4.in' (by omega) (.inr (by omega)) (Int.gcd_dvd_left _ _)) ?_; rintro v6 m6 hm6 ⟨q, rfl, hq⟩
      obtain ⟨n7, d7, l7, c7, rfl⟩ := hq.agg
      refine wl_val rfl rfl rfl (x_move rfl) ?_
      refine wl_val rfl rfl rfl (x_extract rfl rfl) ?_
      refine wl_val rfl rfl rfl (x_extract rfl rfl) ?_
      refine wl_alloc rfl rfl Tryz.zero49 ?_; intro b4
      refine wl_storeAll rfl (by exact Tryz.size49) rfl rfl (by simp [Value.oneCell']) rfl ?_
      refine wl_val rfl rfl rfl (x_assign rfl) ?_
      refine wl_nil ?_
      refine at_seq ?_
      refine w_seq ?_
      refine dr_start [] [[], [0], [], [1, 2], [3], [4], [4], []] ?_
      refine dr_val rfl rfl (fun m' hm' => ds_val rfl (x_loads Tryz.agg53 (by exact Tryz.size53) rfl (rowH0 (.tail _ (.tail _ (.tail _ (.head _))))))) ?_
      refine dr_op (.ret (fun r m' => Ic m' r d) (fun _ _ _ hm h => h.up hm)) rfl rfl (fun m' hm' => ds_call rfl rfl Tryz.c140 (den_ok (h'.up ((hm1.trans (hm2.trans (hm_m3.trans hm6))).trans hm')))) ?_
      refine dr_val rfl rfl (fun m' hm' => ds_val rfl (x_loads Tryz.agg49 (by exact Tryz.size49) rfl (rowH0 (.tail _ (.head _))))) ?_
      refine dr_op (.ret (fun r m' => ∃ n0 a0 l0 c0, r = .tuple #[.agg #[.bool n0, .slice a0 l0 c0], .int .i64 0] ∧ Ic m' (.agg #[.bool n0, .slice a0 l0 c0]) ((d : Int).tdiv (Int.gcd z d))) fun _ _ _ hm ⟨n0, a0, l0, c0, e, h⟩ => ⟨n0, a0, l0, c0, e, h.up hm⟩) rfl rfl (fun m' hm' v1 h1 => ds_call rfl rfl Tryz.c141 ((Exact_ok h1.in' (h4.in'.up (hm6.trans hm')) (by omega) (.inr (by omega)) (Int.gcd_dvd_right _ _)).mono fun _ _ _ ⟨_, e, hq⟩ => by subst e; obtain ⟨n0, a0, l0, c0, rfl⟩ := hq.agg; exact ⟨_, _, _, _, rfl, hq⟩)) ?_
      refine dr_op (.ret (fun r m' => ∃ n0 a0 l0 c0, r = .tuple #[.agg #[.bool n0, .slice a0 l0 c0], .int .i64 0] ∧ Ic m' (.agg #[.bool n0, .slice a0 l0 c0]) ((d : Int).tdiv (Int.gcd z d))) fun _ _ _ hm ⟨n0, a0, l0, c0, e, h⟩ => ⟨n0, a0, l0, c0, e, h.up hm⟩) rfl rfl (fun m' hm' v3 h3 => ds_ex rfl (x_move rfl) h3) ?_
      refine dr_op (.ret (fun r m' => ∃ n0 a0 l0 c0, r = .agg #[.bool n0, .slice a0 l0 c0] ∧ Ic m' r ((d : Int).tdiv (Int.gcd z d))) (fun _ _ _ hm ⟨n0, a0, l0, c0, e, h⟩ => ⟨n0, a0, l0, c0, e, h.up hm⟩)) rfl rfl (fun m' hm' v4 h4 => (by obtain ⟨n0, a0, l0, c0, rfl, h⟩ := h4; exact ds_ex rfl (x_extract rfl rfl) ⟨_, _, _, _, rfl, h⟩)) ?_
      refine dr_op (.val (.int .i64 0)) rfl rfl (fun m' hm' v4 h4 => (by obtain ⟨n0, a0, l0, c0, rfl, h⟩ := h4; exact ds_val rfl (x_extract rfl rfl))) ?_
      refine dr_op (.box 49 [.bool false, .slice none 0 0]) rfl rfl (fun m' hm' => ds_alloc rfl Tryz.zero49) ?_
      refine dr_doneF (k := 8) [(6, _)] Tryz.mixed ⟨rfl, trivial⟩ rfl rfl rfl fun m7 hm_m7 b6 v5 h5 v4 h4 v3 h3 v1 h1 => ?_
      show WLF _ _ _ _ _ _ _ _ _ _
      obtain ⟨_, _, _, _, rfl, _⟩ := h4
      obtain ⟨_, _, _, _, rfl, h5⟩ := h5
      refine wlf_stores (vs := [_, _]) (xs' := [_, _]) rfl rfl rfl rfl rfl ⟨⟨_, _, rfl, rfl, rfl, rfl, rfl, x_extract rfl rfl⟩, trivial⟩ rfl Tryz.size49 rfl rfl (by simp [Value.oneCell']) (by simp) rfl ?_
      refine wlf_done rfl rfl rfl ⟨⟨_, _, rfl, rfl, rfl, rfl, rfl, x_extract rfl rfl⟩, trivial⟩ ?_
      show WL _ _ _ _ _ _ _ _ _
      refine wl_val rfl rfl rfl (x_assign rfl) ?_
      refine wl_nil ?_
      refine at_seq ?_
      refine w_seq ?_
      refine w_region ?_
      refine wl_val rfl rfl rfl (x_loads Tryz.agg49 (by exact Tryz.size49) rfl (rowH0 (.tail _ (.head _)))) ?_
      refine wl_val rfl rfl rfl (x_fieldAddr Tryz.underlying49 rfl Tryz.size47 rfl) ?_
      refine wl_val rfl rfl rfl (x_load Tryz.plain47 rfl (rowH1 (.head _) rfl)) ?_
      refine wl_val rfl rfl rfl (x_build (cs := [_, _, _]) Tryz.underlying53 Tryz.places53 Tryz.zero53 rfl rfl) ?_
      refine wl_front3 ?_
      refine wl_storeAll rfl (by exact Tryz.size53) rfl rfl (by simp [Value.oneCell']) rfl ?_
      refine wl_nil ?_
      refine at_seq ?_
      refine w_ret ?_
      refine at_endp (resA rfl ⟨⟨_, _, _, rfl, rowH0 (.head _), .inr ⟨Tryz.agg53, Tryz.size53, rfl⟩⟩, trivial⟩) ?_
      rw [lowZ, lowD, if_neg (by omega), if_neg (by omega)]
      obtain ⟨nq, sq, aq, eq, hq1, hq2, hq3⟩ := hq.up hm_m7
      cases eq
      exact ⟨_, _, _, _, rfl, hq1, hq2, hq3, (h5.eq (by rw [← Int.ofNat_tdiv])).nat⟩

theorem compare_ok {m : Mem} {v u : Value} {z1 z2 : Int} {d1 d2 : Nat} (hv : Fi m v z1 d1) (hu : Fi m u z2 d2) (hs : (dlen z1.natAbs < 48 ∨ dlen d2 < 48) ∧ (dlen z2.natAbs < 48 ∨ dlen d1 < 48)) (hl : dlen z1.natAbs + dlen d2 ≤ 35184372088832 ∧ dlen z2.natAbs + dlen d1 ≤ 35184372088832) :
    Pure Tryz.prog 142 #[v, u] m fun r _ => r = .int .i64 (cmpI (z1 * d2) (z2 * d1)) := by
  have hv' := hv
  have hu' := hu
  obtain ⟨n1, s1, a1, t1, rfl, hS1, e1, ht1⟩ := hv
  obtain ⟨n2, s2, a2, t2, rfl, hS2, e2, ht2⟩ := hu
  have hI1 : ∀ {m'}, m.le m' → In m' (.agg [.bool n1, s1].toArray) z1 := fun hm => e1 ▸ In.of (hS1.up hm)
  have hI2 : ∀ {m'}, m.le m' → In m' (.agg [.bool n2, s2].toArray) z2 := fun hm => e2 ▸ In.of (hS2.up hm)
  refine enterp Tryz.func142 rfl rfl ?_
  intro K hm0 hks
  refine w_seq ?_
  refine w_region ?_
  refine wl_box rfl rfl rfl rfl ?_; intro b2
  refine wl_box rfl rfl rfl rfl ?_; intro b3
  refine wl_val rfl rfl rfl (x_assign rfl) ?_
  refine wl_nil ?_
  refine at_seq ?_
  refine w_seq ?_
  refine dr_start [] [[], [0], [], [2], [1, 3], [], [5], [], [7]] ?_
  refine dr_val rfl rfl (fun m' hm' => ds_val rfl (x_fieldAddr Tryz.underlying53 rfl Tryz.size49 rfl)) ?_
  refine dr_val rfl rfl (fun m' hm' => ds_val rfl (x_loads Tryz.agg49 (by exact Tryz.size49) rfl (rowHs (vs := [_, _]) (.tail _ (.head _)) 0 rfl))) ?_
  refine dr_val rfl rfl (fun m' hm' => ds_val rfl (x_loads Tryz.agg53 (by exact Tryz.size53) rfl (rowH0 (.head _)))) ?_
  refine dr_op (.ret (fun r m' => Ic m' r d2) (fun _ _ _ hm h => h.up hm)) rfl rfl (fun m' hm' => ds_call rfl rfl Tryz.c140 (den_ok (hu'.up hm'))) ?_
  refine dr_op (.ret (fun r m' => Ic m' r (z1 * d2)) (fun _ _ _ hm h => h.up hm)) rfl rfl (fun m' hm' v3 h3 => ds_call rfl rfl Tryz.c118 (Mul_ok' (hI1 hm') h3.in' hs.1 hl.1)) ?_
  refine dr_val rfl rfl (fun m' hm' => ds_val rfl (x_fieldAddr Tryz.underlying53 rfl Tryz.size49 rfl)) ?_
  refine dr_val rfl rfl (fun m' hm' => ds_val rfl (x_loads Tryz.agg49 (by exact Tryz.size49) rfl (rowHs (vs := [_, _]) (.head _) 0 rfl))) ?_
  refine dr_val rfl rfl (fun m' hm' => ds_val rfl (x_loads Tryz.agg53 (by exact Tryz.size53) rfl (rowH0 (.tail _ (.head _))))) ?_
  refine dr_op (.ret (fun r m' => Ic m' r d1) (fun _ _ _ hm h => h.up hm)) rfl rfl (fun m' hm' => ds_call rfl rfl Tryz.c140 (den_ok (hv'.up hm'))) ?_
  refine dr_done (k := 9) Tryz.mixed rfl rfl rfl fun m1 hm_m1 v8 h8 v4 h4 v3 h3 => ?_
  show WL _ _ _ _ _ _ _ _ _
  refine wl_callp rfl rfl rfl Tryz.c118 (Mul_ok' (hI2 hm_m1) h8.in' hs.2 hl.2) ?_; rintro v9 m9 hm9 h9
  refine wl_callp rfl rfl rfl Tryz.c65 (Cmp_ok' (h4.up hm9).in' h9.in') ?_; rintro v10 m10 hm10 rfl
  refine wl_val rfl rfl rfl (x_assign rfl) ?_
  refine wl_nil ?_
  refine at_seq ?_
  refine w_ret ?_
  refine at_endp (res1 rfl rfl) ?_
  rfl

theorem lowZ_le (z : Int) (d : Nat) : (lowZ z d).natAbs ≤ z.natAbs := by
  unfold lowZ
  split
  · simp
  · rw [Int.natAbs_tdiv]; exact Nat.div_le_self _ _
theorem lowD_le (z : Int) (d : Nat) : lowD z d ≤ d + 1 := by
  unfold lowD
  split
  · omega
  · exact Nat.le_succ_of_le (Nat.div_le_self _ _)
theorem lowD_le1 (z : Int) (d : Nat) : lowD z d ≤ max d 1 := by
  unfold lowD
  split
  · omega
  · exact Nat.le_trans (Nat.div_le_self _ _) (Nat.le_max_left _ _)

theorem FCmp_ok {m : Mem} {v u : Value} {z1 z2 : Int} {d1 d2 : Nat} (hv : Fi m v z1 d1) (hu : Fi m u z2 d2) (h1 : z1.natAbs < 4294967296 ∧ d1 < 4294967296) (h2 : z2.natAbs < 4294967296 ∧ d2 < 4294967296) :
    Pure Tryz.prog 84 #[v, u] m fun r _ => r = .int .i64 (cmpI (lowZ z1 d1 * lowD z2 d2) (lowZ z2 d2 * lowD z1 d1)) := by
  have a1 := lowZ_le z1 d1
  have a2 := lowZ_le z2 d2
  have b1 := lowD_le1 z1 d1
  have b2 := lowD_le1 z2 d2
  have c1 := dlen_small (n := (lowZ z1 d1).natAbs) (by omega)
  have c2 := dlen_small (n := (lowZ z2 d2).natAbs) (by omega)
  have c3 := dlen_small (n := lowD z1 d1) (by omega)
  have c4 := dlen_small (n := lowD z2 d2) (by omega)
  have hv' := hv
  have hu' := hu
  obtain ⟨n1, x1, l1, y1, x2, l2, y2, rfl⟩ := hv.agg
  obtain ⟨n2, x3, l3, y3, x4, l4, y4, rfl⟩ := hu.agg
  refine enterp Tryz.func84 rfl rfl ?_
  intro K hm0 hks
  refine w_seq ?_
  refine w_region ?_
  refine wl_box rfl rfl rfl rfl ?_; intro b2
  refine wl_box rfl rfl rfl rfl ?_; intro b3
  refine wl_val rfl rfl rfl (x_assign rfl) ?_
  refine wl_nil ?_
  refine at_seq ?_
  refine w_seq ?_
  refine dr_start [] [[], [0], []] ?_
  refine dr_val rfl rfl (fun m' hm' => ds_val rfl (x_loads Tryz.agg53 (by exact Tryz.size53) rfl (rowH0 (.tail _ (.head _))))) ?_
  refine dr_op (.ret (fun r m' => Fc m' r (lowZ z1 d1) (lowD z1 d1)) (fun _ _ _ hm h => h.up hm)) rfl rfl (fun m' hm' => ds_call rfl rfl Tryz.c83 (Lowest_ok (hv'.up hm') h1)) ?_
  refine dr_val rfl rfl (fun m' hm' => ds_val rfl (x_loads Tryz.agg53 (by exact Tryz.size53) rfl (rowH0 (.head _)))) ?_
  refine dr_done (k := 3) Tryz.mixed rfl rfl rfl fun m1 hm_m1 v1 h1 => ?_
  show WL _ _ _ _ _ _ _ _ _
  refine wl_callp rfl rfl rfl Tryz.c83 (Lowest_ok (hu'.up hm_m1) h2) ?_; rintro v3 m3 hm3 h3
  refine wl_callp rfl rfl rfl Tryz.c142 (compare_ok (h1.up hm3).fi h3.fi ⟨.inl (by omega), .inl (by omega)⟩ ⟨by omega, by omega⟩) ?_; rintro v4 m4 hm4 rfl
  refine wl_val rfl rfl rfl (x_assign rfl) ?_
  refine wl_nil ?_
  refine at_seq ?_
  refine w_ret ?_
  refine at_endp (res1 rfl rfl) ?_
  rfl
end Go.Cy

