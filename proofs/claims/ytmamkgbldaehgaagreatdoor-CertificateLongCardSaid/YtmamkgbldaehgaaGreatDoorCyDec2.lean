/- decimal.Format. -/
import Derived.Test.YtmamkgbldaehgaaGreatDoorCyDec
namespace Go.Cy
open Go Go.Proofs
set_option maxRecDepth 20000

/-- The decimal digits, least significant first. -/
def revD (n : Nat) : List UInt8 := if n = 0 then [] else UInt8.ofNat (48 + n % 10) :: revD (n / 10)
  termination_by n
  decreasing_by omega
theorem revD_zero : revD 0 = [] := by rw [revD]; simp
theorem revD_pos {n : Nat} (h : n ≠ 0) : revD n = UInt8.ofNat (48 + n % 10) :: revD (n / 10) := by rw [revD]; simp [h]
/-- The decimal text of an integer. -/
def decB (z : Int) : List UInt8 := if z = 0 then [48] else (if z < 0 then [45] else []) ++ (revD z.natAbs).reverse
theorem revD_pow (n : Nat) (h : n ≠ 0) : 10 ^ ((revD n).length - 1) ≤ n := by
  induction n using Nat.strongRecOn with
  | _ n ih =>
    rw [revD_pos h]
    by_cases h0 : n / 10 = 0
    · rw [h0, revD_zero]; simp; omega
    · have := ih (n / 10) (by omega) h0
      rw [revD_pos h0] at this ⊢
      simp only [List.length_cons, Nat.add_sub_cancel] at this ⊢
      rw [Nat.pow_succ]
      omega
theorem revD_len (n : Nat) : (revD n).length ≤ 10 * dlen n := by
  by_cases h : n = 0
  · subst h; rw [revD_zero]; simp
  · have h1 := revD_pow n h
    have h2 := lt_dlen n
    have h3 : 4294967296 ^ dlen n ≤ 10 ^ (10 * dlen n) := by rw [Nat.pow_mul]; exact Nat.pow_le_pow_left (by omega) _
    have h4 : 10 ^ ((revD n).length - 1) < 10 ^ (10 * dlen n) := by omega
    have := (Nat.pow_lt_pow_iff_right (by omega : 1 < 10)).1 h4
    omega

theorem digit_step {part q i : Nat} (hi : i < 9) (h0 : part ≠ 0 ∨ q ≠ 0) : revD (part + 10 ^ (9 - i) * q) = UInt8.ofNat (48 + part % 10) :: revD (part / 10 + 10 ^ (9 - (i + 1)) * q) := by
  have e : 10 ^ (9 - i) = 10 * 10 ^ (9 - (i + 1)) := by rw [← Nat.pow_succ']; congr 1; omega
  have hp : 0 < 10 ^ (9 - (i + 1)) := Nat.pow_pos (by omega)
  have hne : part + 10 ^ (9 - i) * q ≠ 0 := by
    rcases h0 with h | h
    · omega
    · have : 0 < 10 ^ (9 - i) * q := Nat.mul_pos (Nat.pow_pos (by omega)) (Nat.pos_of_ne_zero h)
      omega
  rw [revD_pos hne, e, Nat.mul_assoc]
  congr 2
  · congr 1
    rw [Nat.add_mul_mod_self_left]
  · rw [Nat.add_mul_div_left _ _ (by omega)]

theorem pow_step {part i : Nat} (hi : i < 9) (h : part < 10 ^ (9 - i)) : part / 10 < 10 ^ (9 - (i + 1)) := by
  have e : 10 ^ (9 - i) = 10 * 10 ^ (9 - (i + 1)) := by rw [← Nat.pow_succ']; congr 1; omega
  omega

theorem own_some {v : Value} {E : TypeId} {L : List UInt8} {Hs : Hp} (h : Own v 1 E (bsv L) Hs) (hne : L ≠ []) : ∃ b cap junk, v = .slice (some ⟨b, 0, none⟩) L.length cap ∧ L.length ≤ cap ∧ Hs = [(b, cl E (bsv L ++ junk))] := by
  rcases h with ⟨_, e, _⟩ | ⟨b, len, cap, xs, rfl, hlc, hcl, hxl, htk, rfl⟩
  · exact absurd (by simpa [bsv] using e) hne
  · obtain rfl : len = L.length := by simpa [bsv] using hcl.symm
    refine ⟨b, cap, xs.drop L.length, rfl, hlc, ?_⟩
    rw [← htk, Nat.mul_one, List.take_append_drop]

theorem format_ok {m : Mem} {v : Value} {z : Int} (hv : In m v z) (hb : dlen z.natAbs ≤ 1000000000000) : Pure Tryz.prog 180 #[v, .int .i64 10] m fun r _ => r = .string (B (decB z)) := by
  have hv' := hv
  obtain ⟨neg, s, a, rfl, hs, hz⟩ := hv
  have ha : z.natAbs = a := by subst hz; cases neg <;> simp [sg]
  have hlen := revD_len a
  rw [ha] at hb
  obtain ⟨sa, sl, sc, rfl⟩ := hs.slice
  refine enterp Tryz.func180 rfl rfl ?_
  intro K hm0 hks
  refine w_seq ?_
  refine w_region ?_
  refine wl_box rfl rfl rfl rfl ?_; intro b2
  refine wl_val rfl rfl rfl (x_assign rfl) ?_
  refine wl_nil ?_
  refine at_seq ?_
  refine w_seq ?_
  refine w_seq ?_
  refine w_region ?_
  refine wl_val rfl rfl rfl (x_loads Tryz.agg49 (by exact Tryz.size49) rfl (rowH0 (.head _))) ?_
  refine wl_callp rfl rfl rfl Tryz.c40 (Sign_ok hv') ?_; rintro v1 m1 hm1 rfl
  refine wl_val rfl rfl rfl (x_eql rfl rfl) ?_
  refine wl_nil ?_
  refine at_seq ?_
  refine w_if rfl (fun h0 => ?_) (fun h0 => ?_)
  · skip
    have := sign_cases z
    obtain rfl : z = 0 := by omega
    refine w_seq ?_
    refine w_region ?_
    refine wl_val rfl rfl rfl (x_assign rfl) ?_
    refine wl_nil ?_
    refine at_seq ?_
    refine w_ret ?_
    refine at_then_ret ?_
    refine at_endp (res1 rfl rfl) ?_
    rfl
  · skip
    have hz0 : z ≠ 0 := by intro e; subst e; exact h0 rfl
    refine w_skip ?_
    refine at_seq ?_
    refine w_seq ?_
    refine w_region ?_
    refine wl_val rfl rfl rfl (x_move rfl) ?_
    refine wl_callp rfl rfl rfl Tryz.c210 (chunk_ok) ?_; rintro v2 m2 hm2 rfl
    refine wl_val rfl rfl rfl (x_move rfl) ?_
    refine wl_val rfl rfl rfl (x_extract rfl rfl) ?_
    refine wl_val rfl rfl rfl (x_extract rfl rfl) ?_
    refine wl_val rfl rfl rfl (x_assign rfl) ?_
    refine wl_val rfl rfl rfl (x_assign rfl) ?_
    refine wl_nil ?_
    refine at_seq ?_
    refine w_seq ?_
    refine w_region ?_
    refine wl_val rfl rfl rfl (x_assign rfl) ?_
    refine wl_nil ?_
    refine at_seq ?_
    refine w_seq ?_
    refine w_seq ?_
    refine w_region ?_
    refine wl_val rfl rfl rfl (x_fieldAddr Tryz.underlying49 rfl Tryz.size47 rfl) ?_
    refine wl_val rfl rfl rfl (x_load Tryz.plain47 rfl (rowH1 (.head _) rfl)) ?_
    refine wl_val rfl rfl rfl (x_assign rfl) ?_
    refine wl_nil ?_
    refine at_seq ?_
    refine w_block ?_
    refine w_loop (fun r m' H' env' => ∃ vo Hs out rv, revD a = out ++ revD r ∧ m2.le m' ∧ Own vo 1 5 (bsv out) Hs ∧ Nt m' rv r ∧ H' = (b2, cl 49 [.bool neg, .slice sa sl sc]) :: Hs ∧ env' = [(1, .int .i64 10), (2, .pointer (some ⟨b2, 0, none⟩)), (5, .int .u32 1000000000), (6, .int .i64 9), (7, vo), (8, rv)]) a [(1, .int .i64 10), (2, .pointer (some ⟨b2, 0, none⟩)), (5, .int .u32 1000000000), (6, .int .i64 9), (7, .slice none 0 0), (8, .slice sa sl sc)] ⟨_, [], [], _, rfl, Mem.le.refl _, Own.nil _ _, hs.up (hm1.trans hm2), rfl, rfl⟩ (by repeat' (first | exact trivial | exact rfl | exact lk_int rfl (by omega) | apply And.intro)) ?_
    rintro r m3 H' env' ⟨vo, Hs, out, rv, hrev, hm3, hown, hrv, rfl, rfl⟩
    refine w_seq ?_
    refine w_seq ?_
    refine w_region ?_
    refine wl_val rfl rfl rfl (x_move rfl) ?_
    refine wl_callp rfl rfl rfl Tryz.c100 (IsZero_ok hrv) ?_; rintro v4 m4 hm4 rfl
    refine wl_val rfl rfl rfl (x_not rfl rfl) ?_
    refine wl_nil ?_
    refine at_seq ?_
    refine w_cond rfl (fun h1 => ?_) (fun h1 => ?_)
    · skip
      have hr0 : r ≠ 0 := by simpa using h1
      refine w_skip ?_
      refine at_seq ?_
      refine w_block ?_
      refine w_seq ?_
      refine w_region ?_
      refine wl_val rfl rfl rfl (x_assign rfl) ?_
      refine wl_nil ?_
      refine at_seq ?_
      refine w_seq ?_
      refine w_region ?_
      refine wl_val rfl rfl rfl (x_move rfl) ?_
      refine wl_val rfl rfl rfl (x_move rfl) ?_
      refine wl_callp rfl rfl rfl Tryz.c211 (DivSmall_ok (hrv.up hm4) (d := 1000000000) (by omega) (by omega)) ?_; rintro v5 m5 hm5 ⟨q, rfl, hq⟩
      refine wl_val rfl rfl rfl (x_move rfl) ?_
      refine wl_val rfl rfl rfl (x_extract rfl rfl) ?_
      refine wl_val rfl rfl rfl (x_extract rfl rfl) ?_
      refine wl_val rfl rfl rfl (x_extract rfl rfl) ?_
      refine wl_val rfl rfl rfl (x_assign rfl) ?_
      refine wl_val rfl rfl rfl (x_assign rfl) ?_
      refine wl_nil ?_
      refine at_seq ?_
      refine w_seq ?_
      refine w_region ?_
      refine wl_val rfl rfl rfl (x_move rfl) ?_
      refine wl_callp rfl rfl rfl Tryz.c100 (IsZero_ok hq.nt) ?_; rintro v6 m6 hm6 rfl
      refine wl_val rfl rfl rfl (x_assign rfl) ?_
      refine wl_nil ?_
      refine at_seq ?_
      refine w_seq ?_
      refine w_region ?_
      refine wl_val rfl rfl rfl (x_assign rfl) ?_
      refine wl_nil ?_
      refine at_seq ?_
      refine w_block ?_
      have hdm := Nat.div_add_mod r 1000000000
      have hml := Nat.mod_lt r (show 0 < 1000000000 by omega)
      generalize hQ : r / 1000000000 = Q at *
      generalize hP : r % 1000000000 = p0 at *
      refine w_loop (fun r' m' H' env' => ∃ i part vo Hs out, r' + i = 9 ∧ revD a = out ++ revD (part + 10 ^ (9 - i) * Q) ∧ part < 10 ^ (9 - i) ∧ m6.le m' ∧ Own vo 1 5 (bsv out) Hs ∧ H' = (b2, cl 49 [.bool neg, .slice sa sl sc]) :: Hs ∧ env' = [(1, .int .i64 10), (2, .pointer (some ⟨b2, 0, none⟩)), (5, .int .u32 1000000000), (6, .int .i64 9), (7, vo), (8, q), (9, .int .u32 (part : Nat)), (10, .bool (decide (Q = 0))), (11, .int .i64 (i : Nat))]) 9 [(1, .int .i64 10), (2, .pointer (some ⟨b2, 0, none⟩)), (5, .int .u32 1000000000), (6, .int .i64 9), (7, vo), (8, q), (9, .int .u32 (p0 : Nat)), (10, .bool (decide (Q = 0))), (11, .int .i64 (0 : Nat))] ⟨0, p0, vo, Hs, out, rfl, by rw [hrev, ← hdm, Nat.add_comm], hml, Mem.le.refl _, hown, rfl, rfl⟩ (by repeat' (first | exact trivial | exact rfl | exact lk_int rfl (by omega) | apply And.intro)) ?_
      clear hown hrev
      rintro r' m7 H' env' ⟨i, part, vo, Hs, out, hri, hrev, hpart, hm7, hown, rfl, rfl⟩
      have hol : out.length ≤ (revD a).length := by rw [hrev]; simp
      have hp9 : 10 ^ (9 - i) ≤ 10 ^ 9 := Nat.pow_le_pow_right (by omega) (by omega)
      refine w_seq ?_
      refine w_seq ?_
      refine w_region ?_
      refine wl_val rfl rfl rfl (x_move rfl) ?_
      refine wl_val rfl rfl rfl (x_move rfl) ?_
      refine wl_val rfl rfl rfl (x_lss rfl rfl) ?_
      refine wl_val rfl rfl rfl (x_move rfl) ?_
      refine wl_splitp (t := 37) rfl (fun h2 => ?_) (fun h2 => ?_)
      · skip
        refine wl_val rfl rfl rfl (x_move rfl) ?_
        refine wl_val rfl rfl rfl (x_not rfl rfl) ?_
        refine wl_val rfl rfl rfl (x_move rfl) ?_
        refine wl_split (t := 40) rfl (fun h3 => ?_) (fun h3 => ?_)
        · skip
          have hQ0 : Q ≠ 0 := by simpa using h3
          have dst := digit_step (part := part) (q := Q) (i := i) (by omega) (.inr hQ0)
          refine wl_off rfl rfl rfl ?_
          refine wl_off rfl rfl rfl ?_
          refine wl_val rfl rfl rfl (x_pick_t rfl rfl) ?_
          refine wl_val rfl rfl rfl (x_pick_t rfl rfl) ?_
          refine wl_nil ?_
          refine at_seq ?_
          refine w_true rfl ?_
          refine w_skip ?_
          refine at_seq ?_
          refine w_seq ?_
          refine w_block ?_
          refine w_seq ?_
          refine w_region ?_
          refine wl_val rfl rfl rfl (x_move rfl) ?_
          refine wl_val rfl rfl rfl (x_move rfl) ?_
          refine wl_val rfl rfl rfl (x_move rfl) ?_
          refine wl_val rfl rfl rfl (x_conv Tryz.underlying3 Tryz.underlying51 rfl (u32n (r := 10) (by omega) (by omega))) ?_
          refine wl_val rfl rfl rfl (x_rem rfl rfl (by omega) ((Int.ofNat_tmod part 10).symm)) ?_
          refine wl_val rfl rfl rfl (x_indexSym Tryz.underlying9 rfl rfl rfl (by omega) (by decide +kernel)) ?_
          refine wl_buildSlice rfl rfl Tryz.underlying67 Tryz.size5 Tryz.zero5 rfl rfl rfl rfl rfl ?_; intro b53
          refine wl_append (cells := bsv out) (news := [_]) rfl rfl rfl Tryz.underlying67 Tryz.underlying67 Tryz.size5 Tryz.bytes5 Tryz.zero5 rfl (by omega) rfl hown (List.perm_append_comm (l₁ := [_, _])) rfl rfl (.inr ⟨_, 0, rfl, rowH0 (.head _)⟩) (by simp [Value.oneCell']) (by simp [bsv]; omega) (by simp [bsv]; omega) ?_; intro vo' Hs' hown'; refine wl_perm List.perm_append_comm ?_; refine wl_drop1 ?_
          refine wl_val rfl rfl rfl (x_assign rfl) ?_
          refine wl_nil ?_
          refine at_seq ?_
          refine w_region ?_
          refine wl_val rfl rfl rfl (x_move rfl) ?_
          refine wl_val rfl rfl rfl (x_move rfl) ?_
          refine wl_val rfl rfl rfl (x_conv Tryz.underlying3 Tryz.underlying51 rfl (u32n (r := 10) (by omega) (by omega))) ?_
          refine wl_val rfl rfl rfl (x_quo rfl rfl (by omega) (u32n (r := part / 10) (by rw [Int.ofNat_tdiv]) (by omega))) ?_
          refine wl_val rfl rfl rfl (x_assign rfl) ?_
          refine wl_nil ?_
          refine at_block_normal ?_
          refine at_seq ?_
          refine w_region ?_
          refine wl_val rfl rfl rfl (x_move rfl) ?_
          refine wl_val rfl rfl rfl (x_add rfl rfl (wrap_i64 (by omega) (by omega))) ?_
          refine wl_val rfl rfl rfl (x_assign rfl) ?_
          refine wl_nil ?_
          exact at_again (r' - 1) [(1, .int .i64 10), (2, .pointer (some ⟨b2, 0, none⟩)), (5, .int .u32 1000000000), (6, .int .i64 9), (7, vo'), (8, q), (9, .int .u32 (part / 10 : Nat)), (10, .bool (decide (Q = 0))), (11, .int .i64 (i + 1 : Nat))] (by omega) ⟨i + 1, part / 10, vo', Hs', out ++ [UInt8.ofNat (48 + part % 10)], by omega, by rw [hrev, dst]; simp, pow_step (by omega) hpart, hm7, by rw [bsv_snoc]; exact hown', rfl, rfl⟩ (by repeat' (first | exact trivial | exact rfl | exact lk_int rfl (by omega) | apply And.intro))
        · skip
          have hQ0 : Q = 0 := by simpa using h3
          refine wl_val rfl rfl rfl (x_move rfl) ?_
          refine wl_val rfl rfl rfl (x_neq rfl rfl) ?_
          refine wl_val rfl rfl rfl (x_pick_f rfl rfl) ?_
          refine wl_val rfl rfl rfl (x_pick_t rfl rfl) ?_
          refine wl_nil ?_
          refine at_seq ?_
          refine w_if rfl (fun h4 => ?_) (fun h4 => ?_)
          · skip
            have dst := digit_step (part := part) (q := Q) (i := i) (by omega) (.inl (by omega))
            refine w_skip ?_
            refine at_seq ?_
            refine w_seq ?_
            refine w_block ?_
            refine w_seq ?_
            refine w_region ?_
            refine wl_val rfl rfl rfl (x_move rfl) ?_
            refine wl_val rfl rfl rfl (x_move rfl) ?_
            refine wl_val rfl rfl rfl (x_move rfl) ?_
            refine wl_val rfl rfl rfl (x_conv Tryz.underlying3 Tryz.underlying51 rfl (u32n (r := 10) (by omega) (by omega))) ?_
            refine wl_val rfl rfl rfl (x_rem rfl rfl (by omega) ((Int.ofNat_tmod part 10).symm)) ?_
            refine wl_val rfl rfl rfl (x_indexSym Tryz.underlying9 rfl rfl rfl (by omega) (by decide +kernel)) ?_
            refine wl_buildSlice rfl rfl Tryz.underlying67 Tryz.size5 Tryz.zero5 rfl rfl rfl rfl rfl ?_; intro b53
            refine wl_append (cells := bsv out) (news := [_]) rfl rfl rfl Tryz.underlying67 Tryz.underlying67 Tryz.size5 Tryz.bytes5 Tryz.zero5 rfl (by omega) rfl hown (List.perm_append_comm (l₁ := [_, _])) rfl rfl (.inr ⟨_, 0, rfl, rowH0 (.head _)⟩) (by simp [Value.oneCell']) (by simp [bsv]; omega) (by simp [bsv]; omega) ?_; intro vo' Hs' hown'; refine wl_perm List.perm_append_comm ?_; refine wl_drop1 ?_
            refine wl_val rfl rfl rfl (x_assign rfl) ?_
            refine wl_nil ?_
            refine at_seq ?_
            refine w_region ?_
            refine wl_val rfl rfl rfl (x_move rfl) ?_
            refine wl_val rfl rfl rfl (x_move rfl) ?_
            refine wl_val rfl rfl rfl (x_conv Tryz.underlying3 Tryz.underlying51 rfl (u32n (r := 10) (by omega) (by omega))) ?_
            refine wl_val rfl rfl rfl (x_quo rfl rfl (by omega) (u32n (r := part / 10) (by rw [Int.ofNat_tdiv]) (by omega))) ?_
            refine wl_val rfl rfl rfl (x_assign rfl) ?_
            refine wl_nil ?_
            refine at_block_normal ?_
            refine at_seq ?_
            refine w_region ?_
            refine wl_val rfl rfl rfl (x_move rfl) ?_
            refine wl_val rfl rfl rfl (x_add rfl rfl (wrap_i64 (by omega) (by omega))) ?_
            refine wl_val rfl rfl rfl (x_assign rfl) ?_
            refine wl_nil ?_
            exact at_again (r' - 1) [(1, .int .i64 10), (2, .pointer (some ⟨b2, 0, none⟩)), (5, .int .u32 1000000000), (6, .int .i64 9), (7, vo'), (8, q), (9, .int .u32 (part / 10 : Nat)), (10, .bool (decide (Q = 0))), (11, .int .i64 (i + 1 : Nat))] (by omega) ⟨i + 1, part / 10, vo', Hs', out ++ [UInt8.ofNat (48 + part % 10)], by omega, by rw [hrev, dst]; simp, pow_step (by omega) hpart, hm7, by rw [bsv_snoc]; exact hown', rfl, rfl⟩ (by repeat' (first | exact trivial | exact rfl | exact lk_int rfl (by omega) | apply And.intro))
          · skip
            have hpz : part + 10 ^ (9 - i) * Q = Q := by rw [hQ0]; omega
            rw [hpz] at hrev
            refine w_exit ?_
            refine at_then_exit ?_
            refine at_then_exit ?_
            refine at_block_hit ?_
            refine at_block_normal ?_
            exact at_again Q [(1, .int .i64 10), (2, .pointer (some ⟨b2, 0, none⟩)), (5, .int .u32 1000000000), (6, .int .i64 9), (7, vo), (8, q)] (by omega) ⟨vo, Hs, out, q, hrev, hm3.trans (hm4.trans (hm5.trans (hm6.trans hm7))), hown, hq.nt.up (hm6.trans hm7), rfl, rfl⟩ (by repeat' (first | exact trivial | exact rfl | exact lk_int rfl (by omega) | apply And.intro))
      · skip
        have hi9 : i = 9 := by omega
        subst hi9
        have hpz : part + 10 ^ (9 - 9) * Q = Q := by simp at hpart ⊢; omega
        rw [hpz] at hrev
        refine wl_off rfl rfl rfl ?_
        refine wl_off rfl rfl rfl ?_
        refine wl_off rfl rfl rfl ?_
        refine wl_off rfl rfl rfl ?_
        refine wl_off rfl rfl rfl ?_
        refine wl_off rfl rfl rfl ?_
        refine wl_val rfl rfl rfl (x_pick_f rfl rfl) ?_
        refine wl_nil ?_
        refine at_seq ?_
        refine w_false rfl ?_
        refine w_exit ?_
        refine at_then_exit ?_
        refine at_then_exit ?_
        refine at_block_hit ?_
        refine at_block_normal ?_
        exact at_again Q [(1, .int .i64 10), (2, .pointer (some ⟨b2, 0, none⟩)), (5, .int .u32 1000000000), (6, .int .i64 9), (7, vo), (8, q)] (by omega) ⟨vo, Hs, out, q, hrev, hm3.trans (hm4.trans (hm5.trans (hm6.trans hm7))), hown, hq.nt.up (hm6.trans hm7), rfl, rfl⟩ (by repeat' (first | exact trivial | exact rfl | exact lk_int rfl (by omega) | apply And.intro))
    · skip
      have hr0 : r = 0 := by simpa using h1
      subst hr0
      rw [revD_zero, List.append_nil] at hrev
      subst hrev
      have hne : revD a ≠ [] := by rw [revD_pos (by omega)]; simp
      have hne2 : ∀ x, revD a ++ x ≠ [] := fun x e => hne (List.append_eq_nil_iff.1 e).1
      refine w_exit ?_
      refine at_then_exit ?_
      refine at_then_exit ?_
      refine at_block_hit ?_
      refine at_seq ?_
      refine w_seq ?_
      refine w_seq ?_
      refine w_region ?_
      refine wl_val rfl rfl rfl (x_fieldAddr Tryz.underlying49 rfl Tryz.size4 rfl) ?_
      refine wl_val rfl rfl rfl (x_load Tryz.plain4 rfl (rowH1 (.head _) rfl)) ?_
      refine wl_nil ?_
      refine at_seq ?_
      refine w_cond rfl (fun h5 => ?_) (fun h5 => ?_)
      · skip
        subst h5
        refine w_region ?_
        refine wl_val rfl rfl rfl (x_move rfl) ?_
        refine wl_buildSlice rfl rfl Tryz.underlying67 Tryz.size5 Tryz.zero5 rfl rfl rfl rfl rfl ?_; intro b62
        refine wl_append (cells := bsv (revD a)) (news := [_]) rfl rfl rfl Tryz.underlying67 Tryz.underlying67 Tryz.size5 Tryz.bytes5 Tryz.zero5 rfl (by omega) rfl hown (List.perm_append_comm (l₁ := [_, _])) rfl rfl (.inr ⟨_, 0, rfl, rowH0 (.head _)⟩) (by simp [Value.oneCell']) (by simp [bsv]; omega) (by simp [bsv]; omega) ?_; intro vo' Hs' hown'; refine wl_perm List.perm_append_comm ?_; refine wl_drop1 ?_
        rw [show Value.int IntKind.u8 45 = .int .u8 ((45 : UInt8).toNat : Int) from rfl, ← bsv_snoc] at hown'
        obtain ⟨bo, cap, junk, rfl, hcap, rfl⟩ := own_some hown' (hne2 _)
        refine wl_front1 ?_
        refine wl_val rfl rfl rfl (x_assign rfl) ?_
        refine wl_nil ?_
        refine at_seq ?_
        refine w_seq ?_
        refine w_region ?_
        refine wl_val rfl rfl rfl (x_move rfl) ?_
        refine wl_call rfl rfl rfl Tryz.c212 (Hc := [_]) (Hr := [_]) rfl (Reverse_ok hcap (by first | omega | (simp; omega))) ?_; rintro v9 m9 H9 hm9 rfl
        refine wl_nil ?_
        refine at_seq ?_
        refine w_seq ?_
        refine w_region ?_
        refine wl_val rfl rfl rfl (x_move rfl) ?_
        refine wl_val rfl rfl rfl (x_strOf (l := (revD a ++ [45]).reverse) Tryz.underlying67 Tryz.underlying5 Tryz.underlying9 rfl (by simp) (.inr ⟨_, 0, rfl, rowH (.head _) (fun i hi => by rw [Nat.zero_add, List.getElem?_append_left hi])⟩)) ?_
        refine wl_val rfl rfl rfl (x_assign rfl) ?_
        refine wl_nil ?_
        refine at_seq ?_
        refine w_ret ?_
        refine at_endp (res1 rfl rfl) ?_
        rw [decB, if_neg hz0, if_pos (by simp only [sg, if_true] at hz; omega), ha]
        first | done | simp
      · skip
        subst h5
        refine w_skip ?_
        refine at_seq ?_
        refine w_seq ?_
        refine w_region ?_
        obtain ⟨bo, cap, junk, rfl, hcap, rfl⟩ := own_some hown (hne)
        refine wl_front1 ?_
        refine wl_val rfl rfl rfl (x_move rfl) ?_
        refine wl_call rfl rfl rfl Tryz.c212 (Hc := [_]) (Hr := [_]) rfl (Reverse_ok hcap (by first | omega | (simp; omega))) ?_; rintro v9 m9 H9 hm9 rfl
        refine wl_nil ?_
        refine at_seq ?_
        refine w_seq ?_
        refine w_region ?_
        refine wl_val rfl rfl rfl (x_move rfl) ?_
        refine wl_val rfl rfl rfl (x_strOf (l := (revD a).reverse) Tryz.underlying67 Tryz.underlying5 Tryz.underlying9 rfl (by simp) (.inr ⟨_, 0, rfl, rowH (.head _) (fun i hi => by rw [Nat.zero_add, List.getElem?_append_left hi])⟩)) ?_
        refine wl_val rfl rfl rfl (x_assign rfl) ?_
        refine wl_nil ?_
        refine at_seq ?_
        refine w_ret ?_
        refine at_endp (res1 rfl rfl) ?_
        rw [decB, if_neg hz0, if_neg (by rw [hz]; simp [sg]), ha]
        first | done | simp

theorem DecFormat_ok {m : Mem} {v : Value} {z : Int} (hv : In m v z) (hb : dlen z.natAbs ≤ 1000000000000) : Pure Tryz.prog 129 #[v] m fun r _ => r = .string (B (decB z)) := by
  have hv' := hv
  obtain ⟨neg, s, a, rfl, hs, hz⟩ := hv
  obtain ⟨sa, sl, sc, rfl⟩ := hs.slice
  refine enterp Tryz.func129 rfl rfl ?_
  intro K hm0 hks
  refine w_seq ?_
  refine w_region ?_
  refine wl_box rfl rfl rfl rfl ?_; intro b1
  refine wl_val rfl rfl rfl (x_assign rfl) ?_
  refine wl_nil ?_
  refine at_seq ?_
  refine w_seq ?_
  refine w_region ?_
  refine wl_val rfl rfl rfl (x_loads Tryz.agg49 (by exact Tryz.size49) rfl (rowH0 (.head _))) ?_
  refine wl_callp rfl rfl rfl Tryz.c180 (format_ok hv' hb) ?_; rintro v1 m1 hm1 rfl
  refine wl_val rfl rfl rfl (x_assign rfl) ?_
  refine wl_nil ?_
  refine at_seq ?_
  refine w_ret ?_
  refine at_endp (res1 rfl rfl) ?_
  rfl
end Go.Cy

