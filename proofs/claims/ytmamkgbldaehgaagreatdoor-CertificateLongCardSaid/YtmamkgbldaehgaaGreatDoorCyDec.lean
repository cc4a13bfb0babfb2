/- decimal: chunk, Format. -/
import Derived.Test.YtmamkgbldaehgaaGreatDoorCyFrac
import Derived.Test.YtmamkgbldaehgaaGreatDoorCyCal3
namespace Go.Cy
open Go Go.Proofs
set_option maxRecDepth 20000

theorem chunk_ok {m : Mem} : Pure Tryz.prog 210 #[.int .i64 10] m fun r _ => r = .tuple #[.int .u32 1000000000, .int .i64 9] := by
  have key : ∀ c, 1 ≤ c → c ≤ 9 → 10 ^ c ≤ 1000000000 ∧ (10 ^ c * 10 ≤ 4294967295 → c < 9) ∧ (¬ 10 ^ c * 10 ≤ 4294967295 → c = 9) := by
    intro c h1 h2
    have : c = 1 ∨ c = 2 ∨ c = 3 ∨ c = 4 ∨ c = 5 ∨ c = 6 ∨ c = 7 ∨ c = 8 ∨ c = 9 := by omega
    rcases this with rfl | rfl | rfl | rfl | rfl | rfl | rfl | rfl | rfl <;> decide
  refine enterp Tryz.func210 rfl rfl ?_
  intro K hm0 hks
  refine w_seq ?_
  refine w_region ?_
  refine wl_val rfl rfl rfl (x_assign rfl) ?_
  refine wl_val rfl rfl rfl (x_assign rfl) ?_
  refine wl_nil ?_
  refine at_seq ?_
  refine w_seq ?_
  refine w_region ?_
  refine wl_val rfl rfl rfl (x_move rfl) ?_
  refine wl_val rfl rfl rfl (x_conv Tryz.underlying3 Tryz.underlying111 rfl (u64n (r := 10) (by omega) (by omega))) ?_
  refine wl_val rfl rfl rfl (x_assign rfl) ?_
  refine wl_val rfl rfl rfl (x_assign rfl) ?_
  refine wl_nil ?_
  refine at_seq ?_
  refine w_seq ?_
  refine w_block ?_
  refine w_loop (fun r m' H' env' => ∃ c p, r + c = 9 ∧ 1 ≤ c ∧ p = 10 ^ c ∧ m' = m ∧ H' = [] ∧ env' = [(0, .int .i64 10), (4, .int .u64 (p : Nat)), (5, .int .i64 (c : Nat))]) 8 [(0, .int .i64 10), (4, .int .u64 (10 : Nat)), (5, .int .i64 (1 : Nat))] ⟨1, 10, rfl, Nat.le_refl _, rfl, rfl, rfl, rfl⟩ (by repeat' (first | exact trivial | exact rfl | exact lk_int rfl (by omega) | apply And.intro)) ?_
  rintro r m1 H' env' ⟨c, p, hr, hc, hp, rfl, rfl, rfl⟩
  obtain ⟨k1, k2, k3⟩ := key c hc (by omega)
  rw [← hp] at k1 k2 k3
  refine w_seq ?_
  refine w_seq ?_
  refine w_region ?_
  refine wl_val rfl rfl rfl (x_move rfl) ?_
  refine wl_val rfl rfl rfl (x_move rfl) ?_
  refine wl_val rfl rfl rfl (x_conv Tryz.underlying3 Tryz.underlying111 rfl (u64n (r := 10) (by omega) (by omega))) ?_
  refine wl_val rfl rfl rfl (x_mul rfl rfl (u64n (r := p * 10) (by omega) (by omega))) ?_
  refine wl_val rfl rfl rfl (x_leq rfl rfl) ?_
  refine wl_nil ?_
  refine at_seq ?_
  refine w_if rfl (fun h1 => ?_) (fun h1 => ?_)
  · skip
    have := k2 (by omega)
    refine w_skip ?_
    refine at_seq ?_
    refine w_block ?_
    refine w_seq ?_
    refine w_region ?_
    refine wl_val rfl rfl rfl (x_move rfl) ?_
    refine wl_val rfl rfl rfl (x_move rfl) ?_
    refine wl_val rfl rfl rfl (x_conv Tryz.underlying3 Tryz.underlying111 rfl (u64n (r := 10) (by omega) (by omega))) ?_
    refine wl_val rfl rfl rfl (x_mul rfl rfl (u64n (r := p * 10) (by omega) (by omega))) ?_
    refine wl_val rfl rfl rfl (x_assign rfl) ?_
    refine wl_nil ?_
    refine at_seq ?_
    refine w_region ?_
    refine wl_val rfl rfl rfl (x_move rfl) ?_
    refine wl_val rfl rfl rfl (x_add rfl rfl (wrap_i64 (by omega) (by omega))) ?_
    refine wl_val rfl rfl rfl (x_assign rfl) ?_
    refine wl_nil ?_
    refine at_block_normal ?_
    exact at_again (r - 1) [(0, .int .i64 10), (4, .int .u64 (p * 10 : Nat)), (5, .int .i64 (c + 1 : Nat))] (by omega) ⟨c + 1, p * 10, by omega, by omega, by rw [hp, Nat.pow_succ], rfl, rfl, rfl⟩ (by repeat' (first | exact trivial | exact rfl | exact lk_int rfl (by omega) | apply And.intro))
  · skip
    have := k3 (by omega)
    subst this
    subst hp
    refine w_exit ?_
    refine at_then_exit ?_
    refine at_then_exit ?_
    refine at_block_hit ?_
    refine at_seq ?_
    refine w_seq ?_
    refine w_region ?_
    refine wl_val rfl rfl rfl (x_move rfl) ?_
    refine wl_val rfl rfl rfl (x_conv Tryz.underlying111 Tryz.underlying51 rfl (u32n (r := 1000000000) (by omega) (by omega))) ?_
    refine wl_val rfl rfl rfl (x_move rfl) ?_
    refine wl_val rfl rfl rfl (x_assign rfl) ?_
    refine wl_val rfl rfl rfl (x_assign rfl) ?_
    refine wl_nil ?_
    refine at_seq ?_
    refine w_ret ?_
    refine at_endp (res2 rfl rfl rfl) ?_
    rfl

/-- The list after k steps of turning it round. -/
def turned (l l' : List UInt8) (k : Nat) : Prop := l'.length = l.length ∧ ∀ i (h : i < l.length), l'[i]? = some (if i < k ∨ l.length - k ≤ i then l[l.length - 1 - i] else l[i])
theorem turned_zero (l : List UInt8) : turned l l 0 := ⟨rfl, fun i h => by rw [if_neg (by omega)]; simp [h]⟩
theorem turned_step {l l' : List UInt8} {k : Nat} (h : turned l l' k) (hk : k < l.length - 1 - k) (h1 : k < l'.length) (h2 : l.length - 1 - k < l'.length) : turned l ((l'.set k l'[l.length - 1 - k]).set (l.length - 1 - k) l'[k]) (k + 1) := by
  obtain ⟨hl, hg⟩ := h
  have ek : l'[k] = l[k]'(by omega) := by
    have := hg k (by omega)
    rw [List.getElem?_eq_getElem h1, if_neg (by omega)] at this
    exact Option.some.inj this
  have ej : l'[l.length - 1 - k] = l[l.length - 1 - k]'(by omega) := by
    have := hg (l.length - 1 - k) (by omega)
    rw [List.getElem?_eq_getElem h2, if_neg (by omega)] at this
    exact Option.some.inj this
  refine ⟨by simp [hl], fun i hi => ?_⟩
  rw [List.getElem?_set]
  by_cases e1 : l.length - 1 - k = i
  · subst e1
    rw [if_pos rfl, if_pos (by simp; omega), if_pos (by omega), ek]
    congr 2
    omega
  · rw [if_neg e1, List.getElem?_set]
    by_cases e2 : k = i
    · subst e2
      rw [if_pos rfl, if_pos h1, if_pos (by omega), ej]
    · rw [if_neg e2, hg i hi]
      congr 1
      by_cases e3 : i < k ∨ l.length - k ≤ i
      · rw [if_pos e3, if_pos (by omega)]
      · rw [if_neg e3, if_neg (by omega)]
theorem turned_end {l l' : List UInt8} {k : Nat} (h : turned l l' k) (hk : l.length ≤ 2 * k + 1) : l' = l.reverse := by
  obtain ⟨hl, hg⟩ := h
  refine List.ext_getElem? fun i => ?_
  by_cases hi : i < l.length
  · rw [hg i hi, List.getElem?_reverse hi, List.getElem?_eq_getElem (by omega)]
    congr 1
    split
    · rfl
    · congr 1; omega
  · rw [List.getElem?_eq_none (by omega), List.getElem?_eq_none (by simp; omega)]

theorem Reverse_ok {m : Mem} {b : Nat} {l : List UInt8} {junk : List Value} {cap : Nat} (hcap : l.length ≤ cap) (hl : l.length ≤ 4611686018427387904) : Does Tryz.prog 212 #[.slice (some ⟨b, 0, none⟩) l.length cap] m [(b, cl 5 (bsv l ++ junk))] fun _ m' H' => H' = [(b, cl 5 (bsv l.reverse ++ junk))] := by
  refine enter Tryz.func212 rfl rfl ?_
  intro K hm0 hks
  refine w_seq ?_
  refine w_region ?_
  refine wl_val rfl rfl rfl (x_move rfl) ?_
  refine wl_val rfl rfl rfl (x_len Tryz.underlying67 rfl rfl) ?_
  refine wl_val rfl rfl rfl (x_sub rfl rfl (wrap_i64 (by omega) (by omega))) ?_
  refine wl_val rfl rfl rfl (x_assign rfl) ?_
  refine wl_val rfl rfl rfl (x_assign rfl) ?_
  refine wl_nil ?_
  refine at_seq ?_
  refine w_block ?_
  refine w_loop (fun r m' H' env' => ∃ k l', r + k = l.length ∧ m.le m' ∧ turned l l' k ∧ H' = [(b, cl 5 (bsv l' ++ junk))] ∧ env' = [(0, .slice (some ⟨b, 0, none⟩) l.length cap), (2, .int .i64 k), (3, .int .i64 ((l.length : Int) - 1 - k))]) l.length [(0, .slice (some ⟨b, 0, none⟩) l.length cap), (2, .int .i64 (0 : Nat)), (3, .int .i64 ((l.length : Int) - 1 - (0 : Nat)))] ⟨0, l, rfl, Mem.le.refl _, turned_zero l, rfl, rfl⟩ (by repeat' (first | exact trivial | exact rfl | exact lk_int rfl (by omega) | apply And.intro)) ?_
  rintro r m1 H' env' ⟨k, l', hr, hm1, ht, rfl, rfl⟩
  refine w_seq ?_
  refine w_seq ?_
  refine w_region ?_
  refine wl_val rfl rfl rfl (x_move rfl) ?_
  refine wl_val rfl rfl rfl (x_move rfl) ?_
  refine wl_val rfl rfl rfl (x_lss rfl rfl) ?_
  refine wl_nil ?_
  refine at_seq ?_
  refine w_if rfl (fun h1 => ?_) (fun h1 => ?_)
  · skip
    have k1 : k < l'.length := by rw [ht.1]; omega
    have k2 : l.length - 1 - k < l'.length := by rw [ht.1]; omega
    have k3 : l.length - 1 - k < (l'.set k l'[l.length - 1 - k]).length := by simpa using k2
    refine w_skip ?_
    refine at_seq ?_
    refine w_seq ?_
    refine w_block ?_
    refine dr_start [] [[], [], [], [], [], [], [4, 5], [6], [], [], [8, 9], [10], [0, 1]] ?_
    refine dr_val rfl rfl (fun m' hm' => ds_val rfl (x_move rfl)) ?_
    refine dr_val rfl rfl (fun m' hm' => ds_val rfl (x_move rfl)) ?_
    refine dr_val rfl rfl (fun m' hm' => ds_val rfl (x_move rfl)) ?_
    refine dr_val rfl rfl (fun m' hm' => ds_val rfl (x_move rfl)) ?_
    refine dr_val rfl rfl (fun m' hm' => ds_val rfl (x_move rfl)) ?_
    refine dr_val rfl rfl (fun m' hm' => ds_val rfl (x_move rfl)) ?_
    refine dr_val rfl rfl (fun m' hm' => ds_val rfl (x_index Tryz.underlying67 Tryz.size5 rfl rfl (j := (l.length - 1 - k)) (by omega) (by omega))) ?_
    refine dr_val rfl rfl (fun m' hm' => ds_val rfl (x_load Tryz.plain5 rfl (rowH1 (.head _) (bsv_at k2 (by omega))))) ?_
    refine dr_val rfl rfl (fun m' hm' => ds_val rfl (x_move rfl)) ?_
    refine dr_val rfl rfl (fun m' hm' => ds_val rfl (x_move rfl)) ?_
    refine dr_val rfl rfl (fun m' hm' => ds_val rfl (x_index Tryz.underlying67 Tryz.size5 rfl rfl (j := k) (by omega) (by omega))) ?_
    refine dr_val rfl rfl (fun m' hm' => ds_val rfl (x_load Tryz.plain5 rfl (rowH1 (.head _) (bsv_at k1 (by omega))))) ?_
    refine dr_val rfl rfl (fun m' hm' => ds_val rfl (x_index Tryz.underlying67 Tryz.size5 rfl rfl (j := k) (by omega) (by omega))) ?_
    refine dr_doneF (k := 13) [(2, _), (3, _)] Tryz.mixed ⟨rfl, rfl, trivial⟩ rfl rfl rfl fun m2 hm_m2 => ?_
    show WLF _ _ _ _ _ _ _ _ _ _
    refine wlf_store (xs' := bsv (l'.set k l'[l.length - 1 - k]) ++ junk) rfl rfl rfl rfl rfl ⟨⟨_, _, rfl, rfl, rfl, rfl, rfl, x_move rfl⟩, ⟨_, _, rfl, rfl, rfl, rfl, rfl, x_move rfl⟩, trivial⟩ rfl Tryz.size5 rfl rfl rfl (by simp [bsv]; omega) (bsv_setAs k1 (by omega)) ?_
    refine wlf_done rfl rfl rfl ⟨⟨_, _, rfl, rfl, rfl, rfl, rfl, x_move rfl⟩, ⟨_, _, rfl, rfl, rfl, rfl, rfl, x_move rfl⟩, trivial⟩ ?_
    show WL _ _ _ _ _ _ _ _ _
    refine wl_val rfl rfl rfl (x_index Tryz.underlying67 Tryz.size5 rfl rfl (j := (l.length - 1 - k)) (by omega) (by omega)) ?_
    refine wl_storeAs (xs' := bsv ((l'.set k l'[l.length - 1 - k]).set (l.length - 1 - k) l'[k]) ++ junk) rfl Tryz.size5 rfl rfl rfl (by simp [bsv]; omega) (bsv_setAs k3 (by omega)) ?_
    refine wl_nil ?_
    refine at_block_normal ?_
    refine at_seq ?_
    refine w_region ?_
    refine wl_val rfl rfl rfl (x_move rfl) ?_
    refine wl_val rfl rfl rfl (x_add rfl rfl (wrap_i64 (by omega) (by omega))) ?_
    refine wl_val rfl rfl rfl (x_move rfl) ?_
    refine wl_val rfl rfl rfl (x_sub rfl rfl (wrap_i64 (by omega) (by omega))) ?_
    refine wl_val rfl rfl rfl (x_assign rfl) ?_
    refine wl_val rfl rfl rfl (x_assign rfl) ?_
    refine wl_nil ?_
    exact at_again (r - 1) [(0, .slice (some ⟨b, 0, none⟩) l.length cap), (2, .int .i64 (k + 1 : Nat)), (3, .int .i64 ((l.length : Int) - 1 - (k + 1 : Nat)))] (by omega) ⟨k + 1, _, by omega, hm1.trans hm_m2, turned_step ht (by omega) k1 k2, rfl, rfl⟩ (by repeat' (first | exact trivial | exact rfl | exact lk_int rfl (by omega) | apply And.intro))
  · skip
    refine w_exit ?_
    refine at_then_exit ?_
    refine at_then_exit ?_
    refine at_block_hit ?_
    refine at_end_normal (res0 rfl) ?_
    rw [turned_end ht (by omega)]
end Go.Cy

