/- slices.insertionSortCmpFunc. -/
import Derived.Test.YtmamkgbldaehgaaGreatDoorCyRot
namespace Go.Cy
open Go Go.Proofs
set_option maxRecDepth 20000

theorem Ex.as {P : Program} {n : Nat} {o : Oper} {env : Env} {m : Mem} {H : Hp} {v v' : Value} (h : Ex P n o env m H v) (e : v = v') : Ex P n o env m H v' := e ▸ h
theorem bool_t {p : Prop} [Decidable p] (h : p) : Value.bool (decide p) = .bool true := congrArg Value.bool (decide_eq_true h)
theorem bool_f {p : Prop} [Decidable p] (h : ¬ p) : Value.bool (decide p) = .bool false := congrArg Value.bool (decide_eq_false h)

def Srt (l : List TV) : Prop := l.Pairwise TV.le
theorem Srt.app {a b : List TV} : Srt (a ++ b) ↔ Srt a ∧ Srt b ∧ ∀ x ∈ a, ∀ y ∈ b, x.le y := List.pairwise_append
theorem Srt.short {a : List TV} (h : a.length ≤ 1) : Srt a := by
  match a, h with
  | [], _ => exact .nil
  | [x], _ => exact List.pairwise_singleton _ _
theorem Srt.cons {x : TV} {l : List TV} : Srt (x :: l) ↔ (∀ y ∈ l, x.le y) ∧ Srt l := List.pairwise_cons
theorem Srt.ins {a b : List TV} {x : TV} (h : Srt (a ++ b)) (h1 : ∀ y ∈ b, x.le y) (h2 : ∀ y ∈ a, y.le x) : Srt (a ++ x :: b) := by
  rw [Srt.app] at h ⊢
  refine ⟨h.1, Srt.cons.2 ⟨h1, h.2.1⟩, fun y hy z hz => ?_⟩
  rcases List.mem_cons.1 hz with rfl | hz
  · exact h2 y hy
  · exact h.2.2 y hy z hz
theorem Srt.last {a : List TV} {u x : TV} (h : Srt (a ++ [u])) (hu : u.le x) : ∀ y ∈ a ++ [u], y.le x := by
  intro y hy
  rcases List.mem_append.1 hy with hy | hy
  · exact TV.le_trans ((Srt.app.1 h).2.2 y hy u (List.mem_singleton.2 rfl)) hu
  · rw [List.mem_singleton.1 hy]; exact hu

theorem snoc_cases {α : Type} (l : List α) : l = [] ∨ ∃ a u, l = a ++ [u] := by
  rcases l.eq_nil_or_concat with h | ⟨a, u, h⟩
  · exact .inl h
  · exact .inr ⟨a, u, by rw [h]; simp⟩
theorem swap_eq {A R : List TV} (x y : TV) : A ++ x :: y :: R = (A ++ [x]) ++ y :: R := by simp
theorem insertion_ok {m : Mem} {b n cap i j : Nat} {P X R : List TV} (hn : n ≤ (P ++ X ++ R).length) (hb : (P ++ X).length ≤ n) (hl : n ≤ 4294967296) (hi : i = P.length) (hj : j = P.length + X.length) :
    Does Tryz.prog 153 #[.slice (some ⟨b, 0, none⟩) n cap, .int .i64 i, .int .i64 j, .func (.func 43) ([] : List Value).toArray ([] : List Value).toArray] m [(b, cl 72 (fl6 (P ++ X ++ R)))] fun _ m' H' => ∃ X', X'.Perm X ∧ Srt X' ∧ H' = [(b, cl 72 (fl6 (P ++ X' ++ R)))] := by
  subst hi hj
  simp only [List.length_append] at hn hb
  refine enter Tryz.func153 rfl rfl ?_
  intro K hm0 hks
  refine wsr ?_
  refine wmv ?_
  refine wv (x_add rfl rfl (asN (P.length + 1) (by omega) (by omega))) ?_
  refine was ?_
  refine wns ?_
  refine w_block ?_
  refine w_loop (fun r m' H' env' => ∃ q S T, r + q = X.length + 1 ∧ (S ++ T).Perm X ∧ S.length = min q X.length ∧ 0 < q ∧ Srt S ∧ m.le m' ∧ H' = [(b, cl 72 (fl6 (P ++ (S ++ T) ++ R)))] ∧ env' = [(0, .slice (some ⟨b, 0, none⟩) n cap), (1, .int .i64 P.length), (2, .int .i64 ((P.length + X.length : Nat))), (3, .func (.func 43) ([] : List Value).toArray ([] : List Value).toArray), (8, .int .i64 ((P.length + q : Nat)))]) X.length [(0, .slice (some ⟨b, 0, none⟩) n cap), (1, .int .i64 P.length), (2, .int .i64 ((P.length + X.length : Nat))), (3, .func (.func 43) ([] : List Value).toArray ([] : List Value).toArray), (8, .int .i64 ((P.length + 1 : Nat)))] ⟨1, X.take 1, X.drop 1, by omega, by rw [List.take_append_drop], by rw [List.length_take], by omega, Srt.short (by rw [List.length_take]; omega), Mem.le.refl _, by rw [List.take_append_drop], rfl⟩ (by repeat' (first | exact trivial | exact rfl | exact lk_int rfl (by omega) | apply And.intro)) ?_
  rintro r m1 H' env' ⟨q, S, T, hr, hp, hS, hq, hs, hm1, rfl, rfl⟩
  have hST : S.length + T.length = X.length := by rw [← List.length_append]; exact hp.length_eq
  refine w_seq ?_
  refine wsr ?_
  refine wmv ?_
  refine wmv ?_
  refine wv (x_lss rfl rfl) ?_
  refine wns ?_
  refine w_if rfl (fun h1 => ?_) (fun h1 => ?_)
  · skip
    obtain ⟨x, T', rfl⟩ : ∃ x T', T = x :: T' := by
      rcases T with _ | ⟨x, T'⟩
      · simp at hST; omega
      · exact ⟨x, T', rfl⟩
    rw [List.length_cons] at hST
    refine w_skip ?_
    refine at_seq ?_
    refine w_seq ?_
    refine w_block ?_
    refine wsr ?_
    refine wmv ?_
    refine was ?_
    refine wns ?_
    refine w_block ?_
    refine w_loop (fun r m' H' env' => ∃ S1 S2, S1 ++ S2 = S ∧ r = S1.length ∧ (∀ y ∈ S2, x.le y) ∧ m1.le m' ∧ H' = [(b, cl 72 (fl6 (P ++ S1 ++ x :: (S2 ++ T' ++ R))))] ∧ env' = [(0, .slice (some ⟨b, 0, none⟩) n cap), (1, .int .i64 P.length), (2, .int .i64 ((P.length + X.length : Nat))), (3, .func (.func 43) ([] : List Value).toArray ([] : List Value).toArray), (8, .int .i64 ((P.length + q : Nat))), (9, .int .i64 ((P.length + S1.length : Nat)))]) S.length [(0, .slice (some ⟨b, 0, none⟩) n cap), (1, .int .i64 P.length), (2, .int .i64 ((P.length + X.length : Nat))), (3, .func (.func 43) ([] : List Value).toArray ([] : List Value).toArray), (8, .int .i64 ((P.length + q : Nat))), (9, .int .i64 ((P.length + q : Nat)))] ⟨S, [], by simp, rfl, by simp, Mem.le.refl _, by simp, by rw [show S.length = q by omega]⟩ (by repeat' (first | exact trivial | exact rfl | exact lk_int rfl (by omega) | apply And.intro)) ?_
    rintro r1 m2 H' env' ⟨S1, S2, hSS, rfl, hx2, hm2, rfl, rfl⟩
    have hSl : S1.length + S2.length = S.length := by rw [← List.length_append, hSS]
    rcases snoc_cases S1 with rfl | ⟨S0, u, rfl⟩
    · skip
      rw [List.nil_append] at hSS
      subst hSS
      refine w_seq ?_
      refine w_seq ?_
      refine dr_start [] [[], [], [0, 1], [2], [3], [3], [3], [3, 5, 6], [3, 7], [3], [3], [3, 10], [3, 9, 11], [3, 12]] ?_
      refine dr_val rfl rfl (fun m' hm' => ds_val rfl (x_move rfl)) ?_
      refine dr_val rfl rfl (fun m' hm' => ds_val rfl (x_move rfl)) ?_
      refine dr_val rfl rfl (fun m' hm' => ds_val rfl ((x_gtr rfl rfl).as (bool_f (by simp only [List.length_nil]; omega)))) ?_
      refine dr_val rfl rfl (fun m' hm' => ds_val rfl (x_move rfl)) ?_
      refine dr_val rfl rfl (fun m' hm' => ds_off rfl) ?_
      refine dr_val rfl rfl (fun m' hm' => ds_off rfl) ?_
      refine dr_val rfl rfl (fun m' hm' => ds_off rfl) ?_
      refine dr_val rfl rfl (fun m' hm' => ds_off rfl) ?_
      refine dr_val rfl rfl (fun m' hm' => ds_off rfl) ?_
      refine dr_val rfl rfl (fun m' hm' => ds_off rfl) ?_
      refine dr_val rfl rfl (fun m' hm' => ds_off rfl) ?_
      refine dr_val rfl rfl (fun m' hm' => ds_off rfl) ?_
      refine dr_val rfl rfl (fun m' hm' => ds_off rfl) ?_
      refine dr_val rfl rfl (fun m' hm' => ds_off rfl) ?_
      refine dr_done (k := 14) Tryz.mixed rfl rfl rfl fun m3 hm_m3 => ?_
      show WL _ _ _ _ _ _ _ _ _
      refine wl_off rfl rfl rfl ?_
      refine wl_off rfl rfl rfl ?_
      refine wv (x_pick_f rfl rfl) ?_
      refine wns ?_
      refine w_false rfl ?_
      refine w_exit ?_
      refine at_then_exit ?_
      refine at_then_exit ?_
      refine at_block_hit ?_
      refine at_block_normal ?_
      refine at_seq ?_
      refine w_region ?_
      refine wmv ?_
      refine wv (x_add rfl rfl (wrap_i64 (by omega) (by omega))) ?_
      refine was ?_
      refine wl_nil ?_
      exact at_again (r - 1) [(0, .slice (some ⟨b, 0, none⟩) n cap), (1, .int .i64 P.length), (2, .int .i64 ((P.length + X.length : Nat))), (3, .func (.func 43) ([] : List Value).toArray ([] : List Value).toArray), (8, .int .i64 ((P.length + (q + 1) : Nat)))] (by omega) ⟨q + 1, [] ++ x :: S2, T', by omega, (show (x :: (S2 ++ T')).Perm X from List.perm_middle.symm.trans hp), by simp only [List.length_append, List.length_cons, List.length_nil]; omega, by omega, Srt.ins (a := []) hs hx2 (by simp), hm1.trans (hm2.trans hm_m3), by simp only [List.append_assoc, List.cons_append, List.nil_append], rfl⟩ (by repeat' (first | exact trivial | exact rfl | exact lk_int rfl (by omega) | apply And.intro))
    · skip
      have hs0 : Srt (S0 ++ [u]) := (Srt.app.1 (show Srt ((S0 ++ [u]) ++ S2) by rw [hSS]; exact hs)).1
      rw [List.length_append, List.length_singleton] at *
      rw [show P ++ (S0 ++ [u]) ++ x :: (S2 ++ T' ++ R) = (P ++ S0) ++ u :: x :: (S2 ++ T' ++ R) by simp only [List.append_assoc, List.cons_append, List.nil_append]]
      refine w_seq ?_
      refine w_seq ?_
      refine dr_start [] [[], [], [0, 1], [2], [3], [3], [3], [3, 5, 6], [3, 7], [3], [3], [3, 10], [3, 9, 11], [3, 12]] ?_
      refine dr_val rfl rfl (fun m' hm' => ds_val rfl (x_move rfl)) ?_
      refine dr_val rfl rfl (fun m' hm' => ds_val rfl (x_move rfl)) ?_
      refine dr_val rfl rfl (fun m' hm' => ds_val rfl ((x_gtr rfl rfl).as (bool_t (by omega)))) ?_
      refine dr_val rfl rfl (fun m' hm' => ds_val rfl (x_move rfl)) ?_
      refine dr_val rfl rfl (fun m' hm' => ds_val rfl (x_move rfl)) ?_
      refine dr_val rfl rfl (fun m' hm' => ds_val rfl (x_move rfl)) ?_
      refine dr_val rfl rfl (fun m' hm' => ds_val rfl (x_move rfl)) ?_
      refine dr_val rfl rfl (fun m' hm' => ds_val rfl (x_index Tryz.underlying27 Tryz.size72 rfl rfl (j := (P.length + (S0.length + 1))) (by omega) (by omega))) ?_
      refine dr_val rfl rfl (fun m' hm' => ds_val rfl (x_loads Tryz.agg72 (by exact Tryz.size72) rfl (rowT (P := P ++ S0 ++ [u]) (x := x) (.head _) (by simp only [List.append_assoc, List.cons_append, List.nil_append]; rfl) (by simp only [List.length_append, List.length_singleton]; omega)))) ?_
      refine dr_val rfl rfl (fun m' hm' => ds_val rfl (x_move rfl)) ?_
      refine dr_val rfl rfl (fun m' hm' => ds_val rfl (x_move rfl)) ?_
      refine dr_val rfl rfl (fun m' hm' => ds_val rfl (x_sub rfl rfl (wrap_i64 (by omega) (by omega)))) ?_
      refine dr_val rfl rfl (fun m' hm' => ds_val rfl (x_index Tryz.underlying27 Tryz.size72 rfl rfl (j := (P.length + S0.length)) (by omega) (by omega))) ?_
      refine dr_val rfl rfl (fun m' hm' => ds_val rfl (x_loads Tryz.agg72 (by exact Tryz.size72) rfl (rowT (P := P ++ S0) (.head _) rfl (by simp only [List.length_append]; omega)))) ?_
      refine dr_done (k := 14) Tryz.mixed rfl rfl rfl fun m3 hm_m3 => ?_
      show WL _ _ _ _ _ _ _ _ _
      refine wl_callvp rfl rfl rfl rfl Tryz.c43 (less_ok (x := x) (y := u)) ?_; rintro v4 m4 hm4 rfl
      refine wv (x_lss rfl rfl) ?_
      refine wv (x_pick_t rfl rfl) ?_
      refine wns ?_
      refine w_if rfl (fun h2 => ?_) (fun h2 => ?_)
      · skip
        refine w_skip ?_
        refine at_seq ?_
        refine w_seq ?_
        refine w_block ?_
        refine dr_start [] [[], [], [], [], [3], [], [], [6], [5, 7], [8], [], [], [10, 11], [12], [0, 1]] ?_
        refine dr_val rfl rfl (fun m' hm' => ds_val rfl (x_move rfl)) ?_
        refine dr_val rfl rfl (fun m' hm' => ds_val rfl (x_move rfl)) ?_
        refine dr_val rfl rfl (fun m' hm' => ds_val rfl (x_move rfl)) ?_
        refine dr_val rfl rfl (fun m' hm' => ds_val rfl (x_move rfl)) ?_
        refine dr_val rfl rfl (fun m' hm' => ds_val rfl (x_sub rfl rfl (wrap_i64 (by omega) (by omega)))) ?_
        refine dr_val rfl rfl (fun m' hm' => ds_val rfl (x_move rfl)) ?_
        refine dr_val rfl rfl (fun m' hm' => ds_val rfl (x_move rfl)) ?_
        refine dr_val rfl rfl (fun m' hm' => ds_val rfl (x_sub rfl rfl (wrap_i64 (by omega) (by omega)))) ?_
        refine dr_val rfl rfl (fun m' hm' => ds_val rfl (x_index Tryz.underlying27 Tryz.size72 rfl rfl (j := (P.length + S0.length)) (by omega) (by omega))) ?_
        refine dr_val rfl rfl (fun m' hm' => ds_val rfl (x_loads Tryz.agg72 (by exact Tryz.size72) rfl (rowT (P := P ++ S0) (.head _) rfl (by simp only [List.length_append]; omega)))) ?_
        refine dr_val rfl rfl (fun m' hm' => ds_val rfl (x_move rfl)) ?_
        refine dr_val rfl rfl (fun m' hm' => ds_val rfl (x_move rfl)) ?_
        refine dr_val rfl rfl (fun m' hm' => ds_val rfl (x_index Tryz.underlying27 Tryz.size72 rfl rfl (j := (P.length + (S0.length + 1))) (by omega) (by omega))) ?_
        refine dr_val rfl rfl (fun m' hm' => ds_val rfl (x_loads Tryz.agg72 (by exact Tryz.size72) rfl (rowT (P := P ++ S0 ++ [u]) (x := x) (.head _) (by simp only [List.append_assoc, List.cons_append, List.nil_append]; rfl) (by simp only [List.length_append, List.length_singleton]; omega)))) ?_
        refine dr_val rfl rfl (fun m' hm' => ds_val rfl (x_index Tryz.underlying27 Tryz.size72 rfl rfl (j := (P.length + (S0.length + 1))) (by omega) (by omega))) ?_
        refine dr_doneF (k := 15) [(2, _), (3, _), (4, _)] Tryz.mixed ⟨rfl, rfl, rfl, trivial⟩ rfl rfl rfl fun m5 hm_m5 => ?_
        show WLF _ _ _ _ _ _ _ _ _ _
        refine wlf_stores (xs' := fl6 ((P ++ S0) ++ u :: u :: (S2 ++ T' ++ R))) (vs := u.cells) rfl rfl rfl rfl rfl ⟨⟨_, _, [], rfl, rfl, rfl, rfl, rfl, rfl, x_move rfl⟩, ⟨_, _, [], rfl, rfl, rfl, rfl, rfl, rfl, x_move rfl⟩, ⟨_, _, [3], rfl, rfl, rfl, rfl, rfl, rfl, x_sub rfl rfl (wrap_i64 (by omega) (by omega))⟩, trivial⟩ rfl Tryz.size72 rfl rfl (TV.one _) (by rw [swap_eq]; exact rowT_fits (by simp only [List.length_append, List.length_singleton]; omega)) (by rw [swap_eq, swap_eq u u]; exact fl6_set (by simp only [List.length_append, List.length_singleton]; omega)) ?_
        refine wlf_done rfl rfl rfl ⟨⟨_, _, [], rfl, rfl, rfl, rfl, rfl, rfl, x_move rfl⟩, ⟨_, _, [], rfl, rfl, rfl, rfl, rfl, rfl, x_move rfl⟩, ⟨_, _, [3], rfl, rfl, rfl, rfl, rfl, rfl, x_sub rfl rfl (wrap_i64 (by omega) (by omega))⟩, trivial⟩ ?_
        show WL _ _ _ _ _ _ _ _ _
        refine wv (x_index Tryz.underlying27 Tryz.size72 rfl rfl (j := (P.length + S0.length)) (by omega) (by omega)) ?_
        refine wl_storesAs (xs' := fl6 ((P ++ S0) ++ x :: u :: (S2 ++ T' ++ R))) (vs := x.cells) rfl (by exact Tryz.size72) rfl rfl (TV.one _) (rowT_fits (by simp only [List.length_append]; omega)) (fl6_set (by simp only [List.length_append]; omega)) ?_
        refine wl_nil ?_
        refine at_block_normal ?_
        refine at_seq ?_
        refine w_region ?_
        refine wmv ?_
        refine wv (x_sub rfl rfl (wrap_i64 (by omega) (by omega))) ?_
        refine was ?_
        refine wl_nil ?_
        exact at_again S0.length [(0, .slice (some ⟨b, 0, none⟩) n cap), (1, .int .i64 P.length), (2, .int .i64 ((P.length + X.length : Nat))), (3, .func (.func 43) ([] : List Value).toArray ([] : List Value).toArray), (8, .int .i64 ((P.length + q : Nat))), (9, .int .i64 ((P.length + S0.length : Nat)))] (by omega) ⟨S0, u :: S2, by rw [← hSS]; simp, rfl, fun y hy => (List.mem_cons.1 hy).elim (fun e => e ▸ TV.le_of_lt (TV.lt_iff.1 h2)) (hx2 y), hm2.trans (hm_m3.trans (hm4.trans hm_m5)), by simp only [List.append_assoc, List.cons_append, List.nil_append], rfl⟩ (by repeat' (first | exact trivial | exact rfl | exact lk_int rfl (by omega) | apply And.intro))
      · skip
        refine w_exit ?_
        refine at_then_exit ?_
        refine at_then_exit ?_
        refine at_block_hit ?_
        refine at_block_normal ?_
        refine at_seq ?_
        refine w_region ?_
        refine wmv ?_
        refine wv (x_add rfl rfl (wrap_i64 (by omega) (by omega))) ?_
        refine was ?_
        refine wl_nil ?_
        exact at_again (r - 1) [(0, .slice (some ⟨b, 0, none⟩) n cap), (1, .int .i64 P.length), (2, .int .i64 ((P.length + X.length : Nat))), (3, .func (.func 43) ([] : List Value).toArray ([] : List Value).toArray), (8, .int .i64 ((P.length + (q + 1) : Nat)))] (by omega) ⟨q + 1, (S0 ++ [u]) ++ x :: S2, T', by omega, by rw [← hSS] at hp; simp only [List.append_assoc, List.cons_append] at hp ⊢; exact (List.Perm.append_left S0 (List.Perm.append_left [u] List.perm_middle.symm)).trans hp, by simp only [List.length_append, List.length_cons, List.length_nil]; omega, by omega, Srt.ins (by rw [hSS]; exact hs) hx2 (Srt.last hs0 (fun h => h2 (TV.lt_iff.2 h))), hm1.trans (hm2.trans (hm_m3.trans hm4)), by simp only [List.append_assoc, List.cons_append, List.nil_append], rfl⟩ (by repeat' (first | exact trivial | exact rfl | exact lk_int rfl (by omega) | apply And.intro))
  · skip
    refine w_exit ?_
    refine at_then_exit ?_
    refine at_then_exit ?_
    refine at_block_hit ?_
    refine at_end_normal (res0 rfl) ?_
    obtain rfl : T = [] := List.length_eq_zero_iff.1 (by omega)
    exact ⟨S, by simpa using hp, hs, by simp⟩
end Go.Cy


/- slices.symMergeCmpFunc. -/
namespace Go.Cy
open Go Go.Proofs
set_option maxRecDepth 20000

theorem half64 {x : Int} (n : Nat) (h : x = n) : x.fdiv (2 ^ (min ((1 : Int).toNat) (IntKind.bits .u64))) = ((n / 2 : Nat) : Int) := by
  subst h; exact shr_nat n 1 64 (by omega)
theorem split_at {α : Type} (l : List α) (k : Nat) (h : k < l.length) : ∃ a x b, l = a ++ x :: b ∧ a.length = k := by
  obtain ⟨a, b, rfl, ha⟩ := cut_at l k (by omega)
  rcases b with _ | ⟨x, b⟩
  · simp at h; omega
  · exact ⟨a, x, b, rfl, ha⟩
theorem bs_up {Y1 Y2 : List TV} {x y : TV} {k : Nat} (hs : Srt (Y1 ++ y :: Y2)) (h : y.le x) (hk : k = Y1.length + 1) : ∀ z ∈ (Y1 ++ y :: Y2).take k, z.le x := by
  have e : (Y1 ++ y :: Y2).take k = Y1 ++ [y] := by rw [show Y1 ++ y :: Y2 = (Y1 ++ [y]) ++ Y2 by simp]; exact List.take_left' (by simp; omega)
  rw [e]
  exact Srt.last (Srt.app.1 (show Srt ((Y1 ++ [y]) ++ Y2) by simpa using hs)).1 h
theorem bs_dn {Y1 Y2 : List TV} {x y : TV} {k : Nat} (hs : Srt (Y1 ++ y :: Y2)) (h : x.le y) (hk : k = Y1.length) : ∀ z ∈ (Y1 ++ y :: Y2).drop k, x.le z := by
  rw [List.drop_left' hk.symm]
  intro z hz
  rcases List.mem_cons.1 hz with rfl | hz
  · exact h
  · exact TV.le_trans h ((Srt.cons.1 (Srt.app.1 hs).2.1).1 z hz)

theorem symMerge1_ok {m : Mem} {b n cap i j k : Nat} {P X Y R : List TV} {x : TV} (hX : X = [x]) (hn : n ≤ (P ++ X ++ Y ++ R).length) (hb : (P ++ X ++ Y).length ≤ n) (hl : n ≤ 4294967296) (hsy : Srt Y) (hi : i = P.length) (hj : j = P.length + X.length) (hk : k = P.length + X.length + Y.length) :
    Does Tryz.prog 154 #[.slice (some ⟨b, 0, none⟩) n cap, .int .i64 i, .int .i64 j, .int .i64 k, .func (.func 43) ([] : List Value).toArray ([] : List Value).toArray] m [(b, cl 72 (fl6 (P ++ X ++ Y ++ R)))] fun _ m' H' => ∃ Z, Z.Perm (X ++ Y) ∧ Srt Z ∧ H' = [(b, cl 72 (fl6 (P ++ Z ++ R)))] := by
  subst hi hj
  have hX1 : X.length = 1 := by rw [hX]; rfl
  simp only [List.length_append] at hn hb
  refine enter Tryz.func154 rfl rfl ?_
  intro K hm0 hks
  refine w_seq ?_
  refine wsr ?_
  refine wmv ?_
  refine wmv ?_
  refine wv (x_sub rfl rfl (asN X.length (by omega) (by omega))) ?_
  refine wv (x_eql rfl rfl) ?_
  refine wns ?_
  refine w_if rfl (fun h1 => ?_) (fun h1 => ?_)
  · skip
    refine wsr ?_
    refine wmv ?_
    refine was ?_
    refine wnr ?_
    refine wmv ?_
    refine was ?_
    refine wns ?_
    refine w_seq ?_
    refine w_block ?_
    refine w_loop (fun r m' H' env' => ∃ p q, p ≤ q ∧ q ≤ Y.length ∧ r = q - p ∧ (∀ z ∈ Y.take p, z.le x) ∧ (∀ z ∈ Y.drop q, x.le z) ∧ m.le m' ∧ H' = [(b, cl 72 (fl6 (P ++ X ++ Y ++ R)))] ∧ env' = [(0, .slice (some ⟨b, 0, none⟩) n cap), (1, .int .i64 P.length), (2, .int .i64 ((P.length + X.length : Nat))), (3, .int .i64 k), (4, .func (.func 43) ([] : List Value).toArray ([] : List Value).toArray), (10, .int .i64 ((P.length + 1 + p : Nat))), (11, .int .i64 ((P.length + 1 + q : Nat)))]) Y.length [(0, .slice (some ⟨b, 0, none⟩) n cap), (1, .int .i64 P.length), (2, .int .i64 ((P.length + X.length : Nat))), (3, .int .i64 k), (4, .func (.func 43) ([] : List Value).toArray ([] : List Value).toArray), (10, .int .i64 ((P.length + 1 + 0 : Nat))), (11, .int .i64 ((P.length + 1 + Y.length : Nat)))] ⟨0, Y.length, by omega, by omega, rfl, by simp, by simp, Mem.le.refl _, rfl, by rw [hk, hX1]⟩ (by repeat' (first | exact trivial | exact rfl | exact lk_int rfl (by omega) | apply And.intro)) ?_
    rintro r m1 H' env' ⟨p, q, hpq, hq, hr, hlo, hhi, hm1, rfl, rfl⟩
    refine w_seq ?_
    refine wsr ?_
    refine wmv ?_
    refine wmv ?_
    refine wv (x_lss rfl rfl) ?_
    refine wns ?_
    refine w_if rfl (fun h2 => ?_) (fun h2 => ?_)
    · skip
      obtain ⟨Y1, y, Y2, rfl, hy⟩ := split_at Y ((P.length + 1 + p + (P.length + 1 + q)) / 2 - (P.length + 1)) (by omega)
      rw [List.length_append, List.length_cons] at *
      refine w_skip ?_
      refine at_seq ?_
      refine w_block ?_
      refine wsr ?_
      refine wmv ?_
      refine wmv ?_
      refine wv (x_add rfl rfl (wrap_i64 (by omega) (by omega))) ?_
      refine wv (x_conv Tryz.underlying3 Tryz.underlying179 rfl (wrap_u64_in (by omega) (by omega))) ?_
      refine wv (x_shr rfl rfl (by omega) (half64 (P.length + 1 + p + (P.length + 1 + q)) (by omega))) ?_
      refine wv (x_conv Tryz.underlying179 Tryz.underlying3 rfl (asN (P.length + 1 + Y1.length) (by omega) (by omega))) ?_
      refine was ?_
      refine wns ?_
      refine w_seq ?_
      refine dr_start [] [[], [], [], [1, 2], [3], [], [], [5, 6], [7]] ?_
      refine dr_val rfl rfl (fun m' hm' => ds_val rfl (x_move rfl)) ?_
      refine dr_val rfl rfl (fun m' hm' => ds_val rfl (x_move rfl)) ?_
      refine dr_val rfl rfl (fun m' hm' => ds_val rfl (x_move rfl)) ?_
      refine dr_val rfl rfl (fun m' hm' => ds_val rfl (x_index Tryz.underlying27 Tryz.size72 rfl rfl (j := (P.length + 1 + Y1.length)) (by omega) (by omega))) ?_
      refine dr_val rfl rfl (fun m' hm' => ds_val rfl (x_loads Tryz.agg72 (by exact Tryz.size72) rfl (rowT (P := P ++ X ++ Y1) (x := y) (.head _) (by simp only [List.append_assoc, List.cons_append]; rfl) (by simp only [List.length_append]; omega)))) ?_
      refine dr_val rfl rfl (fun m' hm' => ds_val rfl (x_move rfl)) ?_
      refine dr_val rfl rfl (fun m' hm' => ds_val rfl (x_move rfl)) ?_
      refine dr_val rfl rfl (fun m' hm' => ds_val rfl (x_index Tryz.underlying27 Tryz.size72 rfl rfl (j := P.length) (by omega) (by omega))) ?_
      refine dr_val rfl rfl (fun m' hm' => ds_val rfl (x_loads Tryz.agg72 (by exact Tryz.size72) rfl (rowT (P := P) (x := x) (.head _) (by rw [hX]; simp only [List.append_assoc, List.cons_append]; rfl) (by omega)))) ?_
      refine dr_done (k := 9) Tryz.mixed rfl rfl rfl fun m2 hm_m2 => ?_
      show WL _ _ _ _ _ _ _ _ _
      refine wl_callvp rfl rfl rfl rfl Tryz.c43 (less_ok (x := y) (y := x)) ?_; rintro v3 m3 hm3 rfl
      refine wv (x_lss rfl rfl) ?_
      refine wns ?_
      refine w_if rfl (fun h3 => ?_) (fun h3 => ?_)
      · skip
        refine w_region ?_
        refine wmv ?_
        refine wv (x_add rfl rfl (asN (P.length + 1 + (Y1.length + 1)) (by omega) (by omega))) ?_
        refine was ?_
        refine wl_nil ?_
        refine at_block_normal ?_
        exact at_again (q - (Y1.length + 1)) [(0, .slice (some ⟨b, 0, none⟩) n cap), (1, .int .i64 P.length), (2, .int .i64 ((P.length + X.length : Nat))), (3, .int .i64 k), (4, .func (.func 43) ([] : List Value).toArray ([] : List Value).toArray), (10, .int .i64 ((P.length + 1 + (Y1.length + 1) : Nat))), (11, .int .i64 ((P.length + 1 + q : Nat)))] (by omega) ⟨Y1.length + 1, q, by omega, by omega, rfl, bs_up hsy (TV.le_of_lt (TV.lt_iff.1 h3)) rfl, hhi, hm1.trans (hm_m2.trans hm3), rfl, rfl⟩ (by repeat' (first | exact trivial | exact rfl | exact lk_int rfl (by omega) | apply And.intro))
      · skip
        refine w_region ?_
        refine wmv ?_
        refine was ?_
        refine wl_nil ?_
        refine at_block_normal ?_
        exact at_again (Y1.length - p) [(0, .slice (some ⟨b, 0, none⟩) n cap), (1, .int .i64 P.length), (2, .int .i64 ((P.length + X.length : Nat))), (3, .int .i64 k), (4, .func (.func 43) ([] : List Value).toArray ([] : List Value).toArray), (10, .int .i64 ((P.length + 1 + p : Nat))), (11, .int .i64 ((P.length + 1 + Y1.length : Nat)))] (by omega) ⟨p, Y1.length, by omega, by omega, rfl, hlo, bs_dn hsy (TV.le_of_nlt fun h => h3 (TV.lt_iff.2 h)) rfl, hm1.trans (hm_m2.trans hm3), rfl, rfl⟩ (by repeat' (first | exact trivial | exact rfl | exact lk_int rfl (by omega) | apply And.intro))
    · skip
      obtain rfl : p = q := by omega
      obtain ⟨Y1, Y2, rfl, hy⟩ := cut_at Y p (by omega)
      subst hy
      rw [List.take_left' rfl] at hlo
      rw [List.drop_left' rfl] at hhi
      rw [List.length_append] at *
      refine w_exit ?_
      refine at_then_exit ?_
      refine at_then_exit ?_
      refine at_block_hit ?_
      refine at_seq ?_
      refine w_seq ?_
      refine wsr ?_
      refine wmv ?_
      refine was ?_
      refine wns ?_
      refine w_block ?_
      refine w_loop (fun r m' H' env' => ∃ s, s ≤ Y1.length ∧ r = Y1.length - s ∧ m1.le m' ∧ H' = [(b, cl 72 (fl6 (P ++ Y1.take s ++ x :: (Y1.drop s ++ Y2 ++ R))))] ∧ env' = [(0, .slice (some ⟨b, 0, none⟩) n cap), (1, .int .i64 P.length), (2, .int .i64 ((P.length + X.length : Nat))), (3, .int .i64 k), (4, .func (.func 43) ([] : List Value).toArray ([] : List Value).toArray), (10, .int .i64 ((P.length + 1 + Y1.length : Nat))), (13, .int .i64 ((P.length + s : Nat)))]) Y1.length [(0, .slice (some ⟨b, 0, none⟩) n cap), (1, .int .i64 P.length), (2, .int .i64 ((P.length + X.length : Nat))), (3, .int .i64 k), (4, .func (.func 43) ([] : List Value).toArray ([] : List Value).toArray), (10, .int .i64 ((P.length + 1 + Y1.length : Nat))), (13, .int .i64 ((P.length + 0 : Nat)))] ⟨0, by omega, rfl, Mem.le.refl _, by rw [hX]; simp, rfl⟩ (by repeat' (first | exact trivial | exact rfl | exact lk_int rfl (by omega) | apply And.intro)) ?_
      rintro r2 m2 H' env' ⟨s, hs, hr2, hm2, rfl, rfl⟩
      refine w_seq ?_
      refine wsr ?_
      refine wmv ?_
      refine wmv ?_
      refine wv (x_sub rfl rfl (asN (P.length + Y1.length) (by omega) (by omega))) ?_
      refine wv (x_lss rfl rfl) ?_
      refine wns ?_
      refine w_if rfl (fun h3 => ?_) (fun h3 => ?_)
      · skip
        obtain ⟨A, y, B, rfl, hA⟩ := split_at Y1 s (by omega)
        subst hA
        rw [List.length_append, List.length_cons] at *
        rw [List.take_left' rfl, List.drop_left' rfl, show P ++ A ++ x :: (y :: B ++ Y2 ++ R) = (P ++ A) ++ x :: y :: (B ++ Y2 ++ R) by simp only [List.append_assoc, List.cons_append]]
        refine w_skip ?_
        refine at_seq ?_
        refine w_seq ?_
        refine w_block ?_
        refine dr_start [] [[], [], [], [], [3], [], [], [6], [5, 7], [8], [], [], [10, 11], [12], [0, 1]] ?_
        refine dr_val rfl rfl (fun m' hm' => ds_val rfl (x_move rfl)) ?_
        refine dr_val rfl rfl (fun m' hm' => ds_val rfl (x_move rfl)) ?_
        refine dr_val rfl rfl (fun m' hm' => ds_val rfl (x_move rfl)) ?_
        refine dr_val rfl rfl (fun m' hm' => ds_val rfl (x_move rfl)) ?_
        refine dr_val rfl rfl (fun m' hm' => ds_val rfl (x_add rfl rfl (wrap_i64 (by omega) (by omega)))) ?_
        refine dr_val rfl rfl (fun m' hm' => ds_val rfl (x_move rfl)) ?_
        refine dr_val rfl rfl (fun m' hm' => ds_val rfl (x_move rfl)) ?_
        refine dr_val rfl rfl (fun m' hm' => ds_val rfl (x_add rfl rfl (wrap_i64 (by omega) (by omega)))) ?_
        refine dr_val rfl rfl (fun m' hm' => ds_val rfl (x_index Tryz.underlying27 Tryz.size72 rfl rfl (j := (P.length + (A.length + 1))) (by omega) (by omega))) ?_
        refine dr_val rfl rfl (fun m' hm' => ds_val rfl (x_loads Tryz.agg72 (by exact Tryz.size72) rfl (rowT (P := P ++ A ++ [x]) (x := y) (.head _) (by simp only [List.append_assoc, List.cons_append, List.nil_append]; rfl) (by simp only [List.length_append, List.length_singleton]; omega)))) ?_
        refine dr_val rfl rfl (fun m' hm' => ds_val rfl (x_move rfl)) ?_
        refine dr_val rfl rfl (fun m' hm' => ds_val rfl (x_move rfl)) ?_
        refine dr_val rfl rfl (fun m' hm' => ds_val rfl (x_index Tryz.underlying27 Tryz.size72 rfl rfl (j := (P.length + A.length)) (by omega) (by omega))) ?_
        refine dr_val rfl rfl (fun m' hm' => ds_val rfl (x_loads Tryz.agg72 (by exact Tryz.size72) rfl (rowT (P := P ++ A) (.head _) rfl (by simp only [List.length_append]; omega)))) ?_
        refine dr_val rfl rfl (fun m' hm' => ds_val rfl (x_index Tryz.underlying27 Tryz.size72 rfl rfl (j := (P.length + A.length)) (by omega) (by omega))) ?_
        refine dr_doneF (k := 15) [(2, _), (3, _), (4, _)] Tryz.mixed ⟨rfl, rfl, rfl, trivial⟩ rfl rfl rfl fun m3 hm_m3 => ?_
        show WLF _ _ _ _ _ _ _ _ _ _
        refine wlf_stores (xs' := fl6 ((P ++ A) ++ y :: y :: (B ++ Y2 ++ R))) (vs := y.cells) rfl rfl rfl rfl rfl ⟨⟨_, _, [], rfl, rfl, rfl, rfl, rfl, rfl, x_move rfl⟩, ⟨_, _, [], rfl, rfl, rfl, rfl, rfl, rfl, x_move rfl⟩, ⟨_, _, [3], rfl, rfl, rfl, rfl, rfl, rfl, x_add rfl rfl (wrap_i64 (by omega) (by omega))⟩, trivial⟩ rfl Tryz.size72 rfl rfl (TV.one _) (rowT_fits (by simp only [List.length_append]; omega)) (fl6_set (by simp only [List.length_append]; omega)) ?_
        refine wlf_done rfl rfl rfl ⟨⟨_, _, [], rfl, rfl, rfl, rfl, rfl, rfl, x_move rfl⟩, ⟨_, _, [], rfl, rfl, rfl, rfl, rfl, rfl, x_move rfl⟩, ⟨_, _, [3], rfl, rfl, rfl, rfl, rfl, rfl, x_add rfl rfl (wrap_i64 (by omega) (by omega))⟩, trivial⟩ ?_
        show WL _ _ _ _ _ _ _ _ _
        refine wv (x_index Tryz.underlying27 Tryz.size72 rfl rfl (j := (P.length + (A.length + 1))) (by omega) (by omega)) ?_
        refine wl_storesAs (xs' := fl6 ((P ++ A) ++ y :: x :: (B ++ Y2 ++ R))) (vs := x.cells) rfl (by exact Tryz.size72) rfl rfl (TV.one _) (by rw [swap_eq]; exact rowT_fits (by simp only [List.length_append, List.length_singleton]; omega)) (by rw [swap_eq, swap_eq y x]; exact fl6_set (by simp only [List.length_append, List.length_singleton]; omega)) ?_
        refine wl_nil ?_
        refine at_block_normal ?_
        refine at_seq ?_
        refine w_region ?_
        refine wmv ?_
        refine wv (x_add rfl rfl (asN (P.length + (A.length + 1)) (by omega) (by omega))) ?_
        refine was ?_
        refine wl_nil ?_
        exact at_again B.length [(0, .slice (some ⟨b, 0, none⟩) n cap), (1, .int .i64 P.length), (2, .int .i64 ((P.length + X.length : Nat))), (3, .int .i64 k), (4, .func (.func 43) ([] : List Value).toArray ([] : List Value).toArray), (10, .int .i64 ((P.length + 1 + (A.length + (B.length + 1)) : Nat))), (13, .int .i64 ((P.length + (A.length + 1) : Nat)))] (by omega) ⟨A.length + 1, by omega, by omega, hm2.trans hm_m3, by rw [show A ++ y :: B = (A ++ [y]) ++ B by simp, List.take_left' (by simp), List.drop_left' (by simp)]; simp only [List.append_assoc, List.cons_append, List.nil_append], rfl⟩ (by repeat' (first | exact trivial | exact rfl | exact lk_int rfl (by omega) | apply And.intro))
      · skip
        obtain rfl : s = Y1.length := by omega
        refine w_exit ?_
        refine at_then_exit ?_
        refine at_then_exit ?_
        refine at_block_hit ?_
        refine at_seq ?_
        refine w_ret ?_
        refine at_then_ret ?_
        refine at_end (res0 rfl) ?_
        rw [List.take_length, List.drop_length]
        exact ⟨Y1 ++ x :: Y2, by rw [hX]; exact List.perm_middle, Srt.ins hsy hhi hlo, by simp⟩
  · skip
    exact absurd (by omega) h1

theorem symMerge2_ok {m : Mem} {b n cap i j k : Nat} {P X Y R : List TV} {y : TV} (hX : X.length ≠ 1) (hY : Y = [y]) (hn : n ≤ (P ++ X ++ Y ++ R).length) (hb : (P ++ X ++ Y).length ≤ n) (hl : n ≤ 4294967296) (hsx : Srt X) (hi : i = P.length) (hj : j = P.length + X.length) (hk : k = P.length + X.length + Y.length) :
    Does Tryz.prog 154 #[.slice (some ⟨b, 0, none⟩) n cap, .int .i64 i, .int .i64 j, .int .i64 k, .func (.func 43) ([] : List Value).toArray ([] : List Value).toArray] m [(b, cl 72 (fl6 (P ++ X ++ Y ++ R)))] fun _ m' H' => ∃ Z, Z.Perm (X ++ Y) ∧ Srt Z ∧ H' = [(b, cl 72 (fl6 (P ++ Z ++ R)))] := by
  subst hi
  have hY1 : Y.length = 1 := by rw [hY]; rfl
  simp only [List.length_append] at hn hb
  obtain ⟨N, hN⟩ : ∃ N, N = X.length := ⟨_, rfl⟩
  rw [← hN] at hX
  refine enter Tryz.func154 rfl rfl ?_
  intro K hm0 hks
  refine w_seq ?_
  refine wsr ?_
  refine wmv ?_
  refine wmv ?_
  refine wv (x_sub rfl rfl (asN N (by omega) (by omega))) ?_
  refine wv (x_eql rfl rfl) ?_
  refine wns ?_
  refine w_if rfl (fun h1 => ?_) (fun h1 => ?_)
  · skip
    exact absurd h1 (by omega)
  · skip
    refine w_skip ?_
    refine at_seq ?_
    refine w_seq ?_
    refine wsr ?_
    refine wmv ?_
    refine wmv ?_
    refine wv (x_sub rfl rfl (asN 1 (by omega) (by omega))) ?_
    refine wv (x_eql rfl rfl) ?_
    refine wns ?_
    refine w_if rfl (fun h4 => ?_) (fun h4 => ?_)
    · skip
      refine wsr ?_
      refine wmv ?_
      refine was ?_
      refine wnr ?_
      refine wmv ?_
      refine was ?_
      refine wns ?_
      refine w_seq ?_
      refine w_block ?_
      refine w_loop (fun r m' H' env' => ∃ p q, p ≤ q ∧ q ≤ X.length ∧ r = q - p ∧ (∀ z ∈ X.take p, z.le y) ∧ (∀ z ∈ X.drop q, y.le z) ∧ m.le m' ∧ H' = [(b, cl 72 (fl6 (P ++ X ++ Y ++ R)))] ∧ env' = [(0, .slice (some ⟨b, 0, none⟩) n cap), (1, .int .i64 P.length), (2, .int .i64 j), (3, .int .i64 k), (4, .func (.func 43) ([] : List Value).toArray ([] : List Value).toArray), (14, .int .i64 ((P.length + p : Nat))), (15, .int .i64 ((P.length + q : Nat)))]) X.length [(0, .slice (some ⟨b, 0, none⟩) n cap), (1, .int .i64 P.length), (2, .int .i64 j), (3, .int .i64 k), (4, .func (.func 43) ([] : List Value).toArray ([] : List Value).toArray), (14, .int .i64 ((P.length + 0 : Nat))), (15, .int .i64 ((P.length + N : Nat)))] ⟨0, X.length, by omega, by omega, rfl, by simp, by simp, Mem.le.refl _, rfl, by rw [hj, hN]⟩ (by repeat' (first | exact trivial | exact rfl | exact lk_int rfl (by omega) | apply And.intro)) ?_
      rintro r m1 H' env' ⟨p, q, hpq, hq, hr, hlo, hhi, hm1, rfl, rfl⟩
      refine w_seq ?_
      refine wsr ?_
      refine wmv ?_
      refine wmv ?_
      refine wv (x_lss rfl rfl) ?_
      refine wns ?_
      refine w_if rfl (fun h2 => ?_) (fun h2 => ?_)
      · skip
        obtain ⟨X1, x, X2, rfl, hx⟩ := split_at X ((P.length + p + (P.length + q)) / 2 - P.length) (by omega)
        rw [List.length_append, List.length_cons] at *
        refine w_skip ?_
        refine at_seq ?_
        refine w_block ?_
        refine wsr ?_
        refine wmv ?_
        refine wmv ?_
        refine wv (x_add rfl rfl (wrap_i64 (by omega) (by omega))) ?_
        refine wv (x_conv Tryz.underlying3 Tryz.underlying179 rfl (wrap_u64_in (by omega) (by omega))) ?_
        refine wv (x_shr rfl rfl (by omega) (half64 (P.length + p + (P.length + q)) (by omega))) ?_
        refine wv (x_conv Tryz.underlying179 Tryz.underlying3 rfl (asN (P.length + X1.length) (by omega) (by omega))) ?_
        refine was ?_
        refine wns ?_
        refine w_seq ?_
        refine dr_start [] [[], [], [], [1, 2], [3], [], [], [5, 6], [7]] ?_
        refine dr_val rfl rfl (fun m' hm' => ds_val rfl (x_move rfl)) ?_
        refine dr_val rfl rfl (fun m' hm' => ds_val rfl (x_move rfl)) ?_
        refine dr_val rfl rfl (fun m' hm' => ds_val rfl (x_move rfl)) ?_
        refine dr_val rfl rfl (fun m' hm' => ds_val rfl (x_index Tryz.underlying27 Tryz.size72 rfl rfl (j := (P.length + N)) (by omega) (by omega))) ?_
        refine dr_val rfl rfl (fun m' hm' => ds_val rfl (x_loads Tryz.agg72 (by exact Tryz.size72) rfl (rowT (P := P ++ (X1 ++ x :: X2)) (x := y) (.head _) (by rw [hY]; simp only [List.append_assoc, List.cons_append]; rfl) (by simp only [List.length_append, List.length_cons]; omega)))) ?_
        refine dr_val rfl rfl (fun m' hm' => ds_val rfl (x_move rfl)) ?_
        refine dr_val rfl rfl (fun m' hm' => ds_val rfl (x_move rfl)) ?_
        refine dr_val rfl rfl (fun m' hm' => ds_val rfl (x_index Tryz.underlying27 Tryz.size72 rfl rfl (j := (P.length + X1.length)) (by omega) (by omega))) ?_
        refine dr_val rfl rfl (fun m' hm' => ds_val rfl (x_loads Tryz.agg72 (by exact Tryz.size72) rfl (rowT (P := P ++ X1) (x := x) (.head _) (by simp only [List.append_assoc, List.cons_append]; rfl) (by simp only [List.length_append]; omega)))) ?_
        refine dr_done (k := 9) Tryz.mixed rfl rfl rfl fun m2 hm_m2 => ?_
        show WL _ _ _ _ _ _ _ _ _
        refine wl_callvp rfl rfl rfl rfl Tryz.c43 (less_ok (x := y) (y := x)) ?_; rintro v3 m3 hm3 rfl
        refine wv (x_lss rfl rfl) ?_
        refine wv (x_not rfl rfl) ?_
        refine wns ?_
        refine w_cond rfl (fun h3 => ?_) (fun h3 => ?_)
        · skip
          refine w_region ?_
          refine wmv ?_
          refine wv (x_add rfl rfl (asN (P.length + (X1.length + 1)) (by omega) (by omega))) ?_
          refine was ?_
          refine wl_nil ?_
          refine at_block_normal ?_
          exact at_again (q - (X1.length + 1)) [(0, .slice (some ⟨b, 0, none⟩) n cap), (1, .int .i64 P.length), (2, .int .i64 j), (3, .int .i64 k), (4, .func (.func 43) ([] : List Value).toArray ([] : List Value).toArray), (14, .int .i64 ((P.length + (X1.length + 1) : Nat))), (15, .int .i64 ((P.length + q : Nat)))] (by omega) ⟨X1.length + 1, q, by omega, by omega, rfl, bs_up hsx (TV.le_of_nlt fun h => absurd (TV.lt_iff.2 h) (by simpa using h3)) rfl, hhi, hm1.trans (hm_m2.trans hm3), rfl, rfl⟩ (by repeat' (first | exact trivial | exact rfl | exact lk_int rfl (by omega) | apply And.intro))
        · skip
          refine w_region ?_
          refine wmv ?_
          refine was ?_
          refine wl_nil ?_
          refine at_block_normal ?_
          exact at_again (X1.length - p) [(0, .slice (some ⟨b, 0, none⟩) n cap), (1, .int .i64 P.length), (2, .int .i64 j), (3, .int .i64 k), (4, .func (.func 43) ([] : List Value).toArray ([] : List Value).toArray), (14, .int .i64 ((P.length + p : Nat))), (15, .int .i64 ((P.length + X1.length : Nat)))] (by omega) ⟨p, X1.length, by omega, by omega, rfl, hlo, bs_dn hsx (TV.le_of_lt (TV.lt_iff.1 (by simpa using h3))) rfl, hm1.trans (hm_m2.trans hm3), rfl, rfl⟩ (by repeat' (first | exact trivial | exact rfl | exact lk_int rfl (by omega) | apply And.intro))
      · skip
        obtain rfl : p = q := by omega
        obtain ⟨X1, X2, rfl, hx⟩ := cut_at X p (by omega)
        subst hx
        rw [List.take_left' rfl] at hlo
        rw [List.drop_left' rfl] at hhi
        rw [List.length_append] at *
        refine w_exit ?_
        refine at_then_exit ?_
        refine at_then_exit ?_
        refine at_block_hit ?_
        refine at_seq ?_
        refine w_seq ?_
        refine wsr ?_
        refine wmv ?_
        refine was ?_
        refine wns ?_
        refine w_block ?_
        refine w_loop (fun r m' H' env' => ∃ A B, A ++ B = X2 ∧ r = A.length ∧ m1.le m' ∧ H' = [(b, cl 72 (fl6 (P ++ X1 ++ A ++ y :: (B ++ R))))] ∧ env' = [(0, .slice (some ⟨b, 0, none⟩) n cap), (1, .int .i64 P.length), (2, .int .i64 j), (3, .int .i64 k), (4, .func (.func 43) ([] : List Value).toArray ([] : List Value).toArray), (14, .int .i64 ((P.length + X1.length : Nat))), (17, .int .i64 ((P.length + (X1.length + A.length) : Nat)))]) X2.length [(0, .slice (some ⟨b, 0, none⟩) n cap), (1, .int .i64 P.length), (2, .int .i64 j), (3, .int .i64 k), (4, .func (.func 43) ([] : List Value).toArray ([] : List Value).toArray), (14, .int .i64 ((P.length + X1.length : Nat))), (17, .int .i64 ((P.length + N : Nat)))] ⟨X2, [], by simp, rfl, Mem.le.refl _, by rw [hY]; simp, by rw [hj, hN]⟩ (by repeat' (first | exact trivial | exact rfl | exact lk_int rfl (by omega) | apply And.intro)) ?_
        rintro r2 m2 H' env' ⟨A, B, hAB, rfl, hm2, rfl, rfl⟩
        have hABl : A.length + B.length = X2.length := by rw [← List.length_append, hAB]
        refine w_seq ?_
        refine wsr ?_
        refine wmv ?_
        refine wmv ?_
        refine wv (x_gtr rfl rfl) ?_
        refine wns ?_
        refine w_if rfl (fun h3 => ?_) (fun h3 => ?_)
        · skip
          rcases snoc_cases A with rfl | ⟨A', x, rfl⟩
          · exact absurd h3 (by simp only [List.length_nil]; omega)
          rw [List.length_append, List.length_singleton] at *
          rw [show P ++ X1 ++ (A' ++ [x]) ++ y :: (B ++ R) = (P ++ X1 ++ A') ++ x :: y :: (B ++ R) by simp only [List.append_assoc, List.cons_append, List.nil_append]]
          refine w_skip ?_
          refine at_seq ?_
          refine w_seq ?_
          refine w_block ?_
          refine dr_start [] [[], [], [], [], [3], [], [], [6], [5, 7], [8], [], [], [10, 11], [12], [0, 1]] ?_
          refine dr_val rfl rfl (fun m' hm' => ds_val rfl (x_move rfl)) ?_
          refine dr_val rfl rfl (fun m' hm' => ds_val rfl (x_move rfl)) ?_
          refine dr_val rfl rfl (fun m' hm' => ds_val rfl (x_move rfl)) ?_
          refine dr_val rfl rfl (fun m' hm' => ds_val rfl (x_move rfl)) ?_
          refine dr_val rfl rfl (fun m' hm' => ds_val rfl (x_sub rfl rfl (wrap_i64 (by omega) (by omega)))) ?_
          refine dr_val rfl rfl (fun m' hm' => ds_val rfl (x_move rfl)) ?_
          refine dr_val rfl rfl (fun m' hm' => ds_val rfl (x_move rfl)) ?_
          refine dr_val rfl rfl (fun m' hm' => ds_val rfl (x_sub rfl rfl (wrap_i64 (by omega) (by omega)))) ?_
          refine dr_val rfl rfl (fun m' hm' => ds_val rfl (x_index Tryz.underlying27 Tryz.size72 rfl rfl (j := (P.length + (X1.length + A'.length))) (by omega) (by omega))) ?_
          refine dr_val rfl rfl (fun m' hm' => ds_val rfl (x_loads Tryz.agg72 (by exact Tryz.size72) rfl (rowT (P := P ++ X1 ++ A') (.head _) rfl (by simp only [List.length_append]; omega)))) ?_
          refine dr_val rfl rfl (fun m' hm' => ds_val rfl (x_move rfl)) ?_
          refine dr_val rfl rfl (fun m' hm' => ds_val rfl (x_move rfl)) ?_
          refine dr_val rfl rfl (fun m' hm' => ds_val rfl (x_index Tryz.underlying27 Tryz.size72 rfl rfl (j := (P.length + (X1.length + (A'.length + 1)))) (by omega) (by omega))) ?_
          refine dr_val rfl rfl (fun m' hm' => ds_val rfl (x_loads Tryz.agg72 (by exact Tryz.size72) rfl (rowT (P := P ++ X1 ++ A' ++ [x]) (x := y) (.head _) (by simp only [List.append_assoc, List.cons_append, List.nil_append]; rfl) (by simp only [List.length_append, List.length_singleton]; omega)))) ?_
          refine dr_val rfl rfl (fun m' hm' => ds_val rfl (x_index Tryz.underlying27 Tryz.size72 rfl rfl (j := (P.length + (X1.length + (A'.length + 1)))) (by omega) (by omega))) ?_
          refine dr_doneF (k := 15) [(2, _), (3, _), (4, _)] Tryz.mixed ⟨rfl, rfl, rfl, trivial⟩ rfl rfl rfl fun m3 hm_m3 => ?_
          show WLF _ _ _ _ _ _ _ _ _ _
          refine wlf_stores (xs' := fl6 ((P ++ X1 ++ A') ++ x :: x :: (B ++ R))) (vs := x.cells) rfl rfl rfl rfl rfl ⟨⟨_, _, [], rfl, rfl, rfl, rfl, rfl, rfl, x_move rfl⟩, ⟨_, _, [], rfl, rfl, rfl, rfl, rfl, rfl, x_move rfl⟩, ⟨_, _, [3], rfl, rfl, rfl, rfl, rfl, rfl, x_sub rfl rfl (wrap_i64 (by omega) (by omega))⟩, trivial⟩ rfl Tryz.size72 rfl rfl (TV.one _) (by rw [swap_eq]; exact rowT_fits (by simp only [List.length_append, List.length_singleton]; omega)) (by rw [swap_eq, swap_eq x x]; exact fl6_set (by simp only [List.length_append, List.length_singleton]; omega)) ?_
          refine wlf_done rfl rfl rfl ⟨⟨_, _, [], rfl, rfl, rfl, rfl, rfl, rfl, x_move rfl⟩, ⟨_, _, [], rfl, rfl, rfl, rfl, rfl, rfl, x_move rfl⟩, ⟨_, _, [3], rfl, rfl, rfl, rfl, rfl, rfl, x_sub rfl rfl (wrap_i64 (by omega) (by omega))⟩, trivial⟩ ?_
          show WL _ _ _ _ _ _ _ _ _
          refine wv (x_index Tryz.underlying27 Tryz.size72 rfl rfl (j := (P.length + (X1.length + A'.length))) (by omega) (by omega)) ?_
          refine wl_storesAs (xs' := fl6 ((P ++ X1 ++ A') ++ y :: x :: (B ++ R))) (vs := y.cells) rfl (by exact Tryz.size72) rfl rfl (TV.one _) (rowT_fits (by simp only [List.length_append]; omega)) (fl6_set (by simp only [List.length_append]; omega)) ?_
          refine wl_nil ?_
          refine at_block_normal ?_
          refine at_seq ?_
          refine w_region ?_
          refine wmv ?_
          refine wv (x_sub rfl rfl (asN (P.length + (X1.length + A'.length)) (by omega) (by omega))) ?_
          refine was ?_
          refine wl_nil ?_
          exact at_again A'.length [(0, .slice (some ⟨b, 0, none⟩) n cap), (1, .int .i64 P.length), (2, .int .i64 j), (3, .int .i64 k), (4, .func (.func 43) ([] : List Value).toArray ([] : List Value).toArray), (14, .int .i64 ((P.length + X1.length : Nat))), (17, .int .i64 ((P.length + (X1.length + A'.length) : Nat)))] (by omega) ⟨A', x :: B, by rw [← hAB]; simp, rfl, hm2.trans hm_m3, by simp only [List.append_assoc, List.cons_append, List.nil_append], rfl⟩ (by repeat' (first | exact trivial | exact rfl | exact lk_int rfl (by omega) | apply And.intro))
        · skip
          obtain rfl : A = [] := List.length_eq_zero_iff.1 (by omega)
          rw [List.nil_append] at hAB
          subst hAB
          refine w_exit ?_
          refine at_then_exit ?_
          refine at_then_exit ?_
          refine at_block_hit ?_
          refine at_seq ?_
          refine w_ret ?_
          refine at_then_ret ?_
          refine at_end (res0 rfl) ?_
          exact ⟨X1 ++ y :: B, by rw [hY, List.append_assoc]; exact List.Perm.append_left _ (List.perm_append_singleton y B).symm, Srt.ins hsx hhi hlo, by simp⟩
    · skip
      exact absurd (by omega) h4
end Go.Cy


/- slices.symMergeCmpFunc, in general. -/
namespace Go.Cy
open Go Go.Proofs
set_option maxRecDepth 20000

theorem mem_snoc_le {A D : List TV} {x y : TV} (h1 : Srt (A ++ [x])) (h2 : Srt (y :: D)) (h : x.le y) : ∀ u ∈ A ++ [x], ∀ v ∈ y :: D, u.le v := by
  intro u hu v hv
  have h3 : u.le y := Srt.last h1 h u hu
  rcases List.mem_cons.1 hv with rfl | hv
  · exact h3
  · exact TV.le_trans h3 ((Srt.cons.1 h2).1 v hv)

def LoP (X Y : List TV) (a b : Nat) : Prop := ∃ A x B C y D, X = A ++ x :: B ∧ A.length + 1 = a ∧ Y = C ++ y :: D ∧ C.length = b ∧ x.le y
def HiP (X Y : List TV) (a b : Nat) : Prop := ∃ A x B C y D, X = A ++ x :: B ∧ A.length = a ∧ Y = C ++ y :: D ∧ C.length + 1 = b ∧ y.le x
theorem symMerge_ok : ∀ (N : Nat) {m : Mem} {b n cap i j k : Nat} {P X Y R : List TV} (_ : X.length + Y.length ≤ N) (_ : 0 < X.length) (_ : 0 < Y.length) (_ : n ≤ (P ++ X ++ Y ++ R).length) (_ : (P ++ X ++ Y).length ≤ n) (_ : n ≤ 4294967296) (_ : Srt X) (_ : Srt Y) (_ : i = P.length) (_ : j = P.length + X.length) (_ : k = P.length + X.length + Y.length),
    Does Tryz.prog 154 #[.slice (some ⟨b, 0, none⟩) n cap, .int .i64 i, .int .i64 j, .int .i64 k, .func (.func 43) ([] : List Value).toArray ([] : List Value).toArray] m [(b, cl 72 (fl6 (P ++ X ++ Y ++ R)))] fun _ m' H' => ∃ Z, Z.Perm (X ++ Y) ∧ Srt Z ∧ H' = [(b, cl 72 (fl6 (P ++ Z ++ R)))] := by
  intro N
  induction N with
  | zero => intros; omega
  | succ N ih =>
  intro m b n cap i j k P X Y R hN hX0 hY0 hn hb hl hsx hsy hi hj hk
  by_cases hX1 : X.length = 1
  · obtain ⟨x, hx⟩ := List.length_eq_one_iff.1 hX1
    exact symMerge1_ok hx hn hb hl hsy hi hj hk
  by_cases hY1 : Y.length = 1
  · obtain ⟨y, hy⟩ := List.length_eq_one_iff.1 hY1
    exact symMerge2_ok hX1 hy hn hb hl hsx hi hj hk
  simp only [List.length_append] at hn hb
  refine enter Tryz.func154 rfl rfl ?_
  intro K hm0 hks
  refine w_seq ?_
  refine wsr ?_
  refine wmv ?_
  refine wmv ?_
  refine wv (x_sub rfl rfl (asN X.length (by omega) (by omega))) ?_
  refine wv (x_eql rfl rfl) ?_
  refine wns ?_
  refine w_if rfl (fun h1 => ?_) (fun h1 => ?_)
  · skip
    exact absurd h1 (by omega)
  · skip
    refine w_skip ?_
    refine at_seq ?_
    refine w_seq ?_
    refine wsr ?_
    refine wmv ?_
    refine wmv ?_
    refine wv (x_sub rfl rfl (asN Y.length (by omega) (by omega))) ?_
    refine wv (x_eql rfl rfl) ?_
    refine wns ?_
    refine w_if rfl (fun h2 => ?_) (fun h2 => ?_)
    · skip
      exact absurd h2 (by omega)
    · skip
      refine w_skip ?_
      refine at_seq ?_
      refine wsr ?_
      refine wmv ?_
      refine wmv ?_
      refine wv (x_add rfl rfl (asN (i + k) (by omega) (by omega))) ?_
      refine wv (x_conv Tryz.underlying3 Tryz.underlying179 rfl (wrap_u64_in (by omega) (by omega))) ?_
      refine wv (x_shr rfl rfl (by omega) (half64 (i + k) (by omega))) ?_
      refine wv (x_conv Tryz.underlying179 Tryz.underlying3 rfl (asN ((i + k) / 2) (by omega) (by omega))) ?_
      refine was ?_
      refine wnr ?_
      refine wmv ?_
      refine wmv ?_
      refine wv (x_add rfl rfl (asN ((i + k) / 2 + j) (by omega) (by omega))) ?_
      refine was ?_
      refine wnr ?_
      refine was ?_
      refine was ?_
      refine wns ?_
      refine w_seq_mid (fun m' H' env' => ∃ s0 r0 : Nat, i ≤ s0 ∧ s0 ≤ r0 ∧ r0 ≤ j ∧ r0 ≤ (i + k) / 2 ∧ (i + k) / 2 + j ≤ s0 + k ∧ (s0 = i ∨ s0 + k = (i + k) / 2 + j) ∧ (r0 = j ∨ r0 = (i + k) / 2) ∧ m.le m' ∧ H' = [(b, cl 72 (fl6 (P ++ X ++ Y ++ R)))] ∧ env' = [(0, .slice (some ⟨b, 0, none⟩) n cap), (1, .int .i64 i), (2, .int .i64 j), (3, .int .i64 k), (4, .func (.func 43) ([] : List Value).toArray ([] : List Value).toArray), (18, .int .i64 (((i + k) / 2 : Nat))), (19, .int .i64 (((i + k) / 2 + j : Nat))), (20, .int .i64 (s0 : Nat)), (21, .int .i64 (r0 : Nat))]) ?_ ?_
      · skip
        refine wsr ?_
        refine wmv ?_
        refine wmv ?_
        refine wv (x_gtr rfl rfl) ?_
        refine wns ?_
        refine w_if rfl (fun h3 => ?_) (fun h3 => ?_)
        · skip
          refine wsr ?_
          refine wmv ?_
          refine wmv ?_
          refine wv (x_sub rfl rfl (asN ((i + k) / 2 + j - k) (by omega) (by omega))) ?_
          refine was ?_
          refine wns ?_
          refine w_region ?_
          refine wmv ?_
          refine was ?_
          refine wl_nil ?_
          exact at_meets [(0, .slice (some ⟨b, 0, none⟩) n cap), (1, .int .i64 i), (2, .int .i64 j), (3, .int .i64 k), (4, .func (.func 43) ([] : List Value).toArray ([] : List Value).toArray), (18, .int .i64 (((i + k) / 2 : Nat))), (19, .int .i64 (((i + k) / 2 + j : Nat))), (20, .int .i64 (((i + k) / 2 + j - k) : Nat)), (21, .int .i64 (((i + k) / 2) : Nat))] ⟨_, _, by omega, by omega, by omega, by omega, by omega, .inr (by omega), .inr rfl, Mem.le.refl _, rfl, rfl⟩ (by repeat' (first | exact trivial | exact rfl | exact lk_int rfl (by omega) | apply And.intro))
        · skip
          refine wsr ?_
          refine wmv ?_
          refine was ?_
          refine wns ?_
          refine w_region ?_
          refine wmv ?_
          refine was ?_
          refine wl_nil ?_
          exact at_meets [(0, .slice (some ⟨b, 0, none⟩) n cap), (1, .int .i64 i), (2, .int .i64 j), (3, .int .i64 k), (4, .func (.func 43) ([] : List Value).toArray ([] : List Value).toArray), (18, .int .i64 (((i + k) / 2 : Nat))), (19, .int .i64 (((i + k) / 2 + j : Nat))), (20, .int .i64 (i : Nat)), (21, .int .i64 (j : Nat))] ⟨_, _, by omega, by omega, by omega, by omega, by omega, .inl rfl, .inl rfl, Mem.le.refl _, rfl, rfl⟩ (by repeat' (first | exact trivial | exact rfl | exact lk_int rfl (by omega) | apply And.intro))
      · skip
        rintro m1 H' env' ⟨s0, r0, hs1, hs2, hs3, hs4, hs5, hs6, hs7, hm1, rfl, rfl⟩
        refine wsr ?_
        refine wmv ?_
        refine wv (x_sub rfl rfl (asN ((i + k) / 2 + j - 1) (by omega) (by omega))) ?_
        refine was ?_
        refine wns ?_
        refine w_seq ?_
        refine w_block ?_
        refine w_loop (fun t m' H' env' => ∃ s r : Nat, s0 ≤ s ∧ s ≤ r ∧ r ≤ r0 ∧ t = r - s ∧ (s = s0 ∨ LoP X Y (s - i) ((i + k) / 2 - s)) ∧ (r = r0 ∨ HiP X Y (r - i) ((i + k) / 2 - r)) ∧ m1.le m' ∧ H' = [(b, cl 72 (fl6 (P ++ X ++ Y ++ R)))] ∧ env' = [(0, .slice (some ⟨b, 0, none⟩) n cap), (1, .int .i64 i), (2, .int .i64 j), (3, .int .i64 k), (4, .func (.func 43) ([] : List Value).toArray ([] : List Value).toArray), (18, .int .i64 (((i + k) / 2 : Nat))), (19, .int .i64 (((i + k) / 2 + j : Nat))), (20, .int .i64 (s : Nat)), (21, .int .i64 (r : Nat)), (22, .int .i64 (((i + k) / 2 + j - 1 : Nat)))]) (r0 - s0) [(0, .slice (some ⟨b, 0, none⟩) n cap), (1, .int .i64 i), (2, .int .i64 j), (3, .int .i64 k), (4, .func (.func 43) ([] : List Value).toArray ([] : List Value).toArray), (18, .int .i64 (((i + k) / 2 : Nat))), (19, .int .i64 (((i + k) / 2 + j : Nat))), (20, .int .i64 (s0 : Nat)), (21, .int .i64 (r0 : Nat)), (22, .int .i64 (((i + k) / 2 + j - 1 : Nat)))] ⟨s0, r0, by omega, by omega, by omega, rfl, .inl rfl, .inl rfl, Mem.le.refl _, rfl, rfl⟩ (by repeat' (first | exact trivial | exact rfl | exact lk_int rfl (by omega) | apply And.intro)) ?_
        rintro t m2 H' env' ⟨s, r, hsr1, hsr2, hsr3, ht, hS, hR, hm2, rfl, rfl⟩
        refine w_seq ?_
        refine wsr ?_
        refine wmv ?_
        refine wmv ?_
        refine wv (x_lss rfl rfl) ?_
        refine wns ?_
        refine w_if rfl (fun h3 => ?_) (fun h3 => ?_)
        · skip
          obtain ⟨A, x, B, hX, hA⟩ := split_at X ((s + r) / 2 - i) (by omega)
          obtain ⟨C, y, D, hY, hC⟩ := split_at Y ((i + k) / 2 + j - 1 - (s + r) / 2 - j) (by omega)
          refine w_skip ?_
          refine at_seq ?_
          refine w_block ?_
          refine wsr ?_
          refine wmv ?_
          refine wmv ?_
          refine wv (x_add rfl rfl (wrap_i64 (by omega) (by omega))) ?_
          refine wv (x_conv Tryz.underlying3 Tryz.underlying179 rfl (wrap_u64_in (by omega) (by omega))) ?_
          refine wv (x_shr rfl rfl (by omega) (half64 (s + r) (by omega))) ?_
          refine wv (x_conv Tryz.underlying179 Tryz.underlying3 rfl (asN ((s + r) / 2) (by omega) (by omega))) ?_
          refine was ?_
          refine wns ?_
          refine w_seq ?_
          refine dr_start [] [[], [], [], [], [2, 3], [1, 4], [5], [], [], [7, 8], [9]] ?_
          refine dr_val rfl rfl (fun m' hm' => ds_val rfl (x_move rfl)) ?_
          refine dr_val rfl rfl (fun m' hm' => ds_val rfl (x_move rfl)) ?_
          refine dr_val rfl rfl (fun m' hm' => ds_val rfl (x_move rfl)) ?_
          refine dr_val rfl rfl (fun m' hm' => ds_val rfl (x_move rfl)) ?_
          refine dr_val rfl rfl (fun m' hm' => ds_val rfl (x_sub rfl rfl (asN ((i + k) / 2 + j - 1 - (s + r) / 2) (by omega) (by omega)))) ?_
          refine dr_val rfl rfl (fun m' hm' => ds_val rfl (x_index Tryz.underlying27 Tryz.size72 rfl rfl (j := ((i + k) / 2 + j - 1 - (s + r) / 2)) (by omega) (by omega))) ?_
          refine dr_val rfl rfl (fun m' hm' => ds_val rfl (x_loads Tryz.agg72 (by exact Tryz.size72) rfl (rowT (P := P ++ X ++ C) (x := y) (.head _) (by rw [hY]; simp only [List.append_assoc, List.cons_append]; rfl) (by simp only [List.length_append]; omega)))) ?_
          refine dr_val rfl rfl (fun m' hm' => ds_val rfl (x_move rfl)) ?_
          refine dr_val rfl rfl (fun m' hm' => ds_val rfl (x_move rfl)) ?_
          refine dr_val rfl rfl (fun m' hm' => ds_val rfl (x_index Tryz.underlying27 Tryz.size72 rfl rfl (j := ((s + r) / 2)) (by omega) (by omega))) ?_
          refine dr_val rfl rfl (fun m' hm' => ds_val rfl (x_loads Tryz.agg72 (by exact Tryz.size72) rfl (rowT (P := P ++ A) (x := x) (.head _) (by rw [hX]; simp only [List.append_assoc, List.cons_append]; rfl) (by simp only [List.length_append]; omega)))) ?_
          refine dr_done (k := 11) Tryz.mixed rfl rfl rfl fun m3 hm_m3 => ?_
          show WL _ _ _ _ _ _ _ _ _
          refine wl_callvp rfl rfl rfl rfl Tryz.c43 (less_ok (x := y) (y := x)) ?_; rintro v3 m3_ hm3 rfl
          refine wv (x_lss rfl rfl) ?_
          refine wv (x_not rfl rfl) ?_
          refine wns ?_
          refine w_cond rfl (fun h4 => ?_) (fun h4 => ?_)
          · skip
            refine w_region ?_
            refine wmv ?_
            refine wv (x_add rfl rfl (asN ((s + r) / 2 + 1) (by omega) (by omega))) ?_
            refine was ?_
            refine wl_nil ?_
            refine at_block_normal ?_
            exact at_again (r - ((s + r) / 2 + 1)) [(0, .slice (some ⟨b, 0, none⟩) n cap), (1, .int .i64 i), (2, .int .i64 j), (3, .int .i64 k), (4, .func (.func 43) ([] : List Value).toArray ([] : List Value).toArray), (18, .int .i64 (((i + k) / 2 : Nat))), (19, .int .i64 (((i + k) / 2 + j : Nat))), (20, .int .i64 (((s + r) / 2 + 1) : Nat)), (21, .int .i64 (r : Nat)), (22, .int .i64 (((i + k) / 2 + j - 1 : Nat)))] (by omega) ⟨(s + r) / 2 + 1, r, by omega, by omega, by omega, rfl, .inr ⟨A, x, B, C, y, D, hX, by omega, hY, by omega, TV.le_of_nlt fun h => absurd (TV.lt_iff.2 h) (by simpa using h4)⟩, hR, hm2.trans (hm_m3.trans hm3), rfl, rfl⟩ (by repeat' (first | exact trivial | exact rfl | exact lk_int rfl (by omega) | apply And.intro))
          · skip
            refine w_region ?_
            refine wmv ?_
            refine was ?_
            refine wl_nil ?_
            refine at_block_normal ?_
            exact at_again ((s + r) / 2 - s) [(0, .slice (some ⟨b, 0, none⟩) n cap), (1, .int .i64 i), (2, .int .i64 j), (3, .int .i64 k), (4, .func (.func 43) ([] : List Value).toArray ([] : List Value).toArray), (18, .int .i64 (((i + k) / 2 : Nat))), (19, .int .i64 (((i + k) / 2 + j : Nat))), (20, .int .i64 (s : Nat)), (21, .int .i64 (((s + r) / 2) : Nat)), (22, .int .i64 (((i + k) / 2 + j - 1 : Nat)))] (by omega) ⟨s, (s + r) / 2, by omega, by omega, by omega, rfl, hS, .inr ⟨A, x, B, C, y, D, hX, by omega, hY, by omega, TV.le_of_lt (TV.lt_iff.1 (by simpa using h4))⟩, hm2.trans (hm_m3.trans hm3), rfl, rfl⟩ (by repeat' (first | exact trivial | exact rfl | exact lk_int rfl (by omega) | apply And.intro))
        · skip
          obtain rfl : s = r := by omega
          obtain ⟨X1, X2, rfl, hX1l⟩ := cut_at X (s - i) (by omega)
          obtain ⟨Y1, Y2, rfl, hY1l⟩ := cut_at Y ((i + k) / 2 - s) (by omega)
          simp only [List.length_append] at hN hX0 hY0 hn hb hj hk hX1 hY1
          have hx := Srt.app.1 hsx
          have hy := Srt.app.1 hsy
          have h12 : ∀ u ∈ X1, ∀ v ∈ Y2, u.le v := by
            rcases hS with hS | ⟨A, x, B, C, y, D, e1, l1, e2, l2, hle⟩
            · rcases hs6 with h6 | h6
              · obtain rfl : X1 = [] := List.length_eq_zero_iff.1 (by omega)
                simp
              · obtain rfl : Y2 = [] := List.length_eq_zero_iff.1 (by omega)
                simp
            · obtain ⟨rfl, -⟩ := List.append_inj (show X1 ++ X2 = (A ++ [x]) ++ B by rw [e1]; simp) (by simp; omega)
              obtain ⟨-, rfl⟩ := List.append_inj e2 (by omega)
              exact mem_snoc_le hx.1 hy.2.1 hle
          have h21 : ∀ u ∈ Y1, ∀ v ∈ X2, u.le v := by
            rcases hR with hR | ⟨A, x, B, C, y, D, e1, l1, e2, l2, hle⟩
            · rcases hs7 with h7 | h7
              · obtain rfl : X2 = [] := List.length_eq_zero_iff.1 (by omega)
                simp
              · obtain rfl : Y1 = [] := List.length_eq_zero_iff.1 (by omega)
                simp
            · obtain ⟨rfl, -⟩ := List.append_inj (show Y1 ++ Y2 = (C ++ [y]) ++ D by rw [e2]; simp) (by simp; omega)
              obtain ⟨-, rfl⟩ := List.append_inj e1 (by omega)
              exact mem_snoc_le hy.1 hx.2.1 hle
          clear hS hR
          refine w_exit ?_
          refine at_then_exit ?_
          refine at_then_exit ?_
          refine at_block_hit ?_
          refine at_seq ?_
          refine wsr ?_
          refine wmv ?_
          refine wmv ?_
          refine wv (x_sub rfl rfl (asN ((i + k) / 2 + j - s) (by omega) (by omega))) ?_
          refine was ?_
          refine wns ?_
          refine w_seq_mid (fun m' H' env' => m2.le m' ∧ H' = [(b, cl 72 (fl6 (P ++ X1 ++ Y1 ++ (X2 ++ Y2) ++ R)))] ∧ env' = [(0, .slice (some ⟨b, 0, none⟩) n cap), (1, .int .i64 i), (2, .int .i64 j), (3, .int .i64 k), (4, .func (.func 43) ([] : List Value).toArray ([] : List Value).toArray), (18, .int .i64 (((i + k) / 2 : Nat))), (20, .int .i64 (s : Nat)), (24, .int .i64 (((i + k) / 2 + j - s : Nat)))]) ?_ ?_
          · skip
            refine wsr ?_
            refine wmv ?_
            refine wmv ?_
            refine wv (x_lss rfl rfl) ?_
            refine wmv ?_
            refine wl_splitp (t := 181) rfl (fun h5 => ?_) (fun h5 => ?_)
            · skip
              refine wmv ?_
              refine wmv ?_
              refine wv (x_lss rfl rfl) ?_
              refine wv (x_pick_t rfl rfl) ?_
              refine wns ?_
              refine w_if rfl (fun h6 => ?_) (fun h6 => ?_)
              · skip
                rw [show P ++ (X1 ++ X2) ++ (Y1 ++ Y2) ++ R = (P ++ X1) ++ X2 ++ Y1 ++ (Y2 ++ R) by simp only [List.append_assoc]]
                refine w_region ?_
                refine wmv ?_
                refine wmv ?_
                refine wmv ?_
                refine wmv ?_
                refine wmv ?_
                refine wl_calld0 rfl rfl rfl Tryz.c196 (rotate_ok (f := .func (.func 43) ([] : List Value).toArray ([] : List Value).toArray) (P := P ++ X1) (X := X2) (Y := Y1) (R := Y2 ++ R) (by simp only [List.length_append]; omega) (by simp only [List.length_append]; omega) hl (by omega) (by omega) (by simp only [List.length_append]; omega) (by simp only [List.length_append]; omega) (by simp only [List.length_append]; omega)) ?_; rintro v4 m4 H4 hm4 rfl
                refine wl_nil ?_
                exact at_meets [(0, .slice (some ⟨b, 0, none⟩) n cap), (1, .int .i64 i), (2, .int .i64 j), (3, .int .i64 k), (4, .func (.func 43) ([] : List Value).toArray ([] : List Value).toArray), (18, .int .i64 (((i + k) / 2 : Nat))), (20, .int .i64 (s : Nat)), (24, .int .i64 (((i + k) / 2 + j - s : Nat)))] ⟨hm4, by simp only [List.append_assoc], rfl⟩ (by repeat' (first | exact trivial | exact rfl | exact lk_int rfl (by omega) | apply And.intro))
              · skip
                refine w_skip ?_
                obtain rfl : Y1 = [] := List.length_eq_zero_iff.1 (by omega)
                exact at_meets [(0, .slice (some ⟨b, 0, none⟩) n cap), (1, .int .i64 i), (2, .int .i64 j), (3, .int .i64 k), (4, .func (.func 43) ([] : List Value).toArray ([] : List Value).toArray), (18, .int .i64 (((i + k) / 2 : Nat))), (20, .int .i64 (s : Nat)), (24, .int .i64 (((i + k) / 2 + j - s : Nat)))] ⟨Mem.le.refl _, by simp, rfl⟩ (by repeat' (first | exact trivial | exact rfl | exact lk_int rfl (by omega) | apply And.intro))
            · skip
              refine wl_off rfl rfl rfl ?_
              refine wl_off rfl rfl rfl ?_
              refine wl_off rfl rfl rfl ?_
              refine wv (x_pick_f rfl rfl) ?_
              refine wns ?_
              refine w_false rfl ?_
              refine w_skip ?_
              obtain rfl : X2 = [] := List.length_eq_zero_iff.1 (by omega)
              exact at_meets [(0, .slice (some ⟨b, 0, none⟩) n cap), (1, .int .i64 i), (2, .int .i64 j), (3, .int .i64 k), (4, .func (.func 43) ([] : List Value).toArray ([] : List Value).toArray), (18, .int .i64 (((i + k) / 2 : Nat))), (20, .int .i64 (s : Nat)), (24, .int .i64 (((i + k) / 2 + j - s : Nat)))] ⟨Mem.le.refl _, by simp, rfl⟩ (by repeat' (first | exact trivial | exact rfl | exact lk_int rfl (by omega) | apply And.intro))
          · skip
            rintro m3 H' env' ⟨hm3, rfl, rfl⟩
            refine w_seq_mid (fun m' H' env' => m3.le m' ∧ ∃ Z1 : List TV, Z1.Perm (X1 ++ Y1) ∧ Srt Z1 ∧ H' = [(b, cl 72 (fl6 (P ++ Z1 ++ (X2 ++ Y2) ++ R)))] ∧ env' = [(0, .slice (some ⟨b, 0, none⟩) n cap), (1, .int .i64 i), (2, .int .i64 j), (3, .int .i64 k), (4, .func (.func 43) ([] : List Value).toArray ([] : List Value).toArray), (18, .int .i64 (((i + k) / 2 : Nat))), (20, .int .i64 (s : Nat)), (24, .int .i64 (((i + k) / 2 + j - s : Nat)))]) ?_ ?_
            · skip
              refine wsr ?_
              refine wmv ?_
              refine wmv ?_
              refine wv (x_lss rfl rfl) ?_
              refine wmv ?_
              refine wl_splitp (t := 195) rfl (fun h5 => ?_) (fun h5 => ?_)
              · skip
                refine wmv ?_
                refine wmv ?_
                refine wv (x_lss rfl rfl) ?_
                refine wv (x_pick_t rfl rfl) ?_
                refine wns ?_
                refine w_if rfl (fun h6 => ?_) (fun h6 => ?_)
                · skip
                  rw [show P ++ X1 ++ Y1 ++ (X2 ++ Y2) ++ R = P ++ X1 ++ Y1 ++ (X2 ++ Y2 ++ R) by simp only [List.append_assoc]]
                  refine w_region ?_
                  refine wmv ?_
                  refine wmv ?_
                  refine wmv ?_
                  refine wmv ?_
                  refine wmv ?_
                  refine wl_calld0 rfl rfl rfl Tryz.c154 (ih (P := P) (X := X1) (Y := Y1) (R := X2 ++ Y2 ++ R) (by omega) (by omega) (by omega) (by simp only [List.length_append]; omega) (by simp only [List.length_append]; omega) hl hx.1 hy.1 hi (by omega) (by omega)) ?_; rintro v4 m4 H4 hm4 ⟨Z1, hz1, hz2, rfl⟩
                  refine wl_nil ?_
                  exact at_meets [(0, .slice (some ⟨b, 0, none⟩) n cap), (1, .int .i64 i), (2, .int .i64 j), (3, .int .i64 k), (4, .func (.func 43) ([] : List Value).toArray ([] : List Value).toArray), (18, .int .i64 (((i + k) / 2 : Nat))), (20, .int .i64 (s : Nat)), (24, .int .i64 (((i + k) / 2 + j - s : Nat)))] ⟨hm4, Z1, hz1, hz2, by simp only [List.append_assoc], rfl⟩ (by repeat' (first | exact trivial | exact rfl | exact lk_int rfl (by omega) | apply And.intro))
                · skip
                  refine w_skip ?_
                  obtain rfl : Y1 = [] := List.length_eq_zero_iff.1 (by omega)
                  exact at_meets [(0, .slice (some ⟨b, 0, none⟩) n cap), (1, .int .i64 i), (2, .int .i64 j), (3, .int .i64 k), (4, .func (.func 43) ([] : List Value).toArray ([] : List Value).toArray), (18, .int .i64 (((i + k) / 2 : Nat))), (20, .int .i64 (s : Nat)), (24, .int .i64 (((i + k) / 2 + j - s : Nat)))] ⟨Mem.le.refl _, X1, by simp, hx.1, by simp, rfl⟩ (by repeat' (first | exact trivial | exact rfl | exact lk_int rfl (by omega) | apply And.intro))
              · skip
                refine wl_off rfl rfl rfl ?_
                refine wl_off rfl rfl rfl ?_
                refine wl_off rfl rfl rfl ?_
                refine wv (x_pick_f rfl rfl) ?_
                refine wns ?_
                refine w_false rfl ?_
                refine w_skip ?_
                obtain rfl : X1 = [] := List.length_eq_zero_iff.1 (by omega)
                exact at_meets [(0, .slice (some ⟨b, 0, none⟩) n cap), (1, .int .i64 i), (2, .int .i64 j), (3, .int .i64 k), (4, .func (.func 43) ([] : List Value).toArray ([] : List Value).toArray), (18, .int .i64 (((i + k) / 2 : Nat))), (20, .int .i64 (s : Nat)), (24, .int .i64 (((i + k) / 2 + j - s : Nat)))] ⟨Mem.le.refl _, Y1, by simp, hy.1, by simp, rfl⟩ (by repeat' (first | exact trivial | exact rfl | exact lk_int rfl (by omega) | apply And.intro))
            · skip
              rintro m4 H' env' ⟨hm4, Z1, hz1, hz2, rfl, rfl⟩
              have hz1l : Z1.length = X1.length + Y1.length := by rw [hz1.length_eq, List.length_append]
              have fin : ∀ Z2 : List TV, Z2.Perm (X2 ++ Y2) → Srt Z2 → (Z1 ++ Z2).Perm (X1 ++ X2 ++ (Y1 ++ Y2)) ∧ Srt (Z1 ++ Z2) := by
                intro Z2 h1 h2
                refine ⟨(hz1.append h1).trans ?_, Srt.app.2 ⟨hz2, h2, fun u hu v hv => ?_⟩⟩
                · simp only [List.append_assoc]
                  refine List.Perm.append_left _ ?_
                  rw [← List.append_assoc, ← List.append_assoc X2]
                  exact List.Perm.append_right _ List.perm_append_comm
                · rcases List.mem_append.1 (hz1.mem_iff.1 hu) with hu | hu <;> rcases List.mem_append.1 (h1.mem_iff.1 hv) with hv | hv
                  · exact hx.2.2 u hu v hv
                  · exact h12 u hu v hv
                  · exact h21 u hu v hv
                  · exact hy.2.2 u hu v hv
              refine wsr ?_
              refine wmv ?_
              refine wmv ?_
              refine wv (x_lss rfl rfl) ?_
              refine wmv ?_
              refine wl_splitp (t := 209) rfl (fun h5 => ?_) (fun h5 => ?_)
              · skip
                refine wmv ?_
                refine wmv ?_
                refine wv (x_lss rfl rfl) ?_
                refine wv (x_pick_t rfl rfl) ?_
                refine wns ?_
                refine w_if rfl (fun h6 => ?_) (fun h6 => ?_)
                · skip
                  rw [show P ++ Z1 ++ (X2 ++ Y2) ++ R = (P ++ Z1) ++ X2 ++ Y2 ++ R by simp only [List.append_assoc]]
                  refine w_region ?_
                  refine wmv ?_
                  refine wmv ?_
                  refine wmv ?_
                  refine wmv ?_
                  refine wmv ?_
                  refine wl_calld0 rfl rfl rfl Tryz.c154 (ih (P := P ++ Z1) (X := X2) (Y := Y2) (R := R) (by omega) (by omega) (by omega) (by simp only [List.length_append]; omega) (by simp only [List.length_append]; omega) hl hx.2.1 hy.2.1 (by simp only [List.length_append]; omega) (by simp only [List.length_append]; omega) (by simp only [List.length_append]; omega)) ?_; rintro v5 m5 H5 hm5 ⟨Z2, hz3, hz4, rfl⟩
                  refine wl_nil ?_
                  refine at_end_normal (res0 rfl) ?_
                  exact ⟨Z1 ++ Z2, (fin Z2 hz3 hz4).1, (fin Z2 hz3 hz4).2, by simp only [List.append_assoc]⟩
                · skip
                  refine w_skip ?_
                  refine at_end_normal (res0 rfl) ?_
                  obtain rfl : Y2 = [] := List.length_eq_zero_iff.1 (by omega)
                  exact ⟨Z1 ++ X2, (fin X2 (by simp) hx.2.1).1, (fin X2 (by simp) hx.2.1).2, by simp only [List.append_assoc, List.append_nil]⟩
              · skip
                refine wl_off rfl rfl rfl ?_
                refine wl_off rfl rfl rfl ?_
                refine wl_off rfl rfl rfl ?_
                refine wv (x_pick_f rfl rfl) ?_
                refine wns ?_
                refine w_false rfl ?_
                refine w_skip ?_
                refine at_end_normal (res0 rfl) ?_
                obtain rfl : X2 = [] := List.length_eq_zero_iff.1 (by omega)
                exact ⟨Z1 ++ Y2, (fin Y2 (by simp) hy.2.1).1, (fin Y2 (by simp) hy.2.1).2, by simp only [List.append_assoc, List.nil_append]⟩
end Go.Cy


/- slices.stableCmpFunc, SortStableFunc, IsSortedFunc. -/
namespace Go.Cy
open Go Go.Proofs
set_option maxRecDepth 20000

def Blks (s : Nat) (bl : List (List TV)) : Prop := ∀ x ∈ bl, x.length = s ∧ Srt x
theorem Blks.len {s : Nat} : ∀ {bl : List (List TV)}, Blks s bl → bl.flatten.length = bl.length * s
  | [], _ => by simp
  | x :: bl, h => by
    rw [List.flatten_cons, List.length_append, Blks.len (fun y hy => h y (List.mem_cons_of_mem _ hy)), (h x (List.mem_cons_self ..)).1, List.length_cons, Nat.succ_mul]; omega
theorem Blks.snoc {s : Nat} {bl : List (List TV)} {x : List TV} (h : Blks s bl) (hl : x.length = s) (hs : Srt x) : Blks s (bl ++ [x]) := by
  intro y hy
  rcases List.mem_append.1 hy with hy | hy
  · exact h y hy
  · rw [List.mem_singleton.1 hy]; exact ⟨hl, hs⟩
theorem flatten_snoc (bl : List (List TV)) (x : List TV) : (bl ++ [x]).flatten = bl.flatten ++ x := by simp

theorem stable_ok {m : Mem} {b n cap : Nat} {L R : List TV} (hn : L.length = n) (hl : n ≤ 4294967296) :
    Does Tryz.prog 103 #[.slice (some ⟨b, 0, none⟩) n cap, .int .i64 n, .func (.func 43) ([] : List Value).toArray ([] : List Value).toArray] m [(b, cl 72 (fl6 (L ++ R)))] fun _ m' H' => ∃ L', L'.Perm L ∧ Srt L' ∧ H' = [(b, cl 72 (fl6 (L' ++ R)))] := by
  refine enter Tryz.func103 rfl rfl ?_
  intro K hm0 hks
  refine wsr ?_
  refine was ?_
  refine wnr ?_
  refine wmv ?_
  refine was ?_
  refine was ?_
  refine wns ?_
  refine w_seq ?_
  refine w_block ?_
  refine w_loop (fun r m' H' env' => ∃ (bl : List (List TV)) (T : List TV) (a : Nat), (bl.flatten ++ T).Perm L ∧ Blks 20 bl ∧ a = bl.flatten.length ∧ r = T.length ∧ m.le m' ∧ H' = [(b, cl 72 (fl6 (bl.flatten ++ T ++ R)))] ∧ env' = [(0, .slice (some ⟨b, 0, none⟩) n cap), (1, .int .i64 n), (2, .func (.func 43) ([] : List Value).toArray ([] : List Value).toArray), (6, .int .i64 20), (7, .int .i64 (a : Nat)), (8, .int .i64 ((a + 20 : Nat)))]) L.length [(0, .slice (some ⟨b, 0, none⟩) n cap), (1, .int .i64 n), (2, .func (.func 43) ([] : List Value).toArray ([] : List Value).toArray), (6, .int .i64 20), (7, .int .i64 (0 : Nat)), (8, .int .i64 ((0 + 20 : Nat)))] ⟨[], L, 0, by simp, (fun _ h => absurd h List.not_mem_nil), rfl, rfl, Mem.le.refl _, by simp, rfl⟩ (by repeat' (first | exact trivial | exact rfl | exact lk_int rfl (by omega) | apply And.intro)) ?_
  rintro r m1 H' env' ⟨bl, T, a, hp, hbl, ha, rfl, hm1, rfl, rfl⟩
  have hTl : a + T.length = n := by rw [ha, ← List.length_append, hp.length_eq, hn]
  refine w_seq ?_
  refine wsr ?_
  refine wmv ?_
  refine wmv ?_
  refine wv (x_leq rfl rfl) ?_
  refine wns ?_
  refine w_if rfl (fun h1 => ?_) (fun h1 => ?_)
  · skip
    obtain ⟨T1, T2, rfl, hT⟩ := cut_at T 20 (by omega)
    rw [List.length_append] at *
    rw [show bl.flatten ++ (T1 ++ T2) ++ R = bl.flatten ++ T1 ++ (T2 ++ R) by simp only [List.append_assoc]]
    refine w_skip ?_
    refine at_seq ?_
    refine w_block ?_
    refine wsr ?_
    refine wmv ?_
    refine wmv ?_
    refine wmv ?_
    refine wmv ?_
    refine wl_calld0 rfl rfl rfl Tryz.c153 (insertion_ok (P := bl.flatten) (X := T1) (R := T2 ++ R) (by simp only [List.length_append]; omega) (by simp only [List.length_append]; omega) hl ha (by omega)) ?_; rintro v2 m2 H2 hm2 ⟨T1', hp1, hs1, rfl⟩
    refine wnr ?_
    refine wmv ?_
    refine was ?_
    refine wns ?_
    refine w_region ?_
    refine wmv ?_
    refine wmv ?_
    refine wv (x_add rfl rfl (asN (a + 20 + 20) (by omega) (by omega))) ?_
    refine was ?_
    refine wl_nil ?_
    refine at_block_normal ?_
    have hl1 : T1'.length = 20 := by rw [hp1.length_eq, hT]
    exact at_again T2.length [(0, .slice (some ⟨b, 0, none⟩) n cap), (1, .int .i64 n), (2, .func (.func 43) ([] : List Value).toArray ([] : List Value).toArray), (6, .int .i64 20), (7, .int .i64 ((a + 20) : Nat)), (8, .int .i64 (((a + 20) + 20 : Nat)))] (by omega) ⟨bl ++ [T1'], T2, a + 20, by rw [flatten_snoc]; exact (List.Perm.append_right T2 (List.Perm.append_left bl.flatten hp1)).trans (by rw [List.append_assoc]; exact hp), hbl.snoc hl1 hs1, by rw [flatten_snoc, List.length_append]; omega, rfl, hm1.trans hm2, by rw [flatten_snoc]; simp only [List.append_assoc], rfl⟩ (by repeat' (first | exact trivial | exact rfl | exact lk_int rfl (by omega) | apply And.intro))
  · skip
    refine w_exit ?_
    refine at_then_exit ?_
    refine at_then_exit ?_
    refine at_block_hit ?_
    refine at_seq ?_
    refine wsr ?_
    refine wmv ?_
    refine wmv ?_
    refine wmv ?_
    refine wmv ?_
    refine wl_calld0 rfl rfl rfl Tryz.c153 (insertion_ok (P := bl.flatten) (X := T) (R := R) (by simp only [List.length_append]; omega) (by simp only [List.length_append]; omega) hl ha (by omega)) ?_; rintro v2 m2 H2 hm2 ⟨T', hp1, hs1, rfl⟩
    refine wns ?_
    refine w_block ?_
    have hl1 : T'.length = T.length := hp1.length_eq
    refine w_loop (fun r m' H' env' => ∃ (s : Nat) (bl : List (List TV)) (T : List TV), (bl.flatten ++ T).Perm L ∧ 0 < s ∧ Blks s bl ∧ Srt T ∧ T.length < s ∧ s ≤ 17179869184 ∧ r = n - s ∧ m.le m' ∧ H' = [(b, cl 72 (fl6 (bl.flatten ++ T ++ R)))] ∧ env' = [(0, .slice (some ⟨b, 0, none⟩) n cap), (1, .int .i64 n), (2, .func (.func 43) ([] : List Value).toArray ([] : List Value).toArray), (6, .int .i64 (s : Nat))]) (n - 20) [(0, .slice (some ⟨b, 0, none⟩) n cap), (1, .int .i64 n), (2, .func (.func 43) ([] : List Value).toArray ([] : List Value).toArray), (6, .int .i64 (20 : Nat))] ⟨20, bl, T', (List.Perm.append_left bl.flatten hp1).trans hp, by omega, hbl, hs1, by omega, by omega, rfl, hm1.trans hm2, rfl, rfl⟩ (by repeat' (first | exact trivial | exact rfl | exact lk_int rfl (by omega) | apply And.intro)) ?_
    clear hp hbl ha hm1 hTl h1 hp1 hs1 hl1 hm2
    rintro r m1 H' env' ⟨s, bl, T, hp, hs0, hbl, hsT, hTs, hsb, rfl, hm1, rfl, rfl⟩
    have hpl : bl.flatten.length + T.length = n := by rw [← List.length_append, hp.length_eq, hn]
    refine w_seq ?_
    refine wsr ?_
    refine wmv ?_
    refine wmv ?_
    refine wv (x_lss rfl rfl) ?_
    refine wns ?_
    refine w_if rfl (fun h2 => ?_) (fun h2 => ?_)
    · skip
      refine w_skip ?_
      refine at_seq ?_
      refine w_block ?_
      refine wsr ?_
      refine wmv ?_
      refine wv (x_mul rfl rfl (asN (0 + 2 * s) (by omega) (by omega))) ?_
      refine was ?_
      refine was ?_
      refine wns ?_
      refine w_seq ?_
      refine w_block ?_
      refine w_loop (fun r m' H' env' => ∃ (dn rs : List (List TV)) (a : Nat), (dn.flatten ++ rs.flatten ++ T).Perm L ∧ Blks (2 * s) dn ∧ Blks s rs ∧ a = dn.flatten.length ∧ r = rs.length ∧ m1.le m' ∧ H' = [(b, cl 72 (fl6 (dn.flatten ++ rs.flatten ++ T ++ R)))] ∧ env' = [(0, .slice (some ⟨b, 0, none⟩) n cap), (1, .int .i64 n), (2, .func (.func 43) ([] : List Value).toArray ([] : List Value).toArray), (6, .int .i64 (s : Nat)), (7, .int .i64 (a : Nat)), (8, .int .i64 ((a + 2 * s : Nat)))]) bl.length [(0, .slice (some ⟨b, 0, none⟩) n cap), (1, .int .i64 n), (2, .func (.func 43) ([] : List Value).toArray ([] : List Value).toArray), (6, .int .i64 (s : Nat)), (7, .int .i64 (0 : Nat)), (8, .int .i64 ((0 + 2 * s : Nat)))] ⟨[], bl, 0, by simpa using hp, (fun _ h => absurd h List.not_mem_nil), hbl, rfl, rfl, Mem.le.refl _, by simp, rfl⟩ (by repeat' (first | exact trivial | exact rfl | exact lk_int rfl (by omega) | apply And.intro)) ?_
      rintro r2 m2 H' env' ⟨dn, rs, a, hp2, hdn, hrs, ha, rfl, hm2, rfl, rfl⟩
      have hpl2 : a + rs.flatten.length + T.length = n := by rw [ha, ← List.length_append, ← List.length_append, hp2.length_eq, hn]
      have hrl := hrs.len
      refine w_seq ?_
      refine wsr ?_
      refine wmv ?_
      refine wmv ?_
      refine wv (x_leq rfl rfl) ?_
      refine wns ?_
      refine w_if rfl (fun h3 => ?_) (fun h3 => ?_)
      · skip
        obtain ⟨x, y, rs', rfl⟩ : ∃ x y rs', rs = x :: y :: rs' := by
          rcases rs with _ | ⟨x, _ | ⟨y, rs'⟩⟩
          · simp only [List.flatten_nil, List.length_nil] at hpl2; omega
          · simp only [List.length_cons, List.length_nil, Nat.zero_add, Nat.one_mul] at hrl; omega
          · exact ⟨x, y, rs', rfl⟩
        have hx := hrs x (List.mem_cons_self ..)
        have hy := hrs y (List.mem_cons_of_mem _ (List.mem_cons_self ..))
        have hrs' : Blks s rs' := fun z hz => hrs z (List.mem_cons_of_mem _ (List.mem_cons_of_mem _ hz))
        simp only [List.flatten_cons, List.length_append] at hpl2
        rw [show dn.flatten ++ (x :: y :: rs').flatten ++ T ++ R = dn.flatten ++ x ++ y ++ (rs'.flatten ++ T ++ R) by simp only [List.flatten_cons, List.append_assoc]]
        refine w_skip ?_
        refine at_seq ?_
        refine w_block ?_
        refine wsr ?_
        refine wmv ?_
        refine wmv ?_
        refine wmv ?_
        refine wmv ?_
        refine wv (x_add rfl rfl (asN (a + s) (by omega) (by omega))) ?_
        refine wmv ?_
        refine wmv ?_
        refine wl_calld0 rfl rfl rfl Tryz.c154 (symMerge_ok (2 * s) (P := dn.flatten) (X := x) (Y := y) (R := rs'.flatten ++ T ++ R) (by omega) (by omega) (by omega) (by simp only [List.length_append]; omega) (by simp only [List.length_append]; omega) hl hx.2 hy.2 ha (by omega) (by omega)) ?_; rintro v3 m3 H3 hm3 ⟨Z, hz1, hz2, rfl⟩
        refine wnr ?_
        refine wmv ?_
        refine was ?_
        refine wns ?_
        refine w_region ?_
        refine wmv ?_
        refine wmv ?_
        refine wv (x_mul rfl rfl (asN (2 * s) (by omega) (by omega))) ?_
        refine wv (x_add rfl rfl (asN (a + 2 * s + 2 * s) (by omega) (by omega))) ?_
        refine was ?_
        refine wl_nil ?_
        refine at_block_normal ?_
        have hzl : Z.length = 2 * s := by rw [hz1.length_eq, List.length_append]; omega
        exact at_again rs'.length [(0, .slice (some ⟨b, 0, none⟩) n cap), (1, .int .i64 n), (2, .func (.func 43) ([] : List Value).toArray ([] : List Value).toArray), (6, .int .i64 (s : Nat)), (7, .int .i64 ((a + 2 * s) : Nat)), (8, .int .i64 (((a + 2 * s) + 2 * s : Nat)))] (by simp only [List.length_cons]; omega) ⟨dn ++ [Z], rs', a + 2 * s, by rw [flatten_snoc]; refine List.Perm.trans ?_ hp2; simp only [List.flatten_cons, List.append_assoc]; refine List.Perm.append_left _ ?_; rw [← List.append_assoc x]; exact List.Perm.append_right _ hz1, hdn.snoc hzl hz2, hrs', by rw [flatten_snoc, List.length_append]; omega, rfl, hm2.trans hm3, by rw [flatten_snoc]; simp only [List.append_assoc], rfl⟩ (by repeat' (first | exact trivial | exact rfl | exact lk_int rfl (by omega) | apply And.intro))
      · skip
        refine w_exit ?_
        refine at_then_exit ?_
        refine at_then_exit ?_
        refine at_block_hit ?_
        refine at_seq ?_
        refine w_seq ?_
        refine wsr ?_
        refine wmv ?_
        refine wmv ?_
        refine wv (x_add rfl rfl (asN (a + s) (by omega) (by omega))) ?_
        refine was ?_
        refine wnr ?_
        refine wmv ?_
        refine wmv ?_
        refine wv (x_lss rfl rfl) ?_
        refine wns ?_
        refine w_if rfl (fun h4 => ?_) (fun h4 => ?_)
        · skip
          obtain ⟨x, rfl⟩ : ∃ x, rs = [x] := by
            rcases rs with _ | ⟨x, _ | ⟨y, rs'⟩⟩
            · simp only [List.flatten_nil, List.length_nil] at hpl2; omega
            · exact ⟨x, rfl⟩
            · simp only [List.length_cons, Nat.succ_mul] at hrl; omega
          have hx := hrs x (List.mem_cons_self ..)
          have hfx : [x].flatten = x := by simp
          rw [hfx] at hpl2 hp2 ⊢
          refine w_region ?_
          refine wmv ?_
          refine wmv ?_
          refine wmv ?_
          refine wmv ?_
          refine wmv ?_
          refine wl_calld0 rfl rfl rfl Tryz.c154 (symMerge_ok (s + s) (P := dn.flatten) (X := x) (Y := T) (R := R) (by omega) (by omega) (by omega) (by simp only [List.length_append]; omega) (by simp only [List.length_append]; omega) hl hx.2 hsT ha (by omega) (by omega)) ?_; rintro v3 m3 H3 hm3 ⟨Z, hz1, hz2, rfl⟩
          refine wns ?_
          refine w_region ?_
          refine wmv ?_
          refine wv (x_mul rfl rfl (asN (2 * s) (by omega) (by omega))) ?_
          refine was ?_
          refine wl_nil ?_
          refine at_block_normal ?_
          have hzl : Z.length = s + T.length := by rw [hz1.length_eq, List.length_append]; omega
          exact at_again (n - 2 * s) [(0, .slice (some ⟨b, 0, none⟩) n cap), (1, .int .i64 n), (2, .func (.func 43) ([] : List Value).toArray ([] : List Value).toArray), (6, .int .i64 ((2 * s) : Nat))] (by omega) ⟨2 * s, dn, Z, (List.Perm.append_left _ hz1).trans (by rw [← List.append_assoc]; exact hp2), by omega, hdn, hz2, by omega, by omega, rfl, hm1.trans (hm2.trans hm3), rfl, rfl⟩ (by repeat' (first | exact trivial | exact rfl | exact lk_int rfl (by omega) | apply And.intro))
        · skip
          obtain ⟨T', hT', hsT', hTl⟩ : ∃ T', rs.flatten ++ T = T' ∧ Srt T' ∧ T'.length < 2 * s := by
            rcases rs with _ | ⟨x, _ | ⟨y, rs'⟩⟩
            · exact ⟨T, by simp, hsT, by omega⟩
            · have hx := hrs x (List.mem_cons_self ..)
              simp only [List.length_cons, List.length_nil, Nat.zero_add, Nat.one_mul] at hrl
              obtain rfl : T = [] := List.length_eq_zero_iff.1 (by omega)
              exact ⟨x, by simp, hx.2, by omega⟩
            · simp only [List.length_cons, Nat.succ_mul] at hrl; omega
          refine w_skip ?_
          refine at_seq ?_
          refine w_region ?_
          refine wmv ?_
          refine wv (x_mul rfl rfl (asN (2 * s) (by omega) (by omega))) ?_
          refine was ?_
          refine wl_nil ?_
          refine at_block_normal ?_
          exact at_again (n - 2 * s) [(0, .slice (some ⟨b, 0, none⟩) n cap), (1, .int .i64 n), (2, .func (.func 43) ([] : List Value).toArray ([] : List Value).toArray), (6, .int .i64 ((2 * s) : Nat))] (by omega) ⟨2 * s, dn, T', by rw [← hT', ← List.append_assoc]; exact hp2, by omega, hdn, hsT', by omega, by omega, rfl, hm1.trans hm2, by rw [← hT']; simp only [List.append_assoc], rfl⟩ (by repeat' (first | exact trivial | exact rfl | exact lk_int rfl (by omega) | apply And.intro))
    · skip
      refine w_exit ?_
      refine at_then_exit ?_
      refine at_then_exit ?_
      refine at_block_hit ?_
      refine at_end_normal (res0 rfl) ?_
      refine ⟨bl.flatten ++ T, hp, ?_, rfl⟩
      have hbll := hbl.len
      rcases bl with _ | ⟨x, _ | ⟨y, bl'⟩⟩
      · simpa using hsT
      · simp only [List.length_cons, List.length_nil, Nat.zero_add, Nat.one_mul] at hbll
        obtain rfl : T = [] := List.length_eq_zero_iff.1 (by omega)
        simpa using (hbl x (List.mem_cons_self ..)).2
      · simp only [List.length_cons, Nat.succ_mul] at hbll; omega

theorem sortStable_ok {m : Mem} {b n cap : Nat} {L R : List TV} (hn : L.length = n) (hl : n ≤ 4294967296) :
    Does Tryz.prog 46 #[.slice (some ⟨b, 0, none⟩) n cap, .func (.func 43) ([] : List Value).toArray ([] : List Value).toArray] m [(b, cl 72 (fl6 (L ++ R)))] fun _ m' H' => ∃ L', L'.Perm L ∧ Srt L' ∧ H' = [(b, cl 72 (fl6 (L' ++ R)))] := by
  refine enter Tryz.func46 rfl rfl ?_
  intro K hm0 hks
  refine w_region ?_
  refine wmv ?_
  refine wmv ?_
  refine wv (x_len Tryz.underlying28 rfl rfl) ?_
  refine wmv ?_
  refine wl_calld0 rfl rfl rfl Tryz.c103 (stable_ok hn hl) ?_; rintro v m1 H1 hm1 ⟨L', h1, h2, rfl⟩
  refine wl_nil ?_
  refine at_end_normal (res0 rfl) ?_
  exact ⟨L', h1, h2, rfl⟩
end Go.Cy


/- slices.IsSortedFunc. -/
namespace Go.Cy
open Go Go.Proofs
set_option maxRecDepth 20000

theorem isSorted_ok {m : Mem} {b n cap : Nat} {L R : List TV} (hn : L.length = n) (hl : n ≤ 4294967296) :
    Does Tryz.prog 45 #[.slice (some ⟨b, 0, none⟩) n cap, .func (.func 43) ([] : List Value).toArray ([] : List Value).toArray] m [(b, cl 72 (fl6 (L ++ R)))] fun r m' H' => ∃ c, r = .bool c ∧ (c = true → Srt L) ∧ H' = [(b, cl 72 (fl6 (L ++ R)))] := by
  refine enter Tryz.func45 rfl rfl ?_
  intro K hm0 hks
  refine wsr ?_
  refine was ?_
  refine wns ?_
  refine w_seq ?_
  refine wsr ?_
  refine wmv ?_
  refine wv (x_len Tryz.underlying28 rfl rfl) ?_
  refine wv (x_sub rfl rfl (wrap_i64 (by omega) (by omega))) ?_
  refine was ?_
  refine wns ?_
  refine w_block ?_
  refine w_loop (fun r m' H' env' => m.le m' ∧ r ≤ n ∧ Srt (L.drop (r - 1)) ∧ H' = [(b, cl 72 (fl6 (L ++ R)))] ∧ env' = [(0, .slice (some ⟨b, 0, none⟩) n cap), (1, .func (.func 43) ([] : List Value).toArray ([] : List Value).toArray), (4, .bool false), (5, .int .i64 ((r : Nat) - 1 : Int))]) n [(0, .slice (some ⟨b, 0, none⟩) n cap), (1, .func (.func 43) ([] : List Value).toArray ([] : List Value).toArray), (4, .bool false), (5, .int .i64 ((n : Nat) - 1 : Int))] ⟨Mem.le.refl _, Nat.le_refl _, Srt.short (by rw [List.length_drop]; omega), rfl, rfl⟩ (by repeat' (first | exact trivial | exact rfl | exact lk_int rfl (by omega) | apply And.intro)) ?_
  rintro k m1 H' env' ⟨hm1, hk, hs, rfl, rfl⟩
  refine w_seq ?_
  refine wsr ?_
  refine wmv ?_
  refine wv (x_gtr rfl rfl) ?_
  refine wns ?_
  refine w_if rfl (fun h1 => ?_) (fun h1 => ?_)
  · skip
    obtain ⟨A, u, x, B, rfl, hA⟩ : ∃ A u x B, L = A ++ u :: x :: B ∧ A.length + 2 = k := by
      obtain ⟨A, u, B', hL, hA⟩ := split_at L (k - 2) (by omega)
      rcases B' with _ | ⟨x, B⟩
      · have := congrArg List.length hL; simp at this; omega
      · exact ⟨A, u, x, B, hL, by omega⟩
    subst hA
    rw [show A ++ u :: x :: B = (A ++ [u]) ++ x :: B by simp, List.drop_left' (by simp)] at hs
    refine w_skip ?_
    refine at_seq ?_
    refine w_seq ?_
    refine w_block ?_
    refine w_seq ?_
    refine dr_start [] [[], [], [], [1, 2], [3], [], [], [6], [5, 7], [8]] ?_
    refine dr_val rfl rfl (fun m' hm' => ds_val rfl (x_move rfl)) ?_
    refine dr_val rfl rfl (fun m' hm' => ds_val rfl (x_move rfl)) ?_
    refine dr_val rfl rfl (fun m' hm' => ds_val rfl (x_move rfl)) ?_
    refine dr_val rfl rfl (fun m' hm' => ds_val rfl (x_index Tryz.underlying28 Tryz.size72 rfl rfl (j := (A.length + 1)) (by omega) (by omega))) ?_
    refine dr_val rfl rfl (fun m' hm' => ds_val rfl (x_loads Tryz.agg72 (by exact Tryz.size72) rfl (rowT (P := A ++ [u]) (x := x) (.head _) (by simp only [List.append_assoc, List.cons_append, List.nil_append]; rfl) (by simp only [List.length_append, List.length_singleton]; omega)))) ?_
    refine dr_val rfl rfl (fun m' hm' => ds_val rfl (x_move rfl)) ?_
    refine dr_val rfl rfl (fun m' hm' => ds_val rfl (x_move rfl)) ?_
    refine dr_val rfl rfl (fun m' hm' => ds_val rfl (x_sub rfl rfl (wrap_i64 (by omega) (by omega)))) ?_
    refine dr_val rfl rfl (fun m' hm' => ds_val rfl (x_index Tryz.underlying28 Tryz.size72 rfl rfl (j := A.length) (by omega) (by omega))) ?_
    refine dr_val rfl rfl (fun m' hm' => ds_val rfl (x_loads Tryz.agg72 (by exact Tryz.size72) rfl (rowT (P := A) (x := u) (.head _) (by simp only [List.append_assoc, List.cons_append]; rfl) (by omega)))) ?_
    refine dr_done (k := 10) Tryz.mixed rfl rfl rfl fun m2 hm_m2 => ?_
    show WL _ _ _ _ _ _ _ _ _
    refine wl_callvp rfl rfl rfl rfl Tryz.c43 (less_ok (x := x) (y := u)) ?_; rintro v3 m3 hm3 rfl
    refine wv (x_lss rfl rfl) ?_
    refine wns ?_
    refine w_if rfl (fun h2 => ?_) (fun h2 => ?_)
    · skip
      refine wsr ?_
      refine was ?_
      refine wns ?_
      refine w_ret ?_
      refine at_block_ret ?_
      refine at_then_ret ?_
      refine at_then_ret ?_
      refine at_block_ret ?_
      refine at_then_ret ?_
      refine at_end (res1 rfl rfl) ?_
      exact ⟨false, rfl, (fun h => by cases h), rfl⟩
    · skip
      refine w_skip ?_
      refine at_block_normal ?_
      refine at_seq ?_
      refine w_region ?_
      refine wmv ?_
      refine wv (x_sub rfl rfl ((wrap_i64 (by omega) (by omega)).trans (show _ = (((A.length + 1 : Nat) : Int) - 1) by omega))) ?_
      refine was ?_
      refine wl_nil ?_
      exact at_again (A.length + 1) [(0, .slice (some ⟨b, 0, none⟩) n cap), (1, .func (.func 43) ([] : List Value).toArray ([] : List Value).toArray), (4, .bool false), (5, .int .i64 (((A.length + 1) : Nat) - 1 : Int))] (by omega) ⟨hm1.trans (hm_m2.trans hm3), by omega, by rw [show A.length + 1 - 1 = A.length by omega, List.drop_left' rfl]; have h3 : u.le x := TV.le_of_nlt fun h => h2 (TV.lt_iff.2 h); exact Srt.cons.2 ⟨fun y hy => (List.mem_cons.1 hy).elim (fun e => e ▸ h3) (fun hy => TV.le_trans h3 ((Srt.cons.1 hs).1 y hy)), hs⟩, rfl, rfl⟩ (by repeat' (first | exact trivial | exact rfl | exact lk_int rfl (by omega) | apply And.intro))
  · skip
    refine w_exit ?_
    refine at_then_exit ?_
    refine at_then_exit ?_
    refine at_block_hit ?_
    refine at_seq ?_
    refine wsr ?_
    refine was ?_
    refine wns ?_
    refine w_ret ?_
    refine at_end (res1 rfl rfl) ?_
    exact ⟨true, rfl, (fun _ => by rw [show k - 1 = 0 by omega] at hs; exact hs), rfl⟩
end Go.Cy


/- integer.Normal, Add. -/
namespace Go.Cy
open Go Go.Proofs
set_option maxRecDepth 20000

theorem INormal_ok {m : Mem} {v : Value} {x : Int} (hv : In m v x) : Pure Tryz.prog 42 #[v] m fun r m' => Ic m' r x := by
  obtain ⟨n1, s1, a1, rfl, hs1, rfl⟩ := hv
  refine enterp Tryz.func42 rfl rfl ?_
  intro K hm0 hks
  refine wsr ?_
  refine wl_box rfl rfl rfl rfl ?_; intro b1
  refine wl_alloc rfl rfl Tryz.zero49 ?_; intro b2
  refine wnr ?_
  refine wv (x_fieldAddr Tryz.underlying49 rfl Tryz.size4 rfl) ?_
  refine wv (x_load Tryz.plain4 rfl (rowH1 (.tail _ (.head _)) rfl)) ?_
  refine wv (x_fieldAddr Tryz.underlying49 rfl Tryz.size47 rfl) ?_
  refine wv (x_load Tryz.plain47 rfl (rowH1 (.tail _ (.head _)) rfl)) ?_
  refine wl_callp rfl rfl rfl Tryz.c101 (From_ok hs1) ?_; rintro v3 m3 hm3 ⟨neg3, s3, a3, rfl, h2, h3, h4⟩
  obtain ⟨ad3, l3, c3, rfl⟩ := h2.slice
  refine wl_storeAll rfl (by exact Tryz.size49) rfl rfl (by simp [Value.oneCell']) rfl ?_
  refine wns ?_
  refine w_ret ?_
  refine at_endp (resA rfl ⟨⟨_, _, _, rfl, rowH0 (.head _), .inr ⟨Tryz.agg49, Tryz.size49, rfl⟩⟩, trivial⟩) ?_
  exact ⟨neg3, _, a3, rfl, h2, h3, h4⟩

theorem IAdd_ok {m : Mem} {v u : Value} {x y : Int} (hv : In m v x) (hu : In m u y) (hl : dlen x.natAbs ≤ 35184372088831 ∧ dlen y.natAbs ≤ 35184372088831) : Pure Tryz.prog 47 #[v, u] m fun r m' => Ic m' r (x + y) := by
  obtain ⟨n1, s1, a1, rfl, hs1, rfl⟩ := hv
  obtain ⟨n2, s2, a2, rfl, hs2, rfl⟩ := hu
  have e1 : (sg n1 a1).natAbs = a1 := by cases n1 <;> simp [sg]
  have e2 : (sg n2 a2).natAbs = a2 := by cases n2 <;> simp [sg]
  rw [e1, e2] at hl
  refine enterp Tryz.func47 rfl rfl ?_
  intro K hm0 hks
  refine wsr ?_
  refine wl_box rfl rfl rfl rfl ?_; intro b2
  refine wl_box rfl rfl rfl rfl ?_; intro b3
  refine wl_alloc rfl rfl Tryz.zero49 ?_; intro b4
  refine wns ?_
  refine w_seq ?_
  refine w_block ?_
  refine wsr ?_
  refine wv (x_fieldAddr Tryz.underlying49 rfl Tryz.size4 rfl) ?_
  refine wv (x_load Tryz.plain4 rfl (rowH1 (.tail _ (.tail _ (.head _))) rfl)) ?_
  refine wv (x_fieldAddr Tryz.underlying49 rfl Tryz.size4 rfl) ?_
  refine wv (x_load Tryz.plain4 rfl (rowH1 (.tail _ (.head _)) rfl)) ?_
  refine wv (x_eqlB Tryz.underlying4 rfl rfl) ?_
  refine was ?_
  refine wns ?_
  refine w_cond rfl (fun h1 => ?_) (fun h1 => ?_)
  · skip
    simp only [beq_iff_eq] at h1
    subst h1
    refine w_seq ?_
    refine dr_start [] [[], [0], [], [2], [], [4], [3, 5]] ?_
    refine dr_val rfl rfl (fun m' hm' => ds_val rfl (x_fieldAddr Tryz.underlying49 rfl Tryz.size4 rfl)) ?_
    refine dr_val rfl rfl (fun m' hm' => ds_val rfl (x_load Tryz.plain4 rfl (rowH1 (.tail _ (.tail _ (.head _))) rfl))) ?_
    refine dr_val rfl rfl (fun m' hm' => ds_val rfl (x_fieldAddr Tryz.underlying49 rfl Tryz.size47 rfl)) ?_
    refine dr_val rfl rfl (fun m' hm' => ds_val rfl (x_load Tryz.plain47 rfl (rowH1 (.tail _ (.tail _ (.head _))) rfl))) ?_
    refine dr_val rfl rfl (fun m' hm' => ds_val rfl (x_fieldAddr Tryz.underlying49 rfl Tryz.size47 rfl)) ?_
    refine dr_val rfl rfl (fun m' hm' => ds_val rfl (x_load Tryz.plain47 rfl (rowH1 (.tail _ (.head _)) rfl))) ?_
    refine dr_op (.ret (fun r m' => Nn m' r (a1 + a2)) (fun _ _ _ hm h => h.up hm)) rfl rfl (fun m' hm' => ds_call rfl rfl Tryz.c105 (Add_ok (hs1.up hm') (hs2.up hm') hl)) ?_
    refine dr_done (k := 7) Tryz.mixed rfl rfl rfl fun m1 hm_m1 v6 h6 => ?_
    show WL _ _ _ _ _ _ _ _ _
    refine wl_callp rfl rfl rfl Tryz.c104 (signed_ok h6) ?_; rintro v3 m3 hm3 ⟨neg3, s3, a3, rfl, h2, h3, h4⟩
    obtain ⟨ad3, l3, c3, rfl⟩ := h2.slice
    refine wl_storeAll rfl (by exact Tryz.size49) rfl rfl (by simp [Value.oneCell']) rfl ?_
    refine wns ?_
    refine w_ret ?_
    refine at_block_ret ?_
    refine at_then_ret ?_
    refine at_endp (resA rfl ⟨⟨_, _, _, rfl, rowH0 (.head _), .inr ⟨Tryz.agg49, Tryz.size49, rfl⟩⟩, trivial⟩) ?_
    refine ⟨neg3, _, a3, rfl, h2, ?_, h4⟩
    rw [← h3]
    cases n1 <;> simp [sg] <;> omega
  · skip
    refine wsr ?_
    refine wv (x_fieldAddr Tryz.underlying49 rfl Tryz.size47 rfl) ?_
    refine wv (x_load Tryz.plain47 rfl (rowH1 (.tail _ (.tail _ (.head _))) rfl)) ?_
    refine wv (x_fieldAddr Tryz.underlying49 rfl Tryz.size47 rfl) ?_
    refine wv (x_load Tryz.plain47 rfl (rowH1 (.tail _ (.head _)) rfl)) ?_
    refine wl_callp rfl rfl rfl Tryz.c106 (Cmp_ok hs1 hs2) ?_; rintro v1 m1 hm1 rfl
    refine wv (x_geq rfl rfl) ?_
    refine was ?_
    refine wns ?_
    refine w_if rfl (fun h2 => ?_) (fun h2 => ?_)
    · skip
      have hle : a2 ≤ a1 := by unfold cmpZ at h2; split at h2 <;> omega
      refine wsr ?_
      refine wv (x_fieldAddr Tryz.underlying49 rfl Tryz.size47 rfl) ?_
      refine wv (x_load Tryz.plain47 rfl (rowH1 (.tail _ (.tail _ (.head _))) rfl)) ?_
      refine wv (x_fieldAddr Tryz.underlying49 rfl Tryz.size47 rfl) ?_
      refine wv (x_load Tryz.plain47 rfl (rowH1 (.tail _ (.head _)) rfl)) ?_
      refine wl_callp rfl rfl rfl Tryz.c107 (Sub_ok (hs1.up hm1) (hs2.up hm1) hle (by omega)) ?_; rintro v2 m2 hm2 ⟨q, rfl, hq⟩
      refine wmv ?_
      refine wex ?_
      refine wex ?_
      refine was ?_
      refine was ?_
      refine wnr ?_
      refine wv (x_fieldAddr Tryz.underlying49 rfl Tryz.size4 rfl) ?_
      refine wv (x_load Tryz.plain4 rfl (rowH1 (.tail _ (.tail _ (.head _))) rfl)) ?_
      refine wmv ?_
      refine wl_callp rfl rfl rfl Tryz.c104 (signed_ok hq) ?_; rintro v3 m3 hm3 ⟨neg3, s3, a3, rfl, h5, h3, h4⟩
      obtain ⟨ad3, l3, c3, rfl⟩ := h5.slice
      refine wl_storeAll rfl (by exact Tryz.size49) rfl rfl (by simp [Value.oneCell']) rfl ?_
      refine wns ?_
      refine w_ret ?_
      refine at_block_ret ?_
      refine at_then_ret ?_
      refine at_endp (resA rfl ⟨⟨_, _, _, rfl, rowH0 (.head _), .inr ⟨Tryz.agg49, Tryz.size49, rfl⟩⟩, trivial⟩) ?_
      refine ⟨neg3, _, a3, rfl, h5, ?_, h4⟩
      rw [← h3]
      cases n1 <;> cases n2 <;> simp [sg] at h1 ⊢ <;> omega
    · skip
      have hle : a1 ≤ a2 := by unfold cmpZ at h2; split at h2 <;> omega
      refine w_skip ?_
      refine at_block_normal ?_
      refine at_seq ?_
      refine wsr ?_
      refine wv (x_fieldAddr Tryz.underlying49 rfl Tryz.size47 rfl) ?_
      refine wv (x_load Tryz.plain47 rfl (rowH1 (.tail _ (.head _)) rfl)) ?_
      refine wv (x_fieldAddr Tryz.underlying49 rfl Tryz.size47 rfl) ?_
      refine wv (x_load Tryz.plain47 rfl (rowH1 (.tail _ (.tail _ (.head _))) rfl)) ?_
      refine wl_callp rfl rfl rfl Tryz.c107 (Sub_ok (hs2.up hm1) (hs1.up hm1) hle (by omega)) ?_; rintro v2 m2 hm2 ⟨q, rfl, hq⟩
      refine wmv ?_
      refine wex ?_
      refine wex ?_
      refine was ?_
      refine was ?_
      refine wnr ?_
      refine wv (x_fieldAddr Tryz.underlying49 rfl Tryz.size4 rfl) ?_
      refine wv (x_load Tryz.plain4 rfl (rowH1 (.tail _ (.head _)) rfl)) ?_
      refine wmv ?_
      refine wl_callp rfl rfl rfl Tryz.c104 (signed_ok hq) ?_; rintro v3 m3 hm3 ⟨neg3, s3, a3, rfl, h5, h3, h4⟩
      obtain ⟨ad3, l3, c3, rfl⟩ := h5.slice
      refine wl_storeAll rfl (by exact Tryz.size49) rfl rfl (by simp [Value.oneCell']) rfl ?_
      refine wns ?_
      refine w_ret ?_
      refine at_endp (resA rfl ⟨⟨_, _, _, rfl, rowH0 (.head _), .inr ⟨Tryz.agg49, Tryz.size49, rfl⟩⟩, trivial⟩) ?_
      refine ⟨neg3, _, a3, rfl, h5, ?_, h4⟩
      rw [← h3]
      cases n1 <;> cases n2 <;> simp [sg] at h1 ⊢ <;> omega
end Go.Cy
