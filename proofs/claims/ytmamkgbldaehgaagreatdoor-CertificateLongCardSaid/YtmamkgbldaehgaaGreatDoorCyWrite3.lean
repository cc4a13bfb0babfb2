/- certificate.writer.node. -/
import Derived.Test.YtmamkgbldaehgaaGreatDoorCyWrite2
namespace Go.Cy
open Go Go.Proofs
set_option maxRecDepth 20000

theorem Wrote.stop {L p Lc : List UInt8} (q : List UInt8) (h : Wrote L p Lc) (hf : 1048576 < Lc.length) : Wrote L (p ++ q) Lc := h.trans (Wrote.full q hf)

/-- What node writes of a tree. -/
def NdOk {α : Type} (C : Mem → Value → α → Prop) (txt : α → List UInt8) (t : Tr α) : Prop := ∀ (m : Mem) (b : Nat) (L : List UInt8) (Hb : Hp) (v : Value), Bld 117 b L Hb → Nd C m v t → Tab Tryz.prog m → t.size ≤ 35184372088832 → L.length + (t.text txt).length ≤ 35184372088832 →
  Does Tryz.prog 74 #[.pointer (some ⟨b, 0, none⟩), v] m Hb fun r _ H' => r = .tuple #[] ∧ ∃ L', Wrote L (t.text txt) L' ∧ Bld 117 b L' H'

def kindB (k : Int) (len : Nat) : List UInt8 := if k = 1 then [108, 101, 97, 102] else if k = 2 then [111, 110, 101] else if k = 3 then [97, 108, 108] ++ 32 :: itB len else []
theorem Tr.headB_kind (k : Int) (len : Nat) : Tr.headB k len = kindB k len ++ [10] := rfl

theorem nd_step {α : Type} {C : Mem → Value → α → Prop} {txt : α → List UInt8} (hC : ∀ m m' v a, m.le m' → C m v a → C m' v a) (hF : ∀ m v a, C m v a → Pure Tryz.prog 130 #[v] m fun r _ => r = .string (B (txt a))) {t : Tr α} (ih : ∀ t' : Tr α, t'.size < t.size → NdOk C txt t') : NdOk C txt t := by
  rintro m b L Hb v hB ⟨ad, cap, ws, rfl, hcap, hrep, hrow⟩ hT hsz hlen
  have hls := t.len_size
  have hlc := t.len_le_cells txt
  have hit := itB_len (n := (t.len : Int)) (by omega) (by omega)
  have htx : t.text txt = (kindB t.kind t.len ++ [10]) ++ t.cellsB txt := rfl
  have hlen0 := hlen
  rw [htx] at hlen
  simp only [List.length_append, List.length_cons, List.length_nil] at hlen
  refine enter Tryz.func74 rfl rfl ?_
  intro K hm0 hks
  refine w_seq ?_
  refine w_region ?_
  refine wl_box rfl rfl rfl rfl ?_; intro b3
  refine wl_nil ?_
  refine at_seq ?_
  refine w_seq_mid (fun m' H' env' => ∃ Hb', m.le m' ∧ H' = (b3, cl 45 [.int .i64 t.kind, .slice ad t.len cap]) :: Hb' ∧ Bld 117 b (L ++ kindB t.kind t.len) Hb' ∧ env' = [(0, .pointer (some ⟨b, 0, none⟩)), (3, .pointer (some ⟨b3, 0, none⟩))]) ?_ ?_
  · skip
    refine w_seq ?_
    refine w_region ?_
    refine wl_val rfl rfl rfl (x_fieldAddr Tryz.underlying45 rfl Tryz.size3 rfl) ?_
    refine wl_val rfl rfl rfl (x_load Tryz.plain3 rfl (rowH1 (.head _) rfl)) ?_
    refine wl_nil ?_
    refine at_seq ?_
    refine w_block ?_
    refine w_seq ?_
    refine w_region ?_
    refine wl_val rfl rfl rfl (x_eql rfl rfl) ?_
    refine wl_val rfl rfl rfl (x_assign rfl) ?_
    refine wl_nil ?_
    refine at_seq ?_
    refine w_if rfl (fun h1 => ?_) (fun h1 => ?_)
    · skip
      have hk : kindB t.kind t.len = [108, 101, 97, 102] := by rw [kindB, if_pos h1]
      have hkl : (kindB t.kind t.len).length = 4 := by rw [hk]; rfl
      refine w_region ?_
      refine wl_val rfl rfl rfl (x_move rfl) ?_
      refine wl_calld1 rfl rfl rfl Tryz.c67 (start_ok (s := [108, 101, 97, 102]) bt_writer hB (by simp; omega)) ?_; rintro v2 m2 H2 hm2 ⟨rfl, h2⟩
      refine wl_nil ?_
      refine at_block_normal ?_
      exact at_meets [(0, .pointer (some ⟨b, 0, none⟩)), (3, .pointer (some ⟨b3, 0, none⟩))] ⟨H2, hm2, rfl, by rw [hk]; exact h2, rfl⟩ (by repeat' (first | exact trivial | exact rfl | exact lk_int rfl (by omega) | apply And.intro))
    · skip
      refine w_seq ?_
      refine w_region ?_
      refine wl_val rfl rfl rfl (x_eql rfl rfl) ?_
      refine wl_val rfl rfl rfl (x_assign rfl) ?_
      refine wl_nil ?_
      refine at_seq ?_
      refine w_if rfl (fun h2 => ?_) (fun h2 => ?_)
      · skip
        have hk : kindB t.kind t.len = [111, 110, 101] := by rw [kindB, if_neg h1, if_pos h2]
        have hkl : (kindB t.kind t.len).length = 3 := by rw [hk]; rfl
        refine w_region ?_
        refine wl_val rfl rfl rfl (x_move rfl) ?_
        refine wl_calld1 rfl rfl rfl Tryz.c67 (start_ok (s := [111, 110, 101]) bt_writer hB (by simp; omega)) ?_; rintro v2 m2 H2 hm2 ⟨rfl, h3⟩
        refine wl_nil ?_
        refine at_block_normal ?_
        exact at_meets [(0, .pointer (some ⟨b, 0, none⟩)), (3, .pointer (some ⟨b3, 0, none⟩))] ⟨H2, hm2, rfl, by rw [hk]; exact h3, rfl⟩ (by repeat' (first | exact trivial | exact rfl | exact lk_int rfl (by omega) | apply And.intro))
      · skip
        refine w_seq ?_
        refine w_region ?_
        refine wl_val rfl rfl rfl (x_eql rfl rfl) ?_
        refine wl_val rfl rfl rfl (x_assign rfl) ?_
        refine wl_nil ?_
        refine at_seq ?_
        refine w_if rfl (fun h3 => ?_) (fun h3 => ?_)
        · skip
          have hk : kindB t.kind t.len = [97, 108, 108] ++ 32 :: itB t.len := by rw [kindB, if_neg h1, if_neg h2, if_pos h3]
          have hkl : (kindB t.kind t.len).length = 4 + (itB t.len).length := by rw [hk]; simp; omega
          refine w_seq ?_
          refine w_region ?_
          refine wl_val rfl rfl rfl (x_move rfl) ?_
          refine wl_calld1 rfl rfl rfl Tryz.c67 (start_ok (s := [97, 108, 108]) bt_writer hB (by simp; omega)) ?_; rintro v2 m2 H2 hm2 ⟨rfl, h4⟩
          refine wl_nil ?_
          refine at_seq ?_
          refine w_region ?_
          refine wl_val rfl rfl rfl (x_move rfl) ?_
          refine wl_val rfl rfl rfl (x_fieldAddr Tryz.underlying45 rfl Tryz.size43 rfl) ?_
          refine wl_val rfl rfl rfl (x_load Tryz.plain43 rfl (rowH1 (.head _) rfl)) ?_
          refine wl_val rfl rfl rfl (x_len Tryz.underlying43 rfl rfl) ?_
          refine wl_calld1 rfl rfl rfl Tryz.c70 (number_ok (n := t.len) bt_writer (hT.up hm2) h4 (by omega) (by omega) (by simp; omega)) ?_; rintro v5 m5 H5 hm5 ⟨rfl, h5⟩
          refine wl_nil ?_
          refine at_block_normal ?_
          exact at_meets [(0, .pointer (some ⟨b, 0, none⟩)), (3, .pointer (some ⟨b3, 0, none⟩))] ⟨H5, hm2.trans hm5, rfl, by rw [hk, ← List.append_assoc]; exact h5, rfl⟩ (by repeat' (first | exact trivial | exact rfl | exact lk_int rfl (by omega) | apply And.intro))
        · skip
          have hk : kindB t.kind t.len = [] := by rw [kindB, if_neg h1, if_neg h2, if_neg h3]
          refine w_skip ?_
          refine at_block_normal ?_
          exact at_meets [(0, .pointer (some ⟨b, 0, none⟩)), (3, .pointer (some ⟨b3, 0, none⟩))] ⟨Hb, Mem.le.refl _, rfl, by rw [hk, List.append_nil]; exact hB, rfl⟩ (by repeat' (first | exact trivial | exact rfl | exact lk_int rfl (by omega) | apply And.intro))
  · skip
    rintro m1 H' env' ⟨Hb1, hm1, rfl, hB1, rfl⟩
    refine w_seq ?_
    refine w_region ?_
    refine wl_val rfl rfl rfl (x_move rfl) ?_
    refine wl_calld1 rfl rfl rfl Tryz.c71 (wend_ok bt_writer hB1 (by simp; omega)) ?_; rintro v2 m2 H2 hm2 ⟨rfl, hB2⟩
    refine wl_nil ?_
    refine at_seq ?_
    refine w_seq ?_
    refine w_region ?_
    refine wl_val rfl rfl rfl (x_fieldAddr Tryz.underlying45 rfl Tryz.size43 rfl) ?_
    refine wl_val rfl rfl rfl (x_load Tryz.plain43 rfl (rowH1 (.head _) rfl)) ?_
    refine wl_val rfl rfl rfl (x_len Tryz.underlying43 rfl rfl) ?_
    refine wl_val rfl rfl rfl (x_move rfl) ?_
    refine wl_nil ?_
    refine at_seq ?_
    refine w_block ?_
    refine w_loop (fun r m' H' env' => ∃ i u vs Hb' Lc done, m2.le m' ∧ r = u.len ∧ i + u.len = t.len ∧ u.size ≤ t.size ∧ u.Rep C m vs ∧ (0 < u.len → ∃ b o, ad = some ⟨b, o, none⟩ ∧ Row m [] b (o + i * 9) vs) ∧ t.cellsB txt = done ++ u.cellsB txt ∧ Wrote L ((kindB t.kind t.len ++ [10]) ++ done) Lc ∧ Bld 117 b Lc Hb' ∧ H' = (b3, cl 45 [.int .i64 t.kind, .slice ad t.len cap]) :: Hb' ∧ env' = [(0, .pointer (some ⟨b, 0, none⟩)), (28, .slice ad t.len cap), (29, .int .i64 t.len), (30, .int .i64 (i : Nat))]) t.len [(0, .pointer (some ⟨b, 0, none⟩)), (28, .slice ad t.len cap), (29, .int .i64 t.len), (30, .int .i64 (0 : Nat))] ⟨0, t, ws, _, _, [], Mem.le.refl _, rfl, by omega, Nat.le_refl _, hrep, by simpa using hrow, rfl, (Wrote.all L (kindB t.kind t.len ++ [10])).as (List.append_nil _).symm, by rw [← List.append_assoc]; exact hB2, rfl, rfl⟩ (by repeat' (first | exact trivial | exact rfl | exact lk_int rfl (by omega) | apply And.intro)) ?_
    rintro r m3 H' env' ⟨i, u, vs, Hb3, Lc, done, hm3, rfl, hiu, hus, hur, hrow', hdone, hW, hB3, rfl, rfl⟩
    have hmm := hm1.trans (hm2.trans hm3)
    have hWl := hW.hi
    have hdl : (t.cellsB txt).length = done.length + (u.cellsB txt).length := by rw [hdone, List.length_append]
    simp only [List.length_append, List.length_cons, List.length_nil] at hWl
    refine w_seq ?_
    refine w_region ?_
    refine wl_val rfl rfl rfl (x_lss rfl rfl) ?_
    refine wl_nil ?_
    refine at_seq ?_
    refine w_seq ?_
    refine w_if rfl (fun h5 => ?_) (fun h5 => ?_)
    · skip
      obtain ⟨bn, on, rfl, hrw⟩ := hrow' (by omega)
      obtain ⟨a, s, rr, c0, c1, c2, c3, c4, c5, c6, ad', cap', ws', vs', rfl, rfl, hone, ha, hcap', hs', hrow2, hr'⟩ := Tr.all_cells C hur (by omega)
      have hss : s.size < t.size := by simp only [Tr.size] at hus; omega
      simp only [Tr.len] at hiu
      have hul : ((Tr.cons a s rr).cellsB txt).length = ((([97, 116] ++ 32 :: txt a) ++ [10]).length + ((s.text txt).length + (rr.cellsB txt).length)) := by simp only [Tr.cellsB, Tr.text, List.length_append]
      simp only [List.length_append, List.length_cons, List.length_nil] at hul
      refine w_skip ?_
      refine at_seq ?_
      refine w_seq ?_
      refine w_block ?_
      refine w_seq ?_
      refine w_region ?_
      refine wl_val rfl rfl rfl (x_index Tryz.underlying43 Tryz.size57 rfl rfl (j := i) (by omega) (by omega)) ?_
      refine wl_val rfl rfl rfl (x_loads Tryz.agg57 (by exact Tryz.size57) rfl (((hrw.pre [c0, c1, c2, c3, c4, c5, c6, .int .i64 s.kind, .slice ad' s.len cap']).up hmm).heap)) ?_
      refine wl_alloc rfl rfl Tryz.zero57 ?_; intro b5
      refine wl_storeAll rfl (by exact Tryz.size57) rfl rfl (by simpa [Value.oneCell'] using hone) rfl ?_
      refine wl_nil ?_
      refine at_seq ?_
      refine w_seq ?_
      refine w_seq ?_
      refine w_region ?_
      refine wl_val rfl rfl rfl (x_move rfl) ?_
      refine wl_calld2 rfl rfl rfl Tryz.c75 (full_ok hB3) ?_; rintro v4 m4 H4 hm4 ⟨rfl, rfl⟩
      refine wl_nil ?_
      refine at_seq ?_
      refine w_if rfl (fun h6 => ?_) (fun h6 => ?_)
      · skip
        refine w_ret ?_
        refine at_then_ret ?_
        refine at_block_ret ?_
        refine at_then_ret ?_
        refine at_then_ret ?_
        refine at_block_ret ?_
        refine at_drop1 ?_
        refine at_drop1 ?_
        refine at_end (res0 rfl) ?_
        exact ⟨rfl, Lc, by rw [htx, hdone, ← List.append_assoc]; exact hW.stop _ h6, hB3⟩
      · skip
        refine w_skip ?_
        refine at_seq ?_
        refine w_seq ?_
        refine w_region ?_
        refine wl_val rfl rfl rfl (x_move rfl) ?_
        refine wl_calld2 rfl rfl rfl Tryz.c67 (start_ok (s := [97, 116]) bt_writer hB3 (by simp; omega)) ?_; rintro v5 m5 H5 hm5 ⟨rfl, hB5⟩
        refine wl_nil ?_
        refine at_seq ?_
        refine w_seq ?_
        refine w_region ?_
        refine wl_val rfl rfl rfl (x_move rfl) ?_
        refine wl_val rfl rfl rfl (x_fieldAddr Tryz.underlying57 rfl Tryz.size55 rfl) ?_
        refine wl_val rfl rfl rfl (x_loads Tryz.agg55 (by exact Tryz.size55) rfl (rowHs (vs := [_, _, _, _, _, _, _]) (.head _) 0 rfl)) ?_
        refine wl_callp rfl rfl rfl Tryz.c130 (hF _ _ a (hC _ _ _ _ (hmm.trans (hm4.trans hm5)) ha)) ?_; rintro v6 m6 hm6 rfl
        refine wl_buildSlice rfl rfl Tryz.underlying129 Tryz.size9 Tryz.zero9 rfl rfl rfl rfl rfl ?_; intro b42
        refine wl_callw2 rfl rfl rfl Tryz.c68 (word_ok (ws := [txt a]) bt_writer hB5 (by rw [spaced_one]; simp; omega) (by simp)) ?_; rintro v7 m7 H7 hm7 ⟨rfl, hB7⟩
        refine wl_nil ?_
        refine at_seq ?_
        refine w_seq ?_
        refine w_region ?_
        refine wl_val rfl rfl rfl (x_move rfl) ?_
        refine wl_calld2 rfl rfl rfl Tryz.c71 (wend_ok bt_writer hB7 (by rw [spaced_one]; simp; omega)) ?_; rintro v8 m8 H8 hm8 ⟨rfl, hB8⟩
        refine wl_nil ?_
        refine at_seq ?_
        refine w_region ?_
        refine wl_val rfl rfl rfl (x_move rfl) ?_
        refine wl_val rfl rfl rfl (x_fieldAddr Tryz.underlying57 rfl Tryz.size45 rfl) ?_
        refine wl_val rfl rfl rfl (x_loads Tryz.agg45 (by exact Tryz.size45) rfl (rowHs (vs := [_, _]) (.head _) 7 rfl)) ?_
        refine wl_calld2 rfl rfl rfl Tryz.c74 (ih s hss _ b _ _ _ hB8 ⟨ad', cap', ws', rfl, hcap', hs'.up hC (hmm.trans (hm4.trans (hm5.trans (hm6.trans (hm7.trans hm8))))), fun h0 => by obtain ⟨b, o, e, hr⟩ := hrow2 h0; exact ⟨b, o, e, hr.up (hmm.trans (hm4.trans (hm5.trans (hm6.trans (hm7.trans hm8)))))⟩⟩ (hT.up (hmm.trans (hm4.trans (hm5.trans (hm6.trans (hm7.trans hm8)))))) (by omega) (by rw [spaced_one]; simp; omega)) ?_; rintro v9 m9 H9 hm9 ⟨rfl, L9, hW9, hB9⟩
        refine wl_nil ?_
        refine at_block_normal ?_
        refine at_seq ?_
        refine w_region ?_
        refine wl_val rfl rfl rfl (x_add rfl rfl (wrap_i64 (by omega) (by omega))) ?_
        refine wl_val rfl rfl rfl (x_move rfl) ?_
        refine wl_nil ?_
        refine at_drop1 ?_
        exact at_again rr.len [(0, .pointer (some ⟨b, 0, none⟩)), (28, .slice (some ⟨bn, on, none⟩) t.len cap), (29, .int .i64 t.len), (30, .int .i64 (i + 1 : Nat))] (by simp only [Tr.len]; omega) ⟨i + 1, rr, vs', H9, L9, done ++ ((([97, 116] ++ 32 :: txt a) ++ [10]) ++ s.text txt), hm3.trans (hm4.trans (hm5.trans (hm6.trans (hm7.trans (hm8.trans hm9))))), rfl, by omega, by simp only [Tr.size] at hus; omega, hr', fun _ => ⟨bn, on, rfl, hrw.suf [_, _, _, _, _, _, _, _, _] (by simp; omega)⟩, by rw [hdone, Tr.cellsB]; simp [Tr.text], ((((hW.app (q := [97, 116])).app (q := spaced [txt a])).app (q := [10])).trans hW9).as (by rw [spaced_one]; simp), hB9, rfl, rfl⟩ (by repeat' (first | exact trivial | exact rfl | exact lk_int rfl (by omega) | apply And.intro))
    · skip
      have hu0 := Tr.of_len0 (show u.len = 0 by omega)
      refine w_exit ?_
      refine at_then_exit ?_
      refine at_then_exit ?_
      refine at_block_hit ?_
      refine at_drop1 ?_
      refine at_end_normal (res0 rfl) ?_
      exact ⟨rfl, Lc, hW.as (by rw [htx, hdone, hu0]; simp [Tr.cellsB]), hB3⟩
theorem node_ok {α : Type} {C : Mem → Value → α → Prop} {txt : α → List UInt8} (hC : ∀ m m' v a, m.le m' → C m v a → C m' v a) (hF : ∀ m v a, C m v a → Pure Tryz.prog 130 #[v] m fun r _ => r = .string (B (txt a))) (t : Tr α) : NdOk C txt t := by
  suffices h : ∀ n, ∀ t : Tr α, t.size < n → NdOk C txt t from h _ t (Nat.lt_succ_self _)
  intro n
  induction n with
  | zero => exact fun t h => absurd h (Nat.not_lt_zero _)
  | succ n ih => exact fun t h => nd_step hC hF fun t' ht' => ih t' (by omega)
theorem validNode_ok {α : Type} {C : Mem → Value → α → Prop} (hC : ∀ m m' v a, m.le m' → C m v a → C m' v a) (t : Tr α) : VnOk C t := by
  suffices h : ∀ n, ∀ t : Tr α, t.size < n → VnOk C t from h _ t (Nat.lt_succ_self _)
  intro n
  induction n with
  | zero => exact fun t h => absurd h (Nat.not_lt_zero _)
  | succ n ih => exact fun t h => vn_step hC fun t' ht' => ih t' (by omega)
end Go.Cy

