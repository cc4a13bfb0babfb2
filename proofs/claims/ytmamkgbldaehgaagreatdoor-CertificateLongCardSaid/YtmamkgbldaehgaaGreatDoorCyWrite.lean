/- certificate.writer: words, numbers, lines, trees. -/
import Derived.Test.YtmamkgbldaehgaaGreatDoorCyBld
import Derived.Test.YtmamkgbldaehgaaGreatDoorCyConv
import Derived.Lib.ItoaLen
namespace Go.Cy
open Go Go.Proofs
set_option maxRecDepth 20000

/-- The writer has written p behind L: all of it, or the text is too long already. -/
structure Wrote (L p L' : List UInt8) : Prop where
  lo : L.length ≤ L'.length
  hi : L'.length ≤ L.length + p.length
  eq : L' = L ++ p ∨ 1048576 < L'.length
theorem Wrote.all (L p : List UInt8) : Wrote L p (L ++ p) := ⟨by simp, by simp, .inl rfl⟩
theorem Wrote.none (L : List UInt8) : Wrote L [] L := ⟨Nat.le_refl _, by simp, .inl (by simp)⟩
theorem Wrote.full {L : List UInt8} (p : List UInt8) (h : 1048576 < L.length) : Wrote L p L := ⟨Nat.le_refl _, by omega, .inr h⟩
theorem Wrote.trans {L p L' q L'' : List UInt8} (h : Wrote L p L') (k : Wrote L' q L'') : Wrote L (p ++ q) L'' := by
  have h1 := h.lo; have h2 := h.hi; have k1 := k.lo; have k2 := k.hi
  refine ⟨by omega, by simp; omega, ?_⟩
  rcases h.eq with e | e
  · subst e
    rcases k.eq with e | e
    · subst e; exact .inl (by simp)
    · exact .inr e
  · exact .inr (by omega)
theorem Wrote.as {L p L' q : List UInt8} (h : Wrote L p L') (e : p = q) : Wrote L q L' := e ▸ h
theorem Wrote.app {L p L' q : List UInt8} (h : Wrote L p L') : Wrote L (p ++ q) (L' ++ q) := h.trans (Wrote.all _ _)

theorem start_ok {m : Mem} {T : TypeId} {b : Nat} {L s : List UInt8} {H : Hp} (hT : BT T) (h : Bld T b L H) (hl : L.length + s.length ≤ 35184372088832) : Does Tryz.prog 67 #[.pointer (some ⟨b, 0, none⟩), .string (B s)] m H fun r _ H' => r = .tuple #[] ∧ Bld T b (L ++ s) H' := by
  refine enter Tryz.func67 rfl rfl ?_
  intro K hm0 hks
  refine w_region ?_
  refine wl_val rfl rfl rfl (x_move rfl) ?_
  refine wl_val rfl rfl rfl (x_nilCheck rfl) ?_
  refine wl_val rfl rfl rfl (x_fieldAddr Tryz.underlying117 rfl Tryz.size115 rfl) ?_
  refine wl_val rfl rfl rfl (x_move rfl) ?_
  refine wl_calld0 rfl rfl rfl Tryz.c124 (WriteString_ok hT h hl) ?_; rintro v1 m1 H1 hm1 ⟨rfl, h1⟩
  refine wl_nil ?_
  refine at_end_normal (res0 rfl) ?_
  exact ⟨rfl, h1⟩
theorem wend_ok {m : Mem} {T : TypeId} {b : Nat} {L : List UInt8} {H : Hp} (hT : BT T) (h : Bld T b L H) (hl : L.length ≤ 35184372088832) : Does Tryz.prog 71 #[.pointer (some ⟨b, 0, none⟩)] m H fun r _ H' => r = .tuple #[] ∧ Bld T b (L ++ [10]) H' := by
  refine enter Tryz.func71 rfl rfl ?_
  intro K hm0 hks
  refine w_region ?_
  refine wl_val rfl rfl rfl (x_move rfl) ?_
  refine wl_val rfl rfl rfl (x_nilCheck rfl) ?_
  refine wl_val rfl rfl rfl (x_fieldAddr Tryz.underlying117 rfl Tryz.size115 rfl) ?_
  refine wl_calld0 rfl rfl rfl Tryz.c125 (WriteByte_ok (c := 10) hT h hl) ?_; rintro v1 m1 H1 hm1 ⟨rfl, h1⟩
  refine wl_nil ?_
  refine at_end_normal (res0 rfl) ?_
  exact ⟨rfl, h1⟩
theorem full_ok {m : Mem} {T : TypeId} {b : Nat} {L : List UInt8} {H : Hp} (h : Bld T b L H) : Does Tryz.prog 75 #[.pointer (some ⟨b, 0, none⟩)] m H fun r _ H' => r = .bool (decide (1048576 < L.length)) ∧ H' = H := by
  refine enter Tryz.func75 rfl rfl ?_
  intro K hm0 hks
  refine w_seq ?_
  refine w_region ?_
  refine wl_val rfl rfl rfl (x_assign rfl) ?_
  refine wl_nil ?_
  refine at_seq ?_
  refine w_seq ?_
  refine w_region ?_
  refine wl_val rfl rfl rfl (x_move rfl) ?_
  refine wl_val rfl rfl rfl (x_nilCheck rfl) ?_
  refine wl_val rfl rfl rfl (x_fieldAddr Tryz.underlying117 rfl Tryz.size115 rfl) ?_
  refine wl_calld0 rfl rfl rfl Tryz.c131 (BLen_ok h) ?_; rintro v1 m1 H1 hm1 ⟨rfl, rfl⟩
  refine wl_val rfl rfl rfl (x_gtr rfl rfl) ?_
  refine wl_val rfl rfl rfl (x_assign rfl) ?_
  refine wl_nil ?_
  refine at_seq ?_
  refine w_ret ?_
  refine at_end (res1 rfl rfl) ?_
  exact ⟨by congr 1; rw [decide_eq_decide]; omega, rfl⟩

/-- Strings in a row. -/
def wsv (ws : List (List UInt8)) : List Value := ws.map fun s => .string (B s)
theorem wsv_get {ws : List (List UInt8)} {i : Nat} (h : i < ws.length) : (wsv ws)[i]? = some (.string (B ws[i])) := by simp [wsv, h]
/-- Words, each with a blank before it. -/
def spaced (ws : List (List UInt8)) : List UInt8 := (ws.map fun s => 32 :: s).flatten
theorem spaced_append (x y : List (List UInt8)) : spaced (x ++ y) = spaced x ++ spaced y := by unfold spaced; rw [List.map_append, List.flatten_append]
theorem spaced_one (s : List UInt8) : spaced [s] = 32 :: s := by simp [spaced]
theorem spaced_snoc {ws : List (List UInt8)} {i : Nat} (h : i < ws.length) : spaced (ws.take (i + 1)) = spaced (ws.take i) ++ 32 :: ws[i] := by
  rw [List.take_succ_eq_append_getElem h, spaced_append, spaced_one]
theorem spaced_le {ws : List (List UInt8)} (i : Nat) : (spaced (ws.take i)).length ≤ (spaced ws).length := by
  conv => rhs; rw [← List.take_append_drop i ws, spaced_append]
  simp
theorem word_ok {m : Mem} {T : TypeId} {b bw : Nat} {L : List UInt8} {ws : List (List UInt8)} {Hb : Hp} (hT : BT T) (h : Bld T b L Hb) (hl : L.length + (spaced ws).length ≤ 35184372088832) (hw : ws.length ≤ 35184372088832) : Does Tryz.prog 68 #[.pointer (some ⟨b, 0, none⟩), .slice (some ⟨bw, 0, none⟩) ws.length ws.length] m ((bw, cl 9 (wsv ws)) :: Hb) fun r _ H' => r = .tuple #[] ∧ Bld T b (L ++ spaced ws) H' := by
  refine enter Tryz.func68 rfl rfl ?_
  intro K hm0 hks
  refine w_seq ?_
  refine w_region ?_
  refine wl_val rfl rfl rfl (x_move rfl) ?_
  refine wl_val rfl rfl rfl (x_len Tryz.underlying129 rfl rfl) ?_
  refine wl_val rfl rfl rfl (x_move rfl) ?_
  refine wl_nil ?_
  refine at_seq ?_
  refine w_block ?_
  refine w_loop (fun r m' H' env' => ∃ i Hb', r + i = ws.length ∧ Bld T b (L ++ spaced (ws.take i)) Hb' ∧ H' = (bw, cl 9 (wsv ws)) :: Hb' ∧ env' = [(0, .pointer (some ⟨b, 0, none⟩)), (6, .slice (some ⟨bw, 0, none⟩) ws.length ws.length), (7, .int .i64 ws.length), (8, .int .i64 (i : Nat))]) ws.length [(0, .pointer (some ⟨b, 0, none⟩)), (6, .slice (some ⟨bw, 0, none⟩) ws.length ws.length), (7, .int .i64 ws.length), (8, .int .i64 (0 : Nat))] ⟨0, _, rfl, by simpa [spaced] using h, rfl, rfl⟩ (by repeat' (first | exact trivial | exact rfl | exact lk_int rfl (by omega) | apply And.intro)) ?_
  rintro r m1 H' env' ⟨i, Hb1, hri, h1, rfl, rfl⟩
  refine w_seq ?_
  refine w_region ?_
  refine wl_val rfl rfl rfl (x_lss rfl rfl) ?_
  refine wl_nil ?_
  refine at_seq ?_
  refine w_seq ?_
  refine w_if rfl (fun h2 => ?_) (fun h2 => ?_)
  · skip
    have hi : i < ws.length := by omega
    have g1 := spaced_le (ws := ws) (i + 1)
    have g2 := spaced_snoc hi
    rw [g2] at g1
    simp only [List.length_append, List.length_cons] at g1
    refine w_skip ?_
    refine at_seq ?_
    refine w_seq ?_
    refine w_block ?_
    refine w_seq ?_
    refine w_region ?_
    refine wl_val rfl rfl rfl (x_index Tryz.underlying129 Tryz.size9 rfl rfl (j := i) (by omega) (by omega)) ?_
    refine wl_val rfl rfl rfl (x_load Tryz.plain9 rfl ((rowH1 (v := .string (B ws[i])) (.head _) (by rw [show 0 + i * 1 = i by omega]; exact wsv_get hi)))) ?_
    refine wl_val rfl rfl rfl (x_assign rfl) ?_
    refine wl_nil ?_
    refine at_seq ?_
    refine w_seq ?_
    refine w_region ?_
    refine wl_val rfl rfl rfl (x_move rfl) ?_
    refine wl_val rfl rfl rfl (x_nilCheck rfl) ?_
    refine wl_val rfl rfl rfl (x_fieldAddr Tryz.underlying117 rfl Tryz.size115 rfl) ?_
    refine wl_calld1 rfl rfl rfl Tryz.c125 (WriteByte_ok (c := 32) hT h1 (by simp; omega)) ?_; rintro v2 m2 H2 hm2 ⟨rfl, h3⟩
    refine wl_nil ?_
    refine at_seq ?_
    refine w_region ?_
    refine wl_val rfl rfl rfl (x_move rfl) ?_
    refine wl_val rfl rfl rfl (x_nilCheck rfl) ?_
    refine wl_val rfl rfl rfl (x_fieldAddr Tryz.underlying117 rfl Tryz.size115 rfl) ?_
    refine wl_val rfl rfl rfl (x_move rfl) ?_
    refine wl_calld1 rfl rfl rfl Tryz.c124 (WriteString_ok (s := ws[i]) hT h3 (by simp; omega)) ?_; rintro v4 m4 H4 hm4 ⟨rfl, h4⟩
    refine wl_nil ?_
    refine at_block_normal ?_
    refine at_seq ?_
    refine w_region ?_
    refine wl_val rfl rfl rfl (x_add rfl rfl (wrap_i64 (by omega) (by omega))) ?_
    refine wl_val rfl rfl rfl (x_move rfl) ?_
    refine wl_nil ?_
    exact at_again (r - 1) [(0, .pointer (some ⟨b, 0, none⟩)), (6, .slice (some ⟨bw, 0, none⟩) ws.length ws.length), (7, .int .i64 ws.length), (8, .int .i64 (i + 1 : Nat))] (by omega) ⟨i + 1, H4, by omega, by rw [g2]; simpa using h4, rfl, rfl⟩ (by repeat' (first | exact trivial | exact rfl | exact lk_int rfl (by omega) | apply And.intro))
  · skip
    obtain rfl : i = ws.length := by omega
    rw [List.take_length] at h1
    refine w_exit ?_
    refine at_then_exit ?_
    refine at_then_exit ?_
    refine at_block_hit ?_
    refine at_drop1 ?_
    refine at_end_normal (res0 rfl) ?_
    exact ⟨rfl, h1⟩
theorem wordm_ok {m : Mem} {T : TypeId} {b bw ow : Nat} {L : List UInt8} {ws : List (List UInt8)} {Hb : Hp} (hT : BT T) (h : Bld T b L Hb) (hr : Row m [] bw ow (wsv ws)) (hl : L.length + (spaced ws).length ≤ 35184372088832) (hw : ws.length ≤ 35184372088832) : Does Tryz.prog 68 #[.pointer (some ⟨b, 0, none⟩), .slice (some ⟨bw, ow, none⟩) ws.length ws.length] m Hb fun r _ H' => r = .tuple #[] ∧ Bld T b (L ++ spaced ws) H' := by
  refine enter Tryz.func68 rfl rfl ?_
  intro K hm0 hks
  refine w_seq ?_
  refine w_region ?_
  refine wl_val rfl rfl rfl (x_move rfl) ?_
  refine wl_val rfl rfl rfl (x_len Tryz.underlying129 rfl rfl) ?_
  refine wl_val rfl rfl rfl (x_move rfl) ?_
  refine wl_nil ?_
  refine at_seq ?_
  refine w_block ?_
  refine w_loop (fun r m' H' env' => ∃ i, m.le m' ∧ r + i = ws.length ∧ Bld T b (L ++ spaced (ws.take i)) H' ∧ env' = [(0, .pointer (some ⟨b, 0, none⟩)), (6, .slice (some ⟨bw, ow, none⟩) ws.length ws.length), (7, .int .i64 ws.length), (8, .int .i64 (i : Nat))]) ws.length [(0, .pointer (some ⟨b, 0, none⟩)), (6, .slice (some ⟨bw, ow, none⟩) ws.length ws.length), (7, .int .i64 ws.length), (8, .int .i64 (0 : Nat))] ⟨0, Mem.le.refl _, rfl, by simpa [spaced] using h, rfl⟩ (by repeat' (first | exact trivial | exact rfl | exact lk_int rfl (by omega) | apply And.intro)) ?_
  rintro r m1 H' env' ⟨i, hm1, hri, h1, rfl⟩
  refine w_seq ?_
  refine w_region ?_
  refine wl_val rfl rfl rfl (x_lss rfl rfl) ?_
  refine wl_nil ?_
  refine at_seq ?_
  refine w_seq ?_
  refine w_if rfl (fun h2 => ?_) (fun h2 => ?_)
  · skip
    have hi : i < ws.length := by omega
    have g1 := spaced_le (ws := ws) (i + 1)
    have g2 := spaced_snoc hi
    rw [g2] at g1
    simp only [List.length_append, List.length_cons] at g1
    refine w_skip ?_
    refine at_seq ?_
    refine w_seq ?_
    refine w_block ?_
    refine w_seq ?_
    refine w_region ?_
    refine wl_val rfl rfl rfl (x_index Tryz.underlying129 Tryz.size9 rfl rfl (j := i) (by omega) (by omega)) ?_
    refine wl_val rfl rfl rfl (x_load Tryz.plain9 rfl (((hr.up hm1).heap.nth i (wsv_get hi) (by omega)))) ?_
    refine wl_val rfl rfl rfl (x_assign rfl) ?_
    refine wl_nil ?_
    refine at_seq ?_
    refine w_seq ?_
    refine w_region ?_
    refine wl_val rfl rfl rfl (x_move rfl) ?_
    refine wl_val rfl rfl rfl (x_nilCheck rfl) ?_
    refine wl_val rfl rfl rfl (x_fieldAddr Tryz.underlying117 rfl Tryz.size115 rfl) ?_
    refine wl_calld0 rfl rfl rfl Tryz.c125 (WriteByte_ok (c := 32) hT h1 (by simp; omega)) ?_; rintro v2 m2 H2 hm2 ⟨rfl, h3⟩
    refine wl_nil ?_
    refine at_seq ?_
    refine w_region ?_
    refine wl_val rfl rfl rfl (x_move rfl) ?_
    refine wl_val rfl rfl rfl (x_nilCheck rfl) ?_
    refine wl_val rfl rfl rfl (x_fieldAddr Tryz.underlying117 rfl Tryz.size115 rfl) ?_
    refine wl_val rfl rfl rfl (x_move rfl) ?_
    refine wl_calld0 rfl rfl rfl Tryz.c124 (WriteString_ok (s := ws[i]) hT h3 (by simp; omega)) ?_; rintro v4 m4 H4 hm4 ⟨rfl, h4⟩
    refine wl_nil ?_
    refine at_block_normal ?_
    refine at_seq ?_
    refine w_region ?_
    refine wl_val rfl rfl rfl (x_add rfl rfl (wrap_i64 (by omega) (by omega))) ?_
    refine wl_val rfl rfl rfl (x_move rfl) ?_
    refine wl_nil ?_
    exact at_again (r - 1) [(0, .pointer (some ⟨b, 0, none⟩)), (6, .slice (some ⟨bw, ow, none⟩) ws.length ws.length), (7, .int .i64 ws.length), (8, .int .i64 (i + 1 : Nat))] (by omega) ⟨i + 1, hm1.trans (hm2.trans hm4), by omega, by rw [g2]; simpa using h4, rfl⟩ (by repeat' (first | exact trivial | exact rfl | exact lk_int rfl (by omega) | apply And.intro))
  · skip
    obtain rfl : i = ws.length := by omega
    rw [List.take_length] at h1
    refine w_exit ?_
    refine at_then_exit ?_
    refine at_then_exit ?_
    refine at_block_hit ?_
    refine at_end_normal (res0 rfl) ?_
    exact ⟨rfl, h1⟩
end Go.Cy

