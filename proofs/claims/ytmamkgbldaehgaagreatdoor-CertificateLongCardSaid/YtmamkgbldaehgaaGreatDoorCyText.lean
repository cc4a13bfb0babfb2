/- checksign.formatFrac, and Format of rational coordinates. -/
import Derived.Test.YtmamkgbldaehgaaGreatDoorCyDec2
namespace Go.Cy
open Go Go.Proofs
set_option maxRecDepth 20000

/-- The text of a fraction. -/
def fracB (z : Int) (d : Nat) : List UInt8 := decB (lowZ z d) ++ if 1 < blen (lowD z d) then [47] ++ decB (lowD z d) else []
theorem decB_len (z : Int) : (decB z).length ≤ 10 * dlen z.natAbs + 1 := by
  unfold decB
  have := revD_len z.natAbs
  split
  · simp
  · split <;> simp <;> omega
theorem Fc.den_pos {m : Mem} {v : Value} {z : Int} {d : Nat} (h : Fc m v z d) : Fi m v z d := h.fi

theorem formatFrac_ok {m : Mem} {v : Value} {z : Int} {d : Nat} (h : Fi m v z d) (hs : z.natAbs < 4294967296 ∧ d < 4294967296) : Pure Tryz.prog 181 #[v] m fun r _ => r = .string (B (fracB z d)) := by
  have h' := h
  obtain ⟨n0, x1, l1, y1, x2, l2, y2, rfl⟩ := h.agg
  have a1 := lowZ_le z d
  have b1 := lowD_le1 z d
  have c1 := dlen_small (n := (lowZ z d).natAbs) (by omega)
  have c3 := dlen_small (n := lowD z d) (by omega)
  have g1 := decB_len (lowZ z d)
  have g2 := decB_len (lowD z d)
  rw [Int.natAbs_natCast] at g2
  refine enterp Tryz.func181 rfl rfl ?_
  intro K hm0 hks
  refine w_seq ?_
  refine w_region ?_
  refine wl_box rfl rfl rfl rfl ?_; intro b1
  refine wl_val rfl rfl rfl (x_assign rfl) ?_
  refine wl_nil ?_
  refine at_seq ?_
  refine w_seq ?_
  refine w_region ?_
  refine wl_val rfl rfl rfl (x_loads Tryz.agg53 (by exact Tryz.size53) rfl (rowH0 (.head _))) ?_
  refine wl_callp rfl rfl rfl Tryz.c83 (Lowest_ok h' hs) ?_; rintro v1 m1 hm1 h1
  have h1' := h1
  obtain ⟨n1, s1, a1, t1, rfl, hS, e1, hneg, ht⟩ := h1
  obtain ⟨q1, q2, q3, rfl⟩ := hS.slice
  obtain ⟨q4, q5, q6, rfl⟩ := ht.slice
  refine wl_storeAll rfl (by exact Tryz.size53) rfl rfl (by simp [Value.oneCell']) rfl ?_
  refine wl_nil ?_
  refine at_seq ?_
  refine w_seq ?_
  refine w_region ?_
  refine wl_val rfl rfl rfl (x_fieldAddr Tryz.underlying53 rfl Tryz.size49 rfl) ?_
  refine wl_val rfl rfl rfl (x_loads Tryz.agg49 (by exact Tryz.size49) rfl (rowHs (vs := [_, _]) (.head _) 0 rfl)) ?_
  refine wl_callp rfl rfl rfl Tryz.c129 (DecFormat_ok (z := lowZ z d) (e1 ▸ In.of hS.nt) (by omega)) ?_; rintro v2 m2 hm2 rfl
  refine wl_val rfl rfl rfl (x_assign rfl) ?_
  refine wl_nil ?_
  refine at_seq ?_
  refine w_seq ?_
  refine w_seq ?_
  refine w_region ?_
  refine wl_val rfl rfl rfl (x_fieldAddr Tryz.underlying53 rfl Tryz.size47 rfl) ?_
  refine wl_val rfl rfl rfl (x_load Tryz.plain47 rfl (rowH1 (.head _) rfl)) ?_
  refine wl_callp rfl rfl rfl Tryz.c213 (BitLen_ok (ht.nt.up hm2)) ?_; rintro v3 m3 hm3 rfl
  refine wl_val rfl rfl rfl (x_gtr rfl rfl) ?_
  refine wl_nil ?_
  refine at_seq ?_
  refine w_if rfl (fun h2 => ?_) (fun h2 => ?_)
  · skip
    refine w_region ?_
    refine wl_val rfl rfl rfl (x_move rfl) ?_
    refine wl_val rfl rfl rfl (x_loads Tryz.agg53 (by exact Tryz.size53) rfl (rowH0 (.head _))) ?_
    refine wl_callp rfl rfl rfl Tryz.c140 (den_ok (h1'.fi.up (hm2.trans hm3))) ?_; rintro v4 m4 hm4 h4
    refine wl_callp rfl rfl rfl Tryz.c129 (DecFormat_ok h4.in' (by rw [Int.natAbs_natCast]; omega)) ?_; rintro v5 m5 hm5 rfl
    refine wl_val rfl rfl rfl (x_concat rfl rfl (by rw [show (ByteArray.mk [47].toArray) = B [47] from rfl, B_size, B_size]; simp; omega)) ?_
    refine wl_val rfl rfl rfl (x_concat rfl rfl (by rw [show (ByteArray.mk [47].toArray) = B [47] from rfl, B_append, B_size, B_size]; simp; omega)) ?_
    refine wl_val rfl rfl rfl (x_assign rfl) ?_
    refine wl_nil ?_
    refine at_seq ?_
    refine w_seq ?_
    refine w_region ?_
    refine wl_val rfl rfl rfl (x_move rfl) ?_
    refine wl_val rfl rfl rfl (x_assign rfl) ?_
    refine wl_nil ?_
    refine at_seq ?_
    refine w_ret ?_
    refine at_endp (res1 rfl rfl) ?_
    rw [show (ByteArray.mk [47].toArray) = B [47] from rfl, B_append, B_append, fracB, if_pos (by omega)]
  · skip
    refine w_skip ?_
    refine at_seq ?_
    refine w_seq ?_
    refine w_region ?_
    refine wl_val rfl rfl rfl (x_move rfl) ?_
    refine wl_val rfl rfl rfl (x_assign rfl) ?_
    refine wl_nil ?_
    refine at_seq ?_
    refine w_ret ?_
    refine at_endp (res1 rfl rfl) ?_
    rw [fracB, if_neg (by omega), List.append_nil]

theorem fracB_len (z : Int) (d : Nat) (hs : z.natAbs < 4294967296 ∧ d < 4294967296) : (fracB z d).length ≤ 100 := by
  have a1 := lowZ_le z d
  have b1 := lowD_le1 z d
  have c1 := dlen_small (n := (lowZ z d).natAbs) (by omega)
  have c3 := dlen_small (n := lowD z d) (by omega)
  have g1 := decB_len (lowZ z d)
  have g2 := decB_len (lowD z d)
  rw [Int.natAbs_natCast] at g2
  unfold fracB
  split <;> simp <;> omega

/-- The text of a coordinate with one value. -/
theorem CFormat_ok {m : Mem} {p f1 f2 f3 g1 g2 g3 : Value} {z1 z2 : Int} {d1 d2 : Nat} (h1 : Fi m (.agg #[f1, f2, f3]) z1 d1) (h2 : Fi m (.agg #[g1, g2, g3]) z2 d2) (hs1 : z1.natAbs < 4294967296 ∧ d1 < 4294967296) (hs2 : z2.natAbs < 4294967296 ∧ d2 < 4294967296) (he : lowZ z1 d1 * lowD z2 d2 = lowZ z2 d2 * lowD z1 d1) :
    Pure Tryz.prog 130 #[.agg #[p, f1, f2, f3, g1, g2, g3]] m fun r _ => r = .string (B (61 :: fracB z1 d1)) := by
  have hl := fracB_len z1 d1 hs1
  refine enterp Tryz.func130 rfl rfl ?_
  intro K hm0 hks
  refine w_seq ?_
  refine w_region ?_
  refine wl_box rfl rfl rfl rfl ?_; intro b1
  refine wl_val rfl rfl rfl (x_assign rfl) ?_
  refine wl_nil ?_
  refine at_seq ?_
  refine w_seq ?_
  refine w_seq ?_
  refine w_region ?_
  refine wl_val rfl rfl rfl (x_fieldAddr Tryz.underlying55 rfl Tryz.size53 rfl) ?_
  refine wl_val rfl rfl rfl (x_loads Tryz.agg53 (by exact Tryz.size53) rfl (rowHs (vs := [_, _, _]) (.head _) 1 rfl)) ?_
  refine wl_val rfl rfl rfl (x_fieldAddr Tryz.underlying55 rfl Tryz.size53 rfl) ?_
  refine wl_val rfl rfl rfl (x_loads Tryz.agg53 (by exact Tryz.size53) rfl (rowHs (vs := [_, _, _]) (.head _) 4 rfl)) ?_
  refine wl_callp rfl rfl rfl Tryz.c84 (FCmp_ok h1 h2 hs1 hs2) ?_; rintro v1 m1 hm1 rfl
  refine wl_val rfl rfl rfl (x_eql rfl rfl) ?_
  refine wl_nil ?_
  refine at_seq ?_
  refine w_if rfl (fun h0 => ?_) (fun h0 => ?_)
  · skip
    refine w_seq ?_
    refine w_region ?_
    refine wl_val rfl rfl rfl (x_fieldAddr Tryz.underlying55 rfl Tryz.size53 rfl) ?_
    refine wl_val rfl rfl rfl (x_loads Tryz.agg53 (by exact Tryz.size53) rfl (rowHs (vs := [_, _, _]) (.head _) 1 rfl)) ?_
    refine wl_callp rfl rfl rfl Tryz.c181 (formatFrac_ok (h1.up hm1) hs1) ?_; rintro v2 m2 hm2 rfl
    refine wl_val rfl rfl rfl (x_concat rfl rfl (by rw [show (ByteArray.mk [61].toArray) = B [61] from rfl, B_size, B_size]; simp; omega)) ?_
    refine wl_val rfl rfl rfl (x_assign rfl) ?_
    refine wl_nil ?_
    refine at_seq ?_
    refine w_ret ?_
    refine at_then_ret ?_
    refine at_endp (res1 rfl rfl) ?_
    rw [show (ByteArray.mk [61].toArray) = B [61] from rfl, B_append]
    rfl
  · skip
    exact absurd (by rw [he]; simp [cmpI]) h0
end Go.Cy

