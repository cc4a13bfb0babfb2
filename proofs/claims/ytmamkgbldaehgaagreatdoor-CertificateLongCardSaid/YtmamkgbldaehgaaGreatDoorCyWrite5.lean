/- certificate.writer.factors. -/
import Derived.Test.YtmamkgbldaehgaaGreatDoorCyWrite4
namespace Go.Cy
open Go Go.Proofs
set_option maxRecDepth 20000

/-- A factorization. -/
structure Fct where
  scale : Int
  unit : Int
  powers : List (Int × Int × Int)
def PwC (_ : Mem) (vs : List Value) (p : Int × Int × Int) : Prop := vs = [.int .i64 p.1, .int .i64 p.2.1, .int .i64 p.2.2]
def FcC (m : Mem) (vs : List Value) (f : Fct) : Prop := ∃ n1 s1 n2 s2 pw, vs = [.bool n1, s1, .bool n2, s2, pw] ∧ In m (.agg #[.bool n1, s1]) f.scale ∧ In m (.agg #[.bool n2, s2]) f.unit ∧ Sl 3 PwC m pw f.powers
theorem PwC.up : ∀ m m' vs a, m.le m' → PwC m vs a → PwC m' vs a := fun _ _ _ _ _ h => h
theorem FcC.up : ∀ m m' vs a, m.le m' → FcC m vs a → FcC m' vs a := fun _ _ _ _ hm ⟨n1, s1, n2, s2, pw, h1, h2, h3, h4⟩ => ⟨n1, s1, n2, s2, pw, h1, h2.up hm, h3.up hm, h4.up PwC.up hm⟩
theorem In.slice {m : Mem} {n : Bool} {s : Value} {z : Int} (h : In m (.agg #[.bool n, s]) z) : ∃ ad l c, s = .slice ad l c := by
  obtain ⟨neg, s', a, e, h1, _⟩ := h
  cases e
  exact h1.slice
/-- A factorization that can be written. -/
def pwOk (p : Int × Int × Int) : Bool := decide (1 ≤ p.1) && decide (p.1 ≤ 4) && decide (0 ≤ p.2.1) && decide (p.2.1 ≤ 1073741824) && decide (1 ≤ p.2.2) && decide (p.2.2 ≤ 1073741824)
theorem pwOk.bd {p : Int × Int × Int} (h : pwOk p = true) : 1 ≤ p.1 ∧ p.1 ≤ 4 ∧ 0 ≤ p.2.1 ∧ p.2.1 ≤ 1073741824 ∧ 1 ≤ p.2.2 ∧ p.2.2 ≤ 1073741824 := by
  simp only [pwOk, Bool.and_eq_true, decide_eq_true_eq] at h
  omega

def pwB (p : Int × Int × Int) : List UInt8 := (((itB p.1 ++ [46]) ++ itB p.2.1) ++ [94]) ++ itB p.2.2
def factHd (f : Fct) : List UInt8 := [102, 97, 99, 116, 111, 114] ++ spaced [decB f.scale, decB f.unit]
def factB (f : Fct) : List UInt8 := (factHd f ++ cat (fun p => 32 :: pwB p) f.powers) ++ [10]
def factsHd (n : Nat) : List UInt8 := ([102, 97, 99, 116, 111, 114, 115] ++ 32 :: itB n) ++ [10]
def factsB (fs : List Fct) : List UInt8 := factsHd fs.length ++ cat factB fs

theorem factors_ok {m : Mem} {b : Nat} {L : List UInt8} {Hb : Hp} {v : Value} {fs : List Fct} (hB : Bld 117 b L Hb) (hv : Sl 5 FcC m v fs) (hT : Tab Tryz.prog m) (hl1 : fs.length ≤ 35184372088832) (hl2 : ∀ f ∈ fs, f.powers.length ≤ 35184372088832 ∧ (∀ p ∈ f.powers, pwOk p = true) ∧ dlen f.scale.natAbs ≤ 1000000000000 ∧ dlen f.unit.natAbs ≤ 1000000000000) (hlen : L.length + (factsB fs).length ≤ 35184372088832) :
    Does Tryz.prog 73 #[.pointer (some ⟨b, 0, none⟩), v] m Hb fun r _ H' => r = .tuple #[] ∧ ∃ L', Wrote L (factsB fs) L' ∧ Bld 117 b L' H' := by
  obtain ⟨ad, cap, rfl⟩ := hv.slice
  have hit := itB_len (n := (fs.length : Int)) (by omega) (by omega)
  have htx : factsB fs = factsHd fs.length ++ cat factB fs := rfl
  have hhd : (factsHd fs.length).length = 9 + (itB fs.length).length := by simp [factsHd]; omega
  rw [htx, List.length_append] at hlen
  refine enter Tryz.func73 rfl rfl ?_
  intro K hm0 hks
  refine w_seq ?_
  refine w_region ?_
  refine wl_val rfl rfl rfl (x_move rfl) ?_
  refine wl_calld0 rfl rfl rfl Tryz.c67 (start_ok (s := [102, 97, 99, 116, 111, 114, 115]) bt_writer hB (by simp; omega)) ?_; rintro v1 m1 H1 hm1 ⟨rfl, hB1⟩
  refine wl_nil ?_
  refine at_seq ?_
  refine w_seq ?_
  refine w_region ?_
  refine wl_val rfl rfl rfl (x_move rfl) ?_
  refine wl_val rfl rfl rfl (x_move rfl) ?_
  refine wl_val rfl rfl rfl (x_len Tryz.underlying59 rfl rfl) ?_
  refine wl_calld0 rfl rfl rfl Tryz.c70 (number_ok (n := fs.length) bt_writer (hT.up hm1) hB1 (by omega) (by omega) (by simp; omega)) ?_; rintro v2 m2 H2 hm2 ⟨rfl, hB2⟩
  refine wl_nil ?_
  refine at_seq ?_
  refine w_seq ?_
  refine w_region ?_
  refine wl_val rfl rfl rfl (x_move rfl) ?_
  refine wl_calld0 rfl rfl rfl Tryz.c71 (wend_ok bt_writer hB2 (by simp; omega)) ?_; rintro v3 m3 H3 hm3 ⟨rfl, hB3⟩
  refine wl_nil ?_
  refine at_seq ?_
  refine w_seq ?_
  refine w_region ?_
  refine wl_val rfl rfl rfl (x_move rfl) ?_
  refine wl_val rfl rfl rfl (x_len Tryz.underlying59 rfl rfl) ?_
  refine wl_val rfl rfl rfl (x_move rfl) ?_
  refine wl_nil ?_
  refine at_seq ?_
  refine w_block ?_
  have hm03 := hm1.trans (hm2.trans hm3)
  refine w_loop (fun r m' H' env' => ∃ i Lc, m3.le m' ∧ r + i = fs.length ∧ Wrote L (factsHd fs.length ++ cat factB (fs.take i)) Lc ∧ Bld 117 b Lc H' ∧ env' = [(0, .pointer (some ⟨b, 0, none⟩)), (16, .slice ad fs.length cap), (17, .int .i64 fs.length), (18, .int .i64 (i : Nat))]) fs.length [(0, .pointer (some ⟨b, 0, none⟩)), (16, .slice ad fs.length cap), (17, .int .i64 fs.length), (18, .int .i64 (0 : Nat))] ⟨0, _, Mem.le.refl _, rfl, (Wrote.all L (factsHd fs.length)).as (by simp [cat]), by simpa [factsHd] using hB3, rfl⟩ (by repeat' (first | exact trivial | exact rfl | exact lk_int rfl (by omega) | apply And.intro)) ?_
  rintro r m4 H4 env' ⟨i, Lc, hm4, hri, hW, hB4, rfl⟩
  have hWl := hW.hi
  rw [List.length_append] at hWl
  refine w_seq ?_
  refine w_region ?_
  refine wl_val rfl rfl rfl (x_lss rfl rfl) ?_
  refine wl_nil ?_
  refine at_seq ?_
  refine w_seq ?_
  refine w_if rfl (fun h1 => ?_) (fun h1 => ?_)
  · skip
    have hi : i < fs.length := by omega
    have hcl := congrArg List.length (cat_split factB hi)
    obtain ⟨bl, ol, vs, rfl, hvl, ⟨n1, s1, n2, s2, pw, rfl, hI1, hI2, hpw⟩, hrow⟩ := hv.get hi
    obtain ⟨sa1, sl1, sc1, rfl⟩ := hI1.slice
    obtain ⟨sa2, sl2, sc2, rfl⟩ := hI2.slice
    obtain ⟨ad', cap', rfl⟩ := hpw.slice
    obtain ⟨hli, hpo, hds, hdu⟩ := hl2 _ (List.getElem_mem hi)
    have hlb : (factB fs[i]).length = (factHd fs[i]).length + (cat (fun p => 32 :: pwB p) fs[i].powers).length + 1 := by simp [factB]; omega
    have hlh : (factHd fs[i]).length = 6 + (spaced [decB fs[i].scale, decB fs[i].unit]).length := by simp [factHd]; omega
    rw [List.length_append, List.length_append] at hcl
    refine w_skip ?_
    refine at_seq ?_
    refine w_seq ?_
    refine w_block ?_
    refine w_seq ?_
    refine w_region ?_
    refine wl_val rfl rfl rfl (x_index Tryz.underlying59 Tryz.size135 rfl rfl (j := i) (by omega) (by omega)) ?_
    refine wl_val rfl rfl rfl (x_loads Tryz.agg135 (by exact Tryz.size135) rfl (((hrow.up (hm03.trans hm4)).heap))) ?_
    refine wl_alloc rfl rfl Tryz.zero135 ?_; intro b5
    refine wl_storeAll rfl (by exact Tryz.size135) rfl rfl (by simp [Value.oneCell']) rfl ?_
    refine wl_nil ?_
    refine at_seq ?_
    refine w_seq ?_
    refine w_region ?_
    refine wl_val rfl rfl rfl (x_move rfl) ?_
    refine wl_calld1 rfl rfl rfl Tryz.c67 (start_ok (s := [102, 97, 99, 116, 111, 114]) bt_writer hB4 (by simp; omega)) ?_; rintro v5 m5 H5 hm5 ⟨rfl, hB5⟩
    refine wl_nil ?_
    refine at_seq ?_
    refine w_seq ?_
    have hm05 := hm03.trans (hm4.trans hm5)
    refine dr_start [] [[], [], [1], [2], [], [4], [5], [3, 6]] ?_
    refine dr_val rfl rfl (fun m' hm' => ds_val rfl (x_move rfl)) ?_
    refine dr_val rfl rfl (fun m' hm' => ds_val rfl (x_fieldAddr Tryz.underlying135 rfl Tryz.size49 rfl)) ?_
    refine dr_val rfl rfl (fun m' hm' => ds_val rfl (x_loads Tryz.agg49 (by exact Tryz.size49) rfl (rowHs (vs := [_, _]) (.head _) 0 rfl))) ?_
    refine dr_val rfl rfl (fun m' hm' => ds_callc rfl rfl Tryz.c129 (DecFormat_ok (z := fs[i].scale) (hI1.up (hm05.trans hm')) hds)) ?_
    refine dr_val rfl rfl (fun m' hm' => ds_val rfl (x_fieldAddr Tryz.underlying135 rfl Tryz.size49 rfl)) ?_
    refine dr_val rfl rfl (fun m' hm' => ds_val rfl (x_loads Tryz.agg49 (by exact Tryz.size49) rfl (rowHs (vs := [_, _]) (.head _) 2 rfl))) ?_
    refine dr_val rfl rfl (fun m' hm' => ds_callc rfl rfl Tryz.c129 (DecFormat_ok (z := fs[i].unit) (hI2.up (hm05.trans hm')) hdu)) ?_
    refine dr_op (.ret (fun v m => ∃ b, v = .slice (some ⟨b, 0, none⟩) 2 2 ∧ Row m [] b 0 ([.string (B (decB fs[i].scale)), .string (B (decB fs[i].unit))])) (fun _ _ _ hm ⟨b, e, h⟩ => ⟨b, e, h.up hm⟩)) rfl rfl (fun m' hm' => by show DStep _ _ _ _ _ _ _ _ _; exact ds_buildSlice rfl Tryz.underlying129 Tryz.size9 Tryz.zero9 rfl rfl rfl rfl rfl) ?_
    refine dr_done (k := 8) Tryz.mixed rfl rfl rfl fun m6 hm_m6 v7 h7 => ?_
    show WL _ _ _ _ _ _ _ _ _
    obtain ⟨bw, rfl, hbw⟩ := h7
    refine wl_calld1 rfl rfl rfl Tryz.c68 (wordm_ok (ws := [decB fs[i].scale, decB fs[i].unit]) bt_writer hB5 hbw (by simp; omega) (by simp)) ?_; rintro v7 m7 H7 hm7 ⟨rfl, hB7⟩
    refine wl_nil ?_
    refine at_seq ?_
    refine w_seq ?_
    refine w_seq ?_
    refine w_region ?_
    refine wl_val rfl rfl rfl (x_fieldAddr Tryz.underlying135 rfl Tryz.size133 rfl) ?_
    refine wl_val rfl rfl rfl (x_load Tryz.plain133 rfl (rowH1 (.head _) rfl)) ?_
    refine wl_val rfl rfl rfl (x_len Tryz.underlying133 rfl rfl) ?_
    refine wl_val rfl rfl rfl (x_move rfl) ?_
    refine wl_nil ?_
    refine at_seq ?_
    refine w_block ?_
    have hm07 := hm05.trans (hm_m6.trans hm7)
    refine w_drop1 ?_
    refine w_loop (fun r m' H' env' => ∃ j Lc', m7.le m' ∧ r + j = fs[i].powers.length ∧ Wrote L ((factsHd fs.length ++ cat factB (fs.take i)) ++ (factHd fs[i] ++ cat (fun p => 32 :: pwB p) (fs[i].powers.take j))) Lc' ∧ Bld 117 b Lc' H' ∧ env' = [(0, .pointer (some ⟨b, 0, none⟩)), (16, .slice (some ⟨bl, ol, none⟩) fs.length cap), (17, .int .i64 fs.length), (18, .int .i64 (i : Nat)), (34, .slice ad' fs[i].powers.length cap'), (35, .int .i64 fs[i].powers.length), (36, .int .i64 (j : Nat))]) fs[i].powers.length [(0, .pointer (some ⟨b, 0, none⟩)), (16, .slice (some ⟨bl, ol, none⟩) fs.length cap), (17, .int .i64 fs.length), (18, .int .i64 (i : Nat)), (34, .slice ad' fs[i].powers.length cap'), (35, .int .i64 fs[i].powers.length), (36, .int .i64 (0 : Nat))] ⟨0, _, Mem.le.refl _, rfl, (hW.app (q := factHd fs[i])).as (by simp [cat]), by rw [List.append_assoc] at hB7; exact hB7, rfl⟩ (by repeat' (first | exact trivial | exact rfl | exact lk_int rfl (by omega) | apply And.intro)) ?_
    rintro r2 m8 H8 env' ⟨j, Lc', hm8, hrj, hW8, hB8, rfl⟩
    have hWl8 := hW8.hi
    rw [List.length_append, List.length_append, List.length_append] at hWl8
    refine w_seq ?_
    refine w_region ?_
    refine wl_val rfl rfl rfl (x_lss rfl rfl) ?_
    refine wl_nil ?_
    refine at_seq ?_
    refine w_seq ?_
    refine w_if rfl (fun h2 => ?_) (fun h2 => ?_)
    · skip
      have hj : j < fs[i].powers.length := by omega
      have hcl2 := congrArg List.length (cat_split (fun p => 32 :: pwB p) hj)
      rw [List.length_append, List.length_append, List.length_cons] at hcl2
      obtain ⟨bq, oq, vs', rfl, hvl', hpe, hrow'⟩ := hpw.get hj
      have hpb := pwOk.bd (hpo _ (List.getElem_mem hj))
      generalize hpp : fs[i].powers[j] = p at hpe hpb hcl2
      obtain rfl := hpe
      refine w_skip ?_
      refine at_seq ?_
      refine w_seq ?_
      refine w_block ?_
      refine w_seq ?_
      refine w_region ?_
      refine wl_val rfl rfl rfl (x_index Tryz.underlying133 Tryz.size139 rfl rfl (j := j) (by omega) (by omega)) ?_
      refine wl_val rfl rfl rfl (x_loads Tryz.agg139 (by exact Tryz.size139) rfl (((hrow'.up (hm07.trans hm8)).heap))) ?_
      refine wl_alloc rfl rfl Tryz.zero139 ?_; intro b7
      refine wl_storeAll rfl (by exact Tryz.size139) rfl rfl (by simp [Value.oneCell']) rfl ?_
      refine wl_nil ?_
      refine at_seq ?_
      refine w_seq ?_
      refine w_seq ?_
      refine w_region ?_
      refine wl_val rfl rfl rfl (x_move rfl) ?_
      refine wl_calld1 rfl rfl rfl Tryz.c75 (full_ok hB8) ?_; rintro v9 m9 H9 hm9 ⟨rfl, rfl⟩
      refine wl_nil ?_
      refine at_seq ?_
      refine w_if rfl (fun h6 => ?_) (fun h6 => ?_)
      · skip
        refine w_ret ?_
        refine at_then_ret ?_
        refine at_block_ret ?_
        refine at_then_ret ?_
        refine at_then_ret ?_
        refine at_block_ret ?_
        refine at_then_ret ?_
        refine at_block_ret ?_
        refine at_then_ret ?_
        refine at_then_ret ?_
        refine at_block_ret ?_
        refine at_drop1 ?_
        refine at_end (res0 rfl) ?_
        refine ⟨rfl, Lc', ?_, hB8⟩
        have e : factsB fs = ((factsHd fs.length ++ cat factB (fs.take i)) ++ (factHd fs[i] ++ cat (fun p => 32 :: pwB p) (fs[i].powers.take j))) ++ (cat (fun p => 32 :: pwB p) (fs[i].powers.drop j) ++ [10] ++ cat factB (fs.drop (i + 1))) := by
          rw [htx, cat_split factB hi, factB]
          conv => lhs; rw [← List.take_append_drop j fs[i].powers, cat_append]
          simp
        rw [e]
        exact hW8.stop _ h6
      · skip
        have t1 := itB_len (n := p.1) (by omega) (by omega)
        have t2 := itB_len (n := p.2.1) (by omega) (by omega)
        have t3 := itB_len (n := p.2.2) (by omega) (by omega)
        have tp : pwB p = (((itB p.1 ++ [46]) ++ itB p.2.1) ++ [94]) ++ itB p.2.2 := rfl
        have tl : (pwB p).length ≤ 65 := by rw [tp]; simp; omega
        have hm09 := hm07.trans (hm8.trans hm9)
        refine w_skip ?_
        refine at_seq ?_
        refine dr_start [] [[], [], [1], [2], [3], [], [5], [6], [4, 7], [8], [], [10], [11], [9, 12], [13]] ?_
        refine dr_val rfl rfl (fun m' hm' => ds_val rfl (x_move rfl)) ?_
        refine dr_val rfl rfl (fun m' hm' => ds_val rfl (x_fieldAddr Tryz.underlying139 rfl Tryz.size3 rfl)) ?_
        refine dr_val rfl rfl (fun m' hm' => ds_val rfl (x_load Tryz.plain3 rfl (rowH1 (.head _) rfl))) ?_
        refine dr_val rfl rfl (fun m' hm' => ds_callc rfl rfl Tryz.c127 (Itoa_ok (n := p.1) (hT.up (hm09.trans hm')) (by omega) (by omega))) ?_
        refine dr_val rfl rfl (fun m' hm' => ds_val rfl (x_concat rfl rfl (by rw [show (ByteArray.mk [46].toArray) = B [46] from rfl, B_size, B_size]; simp; unfold itB at t1; omega))) ?_
        refine dr_val rfl rfl (fun m' hm' => ds_val rfl (x_fieldAddr Tryz.underlying139 rfl Tryz.size3 rfl)) ?_
        refine dr_val rfl rfl (fun m' hm' => ds_val rfl (x_load Tryz.plain3 rfl (rowH1 (.head _) rfl))) ?_
        refine dr_val rfl rfl (fun m' hm' => ds_callc rfl rfl Tryz.c127 (Itoa_ok (n := p.2.1) (hT.up (hm09.trans hm')) (by omega) (by omega))) ?_
        refine dr_val rfl rfl (fun m' hm' => ds_val rfl (x_concat rfl rfl (by rw [show (ByteArray.mk [46].toArray) = B [46] from rfl, B_append, B_size, B_size]; simp; unfold itB at t1 t2; omega))) ?_
        refine dr_val rfl rfl (fun m' hm' => ds_val rfl (x_concat rfl rfl (by rw [show (ByteArray.mk [46].toArray) = B [46] from rfl, show (ByteArray.mk [94].toArray) = B [94] from rfl, B_append, B_append, B_size, B_size]; simp; unfold itB at t1 t2; omega))) ?_
        refine dr_val rfl rfl (fun m' hm' => ds_val rfl (x_fieldAddr Tryz.underlying139 rfl Tryz.size3 rfl)) ?_
        refine dr_val rfl rfl (fun m' hm' => ds_val rfl (x_load Tryz.plain3 rfl (rowH1 (.head _) rfl))) ?_
        refine dr_val rfl rfl (fun m' hm' => ds_callc rfl rfl Tryz.c127 (Itoa_ok (n := p.2.2) (hT.up (hm09.trans hm')) (by omega) (by omega))) ?_
        refine dr_val rfl rfl (fun m' hm' => ds_val rfl (x_concat rfl rfl (by rw [show (ByteArray.mk [46].toArray) = B [46] from rfl, show (ByteArray.mk [94].toArray) = B [94] from rfl, B_append, B_append, B_append, B_size, B_size]; simp; unfold itB at t1 t2 t3; omega))) ?_
        refine dr_op (.ret (fun v m => ∃ b, v = .slice (some ⟨b, 0, none⟩) 1 1 ∧ Row m [] b 0 ([.string ((((B (itB p.1) ++ ByteArray.mk [46].toArray) ++ B (itB p.2.1)) ++ ByteArray.mk [94].toArray) ++ B (itB p.2.2))])) (fun _ _ _ hm ⟨b, e, h⟩ => ⟨b, e, h.up hm⟩)) rfl rfl (fun m' hm' => by show DStep _ _ _ _ _ _ _ _ _; exact ds_buildSlice rfl Tryz.underlying129 Tryz.size9 Tryz.zero9 rfl rfl rfl rfl rfl) ?_
        refine dr_done (k := 15) Tryz.mixed rfl rfl rfl fun m10 hm_m10 v14 h14 => ?_
        show WL _ _ _ _ _ _ _ _ _
        obtain ⟨bw, rfl, hbw⟩ := h14
        rw [show (ByteArray.mk [46].toArray) = B [46] from rfl, show (ByteArray.mk [94].toArray) = B [94] from rfl, B_append, B_append, B_append, B_append, ← tp] at hbw
        refine wl_calld1 rfl rfl rfl Tryz.c68 (wordm_ok (ws := [pwB p]) bt_writer hB8 hbw (by rw [spaced_one]; simp; omega) (by simp)) ?_; rintro v11 m11 H11 hm11 ⟨rfl, hB11⟩
        refine wl_nil ?_
        refine at_block_normal ?_
        refine at_seq ?_
        refine w_region ?_
        refine wl_val rfl rfl rfl (x_add rfl rfl (wrap_i64 (by omega) (by omega))) ?_
        refine wl_val rfl rfl rfl (x_move rfl) ?_
        refine wl_nil ?_
        refine at_drop1 ?_
        exact at_again (r2 - 1) [(0, .pointer (some ⟨b, 0, none⟩)), (16, .slice (some ⟨bl, ol, none⟩) fs.length cap), (17, .int .i64 fs.length), (18, .int .i64 (i : Nat)), (34, .slice (some ⟨bq, oq, none⟩) fs[i].powers.length cap'), (35, .int .i64 fs[i].powers.length), (36, .int .i64 (j + 1 : Nat))] (by omega) ⟨j + 1, _, hm8.trans (hm9.trans (hm_m10.trans hm11)), by omega, (hW8.app (q := spaced [pwB p])).as (by rw [cat_snoc _ hj, hpp, spaced_one]; simp), hB11, rfl⟩ (by repeat' (first | exact trivial | exact rfl | exact lk_int rfl (by omega) | apply And.intro))
    · skip
      obtain rfl : j = fs[i].powers.length := by omega
      rw [List.take_length] at hW8 hWl8
      refine w_exit ?_
      refine at_then_exit ?_
      refine at_then_exit ?_
      refine at_block_hit ?_
      refine at_seq ?_
      refine w_region ?_
      refine wl_val rfl rfl rfl (x_move rfl) ?_
      refine wl_calld0 rfl rfl rfl Tryz.c71 (wend_ok bt_writer hB8 (by omega)) ?_; rintro v8 m8' H8' hm8' ⟨rfl, hB8'⟩
      refine wl_nil ?_
      refine at_block_normal ?_
      refine at_seq ?_
      refine w_region ?_
      refine wl_val rfl rfl rfl (x_add rfl rfl (wrap_i64 (by omega) (by omega))) ?_
      refine wl_val rfl rfl rfl (x_move rfl) ?_
      refine wl_nil ?_
      exact at_again (r - 1) [(0, .pointer (some ⟨b, 0, none⟩)), (16, .slice (some ⟨bl, ol, none⟩) fs.length cap), (17, .int .i64 fs.length), (18, .int .i64 (i + 1 : Nat))] (by omega) ⟨i + 1, _, hm4.trans (hm5.trans (hm_m6.trans (hm7.trans (hm8.trans hm8')))), by omega, (hW8.app (q := [10])).as (by rw [cat_snoc _ hi, factB]; simp), hB8', rfl⟩ (by repeat' (first | exact trivial | exact rfl | exact lk_int rfl (by omega) | apply And.intro))
  · skip
    obtain rfl : i = fs.length := by omega
    rw [List.take_length] at hW
    refine w_exit ?_
    refine at_then_exit ?_
    refine at_then_exit ?_
    refine at_block_hit ?_
    refine at_end_normal (res0 rfl) ?_
    exact ⟨rfl, Lc, hW, hB4⟩
end Go.Cy

