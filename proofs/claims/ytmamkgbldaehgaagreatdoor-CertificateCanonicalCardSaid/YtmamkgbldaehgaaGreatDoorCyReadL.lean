/- checksign.Parse. -/
import Derived.Test.YtmamkgbldaehgaaGreatDoorCyCanon
import Derived.Test.YtmamkgbldaehgaaGreatDoorCyDecP
namespace Go.Cy
open Go Go.Proofs
set_option maxRecDepth 20000

theorem Pok.psm {n : Nat} {L : List UInt8} {ts : List Tm} (h : Pok n L ts) (hn : n ≤ 1048576) (hl : L.length ≤ 1048576) : Psm ts := by
  have h1 := h.len
  have h2 := tot_dlen (n := n + 1) (ts := ts) (fun t ht => ⟨(h.tb t ht).1, (h.can.2 t ht).2.1, (h.tb t ht).2⟩) (by omega)
  refine ⟨by omega, by omega, fun t ht e he => ?_, ?_⟩
  · rw [nrm_can h.can] at ht
    have := (h.tb t ht).2 e he; omega
  · rw [nrm_can h.can, h.txt]; omega
theorem psm_nil : Psm [] := by
  have h : Can [] := ⟨.nil, fun _ h => absurd h List.not_mem_nil⟩
  refine ⟨by simp, by rw [tot, dlen_zero]; omega, fun t ht => ?_, ?_⟩
  · rw [nrm_can h] at ht; simp at ht
  · rw [nrm_can h]; simp [polyB]
structure Cok (L : List UInt8) (c : Co) : Prop where
  sm : Csm c
  low1 : lowZ c.z1 c.d1 = c.z1 ∧ lowD c.z1 c.d1 = c.d1
  low2 : lowZ c.z2 c.d2 = c.z2 ∧ lowD c.z2 c.d2 = c.d2
  can : Can c.ts
  nil : c.eq → c.ts = []
  txt : coB c = L
noncomputable def pCoord (L : List UInt8) : Option Co := match pCo L with
  | some c => if coB c = L then some c else none
  | none => none
theorem pFrac_low {L : List UInt8} {z : Int} {d : Nat} (h : pFrac L = some (z, d)) : lowZ z d = z ∧ lowD z d = d := by
  unfold pFrac at h
  rcases hc : cutB 47 L with ⟨a, _ | q⟩
  · rw [hc] at h
    simp only at h
    rcases hp : pInt a with _ | n
    · rw [hp] at h; cases h
    · rw [hp] at h
      simp only [Option.some.injEq, Prod.mk.injEq] at h
      obtain ⟨rfl, rfl⟩ := h
      exact low_low _ _
  · rw [hc] at h
    simp only at h
    rcases hp : pInt a with _ | n
    · rw [hp] at h; cases h
    · rw [hp] at h
      simp only at h
      rcases hq : pInt q with _ | d'
      · rw [hq] at h; cases h
      · rw [hq] at h
        simp only [pDen] at h
        split at h
        · cases h
        · simp only [Option.some.injEq, Prod.mk.injEq] at h
          obtain ⟨rfl, rfl⟩ := h
          exact low_low _ _
theorem pCo_ok {L : List UInt8} {c : Co} (h : pCo L = some c) (hl : L.length ≤ 1048576) : Csm c ∧ (lowZ c.z1 c.d1 = c.z1 ∧ lowD c.z1 c.d1 = c.d1) ∧ (lowZ c.z2 c.d2 = c.z2 ∧ lowD c.z2 c.d2 = c.d2) ∧ Can c.ts ∧ (c.ts = [] ∨ L.take 1 = [40]) := by
  have hdl : (L.drop 1).length ≤ 1048576 := by rw [List.length_drop]; omega
  unfold pCo at h
  by_cases hA : L.take 1 = [61]
  · rw [if_pos hA] at h
    rcases hf : pFrac (L.drop 1) with _ | ⟨z, d⟩
    · rw [hf] at h; cases h
    · rw [hf] at h
      simp only [Option.map_some, Option.some.injEq] at h
      subst h
      have h1 := pFrac_low hf
      have h2 := pFrac_le hf
      refine ⟨⟨⟨by show dlen z.natAbs ≤ _; omega, by show dlen d ≤ _; omega⟩, ⟨by show dlen (lowZ z d).natAbs ≤ _; rw [h1.1]; omega, by show dlen (lowD z d) ≤ _; rw [h1.2]; omega⟩, psm_nil⟩, h1, low_low _ _, ⟨.nil, fun _ h => absurd h List.not_mem_nil⟩, .inl rfl⟩
  · rw [if_neg hA] at h
    by_cases hB : L.take 1 = [40]
    · rw [if_pos hB] at h
      rcases hc : cutB 41 (L.drop 1) with ⟨a, _ | q⟩
      · rw [hc] at h; cases h
      · rw [hc] at h
        simp only at h
        have hLe := cutB_some hc
        have hal : a.length ≤ 1048576 := by rw [hLe] at hdl; simp at hdl; omega
        have hqll : q.length ≤ 1048576 := by rw [hLe] at hdl; simp at hdl; omega
        rcases hd : cutB 44 a with ⟨x, _ | y⟩
        · rw [hd] at h; cases h
        · rw [hd] at h
          simp only at h
          have hLf := cutB_some hd
          have hxl : x.length ≤ 1048576 := by rw [hLf] at hal; simp at hal; omega
          have hyl : y.length ≤ 1048576 := by rw [hLf] at hal; simp at hal; omega
          rcases hx : pFrac x with _ | ⟨z1, d1⟩
          · rw [hx] at h; cases h
          rcases hy : pFrac y with _ | ⟨z2, d2⟩
          · rw [hx, hy] at h; cases h
          rcases hq : pPoly q with _ | ts
          · rw [hx, hy, hq] at h; cases h
          rw [hx, hy, hq] at h
          simp only [Option.some.injEq] at h
          subst h
          have h1 := pFrac_le hx
          have h2 := pFrac_le hy
          have h3 := pPoly_ok hq hqll
          exact ⟨⟨⟨by show dlen z1.natAbs ≤ _; omega, by show dlen d1 ≤ _; omega⟩, ⟨by show dlen z2.natAbs ≤ _; omega, by show dlen d2 ≤ _; omega⟩, h3.psm hqll hqll⟩, pFrac_low hx, pFrac_low hy, h3.can, .inr hB⟩
    · rw [if_neg hB] at h; cases h
theorem pCoord_ok {L : List UInt8} {c : Co} (h : pCoord L = some c) (hl : L.length ≤ 1048576) : Cok L c := by
  unfold pCoord at h
  rcases hc : pCo L with _ | c'
  · rw [hc] at h; cases h
  · rw [hc] at h
    simp only at h
    split at h
    · rename_i he
      injection h with h
      subst h
      obtain ⟨h1, h2, h3, h4, h5⟩ := pCo_ok hc hl
      refine ⟨h1, h2, h3, h4, fun e => h5.resolve_right fun h6 => ?_, he⟩
      rw [coB, if_pos e] at he
      rw [← he] at h6
      simp at h6
    · cases h
def CoordR (m : Mem) (r : Value) (o : Option Co) : Prop := match o with
  | some c => ∃ p f1 f2 f3 g1 g2 g3, r = .tuple #[.agg #[p, f1, f2, f3, g1, g2, g3], .int .i64 0] ∧ Fc m (.agg #[f1, f2, f3]) c.z1 c.d1 ∧ Fc m (.agg #[g1, g2, g3]) c.z2 c.d2 ∧ Cv m p c.ts
  | none => r = .tuple #[.agg #[.slice none 0 0, .bool false, .slice none 0 0, .slice none 0 0, .bool false, .slice none 0 0, .slice none 0 0], .int .i64 9]
theorem CoordR.of {m : Mem} {r : Value} {o o' : Option Co} (h : CoordR m r o) (e : o' = o) : CoordR m r o' := e ▸ h
theorem CParse_ok {m : Mem} {L : List UInt8} (hw : Wd m) (hE : Er m) (hT : Tab Tryz.prog m) (hl : L.length ≤ 1048576) : Pure Tryz.prog 138 #[.string (B L)] m fun r m' => CoordR m' r (pCoord L) := by
  refine enterp Tryz.func138 rfl rfl ?_
  intro K hm0 hks
  rcases hc : pCo L with _ | c
  · skip
    refine wsr ?_
    refine wl_alloc rfl rfl Tryz.zero55 ?_; intro b2
    refine was ?_
    refine wnr ?_
    refine wmv ?_
    refine wl_callp rfl rfl rfl Tryz.c188 (cparse_ok hw hE hT hl) ?_; rintro v1 m1 hm1 h1
    rw [hc] at h1
    obtain rfl := h1
    refine wmv ?_
    refine wex ?_
    refine wex ?_
    refine wl_alloc rfl rfl Tryz.zero55 ?_; intro b4
    refine wl_storeAll rfl (by exact Tryz.size55) rfl rfl (by simp [Value.oneCell']) rfl ?_
    refine was ?_
    refine wns ?_
    refine w_seq ?_
    refine wsr ?_
    refine wmv ?_
    refine wv (x_not rfl rfl) ?_
    refine wmv ?_
    refine wl_off rfl rfl rfl ?_
    refine wl_off rfl rfl rfl ?_
    refine wl_off rfl rfl rfl ?_
    refine wl_off rfl rfl rfl ?_
    refine wv (x_pick_t rfl rfl) ?_
    refine wns ?_
    refine w_true rfl ?_
    refine wsr ?_
    refine wv (x_build (cs := [_, _, _, _, _, _, _]) Tryz.underlying55 Tryz.places55 Tryz.zero55 rfl rfl) ?_
    refine wl_front1 ?_
    refine wl_storeAll rfl (by exact Tryz.size55) rfl rfl (by simp [Value.oneCell']) rfl ?_
    refine was ?_
    refine wns ?_
    refine w_ret ?_
    refine at_then_ret ?_
    refine at_endp (resAs (vs := [_, _]) rfl rfl ⟨⟨_, _, _, rfl, rowH0 (.head _), .inr ⟨Tryz.agg55, Tryz.size55, rfl⟩⟩, rfl, trivial⟩) ?_
    exact CoordR.of (o := none) rfl (by unfold pCoord; rw [hc])
  · skip
    obtain ⟨hsm, _⟩ := pCo_ok hc hl
    by_cases he : coB c = L
    · skip
      refine wsr ?_
      refine wl_alloc rfl rfl Tryz.zero55 ?_; intro b2
      refine was ?_
      refine wnr ?_
      refine wmv ?_
      refine wl_callp rfl rfl rfl Tryz.c188 (cparse_ok hw hE hT hl) ?_; rintro v1 m1 hm1 h1
      rw [hc] at h1
      obtain ⟨p, f1, f2, f3, g1, g2, g3, rfl, h2, h3, h4⟩ := h1
      obtain ⟨a9, l9, c9, rfl⟩ := h4.pv.slice
      obtain ⟨n5, a5, l5, c5, a6, l6, c6, e5⟩ := h2.fi.agg
      obtain ⟨n7, a7, l7, c7, a8, l8, c8, e7⟩ := h3.fi.agg
      cases e5
      cases e7
      refine wmv ?_
      refine wex ?_
      refine wex ?_
      refine wl_alloc rfl rfl Tryz.zero55 ?_; intro b4
      refine wl_storeAll rfl (by exact Tryz.size55) rfl rfl (by simp [Value.oneCell']) rfl ?_
      refine was ?_
      refine wns ?_
      refine w_seq ?_
      refine wsr ?_
      refine wmv ?_
      refine wv (x_not rfl rfl) ?_
      refine wmv ?_
      refine wv (x_loads Tryz.agg55 (by exact Tryz.size55) rfl (rowH0 (.head _))) ?_
      refine wl_callp rfl rfl rfl Tryz.c130 (CoC.format _ _ c ⟨_, _, _, _, _, _, _, rfl, h2.fi, h3.fi, h4.pv, hsm, hT.up hm1⟩) ?_; rintro v2 m2 hm2 rfl
      refine wmv ?_
      refine wv ((x_neqBs rfl rfl).as (bool_f fun h => h he)) ?_
      refine wv (x_pick_f rfl rfl) ?_
      refine wns ?_
      refine w_false rfl ?_
      refine w_skip ?_
      refine at_seq ?_
      refine wsr ?_
      refine wv (x_loads Tryz.agg55 (by exact Tryz.size55) rfl (rowH0 (.head _))) ?_
      refine wl_front1 ?_
      refine wl_storeAll rfl (by exact Tryz.size55) rfl rfl (by simp [Value.oneCell']) rfl ?_
      refine was ?_
      refine wns ?_
      refine w_ret ?_
      refine at_endp (resAs (vs := [_, _]) rfl rfl ⟨⟨_, _, _, rfl, rowH0 (.head _), .inr ⟨Tryz.agg55, Tryz.size55, rfl⟩⟩, rfl, trivial⟩) ?_
      exact CoordR.of (o := some c) ⟨_, _, _, _, _, _, _, rfl, h2.up hm2, h3.up hm2, h4.up hm2⟩ (by unfold pCoord; rw [hc]; exact if_pos he)
    · skip
      refine wsr ?_
      refine wl_alloc rfl rfl Tryz.zero55 ?_; intro b2
      refine was ?_
      refine wnr ?_
      refine wmv ?_
      refine wl_callp rfl rfl rfl Tryz.c188 (cparse_ok hw hE hT hl) ?_; rintro v1 m1 hm1 h1
      rw [hc] at h1
      obtain ⟨p, f1, f2, f3, g1, g2, g3, rfl, h2, h3, h4⟩ := h1
      obtain ⟨a9, l9, c9, rfl⟩ := h4.pv.slice
      obtain ⟨n5, a5, l5, c5, a6, l6, c6, e5⟩ := h2.fi.agg
      obtain ⟨n7, a7, l7, c7, a8, l8, c8, e7⟩ := h3.fi.agg
      cases e5
      cases e7
      refine wmv ?_
      refine wex ?_
      refine wex ?_
      refine wl_alloc rfl rfl Tryz.zero55 ?_; intro b4
      refine wl_storeAll rfl (by exact Tryz.size55) rfl rfl (by simp [Value.oneCell']) rfl ?_
      refine was ?_
      refine wns ?_
      refine w_seq ?_
      refine wsr ?_
      refine wmv ?_
      refine wv (x_not rfl rfl) ?_
      refine wmv ?_
      refine wv (x_loads Tryz.agg55 (by exact Tryz.size55) rfl (rowH0 (.head _))) ?_
      refine wl_callp rfl rfl rfl Tryz.c130 (CoC.format _ _ c ⟨_, _, _, _, _, _, _, rfl, h2.fi, h3.fi, h4.pv, hsm, hT.up hm1⟩) ?_; rintro v2 m2 hm2 rfl
      refine wmv ?_
      refine wv ((x_neqBs rfl rfl).as (bool_t he)) ?_
      refine wv (x_pick_f rfl rfl) ?_
      refine wns ?_
      refine w_true rfl ?_
      refine wsr ?_
      refine wv (x_build (cs := [_, _, _, _, _, _, _]) Tryz.underlying55 Tryz.places55 Tryz.zero55 rfl rfl) ?_
      refine wl_front1 ?_
      refine wl_storeAll rfl (by exact Tryz.size55) rfl rfl (by simp [Value.oneCell']) rfl ?_
      refine was ?_
      refine wns ?_
      refine w_ret ?_
      refine at_then_ret ?_
      refine at_endp (resAs (vs := [_, _]) rfl rfl ⟨⟨_, _, _, rfl, rowH0 (.head _), .inr ⟨Tryz.agg55, Tryz.size55, rfl⟩⟩, rfl, trivial⟩) ?_
      exact CoordR.of (o := none) rfl (by unfold pCoord; rw [hc]; exact if_neg he)
end Go.Cy


/- certificate.writer.node. -/
namespace Go.Cy
open Go Go.Proofs
set_option maxRecDepth 20000

theorem Wrote.stop {L p Lc : List UInt8} (q : List UInt8) (h : Wrote L p Lc) (hf : 1048576 < Lc.length) : Wrote L (p ++ q) Lc := h.trans (Wrote.full q hf)

def NdOk {α : Type} (C : Mem → Value → α → Prop) (txt : α → List UInt8) (t : Tr α) : Prop := ∀ (m : Mem) (b : Nat) (L : List UInt8) (Hb : Hp) (v : Value), Bld 117 b L Hb → Nd C m v t → Tab Tryz.prog m → t.size ≤ 35184372088832 → L.length + (t.text txt).length ≤ 35184372088832 →
  Does Tryz.prog 74 #[.pointer (some ⟨b, 0, none⟩), v] m Hb fun r _ H' => r = .tuple #[] ∧ ∃ L', Wrote L (t.text txt) L' ∧ Bld 117 b L' H'

def kindB (k : Int) (len : Nat) : List UInt8 := if k = 1 then [108, 101, 97, 102] else if k = 2 then [111, 110, 101] else if k = 3 then [97, 108, 108] ++ 32 :: itB len else []
theorem nd_step {α : Type} {C : Mem → Value → α → Prop} {txt : α → List UInt8} (hC : ∀ m m' v a, m.le m' → C m v a → C m' v a) (hF : ∀ m v a, C m v a → Pure Tryz.prog 130 #[v] m fun r _ => r = .string (B (txt a))) {t : Tr α} (ih : ∀ t' : Tr α, t'.size < t.size → NdOk C txt t') : NdOk C txt t := by
  rintro m b L Hb v hB ⟨ad, cap, ws, rfl, hcap, hrep, hrow⟩ hT hsz hlen
  have hls := t.len_size
  have hlc := t.len_le_cells txt
  have hit := itB_len (n := (t.len : Int)) (by omega) (by omega)
  have htx : t.text txt = (kindB t.kind t.len ++ [10]) ++ t.cellsB txt := rfl
  have hlen0 := hlen
  rw [htx] at hlen
  simp only [List.length_append, List.length_cons, List.length_nil] at hlen
  refine enter Tryz.func74 rfl rfl ?_
  intro K hm0 hks
  refine wsr ?_
  refine wl_box rfl rfl rfl rfl ?_; intro b3
  refine wns ?_
  refine w_seq_mid (fun m' H' env' => ∃ Hb', m.le m' ∧ H' = (b3, cl 45 [.int .i64 t.kind, .slice ad t.len cap]) :: Hb' ∧ Bld 117 b (L ++ kindB t.kind t.len) Hb' ∧ env' = [(0, .pointer (some ⟨b, 0, none⟩)), (3, .pointer (some ⟨b3, 0, none⟩))]) ?_ ?_
  · skip
    refine wsr ?_
    refine wv (x_fieldAddr Tryz.underlying45 rfl Tryz.size3 rfl) ?_
    refine wv (x_load Tryz.plain3 rfl (rowH1 (.head _) rfl)) ?_
    refine wns ?_
    refine w_block ?_
    refine wsr ?_
    refine wv (x_eql rfl rfl) ?_
    refine was ?_
    refine wns ?_
    refine w_if rfl (fun h1 => ?_) (fun h1 => ?_)
    · skip
      have hk : kindB t.kind t.len = [108, 101, 97, 102] := by rw [kindB, if_pos h1]
      have hkl : (kindB t.kind t.len).length = 4 := by rw [hk]; rfl
      refine w_region ?_
      refine wmv ?_
      refine wl_calld1 rfl rfl rfl Tryz.c67 (start_ok (s := [108, 101, 97, 102]) bt_writer hB (by simp; omega)) ?_; rintro v2 m2 H2 hm2 ⟨rfl, h2⟩
      refine wl_nil ?_
      refine at_block_normal ?_
      exact at_meets [(0, .pointer (some ⟨b, 0, none⟩)), (3, .pointer (some ⟨b3, 0, none⟩))] ⟨H2, hm2, rfl, by rw [hk]; exact h2, rfl⟩ (by repeat' (first | exact trivial | exact rfl | exact lk_int rfl (by omega) | apply And.intro))
    · skip
      refine wsr ?_
      refine wv (x_eql rfl rfl) ?_
      refine was ?_
      refine wns ?_
      refine w_if rfl (fun h2 => ?_) (fun h2 => ?_)
      · skip
        have hk : kindB t.kind t.len = [111, 110, 101] := by rw [kindB, if_neg h1, if_pos h2]
        have hkl : (kindB t.kind t.len).length = 3 := by rw [hk]; rfl
        refine w_region ?_
        refine wmv ?_
        refine wl_calld1 rfl rfl rfl Tryz.c67 (start_ok (s := [111, 110, 101]) bt_writer hB (by simp; omega)) ?_; rintro v2 m2 H2 hm2 ⟨rfl, h3⟩
        refine wl_nil ?_
        refine at_block_normal ?_
        exact at_meets [(0, .pointer (some ⟨b, 0, none⟩)), (3, .pointer (some ⟨b3, 0, none⟩))] ⟨H2, hm2, rfl, by rw [hk]; exact h3, rfl⟩ (by repeat' (first | exact trivial | exact rfl | exact lk_int rfl (by omega) | apply And.intro))
      · skip
        refine wsr ?_
        refine wv (x_eql rfl rfl) ?_
        refine was ?_
        refine wns ?_
        refine w_if rfl (fun h3 => ?_) (fun h3 => ?_)
        · skip
          have hk : kindB t.kind t.len = [97, 108, 108] ++ 32 :: itB t.len := by rw [kindB, if_neg h1, if_neg h2, if_pos h3]
          have hkl : (kindB t.kind t.len).length = 4 + (itB t.len).length := by rw [hk]; simp; omega
          refine wsr ?_
          refine wmv ?_
          refine wl_calld1 rfl rfl rfl Tryz.c67 (start_ok (s := [97, 108, 108]) bt_writer hB (by simp; omega)) ?_; rintro v2 m2 H2 hm2 ⟨rfl, h4⟩
          refine wns ?_
          refine w_region ?_
          refine wmv ?_
          refine wv (x_fieldAddr Tryz.underlying45 rfl Tryz.size43 rfl) ?_
          refine wv (x_load Tryz.plain43 rfl (rowH1 (.head _) rfl)) ?_
          refine wv (x_len Tryz.underlying43 rfl rfl) ?_
          refine wl_calld1 rfl rfl rfl Tryz.c70 (number_ok (n := t.len) bt_writer (hT.up hm2) h4 (by omega) (by omega) (by simp; omega)) ?_; rintro v5 m5 H5 hm5 ⟨rfl, h5⟩
          refine wl_nil ?_
          refine at_block_normal ?_
          exact at_meets [(0, .pointer (some ⟨b, 0, none⟩)), (3, .pointer (some ⟨b3, 0, none⟩))] ⟨H5, hm2.trans hm5, rfl, by rw [hk, ← List.append_assoc]; exact h5, rfl⟩ (by repeat' (first | exact trivial | exact rfl | exact lk_int rfl (by omega) | apply And.intro))
        · skip
          have hk : kindB t.kind t.len = [] := by rw [kindB, if_neg h1, if_neg h2, if_neg h3]
          refine w_skip ?_
          refine at_block_normal ?_
          exact at_meets [(0, .pointer (some ⟨b, 0, none⟩)), (3, .pointer (some ⟨b3, 0, none⟩))] ⟨Hb, Mem.le.refl _, rfl, by rw [hk, List.append_nil]; exact hB, rfl⟩ (by repeat' (first | exact trivial | exact rfl | exact lk_int rfl (by omega) | apply And.intro))
  · skip
    rintro m1 H' env' ⟨Hb1, hm1, rfl, hB1, rfl⟩
    refine wsr ?_
    refine wmv ?_
    refine wl_calld1 rfl rfl rfl Tryz.c71 (wend_ok bt_writer hB1 (by simp; omega)) ?_; rintro v2 m2 H2 hm2 ⟨rfl, hB2⟩
    refine wnr ?_
    refine wv (x_fieldAddr Tryz.underlying45 rfl Tryz.size43 rfl) ?_
    refine wv (x_load Tryz.plain43 rfl (rowH1 (.head _) rfl)) ?_
    refine wv (x_len Tryz.underlying43 rfl rfl) ?_
    refine wmv ?_
    refine wns ?_
    refine w_block ?_
    refine w_loop (fun r m' H' env' => ∃ i u vs Hb' Lc done, m2.le m' ∧ r = u.len ∧ i + u.len = t.len ∧ u.size ≤ t.size ∧ u.Rep C m vs ∧ (0 < u.len → ∃ b o, ad = some ⟨b, o, none⟩ ∧ Row m [] b (o + i * 9) vs) ∧ t.cellsB txt = done ++ u.cellsB txt ∧ Wrote L ((kindB t.kind t.len ++ [10]) ++ done) Lc ∧ Bld 117 b Lc Hb' ∧ H' = (b3, cl 45 [.int .i64 t.kind, .slice ad t.len cap]) :: Hb' ∧ env' = [(0, .pointer (some ⟨b, 0, none⟩)), (28, .slice ad t.len cap), (29, .int .i64 t.len), (30, .int .i64 (i : Nat))]) t.len [(0, .pointer (some ⟨b, 0, none⟩)), (28, .slice ad t.len cap), (29, .int .i64 t.len), (30, .int .i64 (0 : Nat))] ⟨0, t, ws, _, _, [], Mem.le.refl _, rfl, by omega, Nat.le_refl _, hrep, by simpa using hrow, rfl, (Wrote.all L (kindB t.kind t.len ++ [10])).as (List.append_nil _).symm, by rw [← List.append_assoc]; exact hB2, rfl, rfl⟩ (by repeat' (first | exact trivial | exact rfl | exact lk_int rfl (by omega) | apply And.intro)) ?_
    rintro r m3 H' env' ⟨i, u, vs, Hb3, Lc, done, hm3, rfl, hiu, hus, hur, hrow', hdone, hW, hB3, rfl, rfl⟩
    have hmm := hm1.trans (hm2.trans hm3)
    have hWl := hW.hi
    have hdl : (t.cellsB txt).length = done.length + (u.cellsB txt).length := by rw [hdone, List.length_append]
    simp only [List.length_append, List.length_cons, List.length_nil] at hWl
    refine wsr ?_
    refine wv (x_lss rfl rfl) ?_
    refine wns ?_
    refine w_seq ?_
    refine w_if rfl (fun h5 => ?_) (fun h5 => ?_)
    · skip
      obtain ⟨bn, on, rfl, hrw⟩ := hrow' (by omega)
      obtain ⟨a, s, rr, c0, c1, c2, c3, c4, c5, c6, ad', cap', ws', vs', rfl, rfl, hone, ha, hcap', hs', hrow2, hr'⟩ := Tr.all_cells C hur (by omega)
      have hss : s.size < t.size := by simp only [Tr.size] at hus; omega
      simp only [Tr.len] at hiu
      have hul : ((Tr.cons a s rr).cellsB txt).length = ((([97, 116] ++ 32 :: txt a) ++ [10]).length + ((s.text txt).length + (rr.cellsB txt).length)) := by simp only [Tr.cellsB, Tr.text, List.length_append]
      simp only [List.length_append, List.length_cons, List.length_nil] at hul
      refine w_skip ?_
      refine at_seq ?_
      refine w_seq ?_
      refine w_block ?_
      refine wsr ?_
      refine wv (x_index Tryz.underlying43 Tryz.size57 rfl rfl (j := i) (by omega) (by omega)) ?_
      refine wv (x_loads Tryz.agg57 (by exact Tryz.size57) rfl (((hrw.pre [c0, c1, c2, c3, c4, c5, c6, .int .i64 s.kind, .slice ad' s.len cap']).up hmm).heap)) ?_
      refine wl_alloc rfl rfl Tryz.zero57 ?_; intro b5
      refine wl_storeAll rfl (by exact Tryz.size57) rfl rfl (by simpa [Value.oneCell'] using hone) rfl ?_
      refine wns ?_
      refine w_seq ?_
      refine wsr ?_
      refine wmv ?_
      refine wl_calld2 rfl rfl rfl Tryz.c75 (full_ok hB3) ?_; rintro v4 m4 H4 hm4 ⟨rfl, rfl⟩
      refine wns ?_
      refine w_if rfl (fun h6 => ?_) (fun h6 => ?_)
      · skip
        refine w_ret ?_
        refine at_then_ret ?_
        refine at_block_ret ?_
        refine at_then_ret ?_
        refine at_then_ret ?_
        refine at_block_ret ?_
        refine at_drop1 ?_
        refine at_drop1 ?_
        refine at_end (res0 rfl) ?_
        exact ⟨rfl, Lc, by rw [htx, hdone, ← List.append_assoc]; exact hW.stop _ h6, hB3⟩
      · skip
        refine w_skip ?_
        refine at_seq ?_
        refine wsr ?_
        refine wmv ?_
        refine wl_calld2 rfl rfl rfl Tryz.c67 (start_ok (s := [97, 116]) bt_writer hB3 (by simp; omega)) ?_; rintro v5 m5 H5 hm5 ⟨rfl, hB5⟩
        refine wnr ?_
        refine wmv ?_
        refine wv (x_fieldAddr Tryz.underlying57 rfl Tryz.size55 rfl) ?_
        refine wv (x_loads Tryz.agg55 (by exact Tryz.size55) rfl (rowHs (vs := [_, _, _, _, _, _, _]) (.head _) 0 rfl)) ?_
        refine wl_callp rfl rfl rfl Tryz.c130 (hF _ _ a (hC _ _ _ _ (hmm.trans (hm4.trans hm5)) ha)) ?_; rintro v6 m6 hm6 rfl
        refine wl_buildSlice rfl rfl Tryz.underlying129 Tryz.size9 Tryz.zero9 rfl rfl rfl rfl rfl ?_; intro b42
        refine wl_callw2 rfl rfl rfl Tryz.c68 (word_ok (ws := [txt a]) bt_writer hB5 (by rw [spaced_one]; simp; omega) (by simp)) ?_; rintro v7 m7 H7 hm7 ⟨rfl, hB7⟩
        refine wnr ?_
        refine wmv ?_
        refine wl_calld2 rfl rfl rfl Tryz.c71 (wend_ok bt_writer hB7 (by rw [spaced_one]; simp; omega)) ?_; rintro v8 m8 H8 hm8 ⟨rfl, hB8⟩
        refine wns ?_
        refine w_region ?_
        refine wmv ?_
        refine wv (x_fieldAddr Tryz.underlying57 rfl Tryz.size45 rfl) ?_
        refine wv (x_loads Tryz.agg45 (by exact Tryz.size45) rfl (rowHs (vs := [_, _]) (.head _) 7 rfl)) ?_
        refine wl_calld2 rfl rfl rfl Tryz.c74 (ih s hss _ b _ _ _ hB8 ⟨ad', cap', ws', rfl, hcap', hs'.up hC (hmm.trans (hm4.trans (hm5.trans (hm6.trans (hm7.trans hm8))))), fun h0 => by obtain ⟨b, o, e, hr⟩ := hrow2 h0; exact ⟨b, o, e, hr.up (hmm.trans (hm4.trans (hm5.trans (hm6.trans (hm7.trans hm8)))))⟩⟩ (hT.up (hmm.trans (hm4.trans (hm5.trans (hm6.trans (hm7.trans hm8)))))) (by omega) (by rw [spaced_one]; simp; omega)) ?_; rintro v9 m9 H9 hm9 ⟨rfl, L9, hW9, hB9⟩
        refine wl_nil ?_
        refine at_block_normal ?_
        refine at_seq ?_
        refine w_region ?_
        refine wv (x_add rfl rfl (wrap_i64 (by omega) (by omega))) ?_
        refine wmv ?_
        refine wl_nil ?_
        refine at_drop1 ?_
        exact at_again rr.len [(0, .pointer (some ⟨b, 0, none⟩)), (28, .slice (some ⟨bn, on, none⟩) t.len cap), (29, .int .i64 t.len), (30, .int .i64 (i + 1 : Nat))] (by simp only [Tr.len]; omega) ⟨i + 1, rr, vs', H9, L9, done ++ ((([97, 116] ++ 32 :: txt a) ++ [10]) ++ s.text txt), hm3.trans (hm4.trans (hm5.trans (hm6.trans (hm7.trans (hm8.trans hm9))))), rfl, by omega, by simp only [Tr.size] at hus; omega, hr', fun _ => ⟨bn, on, rfl, hrw.suf [_, _, _, _, _, _, _, _, _] (by simp; omega)⟩, by rw [hdone, Tr.cellsB]; simp [Tr.text], ((((hW.app (q := [97, 116])).app (q := spaced [txt a])).app (q := [10])).trans hW9).as (by rw [spaced_one]; simp), hB9, rfl, rfl⟩ (by repeat' (first | exact trivial | exact rfl | exact lk_int rfl (by omega) | apply And.intro))
    · skip
      have hu0 := Tr.of_len0 (show u.len = 0 by omega)
      refine w_exit ?_
      refine at_then_exit ?_
      refine at_then_exit ?_
      refine at_block_hit ?_
      refine at_drop1 ?_
      refine at_end_normal (res0 rfl) ?_
      exact ⟨rfl, Lc, hW.as (by rw [htx, hdone, hu0]; simp [Tr.cellsB]), hB3⟩
theorem node_ok {α : Type} {C : Mem → Value → α → Prop} {txt : α → List UInt8} (hC : ∀ m m' v a, m.le m' → C m v a → C m' v a) (hF : ∀ m v a, C m v a → Pure Tryz.prog 130 #[v] m fun r _ => r = .string (B (txt a))) (t : Tr α) : NdOk C txt t := by
  suffices h : ∀ n, ∀ t : Tr α, t.size < n → NdOk C txt t from h _ t (Nat.lt_succ_self _)
  intro n
  induction n with
  | zero => exact fun t h => absurd h (Nat.not_lt_zero _)
  | succ n ih => exact fun t h => nd_step hC hF fun t' ht' => ih t' (by omega)
theorem validNode_ok {α : Type} {C : Mem → Value → α → Prop} (hC : ∀ m m' v a, m.le m' → C m v a → C m' v a) (t : Tr α) : VnOk C t := by
  suffices h : ∀ n, ∀ t : Tr α, t.size < n → VnOk C t from h _ t (Nat.lt_succ_self _)
  intro n
  induction n with
  | zero => exact fun t h => absurd h (Nat.not_lt_zero _)
  | succ n ih => exact fun t h => vn_step hC fun t' ht' => ih t' (by omega)
end Go.Cy


/- Slices whose elements lie in a row; certificate.writer.lists. -/
namespace Go.Cy
open Go Go.Proofs
set_option maxRecDepth 20000

def Sl {α : Type} (k : Nat) (C : Mem → List Value → α → Prop) (m : Mem) (v : Value) (xs : List α) : Prop :=
  ∃ (ad : Option Addr) (cap : Nat) (vss : List (List Value)), v = .slice ad xs.length cap ∧ xs.length ≤ cap ∧ vss.length = xs.length ∧ (∀ vs ∈ vss, vs.length = k) ∧ (∀ (i : Nat) x, xs[i]? = some x → ∃ vs, vss[i]? = some vs ∧ C m vs x) ∧ (0 < xs.length → ∃ b o, ad = some ⟨b, o, none⟩ ∧ Row m [] b o vss.flatten)
theorem flat_at {α : Type} {k : Nat} : ∀ {vss : List (List α)} {i : Nat} {vs : List α}, (∀ us ∈ vss, us.length = k) → vss[i]? = some vs → ∀ j, j < vs.length → vss.flatten[i * k + j]? = vs[j]?
  | [], i, vs, _, h => by simp at h
  | us :: vss, 0, vs, hk, h => fun j hj => by
    simp at h; subst h
    rw [List.flatten_cons, Nat.zero_mul, Nat.zero_add, List.getElem?_append_left hj]
  | us :: vss, i + 1, vs, hk, h => fun j hj => by
    have h1 : us.length = k := hk us (.head _)
    have h2 := flat_at (fun u hu => hk u (.tail _ hu)) (by simpa using h) j hj
    rw [List.flatten_cons, List.getElem?_append_right (by rw [h1, Nat.add_mul]; omega), ← h2]
    congr 1
    rw [h1, Nat.add_mul]; omega
theorem flat_len {α : Type} {k : Nat} : ∀ {vss : List (List α)}, (∀ us ∈ vss, us.length = k) → vss.flatten.length = vss.length * k
  | [], _ => by simp
  | us :: vss, hk => by
    rw [List.flatten_cons, List.length_append, flat_len (fun u hu => hk u (.tail _ hu)), hk us (.head _), List.length_cons, Nat.add_mul]; omega
theorem Sl.slice {α : Type} {k : Nat} {C : Mem → List Value → α → Prop} {m : Mem} {v : Value} {xs : List α} (h : Sl k C m v xs) : ∃ ad cap, v = .slice ad xs.length cap := by
  obtain ⟨ad, cap, _, h1, _⟩ := h; exact ⟨ad, cap, h1⟩
theorem Sl.get {α : Type} {k : Nat} {C : Mem → List Value → α → Prop} {m : Mem} {ad : Option Addr} {n cap : Nat} {xs : List α} (h : Sl k C m (.slice ad n cap) xs) {i : Nat} (hi : i < xs.length) : ∃ b o vs, ad = some ⟨b, o, none⟩ ∧ vs.length = k ∧ C m vs xs[i] ∧ Row m [] b (o + i * k) vs := by
  obtain ⟨ad', cap', vss, h1, h2, h3, h4, h5, h6⟩ := h
  cases h1
  obtain ⟨b, o, rfl, hr⟩ := h6 (by omega)
  obtain ⟨vs, h7, h8⟩ := h5 i xs[i] (by simp [hi])
  exact ⟨b, o, vs, rfl, h4 vs (List.mem_of_getElem? h7), h8, hr.sub (i * k) rfl (flat_at h4 h7)⟩
theorem Sl.up {α : Type} {k : Nat} {C : Mem → List Value → α → Prop} (hC : ∀ m m' vs a, m.le m' → C m vs a → C m' vs a) {m m' : Mem} {v : Value} {xs : List α} (h : Sl k C m v xs) (hm : m.le m') : Sl k C m' v xs := by
  obtain ⟨ad, cap, vss, h1, h2, h3, h4, h5, h6⟩ := h
  refine ⟨ad, cap, vss, h1, h2, h3, h4, fun i x hx => ?_, fun h0 => ?_⟩
  · obtain ⟨vs, h7, h8⟩ := h5 i x hx; exact ⟨vs, h7, hC _ _ _ _ hm h8⟩
  · obtain ⟨b, o, e, hr⟩ := h6 h0; exact ⟨b, o, e, hr.up hm⟩
theorem Sl.nil {α : Type} {k : Nat} {C : Mem → List Value → α → Prop} {m : Mem} : Sl k C m (.slice none 0 0) ([] : List α) := ⟨none, 0, [], rfl, Nat.le_refl _, rfl, fun _ h => absurd h List.not_mem_nil, fun i x h => by simp at h, fun h => absurd h (Nat.lt_irrefl _)⟩
def One {α : Type} (C : Mem → Value → α → Prop) (m : Mem) (vs : List Value) (x : α) : Prop := ∃ v, vs = [v] ∧ v.oneCell' = true ∧ C m v x
theorem One.up {α : Type} {C : Mem → Value → α → Prop} (hC : ∀ m m' v a, m.le m' → C m v a → C m' v a) : ∀ m m' vs a, m.le m' → One C m vs a → One C m' vs a := fun _ _ _ _ hm ⟨v, h1, h2, h3⟩ => ⟨v, h1, h2, hC _ _ _ _ hm h3⟩

def cat {α : Type} (f : α → List UInt8) (xs : List α) : List UInt8 := (xs.map f).flatten
theorem cat_append {α : Type} (f : α → List UInt8) (x y : List α) : cat f (x ++ y) = cat f x ++ cat f y := by unfold cat; rw [List.map_append, List.flatten_append]
theorem cat_one {α : Type} (f : α → List UInt8) (x : α) : cat f [x] = f x := by simp [cat]
theorem cat_snoc {α : Type} (f : α → List UInt8) {xs : List α} {i : Nat} (h : i < xs.length) : cat f (xs.take (i + 1)) = cat f (xs.take i) ++ f xs[i] := by
  rw [List.take_succ_eq_append_getElem h, cat_append, cat_one]
theorem cat_split {α : Type} (f : α → List UInt8) {xs : List α} {i : Nat} (h : i < xs.length) : cat f xs = cat f (xs.take i) ++ (f xs[i] ++ cat f (xs.drop (i + 1))) := by
  conv => lhs; rw [← List.take_append_drop i xs, List.drop_eq_getElem_cons h, cat_append]
  rw [show xs[i] :: List.drop (i + 1) xs = [xs[i]] ++ List.drop (i + 1) xs from rfl, cat_append, cat_one]

def listHd (n : Nat) : List UInt8 := [108, 105, 115, 116] ++ 32 :: itB n
def listB {β : Type} (ptxt : β → List UInt8) (l : List β) : List UInt8 := (listHd l.length ++ cat (fun p => 32 :: ptxt p) l) ++ [10]
def listsHd (n : Nat) : List UInt8 := ([108, 105, 115, 116, 115] ++ 32 :: itB n) ++ [10]
def listsB {β : Type} (ptxt : β → List UInt8) (ls : List (List β)) : List UInt8 := listsHd ls.length ++ cat (listB ptxt) ls

theorem lists_ok {β : Type} {C : Mem → Value → β → Prop} {ptxt : β → List UInt8} (hC : ∀ m m' v a, m.le m' → C m v a → C m' v a) (hF : ∀ m v a, C m v a → Pure Tryz.prog 128 #[v] m fun r _ => r = .string (B (ptxt a)))
    {m : Mem} {b : Nat} {L : List UInt8} {Hb : Hp} {v : Value} {ls : List (List β)} (hB : Bld 117 b L Hb) (hv : Sl 1 (One (Sl 1 (One C))) m v ls) (hT : Tab Tryz.prog m) (hl1 : ls.length ≤ 35184372088832) (hl2 : ∀ l ∈ ls, l.length ≤ 35184372088832) (hlen : L.length + (listsB ptxt ls).length ≤ 35184372088832) :
    Does Tryz.prog 72 #[.pointer (some ⟨b, 0, none⟩), v] m Hb fun r _ H' => r = .tuple #[] ∧ ∃ L', Wrote L (listsB ptxt ls) L' ∧ Bld 117 b L' H' := by
  have hup1 := One.up hC
  have hup2 := One.up (C := Sl 1 (One C)) fun m m' v a hm h => Sl.up hup1 h hm
  obtain ⟨ad, cap, rfl⟩ := hv.slice
  have hit := itB_len (n := (ls.length : Int)) (by omega) (by omega)
  have htx : listsB ptxt ls = listsHd ls.length ++ cat (listB ptxt) ls := rfl
  have hhd : (listsHd ls.length).length = 7 + (itB ls.length).length := by simp [listsHd]; omega
  rw [htx, List.length_append] at hlen
  refine enter Tryz.func72 rfl rfl ?_
  intro K hm0 hks
  refine wsr ?_
  refine wmv ?_
  refine wl_calld0 rfl rfl rfl Tryz.c67 (start_ok (s := [108, 105, 115, 116, 115]) bt_writer hB (by simp; omega)) ?_; rintro v1 m1 H1 hm1 ⟨rfl, hB1⟩
  refine wnr ?_
  refine wmv ?_
  refine wmv ?_
  refine wv (x_len Tryz.underlying58 rfl rfl) ?_
  refine wl_calld0 rfl rfl rfl Tryz.c70 (number_ok (n := ls.length) bt_writer (hT.up hm1) hB1 (by omega) (by omega) (by simp; omega)) ?_; rintro v2 m2 H2 hm2 ⟨rfl, hB2⟩
  refine wnr ?_
  refine wmv ?_
  refine wl_calld0 rfl rfl rfl Tryz.c71 (wend_ok bt_writer hB2 (by simp; omega)) ?_; rintro v3 m3 H3 hm3 ⟨rfl, hB3⟩
  refine wnr ?_
  refine wmv ?_
  refine wv (x_len Tryz.underlying58 rfl rfl) ?_
  refine wmv ?_
  refine wns ?_
  refine w_block ?_
  have hm03 := hm1.trans (hm2.trans hm3)
  refine w_loop (fun r m' H' env' => ∃ i Lc, m3.le m' ∧ r + i = ls.length ∧ Wrote L (listsHd ls.length ++ cat (listB ptxt) (ls.take i)) Lc ∧ Bld 117 b Lc H' ∧ env' = [(0, .pointer (some ⟨b, 0, none⟩)), (16, .slice ad ls.length cap), (17, .int .i64 ls.length), (18, .int .i64 (i : Nat))]) ls.length [(0, .pointer (some ⟨b, 0, none⟩)), (16, .slice ad ls.length cap), (17, .int .i64 ls.length), (18, .int .i64 (0 : Nat))] ⟨0, _, Mem.le.refl _, rfl, (Wrote.all L (listsHd ls.length)).as (by simp [cat]), by simpa [listsHd] using hB3, rfl⟩ (by repeat' (first | exact trivial | exact rfl | exact lk_int rfl (by omega) | apply And.intro)) ?_
  rintro r m4 H4 env' ⟨i, Lc, hm4, hri, hW, hB4, rfl⟩
  have hWl := hW.hi
  rw [List.length_append] at hWl
  refine wsr ?_
  refine wv (x_lss rfl rfl) ?_
  refine wns ?_
  refine w_seq ?_
  refine w_if rfl (fun h1 => ?_) (fun h1 => ?_)
  · skip
    have hi : i < ls.length := by omega
    have hcl := congrArg List.length (cat_split (listB ptxt) hi)
    obtain ⟨bl, ol, vs, rfl, hvl, ⟨w, rfl, hw1, hwl⟩, hrow⟩ := hv.get hi
    obtain ⟨ad', cap', rfl⟩ := hwl.slice
    have hli := hl2 _ (List.getElem_mem hi)
    have hit2 := itB_len (n := (ls[i].length : Int)) (by omega) (by omega)
    have hlb : (listB ptxt ls[i]).length = (listHd ls[i].length).length + (cat (fun p => 32 :: ptxt p) ls[i]).length + 1 := by simp [listB]; omega
    have hlh : (listHd ls[i].length).length = 5 + (itB ls[i].length).length := by simp [listHd]; omega
    rw [List.length_append, List.length_append] at hcl
    refine w_skip ?_
    refine at_seq ?_
    refine w_seq ?_
    refine w_block ?_
    refine wsr ?_
    refine wv (x_index Tryz.underlying58 Tryz.size25 rfl rfl (j := i) (by omega) (by omega)) ?_
    refine wv (x_load Tryz.plain25 rfl (((hrow.up (hm03.trans hm4)).heap))) ?_
    refine was ?_
    refine wnr ?_
    refine wmv ?_
    refine wl_calld0 rfl rfl rfl Tryz.c67 (start_ok (s := [108, 105, 115, 116]) bt_writer hB4 (by simp; omega)) ?_; rintro v5 m5 H5 hm5 ⟨rfl, hB5⟩
    refine wnr ?_
    refine wmv ?_
    refine wmv ?_
    refine wv (x_len Tryz.underlying25 rfl rfl) ?_
    refine wl_calld0 rfl rfl rfl Tryz.c70 (number_ok (n := ls[i].length) bt_writer (hT.up (hm03.trans (hm4.trans hm5))) hB5 (by omega) (by omega) (by simp; omega)) ?_; rintro v6 m6 H6 hm6 ⟨rfl, hB6⟩
    refine wns ?_
    refine w_seq ?_
    refine wsr ?_
    refine wmv ?_
    refine wv (x_len Tryz.underlying25 rfl rfl) ?_
    refine wmv ?_
    refine wns ?_
    refine w_block ?_
    have hm06 := hm03.trans (hm4.trans (hm5.trans hm6))
    refine w_loop (fun r m' H' env' => ∃ j Lc', m6.le m' ∧ r + j = ls[i].length ∧ Wrote L ((listsHd ls.length ++ cat (listB ptxt) (ls.take i)) ++ (listHd ls[i].length ++ cat (fun p => 32 :: ptxt p) (ls[i].take j))) Lc' ∧ Bld 117 b Lc' H' ∧ env' = [(0, .pointer (some ⟨b, 0, none⟩)), (16, .slice (some ⟨bl, ol, none⟩) ls.length cap), (17, .int .i64 ls.length), (18, .int .i64 (i : Nat)), (28, .slice ad' ls[i].length cap'), (29, .int .i64 ls[i].length), (30, .int .i64 (j : Nat))]) ls[i].length [(0, .pointer (some ⟨b, 0, none⟩)), (16, .slice (some ⟨bl, ol, none⟩) ls.length cap), (17, .int .i64 ls.length), (18, .int .i64 (i : Nat)), (28, .slice ad' ls[i].length cap'), (29, .int .i64 ls[i].length), (30, .int .i64 (0 : Nat))] ⟨0, _, Mem.le.refl _, rfl, (hW.app (q := listHd ls[i].length)).as (by simp [cat]), by rw [List.append_assoc] at hB6; exact hB6, rfl⟩ (by repeat' (first | exact trivial | exact rfl | exact lk_int rfl (by omega) | apply And.intro)) ?_
    rintro r2 m7 H7 env' ⟨j, Lc', hm7, hrj, hW7, hB7, rfl⟩
    have hWl7 := hW7.hi
    rw [List.length_append, List.length_append, List.length_append] at hWl7
    refine wsr ?_
    refine wv (x_lss rfl rfl) ?_
    refine wns ?_
    refine w_seq ?_
    refine w_if rfl (fun h2 => ?_) (fun h2 => ?_)
    · skip
      have hj : j < ls[i].length := by omega
      have hcl2 := congrArg List.length (cat_split (fun p => 32 :: ptxt p) hj)
      rw [List.length_append, List.length_append, List.length_cons] at hcl2
      obtain ⟨bq, oq, vs', rfl, hvl', ⟨w', rfl, hw1', hwl'⟩, hrow'⟩ := hwl.get hj
      refine w_skip ?_
      refine at_seq ?_
      refine w_seq ?_
      refine w_block ?_
      refine wsr ?_
      refine wv (x_index Tryz.underlying25 Tryz.size28 rfl rfl (j := j) (by omega) (by omega)) ?_
      refine wv (x_load Tryz.plain28 rfl (((hrow'.up (hm06.trans hm7)).heap))) ?_
      refine was ?_
      refine wns ?_
      refine w_seq ?_
      refine wsr ?_
      refine wmv ?_
      refine wl_calld0 rfl rfl rfl Tryz.c75 (full_ok hB7) ?_; rintro v8 m8 H8 hm8 ⟨rfl, rfl⟩
      refine wns ?_
      refine w_if rfl (fun h6 => ?_) (fun h6 => ?_)
      · skip
        refine w_ret ?_
        refine at_then_ret ?_
        refine at_block_ret ?_
        refine at_then_ret ?_
        refine at_then_ret ?_
        refine at_block_ret ?_
        refine at_then_ret ?_
        refine at_block_ret ?_
        refine at_then_ret ?_
        refine at_then_ret ?_
        refine at_block_ret ?_
        refine at_end (res0 rfl) ?_
        refine ⟨rfl, Lc', ?_, hB7⟩
        have e : listsB ptxt ls = ((listsHd ls.length ++ cat (listB ptxt) (ls.take i)) ++ (listHd ls[i].length ++ cat (fun p => 32 :: ptxt p) (ls[i].take j))) ++ (cat (fun p => 32 :: ptxt p) (ls[i].drop j) ++ [10] ++ cat (listB ptxt) (ls.drop (i + 1))) := by
          rw [htx, cat_split (listB ptxt) hi, listB]
          conv => lhs; rw [← List.take_append_drop j ls[i], cat_append]
          simp
        rw [e]
        exact hW7.stop _ h6
      · skip
        refine w_skip ?_
        refine at_seq ?_
        refine w_region ?_
        refine wmv ?_
        refine wmv ?_
        refine wl_callp rfl rfl rfl Tryz.c128 (hF _ _ _ (hC _ _ _ _ (hm06.trans (hm7.trans hm8)) hwl')) ?_; rintro v9 m9 hm9 rfl
        refine wl_buildSlice rfl rfl Tryz.underlying129 Tryz.size9 Tryz.zero9 rfl rfl rfl rfl rfl ?_; intro b39
        refine wl_calld0 rfl rfl rfl Tryz.c68 (word_ok (ws := [ptxt ls[i][j]]) bt_writer hB7 (by rw [spaced_one]; simp; omega) (by simp)) ?_; rintro v10 m10 H10 hm10 ⟨rfl, hB10⟩
        refine wl_nil ?_
        refine at_block_normal ?_
        refine at_seq ?_
        refine w_region ?_
        refine wv (x_add rfl rfl (wrap_i64 (by omega) (by omega))) ?_
        refine wmv ?_
        refine wl_nil ?_
        exact at_again (r2 - 1) [(0, .pointer (some ⟨b, 0, none⟩)), (16, .slice (some ⟨bl, ol, none⟩) ls.length cap), (17, .int .i64 ls.length), (18, .int .i64 (i : Nat)), (28, .slice (some ⟨bq, oq, none⟩) ls[i].length cap'), (29, .int .i64 ls[i].length), (30, .int .i64 (j + 1 : Nat))] (by omega) ⟨j + 1, _, hm7.trans (hm8.trans (hm9.trans hm10)), by omega, (hW7.app (q := spaced [ptxt ls[i][j]])).as (by rw [cat_snoc _ hj, spaced_one]; simp), hB10, rfl⟩ (by repeat' (first | exact trivial | exact rfl | exact lk_int rfl (by omega) | apply And.intro))
    · skip
      obtain rfl : j = ls[i].length := by omega
      rw [List.take_length] at hW7 hWl7
      refine w_exit ?_
      refine at_then_exit ?_
      refine at_then_exit ?_
      refine at_block_hit ?_
      refine at_seq ?_
      refine w_region ?_
      refine wmv ?_
      refine wl_calld0 rfl rfl rfl Tryz.c71 (wend_ok bt_writer hB7 (by omega)) ?_; rintro v8 m8 H8 hm8 ⟨rfl, hB8⟩
      refine wl_nil ?_
      refine at_block_normal ?_
      refine at_seq ?_
      refine w_region ?_
      refine wv (x_add rfl rfl (wrap_i64 (by omega) (by omega))) ?_
      refine wmv ?_
      refine wl_nil ?_
      exact at_again (r - 1) [(0, .pointer (some ⟨b, 0, none⟩)), (16, .slice (some ⟨bl, ol, none⟩) ls.length cap), (17, .int .i64 ls.length), (18, .int .i64 (i + 1 : Nat))] (by omega) ⟨i + 1, _, hm4.trans (hm5.trans (hm6.trans (hm7.trans hm8))), by omega, (hW7.app (q := [10])).as (by rw [cat_snoc _ hi, listB]; simp), hB8, rfl⟩ (by repeat' (first | exact trivial | exact rfl | exact lk_int rfl (by omega) | apply And.intro))
  · skip
    obtain rfl : i = ls.length := by omega
    rw [List.take_length] at hW
    refine w_exit ?_
    refine at_then_exit ?_
    refine at_then_exit ?_
    refine at_block_hit ?_
    refine at_end_normal (res0 rfl) ?_
    exact ⟨rfl, Lc, hW, hB4⟩
end Go.Cy


/- certificate.reader: line, number, integer, words. -/
namespace Go.Cy
open Go Go.Proofs
set_option maxRecDepth 20000

section
variable {P : Program} {n : Nat} {K : Ctx} {env : Env} {m : Mem} {H : Hp} {x : Nat × Obj}
theorem at_endx {fn : Func} {R : Value → Mem → Hp → Prop} {v : Value} (hs' : x ∈ H) (hv : ∀ a w, Fr n env a → St K m H w → (results fn a.tmps).run P w = .ok v w) (hR : R v m [x]) : At n K (bodyPost P fn (RetP (Ends K R))) .ret env m H :=
  fun a w ha hs => ⟨ha.defers, v, hv a w ha hs, m, [x], hs.sub (fun b o hb => by rw [List.mem_singleton.1 hb]; exact hs') (List.pairwise_singleton _ _), hR⟩
end
abbrev Rs := List UInt8 × Bool
def rdO (s : Rs) : Obj := cl 128 [.string (B s.1), .bool s.2]
def Wv (m : Mem) (v : Value) (ws : List (List UInt8)) : Prop := ∃ ad cap, v = .slice ad ws.length cap ∧ ws.length ≤ cap ∧ (0 < ws.length → ∃ b o, ad = some ⟨b, o, none⟩ ∧ Row m [] b o (ws.map fun s => .string (B s)))
theorem Wv.up {m m' : Mem} {v : Value} {ws : List (List UInt8)} (h : Wv m v ws) (hm : m.le m') : Wv m' v ws := by
  obtain ⟨ad, cap, h1, h2, h3⟩ := h
  exact ⟨ad, cap, h1, h2, fun h0 => by obtain ⟨b, o, h4, h5⟩ := h3 h0; exact ⟨b, o, h4, h5.up hm⟩⟩
theorem Wv.drop {m : Mem} {a : Option Addr} {cap : Nat} {ws : List (List UInt8)} (h : Wv m (.slice a ws.length cap) ws) {k : Nat} (hk : k ≤ ws.length) : Wv m (.slice (offTo a k 1 cap) (ws.length - k) (cap - k)) (ws.drop k) := by
  obtain ⟨a', cap', h3, h4, h5⟩ := h
  simp only [Value.slice.injEq, true_and] at h3
  obtain ⟨rfl, rfl⟩ := h3
  refine ⟨offTo a k 1 cap, cap - k, by simp, by simp; omega, fun h0 => ?_⟩
  simp at h0
  obtain ⟨b, o, rfl, h7⟩ := h5 (by omega)
  refine ⟨b, o + k, by rw [offTo_lt (by omega), Nat.mul_one], h7.sub k rfl fun j hj => ?_⟩
  simp at hj ⊢
theorem Wv.row {m : Mem} {H : Hp} {a : Option Addr} {cap : Nat} {ws : List (List UInt8)} (h : Wv m (.slice a ws.length cap) ws) {i : Nat} (hi : i < ws.length) : ∃ b o, a = some ⟨b, o, none⟩ ∧ Row m H b (o + i * 1) [.string (B ws[i])] := by
  obtain ⟨a', cap', h3, h4, h5⟩ := h
  simp only [Value.slice.injEq, true_and] at h3
  obtain ⟨rfl, rfl⟩ := h3
  obtain ⟨b, o, rfl, h7⟩ := h5 (by omega)
  exact ⟨b, o, rfl, h7.heap.nth i (by rw [List.getElem?_map, List.getElem?_eq_getElem hi]; rfl) (by omega)⟩
theorem Wv.nil {m : Mem} : Wv m (.slice none 0 0) [] := ⟨none, 0, rfl, Nat.le_refl _, fun h => absurd h (Nat.lt_irrefl _)⟩
def rdLine (F : List UInt8) (s : Rs) : List (List UInt8) × Rs := match cutB 10 s.1 with
  | (a, some q) => match splB 32 a with
    | w :: ws => if w = F ∧ s.2 = true then (ws, (q, true)) else ([], (s.1, false))
    | [] => ([], (s.1, false))
  | (_, none) => ([], (s.1, false))
theorem rdLine_le {F : List UInt8} {s : Rs} : (rdLine F s).2.1.length ≤ s.1.length ∧ (∀ w ∈ (rdLine F s).1, w.length ≤ s.1.length) ∧ (rdLine F s).1.length ≤ s.1.length ∧ ((rdLine F s).2.2 = true → s.2 = true ∧ (rdLine F s).2.1.length + 1 + F.length ≤ s.1.length) := by
  unfold rdLine
  rcases hc : cutB 10 s.1 with ⟨a, _ | q⟩
  · exact ⟨Nat.le_refl _, fun _ h => absurd h List.not_mem_nil, Nat.zero_le _, fun h => by cases h⟩
  · have h1 := cutB_some hc
    have h1l : s.1.length = a.length + (q.length + 1) := by rw [h1]; simp
    have h2 := splB_len 32 a
    have h3 := splB_count 32 a
    simp only
    rcases hs : splB 32 a with _ | ⟨w, ws⟩
    · exact ⟨Nat.le_refl _, fun _ h => absurd h List.not_mem_nil, Nat.zero_le _, fun h => by cases h⟩
    · rw [hs] at h2 h3
      simp only
      split
      · rename_i he
        have h4 := h2 w (List.mem_cons_self ..)
        rw [he.1] at h4
        simp at h3
        exact ⟨by show q.length ≤ _; omega, fun u hu => by have := h2 u (List.mem_cons_of_mem _ hu); omega, by show ws.length ≤ _; omega, fun _ => ⟨he.2, by show q.length + 1 + F.length ≤ _; omega⟩⟩
      · exact ⟨Nat.le_refl _, fun _ h => absurd h List.not_mem_nil, Nat.zero_le _, fun h => by cases h⟩
theorem line_ok {m : Mem} {b : Nat} {s : Rs} {F : List UInt8} (hw : Wd m) (hl : s.1.length ≤ 1048576) : Does Tryz.prog 132 #[.pointer (some ⟨b, 0, none⟩), .string (B F)] m [(b, rdO s)] fun v m' H' => Wv m' v (rdLine F s).1 ∧ H' = [(b, rdO (rdLine F s).2)] := by
  obtain ⟨R, ok⟩ := s
  simp only at hl
  unfold rdO
  simp only
  refine enter Tryz.func132 rfl rfl ?_
  intro K hm0 hks
  rcases hc : cutB 10 R with ⟨a, _ | q⟩
  · skip
    refine wsr ?_
    refine was ?_
    refine wnr ?_
    refine wmv ?_
    refine wv (x_nilCheck rfl) ?_
    refine wv (x_fieldAddr Tryz.underlying128 rfl Tryz.size9 rfl) ?_
    refine wv (x_load Tryz.plain9 rfl (rowH1 (.head _) rfl)) ?_
    refine wl_callp rfl rfl rfl Tryz.c136 (Cut_ok (c := 10) (L := R) hw (by omega)) ?_; rintro v1 m1 hm1 h1
    rw [hc] at h1
    obtain rfl := h1
    refine wmv ?_
    refine wex ?_
    refine wex ?_
    refine wex ?_
    refine was ?_
    refine was ?_
    refine was ?_
    refine wnr ?_
    refine wmv ?_
    refine wl_callp rfl rfl rfl Tryz.c182 (Split_ok (c := 32) (L := R) (hw.up hm1) (by omega)) ?_; rintro v2 m2 hm2 ⟨b2, rfl, hr2⟩
    refine was ?_
    refine wns ?_
    refine w_seq ?_
    refine wsr ?_
    refine wmv ?_
    refine wv (x_not rfl rfl) ?_
    refine wmv ?_
    refine wl_off rfl rfl rfl ?_
    refine wl_off rfl rfl rfl ?_
    refine wl_off rfl rfl rfl ?_
    refine wl_off rfl rfl rfl ?_
    refine wl_off rfl rfl rfl ?_
    refine wv (x_pick_t rfl rfl) ?_
    refine wns ?_
    refine w_true rfl ?_
    refine w_region ?_
    refine wmv ?_
    refine wv (x_nilCheck rfl) ?_
    refine wv (x_fieldAddr Tryz.underlying128 rfl Tryz.size4 rfl) ?_
    refine wl_store rfl Tryz.size4 rfl rfl rfl (by simp) ?_
    refine wns ?_
    refine w_seq ?_
    refine wsr ?_
    refine wmv ?_
    refine wv (x_nilCheck rfl) ?_
    refine wv (x_fieldAddr Tryz.underlying128 rfl Tryz.size4 rfl) ?_
    refine wv (x_load Tryz.plain4 rfl (rowH1 (.head _) rfl)) ?_
    refine wv (x_not rfl rfl) ?_
    refine wns ?_
    refine w_cond rfl (fun h => ?_) (fun h => ?_)
    · skip
      refine wsr ?_
      refine was ?_
      refine wns ?_
      refine w_ret ?_
      refine at_then_ret ?_
      refine at_end (res1 rfl rfl) ?_
      rw [show rdLine F (R, ok) = ([], (R, false)) by unfold rdLine; simp only [hc]]
      exact ⟨Wv.nil, rfl⟩
    · skip
      cases h
  · skip
    have hLe := cutB_some hc
    have hal : a.length ≤ 1048576 := by rw [hLe] at hl; simp at hl; omega
    have hsc := splB_count 32 a
    obtain ⟨ws, hws⟩ : ∃ ws, ws = splB 32 a := ⟨_, rfl⟩
    have hne := splB_ne 32 a
    rw [← hws] at hsc hne
    rcases ws with _ | ⟨w, ws⟩
    · skip
      exact absurd rfl hne
    · skip
      have hcl : 0 < (w :: ws).length := Nat.succ_pos _
      by_cases hwF : w = F
      · skip
        rcases ok with _ | _
        · skip
          refine wsr ?_
          refine was ?_
          refine wnr ?_
          refine wmv ?_
          refine wv (x_nilCheck rfl) ?_
          refine wv (x_fieldAddr Tryz.underlying128 rfl Tryz.size9 rfl) ?_
          refine wv (x_load Tryz.plain9 rfl (rowH1 (.head _) rfl)) ?_
          refine wl_callp rfl rfl rfl Tryz.c136 (Cut_ok (c := 10) (L := R) hw (by omega)) ?_; rintro v1 m1 hm1 h1
          rw [hc] at h1
          obtain rfl := h1
          refine wmv ?_
          refine wex ?_
          refine wex ?_
          refine wex ?_
          refine was ?_
          refine was ?_
          refine was ?_
          refine wnr ?_
          refine wmv ?_
          refine wl_callp rfl rfl rfl Tryz.c182 (Split_ok (c := 32) (L := a) (hw.up hm1) (by omega)) ?_; rintro v2 m2 hm2 ⟨b2, rfl, hr2⟩
          rw [← hws] at hr2 ⊢
          refine was ?_
          refine wns ?_
          refine w_seq ?_
          refine wsr ?_
          refine wmv ?_
          refine wv (x_not rfl rfl) ?_
          refine wmv ?_
          refine wmv ?_
          refine wv (x_index Tryz.underlying129 Tryz.size9 rfl rfl (j := 0) (by omega) (by omega)) ?_
          refine wv (x_load Tryz.plain9 rfl ((hr2.heap.nth 0 rfl rfl))) ?_
          refine wmv ?_
          refine wv ((x_neqBs (L := w) rfl rfl).as (bool_f fun h => h hwF)) ?_
          refine wv (x_pick_f rfl rfl) ?_
          refine wns ?_
          refine w_false rfl ?_
          refine w_skip ?_
          refine at_seq ?_
          refine w_seq ?_
          refine wsr ?_
          refine wmv ?_
          refine wv (x_nilCheck rfl) ?_
          refine wv (x_fieldAddr Tryz.underlying128 rfl Tryz.size4 rfl) ?_
          refine wv (x_load Tryz.plain4 rfl (rowH1 (.head _) rfl)) ?_
          refine wv (x_not rfl rfl) ?_
          refine wns ?_
          refine w_cond rfl (fun h => ?_) (fun h => ?_)
          · skip
            refine wsr ?_
            refine was ?_
            refine wns ?_
            refine w_ret ?_
            refine at_then_ret ?_
            refine at_end (res1 rfl rfl) ?_
            rw [show rdLine F (R, false) = ([], (R, false)) by unfold rdLine; simp only [hc, ← hws]; rw [if_neg (by simp)]]
            exact ⟨Wv.nil, rfl⟩
          · skip
            cases h
        · skip
          refine wsr ?_
          refine was ?_
          refine wnr ?_
          refine wmv ?_
          refine wv (x_nilCheck rfl) ?_
          refine wv (x_fieldAddr Tryz.underlying128 rfl Tryz.size9 rfl) ?_
          refine wv (x_load Tryz.plain9 rfl (rowH1 (.head _) rfl)) ?_
          refine wl_callp rfl rfl rfl Tryz.c136 (Cut_ok (c := 10) (L := R) hw (by omega)) ?_; rintro v1 m1 hm1 h1
          rw [hc] at h1
          obtain rfl := h1
          refine wmv ?_
          refine wex ?_
          refine wex ?_
          refine wex ?_
          refine was ?_
          refine was ?_
          refine was ?_
          refine wnr ?_
          refine wmv ?_
          refine wl_callp rfl rfl rfl Tryz.c182 (Split_ok (c := 32) (L := a) (hw.up hm1) (by omega)) ?_; rintro v2 m2 hm2 ⟨b2, rfl, hr2⟩
          rw [← hws] at hr2 ⊢
          refine was ?_
          refine wns ?_
          refine w_seq ?_
          refine wsr ?_
          refine wmv ?_
          refine wv (x_not rfl rfl) ?_
          refine wmv ?_
          refine wmv ?_
          refine wv (x_index Tryz.underlying129 Tryz.size9 rfl rfl (j := 0) (by omega) (by omega)) ?_
          refine wv (x_load Tryz.plain9 rfl ((hr2.heap.nth 0 rfl rfl))) ?_
          refine wmv ?_
          refine wv ((x_neqBs (L := w) rfl rfl).as (bool_f fun h => h hwF)) ?_
          refine wv (x_pick_f rfl rfl) ?_
          refine wns ?_
          refine w_false rfl ?_
          refine w_skip ?_
          refine at_seq ?_
          refine w_seq ?_
          refine wsr ?_
          refine wmv ?_
          refine wv (x_nilCheck rfl) ?_
          refine wv (x_fieldAddr Tryz.underlying128 rfl Tryz.size4 rfl) ?_
          refine wv (x_load Tryz.plain4 rfl (rowH1 (.head _) rfl)) ?_
          refine wv (x_not rfl rfl) ?_
          refine wns ?_
          refine w_cond rfl (fun h => ?_) (fun h => ?_)
          · skip
            cases h
          · skip
            refine w_skip ?_
            refine at_seq ?_
            refine wsr ?_
            refine wmv ?_
            refine wmv ?_
            refine wv (x_nilCheck rfl) ?_
            refine wv (x_fieldAddr Tryz.underlying128 rfl Tryz.size9 rfl) ?_
            refine wl_store rfl Tryz.size9 rfl rfl rfl (by simp) ?_
            refine wnr ?_
            refine wmv ?_
            refine wv (x_slice (lo := 1) (hi := (w :: ws).length) Tryz.underlying129 Tryz.size9 rfl (⟨_, by first | rfl | exact lk_int rfl (by omega)⟩) (rfl) (by omega) (by omega)) ?_
            refine was ?_
            refine wns ?_
            refine w_ret ?_
            refine at_end (res1 rfl rfl) ?_
            rw [show rdLine F (R, true) = (ws, (q, true)) by unfold rdLine; simp only [hc, ← hws]; rw [if_pos ⟨hwF, trivial⟩]]
            exact ⟨(show Wv m2 (.slice (some ⟨b2, 0, none⟩) (w :: ws).length (w :: ws).length) (w :: ws) from ⟨_, _, rfl, Nat.le_refl _, fun _ => ⟨b2, 0, rfl, hr2⟩⟩).drop (k := 1) (by simp), rfl⟩
      · skip
        refine wsr ?_
        refine was ?_
        refine wnr ?_
        refine wmv ?_
        refine wv (x_nilCheck rfl) ?_
        refine wv (x_fieldAddr Tryz.underlying128 rfl Tryz.size9 rfl) ?_
        refine wv (x_load Tryz.plain9 rfl (rowH1 (.head _) rfl)) ?_
        refine wl_callp rfl rfl rfl Tryz.c136 (Cut_ok (c := 10) (L := R) hw (by omega)) ?_; rintro v1 m1 hm1 h1
        rw [hc] at h1
        obtain rfl := h1
        refine wmv ?_
        refine wex ?_
        refine wex ?_
        refine wex ?_
        refine was ?_
        refine was ?_
        refine was ?_
        refine wnr ?_
        refine wmv ?_
        refine wl_callp rfl rfl rfl Tryz.c182 (Split_ok (c := 32) (L := a) (hw.up hm1) (by omega)) ?_; rintro v2 m2 hm2 ⟨b2, rfl, hr2⟩
        rw [← hws] at hr2 ⊢
        refine was ?_
        refine wns ?_
        refine w_seq ?_
        refine wsr ?_
        refine wmv ?_
        refine wv (x_not rfl rfl) ?_
        refine wmv ?_
        refine wmv ?_
        refine wv (x_index Tryz.underlying129 Tryz.size9 rfl rfl (j := 0) (by omega) (by omega)) ?_
        refine wv (x_load Tryz.plain9 rfl ((hr2.heap.nth 0 rfl rfl))) ?_
        refine wmv ?_
        refine wv ((x_neqBs (L := w) rfl rfl).as (bool_t hwF)) ?_
        refine wv (x_pick_f rfl rfl) ?_
        refine wns ?_
        refine w_true rfl ?_
        refine w_region ?_
        refine wmv ?_
        refine wv (x_nilCheck rfl) ?_
        refine wv (x_fieldAddr Tryz.underlying128 rfl Tryz.size4 rfl) ?_
        refine wl_store rfl Tryz.size4 rfl rfl rfl (by simp) ?_
        refine wns ?_
        refine w_seq ?_
        refine wsr ?_
        refine wmv ?_
        refine wv (x_nilCheck rfl) ?_
        refine wv (x_fieldAddr Tryz.underlying128 rfl Tryz.size4 rfl) ?_
        refine wv (x_load Tryz.plain4 rfl (rowH1 (.head _) rfl)) ?_
        refine wv (x_not rfl rfl) ?_
        refine wns ?_
        refine w_cond rfl (fun h => ?_) (fun h => ?_)
        · skip
          refine wsr ?_
          refine was ?_
          refine wns ?_
          refine w_ret ?_
          refine at_then_ret ?_
          refine at_end (res1 rfl rfl) ?_
          rw [show rdLine F (R, ok) = ([], (R, false)) by unfold rdLine; simp only [hc, ← hws]; rw [if_neg fun h => hwF h.1]]
          exact ⟨Wv.nil, rfl⟩
        · skip
          cases h
def rdNum (L : List UInt8) (s : Rs) : Int × Rs := match atoi L with
  | some n => (n, s)
  | none => (0, (s.1, false))
theorem number_ok' {m : Mem} {b : Nat} {s : Rs} {L : List UInt8} (hE : Er m) (hl : L.length ≤ 1048576) : Does Tryz.prog 78 #[.pointer (some ⟨b, 0, none⟩), .string (B L)] m [(b, rdO s)] fun v m' H' => v = .int .i64 (rdNum L s).1 ∧ H' = [(b, rdO (rdNum L s).2)] := by
  obtain ⟨R, ok⟩ := s
  unfold rdNum rdO
  refine enter Tryz.func78 rfl rfl ?_
  intro K hm0 hks
  rcases hat : atoi L with _ | n
  · skip
    refine wsr ?_
    refine was ?_
    refine wnr ?_
    refine wmv ?_
    refine wl_callp rfl rfl rfl Tryz.c133 (Atoi_ok (L := L) hE (by omega)) ?_; rintro v1 m1 hm1 h1
    rw [hat] at h1
    obtain ⟨n4, b4, rfl⟩ := h1
    refine wmv ?_
    refine wex ?_
    refine wex ?_
    refine was ?_
    refine was ?_
    refine wns ?_
    refine w_seq ?_
    refine wsr ?_
    refine wmv ?_
    refine wv (x_neqNil Tryz.underlying183 rfl rfl) ?_
    refine wns ?_
    refine w_true rfl ?_
    refine wsr ?_
    refine wmv ?_
    refine wv (x_nilCheck rfl) ?_
    refine wv (x_fieldAddr Tryz.underlying128 rfl Tryz.size4 rfl) ?_
    refine wl_store rfl Tryz.size4 rfl rfl rfl (by simp) ?_
    refine wnr ?_
    refine was ?_
    refine wns ?_
    refine w_ret ?_
    refine at_then_ret ?_
    refine at_end (res1 rfl rfl) ?_
    exact ⟨rfl, rfl⟩
  · skip
    refine wsr ?_
    refine was ?_
    refine wnr ?_
    refine wmv ?_
    refine wl_callp rfl rfl rfl Tryz.c133 (Atoi_ok (L := L) hE (by omega)) ?_; rintro v1 m1 hm1 h1
    rw [hat] at h1
    obtain rfl := h1
    refine wmv ?_
    refine wex ?_
    refine wex ?_
    refine was ?_
    refine was ?_
    refine wns ?_
    refine w_seq ?_
    refine wsr ?_
    refine wmv ?_
    refine wv (x_neqNilNil Tryz.underlying183 rfl rfl) ?_
    refine wns ?_
    refine w_false rfl ?_
    refine w_skip ?_
    refine at_seq ?_
    refine wsr ?_
    refine wmv ?_
    refine was ?_
    refine wns ?_
    refine w_ret ?_
    refine at_end (res1 rfl rfl) ?_
    exact ⟨rfl, rfl⟩
def rdInt (L : List UInt8) (s : Rs) : Int × Rs := match pInt L with
  | some n => (n, s)
  | none => (0, (s.1, false))
theorem Ic.zero {m : Mem} : Ic m (.agg #[.bool false, .slice none 0 0]) 0 := ⟨false, .slice none 0 0, 0, rfl, ⟨[], ⟨fun _ h => absurd h List.not_mem_nil, Nat.zero_le _, none, 0, rfl, Nat.le_refl _, fun h => absurd h (Nat.lt_irrefl _)⟩, rfl, norm_nil⟩, rfl, fun h => by cases h⟩
theorem integer_ok {m : Mem} {b : Nat} {s : Rs} {L : List UInt8} (hl : L.length ≤ 1048576) : Does Tryz.prog 135 #[.pointer (some ⟨b, 0, none⟩), .string (B L)] m [(b, rdO s)] fun v m' H' => Ic m' v (rdInt L s).1 ∧ H' = [(b, rdO (rdInt L s).2)] := by
  obtain ⟨R, ok⟩ := s
  unfold rdInt rdO
  refine enter Tryz.func135 rfl rfl ?_
  intro K hm0 hks
  rcases hpi : pInt L with _ | n
  · skip
    refine wsr ?_
    refine wl_alloc rfl rfl Tryz.zero49 ?_; intro b4
    refine wnr ?_
    refine wmv ?_
    refine wl_callp rfl rfl rfl Tryz.c143 (DecParse_ok (L := L) (by omega)) ?_; rintro v1 m1 hm1 h1
    rw [hpi] at h1
    obtain rfl := h1
    refine wmv ?_
    refine wex ?_
    refine wex ?_
    refine wl_alloc rfl rfl Tryz.zero49 ?_; intro b5
    refine wl_storeAll rfl (by exact Tryz.size49) rfl rfl (by simp [Value.oneCell']) rfl ?_
    refine was ?_
    refine wns ?_
    refine w_seq ?_
    refine wsr ?_
    refine wmv ?_
    refine wv ((x_neq rfl rfl).as (bool_t (by decide))) ?_
    refine wns ?_
    refine w_true rfl ?_
    refine w_region ?_
    refine wmv ?_
    refine wv (x_nilCheck rfl) ?_
    refine wv (x_fieldAddr Tryz.underlying128 rfl Tryz.size4 rfl) ?_
    refine wl_front2 ?_
    refine wl_store rfl Tryz.size4 rfl rfl rfl (by simp) ?_
    refine wnr ?_
    refine wv (x_loads Tryz.agg49 (by exact Tryz.size49) rfl (rowH0 (.tail _ (.head _)))) ?_
    refine wl_front2 ?_
    refine wl_storeAll rfl (by exact Tryz.size49) rfl rfl (by simp [Value.oneCell']) rfl ?_
    refine wns ?_
    refine w_ret ?_
    refine at_endx (x := (b, rdO (R, false))) (by first | exact .head _ | exact .tail _ (.head _) | exact .tail _ (.tail _ (.head _)) | exact .tail _ (.tail _ (.tail _ (.head _))) | exact .tail _ (.tail _ (.tail _ (.tail _ (.head _))))) (resA rfl ⟨⟨_, _, _, rfl, rowH0 (.head _), .inr ⟨Tryz.agg49, Tryz.size49, rfl⟩⟩, trivial⟩) ?_
    exact ⟨Ic.zero, rfl⟩
  · skip
    refine wsr ?_
    refine wl_alloc rfl rfl Tryz.zero49 ?_; intro b4
    refine wnr ?_
    refine wmv ?_
    refine wl_callp rfl rfl rfl Tryz.c143 (DecParse_ok (L := L) (by omega)) ?_; rintro v1 m1 hm1 h1
    rw [hpi] at h1
    obtain ⟨u, rfl, h3⟩ := h1
    obtain ⟨n5, d5, l5, c5, rfl⟩ := h3.agg
    refine wmv ?_
    refine wex ?_
    refine wex ?_
    refine wl_alloc rfl rfl Tryz.zero49 ?_; intro b5
    refine wl_storeAll rfl (by exact Tryz.size49) rfl rfl (by simp [Value.oneCell']) rfl ?_
    refine was ?_
    refine wns ?_
    refine w_seq ?_
    refine wsr ?_
    refine wmv ?_
    refine wv ((x_neq rfl rfl).as (bool_f (by decide))) ?_
    refine wns ?_
    refine w_false rfl ?_
    refine w_skip ?_
    refine at_seq ?_
    refine wsr ?_
    refine wv (x_loads Tryz.agg49 (by exact Tryz.size49) rfl (rowH0 (.head _))) ?_
    refine wl_front1 ?_
    refine wl_storeAll rfl (by exact Tryz.size49) rfl rfl (by simp [Value.oneCell']) rfl ?_
    refine wns ?_
    refine w_ret ?_
    refine at_endx (x := (b, rdO (R, ok))) (by first | exact .head _ | exact .tail _ (.head _) | exact .tail _ (.tail _ (.head _)) | exact .tail _ (.tail _ (.tail _ (.head _))) | exact .tail _ (.tail _ (.tail _ (.tail _ (.head _))))) (resA rfl ⟨⟨_, _, _, rfl, rowH0 (.head _), .inr ⟨Tryz.agg49, Tryz.size49, rfl⟩⟩, trivial⟩) ?_
    exact ⟨h3, rfl⟩
def rdWords (F : List UInt8) (n : Nat) (s : Rs) : List (List UInt8) × Rs :=
  if (rdLine F s).2.2 = true ∧ (rdLine F s).1.length = n then ((rdLine F s).1, ((rdLine F s).2.1, true)) else (List.replicate n [], ((rdLine F s).2.1, false))
theorem reps_words (n : Nat) : reps n [.string ⟨#[]⟩] = (List.replicate n ([] : List UInt8)).map fun s => Value.string (B s) := by
  rw [reps_one, List.map_replicate]; rfl
theorem Wv.made {m : Mem} {b n : Nat} {T : TypeId} (h : m b = some (cl T (reps n [.string ⟨#[]⟩]))) : Wv m (.slice (some ⟨b, 0, none⟩) n n) (List.replicate n []) := by
  refine ⟨some ⟨b, 0, none⟩, n, by simp, by simp, fun _ => ⟨b, 0, rfl, ?_⟩⟩
  rw [← reps_words]
  exact rowM h fun i _ => by simp
theorem words_ok {m : Mem} {b n : Nat} {s : Rs} {F : List UInt8} (hw : Wd m) (hl : s.1.length ≤ 1048576) (hn : n ≤ 1048576) : Does Tryz.prog 77 #[.pointer (some ⟨b, 0, none⟩), .string (B F), .int .i64 n] m [(b, rdO s)] fun v m' H' => Wv m' v (rdWords F n s).1 ∧ H' = [(b, rdO (rdWords F n s).2)] := by
  have hle := rdLine_le (F := F) (s := s)
  unfold rdWords
  obtain ⟨ws, ⟨R, ok⟩, hr⟩ : ∃ ws s', rdLine F s = (ws, s') := ⟨_, _, rfl⟩
  rw [hr] at hle
  rw [hr]
  simp only at hle ⊢
  refine enter Tryz.func77 rfl rfl ?_
  intro K hm0 hks
  rcases ok with _ | _
  · skip
    refine wsr ?_
    refine was ?_
    refine wnr ?_
    refine wmv ?_
    refine wmv ?_
    refine wl_calld0 rfl rfl rfl Tryz.c132 (line_ok (F := F) hw hl) ?_; rintro v1 m1 H1 hm1 ⟨h1, rfl⟩
    rw [hr] at h1 ⊢
    simp only at h1
    unfold rdO
    simp only
    obtain ⟨ad, cap, rfl, hcap, _⟩ := h1
    refine was ?_
    refine wns ?_
    refine w_seq ?_
    refine wsr ?_
    refine wmv ?_
    refine wv (x_nilCheck rfl) ?_
    refine wv (x_fieldAddr Tryz.underlying128 rfl Tryz.size4 rfl) ?_
    refine wv (x_load Tryz.plain4 rfl (rowH1 (.head _) rfl)) ?_
    refine wmv ?_
    refine wl_off rfl rfl rfl ?_
    refine wl_off rfl rfl rfl ?_
    refine wl_off rfl rfl rfl ?_
    refine wl_off rfl rfl rfl ?_
    refine wv (x_pick_f rfl rfl) ?_
    refine wns ?_
    refine w_false rfl ?_
    refine w_skip ?_
    refine at_seq ?_
    refine w_seq ?_
    refine wsr ?_
    refine wmv ?_
    refine wv (x_nilCheck rfl) ?_
    refine wv (x_fieldAddr Tryz.underlying128 rfl Tryz.size4 rfl) ?_
    refine wv (x_load Tryz.plain4 rfl (rowH1 (.head _) rfl)) ?_
    refine wv (x_not rfl rfl) ?_
    refine wns ?_
    refine w_cond rfl (fun h => ?_) (fun h => ?_)
    · skip
      refine wsr ?_
      refine wmv ?_
      refine wl_make (N := n) rfl rfl Tryz.underlying129 Tryz.size9 Tryz.bytes9 Tryz.zero9 rfl rfl rfl (by omega) (by omega) (by omega) (by omega) ?_; intro b30
      refine was ?_
      refine wns ?_
      refine w_ret ?_
      refine at_then_ret ?_
      refine at_freeze ?_; intro hfz
      refine at_end (res1 rfl rfl) ?_
      rw [if_neg (by simp)]
      exact ⟨Wv.made (Mem.add_at _ _ _), rfl⟩
    · skip
      cases h
  · skip
    by_cases hn2 : ws.length = n
    · skip
      refine wsr ?_
      refine was ?_
      refine wnr ?_
      refine wmv ?_
      refine wmv ?_
      refine wl_calld0 rfl rfl rfl Tryz.c132 (line_ok (F := F) hw hl) ?_; rintro v1 m1 H1 hm1 ⟨h1, rfl⟩
      rw [hr] at h1 ⊢
      simp only at h1
      unfold rdO
      simp only
      obtain ⟨ad, cap, rfl, hcap, h1⟩ := h1
      refine was ?_
      refine wns ?_
      refine w_seq ?_
      refine wsr ?_
      refine wmv ?_
      refine wv (x_nilCheck rfl) ?_
      refine wv (x_fieldAddr Tryz.underlying128 rfl Tryz.size4 rfl) ?_
      refine wv (x_load Tryz.plain4 rfl (rowH1 (.head _) rfl)) ?_
      refine wmv ?_
      refine wmv ?_
      refine wv (x_len Tryz.underlying129 rfl rfl) ?_
      refine wmv ?_
      refine wv ((x_neq rfl rfl).as (bool_f fun h => h (by rw [hn2]))) ?_
      refine wv (x_pick_t rfl rfl) ?_
      refine wns ?_
      refine w_false rfl ?_
      refine w_skip ?_
      refine at_seq ?_
      refine w_seq ?_
      refine wsr ?_
      refine wmv ?_
      refine wv (x_nilCheck rfl) ?_
      refine wv (x_fieldAddr Tryz.underlying128 rfl Tryz.size4 rfl) ?_
      refine wv (x_load Tryz.plain4 rfl (rowH1 (.head _) rfl)) ?_
      refine wv (x_not rfl rfl) ?_
      refine wns ?_
      refine w_cond rfl (fun h => ?_) (fun h => ?_)
      · skip
        cases h
      · skip
        refine w_skip ?_
        refine at_seq ?_
        refine wsr ?_
        refine wmv ?_
        refine was ?_
        refine wns ?_
        refine w_ret ?_
        refine at_end (res1 rfl rfl) ?_
        rw [if_pos (by simp [hn2])]
        exact ⟨⟨_, _, rfl, hcap, h1⟩, rfl⟩
    · skip
      refine wsr ?_
      refine was ?_
      refine wnr ?_
      refine wmv ?_
      refine wmv ?_
      refine wl_calld0 rfl rfl rfl Tryz.c132 (line_ok (F := F) hw hl) ?_; rintro v1 m1 H1 hm1 ⟨h1, rfl⟩
      rw [hr] at h1 ⊢
      simp only at h1
      unfold rdO
      simp only
      obtain ⟨ad, cap, rfl, hcap, _⟩ := h1
      refine was ?_
      refine wns ?_
      refine w_seq ?_
      refine wsr ?_
      refine wmv ?_
      refine wv (x_nilCheck rfl) ?_
      refine wv (x_fieldAddr Tryz.underlying128 rfl Tryz.size4 rfl) ?_
      refine wv (x_load Tryz.plain4 rfl (rowH1 (.head _) rfl)) ?_
      refine wmv ?_
      refine wmv ?_
      refine wv (x_len Tryz.underlying129 rfl rfl) ?_
      refine wmv ?_
      refine wv ((x_neq rfl rfl).as (bool_t fun h => hn2 (by omega))) ?_
      refine wv (x_pick_t rfl rfl) ?_
      refine wns ?_
      refine w_true rfl ?_
      refine w_region ?_
      refine wmv ?_
      refine wv (x_nilCheck rfl) ?_
      refine wv (x_fieldAddr Tryz.underlying128 rfl Tryz.size4 rfl) ?_
      refine wl_store rfl Tryz.size4 rfl rfl rfl (by simp) ?_
      refine wns ?_
      refine w_seq ?_
      refine wsr ?_
      refine wmv ?_
      refine wv (x_nilCheck rfl) ?_
      refine wv (x_fieldAddr Tryz.underlying128 rfl Tryz.size4 rfl) ?_
      refine wv (x_load Tryz.plain4 rfl (rowH1 (.head _) rfl)) ?_
      refine wv (x_not rfl rfl) ?_
      refine wns ?_
      refine w_cond rfl (fun h => ?_) (fun h => ?_)
      · skip
        refine wsr ?_
        refine wmv ?_
        refine wl_make (N := n) rfl rfl Tryz.underlying129 Tryz.size9 Tryz.bytes9 Tryz.zero9 rfl rfl rfl (by omega) (by omega) (by omega) (by omega) ?_; intro b30
        refine was ?_
        refine wns ?_
        refine w_ret ?_
        refine at_then_ret ?_
        refine at_freeze ?_; intro hfz
        refine at_end (res1 rfl rfl) ?_
        rw [if_neg fun h => hn2 h.2]
        exact ⟨Wv.made (Mem.add_at _ _ _), rfl⟩
      · skip
        cases h
end Go.Cy


/- certificate.reader: list. -/
namespace Go.Cy
open Go Go.Proofs
set_option maxRecDepth 20000

theorem own_cases {a : Option Addr} {l c s : Nat} {T : TypeId} {cells : List Value} {Hs : Hp} (h : Own (.slice a l c) s T cells Hs) : (a = none ∧ l = 0 ∧ c = 0 ∧ cells = [] ∧ Hs = []) ∨ ∃ b junk, a = some ⟨b, 0, none⟩ ∧ l ≤ c ∧ cells.length = l * s ∧ Hs = [(b, cl T (cells ++ junk))] := by
  rcases h with ⟨h1, h2, h3⟩ | ⟨b, len, cap, xs, h1, h2, h3, h4, h5, h6⟩
  · cases h1; exact .inl ⟨rfl, rfl, rfl, h2, h3⟩
  · cases h1
    exact .inr ⟨b, xs.drop (l * s), rfl, h2, h3, by rw [h6, ← h5, List.take_append_drop]⟩
theorem flat1 (vs : List Value) : (vs.map ([·])).flatten = vs := by
  induction vs with
  | nil => rfl
  | cons v vs ih => simp [ih]
theorem Sl.of1 {α : Type} {C : Mem → Value → α → Prop} {m : Mem} {ad : Option Addr} {cap n : Nat} {vs : List Value} {xs : List α} (h : All2 (fun v x => v.oneCell' = true ∧ C m v x) vs xs) (hn : n = xs.length) (hc : n ≤ cap) (hr : 0 < n → ∃ b o, ad = some ⟨b, o, none⟩ ∧ Row m [] b o vs) : Sl 1 (One C) m (.slice ad n cap) xs := by
  subst hn
  have hl := h.len
  refine ⟨ad, cap, vs.map ([·]), rfl, hc, by simpa using hl, fun us hu => ?_, fun i x hx => ?_, fun h0 => ?_⟩
  · obtain ⟨v, _, rfl⟩ := List.mem_map.1 hu; rfl
  · have : ∀ {vs : List Value} {xs : List α}, All2 (fun v x => v.oneCell' = true ∧ C m v x) vs xs → ∀ (i : Nat) x, xs[i]? = some x → ∃ v, vs[i]? = some v ∧ v.oneCell' = true ∧ C m v x := by
      intro vs xs h
      induction vs generalizing xs with
      | nil => cases xs with
        | nil => intro i x hx; simp at hx
        | cons => exact h.elim
      | cons v vs ih => cases xs with
        | nil => exact h.elim
        | cons y ys =>
          intro i x hx
          cases i with
          | zero => simp at hx; subst hx; exact ⟨v, rfl, h.1⟩
          | succ i => simpa using ih h.2 i x (by simpa using hx)
    obtain ⟨v, h1, h2, h3⟩ := this h i x hx
    exact ⟨[v], by rw [List.getElem?_map, h1]; rfl, v, rfl, h2, h3⟩
  · obtain ⟨b, o, h1, h2⟩ := hr h0
    refine ⟨b, o, h1, ?_⟩
    rw [flat1]
    exact h2
noncomputable def rdPolys : List (List UInt8) → Option (List (List Tm))
  | [] => some []
  | p :: ps => match pPoly p with
    | some t => (rdPolys ps).map (t :: ·)
    | none => none
noncomputable def rdList (s : Rs) : List (List Tm) × Rs := match (rdLine [108, 105, 115, 116] s).1 with
  | [] => ([], ((rdLine [108, 105, 115, 116] s).2.1, false))
  | _ :: ps => match rdPolys ps with
    | some l => (l, (rdLine [108, 105, 115, 116] s).2)
    | none => ([], ((rdLine [108, 105, 115, 116] s).2.1, false))
def PV (m : Mem) (v : Value) (ts : List Tm) : Prop := Cv m v ts ∧ ∃ q : List UInt8, q.length ≤ 1048576 ∧ pPoly q = some ts
theorem PV.up : ∀ m m' v a, m.le m' → PV m v a → PV m' v a := fun _ _ _ _ hm h => ⟨h.1.up hm, h.2⟩
def PR (m : Mem) (v : Value) (ts : List Tm) : Prop := v.oneCell' = true ∧ PV m v ts
theorem list_ok {m : Mem} {b : Nat} {s : Rs} (hw : Wd m) (hE : Er m) (hT : Tab Tryz.prog m) (hl : s.1.length ≤ 1048576) : Does Tryz.prog 79 #[.pointer (some ⟨b, 0, none⟩)] m [(b, rdO s)] fun v m' H' => Sl 1 (One PV) m' v (rdList s).1 ∧ H' = [(b, rdO (rdList s).2)] := by
  have hle := rdLine_le (F := [108, 105, 115, 116]) (s := s)
  obtain ⟨ws, s', hr⟩ : ∃ ws s', rdLine [108, 105, 115, 116] s = (ws, s') := ⟨_, _, rfl⟩
  rw [hr] at hle
  simp only at hle
  refine enter Tryz.func79 rfl rfl ?_
  intro K hm0 hks
  rcases ws with _ | ⟨w, ps⟩
  · skip
    refine wsr ?_
    refine was ?_
    refine wnr ?_
    refine wmv ?_
    refine wl_calld0 rfl rfl rfl Tryz.c132 (line_ok (F := [108, 105, 115, 116]) hw hl) ?_; rintro v1 m1 H1 hm1 ⟨h1, rfl⟩
    rw [hr] at h1 ⊢
    simp only at h1
    unfold rdO
    obtain ⟨ad, cap, rfl, hcap, _⟩ := h1
    refine was ?_
    refine wns ?_
    refine w_seq ?_
    refine wsr ?_
    refine wmv ?_
    refine wv (x_len Tryz.underlying129 rfl rfl) ?_
    refine wv ((x_eql rfl rfl).as (bool_t rfl)) ?_
    refine wns ?_
    refine w_true rfl ?_
    refine wsr ?_
    refine wmv ?_
    refine wv (x_nilCheck rfl) ?_
    refine wv (x_fieldAddr Tryz.underlying128 rfl Tryz.size4 rfl) ?_
    refine wl_store rfl Tryz.size4 rfl rfl rfl (by simp) ?_
    refine wnr ?_
    refine was ?_
    refine wns ?_
    refine w_ret ?_
    refine at_then_ret ?_
    refine at_end (res1 rfl rfl) ?_
    rw [show rdList s = ([], (s'.1, false)) by unfold rdList; rw [hr]]
    exact ⟨Sl.nil, rfl⟩
  · skip
    have hcl : 0 < (w :: ps).length := Nat.succ_pos _
    refine wsr ?_
    refine was ?_
    refine wnr ?_
    refine wmv ?_
    refine wl_calld0 rfl rfl rfl Tryz.c132 (line_ok (F := [108, 105, 115, 116]) hw hl) ?_; rintro v1 m1 H1 hm1 ⟨h1, rfl⟩
    rw [hr] at h1 ⊢
    simp only at h1
    obtain ⟨ad, cap, rfl, hcap, h2⟩ := h1
    refine was ?_
    refine wns ?_
    refine w_seq ?_
    refine wsr ?_
    refine wmv ?_
    refine wv (x_len Tryz.underlying129 rfl rfl) ?_
    refine wv ((x_eql rfl rfl).as (bool_f (by omega))) ?_
    refine wns ?_
    refine w_false rfl ?_
    refine w_skip ?_
    refine at_seq ?_
    refine wsr ?_
    refine was ?_
    refine wns ?_
    refine w_seq ?_
    refine wsr ?_
    refine wmv ?_
    refine wv (x_slice (lo := 1) (hi := (w :: ps).length) Tryz.underlying129 Tryz.size9 rfl (⟨_, by first | rfl | exact lk_int rfl (by omega)⟩) (rfl) (by omega) (by omega)) ?_
    refine wv (x_len Tryz.underlying129 rfl rfl) ?_
    refine wmv ?_
    refine wns ?_
    refine w_block ?_
    have hWp := Wv.drop (m := m1) (a := ad) (cap := cap) (ws := w :: ps) ⟨_, _, rfl, hcap, h2⟩ (k := 1) (by simp)
    obtain ⟨ad2, had2⟩ : ∃ ad2, ad2 = offTo ad 1 1 cap := ⟨_, rfl⟩
    obtain ⟨cap2, hcap2⟩ : ∃ cap2, cap2 = cap - 1 := ⟨_, rfl⟩
    rw [← had2, ← hcap2] at hWp ⊢
    replace hWp : Wv m1 (.slice ad2 ps.length cap2) ps := hWp
    have hpl : ps.length ≤ 1048576 := by have := hle.2.2.1; simp at this; omega
    refine w_loop (fun r m' H' env' => ∃ i a c vs ls rest Hs, i + r = ps.length ∧ m1.le m' ∧ rest = ps.drop i ∧ ls.length = i ∧ rdPolys ps = (rdPolys rest).map (ls ++ ·) ∧ All2 (PR m') vs ls ∧ Own (.slice a ls.length c) 1 28 vs Hs ∧ H' = (b, rdO s') :: Hs ∧ env' = [(0, .pointer (some ⟨b, 0, none⟩)), (4, .slice a ls.length c), (18, .slice ad2 ps.length cap2), (19, .int .i64 ps.length), (20, .int .i64 (i : Nat))]) ps.length [(0, .pointer (some ⟨b, 0, none⟩)), (4, .slice none 0 0), (18, .slice ad2 ps.length cap2), (19, .int .i64 ps.length), (20, .int .i64 (0 : Nat))] ⟨0, none, 0, [], [], ps, [], by omega, Mem.le.refl _, rfl, rfl, by simp, trivial, Own.nil _ _, rfl, rfl⟩ (by repeat' (first | exact trivial | exact rfl | exact lk_int rfl (by omega) | apply And.intro)) ?_
    rintro r m2 H' env' ⟨i, a, c, vs, ls, rest, Hs, hi, hm2, hrest, hll, hpp, hvs, hown, rfl, rfl⟩
    have hvl := hvs.len
    refine wsr ?_
    refine wv (x_lss rfl rfl) ?_
    refine wns ?_
    refine w_seq ?_
    refine w_if rfl (fun h3 => ?_) (fun h3 => ?_)
    · skip
      have hiq : i < ps.length := by omega
      rw [List.drop_eq_getElem_cons hiq] at hrest
      have hqi := hle.2.1 _ (List.mem_cons_of_mem _ (List.getElem_mem hiq))
      subst hrest
      obtain ⟨b2, o2, rfl, hrow⟩ := (hWp.up hm2).row (H := (b, rdO s') :: Hs) hiq
      have hm02 := hm1.trans hm2
      rw [rdPolys] at hpp
      rcases hpi : pPoly ps[i] with _ | t
      · skip
        rw [hpi] at hpp
        refine w_skip ?_
        refine at_seq ?_
        refine w_seq ?_
        refine w_block ?_
        refine wsr ?_
        refine wv (x_index Tryz.underlying129 Tryz.size9 rfl rfl (j := i) (by omega) (by omega)) ?_
        refine wv (x_load Tryz.plain9 rfl (hrow)) ?_
        refine was ?_
        refine wnr ?_
        refine wmv ?_
        refine wl_callp rfl rfl rfl Tryz.c134 (pParse_ok (hw.up hm02) (hE.up hm02) (hT.up hm02) (by omega)) ?_; rintro v3 m3 hm3 ⟨h4, _⟩
        rw [hpi] at h4
        obtain rfl := h4
        unfold rdO
        refine wmv ?_
        refine wex ?_
        refine wex ?_
        refine was ?_
        refine was ?_
        refine wns ?_
        refine w_seq ?_
        refine wsr ?_
        refine wmv ?_
        refine wv ((x_neq rfl rfl).as (bool_t (by decide))) ?_
        refine wns ?_
        refine w_true rfl ?_
        refine wsr ?_
        refine wmv ?_
        refine wv (x_nilCheck rfl) ?_
        refine wv (x_fieldAddr Tryz.underlying128 rfl Tryz.size4 rfl) ?_
        refine wl_store rfl Tryz.size4 rfl rfl rfl (by simp) ?_
        refine wnr ?_
        refine was ?_
        refine wns ?_
        refine w_ret ?_
        refine at_then_ret ?_
        refine at_block_ret ?_
        refine at_then_ret ?_
        refine at_then_ret ?_
        refine at_block_ret ?_
        refine at_then_ret ?_
        refine at_endx (x := (b, rdO (s'.1, false))) (by first | exact .head _ | exact .tail _ (.head _) | exact .tail _ (.tail _ (.head _)) | exact .tail _ (.tail _ (.tail _ (.head _))) | exact .tail _ (.tail _ (.tail _ (.tail _ (.head _))))) (res1 rfl rfl) ?_
        rw [show rdList s = ([], (s'.1, false)) by unfold rdList; rw [hr]; simp only [hpp, Option.map_none]]
        exact ⟨Sl.nil, rfl⟩
      · skip
        rw [hpi] at hpp
        simp only at hpp
        refine w_skip ?_
        refine at_seq ?_
        refine w_seq ?_
        refine w_block ?_
        refine wsr ?_
        refine wv (x_index Tryz.underlying129 Tryz.size9 rfl rfl (j := i) (by omega) (by omega)) ?_
        refine wv (x_load Tryz.plain9 rfl (hrow)) ?_
        refine was ?_
        refine wnr ?_
        refine wmv ?_
        refine wl_callp rfl rfl rfl Tryz.c134 (pParse_ok (hw.up hm02) (hE.up hm02) (hT.up hm02) (by omega)) ?_; rintro v3 m3 hm3 ⟨h4, _⟩
        rw [hpi] at h4
        obtain ⟨u, rfl, h5⟩ := h4
        obtain ⟨a5, l5, c5, rfl⟩ := h5.pv.slice
        refine wmv ?_
        refine wex ?_
        refine wex ?_
        refine was ?_
        refine was ?_
        refine wns ?_
        refine w_seq ?_
        refine wsr ?_
        refine wmv ?_
        refine wv ((x_neq rfl rfl).as (bool_f (by decide))) ?_
        refine wns ?_
        refine w_false rfl ?_
        refine w_skip ?_
        refine at_seq ?_
        refine w_region ?_
        refine wmv ?_
        refine wmv ?_
        refine wl_buildSlice rfl rfl Tryz.underlying25 Tryz.size28 Tryz.zero28 rfl rfl rfl rfl rfl ?_; intro b36
        refine wl_append (s := 1) (cells := vs) (news := [.slice a5 l5 c5]) rfl rfl rfl Tryz.underlying25 Tryz.underlying25 Tryz.size28 Tryz.bytes28 Tryz.zero28 rfl (by omega) rfl hown (show List.Perm ([_, _] ++ _) _ from List.perm_append_comm) rfl rfl (.inr ⟨_, 0, rfl, rowH0 (.head _)⟩) (by simp [Value.oneCell']) (by simp; omega) (by simp; omega) ?_; intro lv' Hs' hown'; obtain ⟨a', l', c', rfl⟩ := hown'.slice; obtain rfl : l' = ls.length + 1 := (by have := hown'.len; simp at this; omega); refine wl_perm List.perm_append_comm ?_; refine wl_drop1 ?_
        refine was ?_
        refine wl_nil ?_
        refine at_block_normal ?_
        refine at_seq ?_
        refine w_region ?_
        refine wv (x_add rfl rfl (wrap_i64 (by omega) (by omega))) ?_
        refine wmv ?_
        refine wl_nil ?_
        exact at_again (r - 1) [(0, .pointer (some ⟨b, 0, none⟩)), (4, .slice a' (ls.length + 1) c'), (18, .slice (some ⟨b2, o2, none⟩) ps.length cap2), (19, .int .i64 ps.length), (20, .int .i64 ((i + 1) : Nat))] (by omega) ⟨i + 1, a', c', vs ++ [.slice a5 l5 c5], ls ++ [t], ps.drop (i + 1), Hs', by omega, hm2.trans hm3, rfl, by simp [hll], by rw [hpp, Option.map_map]; congr 1; funext y; simp, All2.app (hvs.mono fun _ _ h => ⟨h.1, PV.up _ _ _ _ hm3 h.2⟩) ⟨⟨rfl, h5, _, (by omega), hpi⟩, trivial⟩, by rw [List.length_append]; exact hown', rfl, by rw [List.length_append]; rfl⟩ (by repeat' (first | exact trivial | exact rfl | exact lk_int rfl (by omega) | apply And.intro))
    · skip
      obtain rfl : i = ps.length := by omega
      rw [List.drop_length] at hrest
      subst hrest
      rw [rdPolys, Option.map_some, List.append_nil] at hpp
      have hN : rdList s = (ls, s') := by unfold rdList; rw [hr]; simp only [hpp]
      rcases own_cases hown with ⟨rfl, h6, rfl, rfl, rfl⟩ | ⟨b5, junk, rfl, hlc, hcl5, rfl⟩
      · skip
        refine w_exit ?_
        refine at_then_exit ?_
        refine at_then_exit ?_
        refine at_block_hit ?_
        refine at_seq ?_
        refine wsr ?_
        refine wmv ?_
        refine was ?_
        refine wns ?_
        refine w_ret ?_
        refine at_end (res1 rfl rfl) ?_
        rw [hN]
        exact ⟨Sl.of1 hvs rfl (by omega) (fun h => absurd h (by omega)), rfl⟩
      · skip
        refine w_exit ?_
        refine at_then_exit ?_
        refine at_then_exit ?_
        refine at_block_hit ?_
        refine at_seq ?_
        refine wsr ?_
        refine wmv ?_
        refine was ?_
        refine wns ?_
        refine w_ret ?_
        refine at_perm (.swap _ _ _) ?_
        refine at_freeze ?_; intro hfz
        refine at_end (res1 rfl rfl) ?_
        rw [hN]
        exact ⟨Sl.of1 (hvs.mono fun _ _ h => ⟨h.1, PV.up _ _ _ _ hfz h.2⟩) rfl hlc (fun h => ⟨b5, 0, rfl, rowM (Mem.add_at _ _ _) fun i hi => by rw [Nat.zero_add]; simp [List.getElem?_append_left hi]⟩), rfl⟩
end Go.Cy
