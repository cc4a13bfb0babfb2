/- checksign.parseFrac. -/
import Derived.Test.YtmamkgbldaehgaaGreatDoorCyCoord
namespace Go.Cy
open Go Go.Proofs
set_option maxRecDepth 20000

def pDen (n : Int) (d : Int) : Option (Int × Nat) := if d ≤ 0 then none else some (lowZ n d.toNat, lowD n d.toNat)
def pFrac (L : List UInt8) : Option (Int × Nat) := match cutB 47 L with
  | (a, none) => match pInt a with
    | some n => some (lowZ n 1, lowD n 1)
    | none => none
  | (a, some r) => match pInt a with
    | some n => match pInt r with
      | some d => pDen n d
      | none => none
    | none => none
def FracR (m : Mem) (r : Value) (o : Option (Int × Nat)) : Prop := match o with
  | some (z, d) => ∃ v, r = .tuple #[v, .bool true] ∧ Fc m v z d
  | none => r = .tuple #[.agg #[.bool false, .slice none 0 0, .slice none 0 0], .bool false]
theorem Fi.make {m : Mem} {n u : Bool} {s t : Value} {z : Int} {d : Nat} (h : Ic m (.agg #[.bool n, s]) z) (h2 : Ic m (.agg #[.bool u, t]) (d : Int)) : Fi m (.agg #[.bool n, s, t]) z d := by
  obtain ⟨n', s', a, e, h3, h4, _⟩ := h
  cases e
  exact ⟨_, _, a, _, rfl, h3.nt, h4, h2.nat.nt⟩
theorem FracR.of {m : Mem} {r : Value} {o o' : Option (Int × Nat)} (h : FracR m r o) (e : o' = o) : FracR m r o' := e ▸ h
theorem parseFrac_ok {m : Mem} {L : List UInt8} (hw : Wd m) (hl : L.length ≤ 1048576) : Pure Tryz.prog 222 #[.string (B L)] m fun r m' => FracR m' r (pFrac L) := by
  refine enterp Tryz.func222 rfl rfl ?_
  intro K hm0 hks
  rcases hc : cutB 47 L with ⟨a, _ | q⟩
  · skip
    obtain rfl := cutB_none hc
    rcases hpi : pInt a with _ | n
    · skip
      refine wsr ?_
      refine wl_alloc rfl rfl Tryz.zero53 ?_; intro b2
      refine was ?_
      refine wnr ?_
      refine wmv ?_
      refine wl_callp rfl rfl rfl Tryz.c136 (Cut_ok (c := 47) hw (by omega)) ?_; rintro v1 m1 hm1 h1
      rw [hc] at h1
      obtain rfl := h1
      refine wmv ?_
      refine wex ?_
      refine wex ?_
      refine wex ?_
      refine was ?_
      refine was ?_
      refine was ?_
      refine wnr ?_
      refine wmv ?_
      refine wl_callp rfl rfl rfl Tryz.c143 (DecParse_ok (L := a) (by omega)) ?_; rintro v2 m2 hm2 h2
      rw [hpi] at h2
      obtain rfl := h2
      refine wmv ?_
      refine wex ?_
      refine wex ?_
      refine wl_alloc rfl rfl Tryz.zero49 ?_; intro b7
      refine wl_storeAll rfl (by exact Tryz.size49) rfl rfl (by simp [Value.oneCell']) rfl ?_
      refine was ?_
      refine wns ?_
      refine w_seq ?_
      refine wsr ?_
      refine wmv ?_
      refine wv ((x_neq rfl rfl).as (bool_t (by decide))) ?_
      refine wns ?_
      refine w_true rfl ?_
      refine wsr ?_
      refine wv (x_build (cs := [_, _, _]) Tryz.underlying53 Tryz.places53 Tryz.zero53 rfl rfl) ?_
      refine wl_front1 ?_
      refine wl_storeAll rfl (by exact Tryz.size53) rfl rfl (by simp [Value.oneCell']) rfl ?_
      refine was ?_
      refine wns ?_
      refine w_ret ?_
      refine at_then_ret ?_
      refine at_endp (resAs (vs := [_, _]) rfl rfl ⟨⟨_, _, _, rfl, rowH0 (.head _), .inr ⟨Tryz.agg53, Tryz.size53, rfl⟩⟩, rfl, trivial⟩) ?_
      exact FracR.of (o := none) rfl (by unfold pFrac; rw [hc]; simp only [hpi])
    · skip
      have hdn := pInt_le hpi
      refine wsr ?_
      refine wl_alloc rfl rfl Tryz.zero53 ?_; intro b2
      refine was ?_
      refine wnr ?_
      refine wmv ?_
      refine wl_callp rfl rfl rfl Tryz.c136 (Cut_ok (c := 47) hw (by omega)) ?_; rintro v1 m1 hm1 h1
      rw [hc] at h1
      obtain rfl := h1
      refine wmv ?_
      refine wex ?_
      refine wex ?_
      refine wex ?_
      refine was ?_
      refine was ?_
      refine was ?_
      refine wnr ?_
      refine wmv ?_
      refine wl_callp rfl rfl rfl Tryz.c143 (DecParse_ok (L := a) (by omega)) ?_; rintro v2 m2 hm2 h2
      rw [hpi] at h2
      obtain ⟨u, rfl, h3⟩ := h2
      obtain ⟨n5, d5, l5, c5, rfl⟩ := h3.agg
      refine wmv ?_
      refine wex ?_
      refine wex ?_
      refine wl_alloc rfl rfl Tryz.zero49 ?_; intro b7
      refine wl_storeAll rfl (by exact Tryz.size49) rfl rfl (by simp [Value.oneCell']) rfl ?_
      refine was ?_
      refine wns ?_
      refine w_seq ?_
      refine wsr ?_
      refine wmv ?_
      refine wv ((x_neq rfl rfl).as (bool_f (by decide))) ?_
      refine wns ?_
      refine w_false rfl ?_
      refine w_skip ?_
      refine at_seq ?_
      refine wsr ?_
      refine wl_callp rfl rfl rfl Tryz.c25 (Of_ok' (n := 1) (by omega) (by omega)) ?_; rintro v6 m6 hm6 h6
      obtain ⟨n6, d6, l6, c6, rfl⟩ := h6.agg
      refine wl_alloc rfl rfl Tryz.zero49 ?_; intro b9
      refine wl_storeAll rfl (by exact Tryz.size49) rfl rfl (by simp [Value.oneCell']) rfl ?_
      refine wns ?_
      refine w_seq ?_
      refine wsr ?_
      refine wmv ?_
      refine wns ?_
      refine w_false rfl ?_
      refine w_skip ?_
      refine at_seq ?_
      refine wsr ?_
      refine wv (x_loads Tryz.agg49 (by exact Tryz.size49) rfl (rowH0 (.tail _ (.head _)))) ?_
      refine wv (x_fieldAddr Tryz.underlying49 rfl Tryz.size47 rfl) ?_
      refine wv (x_load Tryz.plain47 rfl (rowH1 (.head _) rfl)) ?_
      refine wv (x_build (cs := [_, _, _]) Tryz.underlying53 Tryz.places53 Tryz.zero53 rfl rfl) ?_
      refine wl_callp rfl rfl rfl Tryz.c83 (Lowest_ok (Fi.make (h3.up hm6) h6) ⟨by omega, by rw [dlen_one]; omega⟩) ?_; rintro v9 m9 hm9 h9
      obtain ⟨n9, a1, l1, c1, a2, l2, c2, rfl⟩ := h9.fi.agg
      refine wl_front2 ?_
      refine wl_storeAll rfl (by exact Tryz.size53) rfl rfl (by simp [Value.oneCell']) rfl ?_
      refine was ?_
      refine wns ?_
      refine w_ret ?_
      refine at_endp (resAs (vs := [_, _]) rfl rfl ⟨⟨_, _, _, rfl, rowH0 (.head _), .inr ⟨Tryz.agg53, Tryz.size53, rfl⟩⟩, rfl, trivial⟩) ?_
      exact FracR.of (o := some (_, _)) ⟨_, rfl, h9⟩ (by unfold pFrac; rw [hc]; simp only [hpi])
  · skip
    have hLe := cutB_some hc
    have hal : a.length ≤ 1048576 := by rw [hLe] at hl; simp at hl; omega
    have hqll : q.length ≤ 1048576 := by rw [hLe] at hl; simp at hl; omega
    rcases hpi : pInt a with _ | n
    · skip
      refine wsr ?_
      refine wl_alloc rfl rfl Tryz.zero53 ?_; intro b2
      refine was ?_
      refine wnr ?_
      refine wmv ?_
      refine wl_callp rfl rfl rfl Tryz.c136 (Cut_ok (c := 47) hw (by omega)) ?_; rintro v1 m1 hm1 h1
      rw [hc] at h1
      obtain rfl := h1
      refine wmv ?_
      refine wex ?_
      refine wex ?_
      refine wex ?_
      refine was ?_
      refine was ?_
      refine was ?_
      refine wnr ?_
      refine wmv ?_
      refine wl_callp rfl rfl rfl Tryz.c143 (DecParse_ok (L := a) (by omega)) ?_; rintro v2 m2 hm2 h2
      rw [hpi] at h2
      obtain rfl := h2
      refine wmv ?_
      refine wex ?_
      refine wex ?_
      refine wl_alloc rfl rfl Tryz.zero49 ?_; intro b7
      refine wl_storeAll rfl (by exact Tryz.size49) rfl rfl (by simp [Value.oneCell']) rfl ?_
      refine was ?_
      refine wns ?_
      refine w_seq ?_
      refine wsr ?_
      refine wmv ?_
      refine wv ((x_neq rfl rfl).as (bool_t (by decide))) ?_
      refine wns ?_
      refine w_true rfl ?_
      refine wsr ?_
      refine wv (x_build (cs := [_, _, _]) Tryz.underlying53 Tryz.places53 Tryz.zero53 rfl rfl) ?_
      refine wl_front1 ?_
      refine wl_storeAll rfl (by exact Tryz.size53) rfl rfl (by simp [Value.oneCell']) rfl ?_
      refine was ?_
      refine wns ?_
      refine w_ret ?_
      refine at_then_ret ?_
      refine at_endp (resAs (vs := [_, _]) rfl rfl ⟨⟨_, _, _, rfl, rowH0 (.head _), .inr ⟨Tryz.agg53, Tryz.size53, rfl⟩⟩, rfl, trivial⟩) ?_
      exact FracR.of (o := none) rfl (by unfold pFrac; rw [hc]; simp only [hpi])
    · skip
      have hdn := pInt_le hpi
      rcases hqi : pInt q with _ | d
      · skip
        refine wsr ?_
        refine wl_alloc rfl rfl Tryz.zero53 ?_; intro b2
        refine was ?_
        refine wnr ?_
        refine wmv ?_
        refine wl_callp rfl rfl rfl Tryz.c136 (Cut_ok (c := 47) hw (by omega)) ?_; rintro v1 m1 hm1 h1
        rw [hc] at h1
        obtain rfl := h1
        refine wmv ?_
        refine wex ?_
        refine wex ?_
        refine wex ?_
        refine was ?_
        refine was ?_
        refine was ?_
        refine wnr ?_
        refine wmv ?_
        refine wl_callp rfl rfl rfl Tryz.c143 (DecParse_ok (L := a) (by omega)) ?_; rintro v2 m2 hm2 h2
        rw [hpi] at h2
        obtain ⟨u, rfl, h3⟩ := h2
        obtain ⟨n5, d5, l5, c5, rfl⟩ := h3.agg
        refine wmv ?_
        refine wex ?_
        refine wex ?_
        refine wl_alloc rfl rfl Tryz.zero49 ?_; intro b7
        refine wl_storeAll rfl (by exact Tryz.size49) rfl rfl (by simp [Value.oneCell']) rfl ?_
        refine was ?_
        refine wns ?_
        refine w_seq ?_
        refine wsr ?_
        refine wmv ?_
        refine wv ((x_neq rfl rfl).as (bool_f (by decide))) ?_
        refine wns ?_
        refine w_false rfl ?_
        refine w_skip ?_
        refine at_seq ?_
        refine wsr ?_
        refine wl_callp rfl rfl rfl Tryz.c25 (Of_ok' (n := 1) (by omega) (by omega)) ?_; rintro v6 m6 hm6 h6
        obtain ⟨n6, d6, l6, c6, rfl⟩ := h6.agg
        refine wl_alloc rfl rfl Tryz.zero49 ?_; intro b9
        refine wl_storeAll rfl (by exact Tryz.size49) rfl rfl (by simp [Value.oneCell']) rfl ?_
        refine wns ?_
        refine w_seq ?_
        refine wsr ?_
        refine wmv ?_
        refine wns ?_
        refine w_true rfl ?_
        refine wsr ?_
        refine wmv ?_
        refine wl_callp rfl rfl rfl Tryz.c143 (DecParse_ok (L := q) (by omega)) ?_; rintro v7 m7 hm7 h7
        rw [hqi] at h7
        obtain rfl := h7
        refine wmv ?_
        refine wex ?_
        refine wex ?_
        refine wl_storeAll rfl (by exact Tryz.size49) rfl rfl (by simp [Value.oneCell']) rfl ?_
        refine was ?_
        refine wnr ?_
        refine wmv ?_
        refine wv ((x_neq rfl rfl).as (bool_t (by decide))) ?_
        refine wmv ?_
        refine wl_off rfl rfl rfl ?_
        refine wl_off rfl rfl rfl ?_
        refine wl_off rfl rfl rfl ?_
        refine wv (x_pick_t rfl rfl) ?_
        refine wns ?_
        refine w_true rfl ?_
        refine wsr ?_
        refine wv (x_build (cs := [_, _, _]) Tryz.underlying53 Tryz.places53 Tryz.zero53 rfl rfl) ?_
        refine wl_front2 ?_
        refine wl_storeAll rfl (by exact Tryz.size53) rfl rfl (by simp [Value.oneCell']) rfl ?_
        refine was ?_
        refine wns ?_
        refine w_ret ?_
        refine at_then_ret ?_
        refine at_endp (resAs (vs := [_, _]) rfl rfl ⟨⟨_, _, _, rfl, rowH0 (.head _), .inr ⟨Tryz.agg53, Tryz.size53, rfl⟩⟩, rfl, trivial⟩) ?_
        exact FracR.of (o := none) rfl (by unfold pFrac; rw [hc]; simp only [hpi, hqi])
      · skip
        have hdd := pInt_le hqi
        by_cases hd0 : d ≤ 0
        · skip
          refine wsr ?_
          refine wl_alloc rfl rfl Tryz.zero53 ?_; intro b2
          refine was ?_
          refine wnr ?_
          refine wmv ?_
          refine wl_callp rfl rfl rfl Tryz.c136 (Cut_ok (c := 47) hw (by omega)) ?_; rintro v1 m1 hm1 h1
          rw [hc] at h1
          obtain rfl := h1
          refine wmv ?_
          refine wex ?_
          refine wex ?_
          refine wex ?_
          refine was ?_
          refine was ?_
          refine was ?_
          refine wnr ?_
          refine wmv ?_
          refine wl_callp rfl rfl rfl Tryz.c143 (DecParse_ok (L := a) (by omega)) ?_; rintro v2 m2 hm2 h2
          rw [hpi] at h2
          obtain ⟨u, rfl, h3⟩ := h2
          obtain ⟨n5, d5, l5, c5, rfl⟩ := h3.agg
          refine wmv ?_
          refine wex ?_
          refine wex ?_
          refine wl_alloc rfl rfl Tryz.zero49 ?_; intro b7
          refine wl_storeAll rfl (by exact Tryz.size49) rfl rfl (by simp [Value.oneCell']) rfl ?_
          refine was ?_
          refine wns ?_
          refine w_seq ?_
          refine wsr ?_
          refine wmv ?_
          refine wv ((x_neq rfl rfl).as (bool_f (by decide))) ?_
          refine wns ?_
          refine w_false rfl ?_
          refine w_skip ?_
          refine at_seq ?_
          refine wsr ?_
          refine wl_callp rfl rfl rfl Tryz.c25 (Of_ok' (n := 1) (by omega) (by omega)) ?_; rintro v6 m6 hm6 h6
          obtain ⟨n6, d6, l6, c6, rfl⟩ := h6.agg
          refine wl_alloc rfl rfl Tryz.zero49 ?_; intro b9
          refine wl_storeAll rfl (by exact Tryz.size49) rfl rfl (by simp [Value.oneCell']) rfl ?_
          refine wns ?_
          refine w_seq ?_
          refine wsr ?_
          refine wmv ?_
          refine wns ?_
          refine w_true rfl ?_
          refine wsr ?_
          refine wmv ?_
          refine wl_callp rfl rfl rfl Tryz.c143 (DecParse_ok (L := q) (by omega)) ?_; rintro v7 m7 hm7 h7
          rw [hqi] at h7
          obtain ⟨u7, rfl, h8⟩ := h7
          obtain ⟨n7, d7, l7, c7, rfl⟩ := h8.agg
          refine wmv ?_
          refine wex ?_
          refine wex ?_
          refine wl_storeAll rfl (by exact Tryz.size49) rfl rfl (by simp [Value.oneCell']) rfl ?_
          refine was ?_
          refine wnr ?_
          refine wmv ?_
          refine wv ((x_neq rfl rfl).as (bool_f (by decide))) ?_
          refine wmv ?_
          refine wv (x_loads Tryz.agg49 (by exact Tryz.size49) rfl (rowH0 (.head _))) ?_
          refine wl_callp rfl rfl rfl Tryz.c40 (Sign_ok h8.in') ?_; rintro v8 m8 hm8 rfl
          refine wv ((x_leq rfl rfl).as (bool_t (by have := sign_cases d; omega))) ?_
          refine wv (x_pick_f rfl rfl) ?_
          refine wns ?_
          refine w_true rfl ?_
          refine wsr ?_
          refine wv (x_build (cs := [_, _, _]) Tryz.underlying53 Tryz.places53 Tryz.zero53 rfl rfl) ?_
          refine wl_front2 ?_
          refine wl_storeAll rfl (by exact Tryz.size53) rfl rfl (by simp [Value.oneCell']) rfl ?_
          refine was ?_
          refine wns ?_
          refine w_ret ?_
          refine at_then_ret ?_
          refine at_endp (resAs (vs := [_, _]) rfl rfl ⟨⟨_, _, _, rfl, rowH0 (.head _), .inr ⟨Tryz.agg53, Tryz.size53, rfl⟩⟩, rfl, trivial⟩) ?_
          exact FracR.of (o := none) rfl (by unfold pFrac; rw [hc]; simp only [hpi, hqi, pDen]; rw [if_pos hd0])
        · skip
          have hdt : ((d.toNat : Nat) : Int) = d := by omega
          have hdn2 : d.toNat = d.natAbs := by omega
          refine wsr ?_
          refine wl_alloc rfl rfl Tryz.zero53 ?_; intro b2
          refine was ?_
          refine wnr ?_
          refine wmv ?_
          refine wl_callp rfl rfl rfl Tryz.c136 (Cut_ok (c := 47) hw (by omega)) ?_; rintro v1 m1 hm1 h1
          rw [hc] at h1
          obtain rfl := h1
          refine wmv ?_
          refine wex ?_
          refine wex ?_
          refine wex ?_
          refine was ?_
          refine was ?_
          refine was ?_
          refine wnr ?_
          refine wmv ?_
          refine wl_callp rfl rfl rfl Tryz.c143 (DecParse_ok (L := a) (by omega)) ?_; rintro v2 m2 hm2 h2
          rw [hpi] at h2
          obtain ⟨u, rfl, h3⟩ := h2
          obtain ⟨n5, d5, l5, c5, rfl⟩ := h3.agg
          refine wmv ?_
          refine wex ?_
          refine wex ?_
          refine wl_alloc rfl rfl Tryz.zero49 ?_; intro b7
          refine wl_storeAll rfl (by exact Tryz.size49) rfl rfl (by simp [Value.oneCell']) rfl ?_
          refine was ?_
          refine wns ?_
          refine w_seq ?_
          refine wsr ?_
          refine wmv ?_
          refine wv ((x_neq rfl rfl).as (bool_f (by decide))) ?_
          refine wns ?_
          refine w_false rfl ?_
          refine w_skip ?_
          refine at_seq ?_
          refine wsr ?_
          refine wl_callp rfl rfl rfl Tryz.c25 (Of_ok' (n := 1) (by omega) (by omega)) ?_; rintro v6 m6 hm6 h6
          obtain ⟨n6, d6, l6, c6, rfl⟩ := h6.agg
          refine wl_alloc rfl rfl Tryz.zero49 ?_; intro b9
          refine wl_storeAll rfl (by exact Tryz.size49) rfl rfl (by simp [Value.oneCell']) rfl ?_
          refine wns ?_
          refine w_seq ?_
          refine wsr ?_
          refine wmv ?_
          refine wns ?_
          refine w_true rfl ?_
          refine wsr ?_
          refine wmv ?_
          refine wl_callp rfl rfl rfl Tryz.c143 (DecParse_ok (L := q) (by omega)) ?_; rintro v7 m7 hm7 h7
          rw [hqi] at h7
          obtain ⟨u7, rfl, h8⟩ := h7
          obtain ⟨n7, d7, l7, c7, rfl⟩ := h8.agg
          refine wmv ?_
          refine wex ?_
          refine wex ?_
          refine wl_storeAll rfl (by exact Tryz.size49) rfl rfl (by simp [Value.oneCell']) rfl ?_
          refine was ?_
          refine wnr ?_
          refine wmv ?_
          refine wv ((x_neq rfl rfl).as (bool_f (by decide))) ?_
          refine wmv ?_
          refine wv (x_loads Tryz.agg49 (by exact Tryz.size49) rfl (rowH0 (.head _))) ?_
          refine wl_callp rfl rfl rfl Tryz.c40 (Sign_ok h8.in') ?_; rintro v8 m8 hm8 rfl
          refine wv ((x_leq rfl rfl).as (bool_f (by have := sign_cases d; omega))) ?_
          refine wv (x_pick_f rfl rfl) ?_
          refine wns ?_
          refine w_false rfl ?_
          refine w_skip ?_
          refine at_seq ?_
          refine wsr ?_
          refine wv (x_loads Tryz.agg49 (by exact Tryz.size49) rfl (rowH0 (.tail _ (.head _)))) ?_
          refine wv (x_fieldAddr Tryz.underlying49 rfl Tryz.size47 rfl) ?_
          refine wv (x_load Tryz.plain47 rfl (rowH1 (.head _) rfl)) ?_
          refine wv (x_build (cs := [_, _, _]) Tryz.underlying53 Tryz.places53 Tryz.zero53 rfl rfl) ?_
          refine wl_callp rfl rfl rfl Tryz.c83 (Lowest_ok (Fi.make ((h3.up hm6).up (hm7.trans hm8)) (d := d.toNat) (by rw [hdt]; exact h8.up hm8)) ⟨by omega, by rw [hdn2]; omega⟩) ?_; rintro v9 m9 hm9 h9
          obtain ⟨n9, a1, l1, c1, a2, l2, c2, rfl⟩ := h9.fi.agg
          refine wl_front2 ?_
          refine wl_storeAll rfl (by exact Tryz.size53) rfl rfl (by simp [Value.oneCell']) rfl ?_
          refine was ?_
          refine wns ?_
          refine w_ret ?_
          refine at_endp (resAs (vs := [_, _]) rfl rfl ⟨⟨_, _, _, rfl, rowH0 (.head _), .inr ⟨Tryz.agg53, Tryz.size53, rfl⟩⟩, rfl, trivial⟩) ?_
          exact FracR.of (o := some (_, _)) ⟨_, rfl, h9⟩ (by unfold pFrac; rw [hc]; simp only [hpi, hqi, pDen]; rw [if_neg hd0])
end Go.Cy


/- checksign.parse. -/
namespace Go.Cy
open Go Go.Proofs
set_option maxRecDepth 20000

noncomputable def pCo (L : List UInt8) : Option Co :=
  if L.take 1 = [61] then (pFrac (L.drop 1)).map fun f => ⟨f.1, f.2, lowZ f.1 f.2, lowD f.1 f.2, []⟩
  else if L.take 1 = [40] then match cutB 41 (L.drop 1) with
    | (a, some q) => match cutB 44 a with
      | (x, some y) => match pFrac x, pFrac y, pPoly q with
        | some f, some g, some ts => some ⟨f.1, f.2, g.1, g.2, ts⟩
        | _, _, _ => none
      | (_, none) => none
    | (_, none) => none
  else none
def CoR (m : Mem) (r : Value) (o : Option Co) : Prop := match o with
  | some c => ∃ p f1 f2 f3 g1 g2 g3, r = .tuple #[.agg #[p, f1, f2, f3, g1, g2, g3], .bool true] ∧ Fc m (.agg #[f1, f2, f3]) c.z1 c.d1 ∧ Fc m (.agg #[g1, g2, g3]) c.z2 c.d2 ∧ Cv m p c.ts
  | none => r = .tuple #[.agg #[.slice none 0 0, .bool false, .slice none 0 0, .slice none 0 0, .bool false, .slice none 0 0, .slice none 0 0], .bool false]
theorem CoR.of {m : Mem} {r : Value} {o o' : Option Co} (h : CoR m r o) (e : o' = o) : CoR m r o' := e ▸ h
theorem cut_form {c : UInt8} {L : List UInt8} {v : Value} (h : v = match cutB c L with | (a, some t) => .tuple #[.string (B a), .string (B t), .bool true] | (_, none) => .tuple #[.string (B L), .string (B []), .bool false]) : ∃ s u f, v = .tuple #[.string (B s), .string (B u), .bool f] := by
  rcases hc : cutB c L with ⟨a, _ | t⟩ <;> rw [hc] at h <;> exact ⟨_, _, _, h⟩
theorem Cv.nil {m : Mem} : Cv m (.slice none 0 0) [] := ⟨none, 0, [], rfl, fun h => absurd h (Nat.lt_irrefl _), trivial, Nat.le_refl _⟩
theorem pFrac_le {L : List UInt8} {z : Int} {d : Nat} (h : pFrac L = some (z, d)) : dlen z.natAbs ≤ L.length ∧ dlen d ≤ L.length + 1 := by
  unfold pFrac at h
  rcases hc : cutB 47 L with ⟨a, _ | q⟩
  · obtain rfl := cutB_none hc
    rw [hc] at h
    simp only at h
    rcases hp : pInt a with _ | n
    · rw [hp] at h; cases h
    · rw [hp] at h
      simp only [Option.some.injEq, Prod.mk.injEq] at h
      obtain ⟨rfl, rfl⟩ := h
      have h1 := dlen_lowD n 1
      have h2 : lowD n 1 ≤ 1 := by have := lowD_le1 n 1; omega
      exact ⟨Nat.le_trans (dlen_mono (lowZ_le _ _)) (pInt_le hp), Nat.le_trans (dlen_small (by omega)) (by omega)⟩
  · have hl := cutB_some hc
    have hll : L.length = a.length + (q.length + 1) := by rw [hl]; simp
    rw [hc] at h
    simp only at h
    rcases hp : pInt a with _ | n
    · rw [hp] at h; cases h
    · rw [hp] at h
      simp only at h
      rcases hq : pInt q with _ | d'
      · rw [hq] at h; cases h
      · rw [hq] at h
        simp only [pDen] at h
        split at h
        · cases h
        · simp only [Option.some.injEq, Prod.mk.injEq] at h
          obtain ⟨rfl, rfl⟩ := h
          have h1 := dlen_lowD n d'.toNat
          have h2 := pInt_le hq
          rw [show d'.natAbs = d'.toNat by omega] at h2
          have h3 := pInt_le hp
          exact ⟨Nat.le_trans (dlen_mono (lowZ_le _ _)) (by omega), by omega⟩

theorem cparse_ok {m : Mem} {L : List UInt8} (hw : Wd m) (hE : Er m) (hT : Tab Tryz.prog m) (hl : L.length ≤ 1048576) : Pure Tryz.prog 188 #[.string (B L)] m fun r m' => CoR m' r (pCo L) := by
  have hdl : (L.drop 1).length ≤ 1048576 := by rw [List.length_drop]; omega
  refine enterp Tryz.func188 rfl rfl ?_
  intro K hm0 hks
  by_cases hA : L.take [(61 : UInt8)].length = [61]
  · skip
    have hA1 : L.take 1 = [61] := hA
    rcases hf : pFrac (L.drop 1) with _ | ⟨z, d⟩
    · skip
      refine wsr ?_
      refine wl_alloc rfl rfl Tryz.zero55 ?_; intro b2
      refine was ?_
      refine wns ?_
      refine w_seq ?_
      refine wsr ?_
      refine wmv ?_
      refine wl_callp rfl rfl rfl Tryz.c221 (CutPrefix_ok (X := [61]) (by omega) (by simp)) ?_; rintro v1 m1 hm1 h1
      rw [if_pos hA] at h1
      obtain rfl := h1
      refine wmv ?_
      refine wex ?_
      refine wex ?_
      refine was ?_
      refine was ?_
      refine wnr ?_
      refine wmv ?_
      refine wns ?_
      refine w_true rfl ?_
      refine wsr ?_
      refine wmv ?_
      refine wl_callp rfl rfl rfl Tryz.c222 (parseFrac_ok (L := L.drop 1) (hw.up hm1) (by omega)) ?_; rintro v2 m2 hm2 h2
      rw [hf] at h2
      obtain rfl := h2
      refine wmv ?_
      refine wex ?_
      refine wex ?_
      refine wl_alloc rfl rfl Tryz.zero53 ?_; intro b6
      refine wl_storeAll rfl (by exact Tryz.size53) rfl rfl (by simp [Value.oneCell']) rfl ?_
      refine was ?_
      refine wns ?_
      refine w_seq ?_
      refine wsr ?_
      refine wmv ?_
      refine wv (x_not rfl rfl) ?_
      refine wns ?_
      refine w_true rfl ?_
      refine wsr ?_
      refine wv (x_build (cs := [_, _, _, _, _, _, _]) Tryz.underlying55 Tryz.places55 Tryz.zero55 rfl rfl) ?_
      refine wl_front1 ?_
      refine wl_storeAll rfl (by exact Tryz.size55) rfl rfl (by simp [Value.oneCell']) rfl ?_
      refine was ?_
      refine wns ?_
      refine w_ret ?_
      refine at_then_ret ?_
      refine at_then_ret ?_
      refine at_endp (resAs (vs := [_, _]) rfl rfl ⟨⟨_, _, _, rfl, rowH0 (.head _), .inr ⟨Tryz.agg55, Tryz.size55, rfl⟩⟩, rfl, trivial⟩) ?_
      exact CoR.of (o := none) rfl (by unfold pCo; rw [if_pos hA1, hf]; rfl)
    · skip
      have hfl := pFrac_le hf
      refine wsr ?_
      refine wl_alloc rfl rfl Tryz.zero55 ?_; intro b2
      refine was ?_
      refine wns ?_
      refine w_seq ?_
      refine wsr ?_
      refine wmv ?_
      refine wl_callp rfl rfl rfl Tryz.c221 (CutPrefix_ok (X := [61]) (by omega) (by simp)) ?_; rintro v1 m1 hm1 h1
      rw [if_pos hA] at h1
      obtain rfl := h1
      refine wmv ?_
      refine wex ?_
      refine wex ?_
      refine was ?_
      refine was ?_
      refine wnr ?_
      refine wmv ?_
      refine wns ?_
      refine w_true rfl ?_
      refine wsr ?_
      refine wmv ?_
      refine wl_callp rfl rfl rfl Tryz.c222 (parseFrac_ok (L := L.drop 1) (hw.up hm1) (by omega)) ?_; rintro v2 m2 hm2 h2
      rw [hf] at h2
      obtain ⟨u2, rfl, h3⟩ := h2
      obtain ⟨n5, a5, l5, c5, a6, l6, c6, rfl⟩ := h3.fi.agg
      refine wmv ?_
      refine wex ?_
      refine wex ?_
      refine wl_alloc rfl rfl Tryz.zero53 ?_; intro b6
      refine wl_storeAll rfl (by exact Tryz.size53) rfl rfl (by simp [Value.oneCell']) rfl ?_
      refine was ?_
      refine wns ?_
      refine w_seq ?_
      refine wsr ?_
      refine wmv ?_
      refine wv (x_not rfl rfl) ?_
      refine wns ?_
      refine w_false rfl ?_
      refine w_skip ?_
      refine at_seq ?_
      refine w_seq ?_
      refine dr_start [] [[], [], [1]] ?_
      refine dr_val rfl rfl (fun m' hm' => ds_val rfl (x_loads Tryz.agg53 (by exact Tryz.size53) rfl (rowH0 (.head _)))) ?_
      refine dr_val rfl rfl (fun m' hm' => ds_val rfl (x_loads Tryz.agg53 (by exact Tryz.size53) rfl (rowH0 (.head _)))) ?_
      refine dr_op (.ret (fun r m' => Fc m' r (lowZ z d) (lowD z d)) (fun _ _ _ hm h => h.up hm)) rfl rfl (fun m' hm' => ds_call rfl rfl Tryz.c83 (Lowest_ok (h3.fi.up hm') ⟨by omega, by omega⟩)) ?_
      refine dr_done (k := 3) Tryz.mixed rfl rfl rfl fun m3 hm_m3 v2 h2 => ?_
      show WL _ _ _ _ _ _ _ _ _
      obtain ⟨n7, a7, l7, c7, a8, l8, c8, rfl⟩ := h2.fi.agg
      refine wv (x_build (cs := [_, _, _, _, _, _, _]) Tryz.underlying55 Tryz.places55 Tryz.zero55 rfl rfl) ?_
      refine wl_front1 ?_
      refine wl_storeAll rfl (by exact Tryz.size55) rfl rfl (by simp [Value.oneCell']) rfl ?_
      refine was ?_
      refine wns ?_
      refine w_ret ?_
      refine at_then_ret ?_
      refine at_endp (resAs (vs := [_, _]) rfl rfl ⟨⟨_, _, _, rfl, rowH0 (.head _), .inr ⟨Tryz.agg55, Tryz.size55, rfl⟩⟩, rfl, trivial⟩) ?_
      exact CoR.of (o := some _) ⟨_, _, _, _, _, _, _, rfl, h3.up hm_m3, h2, Cv.nil⟩ (by unfold pCo; rw [if_pos hA1, hf]; rfl)
  · skip
    have hA1 : ¬ L.take 1 = [61] := hA
    by_cases hB : L.take [(40 : UInt8)].length = [40]
    · skip
      have hB1 : L.take 1 = [40] := hB
      rcases hc : cutB 41 (L.drop 1) with ⟨a, _ | q⟩
      · skip
        refine wsr ?_
        refine wl_alloc rfl rfl Tryz.zero55 ?_; intro b2
        refine was ?_
        refine wns ?_
        refine w_seq ?_
        refine wsr ?_
        refine wmv ?_
        refine wl_callp rfl rfl rfl Tryz.c221 (CutPrefix_ok (X := [61]) (by omega) (by simp)) ?_; rintro v1 m1 hm1 h1
        rw [if_neg hA] at h1
        obtain rfl := h1
        refine wmv ?_
        refine wex ?_
        refine wex ?_
        refine was ?_
        refine was ?_
        refine wnr ?_
        refine wmv ?_
        refine wns ?_
        refine w_false rfl ?_
        refine w_skip ?_
        refine at_seq ?_
        refine wsr ?_
        refine wmv ?_
        refine wl_callp rfl rfl rfl Tryz.c221 (CutPrefix_ok (X := [40]) (by omega) (by simp)) ?_; rintro v2 m2 hm2 h2
        rw [if_pos hB] at h2
        obtain rfl := h2
        refine wmv ?_
        refine wex ?_
        refine wex ?_
        refine was ?_
        refine was ?_
        refine wns ?_
        refine w_seq ?_
        refine wsr ?_
        refine wmv ?_
        refine wv (x_not rfl rfl) ?_
        refine wns ?_
        refine w_false rfl ?_
        refine w_skip ?_
        refine at_seq ?_
        refine wsr ?_
        refine wmv ?_
        refine wl_callp rfl rfl rfl Tryz.c136 (Cut_ok (c := 41) (L := L.drop 1) (hw.up (hm1.trans hm2)) (by omega)) ?_; rintro v3 m3 hm3 h3
        rw [hc] at h3
        obtain rfl := h3
        refine wmv ?_
        refine wex ?_
        refine wex ?_
        refine wex ?_
        refine was ?_
        refine was ?_
        refine was ?_
        refine wnr ?_
        refine wmv ?_
        refine wl_callp rfl rfl rfl Tryz.c136 (Cut_ok (c := 44) (L := L.drop 1) (hw.up (hm1.trans (hm2.trans hm3))) (by omega)) ?_; rintro v4 m4 hm4 h4
        obtain ⟨s4, u4, f4, rfl⟩ := cut_form h4
        refine wmv ?_
        refine wex ?_
        refine wex ?_
        refine wex ?_
        refine was ?_
        refine was ?_
        refine was ?_
        refine wns ?_
        refine w_seq ?_
        refine wsr ?_
        refine wmv ?_
        refine wv (x_not rfl rfl) ?_
        refine wmv ?_
        refine wl_off rfl rfl rfl ?_
        refine wl_off rfl rfl rfl ?_
        refine wv (x_pick_t rfl rfl) ?_
        refine wns ?_
        refine w_true rfl ?_
        refine wsr ?_
        refine wv (x_build (cs := [_, _, _, _, _, _, _]) Tryz.underlying55 Tryz.places55 Tryz.zero55 rfl rfl) ?_
        refine wl_storeAll rfl (by exact Tryz.size55) rfl rfl (by simp [Value.oneCell']) rfl ?_
        refine was ?_
        refine wns ?_
        refine w_ret ?_
        refine at_then_ret ?_
        refine at_endp (resAs (vs := [_, _]) rfl rfl ⟨⟨_, _, _, rfl, rowH0 (.head _), .inr ⟨Tryz.agg55, Tryz.size55, rfl⟩⟩, rfl, trivial⟩) ?_
        exact CoR.of (o := none) rfl (by unfold pCo; rw [if_neg hA1, if_pos hB1, hc])
      · skip
        have hLe := cutB_some hc
        have hal : a.length ≤ 1048576 := by rw [hLe] at hdl; simp at hdl; omega
        have hqll : q.length ≤ 1048576 := by rw [hLe] at hdl; simp at hdl; omega
        rcases hd : cutB 44 a with ⟨x, _ | y⟩
        · skip
          refine wsr ?_
          refine wl_alloc rfl rfl Tryz.zero55 ?_; intro b2
          refine was ?_
          refine wns ?_
          refine w_seq ?_
          refine wsr ?_
          refine wmv ?_
          refine wl_callp rfl rfl rfl Tryz.c221 (CutPrefix_ok (X := [61]) (by omega) (by simp)) ?_; rintro v1 m1 hm1 h1
          rw [if_neg hA] at h1
          obtain rfl := h1
          refine wmv ?_
          refine wex ?_
          refine wex ?_
          refine was ?_
          refine was ?_
          refine wnr ?_
          refine wmv ?_
          refine wns ?_
          refine w_false rfl ?_
          refine w_skip ?_
          refine at_seq ?_
          refine wsr ?_
          refine wmv ?_
          refine wl_callp rfl rfl rfl Tryz.c221 (CutPrefix_ok (X := [40]) (by omega) (by simp)) ?_; rintro v2 m2 hm2 h2
          rw [if_pos hB] at h2
          obtain rfl := h2
          refine wmv ?_
          refine wex ?_
          refine wex ?_
          refine was ?_
          refine was ?_
          refine wns ?_
          refine w_seq ?_
          refine wsr ?_
          refine wmv ?_
          refine wv (x_not rfl rfl) ?_
          refine wns ?_
          refine w_false rfl ?_
          refine w_skip ?_
          refine at_seq ?_
          refine wsr ?_
          refine wmv ?_
          refine wl_callp rfl rfl rfl Tryz.c136 (Cut_ok (c := 41) (L := L.drop 1) (hw.up (hm1.trans hm2)) (by omega)) ?_; rintro v3 m3 hm3 h3
          rw [hc] at h3
          obtain rfl := h3
          refine wmv ?_
          refine wex ?_
          refine wex ?_
          refine wex ?_
          refine was ?_
          refine was ?_
          refine was ?_
          refine wnr ?_
          refine wmv ?_
          refine wl_callp rfl rfl rfl Tryz.c136 (Cut_ok (c := 44) (L := a) (hw.up (hm1.trans (hm2.trans hm3))) (by omega)) ?_; rintro v4 m4 hm4 h4
          rw [hd] at h4
          obtain rfl := h4
          refine wmv ?_
          refine wex ?_
          refine wex ?_
          refine wex ?_
          refine was ?_
          refine was ?_
          refine was ?_
          refine wns ?_
          refine w_seq ?_
          refine wsr ?_
          refine wmv ?_
          refine wv (x_not rfl rfl) ?_
          refine wmv ?_
          refine wmv ?_
          refine wv (x_not rfl rfl) ?_
          refine wv (x_pick_f rfl rfl) ?_
          refine wns ?_
          refine w_true rfl ?_
          refine wsr ?_
          refine wv (x_build (cs := [_, _, _, _, _, _, _]) Tryz.underlying55 Tryz.places55 Tryz.zero55 rfl rfl) ?_
          refine wl_storeAll rfl (by exact Tryz.size55) rfl rfl (by simp [Value.oneCell']) rfl ?_
          refine was ?_
          refine wns ?_
          refine w_ret ?_
          refine at_then_ret ?_
          refine at_endp (resAs (vs := [_, _]) rfl rfl ⟨⟨_, _, _, rfl, rowH0 (.head _), .inr ⟨Tryz.agg55, Tryz.size55, rfl⟩⟩, rfl, trivial⟩) ?_
          exact CoR.of (o := none) rfl (by unfold pCo; rw [if_neg hA1, if_pos hB1, hc]; simp only [hd])
        · skip
          have hLf := cutB_some hd
          have hxl : x.length ≤ 1048576 := by rw [hLf] at hal; simp at hal; omega
          have hyl : y.length ≤ 1048576 := by rw [hLf] at hal; simp at hal; omega
          have hP : pCo L = match pFrac x, pFrac y, pPoly q with
            | some f, some g, some ts => some ⟨f.1, f.2, g.1, g.2, ts⟩
            | _, _, _ => none := by unfold pCo; rw [if_neg hA1, if_pos hB1, hc]; simp only [hd]
          rcases hx : pFrac x with _ | ⟨z1, d1⟩
          · skip
            rcases hy : pFrac y with _ | ⟨z2, d2⟩
            · skip
              rcases hq : pPoly q with _ | ts
              · skip
                refine wsr ?_
                refine wl_alloc rfl rfl Tryz.zero55 ?_; intro b2
                refine was ?_
                refine wns ?_
                refine w_seq ?_
                refine wsr ?_
                refine wmv ?_
                refine wl_callp rfl rfl rfl Tryz.c221 (CutPrefix_ok (X := [61]) (by omega) (by simp)) ?_; rintro v1 m1 hm1 h1
                rw [if_neg hA] at h1
                obtain rfl := h1
                refine wmv ?_
                refine wex ?_
                refine wex ?_
                refine was ?_
                refine was ?_
                refine wnr ?_
                refine wmv ?_
                refine wns ?_
                refine w_false rfl ?_
                refine w_skip ?_
                refine at_seq ?_
                refine wsr ?_
                refine wmv ?_
                refine wl_callp rfl rfl rfl Tryz.c221 (CutPrefix_ok (X := [40]) (by omega) (by simp)) ?_; rintro v2 m2 hm2 h2
                rw [if_pos hB] at h2
                obtain rfl := h2
                refine wmv ?_
                refine wex ?_
                refine wex ?_
                refine was ?_
                refine was ?_
                refine wns ?_
                refine w_seq ?_
                refine wsr ?_
                refine wmv ?_
                refine wv (x_not rfl rfl) ?_
                refine wns ?_
                refine w_false rfl ?_
                refine w_skip ?_
                refine at_seq ?_
                refine wsr ?_
                refine wmv ?_
                refine wl_callp rfl rfl rfl Tryz.c136 (Cut_ok (c := 41) (L := L.drop 1) (hw.up (hm1.trans hm2)) (by omega)) ?_; rintro v3 m3 hm3 h3
                rw [hc] at h3
                obtain rfl := h3
                refine wmv ?_
                refine wex ?_
                refine wex ?_
                refine wex ?_
                refine was ?_
                refine was ?_
                refine was ?_
                refine wnr ?_
                refine wmv ?_
                refine wl_callp rfl rfl rfl Tryz.c136 (Cut_ok (c := 44) (L := a) (hw.up (hm1.trans (hm2.trans hm3))) (by omega)) ?_; rintro v4 m4 hm4 h4
                rw [hd] at h4
                obtain rfl := h4
                refine wmv ?_
                refine wex ?_
                refine wex ?_
                refine wex ?_
                refine was ?_
                refine was ?_
                refine was ?_
                refine wns ?_
                refine w_seq ?_
                refine wsr ?_
                refine wmv ?_
                refine wv (x_not rfl rfl) ?_
                refine wmv ?_
                refine wmv ?_
                refine wv (x_not rfl rfl) ?_
                refine wv (x_pick_f rfl rfl) ?_
                refine wns ?_
                refine w_false rfl ?_
                refine w_skip ?_
                refine at_seq ?_
                refine wsr ?_
                refine wmv ?_
                refine wl_callp rfl rfl rfl Tryz.c222 (parseFrac_ok (L := x) (hw.up (hm1.trans (hm2.trans (hm3.trans hm4)))) (by omega)) ?_; rintro v5 m5 hm5 h5
                rw [hx] at h5
                obtain rfl := h5
                refine wmv ?_
                refine wex ?_
                refine wex ?_
                refine wl_alloc rfl rfl Tryz.zero53 ?_; intro b15
                refine wl_storeAll rfl (by exact Tryz.size53) rfl rfl (by simp [Value.oneCell']) rfl ?_
                refine was ?_
                refine wnr ?_
                refine wmv ?_
                refine wl_callp rfl rfl rfl Tryz.c222 (parseFrac_ok (L := y) (hw.up (hm1.trans (hm2.trans (hm3.trans (hm4.trans hm5))))) (by omega)) ?_; rintro v6 m6 hm6 h6
                rw [hy] at h6
                obtain rfl := h6
                refine wmv ?_
                refine wex ?_
                refine wex ?_
                refine wl_alloc rfl rfl Tryz.zero53 ?_; intro b17
                refine wl_storeAll rfl (by exact Tryz.size53) rfl rfl (by simp [Value.oneCell']) rfl ?_
                refine was ?_
                refine wnr ?_
                refine wmv ?_
                refine wl_callp rfl rfl rfl Tryz.c134 (pParse_ok (L := q) (hw.up (hm1.trans (hm2.trans (hm3.trans (hm4.trans (hm5.trans hm6)))))) (hE.up (hm1.trans (hm2.trans (hm3.trans (hm4.trans (hm5.trans hm6)))))) (hT.up (hm1.trans (hm2.trans (hm3.trans (hm4.trans (hm5.trans hm6)))))) (by omega)) ?_; rintro v7 m7 hm7 ⟨h7, _⟩
                rw [hq] at h7
                obtain rfl := h7
                refine wmv ?_
                refine wex ?_
                refine wex ?_
                refine was ?_
                refine was ?_
                refine wns ?_
                refine w_seq ?_
                refine wsr ?_
                refine wmv ?_
                refine wv (x_not rfl rfl) ?_
                refine wmv ?_
                refine wl_off rfl rfl rfl ?_
                refine wl_off rfl rfl rfl ?_
                refine wv (x_pick_t rfl rfl) ?_
                refine wmv ?_
                refine wl_off rfl rfl rfl ?_
                refine wl_off rfl rfl rfl ?_
                refine wv (x_pick_t rfl rfl) ?_
                refine wns ?_
                refine w_true rfl ?_
                refine wsr ?_
                refine wv (x_build (cs := [_, _, _, _, _, _, _]) Tryz.underlying55 Tryz.places55 Tryz.zero55 rfl rfl) ?_
                refine wl_front2 ?_
                refine wl_storeAll rfl (by exact Tryz.size55) rfl rfl (by simp [Value.oneCell']) rfl ?_
                refine was ?_
                refine wns ?_
                refine w_ret ?_
                refine at_then_ret ?_
                refine at_endp (resAs (vs := [_, _]) rfl rfl ⟨⟨_, _, _, rfl, rowH0 (.head _), .inr ⟨Tryz.agg55, Tryz.size55, rfl⟩⟩, rfl, trivial⟩) ?_
                exact CoR.of (o := none) rfl (by rw [hP, hx, hy, hq])
              · skip
                refine wsr ?_
                refine wl_alloc rfl rfl Tryz.zero55 ?_; intro b2
                refine was ?_
                refine wns ?_
                refine w_seq ?_
                refine wsr ?_
                refine wmv ?_
                refine wl_callp rfl rfl rfl Tryz.c221 (CutPrefix_ok (X := [61]) (by omega) (by simp)) ?_; rintro v1 m1 hm1 h1
                rw [if_neg hA] at h1
                obtain rfl := h1
                refine wmv ?_
                refine wex ?_
                refine wex ?_
                refine was ?_
                refine was ?_
                refine wnr ?_
                refine wmv ?_
                refine wns ?_
                refine w_false rfl ?_
                refine w_skip ?_
                refine at_seq ?_
                refine wsr ?_
                refine wmv ?_
                refine wl_callp rfl rfl rfl Tryz.c221 (CutPrefix_ok (X := [40]) (by omega) (by simp)) ?_; rintro v2 m2 hm2 h2
                rw [if_pos hB] at h2
                obtain rfl := h2
                refine wmv ?_
                refine wex ?_
                refine wex ?_
                refine was ?_
                refine was ?_
                refine wns ?_
                refine w_seq ?_
                refine wsr ?_
                refine wmv ?_
                refine wv (x_not rfl rfl) ?_
                refine wns ?_
                refine w_false rfl ?_
                refine w_skip ?_
                refine at_seq ?_
                refine wsr ?_
                refine wmv ?_
                refine wl_callp rfl rfl rfl Tryz.c136 (Cut_ok (c := 41) (L := L.drop 1) (hw.up (hm1.trans hm2)) (by omega)) ?_; rintro v3 m3 hm3 h3
                rw [hc] at h3
                obtain rfl := h3
                refine wmv ?_
                refine wex ?_
                refine wex ?_
                refine wex ?_
                refine was ?_
                refine was ?_
                refine was ?_
                refine wnr ?_
                refine wmv ?_
                refine wl_callp rfl rfl rfl Tryz.c136 (Cut_ok (c := 44) (L := a) (hw.up (hm1.trans (hm2.trans hm3))) (by omega)) ?_; rintro v4 m4 hm4 h4
                rw [hd] at h4
                obtain rfl := h4
                refine wmv ?_
                refine wex ?_
                refine wex ?_
                refine wex ?_
                refine was ?_
                refine was ?_
                refine was ?_
                refine wns ?_
                refine w_seq ?_
                refine wsr ?_
                refine wmv ?_
                refine wv (x_not rfl rfl) ?_
                refine wmv ?_
                refine wmv ?_
                refine wv (x_not rfl rfl) ?_
                refine wv (x_pick_f rfl rfl) ?_
                refine wns ?_
                refine w_false rfl ?_
                refine w_skip ?_
                refine at_seq ?_
                refine wsr ?_
                refine wmv ?_
                refine wl_callp rfl rfl rfl Tryz.c222 (parseFrac_ok (L := x) (hw.up (hm1.trans (hm2.trans (hm3.trans hm4)))) (by omega)) ?_; rintro v5 m5 hm5 h5
                rw [hx] at h5
                obtain rfl := h5
                refine wmv ?_
                refine wex ?_
                refine wex ?_
                refine wl_alloc rfl rfl Tryz.zero53 ?_; intro b15
                refine wl_storeAll rfl (by exact Tryz.size53) rfl rfl (by simp [Value.oneCell']) rfl ?_
                refine was ?_
                refine wnr ?_
                refine wmv ?_
                refine wl_callp rfl rfl rfl Tryz.c222 (parseFrac_ok (L := y) (hw.up (hm1.trans (hm2.trans (hm3.trans (hm4.trans hm5))))) (by omega)) ?_; rintro v6 m6 hm6 h6
                rw [hy] at h6
                obtain rfl := h6
                refine wmv ?_
                refine wex ?_
                refine wex ?_
                refine wl_alloc rfl rfl Tryz.zero53 ?_; intro b17
                refine wl_storeAll rfl (by exact Tryz.size53) rfl rfl (by simp [Value.oneCell']) rfl ?_
                refine was ?_
                refine wnr ?_
                refine wmv ?_
                refine wl_callp rfl rfl rfl Tryz.c134 (pParse_ok (L := q) (hw.up (hm1.trans (hm2.trans (hm3.trans (hm4.trans (hm5.trans hm6)))))) (hE.up (hm1.trans (hm2.trans (hm3.trans (hm4.trans (hm5.trans hm6)))))) (hT.up (hm1.trans (hm2.trans (hm3.trans (hm4.trans (hm5.trans hm6)))))) (by omega)) ?_; rintro v7 m7 hm7 ⟨h7, _⟩
                rw [hq] at h7
                obtain ⟨u7, rfl, h7⟩ := h7
                obtain ⟨a9, l9, c9, rfl⟩ := h7.pv.slice
                refine wmv ?_
                refine wex ?_
                refine wex ?_
                refine was ?_
                refine was ?_
                refine wns ?_
                refine w_seq ?_
                refine wsr ?_
                refine wmv ?_
                refine wv (x_not rfl rfl) ?_
                refine wmv ?_
                refine wl_off rfl rfl rfl ?_
                refine wl_off rfl rfl rfl ?_
                refine wv (x_pick_t rfl rfl) ?_
                refine wmv ?_
                refine wl_off rfl rfl rfl ?_
                refine wl_off rfl rfl rfl ?_
                refine wv (x_pick_t rfl rfl) ?_
                refine wns ?_
                refine w_true rfl ?_
                refine wsr ?_
                refine wv (x_build (cs := [_, _, _, _, _, _, _]) Tryz.underlying55 Tryz.places55 Tryz.zero55 rfl rfl) ?_
                refine wl_front2 ?_
                refine wl_storeAll rfl (by exact Tryz.size55) rfl rfl (by simp [Value.oneCell']) rfl ?_
                refine was ?_
                refine wns ?_
                refine w_ret ?_
                refine at_then_ret ?_
                refine at_endp (resAs (vs := [_, _]) rfl rfl ⟨⟨_, _, _, rfl, rowH0 (.head _), .inr ⟨Tryz.agg55, Tryz.size55, rfl⟩⟩, rfl, trivial⟩) ?_
                exact CoR.of (o := none) rfl (by rw [hP, hx, hy, hq])
            · skip
              rcases hq : pPoly q with _ | ts
              · skip
                refine wsr ?_
                refine wl_alloc rfl rfl Tryz.zero55 ?_; intro b2
                refine was ?_
                refine wns ?_
                refine w_seq ?_
                refine wsr ?_
                refine wmv ?_
                refine wl_callp rfl rfl rfl Tryz.c221 (CutPrefix_ok (X := [61]) (by omega) (by simp)) ?_; rintro v1 m1 hm1 h1
                rw [if_neg hA] at h1
                obtain rfl := h1
                refine wmv ?_
                refine wex ?_
                refine wex ?_
                refine was ?_
                refine was ?_
                refine wnr ?_
                refine wmv ?_
                refine wns ?_
                refine w_false rfl ?_
                refine w_skip ?_
                refine at_seq ?_
                refine wsr ?_
                refine wmv ?_
                refine wl_callp rfl rfl rfl Tryz.c221 (CutPrefix_ok (X := [40]) (by omega) (by simp)) ?_; rintro v2 m2 hm2 h2
                rw [if_pos hB] at h2
                obtain rfl := h2
                refine wmv ?_
                refine wex ?_
                refine wex ?_
                refine was ?_
                refine was ?_
                refine wns ?_
                refine w_seq ?_
                refine wsr ?_
                refine wmv ?_
                refine wv (x_not rfl rfl) ?_
                refine wns ?_
                refine w_false rfl ?_
                refine w_skip ?_
                refine at_seq ?_
                refine wsr ?_
                refine wmv ?_
                refine wl_callp rfl rfl rfl Tryz.c136 (Cut_ok (c := 41) (L := L.drop 1) (hw.up (hm1.trans hm2)) (by omega)) ?_; rintro v3 m3 hm3 h3
                rw [hc] at h3
                obtain rfl := h3
                refine wmv ?_
                refine wex ?_
                refine wex ?_
                refine wex ?_
                refine was ?_
                refine was ?_
                refine was ?_
                refine wnr ?_
                refine wmv ?_
                refine wl_callp rfl rfl rfl Tryz.c136 (Cut_ok (c := 44) (L := a) (hw.up (hm1.trans (hm2.trans hm3))) (by omega)) ?_; rintro v4 m4 hm4 h4
                rw [hd] at h4
                obtain rfl := h4
                refine wmv ?_
                refine wex ?_
                refine wex ?_
                refine wex ?_
                refine was ?_
                refine was ?_
                refine was ?_
                refine wns ?_
                refine w_seq ?_
                refine wsr ?_
                refine wmv ?_
                refine wv (x_not rfl rfl) ?_
                refine wmv ?_
                refine wmv ?_
                refine wv (x_not rfl rfl) ?_
                refine wv (x_pick_f rfl rfl) ?_
                refine wns ?_
                refine w_false rfl ?_
                refine w_skip ?_
                refine at_seq ?_
                refine wsr ?_
                refine wmv ?_
                refine wl_callp rfl rfl rfl Tryz.c222 (parseFrac_ok (L := x) (hw.up (hm1.trans (hm2.trans (hm3.trans hm4)))) (by omega)) ?_; rintro v5 m5 hm5 h5
                rw [hx] at h5
                obtain rfl := h5
                refine wmv ?_
                refine wex ?_
                refine wex ?_
                refine wl_alloc rfl rfl Tryz.zero53 ?_; intro b15
                refine wl_storeAll rfl (by exact Tryz.size53) rfl rfl (by simp [Value.oneCell']) rfl ?_
                refine was ?_
                refine wnr ?_
                refine wmv ?_
                refine wl_callp rfl rfl rfl Tryz.c222 (parseFrac_ok (L := y) (hw.up (hm1.trans (hm2.trans (hm3.trans (hm4.trans hm5))))) (by omega)) ?_; rintro v6 m6 hm6 h6
                rw [hy] at h6
                obtain ⟨u6, rfl, h6⟩ := h6
                obtain ⟨n7, a7, l7, c7, a8, l8, c8, rfl⟩ := h6.fi.agg
                refine wmv ?_
                refine wex ?_
                refine wex ?_
                refine wl_alloc rfl rfl Tryz.zero53 ?_; intro b17
                refine wl_storeAll rfl (by exact Tryz.size53) rfl rfl (by simp [Value.oneCell']) rfl ?_
                refine was ?_
                refine wnr ?_
                refine wmv ?_
                refine wl_callp rfl rfl rfl Tryz.c134 (pParse_ok (L := q) (hw.up (hm1.trans (hm2.trans (hm3.trans (hm4.trans (hm5.trans hm6)))))) (hE.up (hm1.trans (hm2.trans (hm3.trans (hm4.trans (hm5.trans hm6)))))) (hT.up (hm1.trans (hm2.trans (hm3.trans (hm4.trans (hm5.trans hm6)))))) (by omega)) ?_; rintro v7 m7 hm7 ⟨h7, _⟩
                rw [hq] at h7
                obtain rfl := h7
                refine wmv ?_
                refine wex ?_
                refine wex ?_
                refine was ?_
                refine was ?_
                refine wns ?_
                refine w_seq ?_
                refine wsr ?_
                refine wmv ?_
                refine wv (x_not rfl rfl) ?_
                refine wmv ?_
                refine wl_off rfl rfl rfl ?_
                refine wl_off rfl rfl rfl ?_
                refine wv (x_pick_t rfl rfl) ?_
                refine wmv ?_
                refine wl_off rfl rfl rfl ?_
                refine wl_off rfl rfl rfl ?_
                refine wv (x_pick_t rfl rfl) ?_
                refine wns ?_
                refine w_true rfl ?_
                refine wsr ?_
                refine wv (x_build (cs := [_, _, _, _, _, _, _]) Tryz.underlying55 Tryz.places55 Tryz.zero55 rfl rfl) ?_
                refine wl_front2 ?_
                refine wl_storeAll rfl (by exact Tryz.size55) rfl rfl (by simp [Value.oneCell']) rfl ?_
                refine was ?_
                refine wns ?_
                refine w_ret ?_
                refine at_then_ret ?_
                refine at_endp (resAs (vs := [_, _]) rfl rfl ⟨⟨_, _, _, rfl, rowH0 (.head _), .inr ⟨Tryz.agg55, Tryz.size55, rfl⟩⟩, rfl, trivial⟩) ?_
                exact CoR.of (o := none) rfl (by rw [hP, hx, hy, hq])
              · skip
                refine wsr ?_
                refine wl_alloc rfl rfl Tryz.zero55 ?_; intro b2
                refine was ?_
                refine wns ?_
                refine w_seq ?_
                refine wsr ?_
                refine wmv ?_
                refine wl_callp rfl rfl rfl Tryz.c221 (CutPrefix_ok (X := [61]) (by omega) (by simp)) ?_; rintro v1 m1 hm1 h1
                rw [if_neg hA] at h1
                obtain rfl := h1
                refine wmv ?_
                refine wex ?_
                refine wex ?_
                refine was ?_
                refine was ?_
                refine wnr ?_
                refine wmv ?_
                refine wns ?_
                refine w_false rfl ?_
                refine w_skip ?_
                refine at_seq ?_
                refine wsr ?_
                refine wmv ?_
                refine wl_callp rfl rfl rfl Tryz.c221 (CutPrefix_ok (X := [40]) (by omega) (by simp)) ?_; rintro v2 m2 hm2 h2
                rw [if_pos hB] at h2
                obtain rfl := h2
                refine wmv ?_
                refine wex ?_
                refine wex ?_
                refine was ?_
                refine was ?_
                refine wns ?_
                refine w_seq ?_
                refine wsr ?_
                refine wmv ?_
                refine wv (x_not rfl rfl) ?_
                refine wns ?_
                refine w_false rfl ?_
                refine w_skip ?_
                refine at_seq ?_
                refine wsr ?_
                refine wmv ?_
                refine wl_callp rfl rfl rfl Tryz.c136 (Cut_ok (c := 41) (L := L.drop 1) (hw.up (hm1.trans hm2)) (by omega)) ?_; rintro v3 m3 hm3 h3
                rw [hc] at h3
                obtain rfl := h3
                refine wmv ?_
                refine wex ?_
                refine wex ?_
                refine wex ?_
                refine was ?_
                refine was ?_
                refine was ?_
                refine wnr ?_
                refine wmv ?_
                refine wl_callp rfl rfl rfl Tryz.c136 (Cut_ok (c := 44) (L := a) (hw.up (hm1.trans (hm2.trans hm3))) (by omega)) ?_; rintro v4 m4 hm4 h4
                rw [hd] at h4
                obtain rfl := h4
                refine wmv ?_
                refine wex ?_
                refine wex ?_
                refine wex ?_
                refine was ?_
                refine was ?_
                refine was ?_
                refine wns ?_
                refine w_seq ?_
                refine wsr ?_
                refine wmv ?_
                refine wv (x_not rfl rfl) ?_
                refine wmv ?_
                refine wmv ?_
                refine wv (x_not rfl rfl) ?_
                refine wv (x_pick_f rfl rfl) ?_
                refine wns ?_
                refine w_false rfl ?_
                refine w_skip ?_
                refine at_seq ?_
                refine wsr ?_
                refine wmv ?_
                refine wl_callp rfl rfl rfl Tryz.c222 (parseFrac_ok (L := x) (hw.up (hm1.trans (hm2.trans (hm3.trans hm4)))) (by omega)) ?_; rintro v5 m5 hm5 h5
                rw [hx] at h5
                obtain rfl := h5
                refine wmv ?_
                refine wex ?_
                refine wex ?_
                refine wl_alloc rfl rfl Tryz.zero53 ?_; intro b15
                refine wl_storeAll rfl (by exact Tryz.size53) rfl rfl (by simp [Value.oneCell']) rfl ?_
                refine was ?_
                refine wnr ?_
                refine wmv ?_
                refine wl_callp rfl rfl rfl Tryz.c222 (parseFrac_ok (L := y) (hw.up (hm1.trans (hm2.trans (hm3.trans (hm4.trans hm5))))) (by omega)) ?_; rintro v6 m6 hm6 h6
                rw [hy] at h6
                obtain ⟨u6, rfl, h6⟩ := h6
                obtain ⟨n7, a7, l7, c7, a8, l8, c8, rfl⟩ := h6.fi.agg
                refine wmv ?_
                refine wex ?_
                refine wex ?_
                refine wl_alloc rfl rfl Tryz.zero53 ?_; intro b17
                refine wl_storeAll rfl (by exact Tryz.size53) rfl rfl (by simp [Value.oneCell']) rfl ?_
                refine was ?_
                refine wnr ?_
                refine wmv ?_
                refine wl_callp rfl rfl rfl Tryz.c134 (pParse_ok (L := q) (hw.up (hm1.trans (hm2.trans (hm3.trans (hm4.trans (hm5.trans hm6)))))) (hE.up (hm1.trans (hm2.trans (hm3.trans (hm4.trans (hm5.trans hm6)))))) (hT.up (hm1.trans (hm2.trans (hm3.trans (hm4.trans (hm5.trans hm6)))))) (by omega)) ?_; rintro v7 m7 hm7 ⟨h7, _⟩
                rw [hq] at h7
                obtain ⟨u7, rfl, h7⟩ := h7
                obtain ⟨a9, l9, c9, rfl⟩ := h7.pv.slice
                refine wmv ?_
                refine wex ?_
                refine wex ?_
                refine was ?_
                refine was ?_
                refine wns ?_
                refine w_seq ?_
                refine wsr ?_
                refine wmv ?_
                refine wv (x_not rfl rfl) ?_
                refine wmv ?_
                refine wl_off rfl rfl rfl ?_
                refine wl_off rfl rfl rfl ?_
                refine wv (x_pick_t rfl rfl) ?_
                refine wmv ?_
                refine wl_off rfl rfl rfl ?_
                refine wl_off rfl rfl rfl ?_
                refine wv (x_pick_t rfl rfl) ?_
                refine wns ?_
                refine w_true rfl ?_
                refine wsr ?_
                refine wv (x_build (cs := [_, _, _, _, _, _, _]) Tryz.underlying55 Tryz.places55 Tryz.zero55 rfl rfl) ?_
                refine wl_front2 ?_
                refine wl_storeAll rfl (by exact Tryz.size55) rfl rfl (by simp [Value.oneCell']) rfl ?_
                refine was ?_
                refine wns ?_
                refine w_ret ?_
                refine at_then_ret ?_
                refine at_endp (resAs (vs := [_, _]) rfl rfl ⟨⟨_, _, _, rfl, rowH0 (.head _), .inr ⟨Tryz.agg55, Tryz.size55, rfl⟩⟩, rfl, trivial⟩) ?_
                exact CoR.of (o := none) rfl (by rw [hP, hx, hy, hq])
          · skip
            rcases hy : pFrac y with _ | ⟨z2, d2⟩
            · skip
              rcases hq : pPoly q with _ | ts
              · skip
                refine wsr ?_
                refine wl_alloc rfl rfl Tryz.zero55 ?_; intro b2
                refine was ?_
                refine wns ?_
                refine w_seq ?_
                refine wsr ?_
                refine wmv ?_
                refine wl_callp rfl rfl rfl Tryz.c221 (CutPrefix_ok (X := [61]) (by omega) (by simp)) ?_; rintro v1 m1 hm1 h1
                rw [if_neg hA] at h1
                obtain rfl := h1
                refine wmv ?_
                refine wex ?_
                refine wex ?_
                refine was ?_
                refine was ?_
                refine wnr ?_
                refine wmv ?_
                refine wns ?_
                refine w_false rfl ?_
                refine w_skip ?_
                refine at_seq ?_
                refine wsr ?_
                refine wmv ?_
                refine wl_callp rfl rfl rfl Tryz.c221 (CutPrefix_ok (X := [40]) (by omega) (by simp)) ?_; rintro v2 m2 hm2 h2
                rw [if_pos hB] at h2
                obtain rfl := h2
                refine wmv ?_
                refine wex ?_
                refine wex ?_
                refine was ?_
                refine was ?_
                refine wns ?_
                refine w_seq ?_
                refine wsr ?_
                refine wmv ?_
                refine wv (x_not rfl rfl) ?_
                refine wns ?_
                refine w_false rfl ?_
                refine w_skip ?_
                refine at_seq ?_
                refine wsr ?_
                refine wmv ?_
                refine wl_callp rfl rfl rfl Tryz.c136 (Cut_ok (c := 41) (L := L.drop 1) (hw.up (hm1.trans hm2)) (by omega)) ?_; rintro v3 m3 hm3 h3
                rw [hc] at h3
                obtain rfl := h3
                refine wmv ?_
                refine wex ?_
                refine wex ?_
                refine wex ?_
                refine was ?_
                refine was ?_
                refine was ?_
                refine wnr ?_
                refine wmv ?_
                refine wl_callp rfl rfl rfl Tryz.c136 (Cut_ok (c := 44) (L := a) (hw.up (hm1.trans (hm2.trans hm3))) (by omega)) ?_; rintro v4 m4 hm4 h4
                rw [hd] at h4
                obtain rfl := h4
                refine wmv ?_
                refine wex ?_
                refine wex ?_
                refine wex ?_
                refine was ?_
                refine was ?_
                refine was ?_
                refine wns ?_
                refine w_seq ?_
                refine wsr ?_
                refine wmv ?_
                refine wv (x_not rfl rfl) ?_
                refine wmv ?_
                refine wmv ?_
                refine wv (x_not rfl rfl) ?_
                refine wv (x_pick_f rfl rfl) ?_
                refine wns ?_
                refine w_false rfl ?_
                refine w_skip ?_
                refine at_seq ?_
                refine wsr ?_
                refine wmv ?_
                refine wl_callp rfl rfl rfl Tryz.c222 (parseFrac_ok (L := x) (hw.up (hm1.trans (hm2.trans (hm3.trans hm4)))) (by omega)) ?_; rintro v5 m5 hm5 h5
                rw [hx] at h5
                obtain ⟨u5, rfl, h5⟩ := h5
                obtain ⟨n5, a5, l5, c5, a6, l6, c6, rfl⟩ := h5.fi.agg
                refine wmv ?_
                refine wex ?_
                refine wex ?_
                refine wl_alloc rfl rfl Tryz.zero53 ?_; intro b15
                refine wl_storeAll rfl (by exact Tryz.size53) rfl rfl (by simp [Value.oneCell']) rfl ?_
                refine was ?_
                refine wnr ?_
                refine wmv ?_
                refine wl_callp rfl rfl rfl Tryz.c222 (parseFrac_ok (L := y) (hw.up (hm1.trans (hm2.trans (hm3.trans (hm4.trans hm5))))) (by omega)) ?_; rintro v6 m6 hm6 h6
                rw [hy] at h6
                obtain rfl := h6
                refine wmv ?_
                refine wex ?_
                refine wex ?_
                refine wl_alloc rfl rfl Tryz.zero53 ?_; intro b17
                refine wl_storeAll rfl (by exact Tryz.size53) rfl rfl (by simp [Value.oneCell']) rfl ?_
                refine was ?_
                refine wnr ?_
                refine wmv ?_
                refine wl_callp rfl rfl rfl Tryz.c134 (pParse_ok (L := q) (hw.up (hm1.trans (hm2.trans (hm3.trans (hm4.trans (hm5.trans hm6)))))) (hE.up (hm1.trans (hm2.trans (hm3.trans (hm4.trans (hm5.trans hm6)))))) (hT.up (hm1.trans (hm2.trans (hm3.trans (hm4.trans (hm5.trans hm6)))))) (by omega)) ?_; rintro v7 m7 hm7 ⟨h7, _⟩
                rw [hq] at h7
                obtain rfl := h7
                refine wmv ?_
                refine wex ?_
                refine wex ?_
                refine was ?_
                refine was ?_
                refine wns ?_
                refine w_seq ?_
                refine wsr ?_
                refine wmv ?_
                refine wv (x_not rfl rfl) ?_
                refine wmv ?_
                refine wmv ?_
                refine wv (x_not rfl rfl) ?_
                refine wv (x_pick_f rfl rfl) ?_
                refine wmv ?_
                refine wl_off rfl rfl rfl ?_
                refine wl_off rfl rfl rfl ?_
                refine wv (x_pick_t rfl rfl) ?_
                refine wns ?_
                refine w_true rfl ?_
                refine wsr ?_
                refine wv (x_build (cs := [_, _, _, _, _, _, _]) Tryz.underlying55 Tryz.places55 Tryz.zero55 rfl rfl) ?_
                refine wl_front2 ?_
                refine wl_storeAll rfl (by exact Tryz.size55) rfl rfl (by simp [Value.oneCell']) rfl ?_
                refine was ?_
                refine wns ?_
                refine w_ret ?_
                refine at_then_ret ?_
                refine at_endp (resAs (vs := [_, _]) rfl rfl ⟨⟨_, _, _, rfl, rowH0 (.head _), .inr ⟨Tryz.agg55, Tryz.size55, rfl⟩⟩, rfl, trivial⟩) ?_
                exact CoR.of (o := none) rfl (by rw [hP, hx, hy, hq])
              · skip
                refine wsr ?_
                refine wl_alloc rfl rfl Tryz.zero55 ?_; intro b2
                refine was ?_
                refine wns ?_
                refine w_seq ?_
                refine wsr ?_
                refine wmv ?_
                refine wl_callp rfl rfl rfl Tryz.c221 (CutPrefix_ok (X := [61]) (by omega) (by simp)) ?_; rintro v1 m1 hm1 h1
                rw [if_neg hA] at h1
                obtain rfl := h1
                refine wmv ?_
                refine wex ?_
                refine wex ?_
                refine was ?_
                refine was ?_
                refine wnr ?_
                refine wmv ?_
                refine wns ?_
                refine w_false rfl ?_
                refine w_skip ?_
                refine at_seq ?_
                refine wsr ?_
                refine wmv ?_
                refine wl_callp rfl rfl rfl Tryz.c221 (CutPrefix_ok (X := [40]) (by omega) (by simp)) ?_; rintro v2 m2 hm2 h2
                rw [if_pos hB] at h2
                obtain rfl := h2
                refine wmv ?_
                refine wex ?_
                refine wex ?_
                refine was ?_
                refine was ?_
                refine wns ?_
                refine w_seq ?_
                refine wsr ?_
                refine wmv ?_
                refine wv (x_not rfl rfl) ?_
                refine wns ?_
                refine w_false rfl ?_
                refine w_skip ?_
                refine at_seq ?_
                refine wsr ?_
                refine wmv ?_
                refine wl_callp rfl rfl rfl Tryz.c136 (Cut_ok (c := 41) (L := L.drop 1) (hw.up (hm1.trans hm2)) (by omega)) ?_; rintro v3 m3 hm3 h3
                rw [hc] at h3
                obtain rfl := h3
                refine wmv ?_
                refine wex ?_
                refine wex ?_
                refine wex ?_
                refine was ?_
                refine was ?_
                refine was ?_
                refine wnr ?_
                refine wmv ?_
                refine wl_callp rfl rfl rfl Tryz.c136 (Cut_ok (c := 44) (L := a) (hw.up (hm1.trans (hm2.trans hm3))) (by omega)) ?_; rintro v4 m4 hm4 h4
                rw [hd] at h4
                obtain rfl := h4
                refine wmv ?_
                refine wex ?_
                refine wex ?_
                refine wex ?_
                refine was ?_
                refine was ?_
                refine was ?_
                refine wns ?_
                refine w_seq ?_
                refine wsr ?_
                refine wmv ?_
                refine wv (x_not rfl rfl) ?_
                refine wmv ?_
                refine wmv ?_
                refine wv (x_not rfl rfl) ?_
                refine wv (x_pick_f rfl rfl) ?_
                refine wns ?_
                refine w_false rfl ?_
                refine w_skip ?_
                refine at_seq ?_
                refine wsr ?_
                refine wmv ?_
                refine wl_callp rfl rfl rfl Tryz.c222 (parseFrac_ok (L := x) (hw.up (hm1.trans (hm2.trans (hm3.trans hm4)))) (by omega)) ?_; rintro v5 m5 hm5 h5
                rw [hx] at h5
                obtain ⟨u5, rfl, h5⟩ := h5
                obtain ⟨n5, a5, l5, c5, a6, l6, c6, rfl⟩ := h5.fi.agg
                refine wmv ?_
                refine wex ?_
                refine wex ?_
                refine wl_alloc rfl rfl Tryz.zero53 ?_; intro b15
                refine wl_storeAll rfl (by exact Tryz.size53) rfl rfl (by simp [Value.oneCell']) rfl ?_
                refine was ?_
                refine wnr ?_
                refine wmv ?_
                refine wl_callp rfl rfl rfl Tryz.c222 (parseFrac_ok (L := y) (hw.up (hm1.trans (hm2.trans (hm3.trans (hm4.trans hm5))))) (by omega)) ?_; rintro v6 m6 hm6 h6
                rw [hy] at h6
                obtain rfl := h6
                refine wmv ?_
                refine wex ?_
                refine wex ?_
                refine wl_alloc rfl rfl Tryz.zero53 ?_; intro b17
                refine wl_storeAll rfl (by exact Tryz.size53) rfl rfl (by simp [Value.oneCell']) rfl ?_
                refine was ?_
                refine wnr ?_
                refine wmv ?_
                refine wl_callp rfl rfl rfl Tryz.c134 (pParse_ok (L := q) (hw.up (hm1.trans (hm2.trans (hm3.trans (hm4.trans (hm5.trans hm6)))))) (hE.up (hm1.trans (hm2.trans (hm3.trans (hm4.trans (hm5.trans hm6)))))) (hT.up (hm1.trans (hm2.trans (hm3.trans (hm4.trans (hm5.trans hm6)))))) (by omega)) ?_; rintro v7 m7 hm7 ⟨h7, _⟩
                rw [hq] at h7
                obtain ⟨u7, rfl, h7⟩ := h7
                obtain ⟨a9, l9, c9, rfl⟩ := h7.pv.slice
                refine wmv ?_
                refine wex ?_
                refine wex ?_
                refine was ?_
                refine was ?_
                refine wns ?_
                refine w_seq ?_
                refine wsr ?_
                refine wmv ?_
                refine wv (x_not rfl rfl) ?_
                refine wmv ?_
                refine wmv ?_
                refine wv (x_not rfl rfl) ?_
                refine wv (x_pick_f rfl rfl) ?_
                refine wmv ?_
                refine wl_off rfl rfl rfl ?_
                refine wl_off rfl rfl rfl ?_
                refine wv (x_pick_t rfl rfl) ?_
                refine wns ?_
                refine w_true rfl ?_
                refine wsr ?_
                refine wv (x_build (cs := [_, _, _, _, _, _, _]) Tryz.underlying55 Tryz.places55 Tryz.zero55 rfl rfl) ?_
                refine wl_front2 ?_
                refine wl_storeAll rfl (by exact Tryz.size55) rfl rfl (by simp [Value.oneCell']) rfl ?_
                refine was ?_
                refine wns ?_
                refine w_ret ?_
                refine at_then_ret ?_
                refine at_endp (resAs (vs := [_, _]) rfl rfl ⟨⟨_, _, _, rfl, rowH0 (.head _), .inr ⟨Tryz.agg55, Tryz.size55, rfl⟩⟩, rfl, trivial⟩) ?_
                exact CoR.of (o := none) rfl (by rw [hP, hx, hy, hq])
            · skip
              rcases hq : pPoly q with _ | ts
              · skip
                refine wsr ?_
                refine wl_alloc rfl rfl Tryz.zero55 ?_; intro b2
                refine was ?_
                refine wns ?_
                refine w_seq ?_
                refine wsr ?_
                refine wmv ?_
                refine wl_callp rfl rfl rfl Tryz.c221 (CutPrefix_ok (X := [61]) (by omega) (by simp)) ?_; rintro v1 m1 hm1 h1
                rw [if_neg hA] at h1
                obtain rfl := h1
                refine wmv ?_
                refine wex ?_
                refine wex ?_
                refine was ?_
                refine was ?_
                refine wnr ?_
                refine wmv ?_
                refine wns ?_
                refine w_false rfl ?_
                refine w_skip ?_
                refine at_seq ?_
                refine wsr ?_
                refine wmv ?_
                refine wl_callp rfl rfl rfl Tryz.c221 (CutPrefix_ok (X := [40]) (by omega) (by simp)) ?_; rintro v2 m2 hm2 h2
                rw [if_pos hB] at h2
                obtain rfl := h2
                refine wmv ?_
                refine wex ?_
                refine wex ?_
                refine was ?_
                refine was ?_
                refine wns ?_
                refine w_seq ?_
                refine wsr ?_
                refine wmv ?_
                refine wv (x_not rfl rfl) ?_
                refine wns ?_
                refine w_false rfl ?_
                refine w_skip ?_
                refine at_seq ?_
                refine wsr ?_
                refine wmv ?_
                refine wl_callp rfl rfl rfl Tryz.c136 (Cut_ok (c := 41) (L := L.drop 1) (hw.up (hm1.trans hm2)) (by omega)) ?_; rintro v3 m3 hm3 h3
                rw [hc] at h3
                obtain rfl := h3
                refine wmv ?_
                refine wex ?_
                refine wex ?_
                refine wex ?_
                refine was ?_
                refine was ?_
                refine was ?_
                refine wnr ?_
                refine wmv ?_
                refine wl_callp rfl rfl rfl Tryz.c136 (Cut_ok (c := 44) (L := a) (hw.up (hm1.trans (hm2.trans hm3))) (by omega)) ?_; rintro v4 m4 hm4 h4
                rw [hd] at h4
                obtain rfl := h4
                refine wmv ?_
                refine wex ?_
                refine wex ?_
                refine wex ?_
                refine was ?_
                refine was ?_
                refine was ?_
                refine wns ?_
                refine w_seq ?_
                refine wsr ?_
                refine wmv ?_
                refine wv (x_not rfl rfl) ?_
                refine wmv ?_
                refine wmv ?_
                refine wv (x_not rfl rfl) ?_
                refine wv (x_pick_f rfl rfl) ?_
                refine wns ?_
                refine w_false rfl ?_
                refine w_skip ?_
                refine at_seq ?_
                refine wsr ?_
                refine wmv ?_
                refine wl_callp rfl rfl rfl Tryz.c222 (parseFrac_ok (L := x) (hw.up (hm1.trans (hm2.trans (hm3.trans hm4)))) (by omega)) ?_; rintro v5 m5 hm5 h5
                rw [hx] at h5
                obtain ⟨u5, rfl, h5⟩ := h5
                obtain ⟨n5, a5, l5, c5, a6, l6, c6, rfl⟩ := h5.fi.agg
                refine wmv ?_
                refine wex ?_
                refine wex ?_
                refine wl_alloc rfl rfl Tryz.zero53 ?_; intro b15
                refine wl_storeAll rfl (by exact Tryz.size53) rfl rfl (by simp [Value.oneCell']) rfl ?_
                refine was ?_
                refine wnr ?_
                refine wmv ?_
                refine wl_callp rfl rfl rfl Tryz.c222 (parseFrac_ok (L := y) (hw.up (hm1.trans (hm2.trans (hm3.trans (hm4.trans hm5))))) (by omega)) ?_; rintro v6 m6 hm6 h6
                rw [hy] at h6
                obtain ⟨u6, rfl, h6⟩ := h6
                obtain ⟨n7, a7, l7, c7, a8, l8, c8, rfl⟩ := h6.fi.agg
                refine wmv ?_
                refine wex ?_
                refine wex ?_
                refine wl_alloc rfl rfl Tryz.zero53 ?_; intro b17
                refine wl_storeAll rfl (by exact Tryz.size53) rfl rfl (by simp [Value.oneCell']) rfl ?_
                refine was ?_
                refine wnr ?_
                refine wmv ?_
                refine wl_callp rfl rfl rfl Tryz.c134 (pParse_ok (L := q) (hw.up (hm1.trans (hm2.trans (hm3.trans (hm4.trans (hm5.trans hm6)))))) (hE.up (hm1.trans (hm2.trans (hm3.trans (hm4.trans (hm5.trans hm6)))))) (hT.up (hm1.trans (hm2.trans (hm3.trans (hm4.trans (hm5.trans hm6)))))) (by omega)) ?_; rintro v7 m7 hm7 ⟨h7, _⟩
                rw [hq] at h7
                obtain rfl := h7
                refine wmv ?_
                refine wex ?_
                refine wex ?_
                refine was ?_
                refine was ?_
                refine wns ?_
                refine w_seq ?_
                refine wsr ?_
                refine wmv ?_
                refine wv (x_not rfl rfl) ?_
                refine wmv ?_
                refine wmv ?_
                refine wv (x_not rfl rfl) ?_
                refine wv (x_pick_f rfl rfl) ?_
                refine wmv ?_
                refine wmv ?_
                refine wv ((x_neq rfl rfl).as (bool_t (by decide))) ?_
                refine wv (x_pick_f rfl rfl) ?_
                refine wns ?_
                refine w_true rfl ?_
                refine wsr ?_
                refine wv (x_build (cs := [_, _, _, _, _, _, _]) Tryz.underlying55 Tryz.places55 Tryz.zero55 rfl rfl) ?_
                refine wl_front2 ?_
                refine wl_storeAll rfl (by exact Tryz.size55) rfl rfl (by simp [Value.oneCell']) rfl ?_
                refine was ?_
                refine wns ?_
                refine w_ret ?_
                refine at_then_ret ?_
                refine at_endp (resAs (vs := [_, _]) rfl rfl ⟨⟨_, _, _, rfl, rowH0 (.head _), .inr ⟨Tryz.agg55, Tryz.size55, rfl⟩⟩, rfl, trivial⟩) ?_
                exact CoR.of (o := none) rfl (by rw [hP, hx, hy, hq])
              · skip
                refine wsr ?_
                refine wl_alloc rfl rfl Tryz.zero55 ?_; intro b2
                refine was ?_
                refine wns ?_
                refine w_seq ?_
                refine wsr ?_
                refine wmv ?_
                refine wl_callp rfl rfl rfl Tryz.c221 (CutPrefix_ok (X := [61]) (by omega) (by simp)) ?_; rintro v1 m1 hm1 h1
                rw [if_neg hA] at h1
                obtain rfl := h1
                refine wmv ?_
                refine wex ?_
                refine wex ?_
                refine was ?_
                refine was ?_
                refine wnr ?_
                refine wmv ?_
                refine wns ?_
                refine w_false rfl ?_
                refine w_skip ?_
                refine at_seq ?_
                refine wsr ?_
                refine wmv ?_
                refine wl_callp rfl rfl rfl Tryz.c221 (CutPrefix_ok (X := [40]) (by omega) (by simp)) ?_; rintro v2 m2 hm2 h2
                rw [if_pos hB] at h2
                obtain rfl := h2
                refine wmv ?_
                refine wex ?_
                refine wex ?_
                refine was ?_
                refine was ?_
                refine wns ?_
                refine w_seq ?_
                refine wsr ?_
                refine wmv ?_
                refine wv (x_not rfl rfl) ?_
                refine wns ?_
                refine w_false rfl ?_
                refine w_skip ?_
                refine at_seq ?_
                refine wsr ?_
                refine wmv ?_
                refine wl_callp rfl rfl rfl Tryz.c136 (Cut_ok (c := 41) (L := L.drop 1) (hw.up (hm1.trans hm2)) (by omega)) ?_; rintro v3 m3 hm3 h3
                rw [hc] at h3
                obtain rfl := h3
                refine wmv ?_
                refine wex ?_
                refine wex ?_
                refine wex ?_
                refine was ?_
                refine was ?_
                refine was ?_
                refine wnr ?_
                refine wmv ?_
                refine wl_callp rfl rfl rfl Tryz.c136 (Cut_ok (c := 44) (L := a) (hw.up (hm1.trans (hm2.trans hm3))) (by omega)) ?_; rintro v4 m4 hm4 h4
                rw [hd] at h4
                obtain rfl := h4
                refine wmv ?_
                refine wex ?_
                refine wex ?_
                refine wex ?_
                refine was ?_
                refine was ?_
                refine was ?_
                refine wns ?_
                refine w_seq ?_
                refine wsr ?_
                refine wmv ?_
                refine wv (x_not rfl rfl) ?_
                refine wmv ?_
                refine wmv ?_
                refine wv (x_not rfl rfl) ?_
                refine wv (x_pick_f rfl rfl) ?_
                refine wns ?_
                refine w_false rfl ?_
                refine w_skip ?_
                refine at_seq ?_
                refine wsr ?_
                refine wmv ?_
                refine wl_callp rfl rfl rfl Tryz.c222 (parseFrac_ok (L := x) (hw.up (hm1.trans (hm2.trans (hm3.trans hm4)))) (by omega)) ?_; rintro v5 m5 hm5 h5
                rw [hx] at h5
                obtain ⟨u5, rfl, h5⟩ := h5
                obtain ⟨n5, a5, l5, c5, a6, l6, c6, rfl⟩ := h5.fi.agg
                refine wmv ?_
                refine wex ?_
                refine wex ?_
                refine wl_alloc rfl rfl Tryz.zero53 ?_; intro b15
                refine wl_storeAll rfl (by exact Tryz.size53) rfl rfl (by simp [Value.oneCell']) rfl ?_
                refine was ?_
                refine wnr ?_
                refine wmv ?_
                refine wl_callp rfl rfl rfl Tryz.c222 (parseFrac_ok (L := y) (hw.up (hm1.trans (hm2.trans (hm3.trans (hm4.trans hm5))))) (by omega)) ?_; rintro v6 m6 hm6 h6
                rw [hy] at h6
                obtain ⟨u6, rfl, h6⟩ := h6
                obtain ⟨n7, a7, l7, c7, a8, l8, c8, rfl⟩ := h6.fi.agg
                refine wmv ?_
                refine wex ?_
                refine wex ?_
                refine wl_alloc rfl rfl Tryz.zero53 ?_; intro b17
                refine wl_storeAll rfl (by exact Tryz.size53) rfl rfl (by simp [Value.oneCell']) rfl ?_
                refine was ?_
                refine wnr ?_
                refine wmv ?_
                refine wl_callp rfl rfl rfl Tryz.c134 (pParse_ok (L := q) (hw.up (hm1.trans (hm2.trans (hm3.trans (hm4.trans (hm5.trans hm6)))))) (hE.up (hm1.trans (hm2.trans (hm3.trans (hm4.trans (hm5.trans hm6)))))) (hT.up (hm1.trans (hm2.trans (hm3.trans (hm4.trans (hm5.trans hm6)))))) (by omega)) ?_; rintro v7 m7 hm7 ⟨h7, _⟩
                rw [hq] at h7
                obtain ⟨u7, rfl, h7⟩ := h7
                obtain ⟨a9, l9, c9, rfl⟩ := h7.pv.slice
                refine wmv ?_
                refine wex ?_
                refine wex ?_
                refine was ?_
                refine was ?_
                refine wns ?_
                refine w_seq ?_
                refine wsr ?_
                refine wmv ?_
                refine wv (x_not rfl rfl) ?_
                refine wmv ?_
                refine wmv ?_
                refine wv (x_not rfl rfl) ?_
                refine wv (x_pick_f rfl rfl) ?_
                refine wmv ?_
                refine wmv ?_
                refine wv ((x_neq rfl rfl).as (bool_f (by decide))) ?_
                refine wv (x_pick_f rfl rfl) ?_
                refine wns ?_
                refine w_false rfl ?_
                refine w_skip ?_
                refine at_seq ?_
                refine wsr ?_
                refine wmv ?_
                refine wv (x_loads Tryz.agg53 (by exact Tryz.size53) rfl (rowH0 (.tail _ (.head _)))) ?_
                refine wv (x_loads Tryz.agg53 (by exact Tryz.size53) rfl (rowH0 (.head _))) ?_
                refine wv (x_build (cs := [_, _, _, _, _, _, _]) Tryz.underlying55 Tryz.places55 Tryz.zero55 rfl rfl) ?_
                refine wl_front2 ?_
                refine wl_storeAll rfl (by exact Tryz.size55) rfl rfl (by simp [Value.oneCell']) rfl ?_
                refine was ?_
                refine wns ?_
                refine w_ret ?_
                refine at_endp (resAs (vs := [_, _]) rfl rfl ⟨⟨_, _, _, rfl, rowH0 (.head _), .inr ⟨Tryz.agg55, Tryz.size55, rfl⟩⟩, rfl, trivial⟩) ?_
                exact CoR.of (o := some _) ⟨_, _, _, _, _, _, _, rfl, h5.up (hm6.trans hm7), h6.up hm7, h7⟩ (by rw [hP, hx, hy, hq])
    · skip
      have hB1 : ¬ L.take 1 = [40] := hB
      refine wsr ?_
      refine wl_alloc rfl rfl Tryz.zero55 ?_; intro b2
      refine was ?_
      refine wns ?_
      refine w_seq ?_
      refine wsr ?_
      refine wmv ?_
      refine wl_callp rfl rfl rfl Tryz.c221 (CutPrefix_ok (X := [61]) (by omega) (by simp)) ?_; rintro v1 m1 hm1 h1
      rw [if_neg hA] at h1
      obtain rfl := h1
      refine wmv ?_
      refine wex ?_
      refine wex ?_
      refine was ?_
      refine was ?_
      refine wnr ?_
      refine wmv ?_
      refine wns ?_
      refine w_false rfl ?_
      refine w_skip ?_
      refine at_seq ?_
      refine wsr ?_
      refine wmv ?_
      refine wl_callp rfl rfl rfl Tryz.c221 (CutPrefix_ok (X := [40]) (by omega) (by simp)) ?_; rintro v2 m2 hm2 h2
      rw [if_neg hB] at h2
      obtain rfl := h2
      refine wmv ?_
      refine wex ?_
      refine wex ?_
      refine was ?_
      refine was ?_
      refine wns ?_
      refine w_seq ?_
      refine wsr ?_
      refine wmv ?_
      refine wv (x_not rfl rfl) ?_
      refine wns ?_
      refine w_true rfl ?_
      refine wsr ?_
      refine wv (x_build (cs := [_, _, _, _, _, _, _]) Tryz.underlying55 Tryz.places55 Tryz.zero55 rfl rfl) ?_
      refine wl_storeAll rfl (by exact Tryz.size55) rfl rfl (by simp [Value.oneCell']) rfl ?_
      refine was ?_
      refine wns ?_
      refine w_ret ?_
      refine at_then_ret ?_
      refine at_endp (resAs (vs := [_, _]) rfl rfl ⟨⟨_, _, _, rfl, rowH0 (.head _), .inr ⟨Tryz.agg55, Tryz.size55, rfl⟩⟩, rfl, trivial⟩) ?_
      exact CoR.of (o := none) rfl (by unfold pCo; rw [if_neg hA1, if_neg hB1])
end Go.Cy


/- Plain laws: canonical forms exist; what the parsers give is canonical and small. -/
namespace Go.Cy
open Go Go.Proofs
set_option maxRecDepth 20000

theorem ins_ex {t : Tm} (ht : Tok t) : ∀ {l : List Tm}, Can l → ∃ l', Can l' ∧ (∀ e, cf e l' = cf e (t :: l)) ∧ (∀ u ∈ l', u.2 = t.2 ∨ ∃ w ∈ l, w.2 = u.2) ∧ tot l' ≤ tot (t :: l) ∧ l'.length ≤ (t :: l).length
  | [], _ => ⟨[t], ⟨List.pairwise_singleton _ _, fun u hu => by rw [List.mem_singleton.1 hu]; exact ht⟩, fun _ => rfl, fun u hu => .inl (by rw [List.mem_singleton.1 hu]), Nat.le_refl _, Nat.le_refl _⟩
  | u :: k, h => by
    have hu := h.2 u (List.mem_cons_self ..)
    have hp := List.pairwise_cons.1 h.1
    by_cases e : u.2 = t.2
    · by_cases hz : u.1 + t.1 = 0
      · refine ⟨k, h.tail, fun f => ?_, fun w hw => .inr ⟨w, List.mem_cons_of_mem _ hw, rfl⟩, by simp only [tot]; omega, by simp only [List.length_cons]; omega⟩
        simp only [cf, e]
        split <;> omega
      · refine ⟨(u.1 + t.1, u.2) :: k, ⟨List.pairwise_cons.2 ⟨fun w hw => hp.1 w hw, hp.2⟩, fun w hw => ?_⟩, fun f => ?_, fun w hw => ?_, by simp only [tot]; omega, by simp⟩
        · rcases List.mem_cons.1 hw with rfl | hw
          · exact ⟨hz, hu.2⟩
          · exact h.2 w (List.mem_cons_of_mem _ hw)
        · simp only [cf, e]
          split <;> omega
        · rcases List.mem_cons.1 hw with rfl | hw
          · exact .inl e
          · exact .inr ⟨w, List.mem_cons_of_mem _ hw, rfl⟩
    · by_cases hl : lxl 4 u.2 t.2
      · refine ⟨t :: u :: k, ⟨List.pairwise_cons.2 ⟨fun w hw => ?_, h.1⟩, fun w hw => ?_⟩, fun _ => rfl, fun w hw => ?_, Nat.le_refl _, Nat.le_refl _⟩
        · rcases List.mem_cons.1 hw with rfl | hw
          · exact hl
          · exact lxl_trans (h.2 w (List.mem_cons_of_mem _ hw)).2.1 hu.2.1 ht.2.1 (hp.1 w hw) hl
        · rcases List.mem_cons.1 hw with rfl | hw
          · exact ht
          · exact h.2 w hw
        · rcases List.mem_cons.1 hw with rfl | hw
          · exact .inl rfl
          · exact .inr ⟨w, hw, rfl⟩
      · have hl2 : lxl 4 t.2 u.2 := lxl_of hu.2.1 ht.2.1 hl e
        obtain ⟨k', h1, h2, h3, h4, h5⟩ := ins_ex ht h.tail
        refine ⟨u :: k', ⟨List.pairwise_cons.2 ⟨fun w hw => ?_, h1.1⟩, fun w hw => ?_⟩, fun f => ?_, fun w hw => ?_, by simp only [tot] at h4 ⊢; omega, by simp at h5 ⊢; omega⟩
        · rcases h3 w hw with h6 | ⟨y, hy, h6⟩
          · show lxl 4 w.2 u.2
            rw [h6]; exact hl2
          · show lxl 4 w.2 u.2
            rw [← h6]; exact hp.1 y hy
        · rcases List.mem_cons.1 hw with rfl | hw
          · exact hu
          · exact h1.2 w hw
        · have := h2 f
          simp only [cf] at this ⊢; omega
        · rcases List.mem_cons.1 hw with rfl | hw
          · exact .inr ⟨_, List.mem_cons_self .., rfl⟩
          · rcases h3 w hw with h6 | ⟨y, hy, h6⟩
            · exact .inl h6
            · exact .inr ⟨y, List.mem_cons_of_mem _ hy, h6⟩
theorem can_ex : ∀ {l : List Tm}, (∀ t ∈ l, Tok t) → ∃ l', Can l' ∧ (∀ e, cf e l' = cf e l) ∧ tot l' ≤ tot l ∧ l'.length ≤ l.length
  | [], _ => ⟨[], ⟨.nil, fun _ h => absurd h List.not_mem_nil⟩, fun _ => rfl, Nat.le_refl _, Nat.le_refl _⟩
  | t :: l, h => by
    obtain ⟨k, h1, h2, h3, h4⟩ := can_ex fun u hu => h u (List.mem_cons_of_mem _ hu)
    obtain ⟨k', h5, h6, _, h7, h8⟩ := ins_ex (h t (List.mem_cons_self ..)) h1
    refine ⟨k', h5, fun e => ?_, ?_, ?_⟩
    · rw [h6, cf, cf, h2]
    · simp only [tot] at h7 ⊢; omega
    · simp at h8 ⊢; omega
theorem keepT_tok {t : Tm} (h : keepT t = true) (h4 : t.2.length = 4) : Tok t := by
  rw [keepT, Bool.and_eq_true] at h
  exact ⟨of_decide_eq_true h.1, h4, (minL_nonneg (by intro e; rw [e] at h4; simp at h4)).1 (of_decide_eq_true h.2)⟩
theorem tok_keepT {t : Tm} (h : Tok t) : keepT t = true := by
  rw [keepT, Bool.and_eq_true]
  exact ⟨decide_eq_true h.1, decide_eq_true ((minL_nonneg (by intro e; have := h.2.1; rw [e] at this; simp at this)).2 h.2.2)⟩
theorem nrm_spec {ts : List Tm} (h : ∀ t ∈ ts, t.2.length = 4) : Can (nrm ts) ∧ (∀ e, e.length = 4 → cf e (nrm ts) = cf e (ts.filter keepT)) ∧ tot (nrm ts) ≤ tot ts ∧ (nrm ts).length ≤ ts.length := by
  obtain ⟨rs, h1, h2, h3, h4⟩ := can_ex (l := ts.filter keepT) fun t ht => keepT_tok (List.mem_filter.1 ht).2 (h t (List.mem_filter.1 ht).1)
  rw [nrm_eq h1 fun e _ => h2 e]
  exact ⟨h1, fun e _ => h2 e, Nat.le_trans h3 (tot_filter _ _), Nat.le_trans h4 (List.length_filter_le _ _)⟩
theorem nrm_can {ts : List Tm} (h : Can ts) : nrm ts = ts := nrm_eq h fun e _ => by rw [List.filter_eq_self.2 fun t ht => tok_keepT (h.2 t ht)]
theorem pPoly_ok {L : List UInt8} {ts : List Tm} (h : pPoly L = some ts) (hl : L.length ≤ 1048576) : Pok L.length L ts := by
  unfold pPoly at h
  by_cases h0 : L = [48]
  · rw [if_pos h0] at h
    injection h with h
    subst h
    exact ⟨⟨.nil, fun _ h => absurd h List.not_mem_nil⟩, fun _ h => absurd h List.not_mem_nil, Nat.zero_le _, by rw [h0]; rfl⟩
  · rw [if_neg h0] at h
    rcases hp : pTerms (splB 43 L) with _ | us
    · rw [hp] at h; cases h
    · rw [hp] at h
      simp only at h
      have htb := pTerms_tb hp (splB_len 43 L)
      have hc := splB_count 43 L
      obtain ⟨h1, h2, h3, h4⟩ := nrm_spec fun t ht => (htb.2 t ht).2.1
      have htt := tot_dlen htb.2 (by omega)
      split at h
      · rename_i he
        injection h with h
        subst h
        refine ⟨h1, fun t ht => ?_, by omega, he⟩
        obtain ⟨u, hu, hue⟩ := exp_of h1 h2 ht
        refine ⟨Nat.le_trans (dlen_mono (Nat.le_trans (tot_mem ht) h3)) htt, ?_⟩
        rw [← hue]
        exact (htb.2 u hu).2.2
      · cases h
theorem low_low (z : Int) (d : Nat) : lowZ (lowZ z d) (lowD z d) = lowZ z d ∧ lowD (lowZ z d) (lowD z d) = lowD z d := by
  by_cases h : d = 0 ∨ z = 0
  · have e1 : lowZ z d = 0 := by rw [lowZ, if_pos h]
    have e2 : lowD z d = 1 := by rw [lowD, if_pos h]
    rw [e1, e2]
    exact ⟨by rw [lowZ, if_pos (.inr rfl)], by rw [lowD, if_pos (.inr rfl)]⟩
  · have hd : d ≠ 0 := fun e => h (.inl e)
    have hz : z ≠ 0 := fun e => h (.inr e)
    have e1 : lowZ z d = z.tdiv (Int.gcd z d) := by rw [lowZ, if_neg h]
    have e2 : lowD z d = d / Int.gcd z d := by rw [lowD, if_neg h]
    have hg : 0 < Int.gcd z d := Int.gcd_pos_of_ne_zero_left _ hz
    have hgn : Int.gcd z d = Nat.gcd z.natAbs d := rfl
    have hgz : Int.gcd z d ∣ z.natAbs := by rw [hgn]; exact Nat.gcd_dvd_left _ _
    have hgd : Int.gcd z d ∣ d := by rw [hgn]; exact Nat.gcd_dvd_right _ _
    have hna : (z.tdiv (Int.gcd z d)).natAbs = z.natAbs / Int.gcd z d := by rw [Int.natAbs_tdiv]; rfl
    have hcop : Int.gcd (z.tdiv (Int.gcd z d)) ((d / Int.gcd z d : Nat) : Int) = 1 := by
      show Nat.gcd (z.tdiv (Int.gcd z d)).natAbs (d / Int.gcd z d) = 1
      rw [hna, hgn]
      exact Nat.coprime_div_gcd_div_gcd (by rw [← hgn]; exact hg)
    have hd' : d / Int.gcd z d ≠ 0 := by
      have := Nat.div_mul_cancel hgd
      intro e
      rw [e] at this; omega
    have hz' : z.tdiv (Int.gcd z d) ≠ 0 := by
      have := Nat.div_mul_cancel hgz
      intro e
      rw [e] at hna
      rw [← hna] at this
      simp at this; omega
    rw [e1, e2]
    exact ⟨by rw [lowZ, if_neg (by rintro (h | h); exact hd' h; exact hz' h), hcop]; simp, by rw [lowD, if_neg (by rintro (h | h); exact hd' h; exact hz' h), hcop]; simp⟩
end Go.Cy
