/- integers: Of, signed, From, Sign, Cmp, Same. -/
import Derived.Test.YtmamkgbldaehgaaGreatDoorCyNat4
namespace Go.Cy
open Go Go.Proofs
set_option maxRecDepth 20000

/-- The number with this sign and this absolute value. -/
def sg (neg : Bool) (a : Nat) : Int := if neg then -(a : Int) else a
def Iv (neg : Bool) (s : Value) : Value := .agg #[.bool neg, s]
/-- An integer in any form. -/
def In (m : Mem) (v : Value) (z : Int) : Prop := ∃ neg s a, v = Iv neg s ∧ Nt m s a ∧ z = sg neg a
/-- An integer in canonical form. -/
def Ic (m : Mem) (v : Value) (z : Int) : Prop := ∃ neg s a, v = Iv neg s ∧ Nn m s a ∧ z = sg neg a ∧ (neg = true → a ≠ 0)
theorem Ic.in' {m : Mem} {v : Value} {z : Int} (h : Ic m v z) : In m v z := by obtain ⟨neg, s, a, h1, h2, h3, _⟩ := h; exact ⟨neg, s, a, h1, h2.nt, h3⟩
theorem In.up {m m' : Mem} {v : Value} {z : Int} (h : In m v z) (hm : m.le m') : In m' v z := by obtain ⟨neg, s, a, h1, h2, h3⟩ := h; exact ⟨neg, s, a, h1, h2.up hm, h3⟩
theorem Ic.up {m m' : Mem} {v : Value} {z : Int} (h : Ic m v z) (hm : m.le m') : Ic m' v z := by obtain ⟨neg, s, a, h1, h2, h3, h4⟩ := h; exact ⟨neg, s, a, h1, h2.up hm, h3, h4⟩
theorem Ic.eq {m : Mem} {v : Value} {z z' : Int} (h : Ic m v z) (e : z = z') : Ic m v z' := e ▸ h
theorem In.of {m : Mem} {neg : Bool} {s : Value} {a : Nat} (h : Nt m s a) : In m (.agg [.bool neg, s].toArray) (sg neg a) := ⟨neg, s, a, rfl, h, rfl⟩
theorem In.zero (m : Mem) : In m (.agg [.bool false, .slice none 0 0].toArray) 0 := ⟨false, _, 0, rfl, ⟨[], ⟨fun _ h => absurd h List.not_mem_nil, by simp, none, 0, rfl, Nat.le_refl _, fun h => absurd h (by simp)⟩, rfl⟩, rfl⟩
theorem Nn.slice {m : Mem} {s : Value} {a : Nat} (h : Nn m s a) : ∃ ad l c, s = .slice ad l c := by obtain ⟨_, ⟨_, _, ad, c, rfl, _⟩, _⟩ := h; exact ⟨_, _, _, rfl⟩
theorem Nt.slice {m : Mem} {s : Value} {a : Nat} (h : Nt m s a) : ∃ ad l c, s = .slice ad l c := by obtain ⟨_, ⟨_, _, ad, c, rfl, _⟩, _⟩ := h; exact ⟨_, _, _, rfl⟩
theorem Dg.one {m : Mem} {s : Value} {ds : List Nat} (h : Dg m s ds) : s.oneCell' = true := by obtain ⟨_, _, a, c, rfl, _⟩ := h; rfl
theorem Nt.one {m : Mem} {s : Value} {a : Nat} (h : Nt m s a) : s.oneCell' = true := by obtain ⟨_, h, _⟩ := h; exact h.one
theorem Nt.cells {m : Mem} {s : Value} {a : Nat} (h : Nt m s a) : s.cells = #[s] := by obtain ⟨_, ⟨_, _, a, c, rfl, _⟩, _⟩ := h; rfl

theorem Sign_ok {m : Mem} {v : Value} {z : Int} (h : In m v z) : Pure Tryz.prog 40 #[v] m fun r _ => r = .int .i64 z.sign := by
  obtain ⟨neg, s, a, rfl, hs, rfl⟩ := h
  refine enterp Tryz.func40 rfl rfl ?_
  intro K hm0 hks
  refine w_seq ?_
  refine w_region ?_
  refine wl_box rfl rfl rfl rfl ?_; intro b1
  refine wl_val rfl rfl rfl (x_assign rfl) ?_
  refine wl_nil ?_
  refine at_seq ?_
  refine w_seq ?_
  refine w_block ?_
  refine w_seq ?_
  refine w_region ?_
  refine wl_val rfl rfl rfl (x_fieldAddr Tryz.underlying49 rfl Tryz.size47 rfl) ?_
  refine wl_val rfl rfl rfl (x_load Tryz.plain47 rfl (rowH1 (.head _) rfl)) ?_
  refine wl_callp rfl rfl rfl Tryz.c100 (IsZero_ok hs) ?_; rintro v1 m1 hm1 rfl
  refine wl_val rfl rfl rfl (x_assign rfl) ?_
  refine wl_nil ?_
  refine at_seq ?_
  refine w_if rfl (fun h1 => ?_) (fun h1 => ?_)
  · skip
    refine w_seq ?_
    refine w_region ?_
    refine wl_val rfl rfl rfl (x_assign rfl) ?_
    refine wl_nil ?_
    refine at_seq ?_
    refine w_ret ?_
    refine at_block_ret ?_
    refine at_then_ret ?_
    refine at_endp (res1 rfl rfl) ?_
    subst h1
    cases neg <;> rfl
  · skip
    refine w_seq ?_
    refine w_region ?_
    refine wl_val rfl rfl rfl (x_fieldAddr Tryz.underlying49 rfl Tryz.size4 rfl) ?_
    refine wl_val rfl rfl rfl (x_load Tryz.plain4 rfl (rowH1 (.head _) rfl)) ?_
    refine wl_val rfl rfl rfl (x_assign rfl) ?_
    refine wl_nil ?_
    refine at_seq ?_
    refine w_cond rfl (fun h2 => ?_) (fun h2 => ?_)
    · skip
      subst h2
      refine w_seq ?_
      refine w_region ?_
      refine wl_val rfl rfl rfl (x_assign rfl) ?_
      refine wl_nil ?_
      refine at_seq ?_
      refine w_ret ?_
      refine at_block_ret ?_
      refine at_then_ret ?_
      refine at_endp (res1 rfl rfl) ?_
      simp only [sg, if_true]
      rw [Int.sign_eq_neg_one_of_neg (by omega)]
    · skip
      subst h2
      refine w_skip ?_
      refine at_block_normal ?_
      refine at_seq ?_
      refine w_seq ?_
      refine w_region ?_
      refine wl_val rfl rfl rfl (x_assign rfl) ?_
      refine wl_nil ?_
      refine at_seq ?_
      refine w_ret ?_
      refine at_endp (res1 rfl rfl) ?_
      simp only [sg]
      rw [Int.sign_eq_one_of_pos (by simp; omega)]

theorem signed_ok {m : Mem} {neg : Bool} {s : Value} {a : Nat} (h : Nn m s a) : Pure Tryz.prog 104 #[.bool neg, s] m fun r m' => Ic m' r (sg neg a) := by
  obtain ⟨ds, ⟨hb, hl, ad, cap, rfl, hc, hr⟩, rfl, hn⟩ := h
  have hz := nv_eq_zero hn
  refine enterp Tryz.func104 rfl rfl ?_
  intro K hm0 hks
  refine w_seq ?_
  refine w_region ?_
  refine wl_alloc rfl rfl Tryz.zero49 ?_; intro b4
  refine wl_nil ?_
  refine at_seq ?_
  refine w_seq ?_
  refine w_region ?_
  refine wl_val rfl rfl rfl (x_move rfl) ?_
  refine wl_val rfl rfl rfl (x_move rfl) ?_
  refine wl_split (t := 6) rfl (fun h1 => ?_) (fun h1 => ?_)
  · skip
    subst h1
    refine wl_val rfl rfl rfl (x_move rfl) ?_
    refine wl_val rfl rfl rfl (x_len Tryz.underlying47 rfl rfl) ?_
    refine wl_val rfl rfl rfl (x_gtr rfl rfl) ?_
    refine wl_val rfl rfl rfl (x_pick_t rfl rfl) ?_
    refine wl_val rfl rfl rfl (x_move rfl) ?_
    refine wl_val rfl rfl rfl (x_build (cs := [_, _]) Tryz.underlying49 Tryz.places49 Tryz.zero49 rfl rfl) ?_
    refine wl_storeAll rfl (by exact Tryz.size49) rfl rfl (by simp [Value.oneCell']) rfl ?_
    refine wl_nil ?_
    refine at_seq ?_
    refine w_ret ?_
    refine at_endp (resA rfl ⟨⟨_, _, _, rfl, rowH0 (.head _), .inr ⟨Tryz.agg49, Tryz.size49, rfl⟩⟩, trivial⟩) ?_
    refine ⟨_, _, nv ds, rfl, ⟨ds, ⟨hb, hl, ad, cap, rfl, hc, hr⟩, rfl, hn⟩, ?_, ?_⟩
    · by_cases h0 : ds = []
      · subst h0; simp [sg, nv]
      · have : 0 < ds.length := List.length_pos_iff.2 h0
        simp [sg, this]
    · intro e h0
      rw [hz.1 h0] at e
      simp at e
  · skip
    subst h1
    refine wl_off rfl rfl rfl ?_
    refine wl_off rfl rfl rfl ?_
    refine wl_off rfl rfl rfl ?_
    refine wl_val rfl rfl rfl (x_pick_f rfl rfl) ?_
    refine wl_val rfl rfl rfl (x_move rfl) ?_
    refine wl_val rfl rfl rfl (x_build (cs := [_, _]) Tryz.underlying49 Tryz.places49 Tryz.zero49 rfl rfl) ?_
    refine wl_storeAll rfl (by exact Tryz.size49) rfl rfl (by simp [Value.oneCell']) rfl ?_
    refine wl_nil ?_
    refine at_seq ?_
    refine w_ret ?_
    refine at_endp (resA rfl ⟨⟨_, _, _, rfl, rowH0 (.head _), .inr ⟨Tryz.agg49, Tryz.size49, rfl⟩⟩, trivial⟩) ?_
    exact ⟨_, _, nv ds, rfl, ⟨ds, ⟨hb, hl, ad, cap, rfl, hc, hr⟩, rfl, hn⟩, rfl, fun e => by simp at e⟩

theorem From_ok {m : Mem} {neg : Bool} {s : Value} {a : Nat} (h : Nt m s a) : Pure Tryz.prog 101 #[.bool neg, s] m fun r m' => Ic m' r (sg neg a) := by
  refine enterp Tryz.func101 rfl rfl ?_
  intro K hm0 hks
  refine w_seq ?_
  refine w_region ?_
  refine wl_alloc rfl rfl Tryz.zero49 ?_; intro b4
  refine wl_nil ?_
  refine at_seq ?_
  refine w_seq ?_
  refine w_region ?_
  refine wl_val rfl rfl rfl (x_move rfl) ?_
  refine wl_val rfl rfl rfl (x_move rfl) ?_
  refine wl_callp rfl rfl rfl Tryz.c123 (Normal_ok h) ?_; rintro v1 m1 hm1 hv1
  refine wl_callp rfl rfl rfl Tryz.c104 (signed_ok hv1) ?_; rintro v2 m2 hm2 ⟨neg2, s2, a2, rfl, h2, h3, h4⟩
  obtain ⟨ad2, l2, c2, rfl⟩ := h2.slice
  refine wl_storeAll rfl (by exact Tryz.size49) rfl rfl (by simp [Value.oneCell']) rfl ?_
  refine wl_nil ?_
  refine at_seq ?_
  refine w_ret ?_
  refine at_endp (resA rfl ⟨⟨_, _, _, rfl, rowH0 (.head _), .inr ⟨Tryz.agg49, Tryz.size49, rfl⟩⟩, trivial⟩) ?_
  exact ⟨neg2, _, a2, rfl, h2, h3, h4⟩

theorem Of_ok' {m : Mem} {n : Int} (h1 : -9223372036854775808 ≤ n) (h2 : n ≤ 9223372036854775807) : Pure Tryz.prog 25 #[.int .i64 n] m fun r m' => Ic m' r n := by
  refine enterp Tryz.func25 rfl rfl ?_
  intro K hm0 hks
  refine w_seq ?_
  refine w_region ?_
  refine wl_alloc rfl rfl Tryz.zero49 ?_; intro b2
  refine wl_nil ?_
  refine at_seq ?_
  refine w_seq ?_
  refine w_seq ?_
  refine w_region ?_
  refine wl_val rfl rfl rfl (x_move rfl) ?_
  refine wl_val rfl rfl rfl (x_lss rfl rfl) ?_
  refine wl_nil ?_
  refine at_seq ?_
  refine w_if rfl (fun h3 => ?_) (fun h3 => ?_)
  · skip
    refine w_seq ?_
    refine w_region ?_
    refine wl_val rfl rfl rfl (x_move rfl) ?_
    refine wl_val rfl rfl rfl (x_conv Tryz.underlying2 Tryz.underlying111 rfl (u64m (r := (n + 18446744073709551616).toNat) (by omega))) ?_
    refine wl_val rfl rfl rfl (x_neg rfl (u64m (r := n.natAbs) (by omega))) ?_
    refine wl_callp rfl rfl rfl Tryz.c66 (Of_ok (by omega)) ?_; rintro v1 m1 hm1 hv1
    obtain ⟨ad1, l1, c1, rfl⟩ := hv1.slice
    refine wl_val rfl rfl rfl (x_build (cs := [_, _]) Tryz.underlying49 Tryz.places49 Tryz.zero49 rfl rfl) ?_
    refine wl_storeAll rfl (by exact Tryz.size49) rfl rfl (by simp [Value.oneCell']) rfl ?_
    refine wl_nil ?_
    refine at_seq ?_
    refine w_ret ?_
    refine at_then_ret ?_
    refine at_endp (resA rfl ⟨⟨_, _, _, rfl, rowH0 (.head _), .inr ⟨Tryz.agg49, Tryz.size49, rfl⟩⟩, trivial⟩) ?_
    exact ⟨true, _, _, rfl, hv1, by simp only [sg, if_true]; omega, fun _ => by omega⟩
  · skip
    refine w_skip ?_
    refine at_seq ?_
    refine w_seq ?_
    refine w_region ?_
    refine wl_val rfl rfl rfl (x_move rfl) ?_
    refine wl_val rfl rfl rfl (x_conv Tryz.underlying2 Tryz.underlying111 rfl (u64m (r := n.natAbs) (by omega))) ?_
    refine wl_callp rfl rfl rfl Tryz.c66 (Of_ok (by omega)) ?_; rintro v1 m1 hm1 hv1
    obtain ⟨ad1, l1, c1, rfl⟩ := hv1.slice
    refine wl_val rfl rfl rfl (x_build (cs := [_, _]) Tryz.underlying49 Tryz.places49 Tryz.zero49 rfl rfl) ?_
    refine wl_storeAll rfl (by exact Tryz.size49) rfl rfl (by simp [Value.oneCell']) rfl ?_
    refine wl_nil ?_
    refine at_seq ?_
    refine w_ret ?_
    refine at_endp (resA rfl ⟨⟨_, _, _, rfl, rowH0 (.head _), .inr ⟨Tryz.agg49, Tryz.size49, rfl⟩⟩, trivial⟩) ?_
    exact ⟨false, _, _, rfl, hv1, by simp [sg]; omega, fun e => by simp at e⟩
end Go.Cy

