/- decimal.Parse. -/
import Derived.Test.YtmamkgbldaehgaaGreatDoorCyDecP
import Derived.Test.YtmamkgbldaehgaaGreatDoorCyText
namespace Go.Cy
open Go Go.Proofs
set_option maxRecDepth 20000

def dval (l : List UInt8) : Nat := l.foldl (fun a c => a * 10 + digV c.toNat) 0
theorem dval_from (l : List UInt8) (a : Nat) : l.foldl (fun a c => a * 10 + digV c.toNat) a = a * 10 ^ l.length + dval l := by
  induction l generalizing a with
  | nil => simp [dval]
  | cons c l ih => rw [dval, List.foldl_cons, List.foldl_cons, ih, ih (0 * 10 + _), List.length_cons, Nat.pow_succ, Nat.add_mul, Nat.zero_mul, Nat.zero_add, Nat.mul_assoc, Nat.mul_comm 10]; omega
theorem dval_app (x y : List UInt8) : dval (x ++ y) = dval x * 10 ^ y.length + dval y := by
  rw [dval, List.foldl_append, dval_from]; rfl
theorem dval_one (c : UInt8) : dval [c] = digV c.toNat := by simp [dval]
theorem dval_take {l : List UInt8} {i : Nat} (h : i < l.length) : dval (l.take (i + 1)) = dval (l.take i) * 10 + digV l[i].toNat := by
  rw [List.take_succ_eq_append_getElem h, dval_app, dval_one]; rfl
def okD (l : List UInt8) : Prop := ∀ c ∈ l, digV c.toNat < 10
theorem dval_lt {l : List UInt8} (h : okD l) : dval l < 10 ^ l.length := by
  induction l with
  | nil => simp [dval]
  | cons c l ih =>
    have h1 := h c (List.mem_cons_self ..)
    have h2 := ih fun d hd => h d (List.mem_cons_of_mem _ hd)
    rw [show c :: l = [c] ++ l from rfl, dval_app, dval_one, List.length_append, Nat.pow_add]
    have h3 : digV c.toNat * 10 ^ l.length ≤ 9 * 10 ^ l.length := Nat.mul_le_mul_right _ (by omega)
    simp only [List.length_singleton, Nat.pow_one]
    omega
theorem dlen_dval {l : List UInt8} (h : okD l) : dlen (dval l) ≤ l.length := dlen_le (Nat.lt_of_lt_of_le (dval_lt h) (Nat.pow_le_pow_left (by omega) _))
instance (l : List UInt8) : Decidable (okD l) := by unfold okD; infer_instance
def pInt (L : List UInt8) : Option Int :=
  if (minus L).2 = [] then none
  else if (minus L).2.head? = some 48 ∧ ((minus L).1 = true ∨ 1 < (minus L).2.length) then none
  else if okD (minus L).2 then some (sg (minus L).1 (dval (minus L).2)) else none
theorem minus_len (L : List UInt8) : (minus L).2.length ≤ L.length := by
  cases L with
  | nil => simp [minus]
  | cons c l => rw [minus]; split <;> simp
theorem pInt_le {L : List UInt8} {z : Int} (h : pInt L = some z) : dlen z.natAbs ≤ L.length := by
  unfold pInt at h
  split at h
  · cases h
  split at h
  · cases h
  split at h
  · rename_i h1
    injection h with h
    have e : z.natAbs = dval (minus L).2 := by rw [← h]; unfold sg; split <;> simp
    rw [e]
    exact Nat.le_trans (dlen_dval h1) (minus_len L)
  · cases h
def IntR (m : Mem) (r : Value) (o : Option Int) : Prop := match o with
  | some z => ∃ v, r = .tuple #[v, .int .i64 0] ∧ Ic m v z
  | none => r = .tuple #[.agg #[.bool false, .slice none 0 0], .int .i64 6]

theorem parse_ok {m : Mem} {L : List UInt8} (hl : L.length ≤ 35184372088831) : Pure Tryz.prog 193 #[.string (B L), .int .i64 10] m fun r m' => IntR m' r (pInt L) := by
  obtain ⟨ng, ds, hmn⟩ : ∃ ng ds, minus L = (ng, ds) := ⟨_, _, rfl⟩
  have hdl : ds.length ≤ 35184372088831 := by have := minus_len L; rw [hmn] at this; exact Nat.le_trans this hl
  unfold pInt
  rw [hmn]
  simp only
  refine enterp Tryz.func193 rfl rfl ?_
  intro K hm0 hks
  refine wsr ?_
  refine wl_alloc rfl rfl Tryz.zero49 ?_; intro b4
  refine was ?_
  refine wnr ?_
  refine wmv ?_
  refine wl_callp rfl rfl rfl Tryz.c229 (split_ok (by omega)) ?_; rintro v1 m1 hm1 h1
  obtain rfl : v1 = .tuple #[.bool ng, .string (B ds)] := by rw [h1, hmn]
  refine wmv ?_
  refine wex ?_
  refine wex ?_
  refine was ?_
  refine was ?_
  refine wns ?_
  refine w_seq_mid (fun m' H' env' => m' = m1 ∧ ds ≠ [] ∧ ¬ (ds.head? = some 48 ∧ (ng = true ∨ 1 < ds.length)) ∧ H' = [(b4, cl 49 [.bool false, .slice none 0 0])] ∧ env' = [(1, .int .i64 10), (4, .pointer (some ⟨b4, 0, none⟩)), (6, .bool ng), (7, .string (B ds))]) ?_ ?_
  · skip
    rcases ds with _ | ⟨c, l⟩
    · skip
      refine w_block ?_
      refine wsr ?_
      refine wmv ?_
      refine wv ((x_eqlBs (K := []) rfl rfl).as (bool_t rfl)) ?_
      refine was ?_
      refine wns ?_
      refine w_true rfl ?_
      refine wsr ?_
      refine wv (x_build (cs := [_, _]) Tryz.underlying49 Tryz.places49 Tryz.zero49 rfl rfl) ?_
      refine wl_storeAll rfl (by exact Tryz.size49) rfl rfl (by simp [Value.oneCell']) rfl ?_
      refine was ?_
      refine wns ?_
      refine w_ret ?_
      refine at_block_ret ?_
      refine at_then_ret ?_
      refine at_endp (resAs (vs := [_, _]) rfl rfl ⟨⟨_, _, _, rfl, rowH0 (.head _), .inr ⟨Tryz.agg49, Tryz.size49, rfl⟩⟩, rfl, trivial⟩) ?_
      rfl
    · skip
      rw [if_neg (by simp)]
      have hcl : 0 < (c :: l).length := Nat.succ_pos _
      by_cases h0 : c = 48
      · skip
        rcases ng with _ | _
        · skip
          refine w_block ?_
          refine wsr ?_
          refine wmv ?_
          refine wv ((x_eqlBs (K := []) rfl rfl).as (bool_f (by simp))) ?_
          refine was ?_
          refine wns ?_
          refine w_false rfl ?_
          refine wsr ?_
          refine wmv ?_
          refine wv (x_indexB Tryz.underlying9 rfl rfl (j := 0) (by omega) (by omega)) ?_
          refine wv ((x_eql rfl rfl).as (bool_t ((u8_eq (k := 48) (by omega)).2 h0))) ?_
          refine wmv ?_
          refine wmv ?_
          refine wmv ?_
          refine wmv ?_
          refine wv (x_lenB Tryz.underlying9 rfl rfl) ?_
          refine wv (x_gtr rfl rfl) ?_
          refine wv (x_pick_f rfl rfl) ?_
          refine wv (x_pick_t rfl rfl) ?_
          refine was ?_
          refine wns ?_
          refine w_if rfl (fun h1 => ?_) (fun h1 => ?_)
          · skip
            refine wsr ?_
            refine wv (x_build (cs := [_, _]) Tryz.underlying49 Tryz.places49 Tryz.zero49 rfl rfl) ?_
            refine wl_storeAll rfl (by exact Tryz.size49) rfl rfl (by simp [Value.oneCell']) rfl ?_
            refine was ?_
            refine wns ?_
            refine w_ret ?_
            refine at_block_ret ?_
            refine at_then_ret ?_
            refine at_endp (resAs (vs := [_, _]) rfl rfl ⟨⟨_, _, _, rfl, rowH0 (.head _), .inr ⟨Tryz.agg49, Tryz.size49, rfl⟩⟩, rfl, trivial⟩) ?_
            rw [if_pos ⟨by rw [h0]; rfl, .inr (by omega)⟩]; rfl
          · skip
            refine w_skip ?_
            refine at_block_normal ?_
            exact at_meets [(1, .int .i64 10), (4, .pointer (some ⟨b4, 0, none⟩)), (6, .bool false), (7, .string (B (c :: l)))] ⟨rfl, by simp, (fun h => h.2.elim (fun h => by cases h) fun h => by omega), rfl, rfl⟩ (by repeat' (first | exact trivial | exact rfl | exact lk_int rfl (by omega) | apply And.intro))
        · skip
          refine w_block ?_
          refine wsr ?_
          refine wmv ?_
          refine wv ((x_eqlBs (K := []) rfl rfl).as (bool_f (by simp))) ?_
          refine was ?_
          refine wns ?_
          refine w_false rfl ?_
          refine wsr ?_
          refine wmv ?_
          refine wv (x_indexB Tryz.underlying9 rfl rfl (j := 0) (by omega) (by omega)) ?_
          refine wv ((x_eql rfl rfl).as (bool_t ((u8_eq (k := 48) (by omega)).2 h0))) ?_
          refine wmv ?_
          refine wmv ?_
          refine wmv ?_
          refine wl_off rfl rfl rfl ?_
          refine wl_off rfl rfl rfl ?_
          refine wl_off rfl rfl rfl ?_
          refine wv (x_pick_t rfl rfl) ?_
          refine wv (x_pick_t rfl rfl) ?_
          refine was ?_
          refine wns ?_
          refine w_true rfl ?_
          refine wsr ?_
          refine wv (x_build (cs := [_, _]) Tryz.underlying49 Tryz.places49 Tryz.zero49 rfl rfl) ?_
          refine wl_storeAll rfl (by exact Tryz.size49) rfl rfl (by simp [Value.oneCell']) rfl ?_
          refine was ?_
          refine wns ?_
          refine w_ret ?_
          refine at_block_ret ?_
          refine at_then_ret ?_
          refine at_endp (resAs (vs := [_, _]) rfl rfl ⟨⟨_, _, _, rfl, rowH0 (.head _), .inr ⟨Tryz.agg49, Tryz.size49, rfl⟩⟩, rfl, trivial⟩) ?_
          rw [if_pos ⟨by rw [h0]; rfl, .inl rfl⟩]; rfl
      · skip
        refine w_block ?_
        refine wsr ?_
        refine wmv ?_
        refine wv ((x_eqlBs (K := []) rfl rfl).as (bool_f (by simp))) ?_
        refine was ?_
        refine wns ?_
        refine w_false rfl ?_
        refine wsr ?_
        refine wmv ?_
        refine wv (x_indexB Tryz.underlying9 rfl rfl (j := 0) (by omega) (by omega)) ?_
        refine wv ((x_eql rfl rfl).as (bool_f fun h => h0 ((u8_eq (k := 48) (by omega)).1 h))) ?_
        refine wmv ?_
        refine wl_off rfl rfl rfl ?_
        refine wl_off rfl rfl rfl ?_
        refine wl_off rfl rfl rfl ?_
        refine wl_off rfl rfl rfl ?_
        refine wl_off rfl rfl rfl ?_
        refine wl_off rfl rfl rfl ?_
        refine wv (x_pick_f rfl rfl) ?_
        refine was ?_
        refine wns ?_
        refine w_false rfl ?_
        refine w_skip ?_
        refine at_block_normal ?_
        exact at_meets [(1, .int .i64 10), (4, .pointer (some ⟨b4, 0, none⟩)), (6, .bool ng), (7, .string (B (c :: l)))] ⟨rfl, by simp, by rintro ⟨h, _⟩; exact h0 (by simpa using h), rfl, rfl⟩ (by repeat' (first | exact trivial | exact rfl | exact lk_int rfl (by omega) | apply And.intro))
  · skip
    rintro mm H' env' ⟨rfl, hne, hnz, rfl, rfl⟩
    rw [if_neg hne, if_neg hnz]
    refine w_seq ?_
    refine wsr ?_
    refine was ?_
    refine wns ?_
    refine w_block ?_
    refine w_loop (fun r m' H' env' => ∃ i, r + i = ds.length ∧ mm.le m' ∧ H' = [(b4, cl 49 [.bool false, .slice none 0 0])] ∧ (∀ j (h : j < ds.length), j < i → digV ds[j].toNat < 10) ∧ env' = [(1, .int .i64 10), (4, .pointer (some ⟨b4, 0, none⟩)), (6, .bool ng), (7, .string (B ds)), (8, .int .i64 (i : Nat))]) ds.length [(1, .int .i64 10), (4, .pointer (some ⟨b4, 0, none⟩)), (6, .bool ng), (7, .string (B ds)), (8, .int .i64 (0 : Nat))] ⟨0, by omega, Mem.le.refl _, rfl, fun j _ h => absurd h (by omega), rfl⟩ (by repeat' (first | exact trivial | exact rfl | exact lk_int rfl (by omega) | apply And.intro)) ?_
    rintro r m2 H' env' ⟨i, hri, hm2, rfl, hdig, rfl⟩
    refine w_seq ?_
    refine wsr ?_
    refine wmv ?_
    refine wmv ?_
    refine wv (x_lenB Tryz.underlying9 rfl rfl) ?_
    refine wv (x_lss rfl rfl) ?_
    refine wns ?_
    refine w_if rfl (fun h1 => ?_) (fun h1 => ?_)
    · skip
      have hi : i < ds.length := by omega
      refine w_skip ?_
      refine at_seq ?_
      refine w_seq ?_
      refine w_block ?_
      refine wsr ?_
      refine wmv ?_
      refine wmv ?_
      refine wv (x_indexB Tryz.underlying9 rfl rfl (j := i) (by omega) (by omega)) ?_
      refine wl_callp rfl rfl rfl Tryz.c230 (digit_ok (UInt8.toNat_lt _)) ?_; rintro v3 m3 hm3 rfl
      refine wmv ?_
      refine wv (x_conv Tryz.underlying3 Tryz.underlying51 rfl (wrap_u32_in (by omega) (by omega))) ?_
      refine wv (x_geq rfl rfl) ?_
      refine wns ?_
      refine w_if rfl (fun h2 => ?_) (fun h2 => ?_)
      · skip
        refine wsr ?_
        refine wv (x_build (cs := [_, _]) Tryz.underlying49 Tryz.places49 Tryz.zero49 rfl rfl) ?_
        refine wl_storeAll rfl (by exact Tryz.size49) rfl rfl (by simp [Value.oneCell']) rfl ?_
        refine was ?_
        refine wns ?_
        refine w_ret ?_
        refine at_block_ret ?_
        refine at_then_ret ?_
        refine at_then_ret ?_
        refine at_block_ret ?_
        refine at_then_ret ?_
        refine at_endp (resAs (vs := [_, _]) rfl rfl ⟨⟨_, _, _, rfl, rowH0 (.head _), .inr ⟨Tryz.agg49, Tryz.size49, rfl⟩⟩, rfl, trivial⟩) ?_
        rw [if_neg fun h => by have := h _ (List.getElem_mem hi); omega]; rfl
      · skip
        refine w_skip ?_
        refine at_block_normal ?_
        refine at_seq ?_
        refine w_region ?_
        refine wmv ?_
        refine wv (x_add rfl rfl (wrap_i64 (by omega) (by omega))) ?_
        refine was ?_
        refine wl_nil ?_
        exact at_again (r - 1) [(1, .int .i64 10), (4, .pointer (some ⟨b4, 0, none⟩)), (6, .bool ng), (7, .string (B ds)), (8, .int .i64 (i + 1 : Nat))] (by omega) ⟨i + 1, by omega, hm2.trans hm3, rfl, fun j hj h => by
          by_cases e : j = i
          · subst e; omega
          · exact hdig j hj (by omega), rfl⟩ (by repeat' (first | exact trivial | exact rfl | exact lk_int rfl (by omega) | apply And.intro))
    · skip
      have hok : okD ds := fun c hc => by
        obtain ⟨j, hj, rfl⟩ := List.getElem_of_mem hc
        exact hdig j hj (by omega)
      rw [if_pos hok]
      refine w_exit ?_
      refine at_then_exit ?_
      refine at_then_exit ?_
      refine at_block_hit ?_
      refine at_seq ?_
      refine wsr ?_
      refine wmv ?_
      refine wl_callp rfl rfl rfl Tryz.c210 (chunk_ok) ?_; rintro v3 m3 hm3 rfl
      refine wmv ?_
      refine wex ?_
      refine wex ?_
      refine was ?_
      refine was ?_
      refine wnr ?_
      refine was ?_
      refine wns ?_
      refine w_seq ?_
      refine w_block ?_
      refine w_loop (fun r m' H' env' => ∃ A rest v, r = rest.length ∧ mm.le m' ∧ H' = [(b4, cl 49 [.bool false, .slice none 0 0])] ∧ ds = A ++ rest ∧ Nt m' v (dval A) ∧ env' = [(1, .int .i64 10), (4, .pointer (some ⟨b4, 0, none⟩)), (6, .bool ng), (7, .string (B rest)), (10, .int .i64 9), (11, v)]) ds.length [(1, .int .i64 10), (4, .pointer (some ⟨b4, 0, none⟩)), (6, .bool ng), (7, .string (B ds)), (10, .int .i64 9), (11, .slice none 0 0)] ⟨[], ds, _, rfl, hm2.trans hm3, rfl, rfl, ⟨[], ⟨fun _ h => absurd h List.not_mem_nil, Nat.zero_le _, none, 0, rfl, Nat.le_refl _, fun h => absurd h (Nat.lt_irrefl _)⟩, rfl⟩, rfl⟩ (by repeat' (first | exact trivial | exact rfl | exact lk_int rfl (by omega) | apply And.intro)) ?_
      rintro r m4 H' env' ⟨A, rest, v, rfl, hm4, rfl, rfl, hv, rfl⟩
      rw [List.length_append] at hdl
      have hokA : okD A := fun c hc => hok c (List.mem_append_left _ hc)
      have hokR : okD rest := fun c hc => hok c (List.mem_append_right _ hc)
      refine w_seq ?_
      refine wsr ?_
      refine wmv ?_
      refine wv (x_lenB Tryz.underlying9 rfl rfl) ?_
      refine wv (x_gtr rfl rfl) ?_
      refine wns ?_
      refine w_if rfl (fun h3 => ?_) (fun h3 => ?_)
      · skip
        obtain ⟨n, hn⟩ : ∃ n, n = min 9 rest.length := ⟨_, rfl⟩
        refine w_skip ?_
        refine at_seq ?_
        refine w_block ?_
        refine wsr ?_
        refine wmv ?_
        refine wmv ?_
        refine wv (x_lenB Tryz.underlying9 rfl rfl) ?_
        refine wv (x_minAs (p := 9) (q := rest.length) (r := (n : Nat)) rfl rfl (by split <;> omega)) ?_
        refine was ?_
        refine wnr ?_
        refine was ?_
        refine was ?_
        refine wns ?_
        refine w_seq ?_
        refine wsr ?_
        refine was ?_
        refine wns ?_
        refine w_block ?_
        refine w_loop (fun r m' H' env' => ∃ i, r + i = n ∧ m4.le m' ∧ H' = [(b4, cl 49 [.bool false, .slice none 0 0])] ∧ env' = [(1, .int .i64 10), (4, .pointer (some ⟨b4, 0, none⟩)), (6, .bool ng), (7, .string (B rest)), (10, .int .i64 9), (11, v), (12, .int .i64 (n : Nat)), (13, .int .u32 (10 ^ i : Nat)), (14, .int .u32 (dval (rest.take i) : Nat)), (15, .int .i64 (i : Nat))]) n [(1, .int .i64 10), (4, .pointer (some ⟨b4, 0, none⟩)), (6, .bool ng), (7, .string (B rest)), (10, .int .i64 9), (11, v), (12, .int .i64 (n : Nat)), (13, .int .u32 (10 ^ 0 : Nat)), (14, .int .u32 (dval (rest.take 0) : Nat)), (15, .int .i64 (0 : Nat))] ⟨0, by omega, Mem.le.refl _, rfl, rfl⟩ (by repeat' (first | exact trivial | exact rfl | exact lk_int rfl (by omega) | apply And.intro)) ?_
        rintro r m5 H' env' ⟨i, hri, hm5, rfl, rfl⟩
        have hp10 : 10 ^ i ≤ 10 ^ 9 := Nat.pow_le_pow_right (by omega) (by omega)
        have hdt : dval (rest.take i) < 10 ^ i := by
          have := dval_lt (l := rest.take i) fun c hc => hokR c (List.mem_of_mem_take hc)
          rwa [List.length_take, Nat.min_eq_left (by omega)] at this
        refine w_seq ?_
        refine wsr ?_
        refine wmv ?_
        refine wmv ?_
        refine wv (x_lss rfl rfl) ?_
        refine wns ?_
        refine w_if rfl (fun h4 => ?_) (fun h4 => ?_)
        · skip
          have hi : i < rest.length := by omega
          have hd := hokR _ (List.getElem_mem hi)
          have hp8 : 10 ^ i ≤ 10 ^ 8 := Nat.pow_le_pow_right (by omega) (by omega)
          refine w_skip ?_
          refine at_seq ?_
          refine w_seq ?_
          refine w_block ?_
          refine wsr ?_
          refine wmv ?_
          refine wmv ?_
          refine wv (x_conv Tryz.underlying3 Tryz.underlying51 rfl (wrap_u32_in (by omega) (by omega))) ?_
          refine wv (x_mul rfl rfl (u32n (r := 10 ^ (i + 1)) (by rw [Nat.pow_succ]; simp) (by rw [Nat.pow_succ]; omega))) ?_
          refine was ?_
          refine wns ?_
          refine w_region ?_
          refine wmv ?_
          refine wmv ?_
          refine wv (x_conv Tryz.underlying3 Tryz.underlying51 rfl (wrap_u32_in (by omega) (by omega))) ?_
          refine wv (x_mul rfl rfl (u32n (r := dval (rest.take i) * 10) (by simp) (by omega))) ?_
          refine wmv ?_
          refine wmv ?_
          refine wv (x_indexB Tryz.underlying9 rfl rfl (j := i) (by omega) (by omega)) ?_
          refine wl_callp rfl rfl rfl Tryz.c230 (digit_ok (UInt8.toNat_lt _)) ?_; rintro v6 m6 hm6 rfl
          refine wv (x_add rfl rfl (u32n (r := dval (rest.take (i + 1))) (by rw [dval_take hi]; simp) (by rw [dval_take hi]; omega))) ?_
          refine was ?_
          refine wl_nil ?_
          refine at_block_normal ?_
          refine at_seq ?_
          refine w_region ?_
          refine wmv ?_
          refine wv (x_add rfl rfl (wrap_i64 (by omega) (by omega))) ?_
          refine was ?_
          refine wl_nil ?_
          exact at_again (r - 1) [(1, .int .i64 10), (4, .pointer (some ⟨b4, 0, none⟩)), (6, .bool ng), (7, .string (B rest)), (10, .int .i64 9), (11, v), (12, .int .i64 (n : Nat)), (13, .int .u32 (10 ^ (i + 1) : Nat)), (14, .int .u32 (dval (rest.take (i + 1)) : Nat)), (15, .int .i64 (i + 1 : Nat))] (by omega) ⟨i + 1, by omega, hm5.trans hm6, rfl, rfl⟩ (by repeat' (first | exact trivial | exact rfl | exact lk_int rfl (by omega) | apply And.intro))
        · skip
          obtain rfl : i = n := by omega
          refine w_exit ?_
          refine at_then_exit ?_
          refine at_then_exit ?_
          refine at_block_hit ?_
          refine at_seq ?_
          refine wsr ?_
          refine wmv ?_
          refine wmv ?_
          refine wmv ?_
          refine wl_callp rfl rfl rfl Tryz.c231 (MulAdd_ok (hv.up hm5) (Nat.le_trans (dlen_dval hokA) (by omega)) (by omega) (by omega)) ?_; rintro v6 m6 hm6 hv6
          refine was ?_
          refine wns ?_
          refine w_region ?_
          refine wmv ?_
          refine wmv ?_
          refine wv (x_dropB (lo := i) Tryz.underlying9 rfl rfl (by omega) (by omega)) ?_
          refine was ?_
          refine wl_nil ?_
          refine at_block_normal ?_
          exact at_again (rest.drop i).length [(1, .int .i64 10), (4, .pointer (some ⟨b4, 0, none⟩)), (6, .bool ng), (7, .string (B (rest.drop i))), (10, .int .i64 9), (11, v6)] (by rw [List.length_drop]; omega) ⟨A ++ rest.take i, rest.drop i, v6, rfl, hm4.trans (hm5.trans hm6), rfl, by rw [List.append_assoc, List.take_append_drop], by rw [dval_app, List.length_take, Nat.min_eq_left (by omega)]; exact hv6.nt, rfl⟩ (by repeat' (first | exact trivial | exact rfl | exact lk_int rfl (by omega) | apply And.intro))
      · skip
        obtain rfl : rest = [] := List.length_eq_zero_iff.1 (by omega)
        rw [List.append_nil] at hmn hok
        refine w_exit ?_
        refine at_then_exit ?_
        refine at_then_exit ?_
        refine at_block_hit ?_
        refine at_seq ?_
        refine wsr ?_
        refine wmv ?_
        refine wmv ?_
        refine wl_callp rfl rfl rfl Tryz.c101 (From_ok hv) ?_; rintro v6 m6 hm6 h6
        obtain ⟨n6, d6, l6, c6, rfl⟩ := h6.agg
        refine wl_storeAll rfl (by exact Tryz.size49) rfl rfl (by simp [Value.oneCell']) rfl ?_
        refine was ?_
        refine wns ?_
        refine w_ret ?_
        refine at_endp (resAs (vs := [_, _]) rfl rfl ⟨⟨_, _, _, rfl, rowH0 (.head _), .inr ⟨Tryz.agg49, Tryz.size49, rfl⟩⟩, rfl, trivial⟩) ?_
        rw [List.append_nil]
        exact ⟨_, rfl, h6⟩
theorem DecParse_ok {m : Mem} {L : List UInt8} (hl : L.length ≤ 35184372088831) : Pure Tryz.prog 143 #[.string (B L)] m fun r m' => IntR m' r (pInt L) := by
  refine enterp Tryz.func143 rfl rfl ?_
  intro K hm0 hks
  rcases ho : pInt L with _ | z
  · skip
    refine wsr ?_
    refine wl_alloc rfl rfl Tryz.zero49 ?_; intro b2
    refine was ?_
    refine wnr ?_
    refine wmv ?_
    refine wl_callp rfl rfl rfl Tryz.c193 (parse_ok hl) ?_; rintro v1 m1 hm1 h1
    rw [ho] at h1
    obtain rfl := h1
    refine wex ?_
    refine wex ?_
    refine wl_storeAll rfl (by exact Tryz.size49) rfl rfl (by simp [Value.oneCell']) rfl ?_
    refine was ?_
    refine wns ?_
    refine w_ret ?_
    refine at_endp (resAs (vs := [_, _]) rfl rfl ⟨⟨_, _, _, rfl, rowH0 (.head _), .inr ⟨Tryz.agg49, Tryz.size49, rfl⟩⟩, rfl, trivial⟩) ?_
    rfl
  · skip
    refine wsr ?_
    refine wl_alloc rfl rfl Tryz.zero49 ?_; intro b2
    refine was ?_
    refine wnr ?_
    refine wmv ?_
    refine wl_callp rfl rfl rfl Tryz.c193 (parse_ok hl) ?_; rintro v1 m1 hm1 h1
    rw [ho] at h1
    obtain ⟨u, rfl, h2⟩ := h1
    obtain ⟨n5, d5, l5, c5, rfl⟩ := h2.agg
    refine wex ?_
    refine wex ?_
    refine wl_storeAll rfl (by exact Tryz.size49) rfl rfl (by simp [Value.oneCell']) rfl ?_
    refine was ?_
    refine wns ?_
    refine w_ret ?_
    refine at_endp (resAs (vs := [_, _]) rfl rfl ⟨⟨_, _, _, rfl, rowH0 (.head _), .inr ⟨Tryz.agg49, Tryz.size49, rfl⟩⟩, rfl, trivial⟩) ?_
    exact ⟨_, rfl, h2⟩
end Go.Cy


/- checkpoly.parseTerm. -/
namespace Go.Cy
open Go Go.Proofs
set_option maxRecDepth 20000

def pExp (q : List UInt8) : Option Int := match q with
  | [] => some 1
  | c :: r => if c = 94 then match atoi r with
    | some n => if 0 ≤ n ∧ n ≤ 1073741824 then some n else none
    | none => none
    else none
def pPart (p : List UInt8) : Option (Nat × Int) := match p with
  | a :: d :: q => if a = 120 ∧ 49 ≤ d.toNat ∧ d.toNat ≤ 52 then (pExp q).map fun n => (d.toNat - 49, n) else none
  | _ => none
def pParts : List (List UInt8) → List Int → Option (List Int)
  | [], es => some es
  | p :: ps, es => match pPart p with
    | some (k, n) => pParts ps (es.set k n)
    | none => none
def pTerm (L : List UInt8) : Option Tm := match splB 42 L with
  | p :: ps => match pInt p with
    | some c => (pParts ps [0, 0, 0, 0]).map fun es => (c, es)
    | none => none
  | [] => none
theorem pPart_lt {p : List UInt8} {k : Nat} {n : Int} (h : pPart p = some (k, n)) : k < 4 ∧ 0 ≤ n ∧ n ≤ 1073741824 := by
  unfold pPart at h
  split at h
  · rename_i a d q
    split at h
    · rename_i h1
      rcases hq : pExp q with _ | n'
      · rw [hq] at h; simp at h
      · rw [hq] at h
        simp only [Option.map_some, Option.some.injEq, Prod.mk.injEq] at h
        obtain ⟨h2, rfl⟩ := h
        refine ⟨by omega, ?_⟩
        unfold pExp at hq
        split at hq
        · injection hq with hq; omega
        · split at hq
          · split at hq
            · split at hq
              · injection hq with hq; subst hq; assumption
              · cases hq
            · cases hq
          · cases hq
    · cases h
  · cases h
def TermR (m : Mem) (r : Value) (o : Option Tm) : Prop := match o with
  | some t => ∃ x : TV, r = .tuple #[.agg x.cells.toArray, .bool true] ∧ Tc m x t
  | none => r = .tuple #[.agg tz.cells.toArray, .bool false]
theorem splB_len (c : UInt8) (l : List UInt8) : ∀ p ∈ splB c l, p.length ≤ l.length := by
  induction l with
  | nil => intro p hp; simp [splB] at hp; simp [hp]
  | cons b l ih =>
    intro p hp
    rw [splB] at hp
    split at hp
    · rcases List.mem_cons.1 hp with rfl | hp
      · simp
      · exact Nat.le_trans (ih p hp) (by simp)
    · split at hp
      · rename_i x xs h
        rcases List.mem_cons.1 hp with rfl | hp
        · have := ih x (by rw [h]; simp)
          simp; omega
        · exact Nat.le_trans (ih p (by rw [h]; exact List.mem_cons_of_mem _ hp)) (by simp)
      · simp at hp; rw [hp]; simp
theorem splB_count (c : UInt8) (l : List UInt8) : (splB c l).length ≤ l.length + 1 := by
  induction l with
  | nil => simp [splB]
  | cons b l ih =>
    rw [splB]
    split
    · simp; exact ih
    · split
      · rename_i x xs h
        rw [h] at ih
        simp at ih ⊢; omega
      · simp
theorem es_set {h : List Value} {es : List Int} {k o : Nat} {n : Int} (hh : h.length = 2) (ho : o = 2 + k) : (h ++ es.map (Value.int .i64)).set o (.int .i64 n) = h ++ (es.set k n).map (Value.int .i64) := by
  rw [ho, ← hh, List.set_append_right _ _ (by omega), show h.length + k - h.length = k by omega, List.map_set]
theorem list4 {es : List Int} (h : es.length = 4) : ∃ a b c d, es = [a, b, c, d] := by
  match es, h with
  | [a, b, c, d], _ => exact ⟨a, b, c, d, rfl⟩
theorem parseTerm_ok {m : Mem} {L : List UInt8} (hw : Wd m) (hE : Er m) (hl : L.length ≤ 2147483647) : Pure Tryz.prog 185 #[.string (B L)] m fun r m' => TermR m' r (pTerm L) := by
  have hpl := splB_len 42 L
  have hpc := splB_count 42 L
  unfold pTerm
  rcases hsp : splB 42 L with _ | ⟨p, ps⟩
  · exact absurd hsp (splB_ne _ _)
  rw [hsp] at hpl hpc
  simp only
  refine enterp Tryz.func185 rfl rfl ?_
  intro K hm0 hks
  have hcl : 0 < (p :: ps).length := Nat.succ_pos _
  have hp0 := hpl p (List.mem_cons_self ..)
  have hpc2 : ps.length ≤ L.length := by simpa using hpc
  rcases hpi : pInt p with _ | c
  · skip
    refine wsr ?_
    refine wl_alloc rfl rfl Tryz.zero72 ?_; intro b2
    refine was ?_
    refine wnr ?_
    refine wmv ?_
    refine wl_callp rfl rfl rfl Tryz.c182 (Split_ok (c := 42) hw (by omega)) ?_; rintro v1 m1 hm1 ⟨b1, rfl, hr1⟩
    rw [hsp] at hr1 ⊢
    refine was ?_
    refine wnr ?_
    refine wmv ?_
    refine wv (x_index Tryz.underlying129 Tryz.size9 rfl rfl (j := 0) (by omega) (by omega)) ?_
    refine wv (x_load Tryz.plain9 rfl ((hr1.heap.nth 0 rfl rfl))) ?_
    refine wl_callp rfl rfl rfl Tryz.c143 (DecParse_ok (L := p) (by omega)) ?_; rintro v2 m2 hm2 h2
    rw [hpi] at h2
    obtain rfl := h2
    refine wmv ?_
    refine wex ?_
    refine wex ?_
    refine wl_alloc rfl rfl Tryz.zero49 ?_; intro b5
    refine wl_storeAll rfl (by exact Tryz.size49) rfl rfl (by simp [Value.oneCell']) rfl ?_
    refine was ?_
    refine wns ?_
    refine w_seq ?_
    refine wsr ?_
    refine wmv ?_
    refine wv ((x_neq rfl rfl).as (bool_t (by decide))) ?_
    refine wns ?_
    refine w_true rfl ?_
    refine wsr ?_
    refine wv (x_build (cs := [_, _, _, _, _, _]) Tryz.underlying72 Tryz.places72 Tryz.zero72 rfl rfl) ?_
    refine wl_front1 ?_
    refine wl_storeAll rfl (by exact Tryz.size72) rfl rfl (by simp [Value.oneCell']) rfl ?_
    refine was ?_
    refine wns ?_
    refine w_ret ?_
    refine at_then_ret ?_
    refine at_endp (resAs (vs := [_, _]) rfl rfl ⟨⟨_, _, _, rfl, rowH0 (.head _), .inr ⟨Tryz.agg72, Tryz.size72, rfl⟩⟩, rfl, trivial⟩) ?_
    rfl
  · skip
    refine wsr ?_
    refine wl_alloc rfl rfl Tryz.zero72 ?_; intro b2
    refine was ?_
    refine wnr ?_
    refine wmv ?_
    refine wl_callp rfl rfl rfl Tryz.c182 (Split_ok (c := 42) hw (by omega)) ?_; rintro v1 m1 hm1 ⟨b1, rfl, hr1⟩
    rw [hsp] at hr1 ⊢
    refine was ?_
    refine wnr ?_
    refine wmv ?_
    refine wv (x_index Tryz.underlying129 Tryz.size9 rfl rfl (j := 0) (by omega) (by omega)) ?_
    refine wv (x_load Tryz.plain9 rfl ((hr1.heap.nth 0 rfl rfl))) ?_
    refine wl_callp rfl rfl rfl Tryz.c143 (DecParse_ok (L := p) (by omega)) ?_; rintro v2 m2 hm2 h2
    rw [hpi] at h2
    obtain ⟨u, rfl, h3⟩ := h2
    obtain ⟨n5, d5, l5, c5, rfl⟩ := h3.agg
    refine wmv ?_
    refine wex ?_
    refine wex ?_
    refine wl_alloc rfl rfl Tryz.zero49 ?_; intro b5
    refine wl_storeAll rfl (by exact Tryz.size49) rfl rfl (by simp [Value.oneCell']) rfl ?_
    refine was ?_
    refine wns ?_
    refine w_seq ?_
    refine wsr ?_
    refine wmv ?_
    refine wv ((x_neq rfl rfl).as (bool_f (by decide))) ?_
    refine wns ?_
    refine w_false rfl ?_
    refine w_skip ?_
    refine at_seq ?_
    refine wsr ?_
    refine wv (x_loads Tryz.agg49 (by exact Tryz.size49) rfl (rowH0 (.head _))) ?_
    refine wv (x_build (cs := [_, _, _, _, _, _]) Tryz.underlying72 Tryz.places72 Tryz.zero72 rfl rfl) ?_
    refine wl_alloc rfl rfl Tryz.zero72 ?_; intro b7
    refine wl_storeAll rfl (by exact Tryz.size72) rfl rfl (by simp [Value.oneCell']) rfl ?_
    refine wns ?_
    refine w_seq ?_
    refine wsr ?_
    refine wmv ?_
    refine wv (x_slice (lo := 1) (hi := (p :: ps).length) Tryz.underlying129 Tryz.size9 rfl (⟨_, by first | rfl | exact lk_int rfl (by omega)⟩) (rfl) (by omega) (by omega)) ?_
    refine wv (x_len Tryz.underlying129 rfl rfl) ?_
    refine wmv ?_
    refine wns ?_
    refine w_block ?_
    obtain ⟨ad, had⟩ : ∃ ad, ad = offTo (some ⟨b1, 0, none⟩) 1 1 (p :: ps).length := ⟨_, rfl⟩
    rw [← had]
    have hm12 := hm1.trans hm2
    refine w_loop (fun r m' H' env' => ∃ i es dn rs, m2.le m' ∧ ps = dn ++ rs ∧ i = dn.length ∧ rs.length = r ∧ es.length = 4 ∧ pParts rs es = pParts ps [0, 0, 0, 0] ∧ H' = [(b7, cl 72 ([.bool n5, .slice d5 l5 c5] ++ (es).map (Value.int .i64))), (b5, cl 49 [.bool n5, .slice d5 l5 c5]), (b2, cl 72 tz.cells)] ∧ env' = [(2, .pointer (some ⟨b2, 0, none⟩)), (7, .pointer (some ⟨b7, 0, none⟩)), (27, .slice ad ps.length ps.length), (28, .int .i64 ps.length), (29, .int .i64 (i : Nat))]) ps.length [(2, .pointer (some ⟨b2, 0, none⟩)), (7, .pointer (some ⟨b7, 0, none⟩)), (27, .slice ad ps.length ps.length), (28, .int .i64 ps.length), (29, .int .i64 (0 : Nat))] ⟨0, [0, 0, 0, 0], [], ps, Mem.le.refl _, rfl, rfl, rfl, rfl, rfl, rfl, rfl⟩ (by repeat' (first | exact trivial | exact rfl | exact lk_int rfl (by omega) | apply And.intro)) ?_
    rintro r m3 H' env' ⟨i, es, dn, rs, hm3, hps, hi, rfl, hes, hpp, rfl, rfl⟩
    have hpsl : ps.length = dn.length + rs.length := by rw [hps, List.length_append]
    refine wsr ?_
    refine wv (x_lss rfl rfl) ?_
    refine wns ?_
    refine w_seq ?_
    refine w_if rfl (fun h1 => ?_) (fun h1 => ?_)
    · skip
      rcases rs with _ | ⟨q, rs⟩
      · simp at hpsl; omega
      rw [List.length_cons] at hpsl
      have hql := hpl q (by rw [hps]; simp)
      have hadq : ad = some ⟨b1, 1, none⟩ := by rw [had, offTo_lt (by simp only [List.length_cons]; omega)]
      have hrow : Row m3 ([(b7, cl 72 ([.bool n5, .slice d5 l5 c5] ++ (es).map (Value.int .i64))), (b5, cl 49 [.bool n5, .slice d5 l5 c5]), (b2, cl 72 tz.cells)]) b1 (1 + i * 1) [.string (B q)] := (hr1.up (hm2.trans hm3)).heap.nth (1 + i) (by rw [hps, hi, Nat.add_comm]; simp) (by omega)
      have hQ : pParts (q :: rs) es = match pPart q with
        | some (k, n) => pParts rs (es.set k n)
        | none => none := rfl
      rw [hpp] at hQ
      rw [hadq]
      rcases q with _ | ⟨a, q⟩
      · skip
        refine w_skip ?_
        refine at_seq ?_
        refine w_seq ?_
        refine w_block ?_
        refine wsr ?_
        refine wv (x_index Tryz.underlying129 Tryz.size9 rfl rfl (j := i) (by omega) (by omega)) ?_
        refine wv (x_load Tryz.plain9 rfl (hrow)) ?_
        refine was ?_
        refine wns ?_
        refine w_seq ?_
        refine wsr ?_
        refine wmv ?_
        refine wv (x_lenB Tryz.underlying9 rfl rfl) ?_
        refine wv ((x_lss rfl rfl).as (bool_t (by simp))) ?_
        refine wmv ?_
        refine wl_off rfl rfl rfl ?_
        refine wl_off rfl rfl rfl ?_
        refine wl_off rfl rfl rfl ?_
        refine wv (x_pick_t rfl rfl) ?_
        refine wmv ?_
        refine wl_off rfl rfl rfl ?_
        refine wl_off rfl rfl rfl ?_
        refine wl_off rfl rfl rfl ?_
        refine wv (x_pick_t rfl rfl) ?_
        refine wmv ?_
        refine wl_off rfl rfl rfl ?_
        refine wl_off rfl rfl rfl ?_
        refine wl_off rfl rfl rfl ?_
        refine wv (x_pick_t rfl rfl) ?_
        refine wns ?_
        refine w_true rfl ?_
        refine wsr ?_
        refine wv (x_build (cs := [_, _, _, _, _, _]) Tryz.underlying72 Tryz.places72 Tryz.zero72 rfl rfl) ?_
        refine wl_front2 ?_
        refine wl_storeAll rfl (by exact Tryz.size72) rfl rfl (by simp [Value.oneCell']) rfl ?_
        refine was ?_
        refine wns ?_
        refine w_ret ?_
        refine at_then_ret ?_
        refine at_block_ret ?_
        refine at_then_ret ?_
        refine at_then_ret ?_
        refine at_block_ret ?_
        refine at_then_ret ?_
        refine at_endp (resAs (vs := [_, _]) rfl rfl ⟨⟨_, _, _, rfl, rowH0 (.head _), .inr ⟨Tryz.agg72, Tryz.size72, rfl⟩⟩, rfl, trivial⟩) ?_
        have hN : pPart [] = none := rfl
        rw [hN] at hQ
        rw [hQ]; rfl
      · skip
        rcases q with _ | ⟨d, q⟩
        · skip
          refine w_skip ?_
          refine at_seq ?_
          refine w_seq ?_
          refine w_block ?_
          refine wsr ?_
          refine wv (x_index Tryz.underlying129 Tryz.size9 rfl rfl (j := i) (by omega) (by omega)) ?_
          refine wv (x_load Tryz.plain9 rfl (hrow)) ?_
          refine was ?_
          refine wns ?_
          refine w_seq ?_
          refine wsr ?_
          refine wmv ?_
          refine wv (x_lenB Tryz.underlying9 rfl rfl) ?_
          refine wv ((x_lss rfl rfl).as (bool_t (by simp))) ?_
          refine wmv ?_
          refine wl_off rfl rfl rfl ?_
          refine wl_off rfl rfl rfl ?_
          refine wl_off rfl rfl rfl ?_
          refine wv (x_pick_t rfl rfl) ?_
          refine wmv ?_
          refine wl_off rfl rfl rfl ?_
          refine wl_off rfl rfl rfl ?_
          refine wl_off rfl rfl rfl ?_
          refine wv (x_pick_t rfl rfl) ?_
          refine wmv ?_
          refine wl_off rfl rfl rfl ?_
          refine wl_off rfl rfl rfl ?_
          refine wl_off rfl rfl rfl ?_
          refine wv (x_pick_t rfl rfl) ?_
          refine wns ?_
          refine w_true rfl ?_
          refine wsr ?_
          refine wv (x_build (cs := [_, _, _, _, _, _]) Tryz.underlying72 Tryz.places72 Tryz.zero72 rfl rfl) ?_
          refine wl_front2 ?_
          refine wl_storeAll rfl (by exact Tryz.size72) rfl rfl (by simp [Value.oneCell']) rfl ?_
          refine was ?_
          refine wns ?_
          refine w_ret ?_
          refine at_then_ret ?_
          refine at_block_ret ?_
          refine at_then_ret ?_
          refine at_then_ret ?_
          refine at_block_ret ?_
          refine at_then_ret ?_
          refine at_endp (resAs (vs := [_, _]) rfl rfl ⟨⟨_, _, _, rfl, rowH0 (.head _), .inr ⟨Tryz.agg72, Tryz.size72, rfl⟩⟩, rfl, trivial⟩) ?_
          have hN : pPart [a] = none := rfl
          rw [hN] at hQ
          rw [hQ]; rfl
        · skip
          have hq2 : 2 ≤ (a :: d :: q).length := by simp
          have hdl := UInt8.toNat_lt d
          by_cases ha : a = 120
          · skip
            by_cases hd1 : d.toNat < 49
            · skip
              refine w_skip ?_
              refine at_seq ?_
              refine w_seq ?_
              refine w_block ?_
              refine wsr ?_
              refine wv (x_index Tryz.underlying129 Tryz.size9 rfl rfl (j := i) (by omega) (by omega)) ?_
              refine wv (x_load Tryz.plain9 rfl (hrow)) ?_
              refine was ?_
              refine wns ?_
              refine w_seq ?_
              refine wsr ?_
              refine wmv ?_
              refine wv (x_lenB Tryz.underlying9 rfl rfl) ?_
              refine wv ((x_lss rfl rfl).as (bool_f (by omega))) ?_
              refine wmv ?_
              refine wmv ?_
              refine wv (x_indexB Tryz.underlying9 rfl rfl (j := 0) (by omega) (by omega)) ?_
              refine wv ((x_neq rfl rfl).as (bool_f (fun h => h ((u8_eq (k := 120) (by omega)).2 ha)))) ?_
              refine wv (x_pick_f rfl rfl) ?_
              refine wmv ?_
              refine wmv ?_
              refine wv (x_indexB Tryz.underlying9 rfl rfl (j := 1) (by omega) (by omega)) ?_
              refine wv ((x_lss rfl rfl).as (bool_t (by show ((d.toNat : Int) < 49); omega))) ?_
              refine wv (x_pick_f rfl rfl) ?_
              refine wmv ?_
              refine wl_off rfl rfl rfl ?_
              refine wl_off rfl rfl rfl ?_
              refine wl_off rfl rfl rfl ?_
              refine wv (x_pick_t rfl rfl) ?_
              refine wns ?_
              refine w_true rfl ?_
              refine wsr ?_
              refine wv (x_build (cs := [_, _, _, _, _, _]) Tryz.underlying72 Tryz.places72 Tryz.zero72 rfl rfl) ?_
              refine wl_front2 ?_
              refine wl_storeAll rfl (by exact Tryz.size72) rfl rfl (by simp [Value.oneCell']) rfl ?_
              refine was ?_
              refine wns ?_
              refine w_ret ?_
              refine at_then_ret ?_
              refine at_block_ret ?_
              refine at_then_ret ?_
              refine at_then_ret ?_
              refine at_block_ret ?_
              refine at_then_ret ?_
              refine at_endp (resAs (vs := [_, _]) rfl rfl ⟨⟨_, _, _, rfl, rowH0 (.head _), .inr ⟨Tryz.agg72, Tryz.size72, rfl⟩⟩, rfl, trivial⟩) ?_
              have hN : pPart (a :: d :: q) = none := by rw [pPart, if_neg (by omega)]
              rw [hN] at hQ
              rw [hQ]; rfl
            · skip
              by_cases hd2 : 52 < d.toNat
              · skip
                refine w_skip ?_
                refine at_seq ?_
                refine w_seq ?_
                refine w_block ?_
                refine wsr ?_
                refine wv (x_index Tryz.underlying129 Tryz.size9 rfl rfl (j := i) (by omega) (by omega)) ?_
                refine wv (x_load Tryz.plain9 rfl (hrow)) ?_
                refine was ?_
                refine wns ?_
                refine w_seq ?_
                refine wsr ?_
                refine wmv ?_
                refine wv (x_lenB Tryz.underlying9 rfl rfl) ?_
                refine wv ((x_lss rfl rfl).as (bool_f (by omega))) ?_
                refine wmv ?_
                refine wmv ?_
                refine wv (x_indexB Tryz.underlying9 rfl rfl (j := 0) (by omega) (by omega)) ?_
                refine wv ((x_neq rfl rfl).as (bool_f (fun h => h ((u8_eq (k := 120) (by omega)).2 ha)))) ?_
                refine wv (x_pick_f rfl rfl) ?_
                refine wmv ?_
                refine wmv ?_
                refine wv (x_indexB Tryz.underlying9 rfl rfl (j := 1) (by omega) (by omega)) ?_
                refine wv ((x_lss rfl rfl).as (bool_f (by show ¬ ((d.toNat : Int) < 49); omega))) ?_
                refine wv (x_pick_f rfl rfl) ?_
                refine wmv ?_
                refine wmv ?_
                refine wv (x_indexB Tryz.underlying9 rfl rfl (j := 1) (by omega) (by omega)) ?_
                refine wv ((x_gtr rfl rfl).as (bool_t (by show (52 < (d.toNat : Int)); omega))) ?_
                refine wv (x_pick_f rfl rfl) ?_
                refine wns ?_
                refine w_true rfl ?_
                refine wsr ?_
                refine wv (x_build (cs := [_, _, _, _, _, _]) Tryz.underlying72 Tryz.places72 Tryz.zero72 rfl rfl) ?_
                refine wl_front2 ?_
                refine wl_storeAll rfl (by exact Tryz.size72) rfl rfl (by simp [Value.oneCell']) rfl ?_
                refine was ?_
                refine wns ?_
                refine w_ret ?_
                refine at_then_ret ?_
                refine at_block_ret ?_
                refine at_then_ret ?_
                refine at_then_ret ?_
                refine at_block_ret ?_
                refine at_then_ret ?_
                refine at_endp (resAs (vs := [_, _]) rfl rfl ⟨⟨_, _, _, rfl, rowH0 (.head _), .inr ⟨Tryz.agg72, Tryz.size72, rfl⟩⟩, rfl, trivial⟩) ?_
                have hN : pPart (a :: d :: q) = none := by rw [pPart, if_neg (by omega)]
                rw [hN] at hQ
                rw [hQ]; rfl
              · skip
                have hd3 : a = 120 ∧ 49 ≤ d.toNat ∧ d.toNat ≤ 52 := ⟨ha, by omega, by omega⟩
                rcases q with _ | ⟨z, q⟩
                · skip
                  refine w_skip ?_
                  refine at_seq ?_
                  refine w_seq ?_
                  refine w_block ?_
                  refine wsr ?_
                  refine wv (x_index Tryz.underlying129 Tryz.size9 rfl rfl (j := i) (by omega) (by omega)) ?_
                  refine wv (x_load Tryz.plain9 rfl (hrow)) ?_
                  refine was ?_
                  refine wns ?_
                  refine w_seq ?_
                  refine wsr ?_
                  refine wmv ?_
                  refine wv (x_lenB Tryz.underlying9 rfl rfl) ?_
                  refine wv ((x_lss rfl rfl).as (bool_f (by omega))) ?_
                  refine wmv ?_
                  refine wmv ?_
                  refine wv (x_indexB Tryz.underlying9 rfl rfl (j := 0) (by omega) (by omega)) ?_
                  refine wv ((x_neq rfl rfl).as (bool_f (fun h => h ((u8_eq (k := 120) (by omega)).2 ha)))) ?_
                  refine wv (x_pick_f rfl rfl) ?_
                  refine wmv ?_
                  refine wmv ?_
                  refine wv (x_indexB Tryz.underlying9 rfl rfl (j := 1) (by omega) (by omega)) ?_
                  refine wv ((x_lss rfl rfl).as (bool_f (by show ¬ ((d.toNat : Int) < 49); omega))) ?_
                  refine wv (x_pick_f rfl rfl) ?_
                  refine wmv ?_
                  refine wmv ?_
                  refine wv (x_indexB Tryz.underlying9 rfl rfl (j := 1) (by omega) (by omega)) ?_
                  refine wv ((x_gtr rfl rfl).as (bool_f (by show ¬ (52 < (d.toNat : Int)); omega))) ?_
                  refine wv (x_pick_f rfl rfl) ?_
                  refine wns ?_
                  refine w_false rfl ?_
                  refine w_skip ?_
                  refine at_seq ?_
                  refine wsr ?_
                  refine was ?_
                  refine wns ?_
                  refine w_seq ?_
                  refine wsr ?_
                  refine wmv ?_
                  refine wv (x_lenB Tryz.underlying9 rfl rfl) ?_
                  refine wv ((x_gtr rfl rfl).as (bool_f (by simp))) ?_
                  refine wns ?_
                  refine w_false rfl ?_
                  refine w_skip ?_
                  refine at_seq ?_
                  refine w_region ?_
                  refine wmv ?_
                  refine wv (x_indexB Tryz.underlying9 rfl rfl (j := 1) (by omega) (by omega)) ?_
                  refine wv (x_sub rfl rfl (u8n (r := d.toNat - 49) (by show (d.toNat : Int) - 49 = _; omega) (by omega))) ?_
                  refine wmv ?_
                  refine wv (x_fieldAddr Tryz.underlying72 rfl Tryz.size70 rfl) ?_
                  refine wv (x_indexA Tryz.underlying70 Tryz.size3 rfl rfl (j := (d.toNat - 49)) (by omega) (by omega)) ?_
                  refine wl_storeAs (xs' := [.bool n5, .slice d5 l5 c5] ++ (es.set (d.toNat - 49) 1).map (Value.int .i64)) rfl Tryz.size3 rfl rfl rfl (by rw [List.length_append, List.length_map, hes]; show 0 + 2 + (d.toNat - 49) * 1 < 2 + 4; omega) (es_set rfl (by show 0 + 2 + (d.toNat - 49) * 1 = _; omega)) ?_
                  refine wl_nil ?_
                  refine at_block_normal ?_
                  refine at_seq ?_
                  refine w_region ?_
                  refine wv (x_add rfl rfl (wrap_i64 (by omega) (by omega))) ?_
                  refine wmv ?_
                  refine wl_nil ?_
                  have hS : pPart [a, d] = some (d.toNat - 49, 1) := by rw [pPart, if_pos hd3]; rfl
                  rw [hS] at hQ
                  exact at_again rs.length [(2, .pointer (some ⟨b2, 0, none⟩)), (7, .pointer (some ⟨b7, 0, none⟩)), (27, .slice (some ⟨b1, 1, none⟩) ps.length ps.length), (28, .int .i64 ps.length), (29, .int .i64 ((i + 1) : Nat))] (by simp) ⟨i + 1, es.set (d.toNat - 49) 1, dn ++ [[a, d]], rs, hm3, by rw [hps]; simp, by rw [hi]; simp, rfl, by simpa using hes, hQ.symm, rfl, rfl⟩ (by repeat' (first | exact trivial | exact rfl | exact lk_int rfl (by omega) | apply And.intro))
                · skip
                  have hq3 : 3 ≤ (a :: d :: z :: q).length := by simp
                  by_cases hz : z = 94
                  · skip
                    have hqq : q.length ≤ L.length := by simp at hql; omega
                    rcases hat : atoi q with _ | n
                    · skip
                      refine w_skip ?_
                      refine at_seq ?_
                      refine w_seq ?_
                      refine w_block ?_
                      refine wsr ?_
                      refine wv (x_index Tryz.underlying129 Tryz.size9 rfl rfl (j := i) (by omega) (by omega)) ?_
                      refine wv (x_load Tryz.plain9 rfl (hrow)) ?_
                      refine was ?_
                      refine wns ?_
                      refine w_seq ?_
                      refine wsr ?_
                      refine wmv ?_
                      refine wv (x_lenB Tryz.underlying9 rfl rfl) ?_
                      refine wv ((x_lss rfl rfl).as (bool_f (by omega))) ?_
                      refine wmv ?_
                      refine wmv ?_
                      refine wv (x_indexB Tryz.underlying9 rfl rfl (j := 0) (by omega) (by omega)) ?_
                      refine wv ((x_neq rfl rfl).as (bool_f (fun h => h ((u8_eq (k := 120) (by omega)).2 ha)))) ?_
                      refine wv (x_pick_f rfl rfl) ?_
                      refine wmv ?_
                      refine wmv ?_
                      refine wv (x_indexB Tryz.underlying9 rfl rfl (j := 1) (by omega) (by omega)) ?_
                      refine wv ((x_lss rfl rfl).as (bool_f (by show ¬ ((d.toNat : Int) < 49); omega))) ?_
                      refine wv (x_pick_f rfl rfl) ?_
                      refine wmv ?_
                      refine wmv ?_
                      refine wv (x_indexB Tryz.underlying9 rfl rfl (j := 1) (by omega) (by omega)) ?_
                      refine wv ((x_gtr rfl rfl).as (bool_f (by show ¬ (52 < (d.toNat : Int)); omega))) ?_
                      refine wv (x_pick_f rfl rfl) ?_
                      refine wns ?_
                      refine w_false rfl ?_
                      refine w_skip ?_
                      refine at_seq ?_
                      refine wsr ?_
                      refine was ?_
                      refine wns ?_
                      refine w_seq ?_
                      refine wsr ?_
                      refine wmv ?_
                      refine wv (x_lenB Tryz.underlying9 rfl rfl) ?_
                      refine wv ((x_gtr rfl rfl).as (bool_t (by omega))) ?_
                      refine wns ?_
                      refine w_true rfl ?_
                      refine w_seq ?_
                      refine wsr ?_
                      refine wmv ?_
                      refine wv (x_indexB Tryz.underlying9 rfl rfl (j := 2) (by omega) (by omega)) ?_
                      refine wv ((x_neq rfl rfl).as (bool_f (fun h => h ((u8_eq (k := 94) (by omega)).2 hz)))) ?_
                      refine wns ?_
                      refine w_false rfl ?_
                      refine w_skip ?_
                      refine at_seq ?_
                      refine wsr ?_
                      refine was ?_
                      refine wnr ?_
                      refine wmv ?_
                      refine wv (x_dropB (lo := 3) Tryz.underlying9 rfl rfl (by omega) (by omega)) ?_
                      refine wl_callp rfl rfl rfl Tryz.c133 (Atoi_ok (L := q) (hE.up (hm12.trans hm3)) (by omega)) ?_; rintro v4 m4 hm4 h4
                      rw [hat] at h4
                      obtain ⟨n4, b4, rfl⟩ := h4
                      refine wmv ?_
                      refine wex ?_
                      refine wex ?_
                      refine was ?_
                      refine was ?_
                      refine wnr ?_
                      refine wmv ?_
                      refine wv ((x_neqNil Tryz.underlying183 rfl rfl)) ?_
                      refine wmv ?_
                      refine wl_off rfl rfl rfl ?_
                      refine wl_off rfl rfl rfl ?_
                      refine wv (x_pick_t rfl rfl) ?_
                      refine wmv ?_
                      refine wl_off rfl rfl rfl ?_
                      refine wl_off rfl rfl rfl ?_
                      refine wv (x_pick_t rfl rfl) ?_
                      refine wns ?_
                      refine w_true rfl ?_
                      refine wsr ?_
                      refine wv (x_build (cs := [_, _, _, _, _, _]) Tryz.underlying72 Tryz.places72 Tryz.zero72 rfl rfl) ?_
                      refine wl_front2 ?_
                      refine wl_storeAll rfl (by exact Tryz.size72) rfl rfl (by simp [Value.oneCell']) rfl ?_
                      refine was ?_
                      refine wns ?_
                      refine w_ret ?_
                      refine at_then_ret ?_
                      refine at_block_ret ?_
                      refine at_then_ret ?_
                      refine at_then_ret ?_
                      refine at_block_ret ?_
                      refine at_then_ret ?_
                      refine at_endp (resAs (vs := [_, _]) rfl rfl ⟨⟨_, _, _, rfl, rowH0 (.head _), .inr ⟨Tryz.agg72, Tryz.size72, rfl⟩⟩, rfl, trivial⟩) ?_
                      have hN : pPart (a :: d :: z :: q) = none := by rw [pPart, if_pos hd3, pExp, if_pos hz, hat]; rfl
                      rw [hN] at hQ
                      rw [hQ]; rfl
                    · skip
                      by_cases hn1 : n < 0
                      · skip
                        refine w_skip ?_
                        refine at_seq ?_
                        refine w_seq ?_
                        refine w_block ?_
                        refine wsr ?_
                        refine wv (x_index Tryz.underlying129 Tryz.size9 rfl rfl (j := i) (by omega) (by omega)) ?_
                        refine wv (x_load Tryz.plain9 rfl (hrow)) ?_
                        refine was ?_
                        refine wns ?_
                        refine w_seq ?_
                        refine wsr ?_
                        refine wmv ?_
                        refine wv (x_lenB Tryz.underlying9 rfl rfl) ?_
                        refine wv ((x_lss rfl rfl).as (bool_f (by omega))) ?_
                        refine wmv ?_
                        refine wmv ?_
                        refine wv (x_indexB Tryz.underlying9 rfl rfl (j := 0) (by omega) (by omega)) ?_
                        refine wv ((x_neq rfl rfl).as (bool_f (fun h => h ((u8_eq (k := 120) (by omega)).2 ha)))) ?_
                        refine wv (x_pick_f rfl rfl) ?_
                        refine wmv ?_
                        refine wmv ?_
                        refine wv (x_indexB Tryz.underlying9 rfl rfl (j := 1) (by omega) (by omega)) ?_
                        refine wv ((x_lss rfl rfl).as (bool_f (by show ¬ ((d.toNat : Int) < 49); omega))) ?_
                        refine wv (x_pick_f rfl rfl) ?_
                        refine wmv ?_
                        refine wmv ?_
                        refine wv (x_indexB Tryz.underlying9 rfl rfl (j := 1) (by omega) (by omega)) ?_
                        refine wv ((x_gtr rfl rfl).as (bool_f (by show ¬ (52 < (d.toNat : Int)); omega))) ?_
                        refine wv (x_pick_f rfl rfl) ?_
                        refine wns ?_
                        refine w_false rfl ?_
                        refine w_skip ?_
                        refine at_seq ?_
                        refine wsr ?_
                        refine was ?_
                        refine wns ?_
                        refine w_seq ?_
                        refine wsr ?_
                        refine wmv ?_
                        refine wv (x_lenB Tryz.underlying9 rfl rfl) ?_
                        refine wv ((x_gtr rfl rfl).as (bool_t (by omega))) ?_
                        refine wns ?_
                        refine w_true rfl ?_
                        refine w_seq ?_
                        refine wsr ?_
                        refine wmv ?_
                        refine wv (x_indexB Tryz.underlying9 rfl rfl (j := 2) (by omega) (by omega)) ?_
                        refine wv ((x_neq rfl rfl).as (bool_f (fun h => h ((u8_eq (k := 94) (by omega)).2 hz)))) ?_
                        refine wns ?_
                        refine w_false rfl ?_
                        refine w_skip ?_
                        refine at_seq ?_
                        refine wsr ?_
                        refine was ?_
                        refine wnr ?_
                        refine wmv ?_
                        refine wv (x_dropB (lo := 3) Tryz.underlying9 rfl rfl (by omega) (by omega)) ?_
                        refine wl_callp rfl rfl rfl Tryz.c133 (Atoi_ok (L := q) (hE.up (hm12.trans hm3)) (by omega)) ?_; rintro v4 m4 hm4 h4
                        rw [hat] at h4
                        obtain rfl := h4
                        refine wmv ?_
                        refine wex ?_
                        refine wex ?_
                        refine was ?_
                        refine was ?_
                        refine wnr ?_
                        refine wmv ?_
                        refine wv ((x_neqNilNil Tryz.underlying183 rfl rfl)) ?_
                        refine wmv ?_
                        refine wmv ?_
                        refine wv ((x_lss rfl rfl).as (bool_t hn1)) ?_
                        refine wv (x_pick_f rfl rfl) ?_
                        refine wmv ?_
                        refine wl_off rfl rfl rfl ?_
                        refine wl_off rfl rfl rfl ?_
                        refine wv (x_pick_t rfl rfl) ?_
                        refine wns ?_
                        refine w_true rfl ?_
                        refine wsr ?_
                        refine wv (x_build (cs := [_, _, _, _, _, _]) Tryz.underlying72 Tryz.places72 Tryz.zero72 rfl rfl) ?_
                        refine wl_front2 ?_
                        refine wl_storeAll rfl (by exact Tryz.size72) rfl rfl (by simp [Value.oneCell']) rfl ?_
                        refine was ?_
                        refine wns ?_
                        refine w_ret ?_
                        refine at_then_ret ?_
                        refine at_block_ret ?_
                        refine at_then_ret ?_
                        refine at_then_ret ?_
                        refine at_block_ret ?_
                        refine at_then_ret ?_
                        refine at_endp (resAs (vs := [_, _]) rfl rfl ⟨⟨_, _, _, rfl, rowH0 (.head _), .inr ⟨Tryz.agg72, Tryz.size72, rfl⟩⟩, rfl, trivial⟩) ?_
                        have hN : pPart (a :: d :: z :: q) = none := by rw [pPart, if_pos hd3, pExp, if_pos hz, hat]; simp only; rw [if_neg (by omega)]; rfl
                        rw [hN] at hQ
                        rw [hQ]; rfl
                      · skip
                        by_cases hn2 : 1073741824 < n
                        · skip
                          refine w_skip ?_
                          refine at_seq ?_
                          refine w_seq ?_
                          refine w_block ?_
                          refine wsr ?_
                          refine wv (x_index Tryz.underlying129 Tryz.size9 rfl rfl (j := i) (by omega) (by omega)) ?_
                          refine wv (x_load Tryz.plain9 rfl (hrow)) ?_
                          refine was ?_
                          refine wns ?_
                          refine w_seq ?_
                          refine wsr ?_
                          refine wmv ?_
                          refine wv (x_lenB Tryz.underlying9 rfl rfl) ?_
                          refine wv ((x_lss rfl rfl).as (bool_f (by omega))) ?_
                          refine wmv ?_
                          refine wmv ?_
                          refine wv (x_indexB Tryz.underlying9 rfl rfl (j := 0) (by omega) (by omega)) ?_
                          refine wv ((x_neq rfl rfl).as (bool_f (fun h => h ((u8_eq (k := 120) (by omega)).2 ha)))) ?_
                          refine wv (x_pick_f rfl rfl) ?_
                          refine wmv ?_
                          refine wmv ?_
                          refine wv (x_indexB Tryz.underlying9 rfl rfl (j := 1) (by omega) (by omega)) ?_
                          refine wv ((x_lss rfl rfl).as (bool_f (by show ¬ ((d.toNat : Int) < 49); omega))) ?_
                          refine wv (x_pick_f rfl rfl) ?_
                          refine wmv ?_
                          refine wmv ?_
                          refine wv (x_indexB Tryz.underlying9 rfl rfl (j := 1) (by omega) (by omega)) ?_
                          refine wv ((x_gtr rfl rfl).as (bool_f (by show ¬ (52 < (d.toNat : Int)); omega))) ?_
                          refine wv (x_pick_f rfl rfl) ?_
                          refine wns ?_
                          refine w_false rfl ?_
                          refine w_skip ?_
                          refine at_seq ?_
                          refine wsr ?_
                          refine was ?_
                          refine wns ?_
                          refine w_seq ?_
                          refine wsr ?_
                          refine wmv ?_
                          refine wv (x_lenB Tryz.underlying9 rfl rfl) ?_
                          refine wv ((x_gtr rfl rfl).as (bool_t (by omega))) ?_
                          refine wns ?_
                          refine w_true rfl ?_
                          refine w_seq ?_
                          refine wsr ?_
                          refine wmv ?_
                          refine wv (x_indexB Tryz.underlying9 rfl rfl (j := 2) (by omega) (by omega)) ?_
                          refine wv ((x_neq rfl rfl).as (bool_f (fun h => h ((u8_eq (k := 94) (by omega)).2 hz)))) ?_
                          refine wns ?_
                          refine w_false rfl ?_
                          refine w_skip ?_
                          refine at_seq ?_
                          refine wsr ?_
                          refine was ?_
                          refine wnr ?_
                          refine wmv ?_
                          refine wv (x_dropB (lo := 3) Tryz.underlying9 rfl rfl (by omega) (by omega)) ?_
                          refine wl_callp rfl rfl rfl Tryz.c133 (Atoi_ok (L := q) (hE.up (hm12.trans hm3)) (by omega)) ?_; rintro v4 m4 hm4 h4
                          rw [hat] at h4
                          obtain rfl := h4
                          refine wmv ?_
                          refine wex ?_
                          refine wex ?_
                          refine was ?_
                          refine was ?_
                          refine wnr ?_
                          refine wmv ?_
                          refine wv ((x_neqNilNil Tryz.underlying183 rfl rfl)) ?_
                          refine wmv ?_
                          refine wmv ?_
                          refine wv ((x_lss rfl rfl).as (bool_f hn1)) ?_
                          refine wv (x_pick_f rfl rfl) ?_
                          refine wmv ?_
                          refine wmv ?_
                          refine wv ((x_gtr rfl rfl).as (bool_t hn2)) ?_
                          refine wv (x_pick_f rfl rfl) ?_
                          refine wns ?_
                          refine w_true rfl ?_
                          refine wsr ?_
                          refine wv (x_build (cs := [_, _, _, _, _, _]) Tryz.underlying72 Tryz.places72 Tryz.zero72 rfl rfl) ?_
                          refine wl_front2 ?_
                          refine wl_storeAll rfl (by exact Tryz.size72) rfl rfl (by simp [Value.oneCell']) rfl ?_
                          refine was ?_
                          refine wns ?_
                          refine w_ret ?_
                          refine at_then_ret ?_
                          refine at_block_ret ?_
                          refine at_then_ret ?_
                          refine at_then_ret ?_
                          refine at_block_ret ?_
                          refine at_then_ret ?_
                          refine at_endp (resAs (vs := [_, _]) rfl rfl ⟨⟨_, _, _, rfl, rowH0 (.head _), .inr ⟨Tryz.agg72, Tryz.size72, rfl⟩⟩, rfl, trivial⟩) ?_
                          have hN : pPart (a :: d :: z :: q) = none := by rw [pPart, if_pos hd3, pExp, if_pos hz, hat]; simp only; rw [if_neg (by omega)]; rfl
                          rw [hN] at hQ
                          rw [hQ]; rfl
                        · skip
                          refine w_skip ?_
                          refine at_seq ?_
                          refine w_seq ?_
                          refine w_block ?_
                          refine wsr ?_
                          refine wv (x_index Tryz.underlying129 Tryz.size9 rfl rfl (j := i) (by omega) (by omega)) ?_
                          refine wv (x_load Tryz.plain9 rfl (hrow)) ?_
                          refine was ?_
                          refine wns ?_
                          refine w_seq ?_
                          refine wsr ?_
                          refine wmv ?_
                          refine wv (x_lenB Tryz.underlying9 rfl rfl) ?_
                          refine wv ((x_lss rfl rfl).as (bool_f (by omega))) ?_
                          refine wmv ?_
                          refine wmv ?_
                          refine wv (x_indexB Tryz.underlying9 rfl rfl (j := 0) (by omega) (by omega)) ?_
                          refine wv ((x_neq rfl rfl).as (bool_f (fun h => h ((u8_eq (k := 120) (by omega)).2 ha)))) ?_
                          refine wv (x_pick_f rfl rfl) ?_
                          refine wmv ?_
                          refine wmv ?_
                          refine wv (x_indexB Tryz.underlying9 rfl rfl (j := 1) (by omega) (by omega)) ?_
                          refine wv ((x_lss rfl rfl).as (bool_f (by show ¬ ((d.toNat : Int) < 49); omega))) ?_
                          refine wv (x_pick_f rfl rfl) ?_
                          refine wmv ?_
                          refine wmv ?_
                          refine wv (x_indexB Tryz.underlying9 rfl rfl (j := 1) (by omega) (by omega)) ?_
                          refine wv ((x_gtr rfl rfl).as (bool_f (by show ¬ (52 < (d.toNat : Int)); omega))) ?_
                          refine wv (x_pick_f rfl rfl) ?_
                          refine wns ?_
                          refine w_false rfl ?_
                          refine w_skip ?_
                          refine at_seq ?_
                          refine wsr ?_
                          refine was ?_
                          refine wns ?_
                          refine w_seq ?_
                          refine wsr ?_
                          refine wmv ?_
                          refine wv (x_lenB Tryz.underlying9 rfl rfl) ?_
                          refine wv ((x_gtr rfl rfl).as (bool_t (by omega))) ?_
                          refine wns ?_
                          refine w_true rfl ?_
                          refine w_seq ?_
                          refine wsr ?_
                          refine wmv ?_
                          refine wv (x_indexB Tryz.underlying9 rfl rfl (j := 2) (by omega) (by omega)) ?_
                          refine wv ((x_neq rfl rfl).as (bool_f (fun h => h ((u8_eq (k := 94) (by omega)).2 hz)))) ?_
                          refine wns ?_
                          refine w_false rfl ?_
                          refine w_skip ?_
                          refine at_seq ?_
                          refine wsr ?_
                          refine was ?_
                          refine wnr ?_
                          refine wmv ?_
                          refine wv (x_dropB (lo := 3) Tryz.underlying9 rfl rfl (by omega) (by omega)) ?_
                          refine wl_callp rfl rfl rfl Tryz.c133 (Atoi_ok (L := q) (hE.up (hm12.trans hm3)) (by omega)) ?_; rintro v4 m4 hm4 h4
                          rw [hat] at h4
                          obtain rfl := h4
                          refine wmv ?_
                          refine wex ?_
                          refine wex ?_
                          refine was ?_
                          refine was ?_
                          refine wnr ?_
                          refine wmv ?_
                          refine wv ((x_neqNilNil Tryz.underlying183 rfl rfl)) ?_
                          refine wmv ?_
                          refine wmv ?_
                          refine wv ((x_lss rfl rfl).as (bool_f hn1)) ?_
                          refine wv (x_pick_f rfl rfl) ?_
                          refine wmv ?_
                          refine wmv ?_
                          refine wv ((x_gtr rfl rfl).as (bool_f hn2)) ?_
                          refine wv (x_pick_f rfl rfl) ?_
                          refine wns ?_
                          refine w_false rfl ?_
                          refine w_skip ?_
                          refine at_seq ?_
                          refine w_region ?_
                          refine wmv ?_
                          refine wv (x_indexB Tryz.underlying9 rfl rfl (j := 1) (by omega) (by omega)) ?_
                          refine wv (x_sub rfl rfl (u8n (r := d.toNat - 49) (by show (d.toNat : Int) - 49 = _; omega) (by omega))) ?_
                          refine wmv ?_
                          refine wv (x_fieldAddr Tryz.underlying72 rfl Tryz.size70 rfl) ?_
                          refine wv (x_indexA Tryz.underlying70 Tryz.size3 rfl rfl (j := (d.toNat - 49)) (by omega) (by omega)) ?_
                          refine wl_storeAs (xs' := [.bool n5, .slice d5 l5 c5] ++ (es.set (d.toNat - 49) n).map (Value.int .i64)) rfl Tryz.size3 rfl rfl rfl (by rw [List.length_append, List.length_map, hes]; show 0 + 2 + (d.toNat - 49) * 1 < 2 + 4; omega) (es_set rfl (by show 0 + 2 + (d.toNat - 49) * 1 = _; omega)) ?_
                          refine wl_nil ?_
                          refine at_block_normal ?_
                          refine at_seq ?_
                          refine w_region ?_
                          refine wv (x_add rfl rfl (wrap_i64 (by omega) (by omega))) ?_
                          refine wmv ?_
                          refine wl_nil ?_
                          have hS : pPart (a :: d :: z :: q) = some (d.toNat - 49, n) := by rw [pPart, if_pos hd3, pExp, if_pos hz, hat]; simp only; rw [if_pos ⟨by omega, by omega⟩]; rfl
                          rw [hS] at hQ
                          exact at_again rs.length [(2, .pointer (some ⟨b2, 0, none⟩)), (7, .pointer (some ⟨b7, 0, none⟩)), (27, .slice (some ⟨b1, 1, none⟩) ps.length ps.length), (28, .int .i64 ps.length), (29, .int .i64 ((i + 1) : Nat))] (by simp) ⟨i + 1, es.set (d.toNat - 49) n, dn ++ [(a :: d :: z :: q)], rs, (hm3.trans hm4), by rw [hps]; simp, by rw [hi]; simp, rfl, by simpa using hes, hQ.symm, rfl, rfl⟩ (by repeat' (first | exact trivial | exact rfl | exact lk_int rfl (by omega) | apply And.intro))
                  · skip
                    refine w_skip ?_
                    refine at_seq ?_
                    refine w_seq ?_
                    refine w_block ?_
                    refine wsr ?_
                    refine wv (x_index Tryz.underlying129 Tryz.size9 rfl rfl (j := i) (by omega) (by omega)) ?_
                    refine wv (x_load Tryz.plain9 rfl (hrow)) ?_
                    refine was ?_
                    refine wns ?_
                    refine w_seq ?_
                    refine wsr ?_
                    refine wmv ?_
                    refine wv (x_lenB Tryz.underlying9 rfl rfl) ?_
                    refine wv ((x_lss rfl rfl).as (bool_f (by omega))) ?_
                    refine wmv ?_
                    refine wmv ?_
                    refine wv (x_indexB Tryz.underlying9 rfl rfl (j := 0) (by omega) (by omega)) ?_
                    refine wv ((x_neq rfl rfl).as (bool_f (fun h => h ((u8_eq (k := 120) (by omega)).2 ha)))) ?_
                    refine wv (x_pick_f rfl rfl) ?_
                    refine wmv ?_
                    refine wmv ?_
                    refine wv (x_indexB Tryz.underlying9 rfl rfl (j := 1) (by omega) (by omega)) ?_
                    refine wv ((x_lss rfl rfl).as (bool_f (by show ¬ ((d.toNat : Int) < 49); omega))) ?_
                    refine wv (x_pick_f rfl rfl) ?_
                    refine wmv ?_
                    refine wmv ?_
                    refine wv (x_indexB Tryz.underlying9 rfl rfl (j := 1) (by omega) (by omega)) ?_
                    refine wv ((x_gtr rfl rfl).as (bool_f (by show ¬ (52 < (d.toNat : Int)); omega))) ?_
                    refine wv (x_pick_f rfl rfl) ?_
                    refine wns ?_
                    refine w_false rfl ?_
                    refine w_skip ?_
                    refine at_seq ?_
                    refine wsr ?_
                    refine was ?_
                    refine wns ?_
                    refine w_seq ?_
                    refine wsr ?_
                    refine wmv ?_
                    refine wv (x_lenB Tryz.underlying9 rfl rfl) ?_
                    refine wv ((x_gtr rfl rfl).as (bool_t (by omega))) ?_
                    refine wns ?_
                    refine w_true rfl ?_
                    refine w_seq ?_
                    refine wsr ?_
                    refine wmv ?_
                    refine wv (x_indexB Tryz.underlying9 rfl rfl (j := 2) (by omega) (by omega)) ?_
                    refine wv ((x_neq rfl rfl).as (bool_t fun h => hz ((u8_eq (k := 94) (by omega)).1 h))) ?_
                    refine wns ?_
                    refine w_true rfl ?_
                    refine wsr ?_
                    refine wv (x_build (cs := [_, _, _, _, _, _]) Tryz.underlying72 Tryz.places72 Tryz.zero72 rfl rfl) ?_
                    refine wl_front2 ?_
                    refine wl_storeAll rfl (by exact Tryz.size72) rfl rfl (by simp [Value.oneCell']) rfl ?_
                    refine was ?_
                    refine wns ?_
                    refine w_ret ?_
                    refine at_then_ret ?_
                    refine at_then_ret ?_
                    refine at_block_ret ?_
                    refine at_then_ret ?_
                    refine at_then_ret ?_
                    refine at_block_ret ?_
                    refine at_then_ret ?_
                    refine at_endp (resAs (vs := [_, _]) rfl rfl ⟨⟨_, _, _, rfl, rowH0 (.head _), .inr ⟨Tryz.agg72, Tryz.size72, rfl⟩⟩, rfl, trivial⟩) ?_
                    have hN : pPart (a :: d :: z :: q) = none := by rw [pPart, if_pos hd3, pExp, if_neg hz]; rfl
                    rw [hN] at hQ
                    rw [hQ]; rfl
          · skip
            refine w_skip ?_
            refine at_seq ?_
            refine w_seq ?_
            refine w_block ?_
            refine wsr ?_
            refine wv (x_index Tryz.underlying129 Tryz.size9 rfl rfl (j := i) (by omega) (by omega)) ?_
            refine wv (x_load Tryz.plain9 rfl (hrow)) ?_
            refine was ?_
            refine wns ?_
            refine w_seq ?_
            refine wsr ?_
            refine wmv ?_
            refine wv (x_lenB Tryz.underlying9 rfl rfl) ?_
            refine wv ((x_lss rfl rfl).as (bool_f (by omega))) ?_
            refine wmv ?_
            refine wmv ?_
            refine wv (x_indexB Tryz.underlying9 rfl rfl (j := 0) (by omega) (by omega)) ?_
            refine wv ((x_neq rfl rfl).as (bool_t fun h => ha ((u8_eq (k := 120) (by omega)).1 h))) ?_
            refine wv (x_pick_f rfl rfl) ?_
            refine wmv ?_
            refine wl_off rfl rfl rfl ?_
            refine wl_off rfl rfl rfl ?_
            refine wl_off rfl rfl rfl ?_
            refine wv (x_pick_t rfl rfl) ?_
            refine wmv ?_
            refine wl_off rfl rfl rfl ?_
            refine wl_off rfl rfl rfl ?_
            refine wl_off rfl rfl rfl ?_
            refine wv (x_pick_t rfl rfl) ?_
            refine wns ?_
            refine w_true rfl ?_
            refine wsr ?_
            refine wv (x_build (cs := [_, _, _, _, _, _]) Tryz.underlying72 Tryz.places72 Tryz.zero72 rfl rfl) ?_
            refine wl_front2 ?_
            refine wl_storeAll rfl (by exact Tryz.size72) rfl rfl (by simp [Value.oneCell']) rfl ?_
            refine was ?_
            refine wns ?_
            refine w_ret ?_
            refine at_then_ret ?_
            refine at_block_ret ?_
            refine at_then_ret ?_
            refine at_then_ret ?_
            refine at_block_ret ?_
            refine at_then_ret ?_
            refine at_endp (resAs (vs := [_, _]) rfl rfl ⟨⟨_, _, _, rfl, rowH0 (.head _), .inr ⟨Tryz.agg72, Tryz.size72, rfl⟩⟩, rfl, trivial⟩) ?_
            have hN : pPart (a :: d :: q) = none := by rw [pPart, if_neg fun h => ha h.1]
            rw [hN] at hQ
            rw [hQ]; rfl
    · skip
      obtain rfl : rs = [] := List.length_eq_zero_iff.1 (by omega)
      obtain ⟨e0, e1, e2, e3, rfl⟩ := list4 hes
      refine w_exit ?_
      refine at_then_exit ?_
      refine at_then_exit ?_
      refine at_block_hit ?_
      refine at_seq ?_
      refine wsr ?_
      refine wv (x_loads Tryz.agg72 (by exact Tryz.size72) rfl (rowH0 (.head _))) ?_
      refine wl_front2 ?_
      refine wl_storeAll rfl (by exact Tryz.size72) rfl rfl (by simp [Value.oneCell']) rfl ?_
      refine was ?_
      refine wns ?_
      refine w_ret ?_
      refine at_endp (resAs (vs := [_, _]) rfl rfl ⟨⟨_, _, _, rfl, rowH0 (.head _), .inr ⟨Tryz.agg72, Tryz.size72, rfl⟩⟩, rfl, trivial⟩) ?_
      rw [← hpp]
      exact ⟨⟨n5, d5, l5, c5, e0, e1, e2, e3⟩, rfl, h3.up hm3, rfl⟩
end Go.Cy


/- checkpoly.Parse. -/
namespace Go.Cy
open Go Go.Proofs
set_option maxRecDepth 20000

def pTerms : List (List UInt8) → Option (List Tm)
  | [] => some []
  | p :: ps => match pTerm p with
    | some t => (pTerms ps).map (t :: ·)
    | none => none
noncomputable def pPoly (L : List UInt8) : Option (List Tm) := if L = [48] then some [] else match pTerms (splB 43 L) with
  | some ts => if polyB (nrm ts) = L then some (nrm ts) else none
  | none => none
theorem Can.cf_mem {l : List Tm} {t : Tm} (h : Can l) (ht : t ∈ l) : cf t.2 l = t.1 := by
  induction l with
  | nil => simp at ht
  | cons u k ih =>
    rw [cf]
    rcases List.mem_cons.1 ht with rfl | hk
    · rw [if_pos rfl, h.head]; omega
    · have := (List.pairwise_cons.1 h.1).1 t hk
      rw [if_neg fun e => by rw [e] at this; exact lxl_irrefl _ _ this, ih h.tail hk]; omega
theorem exp_of {rs ts : List Tm} (h : Can rs) (he : ∀ e, e.length = 4 → cf e rs = cf e (ts.filter keepT)) {t : Tm} (ht : t ∈ rs) : ∃ u ∈ ts, u.2 = t.2 := by
  refine Classical.byContradiction fun hn => ?_
  have h1 := h.cf_mem ht
  have h2 := h.2 t ht
  rw [he _ h2.2.1, cf_none fun u hu e => hn ⟨u, (List.mem_filter.1 hu).1, e⟩] at h1
  exact h2.1 h1.symm
def Tb (n : Nat) (t : Tm) : Prop := dlen t.1.natAbs ≤ n ∧ t.2.length = 4 ∧ ∀ e ∈ t.2, 0 ≤ e ∧ e ≤ 1073741824
theorem pParts_ok : ∀ {ps : List (List UInt8)} {es es' : List Int}, pParts ps es = some es' → es.length = 4 → (∀ e ∈ es, 0 ≤ e ∧ e ≤ 1073741824) → es'.length = 4 ∧ ∀ e ∈ es', 0 ≤ e ∧ e ≤ 1073741824
  | [], es, es', h, h1, h2 => by
    rw [pParts] at h
    injection h with h
    subst h; exact ⟨h1, h2⟩
  | p :: ps, es, es', h, h1, h2 => by
    rw [pParts] at h
    rcases hp : pPart p with _ | ⟨k, n⟩
    · rw [hp] at h; cases h
    · rw [hp] at h
      have hb := pPart_lt hp
      refine pParts_ok h (by simpa using h1) fun e he => ?_
      rcases List.mem_or_eq_of_mem_set he with he | rfl
      · exact h2 e he
      · exact hb.2
theorem pTerm_tb {L : List UInt8} {t : Tm} (h : pTerm L = some t) : Tb L.length t := by
  unfold pTerm at h
  have hl := splB_len 42 L
  rcases hs : splB 42 L with _ | ⟨p, ps⟩
  · rw [hs] at h; cases h
  · rw [hs] at h hl
    simp only at h
    rcases hp : pInt p with _ | c
    · rw [hp] at h; cases h
    · rw [hp] at h
      simp only at h
      rcases he : pParts ps [0, 0, 0, 0] with _ | es
      · rw [he] at h; cases h
      · rw [he] at h
        simp only [Option.map_some, Option.some.injEq] at h
        subst h
        have h1 := pParts_ok he rfl (by simp)
        exact ⟨Nat.le_trans (pInt_le hp) (hl p (List.mem_cons_self ..)), h1.1, h1.2⟩
theorem pTerms_tb {n : Nat} : ∀ {ps : List (List UInt8)} {ts : List Tm}, pTerms ps = some ts → (∀ p ∈ ps, p.length ≤ n) → ts.length = ps.length ∧ ∀ t ∈ ts, Tb n t
  | [], ts, h, _ => by rw [pTerms] at h; injection h with h; subst h; exact ⟨rfl, fun _ h => absurd h List.not_mem_nil⟩
  | p :: ps, ts, h, hn => by
    rw [pTerms] at h
    rcases hp : pTerm p with _ | t
    · rw [hp] at h; cases h
    · rw [hp] at h
      simp only at h
      rcases hq : pTerms ps with _ | us
      · rw [hq] at h; cases h
      · rw [hq] at h
        simp only [Option.map_some, Option.some.injEq] at h
        subst h
        have h1 := pTerms_tb hq fun q hq => hn q (List.mem_cons_of_mem _ hq)
        have h2 := pTerm_tb hp
        refine ⟨by simp [h1.1], fun u hu => ?_⟩
        rcases List.mem_cons.1 hu with rfl | hu
        · exact ⟨Nat.le_trans h2.1 (hn p (List.mem_cons_self ..)), h2.2⟩
        · exact h1.2 u hu
theorem tot_lt {n : Nat} : ∀ {ts : List Tm}, (∀ t ∈ ts, Tb n t) → tot ts < ts.length * 4294967296 ^ n + 1
  | [], _ => by simp [tot]
  | t :: ts, h => by
    have h1 := tot_lt fun u hu => h u (List.mem_cons_of_mem _ hu)
    have h2 := lt_dlen t.1.natAbs
    have h3 : 4294967296 ^ dlen t.1.natAbs ≤ 4294967296 ^ n := Nat.pow_le_pow_right (by omega) (h t (List.mem_cons_self ..)).1
    rw [tot, List.length_cons, Nat.add_mul]
    omega
theorem tot_dlen {n : Nat} {ts : List Tm} (h : ∀ t ∈ ts, Tb n t) (hl : ts.length < 4294967296) : dlen (tot ts) ≤ n + 1 := by
  refine dlen_le ?_
  have h1 := tot_lt h
  have h2 : (ts.length + 1) * 4294967296 ^ n ≤ 4294967296 * 4294967296 ^ n := Nat.mul_le_mul_right _ (by omega)
  have h3 : 0 < 4294967296 ^ n := Nat.pow_pos (by omega)
  rw [Nat.add_mul] at h2
  rw [Nat.pow_succ, Nat.mul_comm (4294967296 ^ n)]
  omega
theorem exsB_len {es : List Int} (he : ∀ e ∈ es, -9223372036854775808 ≤ e ∧ e ≤ 9223372036854775807) : ∀ k, k ≤ 4 → (exsB es k).length ≤ 45 * k
  | 0, _ => by simp [exsB]
  | k + 1, hk => by
    have ih := exsB_len he k (by omega)
    have hg := Fm.get (t := (0, es)) ⟨by rw [show (0 : Int).natAbs = 0 from rfl, dlen_zero]; omega, he⟩ k
    rw [exsB_succ, List.length_append, facB]
    have h1 := itB_len (n := ((k + 1 : Nat) : Int)) (by omega) (by omega)
    have h2 : (itB (es.getD k 0)).length ≤ 21 := itB_len hg.1 hg.2
    split
    · simp; omega
    · split <;> simp only [List.length_append, List.length_cons, List.length_nil] <;> omega
theorem termB_len {t : Tm} (h : Fm t) : (termB t).length ≤ 10 * dlen t.1.natAbs + 181 := by
  rw [termB, List.length_append]
  have h1 := decB_len t.1
  have h2 := exsB_len h.2 4 (Nat.le_refl _)
  omega
theorem plusB_len {n : Nat} {ts : List Tm} (h : ∀ t ∈ ts, Fm t ∧ dlen t.1.natAbs ≤ n) : (plusB ts).length ≤ ts.length * (10 * n + 182) := by
  induction ts with
  | nil => simp [plusB]
  | cons t ts ih =>
    have h1 := ih fun u hu => h u (List.mem_cons_of_mem _ hu)
    have h2 := h t (List.mem_cons_self ..)
    have h3 := termB_len h2.1
    rw [show plusB (t :: ts) = (43 :: termB t) ++ plusB ts by simp [plusB], List.length_append, List.length_cons, List.length_cons, Nat.add_mul]
    have := h2.2
    omega
theorem polyB_len {n : Nat} {ts : List Tm} (h : ∀ t ∈ ts, Fm t ∧ dlen t.1.natAbs ≤ n) : (polyB ts).length ≤ ts.length * (10 * n + 182) + 1 := by
  unfold polyB
  split
  · simp
  · cases ts with
    | nil => simp [bodyB]
    | cons t ts =>
      have := plusB_len h
      rw [show plusB (t :: ts) = (43 :: termB t) ++ plusB ts by simp [plusB], List.length_append, List.length_cons] at this
      rw [bodyB, List.length_append]; omega

theorem poly_room {n : Nat} {ts : List Tm} (hn : n ≤ 1048576) (h : ∀ t ∈ ts, dlen t.1.natAbs ≤ n + 1 ∧ ∀ e ∈ t.2, 0 ≤ e ∧ e ≤ 1073741824) (hl : ts.length ≤ n + 1) : (polyB ts).length ≤ 35184372088000 := by
  have h1 := polyB_len (n := n + 1) (ts := ts) fun t ht => ⟨⟨Nat.le_trans (h t ht).1 (by omega), fun e he => by have := (h t ht).2 e he; omega⟩, (h t ht).1⟩
  have h2 : ts.length * (10 * (n + 1) + 182) ≤ 1048577 * (10 * 1048577 + 182) := Nat.mul_le_mul (by omega) (by omega)
  omega
def PolyR (m : Mem) (r : Value) (o : Option (List Tm)) : Prop := match o with
  | some ts => ∃ v, r = .tuple #[v, .int .i64 0] ∧ Cv m v ts
  | none => r = .tuple #[.slice none 0 0, .int .i64 9]
structure Pok (n : Nat) (L : List UInt8) (ts : List Tm) : Prop where
  can : Can ts
  tb : ∀ t ∈ ts, dlen t.1.natAbs ≤ n + 1 ∧ ∀ e ∈ t.2, 0 ≤ e ∧ e ≤ 1073741824
  len : ts.length ≤ n + 1
  txt : polyB ts = L
theorem pParse_ok {m : Mem} {L : List UInt8} (hw : Wd m) (hE : Er m) (hT : Tab Tryz.prog m) (hl : L.length ≤ 1048576) : Pure Tryz.prog 134 #[.string (B L)] m fun r m' => PolyR m' r (pPoly L) ∧ ∀ ts, pPoly L = some ts → Pok L.length L ts := by
  unfold pPoly
  refine enterp Tryz.func134 rfl rfl ?_
  intro K hm0 hks
  by_cases h0 : L = [48]
  · skip
    refine wsr ?_
    refine was ?_
    refine was ?_
    refine wns ?_
    refine w_seq ?_
    refine wsr ?_
    refine wmv ?_
    refine wv ((x_eqlBs (K := [48]) rfl rfl).as (bool_t h0)) ?_
    refine wns ?_
    refine w_true rfl ?_
    refine wsr ?_
    refine was ?_
    refine was ?_
    refine wns ?_
    refine w_ret ?_
    refine at_then_ret ?_
    refine at_endp (res2 rfl rfl rfl) ?_
    rw [if_pos h0]
    refine ⟨⟨_, rfl, none, 0, [], rfl, fun h => absurd h (Nat.lt_irrefl _), trivial, Nat.le_refl _⟩, fun ts h => ?_⟩
    injection h with h
    subst h
    exact ⟨⟨.nil, fun _ h => absurd h List.not_mem_nil⟩, fun _ h => absurd h List.not_mem_nil, Nat.zero_le _, by rw [h0]; rfl⟩
  · skip
    rw [if_neg h0]
    obtain ⟨qs, hqs⟩ : ∃ qs, qs = splB 43 L := ⟨_, rfl⟩
    have hql := splB_len 43 L
    have hqc := splB_count 43 L
    have hqn := splB_ne 43 L
    rw [← hqs] at hql hqc hqn ⊢
    refine wsr ?_
    refine was ?_
    refine was ?_
    refine wns ?_
    refine w_seq ?_
    refine wsr ?_
    refine wmv ?_
    refine wv ((x_eqlBs (K := [48]) rfl rfl).as (bool_f h0)) ?_
    refine wns ?_
    refine w_false rfl ?_
    refine w_skip ?_
    refine at_seq ?_
    refine wsr ?_
    refine was ?_
    refine wns ?_
    refine w_seq ?_
    refine wsr ?_
    refine wmv ?_
    refine wl_callp rfl rfl rfl Tryz.c182 (Split_ok (c := 43) hw (by omega)) ?_; rintro v1 m1 hm1 ⟨b13, rfl, hr1⟩
    rw [← hqs] at hr1 ⊢
    refine wv (x_len Tryz.underlying129 rfl rfl) ?_
    refine wmv ?_
    refine wns ?_
    refine w_block ?_
    refine w_loop (fun r m' H' env' => ∃ i a c xs ts rest, i + r = qs.length ∧ m1.le m' ∧ rest = qs.drop i ∧ ts.length = i ∧ pTerms qs = (pTerms rest).map (ts ++ ·) ∧ All2 (Tc m') xs ts ∧ Own (.slice a ts.length c) 6 72 (fl6 xs) H' ∧ env' = [(0, .string (B L)), (4, .slice a ts.length c), (13, .slice (some ⟨b13, 0, none⟩) qs.length qs.length), (14, .int .i64 qs.length), (15, .int .i64 (i : Nat))]) qs.length [(0, .string (B L)), (4, .slice none 0 0), (13, .slice (some ⟨b13, 0, none⟩) qs.length qs.length), (14, .int .i64 qs.length), (15, .int .i64 (0 : Nat))] ⟨0, none, 0, [], [], qs, by omega, Mem.le.refl _, rfl, rfl, by simp, trivial, Own.nil _ _, rfl⟩ (by repeat' (first | exact trivial | exact rfl | exact lk_int rfl (by omega) | apply And.intro)) ?_
    rintro r m2 H' env' ⟨i, a, c, xs, ts, rest, hi, hm2, hrest, htl, hpt, hxs, hown, rfl⟩
    have hxl := hxs.len
    refine wsr ?_
    refine wv (x_lss rfl rfl) ?_
    refine wns ?_
    refine w_seq ?_
    refine w_if rfl (fun h1 => ?_) (fun h1 => ?_)
    · skip
      have hiq : i < qs.length := by omega
      rw [List.drop_eq_getElem_cons hiq] at hrest
      have hqi := hql _ (List.getElem_mem hiq)
      subst hrest
      have hrow : Row m2 H' b13 (0 + i * 1) [.string (B qs[i])] := (hr1.up hm2).heap.nth i (by rw [List.getElem?_map, List.getElem?_eq_getElem hiq]; rfl) (by omega)
      have hm02 := hm1.trans hm2
      rw [pTerms] at hpt
      rcases hpi : pTerm qs[i] with _ | t
      · skip
        rw [hpi] at hpt
        refine w_skip ?_
        refine at_seq ?_
        refine w_seq ?_
        refine w_block ?_
        refine wsr ?_
        refine wv (x_index Tryz.underlying129 Tryz.size9 rfl rfl (j := i) (by omega) (by omega)) ?_
        refine wv (x_load Tryz.plain9 rfl (hrow)) ?_
        refine was ?_
        refine wnr ?_
        refine wmv ?_
        refine wl_callp rfl rfl rfl Tryz.c185 (parseTerm_ok (hw.up hm02) (hE.up hm02) (by omega)) ?_; rintro v3 m3 hm3 h3
        rw [hpi] at h3
        obtain rfl := h3
        refine wmv ?_
        refine wex ?_
        refine wex ?_
        refine wl_alloc rfl rfl Tryz.zero72 ?_; intro b7
        refine wl_storeAll rfl (by exact Tryz.size72) rfl rfl (by exact TV.one tz) rfl ?_
        refine was ?_
        refine wns ?_
        refine w_seq ?_
        refine wsr ?_
        refine wmv ?_
        refine wv (x_not rfl rfl) ?_
        refine wns ?_
        refine w_cond rfl (fun h2 => ?_) (fun h2 => ?_)
        · skip
          refine wsr ?_
          refine was ?_
          refine was ?_
          refine wns ?_
          refine w_ret ?_
          refine at_then_ret ?_
          refine at_block_ret ?_
          refine at_then_ret ?_
          refine at_then_ret ?_
          refine at_block_ret ?_
          refine at_then_ret ?_
          refine at_clear ?_
          refine at_endp (res2 rfl rfl rfl) ?_
          rw [hpt]
          exact ⟨rfl, fun _ h => by cases h⟩
        · skip
          cases h2
      · skip
        rw [hpi] at hpt
        simp only at hpt
        refine w_skip ?_
        refine at_seq ?_
        refine w_seq ?_
        refine w_block ?_
        refine wsr ?_
        refine wv (x_index Tryz.underlying129 Tryz.size9 rfl rfl (j := i) (by omega) (by omega)) ?_
        refine wv (x_load Tryz.plain9 rfl (hrow)) ?_
        refine was ?_
        refine wnr ?_
        refine wmv ?_
        refine wl_callp rfl rfl rfl Tryz.c185 (parseTerm_ok (hw.up hm02) (hE.up hm02) (by omega)) ?_; rintro v3 m3 hm3 h3
        rw [hpi] at h3
        obtain ⟨x, rfl, hx⟩ := h3
        refine wmv ?_
        refine wex ?_
        refine wex ?_
        refine wl_alloc rfl rfl Tryz.zero72 ?_; intro b7
        refine wl_storeAll rfl (by exact Tryz.size72) rfl rfl (by exact TV.one x) rfl ?_
        refine was ?_
        refine wns ?_
        refine w_seq ?_
        refine wsr ?_
        refine wmv ?_
        refine wv (x_not rfl rfl) ?_
        refine wns ?_
        refine w_cond rfl (fun h2 => ?_) (fun h2 => ?_)
        · skip
          cases h2
        · skip
          refine w_skip ?_
          refine at_seq ?_
          refine w_region ?_
          refine wmv ?_
          refine wv (x_loads Tryz.agg72 (by exact Tryz.size72) rfl (rowH0 (.head _))) ?_
          refine wl_buildSlice rfl rfl Tryz.underlying28 Tryz.size72 Tryz.zero72 rfl rfl rfl rfl rfl ?_; intro b28
          refine wl_append (cells := fl6 xs) (news := x.cells) rfl rfl rfl Tryz.underlying28 Tryz.underlying28 Tryz.size72 Tryz.bytes72 Tryz.zero72 rfl (by omega) rfl hown (show List.Perm ([_, _] ++ _) _ from List.perm_append_comm) rfl rfl (.inr ⟨_, 0, rfl, rowH0 (.head _)⟩) (TV.one x) (by rw [fl6_len]; show (_ + 6) * _ ≤ _; omega) (by rw [fl6_len]; show _ + 6 ≤ _; omega) ?_; intro lv' Hs' hown'; obtain ⟨a', l', c', rfl⟩ := hown'.slice; obtain rfl : l' = ts.length + 1 := (by have := hown'.len; rw [List.length_append, fl6_len] at this; simp [TV.cells] at this; omega); refine wl_perm List.perm_append_comm ?_; refine wl_drop1 ?_; refine wl_drop1 ?_
          refine was ?_
          refine wl_nil ?_
          refine at_block_normal ?_
          refine at_seq ?_
          refine w_region ?_
          refine wv (x_add rfl rfl (wrap_i64 (by omega) (by omega))) ?_
          refine wmv ?_
          refine wl_nil ?_
          exact at_again (r - 1) [(0, .string (B L)), (4, .slice a' (ts.length + 1) c'), (13, .slice (some ⟨b13, 0, none⟩) qs.length qs.length), (14, .int .i64 qs.length), (15, .int .i64 ((i + 1) : Nat))] (by omega) ⟨i + 1, a', c', xs ++ [x], ts ++ [t], qs.drop (i + 1), by omega, hm2.trans hm3, rfl, by simp [htl], by rw [hpt, Option.map_map]; congr 1; funext y; simp, All2.app (hxs.mono fun _ _ h => h.up hm3) ⟨hx, trivial⟩, by rw [fl6_app, List.length_append]; simpa [fl6] using hown', by rw [List.length_append]; rfl⟩ (by repeat' (first | exact trivial | exact rfl | exact lk_int rfl (by omega) | apply And.intro))
    · skip
      obtain rfl : i = qs.length := by omega
      rw [List.drop_length] at hrest
      subst hrest
      rw [pTerms, Option.map_some, List.append_nil] at hpt
      rw [hpt]
      have htb := pTerms_tb hpt hql
      have hne : xs ≠ [] := fun h => hqn (List.length_eq_zero_iff.1 (by rw [← htl, ← hxl, h]; rfl))
      obtain ⟨b, junk, rfl, hlc, hcl6, rfl, hjl⟩ := own_some6 hown (by intro h; have := congrArg List.length h; rw [fl6_len] at this; exact hne (List.length_eq_zero_iff.1 (by simp only [List.length_nil] at this; omega)))
      have htt := tot_dlen htb.2 (by omega)
      refine w_freeze ?_; intro hfz
      have hpv : Pv (m2.add b (cl 72 (fl6 xs ++ junk))) (.slice (some ⟨b, 0, none⟩) ts.length c) ts := ⟨_, _, xs, rfl, fun _ => ⟨b, 0, rfl, rowM (Mem.add_at _ _ _) fun i hi => by rw [Nat.zero_add]; simp [List.getElem?_append_left hi]⟩, hxs.mono fun _ _ h => (h.up hfz).tv, hlc⟩
      have hm02 := hm1.trans (hm2.trans hfz)
      have hfm : ∀ rs : List Tm, Can rs → (∀ e, e.length = 4 → cf e rs = cf e (ts.filter keepT)) → tot rs ≤ tot ts → ∀ t ∈ rs, dlen t.1.natAbs ≤ L.length + 1 ∧ ∀ e ∈ t.2, 0 ≤ e ∧ e ≤ 1073741824 := fun rs hc hs htot t ht => by
        obtain ⟨u, hu, hue⟩ := exp_of hc hs ht
        refine ⟨Nat.le_trans (dlen_mono (Nat.le_trans (tot_mem ht) htot)) htt, ?_⟩
        rw [← hue]
        exact (htb.2 u hu).2.2
      by_cases he : polyB (nrm ts) = L
      · skip
        refine w_exit ?_
        refine at_then_exit ?_
        refine at_then_exit ?_
        refine at_block_hit ?_
        refine at_seq ?_
        refine w_seq ?_
        refine wsr ?_
        refine wmv ?_
        refine wl_callp rfl rfl rfl Tryz.c14 (PNormal_ok hpv (by omega) (by omega)) ?_; rintro v3 m3 hm3 ⟨h31, h32, h33, h34, h35⟩
        refine was ?_
        refine wnr ?_
        refine wmv ?_
        refine wl_callp rfl rfl rfl Tryz.c122 (pformat_ok h31.pv (hT.up (hm02.trans hm3)) (by omega) (fun t ht => ⟨Nat.le_trans (hfm _ h32 h33 h34 t ht).1 (by omega), fun e he => by have := (hfm _ h32 h33 h34 t ht).2 e he; omega⟩) (poly_room hl (fun t ht => hfm _ h32 h33 h34 t ht) (by omega))) ?_; rintro v4 m4 hm4 rfl
        refine wmv ?_
        refine wv ((x_eqlBs rfl rfl).as (bool_t he)) ?_
        refine wns ?_
        refine w_true rfl ?_
        refine wsr ?_
        refine wmv ?_
        refine was ?_
        refine was ?_
        refine wns ?_
        refine w_ret ?_
        refine at_then_ret ?_
        refine at_endp (res2 rfl rfl rfl) ?_
        simp only [if_pos he]
        refine ⟨⟨_, rfl, h31.up hm4⟩, fun us h => ?_⟩
        injection h with h
        subst h
        exact ⟨h32, hfm _ h32 h33 h34, by omega, he⟩
      · skip
        refine w_exit ?_
        refine at_then_exit ?_
        refine at_then_exit ?_
        refine at_block_hit ?_
        refine at_seq ?_
        refine w_seq ?_
        refine wsr ?_
        refine wmv ?_
        refine wl_callp rfl rfl rfl Tryz.c14 (PNormal_ok hpv (by omega) (by omega)) ?_; rintro v3 m3 hm3 ⟨h31, h32, h33, h34, h35⟩
        refine was ?_
        refine wnr ?_
        refine wmv ?_
        refine wl_callp rfl rfl rfl Tryz.c122 (pformat_ok h31.pv (hT.up (hm02.trans hm3)) (by omega) (fun t ht => ⟨Nat.le_trans (hfm _ h32 h33 h34 t ht).1 (by omega), fun e he => by have := (hfm _ h32 h33 h34 t ht).2 e he; omega⟩) (poly_room hl (fun t ht => hfm _ h32 h33 h34 t ht) (by omega))) ?_; rintro v4 m4 hm4 rfl
        refine wmv ?_
        refine wv ((x_eqlBs rfl rfl).as (bool_f he)) ?_
        refine wns ?_
        refine w_false rfl ?_
        refine w_skip ?_
        refine at_seq ?_
        refine wsr ?_
        refine was ?_
        refine was ?_
        refine wns ?_
        refine w_ret ?_
        refine at_endp (res2 rfl rfl rfl) ?_
        simp only [if_neg he]
        exact ⟨rfl, fun _ h => by cases h⟩
end Go.Cy


/- checksign.Format in general. -/
namespace Go.Cy
open Go Go.Proofs
set_option maxRecDepth 20000

structure Co where
  z1 : Int
  d1 : Nat
  z2 : Int
  d2 : Nat
  ts : List Tm
def Co.eq (c : Co) : Prop := lowZ c.z1 c.d1 * lowD c.z2 c.d2 = lowZ c.z2 c.d2 * lowD c.z1 c.d1
instance (c : Co) : Decidable c.eq := by unfold Co.eq; infer_instance
noncomputable def coB (c : Co) : List UInt8 := if c.eq then 61 :: fracB c.z1 c.d1 else ((((([40] ++ fracB c.z1 c.d1) ++ [44]) ++ fracB c.z2 c.d2) ++ [41]) ++ polyB (nrm c.ts))
structure Psm (ts : List Tm) : Prop where
  len : ts.length ≤ 1073741824
  tot : dlen (tot ts) ≤ 1000000000000
  exp : ∀ t ∈ nrm ts, ∀ e ∈ t.2, e ≤ 9223372036854775807
  txt : (polyB (nrm ts)).length ≤ 35184372088000
def PC (m : Mem) (v : Value) (ts : List Tm) : Prop := Pv m v ts ∧ Psm ts ∧ Tab Tryz.prog m
theorem cmpI_zero {a b : Int} (h : cmpI a b = 0) : a = b := by
  unfold cmpI at h
  split at h
  · cases h
  · split at h
    · cases h
    · omega
theorem PC.up : ∀ m m' v a, m.le m' → PC m v a → PC m' v a := fun _ _ _ _ hm h => ⟨h.1.up hm, h.2.1, h.2.2.up hm⟩
theorem PC.format : ∀ m v a, PC m v a → Pure Tryz.prog 128 #[v] m fun r _ => r = .string (B (polyB (nrm a))) := fun _ _ _ h => pFormat_ok h.1 h.2.2 h.2.1.len h.2.1.tot h.2.1.exp h.2.1.txt
structure Csm (c : Co) : Prop where
  f1 : dlen c.z1.natAbs ≤ 100000000000 ∧ dlen c.d1 ≤ 100000000000
  f2 : dlen c.z2.natAbs ≤ 100000000000 ∧ dlen c.d2 ≤ 100000000000
  pol : Psm c.ts
def CoC (m : Mem) (v : Value) (c : Co) : Prop := ∃ p f1 f2 f3 g1 g2 g3, v = .agg #[p, f1, f2, f3, g1, g2, g3] ∧ Fi m (.agg #[f1, f2, f3]) c.z1 c.d1 ∧ Fi m (.agg #[g1, g2, g3]) c.z2 c.d2 ∧ Pv m p c.ts ∧ Csm c ∧ Tab Tryz.prog m
theorem CoC.up : ∀ m m' v a, m.le m' → CoC m v a → CoC m' v a := fun _ _ _ _ hm ⟨p, f1, f2, f3, g1, g2, g3, h1, h2, h3, h4, h5, h6⟩ => ⟨p, f1, f2, f3, g1, g2, g3, h1, h2.up hm, h3.up hm, h4.up hm, h5, h6.up hm⟩
theorem Pv.slice {m : Mem} {v : Value} {ts : List Tm} (h : Pv m v ts) : ∃ a l c, v = .slice a l c := by
  obtain ⟨ad, cap, xs, rfl, _⟩ := h
  exact ⟨_, _, _, rfl⟩
theorem CoC.format : ∀ m v c, CoC m v c → Pure Tryz.prog 130 #[v] m fun r _ => r = .string (B (coB c)) := by
  rintro m v c ⟨p, f1, f2, f3, g1, g2, g3, rfl, h1, h2, h3, h4, hT⟩
  have hl1 := fracB_len c.z1 c.d1 h4.f1
  have hl2 := fracB_len c.z2 c.d2 h4.f2
  have hl3 := h4.pol.txt
  have hs1 := h4.f1
  have hs2 := h4.f2
  unfold coB
  by_cases he : c.eq
  · rw [if_pos he]
    exact CFormat_ok h1 h2 h4.f1 h4.f2 he
  rw [if_neg he]
  refine enterp Tryz.func130 rfl rfl ?_
  intro K hm0 hks
  refine wsr ?_
  refine wl_box rfl rfl rfl rfl ?_; intro b1
  refine was ?_
  refine wns ?_
  refine w_seq ?_
  refine wsr ?_
  refine wv (x_fieldAddr Tryz.underlying55 rfl Tryz.size53 rfl) ?_
  refine wv (x_loads Tryz.agg53 (by exact Tryz.size53) rfl (rowHs (vs := [_, _, _]) (.head _) 1 rfl)) ?_
  refine wv (x_fieldAddr Tryz.underlying55 rfl Tryz.size53 rfl) ?_
  refine wv (x_loads Tryz.agg53 (by exact Tryz.size53) rfl (rowHs (vs := [_, _, _]) (.head _) 4 rfl)) ?_
  refine wl_callp rfl rfl rfl Tryz.c84 (FCmp_ok h1 h2 ⟨by omega, by omega⟩ ⟨by omega, by omega⟩) ?_; rintro v1 m1 hm1 rfl
  refine wv ((x_eql rfl rfl).as (bool_f (fun h => he (cmpI_zero h)))) ?_
  refine wns ?_
  refine w_false rfl ?_
  refine w_skip ?_
  refine at_seq ?_
  refine w_seq ?_
  refine dr_start [] [[], [0], [1], [2], [3], [], [5], [6], [4, 7], [8], [], [10], [11]] ?_
  refine dr_val rfl rfl (fun m' hm' => ds_val rfl (x_fieldAddr Tryz.underlying55 rfl Tryz.size53 rfl)) ?_
  refine dr_val rfl rfl (fun m' hm' => ds_val rfl (x_loads Tryz.agg53 (by exact Tryz.size53) rfl (rowHs (vs := [_, _, _]) (.head _) 1 rfl))) ?_
  refine dr_val rfl rfl (fun m' hm' => ds_callc rfl rfl Tryz.c181 (formatFrac_ok (h1.up (hm1.trans hm')) h4.f1)) ?_
  refine dr_val rfl rfl (fun m' hm' => ds_val rfl (x_concatB (L := [40]) rfl rfl (by simp only [List.length_append, List.length_cons, List.length_nil]; omega))) ?_
  refine dr_val rfl rfl (fun m' hm' => ds_val rfl (x_concatB (K := [44]) rfl rfl (by simp only [List.length_append, List.length_cons, List.length_nil]; omega))) ?_
  refine dr_val rfl rfl (fun m' hm' => ds_val rfl (x_fieldAddr Tryz.underlying55 rfl Tryz.size53 rfl)) ?_
  refine dr_val rfl rfl (fun m' hm' => ds_val rfl (x_loads Tryz.agg53 (by exact Tryz.size53) rfl (rowHs (vs := [_, _, _]) (.head _) 4 rfl))) ?_
  refine dr_val rfl rfl (fun m' hm' => ds_callc rfl rfl Tryz.c181 (formatFrac_ok (h2.up (hm1.trans hm')) h4.f2)) ?_
  refine dr_val rfl rfl (fun m' hm' => ds_val rfl (x_concatB rfl rfl (by simp only [List.length_append, List.length_cons, List.length_nil]; omega))) ?_
  refine dr_val rfl rfl (fun m' hm' => ds_val rfl (x_concatB (K := [41]) rfl rfl (by simp only [List.length_append, List.length_cons, List.length_nil]; omega))) ?_
  refine dr_val rfl rfl (fun m' hm' => ds_val rfl (x_fieldAddr Tryz.underlying55 rfl Tryz.size28 rfl)) ?_
  refine dr_val rfl rfl (fun m' hm' => ds_val rfl (x_load Tryz.plain28 rfl (rowH1 (.head _) rfl))) ?_
  refine dr_val rfl rfl (fun m' hm' => ds_callc rfl rfl Tryz.c128 (pFormat_ok (h3.up (hm1.trans hm')) (hT.up (hm1.trans hm')) h4.pol.len h4.pol.tot h4.pol.exp h4.pol.txt)) ?_
  refine dr_done (k := 13) Tryz.mixed rfl rfl rfl fun m2 hm_m2 => ?_
  show WL _ _ _ _ _ _ _ _ _
  refine wv (x_concatB rfl rfl (by simp only [List.length_append, List.length_cons, List.length_nil]; omega)) ?_
  refine was ?_
  refine wns ?_
  refine w_ret ?_
  refine at_endp (res1 rfl rfl) ?_
  rfl
end Go.Cy
