/- Slices whose elements lie in a row; certificate.writer.lists. -/
import Derived.Test.YtmamkgbldaehgaaGreatDoorCyWrite3
namespace Go.Cy
open Go Go.Proofs
set_option maxRecDepth 20000

/-- A slice of elements of k cells. -/
def Sl {α : Type} (k : Nat) (C : Mem → List Value → α → Prop) (m : Mem) (v : Value) (xs : List α) : Prop :=
  ∃ (ad : Option Addr) (cap : Nat) (vss : List (List Value)), v = .slice ad xs.length cap ∧ xs.length ≤ cap ∧ vss.length = xs.length ∧ (∀ vs ∈ vss, vs.length = k) ∧ (∀ (i : Nat) x, xs[i]? = some x → ∃ vs, vss[i]? = some vs ∧ C m vs x) ∧ (0 < xs.length → ∃ b o, ad = some ⟨b, o, none⟩ ∧ Row m [] b o vss.flatten)
theorem flat_at {α : Type} {k : Nat} : ∀ {vss : List (List α)} {i : Nat} {vs : List α}, (∀ us ∈ vss, us.length = k) → vss[i]? = some vs → ∀ j, j < vs.length → vss.flatten[i * k + j]? = vs[j]?
  | [], i, vs, _, h => by simp at h
  | us :: vss, 0, vs, hk, h => fun j hj => by
    simp at h; subst h
    rw [List.flatten_cons, Nat.zero_mul, Nat.zero_add, List.getElem?_append_left hj]
  | us :: vss, i + 1, vs, hk, h => fun j hj => by
    have h1 : us.length = k := hk us (.head _)
    have h2 := flat_at (fun u hu => hk u (.tail _ hu)) (by simpa using h) j hj
    rw [List.flatten_cons, List.getElem?_append_right (by rw [h1, Nat.add_mul]; omega), ← h2]
    congr 1
    rw [h1, Nat.add_mul]; omega
theorem flat_len {α : Type} {k : Nat} : ∀ {vss : List (List α)}, (∀ us ∈ vss, us.length = k) → vss.flatten.length = vss.length * k
  | [], _ => by simp
  | us :: vss, hk => by
    rw [List.flatten_cons, List.length_append, flat_len (fun u hu => hk u (.tail _ hu)), hk us (.head _), List.length_cons, Nat.add_mul]; omega
theorem Sl.slice {α : Type} {k : Nat} {C : Mem → List Value → α → Prop} {m : Mem} {v : Value} {xs : List α} (h : Sl k C m v xs) : ∃ ad cap, v = .slice ad xs.length cap := by
  obtain ⟨ad, cap, _, h1, _⟩ := h; exact ⟨ad, cap, h1⟩
theorem Sl.get {α : Type} {k : Nat} {C : Mem → List Value → α → Prop} {m : Mem} {ad : Option Addr} {n cap : Nat} {xs : List α} (h : Sl k C m (.slice ad n cap) xs) {i : Nat} (hi : i < xs.length) : ∃ b o vs, ad = some ⟨b, o, none⟩ ∧ vs.length = k ∧ C m vs xs[i] ∧ Row m [] b (o + i * k) vs := by
  obtain ⟨ad', cap', vss, h1, h2, h3, h4, h5, h6⟩ := h
  cases h1
  obtain ⟨b, o, rfl, hr⟩ := h6 (by omega)
  obtain ⟨vs, h7, h8⟩ := h5 i xs[i] (by simp [hi])
  exact ⟨b, o, vs, rfl, h4 vs (List.mem_of_getElem? h7), h8, hr.sub (i * k) rfl (flat_at h4 h7)⟩
theorem Sl.up {α : Type} {k : Nat} {C : Mem → List Value → α → Prop} (hC : ∀ m m' vs a, m.le m' → C m vs a → C m' vs a) {m m' : Mem} {v : Value} {xs : List α} (h : Sl k C m v xs) (hm : m.le m') : Sl k C m' v xs := by
  obtain ⟨ad, cap, vss, h1, h2, h3, h4, h5, h6⟩ := h
  refine ⟨ad, cap, vss, h1, h2, h3, h4, fun i x hx => ?_, fun h0 => ?_⟩
  · obtain ⟨vs, h7, h8⟩ := h5 i x hx; exact ⟨vs, h7, hC _ _ _ _ hm h8⟩
  · obtain ⟨b, o, e, hr⟩ := h6 h0; exact ⟨b, o, e, hr.up hm⟩
theorem Sl.nil {α : Type} {k : Nat} {C : Mem → List Value → α → Prop} {m : Mem} : Sl k C m (.slice none 0 0) ([] : List α) := ⟨none, 0, [], rfl, Nat.le_refl _, rfl, fun _ h => absurd h List.not_mem_nil, fun i x h => by simp at h, fun h => absurd h (Nat.lt_irrefl _)⟩
/-- What is held by slices of slices and the like: a slice in one cell. -/
def One {α : Type} (C : Mem → Value → α → Prop) (m : Mem) (vs : List Value) (x : α) : Prop := ∃ v, vs = [v] ∧ v.oneCell' = true ∧ C m v x
theorem One.up {α : Type} {C : Mem → Value → α → Prop} (hC : ∀ m m' v a, m.le m' → C m v a → C m' v a) : ∀ m m' vs a, m.le m' → One C m vs a → One C m' vs a := fun _ _ _ _ hm ⟨v, h1, h2, h3⟩ => ⟨v, h1, h2, hC _ _ _ _ hm h3⟩

/-- Texts one behind the other. -/
def cat {α : Type} (f : α → List UInt8) (xs : List α) : List UInt8 := (xs.map f).flatten
theorem cat_append {α : Type} (f : α → List UInt8) (x y : List α) : cat f (x ++ y) = cat f x ++ cat f y := by unfold cat; rw [List.map_append, List.flatten_append]
theorem cat_one {α : Type} (f : α → List UInt8) (x : α) : cat f [x] = f x := by simp [cat]
theorem cat_snoc {α : Type} (f : α → List UInt8) {xs : List α} {i : Nat} (h : i < xs.length) : cat f (xs.take (i + 1)) = cat f (xs.take i) ++ f xs[i] := by
  rw [List.take_succ_eq_append_getElem h, cat_append, cat_one]
theorem cat_le {α : Type} (f : α → List UInt8) (xs : List α) (i : Nat) : (cat f (xs.take i)).length ≤ (cat f xs).length := by
  conv => rhs; rw [← List.take_append_drop i xs, cat_append]
  simp
theorem cat_split {α : Type} (f : α → List UInt8) {xs : List α} {i : Nat} (h : i < xs.length) : cat f xs = cat f (xs.take i) ++ (f xs[i] ++ cat f (xs.drop (i + 1))) := by
  conv => lhs; rw [← List.take_append_drop i xs, List.drop_eq_getElem_cons h, cat_append]
  rw [show xs[i] :: List.drop (i + 1) xs = [xs[i]] ++ List.drop (i + 1) xs from rfl, cat_append, cat_one]

def listHd (n : Nat) : List UInt8 := [108, 105, 115, 116] ++ 32 :: itB n
def listB {β : Type} (ptxt : β → List UInt8) (l : List β) : List UInt8 := (listHd l.length ++ cat (fun p => 32 :: ptxt p) l) ++ [10]
def listsHd (n : Nat) : List UInt8 := ([108, 105, 115, 116, 115] ++ 32 :: itB n) ++ [10]
def listsB {β : Type} (ptxt : β → List UInt8) (ls : List (List β)) : List UInt8 := listsHd ls.length ++ cat (listB ptxt) ls

theorem lists_ok {β : Type} {C : Mem → Value → β → Prop} {ptxt : β → List UInt8} (hC : ∀ m m' v a, m.le m' → C m v a → C m' v a) (hF : ∀ m v a, C m v a → Pure Tryz.prog 128 #[v] m fun r _ => r = .string (B (ptxt a)))
    {m : Mem} {b : Nat} {L : List UInt8} {Hb : Hp} {v : Value} {ls : List (List β)} (hB : Bld 117 b L Hb) (hv : Sl 1 (One (Sl 1 (One C))) m v ls) (hT : Tab Tryz.prog m) (hl1 : ls.length ≤ 35184372088832) (hl2 : ∀ l ∈ ls, l.length ≤ 35184372088832) (hlen : L.length + (listsB ptxt ls).length ≤ 35184372088832) :
    Does Tryz.prog 72 #[.pointer (some ⟨b, 0, none⟩), v] m Hb fun r _ H' => r = .tuple #[] ∧ ∃ L', Wrote L (listsB ptxt ls) L' ∧ Bld 117 b L' H' := by
  have hup1 := One.up hC
  have hup2 := One.up (C := Sl 1 (One C)) fun m m' v a hm h => Sl.up hup1 h hm
  obtain ⟨ad, cap, rfl⟩ := hv.slice
  have hit := itB_len (n := (ls.length : Int)) (by omega) (by omega)
  have htx : listsB ptxt ls = listsHd ls.length ++ cat (listB ptxt) ls := rfl
  have hhd : (listsHd ls.length).length = 7 + (itB ls.length).length := by simp [listsHd]; omega
  rw [htx, List.length_append] at hlen
  refine enter Tryz.func72 rfl rfl ?_
  intro K hm0 hks
  refine w_seq ?_
  refine w_region ?_
  refine wl_val rfl rfl rfl (x_move rfl) ?_
  refine wl_calld0 rfl rfl rfl Tryz.c67 (start_ok (s := [108, 105, 115, 116, 115]) bt_writer hB (by simp; omega)) ?_; rintro v1 m1 H1 hm1 ⟨rfl, hB1⟩
  refine wl_nil ?_
  refine at_seq ?_
  refine w_seq ?_
  refine w_region ?_
  refine wl_val rfl rfl rfl (x_move rfl) ?_
  refine wl_val rfl rfl rfl (x_move rfl) ?_
  refine wl_val rfl rfl rfl (x_len Tryz.underlying58 rfl rfl) ?_
  refine wl_calld0 rfl rfl rfl Tryz.c70 (number_ok (n := ls.length) bt_writer (hT.up hm1) hB1 (by omega) (by omega) (by simp; omega)) ?_; rintro v2 m2 H2 hm2 ⟨rfl, hB2⟩
  refine wl_nil ?_
  refine at_seq ?_
  refine w_seq ?_
  refine w_region ?_
  refine wl_val rfl rfl rfl (x_move rfl) ?_
  refine wl_calld0 rfl rfl rfl Tryz.c71 (wend_ok bt_writer hB2 (by simp; omega)) ?_; rintro v3 m3 H3 hm3 ⟨rfl, hB3⟩
  refine wl_nil ?_
  refine at_seq ?_
  refine w_seq ?_
  refine w_region ?_
  refine wl_val rfl rfl rfl (x_move rfl) ?_
  refine wl_val rfl rfl rfl (x_len Tryz.underlying58 rfl rfl) ?_
  refine wl_val rfl rfl rfl (x_move rfl) ?_
  refine wl_nil ?_
  refine at_seq ?_
  refine w_block ?_
  have hm03 := hm1.trans (hm2.trans hm3)
  refine w_loop (fun r m' H' env' => ∃ i Lc, m3.le m' ∧ r + i = ls.length ∧ Wrote L (listsHd ls.length ++ cat (listB ptxt) (ls.take i)) Lc ∧ Bld 117 b Lc H' ∧ env' = [(0, .pointer (some ⟨b, 0, none⟩)), (16, .slice ad ls.length cap), (17, .int .i64 ls.length), (18, .int .i64 (i : Nat))]) ls.length [(0, .pointer (some ⟨b, 0, none⟩)), (16, .slice ad ls.length cap), (17, .int .i64 ls.length), (18, .int .i64 (0 : Nat))] ⟨0, _, Mem.le.refl _, rfl, (Wrote.all L (listsHd ls.length)).as (by simp [cat]), by simpa [listsHd] using hB3, rfl⟩ (by repeat' (first | exact trivial | exact rfl | exact lk_int rfl (by omega) | apply And.intro)) ?_
  rintro r m4 H4 env' ⟨i, Lc, hm4, hri, hW, hB4, rfl⟩
  have hWl := hW.hi
  rw [List.length_append] at hWl
  refine w_seq ?_
  refine w_region ?_
  refine wl_val rfl rfl rfl (x_lss rfl rfl) ?_
  refine wl_nil ?_
  refine at_seq ?_
  refine w_seq ?_
  refine w_if rfl (fun h1 => ?_) (fun h1 => ?_)
  · skip
    have hi : i < ls.length := by omega
    have hcl := congrArg List.length (cat_split (listB ptxt) hi)
    obtain ⟨bl, ol, vs, rfl, hvl, ⟨w, rfl, hw1, hwl⟩, hrow⟩ := hv.get hi
    obtain ⟨ad', cap', rfl⟩ := hwl.slice
    have hli := hl2 _ (List.getElem_mem hi)
    have hit2 := itB_len (n := (ls[i].length : Int)) (by omega) (by omega)
    have hlb : (listB ptxt ls[i]).length = (listHd ls[i].length).length + (cat (fun p => 32 :: ptxt p) ls[i]).length + 1 := by simp [listB]; omega
    have hlh : (listHd ls[i].length).length = 5 + (itB ls[i].length).length := by simp [listHd]; omega
    rw [List.length_append, List.length_append] at hcl
    refine w_skip ?_
    refine at_seq ?_
    refine w_seq ?_
    refine w_block ?_
    refine w_seq ?_
    refine w_region ?_
    refine wl_val rfl rfl rfl (x_index Tryz.underlying58 Tryz.size25 rfl rfl (j := i) (by omega) (by omega)) ?_
    refine wl_val rfl rfl rfl (x_load Tryz.plain25 rfl (((hrow.up (hm03.trans hm4)).heap))) ?_
    refine wl_val rfl rfl rfl (x_assign rfl) ?_
    refine wl_nil ?_
    refine at_seq ?_
    refine w_seq ?_
    refine w_region ?_
    refine wl_val rfl rfl rfl (x_move rfl) ?_
    refine wl_calld0 rfl rfl rfl Tryz.c67 (start_ok (s := [108, 105, 115, 116]) bt_writer hB4 (by simp; omega)) ?_; rintro v5 m5 H5 hm5 ⟨rfl, hB5⟩
    refine wl_nil ?_
    refine at_seq ?_
    refine w_seq ?_
    refine w_region ?_
    refine wl_val rfl rfl rfl (x_move rfl) ?_
    refine wl_val rfl rfl rfl (x_move rfl) ?_
    refine wl_val rfl rfl rfl (x_len Tryz.underlying25 rfl rfl) ?_
    refine wl_calld0 rfl rfl rfl Tryz.c70 (number_ok (n := ls[i].length) bt_writer (hT.up (hm03.trans (hm4.trans hm5))) hB5 (by omega) (by omega) (by simp; omega)) ?_; rintro v6 m6 H6 hm6 ⟨rfl, hB6⟩
    refine wl_nil ?_
    refine at_seq ?_
    refine w_seq ?_
    refine w_seq ?_
    refine w_region ?_
    refine wl_val rfl rfl rfl (x_move rfl) ?_
    refine wl_val rfl rfl rfl (x_len Tryz.underlying25 rfl rfl) ?_
    refine wl_val rfl rfl rfl (x_move rfl) ?_
    refine wl_nil ?_
    refine at_seq ?_
    refine w_block ?_
    have hm06 := hm03.trans (hm4.trans (hm5.trans hm6))
    refine w_loop (fun r m' H' env' => ∃ j Lc', m6.le m' ∧ r + j = ls[i].length ∧ Wrote L ((listsHd ls.length ++ cat (listB ptxt) (ls.take i)) ++ (listHd ls[i].length ++ cat (fun p => 32 :: ptxt p) (ls[i].take j))) Lc' ∧ Bld 117 b Lc' H' ∧ env' = [(0, .pointer (some ⟨b, 0, none⟩)), (16, .slice (some ⟨bl, ol, none⟩) ls.length cap), (17, .int .i64 ls.length), (18, .int .i64 (i : Nat)), (28, .slice ad' ls[i].length cap'), (29, .int .i64 ls[i].length), (30, .int .i64 (j : Nat))]) ls[i].length [(0, .pointer (some ⟨b, 0, none⟩)), (16, .slice (some ⟨bl, ol, none⟩) ls.length cap), (17, .int .i64 ls.length), (18, .int .i64 (i : Nat)), (28, .slice ad' ls[i].length cap'), (29, .int .i64 ls[i].length), (30, .int .i64 (0 : Nat))] ⟨0, _, Mem.le.refl _, rfl, (hW.app (q := listHd ls[i].length)).as (by simp [cat]), by rw [List.append_assoc] at hB6; exact hB6, rfl⟩ (by repeat' (first | exact trivial | exact rfl | exact lk_int rfl (by omega) | apply And.intro)) ?_
    rintro r2 m7 H7 env' ⟨j, Lc', hm7, hrj, hW7, hB7, rfl⟩
    have hWl7 := hW7.hi
    rw [List.length_append, List.length_append, List.length_append] at hWl7
    refine w_seq ?_
    refine w_region ?_
    refine wl_val rfl rfl rfl (x_lss rfl rfl) ?_
    refine wl_nil ?_
    refine at_seq ?_
    refine w_seq ?_
    refine w_if rfl (fun h2 => ?_) (fun h2 => ?_)
    · skip
      have hj : j < ls[i].length := by omega
      have hcl2 := congrArg List.length (cat_split (fun p => 32 :: ptxt p) hj)
      rw [List.length_append, List.length_append, List.length_cons] at hcl2
      obtain ⟨bq, oq, vs', rfl, hvl', ⟨w', rfl, hw1', hwl'⟩, hrow'⟩ := hwl.get hj
      refine w_skip ?_
      refine at_seq ?_
      refine w_seq ?_
      refine w_block ?_
      refine w_seq ?_
      refine w_region ?_
      refine wl_val rfl rfl rfl (x_index Tryz.underlying25 Tryz.size28 rfl rfl (j := j) (by omega) (by omega)) ?_
      refine wl_val rfl rfl rfl (x_load Tryz.plain28 rfl (((hrow'.up (hm06.trans hm7)).heap))) ?_
      refine wl_val rfl rfl rfl (x_assign rfl) ?_
      refine wl_nil ?_
      refine at_seq ?_
      refine w_seq ?_
      refine w_seq ?_
      refine w_region ?_
      refine wl_val rfl rfl rfl (x_move rfl) ?_
      refine wl_calld0 rfl rfl rfl Tryz.c75 (full_ok hB7) ?_; rintro v8 m8 H8 hm8 ⟨rfl, rfl⟩
      refine wl_nil ?_
      refine at_seq ?_
      refine w_if rfl (fun h6 => ?_) (fun h6 => ?_)
      · skip
        refine w_ret ?_
        refine at_then_ret ?_
        refine at_block_ret ?_
        refine at_then_ret ?_
        refine at_then_ret ?_
        refine at_block_ret ?_
        refine at_then_ret ?_
        refine at_block_ret ?_
        refine at_then_ret ?_
        refine at_then_ret ?_
        refine at_block_ret ?_
        refine at_end (res0 rfl) ?_
        refine ⟨rfl, Lc', ?_, hB7⟩
        have e : listsB ptxt ls = ((listsHd ls.length ++ cat (listB ptxt) (ls.take i)) ++ (listHd ls[i].length ++ cat (fun p => 32 :: ptxt p) (ls[i].take j))) ++ (cat (fun p => 32 :: ptxt p) (ls[i].drop j) ++ [10] ++ cat (listB ptxt) (ls.drop (i + 1))) := by
          rw [htx, cat_split (listB ptxt) hi, listB]
          conv => lhs; rw [← List.take_append_drop j ls[i], cat_append]
          simp
        rw [e]
        exact hW7.stop _ h6
      · skip
        refine w_skip ?_
        refine at_seq ?_
        refine w_region ?_
        refine wl_val rfl rfl rfl (x_move rfl) ?_
        refine wl_val rfl rfl rfl (x_move rfl) ?_
        refine wl_callp rfl rfl rfl Tryz.c128 (hF _ _ _ (hC _ _ _ _ (hm06.trans (hm7.trans hm8)) hwl')) ?_; rintro v9 m9 hm9 rfl
        refine wl_buildSlice rfl rfl Tryz.underlying129 Tryz.size9 Tryz.zero9 rfl rfl rfl rfl rfl ?_; intro b39
        refine wl_calld0 rfl rfl rfl Tryz.c68 (word_ok (ws := [ptxt ls[i][j]]) bt_writer hB7 (by rw [spaced_one]; simp; omega) (by simp)) ?_; rintro v10 m10 H10 hm10 ⟨rfl, hB10⟩
        refine wl_nil ?_
        refine at_block_normal ?_
        refine at_seq ?_
        refine w_region ?_
        refine wl_val rfl rfl rfl (x_add rfl rfl (wrap_i64 (by omega) (by omega))) ?_
        refine wl_val rfl rfl rfl (x_move rfl) ?_
        refine wl_nil ?_
        exact at_again (r2 - 1) [(0, .pointer (some ⟨b, 0, none⟩)), (16, .slice (some ⟨bl, ol, none⟩) ls.length cap), (17, .int .i64 ls.length), (18, .int .i64 (i : Nat)), (28, .slice (some ⟨bq, oq, none⟩) ls[i].length cap'), (29, .int .i64 ls[i].length), (30, .int .i64 (j + 1 : Nat))] (by omega) ⟨j + 1, _, hm7.trans (hm8.trans (hm9.trans hm10)), by omega, (hW7.app (q := spaced [ptxt ls[i][j]])).as (by rw [cat_snoc _ hj, spaced_one]; simp), hB10, rfl⟩ (by repeat' (first | exact trivial | exact rfl | exact lk_int rfl (by omega) | apply And.intro))
    · skip
      obtain rfl : j = ls[i].length := by omega
      rw [List.take_length] at hW7 hWl7
      refine w_exit ?_
      refine at_then_exit ?_
      refine at_then_exit ?_
      refine at_block_hit ?_
      refine at_seq ?_
      refine w_region ?_
      refine wl_val rfl rfl rfl (x_move rfl) ?_
      refine wl_calld0 rfl rfl rfl Tryz.c71 (wend_ok bt_writer hB7 (by omega)) ?_; rintro v8 m8 H8 hm8 ⟨rfl, hB8⟩
      refine wl_nil ?_
      refine at_block_normal ?_
      refine at_seq ?_
      refine w_region ?_
      refine wl_val rfl rfl rfl (x_add rfl rfl (wrap_i64 (by omega) (by omega))) ?_
      refine wl_val rfl rfl rfl (x_move rfl) ?_
      refine wl_nil ?_
      exact at_again (r - 1) [(0, .pointer (some ⟨b, 0, none⟩)), (16, .slice (some ⟨bl, ol, none⟩) ls.length cap), (17, .int .i64 ls.length), (18, .int .i64 (i + 1 : Nat))] (by omega) ⟨i + 1, _, hm4.trans (hm5.trans (hm6.trans (hm7.trans hm8))), by omega, (hW7.app (q := [10])).as (by rw [cat_snoc _ hi, listB]; simp), hB8, rfl⟩ (by repeat' (first | exact trivial | exact rfl | exact lk_int rfl (by omega) | apply And.intro))
  · skip
    obtain rfl : i = ls.length := by omega
    rw [List.take_length] at hW
    refine w_exit ?_
    refine at_then_exit ?_
    refine at_then_exit ?_
    refine at_block_hit ?_
    refine at_end_normal (res0 rfl) ?_
    exact ⟨rfl, Lc, hW, hB4⟩
end Go.Cy

