/- certificate.writer.number, node; certificate.validNode. -/
import Derived.Test.YtmamkgbldaehgaaGreatDoorCyWrite
namespace Go.Cy
open Go Go.Proofs
set_option maxRecDepth 20000

def itB (n : Int) : List UInt8 := Lib.itoa n
theorem itB_len {n : Int} (h0 : -9223372036854775808 ≤ n) (h1 : n ≤ 9223372036854775807) : (itB n).length ≤ 21 := Lib.itoa_length_le n h0 h1

theorem number_ok {m : Mem} {T : TypeId} {b : Nat} {L : List UInt8} {H : Hp} {n : Int} (hT : BT T) (hP : Tab Tryz.prog m) (h : Bld T b L H) (h0 : -9223372036854775808 ≤ n) (h1 : n ≤ 9223372036854775807) (hl : L.length + (32 :: itB n).length ≤ 35184372088832) : Does Tryz.prog 70 #[.pointer (some ⟨b, 0, none⟩), .int .i64 n] m H fun r _ H' => r = .tuple #[] ∧ Bld T b (L ++ 32 :: itB n) H' := by
  refine enter Tryz.func70 rfl rfl ?_
  intro K hm0 hks
  refine w_region ?_
  refine wl_val rfl rfl rfl (x_move rfl) ?_
  refine wl_val rfl rfl rfl (x_move rfl) ?_
  refine wl_callp rfl rfl rfl Tryz.c127 (Itoa_ok hP h0 h1) ?_; rintro v1 m1 hm1 rfl
  refine wl_buildSlice rfl rfl Tryz.underlying129 Tryz.size9 Tryz.zero9 rfl rfl rfl rfl rfl ?_; intro b7
  refine wl_calld0 rfl rfl rfl Tryz.c68 (word_ok (ws := [itB n]) hT h (by rw [spaced_one]; exact hl) (by simp)) ?_; rintro v2 m2 H2 hm2 ⟨rfl, h2⟩
  refine wl_nil ?_
  refine at_end_normal (res0 rfl) ?_
  exact ⟨rfl, by rw [spaced_one] at h2; exact h2⟩

/-- A tree: a node's kind, and its cells one by one. -/
inductive Tr (α : Type) where
  | nil (kind : Int)
  | cons (a : α) (sub rest : Tr α)
namespace Tr
variable {α : Type}
def kind : Tr α → Int
  | nil k => k
  | cons _ _ r => r.kind
def len : Tr α → Nat
  | nil _ => 0
  | cons _ _ r => r.len + 1
def size : Tr α → Nat
  | nil _ => 0
  | cons _ s r => s.size + r.size + 1
/-- The cells of a node lie in a row. -/
def Rep (C : Mem → Value → α → Prop) (m : Mem) : Tr α → List Value → Prop
  | nil _, vs => vs = []
  | cons a s r, vs => ∃ c0 c1 c2 c3 c4 c5 c6 ad cap ws vs', vs = c0 :: c1 :: c2 :: c3 :: c4 :: c5 :: c6 :: .int .i64 s.kind :: .slice ad s.len cap :: vs' ∧ (∀ u ∈ [c0, c1, c2, c3, c4, c5, c6], u.oneCell' = true) ∧ C m (.agg #[c0, c1, c2, c3, c4, c5, c6]) a ∧ s.len ≤ cap ∧ s.Rep C m ws ∧ (0 < s.len → ∃ b o, ad = some ⟨b, o, none⟩ ∧ Row m [] b o ws) ∧ r.Rep C m vs'
/-- All nodes can be written; d: how many levels there may be. -/
def headOk (k : Int) (len d : Nat) : Bool := (k == 1 && len == 0) || (((k == 2 && len == 1) || (k == 3 && len != 0)) && d != 0)
def cellsOk : Tr α → Nat → Bool
  | nil _, _ => true
  | cons _ s r, d => (headOk s.kind s.len d && s.cellsOk (d - 1)) && r.cellsOk d
def ok (t : Tr α) (d : Nat) : Bool := headOk t.kind t.len d && t.cellsOk (d - 1)
/-- The first line of a node. -/
def headB (k : Int) (len : Nat) : List UInt8 := (if k = 1 then [108, 101, 97, 102] else if k = 2 then [111, 110, 101] else if k = 3 then [97, 108, 108] ++ 32 :: itB len else []) ++ [10]
def cellsB (txt : α → List UInt8) : Tr α → List UInt8
  | nil _ => []
  | cons a s r => (([97, 116] ++ 32 :: txt a) ++ [10]) ++ ((headB s.kind s.len ++ s.cellsB txt) ++ r.cellsB txt)
def text (txt : α → List UInt8) (t : Tr α) : List UInt8 := headB t.kind t.len ++ t.cellsB txt
theorem Rep.up {C : Mem → Value → α → Prop} (hC : ∀ m m' v a, m.le m' → C m v a → C m' v a) {m m' : Mem} (hm : m.le m') : ∀ {t : Tr α} {vs : List Value}, t.Rep C m vs → t.Rep C m' vs
  | nil _, _, h => h
  | cons _ _ _, _, ⟨c0, c1, c2, c3, c4, c5, c6, ad, cap, ws, vs', h1, h1', h2, h3, h4, h5, h6⟩ =>
    ⟨c0, c1, c2, c3, c4, c5, c6, ad, cap, ws, vs', h1, h1', hC _ _ _ _ hm h2, h3, h4.up hC hm, fun h0 => by obtain ⟨b, o, e, hr⟩ := h5 h0; exact ⟨b, o, e, hr.up hm⟩, h6.up hC hm⟩
theorem Rep.length {C : Mem → Value → α → Prop} {m : Mem} : ∀ {t : Tr α} {vs : List Value}, t.Rep C m vs → vs.length = t.len * 9
  | nil _, _, h => by subst h; simp [len]
  | cons _ _ _, _, ⟨_, _, _, _, _, _, _, _, _, _, vs', h1, _, _, _, _, _, h6⟩ => by
    subst h1
    have := h6.length
    simp only [List.length_cons, len, this]
    omega
theorem kind_rest (a : α) (s r : Tr α) : (cons a s r).kind = r.kind := rfl
theorem headB_le (k : Int) (len : Nat) (h : len ≤ 9223372036854775807) : (headB k len).length ≤ 26 := by
  unfold headB
  have := itB_len (n := len) (by omega) (by omega)
  repeat' split
  all_goals simp
  all_goals omega
theorem len_le_cells (txt : α → List UInt8) : ∀ t : Tr α, t.len ≤ (t.cellsB txt).length
  | nil _ => Nat.le_refl _
  | cons a s r => by
    have := len_le_cells txt r
    simp only [len, cellsB, List.length_append, List.length_cons]
    omega
end Tr

/-- A node in memory. -/
def Nd {α : Type} (C : Mem → Value → α → Prop) (m : Mem) (v : Value) (t : Tr α) : Prop := ∃ ad cap ws, v = .agg #[.int .i64 t.kind, .slice ad t.len cap] ∧ t.len ≤ cap ∧ t.Rep C m ws ∧ (0 < t.len → ∃ b o, ad = some ⟨b, o, none⟩ ∧ Row m [] b o ws)

theorem Row.pre {m : Mem} {H : Hp} {b o : Nat} (xs : List Value) {ys : List Value} (h : Row m H b o (xs ++ ys)) : Row m H b o xs := h.sub 0 rfl fun j hj => by rw [Nat.zero_add, List.getElem?_append_left hj]
theorem Row.suf {m : Mem} {H : Hp} {b o o' : Nat} (xs : List Value) {ys : List Value} (h : Row m H b o (xs ++ ys)) (ho : o' = o + xs.length) : Row m H b o' ys := h.sub xs.length ho fun j _ => by rw [List.getElem?_append_right (by omega)]; congr 1; omega

/-- What validNode says of a tree. -/
def VnOk {α : Type} (C : Mem → Value → α → Prop) (t : Tr α) : Prop := ∀ (m : Mem) (v : Value) (d : Nat), Nd C m v t → d ≤ 1000 → t.size ≤ 35184372088832 → Pure Tryz.prog 82 #[v, .int .i64 d] m fun r _ => r = .bool (t.ok d)
theorem Tr.len_size {α : Type} : ∀ t : Tr α, t.len ≤ t.size
  | .nil _ => Nat.le_refl _
  | .cons a s r => by have := Tr.len_size r; simp only [Tr.len, Tr.size]; omega
theorem Tr.of_len {α : Type} {t : Tr α} (h : 0 < t.len) : ∃ a s r, t = .cons a s r := by
  cases t with
  | nil k => simp [Tr.len] at h
  | cons a s r => exact ⟨a, s, r, rfl⟩
theorem Tr.of_len0 {α : Type} {t : Tr α} (h : t.len = 0) : t = .nil t.kind := by
  cases t with
  | nil k => rfl
  | cons a s r => simp [Tr.len] at h

theorem Tr.all_cells {α : Type} (C : Mem → Value → α → Prop) {m : Mem} {u : Tr α} {vs : List Value} (h : u.Rep C m vs) (hu : 0 < u.len) : ∃ a s r c0 c1 c2 c3 c4 c5 c6 ad cap ws vs', u = .cons a s r ∧ vs = [c0, c1, c2, c3, c4, c5, c6, .int .i64 s.kind, .slice ad s.len cap] ++ vs' ∧ (∀ u ∈ [c0, c1, c2, c3, c4, c5, c6], u.oneCell' = true) ∧ C m (.agg #[c0, c1, c2, c3, c4, c5, c6]) a ∧ s.len ≤ cap ∧ s.Rep C m ws ∧ (0 < s.len → ∃ b o, ad = some ⟨b, o, none⟩ ∧ Row m [] b o ws) ∧ r.Rep C m vs' := by
  obtain ⟨a, s, r, rfl⟩ := Tr.of_len hu
  obtain ⟨c0, c1, c2, c3, c4, c5, c6, ad, cap, ws, vs', h1, h1', h2, h3, h4, h5, h6⟩ := h
  exact ⟨a, s, r, c0, c1, c2, c3, c4, c5, c6, ad, cap, ws, vs', rfl, h1, h1', h2, h3, h4, h5, h6⟩

theorem vn_step {α : Type} {C : Mem → Value → α → Prop} (hC : ∀ m m' v a, m.le m' → C m v a → C m' v a) {t : Tr α} (ih : ∀ t' : Tr α, t'.size < t.size → VnOk C t') : VnOk C t := by
  rintro m v d ⟨ad, cap, ws, rfl, hcap, hrep, hrow⟩ hd hsz
  have hls := t.len_size
  refine enterp Tryz.func82 rfl rfl ?_
  intro K hm0 hks
  refine w_seq ?_
  refine w_region ?_
  refine wl_box rfl rfl rfl rfl ?_; intro b2
  refine wl_val rfl rfl rfl (x_assign rfl) ?_
  refine wl_nil ?_
  refine at_seq ?_
  refine w_seq_mid (fun m' H' env' => m' = m ∧ H' = [(b2, cl 45 [.int .i64 t.kind, .slice ad t.len cap])] ∧ env' = [(1, .int .i64 d), (2, .pointer (some ⟨b2, 0, none⟩)), (4, .bool false)] ∧ t.kind ≠ 1 ∧ ((t.kind == 2 && t.len == 1) || (t.kind == 3 && t.len != 0)) = true) ?_ ?_
  · skip
    refine w_seq ?_
    refine w_region ?_
    refine wl_val rfl rfl rfl (x_fieldAddr Tryz.underlying45 rfl Tryz.size3 rfl) ?_
    refine wl_val rfl rfl rfl (x_load Tryz.plain3 rfl (rowH1 (.head _) rfl)) ?_
    refine wl_nil ?_
    refine at_seq ?_
    refine w_block ?_
    refine w_seq ?_
    refine w_region ?_
    refine wl_val rfl rfl rfl (x_eql rfl rfl) ?_
    refine wl_val rfl rfl rfl (x_assign rfl) ?_
    refine wl_nil ?_
    refine at_seq ?_
    refine w_if rfl (fun h1 => ?_) (fun h1 => ?_)
    · skip
      refine w_seq ?_
      refine w_region ?_
      refine wl_val rfl rfl rfl (x_fieldAddr Tryz.underlying45 rfl Tryz.size43 rfl) ?_
      refine wl_val rfl rfl rfl (x_load Tryz.plain43 rfl (rowH1 (.head _) rfl)) ?_
      refine wl_val rfl rfl rfl (x_len Tryz.underlying43 rfl rfl) ?_
      refine wl_val rfl rfl rfl (x_eql rfl rfl) ?_
      refine wl_val rfl rfl rfl (x_assign rfl) ?_
      refine wl_nil ?_
      refine at_seq ?_
      refine w_ret ?_
      refine at_block_ret ?_
      refine at_then_ret ?_
      refine at_endp (res1 rfl rfl) ?_
      have h0 := @Tr.of_len0 α t
      by_cases hl : t.len = 0
      · rw [h0 hl]; simp [Tr.ok, Tr.headOk, Tr.cellsOk, h1, Tr.kind, Tr.len]
      · simp [Tr.ok, Tr.headOk, h1, hl]
    · skip
      refine w_seq ?_
      refine w_region ?_
      refine wl_val rfl rfl rfl (x_eql rfl rfl) ?_
      refine wl_val rfl rfl rfl (x_assign rfl) ?_
      refine wl_nil ?_
      refine at_seq ?_
      refine w_if rfl (fun h2 => ?_) (fun h2 => ?_)
      · skip
        refine w_seq ?_
        refine w_region ?_
        refine wl_val rfl rfl rfl (x_fieldAddr Tryz.underlying45 rfl Tryz.size43 rfl) ?_
        refine wl_val rfl rfl rfl (x_load Tryz.plain43 rfl (rowH1 (.head _) rfl)) ?_
        refine wl_val rfl rfl rfl (x_len Tryz.underlying43 rfl rfl) ?_
        refine wl_val rfl rfl rfl (x_neq rfl rfl) ?_
        refine wl_nil ?_
        refine at_seq ?_
        refine w_if rfl (fun h3 => ?_) (fun h3 => ?_)
        · skip
          refine w_seq ?_
          refine w_region ?_
          refine wl_val rfl rfl rfl (x_assign rfl) ?_
          refine wl_nil ?_
          refine at_seq ?_
          refine w_ret ?_
          refine at_block_ret ?_
          refine at_then_ret ?_
          refine at_endp (res1 rfl rfl) ?_
          have : t.len ≠ 1 := by omega
          simp [Tr.ok, Tr.headOk, h2, this]
        · skip
          refine w_skip ?_
          refine at_block_normal ?_
          exact at_meets [(1, .int .i64 d), (2, .pointer (some ⟨b2, 0, none⟩)), (4, .bool false)] ⟨rfl, rfl, rfl, h1, by simp [h2, show t.len = 1 by omega]⟩ (by repeat' (first | exact trivial | exact rfl | exact lk_int rfl (by omega) | apply And.intro))
      · skip
        refine w_seq ?_
        refine w_region ?_
        refine wl_val rfl rfl rfl (x_eql rfl rfl) ?_
        refine wl_val rfl rfl rfl (x_assign rfl) ?_
        refine wl_nil ?_
        refine at_seq ?_
        refine w_if rfl (fun h3 => ?_) (fun h3 => ?_)
        · skip
          refine w_seq ?_
          refine w_region ?_
          refine wl_val rfl rfl rfl (x_fieldAddr Tryz.underlying45 rfl Tryz.size43 rfl) ?_
          refine wl_val rfl rfl rfl (x_load Tryz.plain43 rfl (rowH1 (.head _) rfl)) ?_
          refine wl_val rfl rfl rfl (x_len Tryz.underlying43 rfl rfl) ?_
          refine wl_val rfl rfl rfl (x_eql rfl rfl) ?_
          refine wl_nil ?_
          refine at_seq ?_
          refine w_if rfl (fun h4 => ?_) (fun h4 => ?_)
          · skip
            refine w_seq ?_
            refine w_region ?_
            refine wl_val rfl rfl rfl (x_assign rfl) ?_
            refine wl_nil ?_
            refine at_seq ?_
            refine w_ret ?_
            refine at_block_ret ?_
            refine at_then_ret ?_
            refine at_endp (res1 rfl rfl) ?_
            have : t.len = 0 := by omega
            simp [Tr.ok, Tr.headOk, h1, h2, this]
          · skip
            refine w_skip ?_
            refine at_block_normal ?_
            exact at_meets [(1, .int .i64 d), (2, .pointer (some ⟨b2, 0, none⟩)), (4, .bool false)] ⟨rfl, rfl, rfl, h1, by simp [h3, show t.len ≠ 0 by omega]⟩ (by repeat' (first | exact trivial | exact rfl | exact lk_int rfl (by omega) | apply And.intro))
        · skip
          refine w_seq ?_
          refine w_region ?_
          refine wl_val rfl rfl rfl (x_assign rfl) ?_
          refine wl_nil ?_
          refine at_seq ?_
          refine w_ret ?_
          refine at_block_ret ?_
          refine at_then_ret ?_
          refine at_endp (res1 rfl rfl) ?_
          simp [Tr.ok, Tr.headOk, h1, h2, h3]
  · skip
    rintro m' H' env' ⟨rfl, rfl, rfl, hk1, hhead⟩
    refine w_seq ?_
    refine w_seq ?_
    refine w_region ?_
    refine wl_val rfl rfl rfl (x_move rfl) ?_
    refine wl_val rfl rfl rfl (x_eql rfl rfl) ?_
    refine wl_nil ?_
    refine at_seq ?_
    refine w_if rfl (fun h1 => ?_) (fun h1 => ?_)
    · skip
      refine w_seq ?_
      refine w_region ?_
      refine wl_val rfl rfl rfl (x_assign rfl) ?_
      refine wl_nil ?_
      refine at_seq ?_
      refine w_ret ?_
      refine at_then_ret ?_
      refine at_endp (res1 rfl rfl) ?_
      have : d = 0 := by omega
      simp [Tr.ok, Tr.headOk, hk1, this]
    · skip
      have hd0 : d ≠ 0 := by omega
      have hok : t.ok d = t.cellsOk (d - 1) := by simp [Tr.ok, Tr.headOk, hhead, hd0]
      refine w_skip ?_
      refine at_seq ?_
      refine w_seq ?_
      refine w_seq ?_
      refine w_region ?_
      refine wl_val rfl rfl rfl (x_fieldAddr Tryz.underlying45 rfl Tryz.size43 rfl) ?_
      refine wl_val rfl rfl rfl (x_load Tryz.plain43 rfl (rowH1 (.head _) rfl)) ?_
      refine wl_val rfl rfl rfl (x_len Tryz.underlying43 rfl rfl) ?_
      refine wl_val rfl rfl rfl (x_move rfl) ?_
      refine wl_nil ?_
      refine at_seq ?_
      refine w_block ?_
      refine w_loop (fun r m1 H' env' => ∃ i u vs, m'.le m1 ∧ r = u.len ∧ i + u.len = t.len ∧ u.size ≤ t.size ∧ u.Rep C m' vs ∧ (0 < u.len → ∃ b o, ad = some ⟨b, o, none⟩ ∧ Row m' [] b (o + i * 9) vs) ∧ u.cellsOk (d - 1) = t.cellsOk (d - 1) ∧ H' = [(b2, cl 45 [.int .i64 t.kind, .slice ad t.len cap])] ∧ env' = [(1, .int .i64 d), (4, .bool false), (30, .slice ad t.len cap), (31, .int .i64 t.len), (32, .int .i64 (i : Nat))]) t.len [(1, .int .i64 d), (4, .bool false), (30, .slice ad t.len cap), (31, .int .i64 t.len), (32, .int .i64 (0 : Nat))] ⟨0, t, ws, Mem.le.refl _, rfl, by omega, Nat.le_refl _, hrep, by simpa using hrow, rfl, rfl, rfl⟩ (by repeat' (first | exact trivial | exact rfl | exact lk_int rfl (by omega) | apply And.intro)) ?_
      rintro r m1 H' env' ⟨i, u, vs, hm1, rfl, hiu, hus, hur, hrow', hcu, rfl, rfl⟩
      refine w_seq ?_
      refine w_region ?_
      refine wl_val rfl rfl rfl (x_lss rfl rfl) ?_
      refine wl_nil ?_
      refine at_seq ?_
      refine w_seq ?_
      refine w_if rfl (fun h5 => ?_) (fun h5 => ?_)
      · skip
        obtain ⟨bn, on, rfl, hrw⟩ := hrow' (by omega)
        obtain ⟨a, s, rr, c0, c1, c2, c3, c4, c5, c6, ad', cap', ws', vs', rfl, rfl, hone, ha, hcap', hs', hrow2, hr'⟩ := Tr.all_cells C hur (by omega)
        have hss : s.size < t.size := by simp only [Tr.size] at hus; omega
        simp only [Tr.len] at hiu
        refine w_skip ?_
        refine at_seq ?_
        refine w_seq ?_
        refine w_block ?_
        refine w_seq ?_
        refine w_region ?_
        refine wl_val rfl rfl rfl (x_index Tryz.underlying43 Tryz.size57 rfl rfl (j := i) (by omega) (by omega)) ?_
        refine wl_val rfl rfl rfl (x_loads Tryz.agg57 (by exact Tryz.size57) rfl (((hrw.pre [c0, c1, c2, c3, c4, c5, c6, .int .i64 s.kind, .slice ad' s.len cap']).up hm1).heap)) ?_
        refine wl_alloc rfl rfl Tryz.zero57 ?_; intro b6
        refine wl_storeAll rfl (by exact Tryz.size57) rfl rfl (by simpa [Value.oneCell'] using hone) rfl ?_
        refine wl_nil ?_
        refine at_seq ?_
        refine w_seq ?_
        refine w_region ?_
        refine wl_val rfl rfl rfl (x_fieldAddr Tryz.underlying57 rfl Tryz.size45 rfl) ?_
        refine wl_val rfl rfl rfl (x_loads Tryz.agg45 (by exact Tryz.size45) rfl (rowHs (vs := [_, _]) (.head _) 7 rfl)) ?_
        refine wl_val rfl rfl rfl (x_move rfl) ?_
        refine wl_val rfl rfl rfl (x_sub rfl rfl (wrap_i64 (by omega) (by omega) |>.trans (show (d : Int) - 1 = ((d - 1 : Nat) : Int) by omega))) ?_
        refine wl_callp rfl rfl rfl Tryz.c82 (ih s hss _ _ (d - 1) ⟨ad', cap', ws', rfl, hcap', hs'.up hC hm1, fun h0 => by obtain ⟨b, o, e, hr⟩ := hrow2 h0; exact ⟨b, o, e, hr.up hm1⟩⟩ (by omega) (by omega)) ?_; rintro v2 m2 hm2 rfl
        refine wl_val rfl rfl rfl (x_not rfl rfl) ?_
        refine wl_nil ?_
        refine at_seq ?_
        simp only [Tr.cellsOk] at hcu
        refine w_cond rfl (fun h6 => ?_) (fun h6 => ?_)
        · skip
          refine w_seq ?_
          refine w_region ?_
          refine wl_val rfl rfl rfl (x_assign rfl) ?_
          refine wl_nil ?_
          refine at_seq ?_
          refine w_ret ?_
          refine at_block_ret ?_
          refine at_then_ret ?_
          refine at_then_ret ?_
          refine at_block_ret ?_
          refine at_then_ret ?_
          refine at_endp (res1 rfl rfl) ?_
          have h7 : s.ok (d - 1) = false := by simpa using h6
          have h8 : (Tr.headOk s.kind s.len (d - 1) && s.cellsOk (d - 1 - 1)) = false := h7
          rw [hok, ← hcu, h8, Bool.false_and]
        · skip
          have h7 : s.ok (d - 1) = true := by simpa using h6
          have h8 : (Tr.headOk s.kind s.len (d - 1) && s.cellsOk (d - 1 - 1)) = true := h7
          rw [h8, Bool.true_and] at hcu
          refine w_skip ?_
          refine at_block_normal ?_
          refine at_seq ?_
          refine w_region ?_
          refine wl_val rfl rfl rfl (x_add rfl rfl (wrap_i64 (by omega) (by omega))) ?_
          refine wl_val rfl rfl rfl (x_move rfl) ?_
          refine wl_nil ?_
          refine at_drop1 ?_
          exact at_again rr.len [(1, .int .i64 d), (4, .bool false), (30, .slice (some ⟨bn, on, none⟩) t.len cap), (31, .int .i64 t.len), (32, .int .i64 (i + 1 : Nat))] (by simp only [Tr.len]; omega) ⟨i + 1, rr, vs', hm1.trans hm2, rfl, by omega, by simp only [Tr.size] at hus; omega, hr', fun _ => ⟨bn, on, rfl, hrw.suf [_, _, _, _, _, _, _, _, _] (by simp; omega)⟩, hcu, rfl, rfl⟩ (by repeat' (first | exact trivial | exact rfl | exact lk_int rfl (by omega) | apply And.intro))
      · skip
        rw [Tr.of_len0 (show u.len = 0 by omega)] at hcu
        refine w_exit ?_
        refine at_then_exit ?_
        refine at_then_exit ?_
        refine at_block_hit ?_
        refine at_seq ?_
        refine w_seq ?_
        refine w_region ?_
        refine wl_val rfl rfl rfl (x_assign rfl) ?_
        refine wl_nil ?_
        refine at_seq ?_
        refine w_ret ?_
        refine at_endp (res1 rfl rfl) ?_
        rw [hok, ← hcu]; rfl
end Go.Cy

