/- strconv.FormatBool. -/
import Derived.Test.YtmamkgbldaehgaaGreatDoorCyText
import Derived.Test.YtmamkgbldaehgaaGreatDoorCyShelf
import Derived.Test.YtmamkgbldaehgaaGreatDoorTryzShelf
import Derived.Lib.ItoaLen
import Derived.Shelf.Strconv.Atoi
import Derived.Shelf.Strconv.AtoiErrFast
import Derived.Shelf.Strconv.ParseIntEmpty
import Derived.Shelf.Strconv.AtoiFail
import Derived.Shelf.Strconv.Clone
import Derived.Shelf.Strconv.SyntaxError
import Derived.Shelf.LaysC
import Derived.Shelf.Strconv.ToError
import Derived.Shelf.Strconv.Lower
import Derived.Shelf.Strconv.ParseUint10
import Derived.Shelf.Strconv.ParseUint10Empty
import Derived.Shelf.Strconv.ParseUint10Any
import Derived.Shelf.Strconv.ParseInt10
import Derived.Shelf.Strconv.AtoiLong
import Derived.Shelf.Strconv.AtoiInnerAll
import Derived.Shelf.Strconv.RangeError
import Derived.Shelf.Strconv.ToErrorRange
import Derived.Shelf.Strconv.AtoiAll
import Derived.Shelf.Strconv.ErrVarAll
import Derived.Below
import Derived.WideLaws
import Derived.Lib.ByteType
import Derived.Test.YtmamkgbldaehgaaGreatDoorCyDiv
namespace Go.Cy
open Go Go.Proofs
set_option maxRecDepth 20000

def boolB (b : Bool) : List UInt8 := if b then [116, 114, 117, 101] else [102, 97, 108, 115, 101]
theorem formatBool_ok {m : Mem} {b : Bool} : Pure Tryz.prog 126 #[.bool b] m fun r _ => r = .string (B (boolB b)) := by
  refine enterp Tryz.func126 rfl rfl ?_
  intro K hm0 hks
  refine wsr ?_
  refine was ?_
  refine wns ?_
  refine w_seq ?_
  refine wsr ?_
  refine wmv ?_
  refine wns ?_
  refine w_cond rfl (fun h => ?_) (fun h => ?_)
  · skip
    subst h
    refine wsr ?_
    refine was ?_
    refine wns ?_
    refine w_ret ?_
    refine at_then_ret ?_
    refine at_endp (res1 rfl rfl) ?_
    rfl
  · skip
    subst h
    refine w_skip ?_
    refine at_seq ?_
    refine wsr ?_
    refine was ?_
    refine wns ?_
    refine w_ret ?_
    refine at_endp (res1 rfl rfl) ?_
    rfl
theorem FormatBool_ok {m : Mem} {b : Bool} : Pure Tryz.prog 69 #[.bool b] m fun r _ => r = .string (B (boolB b)) := by
  refine enterp Tryz.func69 rfl rfl ?_
  intro K hm0 hks
  refine wsr ?_
  refine was ?_
  refine wnr ?_
  refine wmv ?_
  refine wl_callp rfl rfl rfl Tryz.c126 (formatBool_ok) ?_; rintro v1 m1 hm1 rfl
  refine was ?_
  refine wns ?_
  refine w_ret ?_
  refine at_endp (res1 rfl rfl) ?_
  rfl

theorem Itoa_ok {m : Mem} {n : Int} (hT : Tab Tryz.prog m) (h0 : -9223372036854775808 ≤ n) (h1 : n ≤ 9223372036854775807) : Pure Tryz.prog 127 #[.int .i64 n] m fun r _ => r = .string (B (Lib.itoa n)) :=
  Pure.of_grow fun w hf => Tryz.strconv_Itoa n h0 h1 w (hT w hf)
end Go.Cy


/- certificate.writer: words, numbers, lines, trees. -/
namespace Go.Cy
open Go Go.Proofs
set_option maxRecDepth 20000

structure Wrote (L p L' : List UInt8) : Prop where
  lo : L.length ≤ L'.length
  hi : L'.length ≤ L.length + p.length
  eq : L' = L ++ p ∨ 1048576 < L'.length
theorem Wrote.all (L p : List UInt8) : Wrote L p (L ++ p) := ⟨by simp, by simp, .inl rfl⟩
theorem Wrote.none (L : List UInt8) : Wrote L [] L := ⟨Nat.le_refl _, by simp, .inl (by simp)⟩
theorem Wrote.full {L : List UInt8} (p : List UInt8) (h : 1048576 < L.length) : Wrote L p L := ⟨Nat.le_refl _, by omega, .inr h⟩
theorem Wrote.trans {L p L' q L'' : List UInt8} (h : Wrote L p L') (k : Wrote L' q L'') : Wrote L (p ++ q) L'' := by
  have h1 := h.lo; have h2 := h.hi; have k1 := k.lo; have k2 := k.hi
  refine ⟨by omega, by simp; omega, ?_⟩
  rcases h.eq with e | e
  · subst e
    rcases k.eq with e | e
    · subst e; exact .inl (by simp)
    · exact .inr e
  · exact .inr (by omega)
theorem Wrote.as {L p L' q : List UInt8} (h : Wrote L p L') (e : p = q) : Wrote L q L' := e ▸ h
theorem Wrote.app {L p L' q : List UInt8} (h : Wrote L p L') : Wrote L (p ++ q) (L' ++ q) := h.trans (Wrote.all _ _)

theorem start_ok {m : Mem} {T : TypeId} {b : Nat} {L s : List UInt8} {H : Hp} (hT : BT T) (h : Bld T b L H) (hl : L.length + s.length ≤ 35184372088832) : Does Tryz.prog 67 #[.pointer (some ⟨b, 0, none⟩), .string (B s)] m H fun r _ H' => r = .tuple #[] ∧ Bld T b (L ++ s) H' := by
  refine enter Tryz.func67 rfl rfl ?_
  intro K hm0 hks
  refine w_region ?_
  refine wmv ?_
  refine wv (x_nilCheck rfl) ?_
  refine wv (x_fieldAddr Tryz.underlying117 rfl Tryz.size115 rfl) ?_
  refine wmv ?_
  refine wl_calld0 rfl rfl rfl Tryz.c124 (WriteString_ok hT h hl) ?_; rintro v1 m1 H1 hm1 ⟨rfl, h1⟩
  refine wl_nil ?_
  refine at_end_normal (res0 rfl) ?_
  exact ⟨rfl, h1⟩
theorem wend_ok {m : Mem} {T : TypeId} {b : Nat} {L : List UInt8} {H : Hp} (hT : BT T) (h : Bld T b L H) (hl : L.length ≤ 35184372088832) : Does Tryz.prog 71 #[.pointer (some ⟨b, 0, none⟩)] m H fun r _ H' => r = .tuple #[] ∧ Bld T b (L ++ [10]) H' := by
  refine enter Tryz.func71 rfl rfl ?_
  intro K hm0 hks
  refine w_region ?_
  refine wmv ?_
  refine wv (x_nilCheck rfl) ?_
  refine wv (x_fieldAddr Tryz.underlying117 rfl Tryz.size115 rfl) ?_
  refine wl_calld0 rfl rfl rfl Tryz.c125 (WriteByte_ok (c := 10) hT h hl) ?_; rintro v1 m1 H1 hm1 ⟨rfl, h1⟩
  refine wl_nil ?_
  refine at_end_normal (res0 rfl) ?_
  exact ⟨rfl, h1⟩
theorem full_ok {m : Mem} {T : TypeId} {b : Nat} {L : List UInt8} {H : Hp} (h : Bld T b L H) : Does Tryz.prog 75 #[.pointer (some ⟨b, 0, none⟩)] m H fun r _ H' => r = .bool (decide (1048576 < L.length)) ∧ H' = H := by
  refine enter Tryz.func75 rfl rfl ?_
  intro K hm0 hks
  refine wsr ?_
  refine was ?_
  refine wnr ?_
  refine wmv ?_
  refine wv (x_nilCheck rfl) ?_
  refine wv (x_fieldAddr Tryz.underlying117 rfl Tryz.size115 rfl) ?_
  refine wl_calld0 rfl rfl rfl Tryz.c131 (BLen_ok h) ?_; rintro v1 m1 H1 hm1 ⟨rfl, rfl⟩
  refine wv (x_gtr rfl rfl) ?_
  refine was ?_
  refine wns ?_
  refine w_ret ?_
  refine at_end (res1 rfl rfl) ?_
  exact ⟨by congr 1; rw [decide_eq_decide]; omega, rfl⟩

def wsv (ws : List (List UInt8)) : List Value := ws.map fun s => .string (B s)
theorem wsv_get {ws : List (List UInt8)} {i : Nat} (h : i < ws.length) : (wsv ws)[i]? = some (.string (B ws[i])) := by simp [wsv, h]
def spaced (ws : List (List UInt8)) : List UInt8 := (ws.map fun s => 32 :: s).flatten
theorem spaced_append (x y : List (List UInt8)) : spaced (x ++ y) = spaced x ++ spaced y := by unfold spaced; rw [List.map_append, List.flatten_append]
theorem spaced_one (s : List UInt8) : spaced [s] = 32 :: s := by simp [spaced]
theorem spaced_snoc {ws : List (List UInt8)} {i : Nat} (h : i < ws.length) : spaced (ws.take (i + 1)) = spaced (ws.take i) ++ 32 :: ws[i] := by
  rw [List.take_succ_eq_append_getElem h, spaced_append, spaced_one]
theorem spaced_le {ws : List (List UInt8)} (i : Nat) : (spaced (ws.take i)).length ≤ (spaced ws).length := by
  conv => rhs; rw [← List.take_append_drop i ws, spaced_append]
  simp
theorem word_ok {m : Mem} {T : TypeId} {b bw : Nat} {L : List UInt8} {ws : List (List UInt8)} {Hb : Hp} (hT : BT T) (h : Bld T b L Hb) (hl : L.length + (spaced ws).length ≤ 35184372088832) (hw : ws.length ≤ 35184372088832) : Does Tryz.prog 68 #[.pointer (some ⟨b, 0, none⟩), .slice (some ⟨bw, 0, none⟩) ws.length ws.length] m ((bw, cl 9 (wsv ws)) :: Hb) fun r _ H' => r = .tuple #[] ∧ Bld T b (L ++ spaced ws) H' := by
  refine enter Tryz.func68 rfl rfl ?_
  intro K hm0 hks
  refine wsr ?_
  refine wmv ?_
  refine wv (x_len Tryz.underlying129 rfl rfl) ?_
  refine wmv ?_
  refine wns ?_
  refine w_block ?_
  refine w_loop (fun r m' H' env' => ∃ i Hb', r + i = ws.length ∧ Bld T b (L ++ spaced (ws.take i)) Hb' ∧ H' = (bw, cl 9 (wsv ws)) :: Hb' ∧ env' = [(0, .pointer (some ⟨b, 0, none⟩)), (6, .slice (some ⟨bw, 0, none⟩) ws.length ws.length), (7, .int .i64 ws.length), (8, .int .i64 (i : Nat))]) ws.length [(0, .pointer (some ⟨b, 0, none⟩)), (6, .slice (some ⟨bw, 0, none⟩) ws.length ws.length), (7, .int .i64 ws.length), (8, .int .i64 (0 : Nat))] ⟨0, _, rfl, by simpa [spaced] using h, rfl, rfl⟩ (by repeat' (first | exact trivial | exact rfl | exact lk_int rfl (by omega) | apply And.intro)) ?_
  rintro r m1 H' env' ⟨i, Hb1, hri, h1, rfl, rfl⟩
  refine wsr ?_
  refine wv (x_lss rfl rfl) ?_
  refine wns ?_
  refine w_seq ?_
  refine w_if rfl (fun h2 => ?_) (fun h2 => ?_)
  · skip
    have hi : i < ws.length := by omega
    have g1 := spaced_le (ws := ws) (i + 1)
    have g2 := spaced_snoc hi
    rw [g2] at g1
    simp only [List.length_append, List.length_cons] at g1
    refine w_skip ?_
    refine at_seq ?_
    refine w_seq ?_
    refine w_block ?_
    refine wsr ?_
    refine wv (x_index Tryz.underlying129 Tryz.size9 rfl rfl (j := i) (by omega) (by omega)) ?_
    refine wv (x_load Tryz.plain9 rfl ((rowH1 (v := .string (B ws[i])) (.head _) (by rw [show 0 + i * 1 = i by omega]; exact wsv_get hi)))) ?_
    refine was ?_
    refine wnr ?_
    refine wmv ?_
    refine wv (x_nilCheck rfl) ?_
    refine wv (x_fieldAddr Tryz.underlying117 rfl Tryz.size115 rfl) ?_
    refine wl_calld1 rfl rfl rfl Tryz.c125 (WriteByte_ok (c := 32) hT h1 (by simp; omega)) ?_; rintro v2 m2 H2 hm2 ⟨rfl, h3⟩
    refine wns ?_
    refine w_region ?_
    refine wmv ?_
    refine wv (x_nilCheck rfl) ?_
    refine wv (x_fieldAddr Tryz.underlying117 rfl Tryz.size115 rfl) ?_
    refine wmv ?_
    refine wl_calld1 rfl rfl rfl Tryz.c124 (WriteString_ok (s := ws[i]) hT h3 (by simp; omega)) ?_; rintro v4 m4 H4 hm4 ⟨rfl, h4⟩
    refine wl_nil ?_
    refine at_block_normal ?_
    refine at_seq ?_
    refine w_region ?_
    refine wv (x_add rfl rfl (wrap_i64 (by omega) (by omega))) ?_
    refine wmv ?_
    refine wl_nil ?_
    exact at_again (r - 1) [(0, .pointer (some ⟨b, 0, none⟩)), (6, .slice (some ⟨bw, 0, none⟩) ws.length ws.length), (7, .int .i64 ws.length), (8, .int .i64 (i + 1 : Nat))] (by omega) ⟨i + 1, H4, by omega, by rw [g2]; simpa using h4, rfl, rfl⟩ (by repeat' (first | exact trivial | exact rfl | exact lk_int rfl (by omega) | apply And.intro))
  · skip
    obtain rfl : i = ws.length := by omega
    rw [List.take_length] at h1
    refine w_exit ?_
    refine at_then_exit ?_
    refine at_then_exit ?_
    refine at_block_hit ?_
    refine at_drop1 ?_
    refine at_end_normal (res0 rfl) ?_
    exact ⟨rfl, h1⟩
theorem wordm_ok {m : Mem} {T : TypeId} {b bw ow : Nat} {L : List UInt8} {ws : List (List UInt8)} {Hb : Hp} (hT : BT T) (h : Bld T b L Hb) (hr : Row m [] bw ow (wsv ws)) (hl : L.length + (spaced ws).length ≤ 35184372088832) (hw : ws.length ≤ 35184372088832) : Does Tryz.prog 68 #[.pointer (some ⟨b, 0, none⟩), .slice (some ⟨bw, ow, none⟩) ws.length ws.length] m Hb fun r _ H' => r = .tuple #[] ∧ Bld T b (L ++ spaced ws) H' := by
  refine enter Tryz.func68 rfl rfl ?_
  intro K hm0 hks
  refine wsr ?_
  refine wmv ?_
  refine wv (x_len Tryz.underlying129 rfl rfl) ?_
  refine wmv ?_
  refine wns ?_
  refine w_block ?_
  refine w_loop (fun r m' H' env' => ∃ i, m.le m' ∧ r + i = ws.length ∧ Bld T b (L ++ spaced (ws.take i)) H' ∧ env' = [(0, .pointer (some ⟨b, 0, none⟩)), (6, .slice (some ⟨bw, ow, none⟩) ws.length ws.length), (7, .int .i64 ws.length), (8, .int .i64 (i : Nat))]) ws.length [(0, .pointer (some ⟨b, 0, none⟩)), (6, .slice (some ⟨bw, ow, none⟩) ws.length ws.length), (7, .int .i64 ws.length), (8, .int .i64 (0 : Nat))] ⟨0, Mem.le.refl _, rfl, by simpa [spaced] using h, rfl⟩ (by repeat' (first | exact trivial | exact rfl | exact lk_int rfl (by omega) | apply And.intro)) ?_
  rintro r m1 H' env' ⟨i, hm1, hri, h1, rfl⟩
  refine wsr ?_
  refine wv (x_lss rfl rfl) ?_
  refine wns ?_
  refine w_seq ?_
  refine w_if rfl (fun h2 => ?_) (fun h2 => ?_)
  · skip
    have hi : i < ws.length := by omega
    have g1 := spaced_le (ws := ws) (i + 1)
    have g2 := spaced_snoc hi
    rw [g2] at g1
    simp only [List.length_append, List.length_cons] at g1
    refine w_skip ?_
    refine at_seq ?_
    refine w_seq ?_
    refine w_block ?_
    refine wsr ?_
    refine wv (x_index Tryz.underlying129 Tryz.size9 rfl rfl (j := i) (by omega) (by omega)) ?_
    refine wv (x_load Tryz.plain9 rfl (((hr.up hm1).heap.nth i (wsv_get hi) (by omega)))) ?_
    refine was ?_
    refine wnr ?_
    refine wmv ?_
    refine wv (x_nilCheck rfl) ?_
    refine wv (x_fieldAddr Tryz.underlying117 rfl Tryz.size115 rfl) ?_
    refine wl_calld0 rfl rfl rfl Tryz.c125 (WriteByte_ok (c := 32) hT h1 (by simp; omega)) ?_; rintro v2 m2 H2 hm2 ⟨rfl, h3⟩
    refine wns ?_
    refine w_region ?_
    refine wmv ?_
    refine wv (x_nilCheck rfl) ?_
    refine wv (x_fieldAddr Tryz.underlying117 rfl Tryz.size115 rfl) ?_
    refine wmv ?_
    refine wl_calld0 rfl rfl rfl Tryz.c124 (WriteString_ok (s := ws[i]) hT h3 (by simp; omega)) ?_; rintro v4 m4 H4 hm4 ⟨rfl, h4⟩
    refine wl_nil ?_
    refine at_block_normal ?_
    refine at_seq ?_
    refine w_region ?_
    refine wv (x_add rfl rfl (wrap_i64 (by omega) (by omega))) ?_
    refine wmv ?_
    refine wl_nil ?_
    exact at_again (r - 1) [(0, .pointer (some ⟨b, 0, none⟩)), (6, .slice (some ⟨bw, ow, none⟩) ws.length ws.length), (7, .int .i64 ws.length), (8, .int .i64 (i + 1 : Nat))] (by omega) ⟨i + 1, hm1.trans (hm2.trans hm4), by omega, by rw [g2]; simpa using h4, rfl⟩ (by repeat' (first | exact trivial | exact rfl | exact lk_int rfl (by omega) | apply And.intro))
  · skip
    obtain rfl : i = ws.length := by omega
    rw [List.take_length] at h1
    refine w_exit ?_
    refine at_then_exit ?_
    refine at_then_exit ?_
    refine at_block_hit ?_
    refine at_end_normal (res0 rfl) ?_
    exact ⟨rfl, h1⟩
end Go.Cy


/- certificate.writer.number, node; certificate.validNode. -/
namespace Go.Cy
open Go Go.Proofs
set_option maxRecDepth 20000

def itB (n : Int) : List UInt8 := Lib.itoa n
theorem itB_len {n : Int} (h0 : -9223372036854775808 ≤ n) (h1 : n ≤ 9223372036854775807) : (itB n).length ≤ 21 := Lib.itoa_length_le n h0 h1

theorem number_ok {m : Mem} {T : TypeId} {b : Nat} {L : List UInt8} {H : Hp} {n : Int} (hT : BT T) (hP : Tab Tryz.prog m) (h : Bld T b L H) (h0 : -9223372036854775808 ≤ n) (h1 : n ≤ 9223372036854775807) (hl : L.length + (32 :: itB n).length ≤ 35184372088832) : Does Tryz.prog 70 #[.pointer (some ⟨b, 0, none⟩), .int .i64 n] m H fun r _ H' => r = .tuple #[] ∧ Bld T b (L ++ 32 :: itB n) H' := by
  refine enter Tryz.func70 rfl rfl ?_
  intro K hm0 hks
  refine w_region ?_
  refine wmv ?_
  refine wmv ?_
  refine wl_callp rfl rfl rfl Tryz.c127 (Itoa_ok hP h0 h1) ?_; rintro v1 m1 hm1 rfl
  refine wl_buildSlice rfl rfl Tryz.underlying129 Tryz.size9 Tryz.zero9 rfl rfl rfl rfl rfl ?_; intro b7
  refine wl_calld0 rfl rfl rfl Tryz.c68 (word_ok (ws := [itB n]) hT h (by rw [spaced_one]; exact hl) (by simp)) ?_; rintro v2 m2 H2 hm2 ⟨rfl, h2⟩
  refine wl_nil ?_
  refine at_end_normal (res0 rfl) ?_
  exact ⟨rfl, by rw [spaced_one] at h2; exact h2⟩

inductive Tr (α : Type) where
  | nil (kind : Int)
  | cons (a : α) (sub rest : Tr α)
namespace Tr
variable {α : Type}
def kind : Tr α → Int
  | nil k => k
  | cons _ _ r => r.kind
def len : Tr α → Nat
  | nil _ => 0
  | cons _ _ r => r.len + 1
def size : Tr α → Nat
  | nil _ => 0
  | cons _ s r => s.size + r.size + 1
def Rep (C : Mem → Value → α → Prop) (m : Mem) : Tr α → List Value → Prop
  | nil _, vs => vs = []
  | cons a s r, vs => ∃ c0 c1 c2 c3 c4 c5 c6 ad cap ws vs', vs = c0 :: c1 :: c2 :: c3 :: c4 :: c5 :: c6 :: .int .i64 s.kind :: .slice ad s.len cap :: vs' ∧ (∀ u ∈ [c0, c1, c2, c3, c4, c5, c6], u.oneCell' = true) ∧ C m (.agg #[c0, c1, c2, c3, c4, c5, c6]) a ∧ s.len ≤ cap ∧ s.Rep C m ws ∧ (0 < s.len → ∃ b o, ad = some ⟨b, o, none⟩ ∧ Row m [] b o ws) ∧ r.Rep C m vs'
def headOk (k : Int) (len d : Nat) : Bool := (k == 1 && len == 0) || (((k == 2 && len == 1) || (k == 3 && len != 0)) && d != 0)
def cellsOk : Tr α → Nat → Bool
  | nil _, _ => true
  | cons _ s r, d => (headOk s.kind s.len d && s.cellsOk (d - 1)) && r.cellsOk d
def ok (t : Tr α) (d : Nat) : Bool := headOk t.kind t.len d && t.cellsOk (d - 1)
def headB (k : Int) (len : Nat) : List UInt8 := (if k = 1 then [108, 101, 97, 102] else if k = 2 then [111, 110, 101] else if k = 3 then [97, 108, 108] ++ 32 :: itB len else []) ++ [10]
def cellsB (txt : α → List UInt8) : Tr α → List UInt8
  | nil _ => []
  | cons a s r => (([97, 116] ++ 32 :: txt a) ++ [10]) ++ ((headB s.kind s.len ++ s.cellsB txt) ++ r.cellsB txt)
def text (txt : α → List UInt8) (t : Tr α) : List UInt8 := headB t.kind t.len ++ t.cellsB txt
theorem Rep.up {C : Mem → Value → α → Prop} (hC : ∀ m m' v a, m.le m' → C m v a → C m' v a) {m m' : Mem} (hm : m.le m') : ∀ {t : Tr α} {vs : List Value}, t.Rep C m vs → t.Rep C m' vs
  | nil _, _, h => h
  | cons _ _ _, _, ⟨c0, c1, c2, c3, c4, c5, c6, ad, cap, ws, vs', h1, h1', h2, h3, h4, h5, h6⟩ =>
    ⟨c0, c1, c2, c3, c4, c5, c6, ad, cap, ws, vs', h1, h1', hC _ _ _ _ hm h2, h3, h4.up hC hm, fun h0 => by obtain ⟨b, o, e, hr⟩ := h5 h0; exact ⟨b, o, e, hr.up hm⟩, h6.up hC hm⟩
theorem Rep.length {C : Mem → Value → α → Prop} {m : Mem} : ∀ {t : Tr α} {vs : List Value}, t.Rep C m vs → vs.length = t.len * 9
  | nil _, _, h => by subst h; simp [len]
  | cons _ _ _, _, ⟨_, _, _, _, _, _, _, _, _, _, vs', h1, _, _, _, _, _, h6⟩ => by
    subst h1
    have := h6.length
    simp only [List.length_cons, len, this]
    omega
theorem headB_le (k : Int) (len : Nat) (h : len ≤ 9223372036854775807) : (headB k len).length ≤ 26 := by
  unfold headB
  have := itB_len (n := len) (by omega) (by omega)
  repeat' split
  all_goals simp
  all_goals omega
theorem len_le_cells (txt : α → List UInt8) : ∀ t : Tr α, t.len ≤ (t.cellsB txt).length
  | nil _ => Nat.le_refl _
  | cons a s r => by
    have := len_le_cells txt r
    simp only [len, cellsB, List.length_append, List.length_cons]
    omega
end Tr

def Nd {α : Type} (C : Mem → Value → α → Prop) (m : Mem) (v : Value) (t : Tr α) : Prop := ∃ ad cap ws, v = .agg #[.int .i64 t.kind, .slice ad t.len cap] ∧ t.len ≤ cap ∧ t.Rep C m ws ∧ (0 < t.len → ∃ b o, ad = some ⟨b, o, none⟩ ∧ Row m [] b o ws)

theorem Row.pre {m : Mem} {H : Hp} {b o : Nat} (xs : List Value) {ys : List Value} (h : Row m H b o (xs ++ ys)) : Row m H b o xs := h.sub 0 rfl fun j hj => by rw [Nat.zero_add, List.getElem?_append_left hj]
theorem Row.suf {m : Mem} {H : Hp} {b o o' : Nat} (xs : List Value) {ys : List Value} (h : Row m H b o (xs ++ ys)) (ho : o' = o + xs.length) : Row m H b o' ys := h.sub xs.length ho fun j _ => by rw [List.getElem?_append_right (by omega)]; congr 1; omega

def VnOk {α : Type} (C : Mem → Value → α → Prop) (t : Tr α) : Prop := ∀ (m : Mem) (v : Value) (d : Nat), Nd C m v t → d ≤ 1000 → t.size ≤ 35184372088832 → Pure Tryz.prog 82 #[v, .int .i64 d] m fun r _ => r = .bool (t.ok d)
theorem Tr.len_size {α : Type} : ∀ t : Tr α, t.len ≤ t.size
  | .nil _ => Nat.le_refl _
  | .cons a s r => by have := Tr.len_size r; simp only [Tr.len, Tr.size]; omega
theorem Tr.of_len {α : Type} {t : Tr α} (h : 0 < t.len) : ∃ a s r, t = .cons a s r := by
  cases t with
  | nil k => simp [Tr.len] at h
  | cons a s r => exact ⟨a, s, r, rfl⟩
theorem Tr.of_len0 {α : Type} {t : Tr α} (h : t.len = 0) : t = .nil t.kind := by
  cases t with
  | nil k => rfl
  | cons a s r => simp [Tr.len] at h

theorem Tr.all_cells {α : Type} (C : Mem → Value → α → Prop) {m : Mem} {u : Tr α} {vs : List Value} (h : u.Rep C m vs) (hu : 0 < u.len) : ∃ a s r c0 c1 c2 c3 c4 c5 c6 ad cap ws vs', u = .cons a s r ∧ vs = [c0, c1, c2, c3, c4, c5, c6, .int .i64 s.kind, .slice ad s.len cap] ++ vs' ∧ (∀ u ∈ [c0, c1, c2, c3, c4, c5, c6], u.oneCell' = true) ∧ C m (.agg #[c0, c1, c2, c3, c4, c5, c6]) a ∧ s.len ≤ cap ∧ s.Rep C m ws ∧ (0 < s.len → ∃ b o, ad = some ⟨b, o, none⟩ ∧ Row m [] b o ws) ∧ r.Rep C m vs' := by
  obtain ⟨a, s, r, rfl⟩ := Tr.of_len hu
  obtain ⟨c0, c1, c2, c3, c4, c5, c6, ad, cap, ws, vs', h1, h1', h2, h3, h4, h5, h6⟩ := h
  exact ⟨a, s, r, c0, c1, c2, c3, c4, c5, c6, ad, cap, ws, vs', rfl, h1, h1', h2, h3, h4, h5, h6⟩

theorem vn_step {α : Type} {C : Mem → Value → α → Prop} (hC : ∀ m m' v a, m.le m' → C m v a → C m' v a) {t : Tr α} (ih : ∀ t' : Tr α, t'.size < t.size → VnOk C t') : VnOk C t := by
  rintro m v d ⟨ad, cap, ws, rfl, hcap, hrep, hrow⟩ hd hsz
  have hls := t.len_size
  refine enterp Tryz.func82 rfl rfl ?_
  intro K hm0 hks
  refine wsr ?_
  refine wl_box rfl rfl rfl rfl ?_; intro b2
  refine was ?_
  refine wns ?_
  refine w_seq_mid (fun m' H' env' => m' = m ∧ H' = [(b2, cl 45 [.int .i64 t.kind, .slice ad t.len cap])] ∧ env' = [(1, .int .i64 d), (2, .pointer (some ⟨b2, 0, none⟩)), (4, .bool false)] ∧ t.kind ≠ 1 ∧ ((t.kind == 2 && t.len == 1) || (t.kind == 3 && t.len != 0)) = true) ?_ ?_
  · skip
    refine wsr ?_
    refine wv (x_fieldAddr Tryz.underlying45 rfl Tryz.size3 rfl) ?_
    refine wv (x_load Tryz.plain3 rfl (rowH1 (.head _) rfl)) ?_
    refine wns ?_
    refine w_block ?_
    refine wsr ?_
    refine wv (x_eql rfl rfl) ?_
    refine was ?_
    refine wns ?_
    refine w_if rfl (fun h1 => ?_) (fun h1 => ?_)
    · skip
      refine wsr ?_
      refine wv (x_fieldAddr Tryz.underlying45 rfl Tryz.size43 rfl) ?_
      refine wv (x_load Tryz.plain43 rfl (rowH1 (.head _) rfl)) ?_
      refine wv (x_len Tryz.underlying43 rfl rfl) ?_
      refine wv (x_eql rfl rfl) ?_
      refine was ?_
      refine wns ?_
      refine w_ret ?_
      refine at_block_ret ?_
      refine at_then_ret ?_
      refine at_endp (res1 rfl rfl) ?_
      have h0 := @Tr.of_len0 α t
      by_cases hl : t.len = 0
      · rw [h0 hl]; simp [Tr.ok, Tr.headOk, Tr.cellsOk, h1, Tr.kind, Tr.len]
      · simp [Tr.ok, Tr.headOk, h1, hl]
    · skip
      refine wsr ?_
      refine wv (x_eql rfl rfl) ?_
      refine was ?_
      refine wns ?_
      refine w_if rfl (fun h2 => ?_) (fun h2 => ?_)
      · skip
        refine wsr ?_
        refine wv (x_fieldAddr Tryz.underlying45 rfl Tryz.size43 rfl) ?_
        refine wv (x_load Tryz.plain43 rfl (rowH1 (.head _) rfl)) ?_
        refine wv (x_len Tryz.underlying43 rfl rfl) ?_
        refine wv (x_neq rfl rfl) ?_
        refine wns ?_
        refine w_if rfl (fun h3 => ?_) (fun h3 => ?_)
        · skip
          refine wsr ?_
          refine was ?_
          refine wns ?_
          refine w_ret ?_
          refine at_block_ret ?_
          refine at_then_ret ?_
          refine at_endp (res1 rfl rfl) ?_
          have : t.len ≠ 1 := by omega
          simp [Tr.ok, Tr.headOk, h2, this]
        · skip
          refine w_skip ?_
          refine at_block_normal ?_
          exact at_meets [(1, .int .i64 d), (2, .pointer (some ⟨b2, 0, none⟩)), (4, .bool false)] ⟨rfl, rfl, rfl, h1, by simp [h2, show t.len = 1 by omega]⟩ (by repeat' (first | exact trivial | exact rfl | exact lk_int rfl (by omega) | apply And.intro))
      · skip
        refine wsr ?_
        refine wv (x_eql rfl rfl) ?_
        refine was ?_
        refine wns ?_
        refine w_if rfl (fun h3 => ?_) (fun h3 => ?_)
        · skip
          refine wsr ?_
          refine wv (x_fieldAddr Tryz.underlying45 rfl Tryz.size43 rfl) ?_
          refine wv (x_load Tryz.plain43 rfl (rowH1 (.head _) rfl)) ?_
          refine wv (x_len Tryz.underlying43 rfl rfl) ?_
          refine wv (x_eql rfl rfl) ?_
          refine wns ?_
          refine w_if rfl (fun h4 => ?_) (fun h4 => ?_)
          · skip
            refine wsr ?_
            refine was ?_
            refine wns ?_
            refine w_ret ?_
            refine at_block_ret ?_
            refine at_then_ret ?_
            refine at_endp (res1 rfl rfl) ?_
            have : t.len = 0 := by omega
            simp [Tr.ok, Tr.headOk, h1, h2, this]
          · skip
            refine w_skip ?_
            refine at_block_normal ?_
            exact at_meets [(1, .int .i64 d), (2, .pointer (some ⟨b2, 0, none⟩)), (4, .bool false)] ⟨rfl, rfl, rfl, h1, by simp [h3, show t.len ≠ 0 by omega]⟩ (by repeat' (first | exact trivial | exact rfl | exact lk_int rfl (by omega) | apply And.intro))
        · skip
          refine wsr ?_
          refine was ?_
          refine wns ?_
          refine w_ret ?_
          refine at_block_ret ?_
          refine at_then_ret ?_
          refine at_endp (res1 rfl rfl) ?_
          simp [Tr.ok, Tr.headOk, h1, h2, h3]
  · skip
    rintro m' H' env' ⟨rfl, rfl, rfl, hk1, hhead⟩
    refine w_seq ?_
    refine wsr ?_
    refine wmv ?_
    refine wv (x_eql rfl rfl) ?_
    refine wns ?_
    refine w_if rfl (fun h1 => ?_) (fun h1 => ?_)
    · skip
      refine wsr ?_
      refine was ?_
      refine wns ?_
      refine w_ret ?_
      refine at_then_ret ?_
      refine at_endp (res1 rfl rfl) ?_
      have : d = 0 := by omega
      simp [Tr.ok, Tr.headOk, hk1, this]
    · skip
      have hd0 : d ≠ 0 := by omega
      have hok : t.ok d = t.cellsOk (d - 1) := by simp [Tr.ok, Tr.headOk, hhead, hd0]
      refine w_skip ?_
      refine at_seq ?_
      refine w_seq ?_
      refine wsr ?_
      refine wv (x_fieldAddr Tryz.underlying45 rfl Tryz.size43 rfl) ?_
      refine wv (x_load Tryz.plain43 rfl (rowH1 (.head _) rfl)) ?_
      refine wv (x_len Tryz.underlying43 rfl rfl) ?_
      refine wmv ?_
      refine wns ?_
      refine w_block ?_
      refine w_loop (fun r m1 H' env' => ∃ i u vs, m'.le m1 ∧ r = u.len ∧ i + u.len = t.len ∧ u.size ≤ t.size ∧ u.Rep C m' vs ∧ (0 < u.len → ∃ b o, ad = some ⟨b, o, none⟩ ∧ Row m' [] b (o + i * 9) vs) ∧ u.cellsOk (d - 1) = t.cellsOk (d - 1) ∧ H' = [(b2, cl 45 [.int .i64 t.kind, .slice ad t.len cap])] ∧ env' = [(1, .int .i64 d), (4, .bool false), (30, .slice ad t.len cap), (31, .int .i64 t.len), (32, .int .i64 (i : Nat))]) t.len [(1, .int .i64 d), (4, .bool false), (30, .slice ad t.len cap), (31, .int .i64 t.len), (32, .int .i64 (0 : Nat))] ⟨0, t, ws, Mem.le.refl _, rfl, by omega, Nat.le_refl _, hrep, by simpa using hrow, rfl, rfl, rfl⟩ (by repeat' (first | exact trivial | exact rfl | exact lk_int rfl (by omega) | apply And.intro)) ?_
      rintro r m1 H' env' ⟨i, u, vs, hm1, rfl, hiu, hus, hur, hrow', hcu, rfl, rfl⟩
      refine wsr ?_
      refine wv (x_lss rfl rfl) ?_
      refine wns ?_
      refine w_seq ?_
      refine w_if rfl (fun h5 => ?_) (fun h5 => ?_)
      · skip
        obtain ⟨bn, on, rfl, hrw⟩ := hrow' (by omega)
        obtain ⟨a, s, rr, c0, c1, c2, c3, c4, c5, c6, ad', cap', ws', vs', rfl, rfl, hone, ha, hcap', hs', hrow2, hr'⟩ := Tr.all_cells C hur (by omega)
        have hss : s.size < t.size := by simp only [Tr.size] at hus; omega
        simp only [Tr.len] at hiu
        refine w_skip ?_
        refine at_seq ?_
        refine w_seq ?_
        refine w_block ?_
        refine wsr ?_
        refine wv (x_index Tryz.underlying43 Tryz.size57 rfl rfl (j := i) (by omega) (by omega)) ?_
        refine wv (x_loads Tryz.agg57 (by exact Tryz.size57) rfl (((hrw.pre [c0, c1, c2, c3, c4, c5, c6, .int .i64 s.kind, .slice ad' s.len cap']).up hm1).heap)) ?_
        refine wl_alloc rfl rfl Tryz.zero57 ?_; intro b6
        refine wl_storeAll rfl (by exact Tryz.size57) rfl rfl (by simpa [Value.oneCell'] using hone) rfl ?_
        refine wnr ?_
        refine wv (x_fieldAddr Tryz.underlying57 rfl Tryz.size45 rfl) ?_
        refine wv (x_loads Tryz.agg45 (by exact Tryz.size45) rfl (rowHs (vs := [_, _]) (.head _) 7 rfl)) ?_
        refine wmv ?_
        refine wv (x_sub rfl rfl (wrap_i64 (by omega) (by omega) |>.trans (show (d : Int) - 1 = ((d - 1 : Nat) : Int) by omega))) ?_
        refine wl_callp rfl rfl rfl Tryz.c82 (ih s hss _ _ (d - 1) ⟨ad', cap', ws', rfl, hcap', hs'.up hC hm1, fun h0 => by obtain ⟨b, o, e, hr⟩ := hrow2 h0; exact ⟨b, o, e, hr.up hm1⟩⟩ (by omega) (by omega)) ?_; rintro v2 m2 hm2 rfl
        refine wv (x_not rfl rfl) ?_
        refine wns ?_
        simp only [Tr.cellsOk] at hcu
        refine w_cond rfl (fun h6 => ?_) (fun h6 => ?_)
        · skip
          refine wsr ?_
          refine was ?_
          refine wns ?_
          refine w_ret ?_
          refine at_block_ret ?_
          refine at_then_ret ?_
          refine at_then_ret ?_
          refine at_block_ret ?_
          refine at_then_ret ?_
          refine at_endp (res1 rfl rfl) ?_
          have h7 : s.ok (d - 1) = false := by simpa using h6
          have h8 : (Tr.headOk s.kind s.len (d - 1) && s.cellsOk (d - 1 - 1)) = false := h7
          rw [hok, ← hcu, h8, Bool.false_and]
        · skip
          have h7 : s.ok (d - 1) = true := by simpa using h6
          have h8 : (Tr.headOk s.kind s.len (d - 1) && s.cellsOk (d - 1 - 1)) = true := h7
          rw [h8, Bool.true_and] at hcu
          refine w_skip ?_
          refine at_block_normal ?_
          refine at_seq ?_
          refine w_region ?_
          refine wv (x_add rfl rfl (wrap_i64 (by omega) (by omega))) ?_
          refine wmv ?_
          refine wl_nil ?_
          refine at_drop1 ?_
          exact at_again rr.len [(1, .int .i64 d), (4, .bool false), (30, .slice (some ⟨bn, on, none⟩) t.len cap), (31, .int .i64 t.len), (32, .int .i64 (i + 1 : Nat))] (by simp only [Tr.len]; omega) ⟨i + 1, rr, vs', hm1.trans hm2, rfl, by omega, by simp only [Tr.size] at hus; omega, hr', fun _ => ⟨bn, on, rfl, hrw.suf [_, _, _, _, _, _, _, _, _] (by simp; omega)⟩, hcu, rfl, rfl⟩ (by repeat' (first | exact trivial | exact rfl | exact lk_int rfl (by omega) | apply And.intro))
      · skip
        rw [Tr.of_len0 (show u.len = 0 by omega)] at hcu
        refine w_exit ?_
        refine at_then_exit ?_
        refine at_then_exit ?_
        refine at_block_hit ?_
        refine at_seq ?_
        refine wsr ?_
        refine was ?_
        refine wns ?_
        refine w_ret ?_
        refine at_endp (res1 rfl rfl) ?_
        rw [hok, ← hcu]; rfl
end Go.Cy


/- checkpoly.format and Format: the text of a polynomial. -/
namespace Go.Cy
open Go Go.Proofs
set_option maxRecDepth 20000

def facB (k : Nat) (n : Int) : List UInt8 := if n = 0 then [] else ([42, 120] ++ itB ((k + 1 : Nat) : Int)) ++ if 1 < n then [94] ++ itB n else []
def exsB (es : List Int) (k : Nat) : List UInt8 := ((List.range k).map fun i => facB i (es.getD i 0)).flatten
theorem exsB_succ (es : List Int) (k : Nat) : exsB es (k + 1) = exsB es k ++ facB k (es.getD k 0) := by
  unfold exsB; rw [List.range_succ]; simp
theorem exsB_le (es : List Int) : ∀ (k j : Nat), k ≤ j → (exsB es k).length ≤ (exsB es j).length := by
  intro k j h
  induction h with
  | refl => exact Nat.le_refl _
  | step _ ih => rw [exsB_succ, List.length_append]; exact Nat.le_trans ih (Nat.le_add_right _ _)
theorem tot_mem {t : Tm} {l : List Tm} (h : t ∈ l) : t.1.natAbs ≤ tot l := by
  induction l with
  | nil => simp at h
  | cons u l ih =>
    simp only [tot]
    rcases List.mem_cons.1 h with rfl | h
    · omega
    · have := ih h; omega
def termB (t : Tm) : List UInt8 := decB t.1 ++ exsB t.2 4
def plusB (l : List Tm) : List UInt8 := (l.map fun t => 43 :: termB t).flatten
def bodyB : List Tm → List UInt8
  | [] => []
  | t :: l => termB t ++ plusB l
def polyB (ts : List Tm) : List UInt8 := if ts = [] then [48] else bodyB ts
def preB (l : List Tm) : List UInt8 := if l = [] then [] else bodyB l ++ [43]
theorem bodyB_snoc (l : List Tm) (t : Tm) : bodyB (l ++ [t]) = preB l ++ termB t := by
  cases l with
  | nil => simp [bodyB, preB, plusB]
  | cons u l => simp [bodyB, preB, plusB]
theorem bodyB_le (a b : List Tm) : (bodyB a).length ≤ (bodyB (a ++ b)).length := by
  cases a with
  | nil => simp [bodyB]
  | cons t a => simp [bodyB, plusB]
theorem decB_ne (z : Int) : decB z ≠ [] := by
  unfold decB
  split
  · simp
  · rename_i h
    rw [revD_pos (by omega)]; simp
def Fm (t : Tm) : Prop := dlen t.1.natAbs ≤ 1000000000000 ∧ ∀ e ∈ t.2, -9223372036854775808 ≤ e ∧ e ≤ 9223372036854775807
theorem Fm.get {t : Tm} (h : Fm t) (k : Nat) : -9223372036854775808 ≤ t.2.getD k 0 ∧ t.2.getD k 0 ≤ 9223372036854775807 := by
  by_cases hk : k < t.2.length
  · rw [List.getD_eq_getElem?_getD, List.getElem?_eq_getElem hk]; exact h.2 _ (List.getElem_mem hk)
  · rw [List.getD_eq_getElem?_getD, List.getElem?_eq_none (by omega)]; decide
section
variable {P : Program} {n : Nat} {env : Env} {m : Mem} {H : Hp} {d : Option Nat} {ty : TypeId} {pos : String} {aft : Array Edge} {g : Option (Nat × Bool)} {x y : Operand}
theorem x_index4 {T E : TypeId} {k k' : IntKind} {a0 a1 a2 a3 p : Int} {j : Nat} (ht : P.underlying T = some (.array 4 E)) (hs : sizeIs P E 1) (hpl : plainT P E) (hx : ev env x = some (.agg [.int k a0, .int k a1, .int k a2, .int k a3].toArray)) (hy : ev env y = some (.int k' p)) (hp : p = (j : Int)) (hj : j < 4) :
    Ex P n ⟨d, .index T x y, ty, pos, aft, g⟩ env m H (.int k ([a0, a1, a2, a3].getD j 0)) := fun a w ha _ _ => by
  subst hp
  have h1 := run_isAgg_plain hpl
  have h2 : ∀ i : Nat, i < 4 → (0 : Int) ≤ i ∧ (i : Int) < 4 := fun i h => by omega
  match j, hj with
  | 0, _ => simp [execOp, ha.ev hx, ha.ev hy, Instr.index, asIntOf, underlying, ht, run_sizeOf hs, part, h1]
  | 1, _ => simp [execOp, ha.ev hx, ha.ev hy, Instr.index, asIntOf, underlying, ht, run_sizeOf hs, part, h1]
  | 2, _ => simp [execOp, ha.ev hx, ha.ev hy, Instr.index, asIntOf, underlying, ht, run_sizeOf hs, part, h1]
  | 3, _ => simp [execOp, ha.ev hx, ha.ev hy, Instr.index, asIntOf, underlying, ht, run_sizeOf hs, part, h1]
end

theorem pformat_ok {m : Mem} {v : Value} {ts : List Tm} (hv : Pv m v ts) (hT : Tab Tryz.prog m) (hl : ts.length ≤ 1073741824) (hf : ∀ t ∈ ts, Fm t) (hb : (polyB ts).length ≤ 35184372088000) : Pure Tryz.prog 122 #[v] m fun r _ => r = .string (B (polyB ts)) := by
  obtain ⟨ad, cap, xs, rfl, hrow, hall, hcap⟩ := hv
  have hxl := hall.len
  refine enterp Tryz.func122 rfl rfl ?_
  intro K hm0 hks
  refine wsr ?_
  refine was ?_
  refine wns ?_
  refine w_seq ?_
  refine wsr ?_
  refine wmv ?_
  refine wv (x_len Tryz.underlying28 rfl rfl) ?_
  refine wv (x_eql rfl rfl) ?_
  refine wns ?_
  refine w_if rfl (fun h0 => ?_) (fun h0 => ?_)
  · skip
    refine wsr ?_
    refine was ?_
    refine wns ?_
    refine w_ret ?_
    refine at_then_ret ?_
    refine at_endp (res1 rfl rfl) ?_
    rw [polyB, if_pos (List.length_eq_zero_iff.1 (by omega))]; rfl
  · skip
    have hne : ts ≠ [] := fun h => h0 (by rw [h]; rfl)
    have hpb : polyB ts = bodyB ts := by rw [polyB, if_neg hne]
    rw [hpb] at hb ⊢
    refine w_skip ?_
    refine at_seq ?_
    refine wsr ?_
    refine wl_alloc rfl rfl Tryz.zero115 ?_; intro b3
    refine wns ?_
    refine w_seq ?_
    refine wsr ?_
    refine wmv ?_
    refine wv (x_len Tryz.underlying28 rfl rfl) ?_
    refine wmv ?_
    refine wns ?_
    refine w_block ?_
    refine w_loop (fun r m' H' env' => ∃ i, i + r = ts.length ∧ m.le m' ∧ Bld 115 b3 (bodyB (ts.take i)) H' ∧ env' = [(3, .pointer (some ⟨b3, 0, none⟩)), (11, .slice ad ts.length cap), (12, .int .i64 ts.length), (13, .int .i64 (i : Nat))]) ts.length [(3, .pointer (some ⟨b3, 0, none⟩)), (11, .slice ad ts.length cap), (12, .int .i64 ts.length), (13, .int .i64 (0 : Nat))] ⟨0, by omega, Mem.le.refl _, Bld.new _ _, rfl⟩ (by repeat' (first | exact trivial | exact rfl | exact lk_int rfl (by omega) | apply And.intro)) ?_
    rintro r m1 H' env' ⟨i, hi, hm1, hB, rfl⟩
    refine wsr ?_
    refine wv (x_lss rfl rfl) ?_
    refine wns ?_
    refine w_seq ?_
    refine w_if rfl (fun h1 => ?_) (fun h1 => ?_)
    · skip
      obtain ⟨b, o, rfl, hrow'⟩ := hrow (by omega)
      obtain ⟨A, x, B', rfl, hA⟩ := split_at xs i (by omega)
      obtain ⟨t1, t2, hts, ha1, ha2⟩ := hall.split
      rcases t2 with _ | ⟨t, t2⟩
      · exact ha2.elim
      have hil : i = t1.length := by rw [← hA]; exact ha1.len
      rw [hts, hil, List.take_left' rfl] at hB
      have hx := ha2.1.up hm1
      have htk : ts.take (i + 1) = t1 ++ [t] := by rw [hts, show t1 ++ t :: t2 = (t1 ++ [t]) ++ t2 by simp, List.take_left' (by simp; omega)]
      have hft := hf t (by rw [hts]; simp)
      have hlt : (preB t1).length + (termB t).length ≤ 35184372088000 := by
        rw [← List.length_append, ← bodyB_snoc]
        refine Nat.le_trans (bodyB_le (t1 ++ [t]) t2) ?_
        rw [hts] at hb
        simpa using hb
      have hlt2 : (termB t).length = (decB t.1).length + (exsB t.2 4).length := List.length_append
      have hrx : Row m1 H' b (o + i * 6) x.cells := ((hrow'.up hm1).heap).sub (i * 6) rfl (fl6_row (by omega))
      refine w_skip ?_
      refine at_seq ?_
      refine w_seq ?_
      refine w_block ?_
      refine wsr ?_
      refine wmv ?_
      refine wv (x_index Tryz.underlying28 Tryz.size72 rfl rfl (j := i) (by omega) (by omega)) ?_
      refine wv (x_loads Tryz.agg72 (by exact Tryz.size72) rfl (hrx)) ?_
      refine wl_alloc rfl rfl Tryz.zero72 ?_; intro b5
      refine was ?_
      refine wl_storeAll rfl (by exact Tryz.size72) rfl rfl (by exact TV.one x) rfl ?_
      refine wns ?_
      refine w_seq_mid (fun m' H' env' => ∃ Hb, m1.le m' ∧ Bld 115 b3 (preB t1) Hb ∧ H' = (b5, cl 72 x.cells) :: Hb ∧ env' = [(3, .pointer (some ⟨b3, 0, none⟩)), (11, .slice (some ⟨b, o, none⟩) ts.length cap), (12, .int .i64 ts.length), (13, .int .i64 (i : Nat)), (5, .pointer (some ⟨b5, 0, none⟩))]) ?_ ?_
      · skip
        refine wsr ?_
        refine wmv ?_
        refine wv (x_gtr rfl rfl) ?_
        refine wns ?_
        refine w_if rfl (fun hi0 => ?_) (fun hi0 => ?_)
        · skip
          have hne1 : t1 ≠ [] := fun h => by rw [h] at hil; simp at hil; omega
          have hpe : preB t1 = bodyB t1 ++ [43] := by rw [preB, if_neg hne1]
          rw [hpe] at hlt ⊢
          rw [List.length_append] at hlt
          refine w_region ?_
          refine wl_calld1 rfl rfl rfl Tryz.c125 (WriteByte_ok (c := 43) bt_builder hB (by omega)) ?_; rintro v2 m2 H2 hm2 ⟨rfl, hB2⟩
          refine wl_nil ?_
          exact at_meets [(3, .pointer (some ⟨b3, 0, none⟩)), (11, .slice (some ⟨b, o, none⟩) ts.length cap), (12, .int .i64 ts.length), (13, .int .i64 (i : Nat)), (5, .pointer (some ⟨b5, 0, none⟩))] ⟨H2, hm2, hB2, rfl, rfl⟩ (by repeat' (first | exact trivial | exact rfl | exact lk_int rfl (by omega) | apply And.intro))
        · skip
          have hne1 : t1 = [] := List.length_eq_zero_iff.1 (by omega)
          subst hne1
          refine w_skip ?_
          exact at_meets [(3, .pointer (some ⟨b3, 0, none⟩)), (11, .slice (some ⟨b, o, none⟩) ts.length cap), (12, .int .i64 ts.length), (13, .int .i64 (i : Nat)), (5, .pointer (some ⟨b5, 0, none⟩))] ⟨_, Mem.le.refl _, hB, rfl, rfl⟩ (by repeat' (first | exact trivial | exact rfl | exact lk_int rfl (by omega) | apply And.intro))
      · skip
        rintro m2 H' env' ⟨Hb, hm2, hB2, rfl, rfl⟩
        refine wsr ?_
        refine wv (x_fieldAddr Tryz.underlying72 rfl Tryz.size49 rfl) ?_
        refine wv (x_loads Tryz.agg49 (by exact Tryz.size49) rfl (rowHs (vs := [_, _]) (.head _) 0 rfl)) ?_
        refine wl_callp rfl rfl rfl Tryz.c129 (DecFormat_ok (hx.1.up hm2) hft.1) ?_; rintro v3 m3 hm3 rfl
        refine wl_calld1 rfl rfl rfl Tryz.c124 (WriteString_ok (s := decB t.1) bt_builder hB2 (by omega)) ?_; rintro v4 m4 H4 hm4 ⟨rfl, hB4⟩
        refine wnr ?_
        refine wv (x_fieldAddr Tryz.underlying72 rfl Tryz.size70 rfl) ?_
        refine wv (x_loads Tryz.agg70 (by exact Tryz.size70) rfl (rowHs (vs := [_, _, _, _]) (.head _) 2 rfl)) ?_
        refine wmv ?_
        refine wns ?_
        refine w_block ?_
        refine w_loop (fun r m' H' env' => ∃ k Hb, k + r = 4 ∧ m4.le m' ∧ Bld 115 b3 (preB t1 ++ decB t.1 ++ exsB t.2 k) Hb ∧ H' = (b5, cl 72 x.cells) :: Hb ∧ env' = [(3, .pointer (some ⟨b3, 0, none⟩)), (11, .slice (some ⟨b, o, none⟩) ts.length cap), (12, .int .i64 ts.length), (13, .int .i64 (i : Nat)), (5, .pointer (some ⟨b5, 0, none⟩)), (26, .agg [.int .i64 x.e0, .int .i64 x.e1, .int .i64 x.e2, .int .i64 x.e3].toArray), (27, .int .i64 (k : Nat))]) 4 [(3, .pointer (some ⟨b3, 0, none⟩)), (11, .slice (some ⟨b, o, none⟩) ts.length cap), (12, .int .i64 ts.length), (13, .int .i64 (i : Nat)), (5, .pointer (some ⟨b5, 0, none⟩)), (26, .agg [.int .i64 x.e0, .int .i64 x.e1, .int .i64 x.e2, .int .i64 x.e3].toArray), (27, .int .i64 (0 : Nat))] ⟨0, H4, by omega, Mem.le.refl _, by simpa [exsB] using hB4, rfl, rfl⟩ (by repeat' (first | exact trivial | exact rfl | exact lk_int rfl (by omega) | apply And.intro)) ?_
        rintro r2 m5 H' env' ⟨k, Hb5, hk, hm5, hB5, rfl, rfl⟩
        refine wsr ?_
        refine wv (x_lss rfl rfl) ?_
        refine wns ?_
        refine w_seq ?_
        refine w_if rfl (fun h3 => ?_) (fun h3 => ?_)
        · skip
          have hk4 : k < 4 := by omega
          have hes := exsB_le t.2 (k + 1) 4 (by omega)
          rw [exsB_succ, List.length_append] at hes
          have hen : [x.e0, x.e1, x.e2, x.e3].getD k 0 = t.2.getD k 0 := by rw [← hx.2]; rfl
          have hbn := hft.get k
          rw [← hen] at hes hbn
          refine w_skip ?_
          refine at_seq ?_
          refine w_seq ?_
          refine w_block ?_
          refine wsr ?_
          refine wmv ?_
          refine wv (x_index4 Tryz.underlying70 Tryz.size3 Tryz.plain3 rfl rfl (j := k) rfl (by omega)) ?_
          refine was ?_
          refine was ?_
          refine wns ?_
          refine w_seq ?_
          refine wsr ?_
          refine wmv ?_
          refine wv (x_eql rfl rfl) ?_
          refine wns ?_
          refine w_if rfl (fun hz => ?_) (fun hz => ?_)
          · skip
            refine w_exit ?_
            refine at_then_exit ?_
            refine at_block_hit ?_
            refine at_seq ?_
            refine w_region ?_
            refine wv (x_add rfl rfl (wrap_i64 (by omega) (by omega))) ?_
            refine wmv ?_
            refine wl_nil ?_
            exact at_again (r2 - 1) [(3, .pointer (some ⟨b3, 0, none⟩)), (11, .slice (some ⟨b, o, none⟩) ts.length cap), (12, .int .i64 ts.length), (13, .int .i64 (i : Nat)), (5, .pointer (some ⟨b5, 0, none⟩)), (26, .agg [.int .i64 x.e0, .int .i64 x.e1, .int .i64 x.e2, .int .i64 x.e3].toArray), (27, .int .i64 (k + 1 : Nat))] (by omega) ⟨k + 1, _, by omega, hm5, by rw [exsB_succ, ← hen, hz, facB, if_pos rfl, List.append_nil]; exact hB5, rfl, rfl⟩ (by repeat' (first | exact trivial | exact rfl | exact lk_int rfl (by omega) | apply And.intro))
          · skip
            have hfe : facB k ([x.e0, x.e1, x.e2, x.e3].getD k 0) = ([42, 120] ++ itB ((k + 1 : Nat) : Int)) ++ if 1 < [x.e0, x.e1, x.e2, x.e3].getD k 0 then [94] ++ itB ([x.e0, x.e1, x.e2, x.e3].getD k 0) else [] := by rw [facB, if_neg hz]
            rw [hfe, List.length_append, List.length_append] at hes
            have hT5 := (hT.up hm1).up (hm2.trans (hm3.trans (hm4.trans hm5)))
            refine w_skip ?_
            refine at_seq ?_
            refine wsr ?_
            refine wl_calld1 rfl rfl rfl Tryz.c124 (WriteString_ok (s := [42, 120]) bt_builder hB5 (by simp only [List.length_append]; omega)) ?_; rintro v6 m6 H6 hm6 ⟨rfl, hB6⟩
            refine wnr ?_
            refine wmv ?_
            refine wv (x_add rfl rfl (asN (k + 1) (by omega) (by omega))) ?_
            refine wl_callp rfl rfl rfl Tryz.c127 (Itoa_ok (hT5.up hm6) (by omega) (by omega)) ?_; rintro v7 m7 hm7 rfl
            refine wl_calld1 rfl rfl rfl Tryz.c124 (WriteString_ok (s := itB ((k + 1 : Nat) : Int)) bt_builder hB6 (by simp only [List.length_append]; omega)) ?_; rintro v8 m8 H8 hm8 ⟨rfl, hB8⟩
            refine wnr ?_
            refine wmv ?_
            refine wv (x_gtr rfl rfl) ?_
            refine wns ?_
            refine w_if rfl (fun h4 => ?_) (fun h4 => ?_)
            · skip
              rw [if_pos h4, List.length_append] at hes
              rw [if_pos h4] at hfe
              refine wsr ?_
              refine wl_calld1 rfl rfl rfl Tryz.c125 (WriteByte_ok (c := 94) bt_builder hB8 (by simp only [List.length_append]; omega)) ?_; rintro v9 m9 H9 hm9 ⟨rfl, hB9⟩
              refine wns ?_
              refine w_region ?_
              refine wmv ?_
              refine wl_callp rfl rfl rfl Tryz.c127 (Itoa_ok (hT5.up (hm6.trans (hm7.trans (hm8.trans hm9)))) (by omega) (by omega)) ?_; rintro v10 m10 hm10 rfl
              refine wl_calld1 rfl rfl rfl Tryz.c124 (WriteString_ok (s := itB ([x.e0, x.e1, x.e2, x.e3].getD k 0)) bt_builder hB9 (by simp only [List.length_append]; omega)) ?_; rintro v11 m11 H11 hm11 ⟨rfl, hB11⟩
              refine wl_nil ?_
              refine at_block_normal ?_
              refine at_seq ?_
              refine w_region ?_
              refine wv (x_add rfl rfl (wrap_i64 (by omega) (by omega))) ?_
              refine wmv ?_
              refine wl_nil ?_
              exact at_again (r2 - 1) [(3, .pointer (some ⟨b3, 0, none⟩)), (11, .slice (some ⟨b, o, none⟩) ts.length cap), (12, .int .i64 ts.length), (13, .int .i64 (i : Nat)), (5, .pointer (some ⟨b5, 0, none⟩)), (26, .agg [.int .i64 x.e0, .int .i64 x.e1, .int .i64 x.e2, .int .i64 x.e3].toArray), (27, .int .i64 (k + 1 : Nat))] (by omega) ⟨k + 1, _, by omega, hm5.trans (hm6.trans (hm7.trans (hm8.trans (hm9.trans (hm10.trans hm11))))), by rw [exsB_succ, ← hen, hfe]; simpa only [List.append_assoc] using hB11, rfl, rfl⟩ (by repeat' (first | exact trivial | exact rfl | exact lk_int rfl (by omega) | apply And.intro))
            · skip
              rw [if_neg h4, List.append_nil] at hfe
              refine w_skip ?_
              refine at_block_normal ?_
              refine at_seq ?_
              refine w_region ?_
              refine wv (x_add rfl rfl (wrap_i64 (by omega) (by omega))) ?_
              refine wmv ?_
              refine wl_nil ?_
              exact at_again (r2 - 1) [(3, .pointer (some ⟨b3, 0, none⟩)), (11, .slice (some ⟨b, o, none⟩) ts.length cap), (12, .int .i64 ts.length), (13, .int .i64 (i : Nat)), (5, .pointer (some ⟨b5, 0, none⟩)), (26, .agg [.int .i64 x.e0, .int .i64 x.e1, .int .i64 x.e2, .int .i64 x.e3].toArray), (27, .int .i64 (k + 1 : Nat))] (by omega) ⟨k + 1, _, by omega, hm5.trans (hm6.trans (hm7.trans hm8)), by rw [exsB_succ, ← hen, hfe]; simpa only [List.append_assoc] using hB8, rfl, rfl⟩ (by repeat' (first | exact trivial | exact rfl | exact lk_int rfl (by omega) | apply And.intro))
        · skip
          obtain rfl : k = 4 := by omega
          refine w_exit ?_
          refine at_then_exit ?_
          refine at_then_exit ?_
          refine at_block_hit ?_
          refine at_block_normal ?_
          refine at_seq ?_
          refine w_region ?_
          refine wv (x_add rfl rfl (wrap_i64 (by omega) (by omega))) ?_
          refine wmv ?_
          refine wl_nil ?_
          refine at_drop1 ?_
          exact at_again (r - 1) [(3, .pointer (some ⟨b3, 0, none⟩)), (11, .slice (some ⟨b, o, none⟩) ts.length cap), (12, .int .i64 ts.length), (13, .int .i64 ((i + 1) : Nat))] (by omega) ⟨i + 1, by omega, hm1.trans (hm2.trans (hm3.trans (hm4.trans hm5))), by rw [htk, bodyB_snoc, termB, ← List.append_assoc]; exact hB5, rfl⟩ (by repeat' (first | exact trivial | exact rfl | exact lk_int rfl (by omega) | apply And.intro))
    · skip
      obtain rfl : i = ts.length := by omega
      rw [List.take_length] at hB
      refine w_exit ?_
      refine at_then_exit ?_
      refine at_then_exit ?_
      refine at_block_hit ?_
      refine at_seq ?_
      refine wsr ?_
      refine wl_calld0 rfl rfl rfl Tryz.c76 (BString_ok hB (by cases ts with | nil => exact absurd rfl hne | cons t l => simp [bodyB, termB, decB_ne]) (by omega)) ?_; rintro v2 m2 H2 hm2 ⟨rfl, rfl⟩
      refine was ?_
      refine wns ?_
      refine w_ret ?_
      refine at_endp (res1 rfl rfl) ?_
      rfl
theorem pFormat_ok {m : Mem} {v : Value} {ts : List Tm} (hv : Pv m v ts) (hT : Tab Tryz.prog m) (hl : ts.length ≤ 1073741824) (hbd : dlen (tot ts) ≤ 1000000000000) (hf : ∀ t ∈ nrm ts, ∀ e ∈ t.2, e ≤ 9223372036854775807) (hb : (polyB (nrm ts)).length ≤ 35184372088000) : Pure Tryz.prog 128 #[v] m fun r _ => r = .string (B (polyB (nrm ts))) := by
  refine enterp Tryz.func128 rfl rfl ?_
  intro K hm0 hks
  refine wsr ?_
  refine was ?_
  refine wnr ?_
  refine wmv ?_
  refine wl_callp rfl rfl rfl Tryz.c14 (PNormal_ok hv hl (by omega)) ?_; rintro v1 m1 hm1 ⟨h1, h2, h3, h4, h5⟩
  refine wl_callp rfl rfl rfl Tryz.c122 (pformat_ok h1.pv (hT.up hm1) (by omega) (fun t ht => ⟨Nat.le_trans (dlen_mono (Nat.le_trans (tot_mem ht) h4)) hbd, fun e he => ⟨by have := (h2.2 t ht).2.2 e he; omega, hf t ht e he⟩⟩) hb) ?_; rintro v2 m2 hm2 rfl
  refine was ?_
  refine wns ?_
  refine w_ret ?_
  refine at_endp (res1 rfl rfl) ?_
  rfl
end Go.Cy


/- strings.Cut, strings.Split at a separator of one byte; HasPrefix, CutPrefix. -/
namespace Go.Cy
open Go Go.Proofs
set_option maxRecDepth 20000

def cutB (c : UInt8) : List UInt8 → List UInt8 × Option (List UInt8)
  | [] => ([], none)
  | b :: l => if b = c then ([], some l) else (b :: (cutB c l).1, (cutB c l).2)
def splB (c : UInt8) : List UInt8 → List (List UInt8)
  | [] => [[]]
  | b :: l => if b = c then [] :: splB c l else match splB c l with
    | x :: xs => (b :: x) :: xs
    | [] => [[b]]
theorem splB_ne (c : UInt8) (l : List UInt8) : splB c l ≠ [] := by
  cases l with
  | nil => simp [splB]
  | cons b l =>
    rw [splB]
    split
    · simp
    · split <;> simp
theorem splB_cut (c : UInt8) (l : List UInt8) : splB c l = match cutB c l with | (a, some r) => a :: splB c r | (a, none) => [a] := by
  induction l with
  | nil => rfl
  | cons b l ih =>
    rw [splB, cutB]
    by_cases h : b = c
    · rw [if_pos h, if_pos h]
    · rw [if_neg h, if_neg h, ih]
      rcases cutB c l with ⟨a, _ | r⟩ <;> rfl
theorem cutB_some {c : UInt8} : ∀ {l a r : List UInt8}, cutB c l = (a, some r) → l = a ++ c :: r
  | [], a, r, h => by simp [cutB] at h
  | b :: l, a, r, h => by
    rw [cutB] at h
    split at h
    · rename_i e
      injection h with h1 h2; injection h2 with h2
      rw [← h1, ← h2, e]; rfl
    · injection h with h1 h2
      have := cutB_some (l := l) (a := (cutB c l).1) (r := r) (by rw [← h2])
      rw [← h1, List.cons_append, ← this]
theorem cutB_none {c : UInt8} : ∀ {l a : List UInt8}, cutB c l = (a, none) → a = l
  | [], a, h => by simp [cutB] at h; exact h
  | b :: l, a, h => by
    rw [cutB] at h
    split at h
    · injection h with h1 h2; cases h2
    · injection h with h1 h2
      rw [← h1, cutB_none (l := l) (a := (cutB c l).1) (by rw [← h2])]
theorem index_cut (c : UInt8) (l : List UInt8) : Lib.index l [c] = match cutB c l with | (a, some _) => (a.length : Int) | (_, none) => -1 := by
  induction l with
  | nil => rfl
  | cons b l ih =>
    rw [Lib.index, cutB]
    by_cases h : b = c
    · rw [if_pos (by simp [h]), if_pos h]; rfl
    · rw [if_neg (by simp; exact fun e => h e.symm), if_neg h, ih]
      rcases cutB c l with ⟨a, _ | r⟩
      · rfl
      · rw [if_neg (by simp)]; simp
theorem cut_eq (c : UInt8) (l : List UInt8) : Lib.cut l [c] = match cutB c l with | (a, some r) => (a, r, true) | (_, none) => (l, [], false) := by
  unfold Lib.cut
  rw [index_cut]
  rcases h : cutB c l with ⟨a, _ | r⟩
  · rw [if_neg (by simp)]
  · rw [if_pos (by simp)]
    have := cutB_some h
    simp only [Int.toNat_natCast]
    rw [this]
    simp
theorem splitK_eq (c : UInt8) : ∀ (n : Nat) (l : List UInt8), l.length ≤ n → Lib.splitK [c] 0 (Lib.count l [c]) l = splB c l := by
  intro n
  induction n with
  | zero => intro l hl; obtain rfl := List.length_eq_zero_iff.1 (Nat.le_zero.1 hl); rfl
  | succ n ih =>
    intro l hl
    have hi := index_cut c l
    rw [splB_cut]
    rcases h : cutB c l with ⟨a, _ | r⟩
    · rw [h] at hi
      rw [Lib.count_miss hi, cutB_none h]; rfl
    · rw [h] at hi
      have e := cutB_some h
      have hd : l.drop (a.length + [c].length) = r := by rw [e]; simp
      rw [Lib.count_hit (by simp) hi, hd, Nat.add_comm, Lib.splitK, if_neg (by rw [hi]; simp), hi, Int.toNat_natCast, hd, Nat.add_zero, ih r (by rw [e] at hl; simp at hl; omega)]
      rw [show l.take a.length = a by rw [e]; simp]
theorem splitB_eq (c : UInt8) (l : List UInt8) : Lib.splitB (B [c]) 0 (Lib.countB (B l) (B [c])) (B l) = (splB c l).map B := by
  have h := Lib.splitB_data (B [c]) 0 (Lib.countB (B l) (B [c])) (B l)
  have e : ∀ x : List UInt8, (B x).data.toList = x := fun x => by simp [B]
  rw [show Lib.countB (B l) (B [c]) = Lib.count l [c] by rw [Lib.countB, e, e]] at h ⊢
  rw [e, e, splitK_eq c l.length l (Nat.le_refl _)] at h
  rw [← h, List.map_map]
  conv => lhs; rw [← List.map_id (Lib.splitB (B [c]) 0 (Lib.count l [c]) (B l))]
  apply List.map_congr_left
  intro x _
  apply ByteArray.ext
  simp [B]
def Wd (m : Mem) : Prop := ∃ k, ∀ w, Fits m w → w.cell? ⟨2, 0, none⟩ = some (.int .i64 k)
theorem Wd.up {m m' : Mem} (h : Wd m) (hm : m.le m') : Wd m' := by
  obtain ⟨k, h⟩ := h
  exact ⟨k, fun w hf => h w (hf.le hm)⟩
theorem Cut_ok {m : Mem} {L : List UInt8} {c : UInt8} (hw : Wd m) (hl : L.length ≤ 2147483648) : Pure Tryz.prog 136 #[.string (B L), .string (B [c])] m fun r _ => r = match cutB c L with | (a, some t) => .tuple #[.string (B a), .string (B t), .bool true] | (_, none) => .tuple #[.string (B L), .string (B []), .bool false] := by
  obtain ⟨k, hw⟩ := hw
  refine (Pure.of_grow fun w hf => Calls.mono (Tryz.strings_Cut (B L) (B [c]) k w (by rw [B_size]; omega) (hw w hf)) fun e w' h => ⟨h.1, ?_⟩).mono fun _ _ _ h => h.trans ?_
  · obtain ⟨n, hn⟩ := h.2
    exact ⟨n, #[], by rw [hn]; unfold Go.Sort.grow World.drewN; simp⟩
  · have e : ∀ x : List UInt8, (B x).data.toList = x := fun x => by simp [B]
    rw [e, e, cut_eq]
    rcases cutB c L with ⟨a, _ | t⟩ <;> rfl
theorem Split_ok {m : Mem} {L : List UInt8} {c : UInt8} (hw : Wd m) (hl : L.length ≤ 2147483648) : Pure Tryz.prog 182 #[.string (B L), .string (B [c])] m fun r m' => ∃ b, r = .slice (some ⟨b, 0, none⟩) (splB c L).length (splB c L).length ∧ Row m' [] b 0 ((splB c L).map fun s => .string (B s)) := by
  obtain ⟨k, hw⟩ := hw
  intro w hf _ _ _
  refine Calls.mono (Tryz.strings_Split (B L) (B [c]) k w (by rw [B_size]; omega) (hw w hf) (by rw [B_size]; exact Nat.le_refl _)) ?_
  rintro e w' ⟨rfl, rfl⟩
  have hn : Lib.countB (B L) (B [c]) + 1 = (splB c L).length := by
    have h := congrArg List.length (splitB_eq c L)
    rw [Lib.splitB_all (B [c]) (by rw [B_size]; exact Nat.le_refl _) 0 _ _ rfl] at h
    simpa using h
  have h0 : St ⟨w, m, []⟩ m [] w := St.start (H := []) hf (fun _ _ h => absurd h List.not_mem_nil) List.nodup_nil (fun _ _ h => absurd h List.not_mem_nil)
  have h1 := (h0.alloc (cl 9 ((splB c L).map fun s => .string (B s)))).freeze
  rw [splitB_eq, hn, List.map_map]
  exact ⟨m.add w.heap.size (cl 9 ((splB c L).map fun s => .string (B s))), [], h1, rfl, ⟨w.heap.size, rfl, rowM (Mem.add_at _ _ _) fun i _ => by simp⟩⟩
theorem HasPrefix0_ok {m : Mem} {L X : List UInt8} (hl : L.length ≤ 4611686018427387904) (hk : X.length ≤ 4611686018427387904) : Pure Tryz.prog 187 #[.string (B L), .string (B X)] m fun r _ => r = .bool (decide (L.take X.length = X)) := by
  refine enterp Tryz.func187 rfl rfl ?_
  intro K hm0 hks
  refine wsr ?_
  refine was ?_
  refine wnr ?_
  refine wmv ?_
  refine wv (x_lenB Tryz.underlying9 rfl rfl) ?_
  refine wmv ?_
  refine wv (x_lenB Tryz.underlying9 rfl rfl) ?_
  refine wv (x_geq rfl rfl) ?_
  refine wmv ?_
  refine wl_splitp (t := 10) rfl (fun h1 => ?_) (fun h1 => ?_)
  · skip
    refine wmv ?_
    refine wmv ?_
    refine wv (x_lenB Tryz.underlying9 rfl rfl) ?_
    refine wv (x_sliceB (lo := 0) (hi := X.length) Tryz.underlying9 rfl (rfl) (⟨_, by first | rfl | exact lk_int rfl (by omega)⟩) (by omega) (by omega)) ?_
    refine wmv ?_
    refine wv (x_eqlBs  rfl rfl) ?_
    refine wv (x_pick_t rfl rfl) ?_
    refine was ?_
    refine wns ?_
    refine w_ret ?_
    refine at_endp (res1 rfl rfl) ?_
    simp
  · skip
    refine wl_off rfl rfl rfl ?_
    refine wl_off rfl rfl rfl ?_
    refine wl_off rfl rfl rfl ?_
    refine wl_off rfl rfl rfl ?_
    refine wl_off rfl rfl rfl ?_
    refine wl_off rfl rfl rfl ?_
    refine wv (x_pick_f rfl rfl) ?_
    refine was ?_
    refine wns ?_
    refine w_ret ?_
    refine at_endp (res1 rfl rfl) ?_
    rw [decide_eq_false fun h => h1 (by have := congrArg List.length h; rw [List.length_take] at this; omega)]
theorem HasPrefix_ok {m : Mem} {L X : List UInt8} (hl : L.length ≤ 4611686018427387904) (hk : X.length ≤ 4611686018427387904) : Pure Tryz.prog 137 #[.string (B L), .string (B X)] m fun r _ => r = .bool (decide (L.take X.length = X)) := by
  refine enterp Tryz.func137 rfl rfl ?_
  intro K hm0 hks
  refine wsr ?_
  refine was ?_
  refine wnr ?_
  refine wmv ?_
  refine wmv ?_
  refine wl_callp rfl rfl rfl Tryz.c187 (HasPrefix0_ok hl hk) ?_; rintro v1 m1 hm1 rfl
  refine was ?_
  refine wns ?_
  refine w_ret ?_
  refine at_endp (res1 rfl rfl) ?_
  rfl
theorem CutPrefix0_ok {m : Mem} {L X : List UInt8} (hl : L.length ≤ 4611686018427387904) (hk : X.length ≤ 4611686018427387904) : Pure Tryz.prog 251 #[.string (B L), .string (B X)] m fun r _ => r = if L.take X.length = X then .tuple #[.string (B (L.drop X.length)), .bool true] else .tuple #[.string (B L), .bool false] := by
  refine enterp Tryz.func251 rfl rfl ?_
  intro K hm0 hks
  refine wsr ?_
  refine was ?_
  refine was ?_
  refine wns ?_
  refine w_seq ?_
  refine wsr ?_
  refine wmv ?_
  refine wmv ?_
  refine wl_callp rfl rfl rfl Tryz.c187 (HasPrefix0_ok hl hk) ?_; rintro v1 m1 hm1 rfl
  refine wv (x_not rfl rfl) ?_
  refine wns ?_
  refine w_cond rfl (fun h1 => ?_) (fun h1 => ?_)
  · skip
    refine wsr ?_
    refine wmv ?_
    refine was ?_
    refine was ?_
    refine wns ?_
    refine w_ret ?_
    refine at_then_ret ?_
    refine at_endp (res2 rfl rfl rfl) ?_
    rw [if_neg (by simpa using h1)]
  · skip
    have h2 : L.take X.length = X := by simpa using h1
    have h3 : X.length ≤ L.length := by have := congrArg List.length h2; rw [List.length_take] at this; omega
    refine w_skip ?_
    refine at_seq ?_
    refine wsr ?_
    refine wmv ?_
    refine wmv ?_
    refine wv (x_lenB Tryz.underlying9 rfl rfl) ?_
    refine wv (x_dropB (lo := X.length) Tryz.underlying9 rfl rfl (by omega) (by omega)) ?_
    refine was ?_
    refine was ?_
    refine wns ?_
    refine w_ret ?_
    refine at_endp (res2 rfl rfl rfl) ?_
    rw [if_pos h2]
theorem CutPrefix_ok {m : Mem} {L X : List UInt8} (hl : L.length ≤ 4611686018427387904) (hk : X.length ≤ 4611686018427387904) : Pure Tryz.prog 221 #[.string (B L), .string (B X)] m fun r _ => r = if L.take X.length = X then .tuple #[.string (B (L.drop X.length)), .bool true] else .tuple #[.string (B L), .bool false] := by
  refine enterp Tryz.func221 rfl rfl ?_
  intro K hm0 hks
  by_cases h : L.take X.length = X
  · skip
    refine wsr ?_
    refine was ?_
    refine was ?_
    refine wnr ?_
    refine wmv ?_
    refine wmv ?_
    refine wl_callp rfl rfl rfl Tryz.c251 (CutPrefix0_ok hl hk) ?_; rintro v1 m1 hm1 h1
    rw [if_pos h] at h1
    subst h1
    refine wex ?_
    refine wex ?_
    refine was ?_
    refine was ?_
    refine wns ?_
    refine w_ret ?_
    refine at_endp (res2 rfl rfl rfl) ?_
    rw [if_pos h]
  · skip
    refine wsr ?_
    refine was ?_
    refine was ?_
    refine wnr ?_
    refine wmv ?_
    refine wmv ?_
    refine wl_callp rfl rfl rfl Tryz.c251 (CutPrefix0_ok hl hk) ?_; rintro v1 m1 hm1 h1
    rw [if_neg h] at h1
    subst h1
    refine wex ?_
    refine wex ?_
    refine was ?_
    refine was ?_
    refine wns ?_
    refine w_ret ?_
    refine at_endp (res2 rfl rfl rfl) ?_
    rw [if_neg h]
end Go.Cy


/- The contracts of the kit's shelf at this program that came later (lay-shelf, lay-plain): strconv.Atoi. -/
namespace Go.Proofs
open Go.Shelf
def Tryz.laysC172_ren : Go.Shelf.Ren := ⟨fun | 172 => 133 | 244 => 183 | 245 => 184 | 247 => 215 | 279 => 216 | 280 => 217 | 281 => 218 | 282 => 219 | 287 => 244 | 316 => 245 | 171 => 127 | 205 => 246 | 321 => 260 | 322 => 261 | 243 => 179 | 246 => 209 | 283 => 236 | 284 => 237 | 285 => 238 | 286 => 239 | 129 => 177 | 317 => 253 | 318 => 254 | 319 => 255 | 320 => 256 | 337 => 264 | 338 => 265 | n => n, fun | 9 => 9 | 3 => 3 | 75 => 183 | 76 => 184 | 4 => 4 | 5 => 5 | 167 => 265 | 37 => 67 | 0 => 0 | 85 => 266 | 2 => 2 | 168 => 268 | 53 => 111 | 175 => 291 | 46 => 179 | 210 => 295 | 127 => 191 | 145 => 308 | 143 => 306 | 21 => 21 | 171 => 287 | 173 => 289 | 212 => 301 | 51 => 51 | 20 => 20 | 213 => 302 | 232 => 310 | 233 => 311 | 80 => 125 | n => n, fun | 15 => 0 | 16 => 1 | 17 => 3 | 18 => 5 | 19 => 6 | n => n⟩
theorem Tryz.laysC172 : Go.Proofs.LaysC.n172 Tryz.prog Tryz.laysC172_ren := {
  mixed := by kernel_rfl
  f129 := Tryz.func177.trans (congrArg some (by kernel_rfl))
  f171 := Tryz.func127.trans (congrArg some (by kernel_rfl))
  f172 := Tryz.func133.trans (congrArg some (by kernel_rfl))
  f205 := Tryz.func246.trans (congrArg some (by kernel_rfl))
  f243 := Tryz.func179.trans (congrArg some (by kernel_rfl))
  f244 := Tryz.func183.trans (congrArg some (by kernel_rfl))
  f245 := Tryz.func184.trans (congrArg some (by kernel_rfl))
  f246 := Tryz.func209.trans (congrArg some (by kernel_rfl))
  f247 := Tryz.func215.trans (congrArg some (by kernel_rfl))
  f279 := Tryz.func216.trans (congrArg some (by kernel_rfl))
  f280 := Tryz.func217.trans (congrArg some (by kernel_rfl))
  f281 := Tryz.func218.trans (congrArg some (by kernel_rfl))
  f282 := Tryz.func219.trans (congrArg some (by kernel_rfl))
  f283 := Tryz.func236.trans (congrArg some (by kernel_rfl))
  f284 := Tryz.func237.trans (congrArg some (by kernel_rfl))
  f285 := Tryz.func238.trans (congrArg some (by kernel_rfl))
  f286 := Tryz.func239.trans (congrArg some (by kernel_rfl))
  f287 := Tryz.func244.trans (congrArg some (by kernel_rfl))
  f316 := Tryz.func245.trans (congrArg some (by kernel_rfl))
  f317 := Tryz.func253.trans (congrArg some (by kernel_rfl))
  f318 := Tryz.func254.trans (congrArg some (by kernel_rfl))
  f319 := Tryz.func255.trans (congrArg some (by kernel_rfl))
  f320 := Tryz.func256.trans (congrArg some (by kernel_rfl))
  f321 := Tryz.func260.trans (congrArg some (by kernel_rfl))
  f322 := Tryz.func261.trans (congrArg some (by kernel_rfl))
  f337 := Tryz.func264.trans (congrArg some (by kernel_rfl))
  f338 := Tryz.func265.trans (congrArg some (by kernel_rfl))
  t0 := Tryz.underlying0
  a0 := Tryz.isAgg0
  z0 := Tryz.sizeOf0
  v0 := Tryz.zeroValue0
  t2 := Tryz.underlying2
  a2 := Tryz.isAgg2
  z2 := Tryz.sizeOf2
  v2 := Tryz.zeroValue2
  t3 := Tryz.underlying3
  a3 := Tryz.isAgg3
  z3 := Tryz.sizeOf3
  v3 := Tryz.zeroValue3
  t4 := Tryz.underlying4
  a4 := Tryz.isAgg4
  z4 := Tryz.sizeOf4
  v4 := Tryz.zeroValue4
  t5 := Tryz.underlying5
  a5 := Tryz.isAgg5
  z5 := Tryz.sizeOf5
  v5 := Tryz.zeroValue5
  t9 := Tryz.underlying9
  a9 := Tryz.isAgg9
  z9 := Tryz.sizeOf9
  v9 := Tryz.zeroValue9
  t20 := Tryz.underlying20
  a20 := Tryz.isAgg20
  z20 := Tryz.sizeOf20
  v20 := Tryz.zeroValue20
  t21 := Tryz.underlying21
  a21 := Tryz.isAgg21
  z21 := Tryz.sizeOf21
  v21 := Tryz.zeroValue21
  t37 := Tryz.underlying67
  a37 := Tryz.isAgg67
  z37 := Tryz.sizeOf67
  v37 := Tryz.zeroValue67
  t46 := Tryz.underlying179
  a46 := Tryz.isAgg179
  z46 := Tryz.sizeOf179
  v46 := Tryz.zeroValue179
  t51 := Tryz.underlying51
  a51 := Tryz.isAgg51
  z51 := Tryz.sizeOf51
  v51 := Tryz.zeroValue51
  t53 := Tryz.underlying111
  a53 := Tryz.isAgg111
  z53 := Tryz.sizeOf111
  v53 := Tryz.zeroValue111
  t75 := Tryz.underlying183
  a75 := Tryz.isAgg183
  z75 := Tryz.sizeOf183
  v75 := Tryz.zeroValue183
  t76 := Tryz.underlying184
  a76 := Tryz.isAgg184
  z76 := Tryz.sizeOf184
  v76 := Tryz.zeroValue184
  t85 := Tryz.underlying266
  a85 := Tryz.isAgg266
  z85 := Tryz.sizeOf266
  v85 := Tryz.zeroValue266
  t127 := Tryz.underlying191
  a127 := Tryz.isAgg191
  z127 := Tryz.sizeOf191
  v127 := Tryz.zeroValue191
  t143 := Tryz.underlying306
  a143 := Tryz.isAgg306
  z143 := Tryz.sizeOf306
  v143 := Tryz.zeroValue306
  t145 := Tryz.underlying308
  a145 := Tryz.isAgg308
  z145 := Tryz.sizeOf308
  v145 := Tryz.zeroValue308
  t167 := Tryz.underlying265
  a167 := Tryz.isAgg265
  z167 := Tryz.sizeOf265
  v167 := Tryz.zeroValue265
  t168 := Tryz.underlying268
  a168 := Tryz.isAgg268
  z168 := Tryz.sizeOf268
  v168 := Tryz.zeroValue268
  t171 := Tryz.underlying287
  a171 := Tryz.isAgg287
  z171 := Tryz.sizeOf287
  v171 := Tryz.zeroValue287
  t173 := Tryz.underlying289
  a173 := Tryz.isAgg289
  z173 := Tryz.sizeOf289
  v173 := Tryz.zeroValue289
  t175 := Tryz.underlying291
  a175 := Tryz.isAgg291
  z175 := Tryz.sizeOf291
  v175 := Tryz.zeroValue291
  t210 := Tryz.underlying295
  a210 := Tryz.isAgg295
  z210 := Tryz.sizeOf295
  v210 := Tryz.zeroValue295
  t212 := Tryz.underlying301
  a212 := Tryz.isAgg301
  z212 := Tryz.sizeOf301
  v212 := Tryz.zeroValue301
  t213 := Tryz.underlying302
  a213 := Tryz.isAgg302
  z213 := Tryz.sizeOf302
  t232 := Tryz.underlying310
  a232 := Tryz.isAgg310
  z232 := Tryz.sizeOf310
  v232 := Tryz.zeroValue310
  t233 := Tryz.underlying311
  a233 := Tryz.isAgg311
  z233 := Tryz.sizeOf311
  v233 := Tryz.zeroValue311
  g15 := by kernel_rfl
  g16 := by kernel_rfl
  g17 := by kernel_rfl
  g18 := by kernel_rfl
  g19 := by kernel_rfl
  t80 := Tryz.underlying125
  a80 := Tryz.isAgg125
  z80 := Tryz.sizeOf125
  v80 := Tryz.zeroValue125
  i0 := by kernel_rfl
  i2 := by kernel_rfl
  i3 := by kernel_rfl
  i4 := by kernel_rfl
  i5 := by kernel_rfl
  i9 := by kernel_rfl
  i20 := by kernel_rfl
  i21 := by kernel_rfl
  i37 := by kernel_rfl
  i46 := by kernel_rfl
  i51 := by kernel_rfl
  i53 := by kernel_rfl
  i75 := by kernel_rfl
  i76 := by kernel_rfl
  i80 := by kernel_rfl
  i85 := by kernel_rfl
  i127 := by kernel_rfl
  i143 := by kernel_rfl
  i145 := by kernel_rfl
  i167 := by kernel_rfl
  i168 := by kernel_rfl
  i171 := by kernel_rfl
  i173 := by kernel_rfl
  i175 := by kernel_rfl
  i210 := by kernel_rfl
  i212 := by kernel_rfl
  i232 := by kernel_rfl
  i233 := by kernel_rfl
  m15 := by kernel_rfl
  m16 := by kernel_rfl
  m17 := by kernel_rfl
  m18 := by kernel_rfl
  m19 := by kernel_rfl
  c0 := by kernel_rfl
  c2 := by kernel_rfl
  c3 := by kernel_rfl
  c4 := by kernel_rfl
  c5 := by kernel_rfl
  c9 := by kernel_rfl
  c20 := by kernel_rfl
  c21 := by kernel_rfl
  c37 := by kernel_rfl
  c46 := by kernel_rfl
  c51 := by kernel_rfl
  c53 := by kernel_rfl
  c75 := by kernel_rfl
  c76 := by kernel_rfl
  c80 := by kernel_rfl
  c85 := by kernel_rfl
  c127 := by kernel_rfl
  c143 := by kernel_rfl
  c145 := by kernel_rfl
  c167 := by kernel_rfl
  c168 := by kernel_rfl
  c171 := by kernel_rfl
  c173 := by kernel_rfl
  c175 := by kernel_rfl
  c210 := by kernel_rfl
  c212 := by kernel_rfl
  c213 := by kernel_rfl
  c232 := by kernel_rfl
  c233 := by kernel_rfl }
open Go.RowKit in
theorem Tryz.strconv_Atoi_ok (s : ByteArray) (hmax : s.size ≤ 9223372036854775806) (v : Int) (h : Lib.atoiAll s.data.toList = .ok v) (w : World) :
    Calls Tryz.prog 133 #[.string s] w fun e w' => e = .returned (.tuple #[.int .i64 v, .nilIface]) ∧ (w' = w ∨ ∃ t, w' = Lib.bytesWorld w 5 t) := Any.strconv_Atoi_ok Tryz.laysC172 s hmax v h w
open Go.RowKit in
theorem Tryz.strconv_Atoi_range (s : ByteArray) (hlim : s.size ≤ 281474976710656) (h : Lib.atoiAll s.data.toList = .range) (ev : Value) (w : World) (hv : w.cell? ⟨1, 0, none⟩ = some ev) (hev : ev = .nilIface ∨ ∃ te pe, ev = .iface te pe) :
    Calls Tryz.prog 133 #[.string s] w fun e w' => ∃ N, e = .returned (.tuple #[.int .i64 (Lib.atoiSat s.data.toList), .iface 268 (.pointer (some ⟨N, 0, none⟩))]) ∧ w.heap.size ≤ N ∧ w'.heap[N]? = some (.cells #[.string ⟨#[65, 116, 111, 105]⟩, .string s, ev] 295 (0, 0)) ∧ Below w.heap.size w w' := Any.strconv_Atoi_range Tryz.laysC172 s hlim h ev w hv hev
end Go.Proofs

/- strconv.Atoi. -/
namespace Go.Cy
open Go Go.Proofs

theorem St.below {m : Mem} {w w' : World} (hf : Fits m w) (h : RowKit.Below w.heap.size w w') : St ⟨w, m, []⟩ m [] w' where
  os := h.os
  tape := h.tape
  output := h.output
  size := h.size
  old := fun j hj _ => h.block j hj
  mem := fun b o hb => by
    have h1 := hf b o hb
    have hlt : b < w.heap.size := (Array.getElem?_eq_some_iff.1 h1).1
    rw [h.block b hlt]; exact h1
  heap := fun _ _ h => absurd h List.not_mem_nil
  own := fun _ _ h => absurd h List.not_mem_nil
  nodup := List.nodup_nil
  apart := fun _ _ h => absurd h List.not_mem_nil
  le := Mem.le.refl _
  grow := fun b h => absurd rfl h
theorem Pure.of_below {P : Program} {f : FuncId} {args : Array Value} {m : Mem} {R : Value → Prop} (h : ∀ w, Fits m w → Calls P f args w fun e w' => ∃ v, e = .returned v ∧ R v ∧ RowKit.Below w.heap.size w w') : Pure P f args m fun r _ => R r := by
  intro w hf _ _ _
  refine Calls.mono (h w hf) ?_
  rintro e w' ⟨v, rfl, hr, hb⟩
  exact ⟨m, [], St.below hf hb, rfl, hr⟩
def Er (m : Mem) : Prop := (∃ ev, (ev = Value.nilIface ∨ ∃ te pe, ev = .iface te pe) ∧ ∀ w, Fits m w → w.cell? ⟨0, 0, none⟩ = some ev) ∧ ∃ ev, (ev = Value.nilIface ∨ ∃ te pe, ev = .iface te pe) ∧ ∀ w, Fits m w → w.cell? ⟨1, 0, none⟩ = some ev
theorem Er.up {m m' : Mem} (h : Er m) (hm : m.le m') : Er m' := by
  obtain ⟨⟨e1, h1, h2⟩, e2, h3, h4⟩ := h
  exact ⟨⟨e1, h1, fun w hf => h2 w (hf.le hm)⟩, e2, h3, fun w hf => h4 w (hf.le hm)⟩
def atoi (L : List UInt8) : Option Int := match Lib.atoiAll L with | .ok v => some v | _ => none
def AtoiR (r : Value) (o : Option Int) : Prop := match o with
  | some v => r = .tuple #[.int .i64 v, .nilIface]
  | none => ∃ n b, r = .tuple #[.int .i64 n, .iface 268 (.pointer (some ⟨b, 0, none⟩))]
theorem Atoi_ok {m : Mem} {L : List UInt8} (hE : Er m) (hl : L.length ≤ 281474976710656) : Pure Tryz.prog 133 #[.string (B L)] m fun r _ => AtoiR r (atoi L) := by
  obtain ⟨⟨e1, h1, h2⟩, e2, h3, h4⟩ := hE
  have e : (B L).data.toList = L := by simp [B]
  refine Pure.of_below (R := fun r => AtoiR r (atoi L)) fun w hf => ?_
  unfold atoi
  rcases h : Lib.atoiAll L with v | _ | _
  · refine Calls.mono (Tryz.strconv_Atoi_ok (B L) (by rw [B_size]; omega) v (by rw [e]; exact h) w) ?_
    rintro e w' ⟨rfl, hw⟩
    refine ⟨_, rfl, rfl, ?_⟩
    rcases hw with rfl | ⟨t, rfl⟩
    · exact RowKit.Below.refl _ _
    · exact ⟨rfl, rfl, rfl, by rw [Lib.bytesWorld_size]; omega, fun j hj => Lib.bytesWorld_at_old w 5 _ j hj⟩
  · have hcall : Calls Tryz.prog 133 #[.string (B L)] w fun e w' => ∃ N, e = .returned (.tuple #[.int .i64 0, .iface 268 (.pointer (some ⟨N, 0, none⟩))]) ∧ w.heap.size ≤ N ∧ w'.heap[N]? = some (.cells #[.string ⟨#[65, 116, 111, 105]⟩, .string (B L), e1] 295 (0, 0)) ∧ RowKit.Below w.heap.size w w' := Go.Proofs.Any.strconv_Atoi_syntax Tryz.laysC172 (B L) (by rw [B_size]; omega) (by rw [e]; exact h) e1 w (h2 w hf) h1
    refine Calls.mono hcall ?_
    rintro e w' ⟨N, rfl, _, _, hb⟩
    exact ⟨_, rfl, ⟨_, _, rfl⟩, hb⟩
  · refine Calls.mono (Tryz.strconv_Atoi_range (B L) (by rw [B_size]; omega) (by rw [e]; exact h) e2 w (h4 w hf) h3) ?_
    rintro e w' ⟨N, rfl, _, _, hb⟩
    exact ⟨_, rfl, ⟨_, _, rfl⟩, hb⟩
section
variable {P : Program} {n : Nat} {env : Env} {m : Mem} {H : Hp} {d : Option Nat} {ty : TypeId} {pos : String} {aft : Array Edge} {g : Option (Nat × Bool)} {x y : Operand}
theorem x_neqNil {T T' : TypeId} {ms : Array (String × TypeId)} {te : TypeId} {pe : Value} (ht : P.underlying T = some (.interface ms)) (hx : ev env x = some (.iface te pe)) (hy : ev env y = some .nilIface) : Ex P n ⟨d, .binOp .neq T x y T', ty, pos, aft, g⟩ env m H (.bool true) := fun a w ha _ _ => by
  have h : ∀ d : Nat, (Op.equalIn (d + 1) T (.iface te pe) .nilIface).run P w = .ok false w := fun d => by
    simp [Op.equalIn, run_underlying ht]
  have h2 : (binOp .neq T (.iface te pe) .nilIface).run P w = .ok (.bool true) w := by
    simp only [binOp]
    simp [Op.equal, Op.maxDepth, h 9999]
  simp [execOp, ha.ev hx, ha.ev hy, eqGuard, h2]
theorem x_neqNilNil {T T' : TypeId} {ms : Array (String × TypeId)} (ht : P.underlying T = some (.interface ms)) (hx : ev env x = some .nilIface) (hy : ev env y = some .nilIface) (hc : (match y with | .const _ => true | _ => false) = true := by rfl) : Ex P n ⟨d, .binOp .neq T x y T', ty, pos, aft, g⟩ env m H (.bool false) := fun a w ha _ _ => by
  have h2 := Lib.run_neq_nil_nil (P := P) w ht
  cases y with
  | const v => simp [execOp, ha.ev hx, ha.ev hy, eqGuard, h2]
  | _ => exact absurd hc (by simp)
end
end Go.Cy


/- natural.MulAdd. -/
namespace Go.Cy
open Go Go.Proofs
set_option maxRecDepth 20000

theorem muladd_step {V W q low d' x f d c : Nat} (h : low + 4294967296 * d' = x * f + d) (hi : V + q * d = W * f + c) : V + q * low + q * 4294967296 * d' = (W + q * x) * f + c := by
  have h1 : q * (low + 4294967296 * d') = q * (x * f + d) := by rw [h]
  rw [Nat.mul_add, Nat.mul_add, ← Nat.mul_assoc] at h1
  rw [Nat.add_mul, Nat.mul_assoc q x f]
  omega

theorem MulAdd_ok {m : Mem} {v : Value} {a f c : Nat} (hv : Nt m v a) (hla : dlen a ≤ 35184372088831) (hf : f < 4294967296) (hc : c < 4294967296) : Pure Tryz.prog 231 #[v, .int .u32 f, .int .u32 c] m fun r m' => Nn m' r (a * f + c) := by
  refine enterp Tryz.func231 rfl rfl ?_
  intro K hm0 hks
  refine wsr ?_
  refine was ?_
  refine wnr ?_
  refine wmv ?_
  refine wl_callp rfl rfl rfl Tryz.c151 (trim_ok hv) ?_; rintro v1 m1 hm1 ⟨ds, ⟨hb, hdl, ad, cap, rfl, hcap, hr⟩, rfl, hn⟩
  refine was ?_
  refine wnr ?_
  refine wmv ?_
  refine wv (x_len Tryz.underlying47 rfl rfl) ?_
  refine wv (x_add rfl rfl (wrap_i64 (by omega) (by omega))) ?_
  have hdn := dlen_nv hb hn
  refine wl_make (N := (ds.length + 1)) rfl rfl Tryz.underlying47 Tryz.size51 Tryz.bytes51 Tryz.zero51 rfl rfl rfl (by omega) (by omega) (by omega) (by omega) ?_; intro b18
  refine was ?_
  refine wns ?_
  refine w_seq ?_
  refine wsr ?_
  refine wmv ?_
  refine wv (x_len Tryz.underlying47 rfl rfl) ?_
  refine wmv ?_
  refine wns ?_
  refine w_block ?_
  refine w_loop (fun r m' H' env' => ∃ i zs d, r + i = ds.length ∧ m1.le m' ∧ H' = [(b18, cl 51 (dsv zs))] ∧ zs.length = ds.length + 1 ∧ okd zs ∧ d < 4294967296 ∧ nv (zs.take i) + 4294967296 ^ i * d = nv (ds.take i) * f + c ∧ env' = [(1, .int .u32 f), (2, .int .u32 d), (7, .slice (some ⟨b18, 0, none⟩) (ds.length + 1) (ds.length + 1)), (19, .slice ad ds.length cap), (20, .int .i64 ds.length), (0, .slice ad ds.length cap), (21, .int .i64 (i : Nat))]) ds.length [(1, .int .u32 f), (2, .int .u32 c), (7, .slice (some ⟨b18, 0, none⟩) (ds.length + 1) (ds.length + 1)), (19, .slice ad ds.length cap), (20, .int .i64 ds.length), (0, .slice ad ds.length cap), (21, .int .i64 (0 : Nat))] ⟨0, List.replicate (ds.length + 1) 0, c, by omega, Mem.le.refl _, by rw [dsv_zero], by simp, fun e he => by simp at he; omega, hc, by simp [nv], rfl⟩ (by repeat' (first | exact trivial | exact rfl | exact lk_int rfl (by omega) | apply And.intro)) ?_
  rintro r m2 H' env' ⟨i, zs, d, hri, hm2, rfl, hzl, hzo, hd, hinv, rfl⟩
  refine wsr ?_
  refine wv (x_lss rfl rfl) ?_
  refine wns ?_
  refine w_seq ?_
  refine w_if rfl (fun h1 => ?_) (fun h1 => ?_)
  · skip
    have hi : i < ds.length := by omega
    obtain ⟨ba, oa, rfl, hra⟩ := hr (by omega)
    have hx := hb _ (List.getElem_mem hi)
    have hp : ds[i] * f ≤ 4294967295 * 4294967295 := Nat.mul_le_mul (by omega) (by omega)
    refine w_skip ?_
    refine at_seq ?_
    refine w_seq ?_
    refine w_block ?_
    refine wsr ?_
    refine wmv ?_
    refine wv (x_index Tryz.underlying47 Tryz.size51 rfl rfl rfl (by omega)) ?_
    refine wv (x_load Tryz.plain51 rfl (((hra.up hm2).heap.nth i (dsv_get hi) (by omega)))) ?_
    refine was ?_
    refine was ?_
    refine wnr ?_
    refine wmv ?_
    refine wmv ?_
    refine wl_callp rfl rfl rfl Tryz.c252 (mul32_ok hx hf) ?_; rintro v3 m3 hm3 rfl
    refine wmv ?_
    refine wex ?_
    refine wex ?_
    refine was ?_
    refine was ?_
    refine wnr ?_
    refine wmv ?_
    refine wmv ?_
    refine wl_callp rfl rfl rfl Tryz.c156 (add32_ok (c := 0) (Nat.mod_lt _ (by omega)) hd (by omega)) ?_; rintro v4 m4 hm4 rfl
    refine wmv ?_
    refine wex ?_
    refine wex ?_
    refine was ?_
    refine was ?_
    refine wnr ?_
    refine wmv ?_
    refine wmv ?_
    refine wmv ?_
    refine wv (x_index Tryz.underlying47 Tryz.size51 rfl rfl (j := i) (by omega) (by omega)) ?_
    refine wl_storeAs (xs' := dsv (zs.set i ((ds[i] * f + d) % 4294967296))) rfl Tryz.size51 rfl rfl rfl (by simp [dsv]; omega) (dsv_setAs (by omega) (by omega)) ?_
    refine wns ?_
    refine w_region ?_
    refine wmv ?_
    refine wmv ?_
    refine wv (x_add rfl rfl (u32n (r := (ds[i] * f + d) / 4294967296) (by omega) (by omega))) ?_
    refine was ?_
    refine wl_nil ?_
    refine at_block_normal ?_
    refine at_seq ?_
    refine w_region ?_
    refine wv (x_add rfl rfl (wrap_i64 (by omega) (by omega))) ?_
    refine wmv ?_
    refine wl_nil ?_
    exact at_again (r - 1) [(1, .int .u32 f), (2, .int .u32 ((ds[i] * f + d) / 4294967296 : Nat)), (7, .slice (some ⟨b18, 0, none⟩) (ds.length + 1) (ds.length + 1)), (19, .slice (some ⟨ba, oa, none⟩) ds.length cap), (20, .int .i64 ds.length), (0, .slice (some ⟨ba, oa, none⟩) ds.length cap), (21, .int .i64 (i + 1 : Nat))] (by omega) ⟨i + 1, zs.set i ((ds[i] * f + d) % 4294967296), (ds[i] * f + d) / 4294967296, by omega, hm2.trans (hm3.trans hm4), rfl, by simpa using hzl, okd_set hzo _ (Nat.mod_lt _ (by omega)), by omega, by rw [nv_take_set (by omega), nv_take_succ hi, Nat.pow_succ]; exact muladd_step (by omega) hinv, rfl⟩ (by repeat' (first | exact trivial | exact rfl | exact lk_int rfl (by omega) | apply And.intro))
  · skip
    obtain rfl : i = ds.length := by omega
    refine w_exit ?_
    refine at_then_exit ?_
    refine at_then_exit ?_
    refine at_block_hit ?_
    refine at_seq ?_
    refine wsr ?_
    refine wmv ?_
    refine wmv ?_
    refine wv (x_len Tryz.underlying47 rfl rfl) ?_
    refine wmv ?_
    refine wv (x_index Tryz.underlying47 Tryz.size51 rfl rfl (j := ds.length) (by omega) (by omega)) ?_
    refine wl_storeAs (xs' := dsv (zs.set ds.length d)) rfl Tryz.size51 rfl rfl rfl (by simp [dsv]; omega) (dsv_setAs (by omega) (by omega)) ?_
    refine wnr ?_
    refine wmv ?_
    refine wl_freeze ?_; intro hfz
    refine wl_callp rfl rfl rfl Tryz.c151 (trim_ok ⟨zs.set ds.length d, Dg.made' (Mem.add_at _ _ _) (okd_set hzo _ hd) (by simpa using hzl) (by omega), rfl⟩) ?_; rintro v5 m5 hm5 hv5
    refine was ?_
    refine wns ?_
    refine w_ret ?_
    refine at_endp (res1 rfl rfl) ?_
    have e1 := nv_take_set (zs := zs) (i := ds.length) (by omega) d
    rw [List.take_of_length_le (by simp; omega), hinv, List.take_length] at e1
    rw [e1] at hv5
    exact hv5
end Go.Cy


/- decimal.digit, decimal.split. -/
namespace Go.Cy
open Go Go.Proofs
set_option maxRecDepth 20000

def digV (c : Nat) : Nat := if 48 ≤ c ∧ c ≤ 57 then c - 48 else if 97 ≤ c ∧ c ≤ 122 then c - 87 else 36
theorem digit_ok {m : Mem} {c : Nat} (hc : c < 256) : Pure Tryz.prog 230 #[.int .u8 (c : Nat)] m fun r _ => r = .int .u32 (digV c : Nat) := by
  refine enterp Tryz.func230 rfl rfl ?_
  intro K hm0 hks
  refine wsr ?_
  refine was ?_
  refine wns ?_
  refine w_seq ?_
  refine wsr ?_
  refine wmv ?_
  refine wns ?_
  refine w_block ?_
  refine w_seq_mid (fun m' H' env' => m' = m ∧ H' = [] ∧ env' = [(0, .int .u8 c), (3, .int .u8 c), (4, .bool (decide (48 ≤ c ∧ c ≤ 57)))]) ?_ ?_
  · skip
    refine wsr ?_
    refine wv (x_eql rfl rfl) ?_
    refine was ?_
    refine wns ?_
    refine w_if rfl (fun h48 => ?_) (fun h48 => ?_)
    · skip
      refine w_skip ?_
      exact at_meets [(0, .int .u8 c), (3, .int .u8 c), (4, .bool (decide (48 ≤ c ∧ c ≤ 57)))] ⟨rfl, rfl, rfl⟩ ⟨rfl, rfl, lk_eq rfl (congrArg Value.bool (decide_eq_decide.2 (by omega))), trivial⟩
    · skip
      refine wsr ?_
      refine wv (x_eql rfl rfl) ?_
      refine was ?_
      refine wns ?_
      refine w_if rfl (fun h49 => ?_) (fun h49 => ?_)
      · skip
        refine w_skip ?_
        exact at_meets [(0, .int .u8 c), (3, .int .u8 c), (4, .bool (decide (48 ≤ c ∧ c ≤ 57)))] ⟨rfl, rfl, rfl⟩ ⟨rfl, rfl, lk_eq rfl (congrArg Value.bool (decide_eq_decide.2 (by omega))), trivial⟩
      · skip
        refine wsr ?_
        refine wv (x_eql rfl rfl) ?_
        refine was ?_
        refine wns ?_
        refine w_if rfl (fun h50 => ?_) (fun h50 => ?_)
        · skip
          refine w_skip ?_
          exact at_meets [(0, .int .u8 c), (3, .int .u8 c), (4, .bool (decide (48 ≤ c ∧ c ≤ 57)))] ⟨rfl, rfl, rfl⟩ ⟨rfl, rfl, lk_eq rfl (congrArg Value.bool (decide_eq_decide.2 (by omega))), trivial⟩
        · skip
          refine wsr ?_
          refine wv (x_eql rfl rfl) ?_
          refine was ?_
          refine wns ?_
          refine w_if rfl (fun h51 => ?_) (fun h51 => ?_)
          · skip
            refine w_skip ?_
            exact at_meets [(0, .int .u8 c), (3, .int .u8 c), (4, .bool (decide (48 ≤ c ∧ c ≤ 57)))] ⟨rfl, rfl, rfl⟩ ⟨rfl, rfl, lk_eq rfl (congrArg Value.bool (decide_eq_decide.2 (by omega))), trivial⟩
          · skip
            refine wsr ?_
            refine wv (x_eql rfl rfl) ?_
            refine was ?_
            refine wns ?_
            refine w_if rfl (fun h52 => ?_) (fun h52 => ?_)
            · skip
              refine w_skip ?_
              exact at_meets [(0, .int .u8 c), (3, .int .u8 c), (4, .bool (decide (48 ≤ c ∧ c ≤ 57)))] ⟨rfl, rfl, rfl⟩ ⟨rfl, rfl, lk_eq rfl (congrArg Value.bool (decide_eq_decide.2 (by omega))), trivial⟩
            · skip
              refine wsr ?_
              refine wv (x_eql rfl rfl) ?_
              refine was ?_
              refine wns ?_
              refine w_if rfl (fun h53 => ?_) (fun h53 => ?_)
              · skip
                refine w_skip ?_
                exact at_meets [(0, .int .u8 c), (3, .int .u8 c), (4, .bool (decide (48 ≤ c ∧ c ≤ 57)))] ⟨rfl, rfl, rfl⟩ ⟨rfl, rfl, lk_eq rfl (congrArg Value.bool (decide_eq_decide.2 (by omega))), trivial⟩
              · skip
                refine wsr ?_
                refine wv (x_eql rfl rfl) ?_
                refine was ?_
                refine wns ?_
                refine w_if rfl (fun h54 => ?_) (fun h54 => ?_)
                · skip
                  refine w_skip ?_
                  exact at_meets [(0, .int .u8 c), (3, .int .u8 c), (4, .bool (decide (48 ≤ c ∧ c ≤ 57)))] ⟨rfl, rfl, rfl⟩ ⟨rfl, rfl, lk_eq rfl (congrArg Value.bool (decide_eq_decide.2 (by omega))), trivial⟩
                · skip
                  refine wsr ?_
                  refine wv (x_eql rfl rfl) ?_
                  refine was ?_
                  refine wns ?_
                  refine w_if rfl (fun h55 => ?_) (fun h55 => ?_)
                  · skip
                    refine w_skip ?_
                    exact at_meets [(0, .int .u8 c), (3, .int .u8 c), (4, .bool (decide (48 ≤ c ∧ c ≤ 57)))] ⟨rfl, rfl, rfl⟩ ⟨rfl, rfl, lk_eq rfl (congrArg Value.bool (decide_eq_decide.2 (by omega))), trivial⟩
                  · skip
                    refine wsr ?_
                    refine wv (x_eql rfl rfl) ?_
                    refine was ?_
                    refine wns ?_
                    refine w_if rfl (fun h56 => ?_) (fun h56 => ?_)
                    · skip
                      refine w_skip ?_
                      exact at_meets [(0, .int .u8 c), (3, .int .u8 c), (4, .bool (decide (48 ≤ c ∧ c ≤ 57)))] ⟨rfl, rfl, rfl⟩ ⟨rfl, rfl, lk_eq rfl (congrArg Value.bool (decide_eq_decide.2 (by omega))), trivial⟩
                    · skip
                      refine w_region ?_
                      refine wv (x_eql rfl rfl) ?_
                      refine was ?_
                      refine wl_nil ?_
                      exact at_meets [(0, .int .u8 c), (3, .int .u8 c), (4, .bool (decide (48 ≤ c ∧ c ≤ 57)))] ⟨rfl, rfl, rfl⟩ ⟨rfl, rfl, lk_eq rfl (congrArg Value.bool (decide_eq_decide.2 (by omega))), trivial⟩
  · skip
    rintro m' H' env' ⟨rfl, rfl, rfl⟩
    refine w_if rfl (fun hd => ?_) (fun hd => ?_)
    · skip
      refine wsr ?_
      refine wmv ?_
      refine wv (x_sub rfl rfl (u8n (r := c - 48) (by omega) (by omega))) ?_
      refine wv (x_conv Tryz.underlying5 Tryz.underlying51 rfl (wrap_u32_in (by omega) (by omega))) ?_
      refine was ?_
      refine wns ?_
      refine w_ret ?_
      refine at_block_ret ?_
      refine at_then_ret ?_
      refine at_endp (res1 rfl rfl) ?_
      rw [digV, if_pos hd]
    · skip
      refine w_skip ?_
      refine at_block_normal ?_
      refine at_seq ?_
      refine w_seq ?_
      refine wsr ?_
      refine wmv ?_
      refine wv (x_leq rfl rfl) ?_
      refine wmv ?_
      refine wl_splitp (t := 20) rfl (fun h97 => ?_) (fun h97 => ?_)
      · skip
        refine wmv ?_
        refine wv (x_leq rfl rfl) ?_
        refine wv (x_pick_t rfl rfl) ?_
        refine wns ?_
        refine w_if rfl (fun h122 => ?_) (fun h122 => ?_)
        · skip
          refine wsr ?_
          refine wmv ?_
          refine wv (x_sub rfl rfl (u8n (r := c - 97) (by omega) (by omega))) ?_
          refine wv (x_conv Tryz.underlying5 Tryz.underlying51 rfl (wrap_u32_in (by omega) (by omega))) ?_
          refine wv (x_add rfl rfl (u32n (r := c - 87) (by omega) (by omega))) ?_
          refine was ?_
          refine wns ?_
          refine w_ret ?_
          refine at_then_ret ?_
          refine at_endp (res1 rfl rfl) ?_
          rw [digV, if_neg hd, if_pos (by omega)]
        · skip
          refine w_skip ?_
          refine at_seq ?_
          refine wsr ?_
          refine was ?_
          refine wns ?_
          refine w_ret ?_
          refine at_endp (res1 rfl rfl) ?_
          rw [digV, if_neg hd, if_neg (by omega)]; rfl
      · skip
        refine wl_off rfl rfl rfl ?_
        refine wl_off rfl rfl rfl ?_
        refine wv (x_pick_f rfl rfl) ?_
        refine wns ?_
        refine w_false rfl ?_
        refine w_skip ?_
        refine at_seq ?_
        refine wsr ?_
        refine was ?_
        refine wns ?_
        refine w_ret ?_
        refine at_endp (res1 rfl rfl) ?_
        rw [digV, if_neg hd, if_neg (by omega)]; rfl
def minus : List UInt8 → Bool × List UInt8
  | [] => (false, [])
  | c :: l => if c = 45 then (true, l) else (false, c :: l)
theorem u8_eq {c : UInt8} {k : Nat} (hk : k < 256) : (c.toNat : Int) = k ↔ c = UInt8.ofNat k := by
  constructor
  · intro h
    apply UInt8.toNat.inj
    rw [UInt8.toNat_ofNat']
    omega
  · intro h
    rw [h, UInt8.toNat_ofNat']
    omega
theorem split_ok {m : Mem} {L : List UInt8} (hl : L.length ≤ 4611686018427387904) : Pure Tryz.prog 229 #[.string (B L)] m fun r _ => r = .tuple #[.bool (minus L).1, .string (B (minus L).2)] := by
  refine enterp Tryz.func229 rfl rfl ?_
  intro K hm0 hks
  rcases L with _ | ⟨c, l⟩
  · skip
    refine wsr ?_
    refine was ?_
    refine was ?_
    refine wns ?_
    refine w_seq ?_
    refine wsr ?_
    refine wmv ?_
    refine wv (x_lenB Tryz.underlying9 rfl rfl) ?_
    refine wv ((x_gtr rfl rfl).as (bool_f (by simp))) ?_
    refine wmv ?_
    refine wl_off rfl rfl rfl ?_
    refine wl_off rfl rfl rfl ?_
    refine wl_off rfl rfl rfl ?_
    refine wv (x_pick_f rfl rfl) ?_
    refine wns ?_
    refine w_false rfl ?_
    refine w_skip ?_
    refine at_seq ?_
    refine wsr ?_
    refine wmv ?_
    refine was ?_
    refine was ?_
    refine wns ?_
    refine w_ret ?_
    refine at_endp (res2 rfl rfl rfl) ?_
    rfl
  · skip
    have hcl : 0 < (c :: l).length := Nat.succ_pos _
    refine wsr ?_
    refine was ?_
    refine was ?_
    refine wns ?_
    refine w_seq ?_
    refine wsr ?_
    refine wmv ?_
    refine wv (x_lenB Tryz.underlying9 rfl rfl) ?_
    refine wv ((x_gtr rfl rfl).as (bool_t (by simp only [List.length_cons]; omega))) ?_
    refine wmv ?_
    refine wmv ?_
    refine wv (x_indexB Tryz.underlying9 rfl rfl (j := 0) (by omega) (by omega)) ?_
    refine wv (x_eql rfl rfl) ?_
    refine wv (x_pick_t rfl rfl) ?_
    refine wns ?_
    refine w_if rfl (fun h => ?_) (fun h => ?_)
    · skip
      have hc : c = 45 := (u8_eq (k := 45) (by omega)).1 h
      refine w_seq ?_
      refine dr_start [(2, [])] [[], [0], []] ?_
      refine dr_val rfl rfl (fun m' hm' => ds_val rfl (x_move rfl)) ?_
      refine dr_val rfl rfl (fun m' hm' => ds_val rfl (x_dropB (lo := 1) Tryz.underlying9 rfl rfl (by omega) (by omega))) ?_
      refine dr_val rfl rfl (fun m' hm' => ds_val rfl (x_assign rfl)) ?_
      refine dr_done (k := 3) Tryz.mixed rfl rfl rfl fun m2 hm_m2 => ?_
      show WL _ _ _ _ _ _ _ _ _
      refine was ?_
      refine wns ?_
      refine w_ret ?_
      refine at_then_ret ?_
      refine at_endp (res2 rfl rfl rfl) ?_
      rw [minus, if_pos hc]; rfl
    · skip
      have hc : c ≠ 45 := fun e => h (by rw [e]; rfl)
      refine w_skip ?_
      refine at_seq ?_
      refine wsr ?_
      refine wmv ?_
      refine was ?_
      refine was ?_
      refine wns ?_
      refine w_ret ?_
      refine at_endp (res2 rfl rfl rfl) ?_
      rw [minus, if_neg hc]
end Go.Cy
