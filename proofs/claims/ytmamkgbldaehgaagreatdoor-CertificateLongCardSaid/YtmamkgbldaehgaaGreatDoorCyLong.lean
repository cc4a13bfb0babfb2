/- cylinderlaw56.awake, CertificateLong. -/
import Derived.Test.YtmamkgbldaehgaaGreatDoorCyCert
namespace Go.Cy
open Go Go.Proofs
set_option maxRecDepth 20000

theorem itB_digit (n : Nat) (h : n < 10) : itB (n : Int) = [UInt8.ofNat (48 + n)] := by
  unfold itB
  rw [Lib.itoa_nonneg, Lib.decDigits_one h]

/-- A text that is too long is not read. -/
theorem ParseLong_ok {m : Mem} {s : ByteArray} (h : 1048576 < s.size) : Pure Tryz.prog 27 #[.string s] m fun r _ => r = .tuple #[.agg #[.bool false, .int .i64 0, .slice none 0 0, .slice none 0 0, .int .i64 0, .slice none 0 0], .int .i64 8] := by
  refine enterp Tryz.func27 rfl rfl ?_
  intro K hm0 hks
  refine w_seq ?_
  refine w_region ?_
  refine wl_alloc rfl rfl Tryz.zero61 ?_; intro b2
  refine wl_val rfl rfl rfl (x_assign rfl) ?_
  refine wl_nil ?_
  refine at_seq ?_
  refine w_seq ?_
  refine w_seq ?_
  refine w_region ?_
  refine wl_val rfl rfl rfl (x_move rfl) ?_
  refine wl_val rfl rfl rfl (x_lenS Tryz.underlying9 rfl rfl) ?_
  refine wl_val rfl rfl rfl (x_gtr rfl rfl) ?_
  refine wl_nil ?_
  refine at_seq ?_
  refine w_if rfl (fun h1 => ?_) (fun h1 => ?_)
  · skip
    refine w_seq ?_
    refine w_region ?_
    refine wl_val rfl rfl rfl (x_build (cs := [_, _, _, _, _, _]) Tryz.underlying61 Tryz.places61 Tryz.zero61 rfl rfl) ?_
    refine wl_storeAll rfl (by exact Tryz.size61) rfl rfl (by simp [Value.oneCell']) rfl ?_
    refine wl_val rfl rfl rfl (x_assign rfl) ?_
    refine wl_nil ?_
    refine at_seq ?_
    refine w_ret ?_
    refine at_then_ret ?_
    refine at_endp (resAs (vs := [_, _]) rfl rfl ⟨⟨_, _, _, rfl, rowH0 (.head _), .inr ⟨Tryz.agg61, Tryz.size61, rfl⟩⟩, rfl, trivial⟩) ?_
    rfl
  · skip
    omega

/-- No coordinate, no polynomial. -/
def NoC (_ : Mem) (_ : Value) (_ : Unit) : Prop := False
theorem NoC.up : ∀ (m m' : Mem) v a, m.le m' → NoC m v a → NoC m' v a := fun _ _ _ _ _ h => h

def awC : Cer Unit Unit := ⟨true, 1, [], [], .nil 1⟩
theorem awC_text : awC.text (fun _ => []) (fun _ => []) = [99, 101, 114, 116, 105, 102, 105, 99, 97, 116, 101, 32, 116, 114, 117, 101, 32, 49, 10, 108, 105, 115, 116, 115, 32, 48, 10, 102, 97, 99, 116, 111, 114, 115, 32, 48, 10, 108, 101, 97, 102, 10, 101, 110, 100, 10] := by
  simp only [awC, Cer.text, Cer.headB, listsB, factsB, listsHd, factsHd, Tr.text, Tr.headB, Tr.kind, Tr.len, Tr.cellsB, spaced_one, boolB, cat, List.length_nil, List.map_nil, List.flatten_nil]
  rw [show itB ((0 : Nat) : Int) = [48] from itB_digit 0 (by omega), show itB 1 = [49] from itB_digit 1 (by omega)]
  rfl
theorem awC_small : awC.Small (fun _ => []) (fun _ => []) := ⟨by simp [awC], by simp [awC], by simp [awC], by simp [awC], by simp [awC, Tr.size], by rw [awC_text]; simp⟩
theorem awake_ok {m : Mem} (hT : Tab Tryz.prog m) : Pure Tryz.prog 24 #[] m fun r _ => r = .bool true := by
  have hrep : ∀ {m'}, awC.Rep NoC NoC m' (.agg [.bool true, .int .i64 1, .slice none 0 0, .slice none 0 0, .int .i64 1, .slice none 0 0].toArray) := fun {m'} =>
    ⟨_, _, none, 0, rfl, Sl.nil, Sl.nil, none, 0, [], rfl, Nat.le_refl _, rfl, fun h => absurd h (by simp [awC, Tr.len])⟩
  refine enterp Tryz.func24 rfl rfl ?_
  intro K hm0 hks
  refine w_seq ?_
  refine w_region ?_
  refine wl_val rfl rfl rfl (x_assign rfl) ?_
  refine wl_nil ?_
  refine at_seq ?_
  refine w_seq ?_
  refine w_region ?_
  refine wl_val rfl rfl rfl (x_build (cs := [_, _]) Tryz.underlying45 Tryz.places45 Tryz.zero45 rfl rfl) ?_
  refine wl_val rfl rfl rfl (x_build (cs := [_, _, _, _, _, _]) Tryz.underlying61 Tryz.places61 Tryz.zero61 rfl rfl) ?_
  refine wl_callp rfl rfl rfl Tryz.c26 (Format_ok NoC.up (txt := fun _ => []) (fun _ _ _ h => h.elim) NoC.up (ptxt := fun _ => []) (fun _ _ _ h => h.elim) hrep awC_small hT) ?_; rintro v1 m1 hm1 hr
  rw [show awC.okB = true from rfl, if_pos rfl, if_neg (by rw [awC_text]; simp), awC_text] at hr
  subst hr
  refine wl_val rfl rfl rfl (x_move rfl) ?_
  refine wl_val rfl rfl rfl (x_extract rfl rfl) ?_
  refine wl_val rfl rfl rfl (x_extract rfl rfl) ?_
  refine wl_val rfl rfl rfl (x_assign rfl) ?_
  refine wl_val rfl rfl rfl (x_assign rfl) ?_
  refine wl_nil ?_
  refine at_seq ?_
  refine w_seq ?_
  refine w_region ?_
  refine wl_val rfl rfl rfl (x_move rfl) ?_
  refine wl_val rfl rfl rfl (x_eql rfl rfl) ?_
  refine wl_val rfl rfl rfl (x_move rfl) ?_
  refine wl_splitp (t := 11) rfl (fun h1 => ?_) (fun h1 => ?_)
  · skip
    refine wl_val rfl rfl rfl (x_move rfl) ?_
    refine wl_val rfl rfl rfl (x_eqlS rfl rfl) ?_
    refine wl_val rfl rfl rfl (x_pick_t rfl rfl) ?_
    refine wl_val rfl rfl rfl (x_assign rfl) ?_
    refine wl_nil ?_
    refine at_seq ?_
    refine w_ret ?_
    refine at_endp (res1 rfl rfl) ?_
    exact congrArg Value.bool (decide_eq_true (congrArg ByteArray.toList rfl))
  · skip
    exact absurd rfl h1

/-! The long certificate -/
def longT : Nat → Tr Unit
  | 0 => .nil 3
  | n + 1 => .cons () (.nil 1) (longT n)
theorem longT_kind : ∀ n, (longT n).kind = 3
  | 0 => rfl
  | n + 1 => longT_kind n
theorem longT_len : ∀ n, (longT n).len = n
  | 0 => rfl
  | n + 1 => congrArg (· + 1) (longT_len n)
theorem longT_size : ∀ n, (longT n).size = n
  | 0 => rfl
  | n + 1 => by simp only [longT, Tr.size, longT_size n]; omega
theorem longT_ok : ∀ n d, 0 < d → (longT n).cellsOk d = true
  | 0, _, _ => rfl
  | n + 1, d, h => by simp [longT, Tr.cellsOk, Tr.headOk, Tr.kind, Tr.len, longT_ok n d h]
theorem longT_cells (txt : Unit → List UInt8) (h : (txt ()).length = 2) : ∀ n, ((longT n).cellsB txt).length = 11 * n
  | 0 => rfl
  | n + 1 => by
    simp only [longT, Tr.cellsB, List.length_append, List.length_cons, h, longT_cells txt h n, Tr.headB, Tr.kind, if_true, Tr.len, List.length_nil]
    omega
theorem reps_succ (n : Nat) (zs : List Value) : reps (n + 1) zs = zs ++ reps n zs := by simp [reps, List.replicate_succ]
theorem reps_snoc (n : Nat) (zs : List Value) : reps (n + 1) zs = reps n zs ++ zs := by
  unfold reps
  rw [List.replicate_succ', List.flatten_append]
  simp
/-- A coordinate with the value 1. -/
def OneC (m : Mem) (v : Value) (_ : Unit) : Prop := ∃ p n1 s1 d1, v = .agg #[p, .bool n1, s1, d1, .bool n1, s1, d1] ∧ Fi m (.agg #[.bool n1, s1, d1]) 1 1
theorem OneC.up : ∀ (m m' : Mem) v a, m.le m' → OneC m v a → OneC m' v a := fun _ _ _ _ hm ⟨p, n1, s1, d1, h1, h2⟩ => ⟨p, n1, s1, d1, h1, h2.up hm⟩
theorem fracB_one : fracB 1 1 = [49] := by
  have h1 : lowZ 1 1 = 1 := rfl
  have h2 : lowD 1 1 = 1 := rfl
  unfold fracB
  rw [h1, h2, if_neg (by unfold blen; rw [if_neg (by omega)]; decide)]
  unfold decB
  rw [if_neg (by omega), if_neg (by omega), show (1 : Int).natAbs = 1 from rfl, revD_pos (by omega), show 1 / 10 = 0 from rfl, revD_zero]
  rfl
theorem OneC.format : ∀ (m : Mem) v a, OneC m v a → Pure Tryz.prog 130 #[v] m fun r _ => r = .string (B ((fun _ => [61, 49]) a)) := by
  rintro m v a ⟨p, n1, s1, d1, rfl, h⟩
  have h2 := CFormat_ok (p := p) h h ⟨by simp, by omega⟩ ⟨by simp, by omega⟩ rfl
  rw [fracB_one] at h2
  exact h2
theorem longT_rep {m : Mem} {p s1 d1 : Value} {n1 : Bool} (hp : p.oneCell' = true) (h : Fi m (.agg #[.bool n1, s1, d1]) 1 1) (hs : s1.oneCell' = true) (hd : d1.oneCell' = true) : ∀ n, (longT n).Rep OneC m (reps n [p, .bool n1, s1, d1, .bool n1, s1, d1, .int .i64 1, .slice none 0 0])
  | 0 => rfl
  | n + 1 => ⟨p, .bool n1, s1, d1, .bool n1, s1, d1, none, 0, [], _, reps_succ _ _, by intro u hu; simp at hu; rcases hu with rfl | rfl | rfl | rfl | rfl | rfl | rfl <;> first | assumption | rfl, ⟨p, n1, s1, d1, rfl, h⟩, Nat.le_refl _, rfl, fun h => absurd h (by simp [Tr.len]), longT_rep hp h hs hd n⟩
def longC (n : Nat) : Cer Unit Unit := ⟨false, 1, [], [], longT n⟩
theorem itB_five {n : Nat} (h1 : 10000 ≤ n) (h2 : n < 100000) : (itB (n : Int)).length = 5 := by
  unfold itB
  rw [Lib.itoa_nonneg, Lib.decDigits_length, Lib.nDigits_unique 4 n (by omega) (by omega)]
theorem longC_text {n : Nat} (h1 : 10000 ≤ n) (h2 : n < 100000) : ((longC n).text (fun _ => [61, 49]) (fun _ => [])).length = 52 + n * 11 := by
  have h3 := itB_five h1 h2
  rw [Cer.textB]
  simp only [longC, Cer.headB, listsB, factsB, listsHd, factsHd, Tr.text, Tr.headB, longT_kind, longT_len, spaced_one, boolB, cat, List.length_nil, List.map_nil, List.flatten_nil, List.length_append, List.length_cons, longT_cells (fun _ => [61, 49]) rfl]
  rw [show itB ((0 : Nat) : Int) = [48] from itB_digit 0 (by omega), show itB 1 = [49] from itB_digit 1 (by omega)]
  simp [h3]
  omega

theorem CertificateLong_ok {m : Mem} (hT : Tab Tryz.prog m) {x : Nat} (hx : x < 65536) : Pure Tryz.prog 4 #[.int .u16 x] m fun r _ => r = .bool true := by
  obtain ⟨n, hn⟩ : ∃ n, n = 95000 + x % 700 := ⟨_, rfl⟩
  refine enterp Tryz.func4 rfl rfl ?_
  intro K hm0 hks
  refine w_seq ?_
  refine w_region ?_
  refine wl_val rfl rfl rfl (x_assign rfl) ?_
  refine wl_nil ?_
  refine at_seq ?_
  refine w_seq ?_
  refine w_seq ?_
  refine w_region ?_
  refine wl_callp rfl rfl rfl Tryz.c24 (awake_ok hT) ?_; rintro v1 m1 hm1 rfl
  refine wl_val rfl rfl rfl (x_not rfl rfl) ?_
  refine wl_nil ?_
  refine at_seq ?_
  refine w_false rfl ?_
  refine w_skip ?_
  refine at_seq ?_
  refine w_seq ?_
  refine w_region ?_
  refine wl_val rfl rfl rfl (x_move rfl) ?_
  refine wl_val rfl rfl rfl (x_conv Tryz.underlying42 Tryz.underlying3 rfl (wrap_i64 (by omega) (by omega))) ?_
  refine wl_val rfl rfl rfl (x_rem rfl rfl (by omega) ((Int.ofNat_tmod x 700).symm)) ?_
  refine wl_val rfl rfl rfl (x_add rfl rfl (i64n (r := n) (by omega) (by omega))) ?_
  refine wl_val rfl rfl rfl (x_assign rfl) ?_
  refine wl_nil ?_
  refine at_seq ?_
  refine w_seq ?_
  refine w_region ?_
  refine wl_val rfl rfl rfl (x_build (cs := [_, _]) Tryz.underlying45 Tryz.places45 Tryz.zero45 rfl rfl) ?_
  refine wl_alloc rfl rfl Tryz.zero45 ?_; intro b4
  refine wl_storeAll rfl (by exact Tryz.size45) rfl rfl (by simp [Value.oneCell']) rfl ?_
  refine wl_nil ?_
  refine at_seq ?_
  refine w_seq ?_
  refine w_region ?_
  refine wl_callp rfl rfl rfl Tryz.c25 (Of_ok' (by omega) (by omega)) ?_; rintro v2 m2 hm2 h2
  obtain ⟨n1, a1, l1, c1, rfl⟩ := h2.agg
  skip
  refine wl_buildSlice rfl rfl Tryz.underlying46 Tryz.size51 Tryz.zero51 rfl rfl rfl rfl rfl ?_; intro b22
  refine wl_freeze ?_; intro hfz
  generalize hM : m2.add b22 _ = M at hfz ⊢
  have hMb : M b22 = some (cl 51 [.int .u32 1]) := by rw [← hM]; exact Mem.add_at _ _ _
  have hden : ∀ {m'}, M.le m' → Nt m' (.slice (some ⟨b22, 0, none⟩) 1 1) 1 := fun hm => ⟨[1], Dg.made (ds := [1]) (hm _ _ hMb) (fun d hd => by simp at hd; omega) (by simp), rfl⟩
  have hfi : ∀ {m'}, M.le m' → Fi m' (.agg #[.bool n1, .slice a1 l1 c1, .slice (some ⟨b22, 0, none⟩) 1 1]) 1 1 := by
    intro m' hm
    obtain ⟨neg, s, a, e1, e2, e3, _⟩ := h2.up (hfz.trans hm)
    cases e1
    exact ⟨_, _, a, _, rfl, e2.nt, e3, hden hm⟩
  refine wl_val rfl rfl rfl (x_build (cs := [_, _, _]) Tryz.underlying53 Tryz.places53 Tryz.zero53 rfl rfl) ?_
  refine wl_alloc rfl rfl Tryz.zero53 ?_; intro b5
  refine wl_storeAll rfl (by exact Tryz.size53) rfl rfl (by simp [Value.oneCell']) rfl ?_
  refine wl_nil ?_
  refine at_seq ?_
  refine w_seq ?_
  refine w_region ?_
  refine wl_val rfl rfl rfl (x_loads Tryz.agg53 (by exact Tryz.size53) rfl (rowH0 (.head _))) ?_
  refine wl_val rfl rfl rfl (x_loads Tryz.agg53 (by exact Tryz.size53) rfl (rowH0 (.head _))) ?_
  refine wl_val rfl rfl rfl (x_build (cs := [_, _, _, _, _, _, _]) Tryz.underlying55 Tryz.places55 Tryz.zero55 rfl rfl) ?_
  refine wl_val rfl rfl rfl (x_loads Tryz.agg45 (by exact Tryz.size45) rfl (rowH0 (.tail _ (.head _)))) ?_
  refine wl_val rfl rfl rfl (x_build (cs := [_, _, _, _, _, _, _, _, _]) Tryz.underlying57 Tryz.places57 Tryz.zero57 rfl rfl) ?_
  refine wl_alloc rfl rfl Tryz.zero57 ?_; intro b6
  refine wl_storeAll rfl (by exact Tryz.size57) rfl rfl (by simp [Value.oneCell']) rfl ?_
  refine wl_nil ?_
  refine at_seq ?_
  refine w_seq ?_
  refine w_region ?_
  refine wl_val rfl rfl rfl (x_build (cs := [_, _]) Tryz.underlying45 Tryz.places45 Tryz.zero45 rfl rfl) ?_
  refine wl_alloc rfl rfl Tryz.zero45 ?_; intro b7
  refine wl_storeAll rfl (by exact Tryz.size45) rfl rfl (by simp [Value.oneCell']) rfl ?_
  refine wl_nil ?_
  refine at_seq ?_
  refine w_seq ?_
  refine w_seq ?_
  refine w_region ?_
  refine wl_val rfl rfl rfl (x_move rfl) ?_
  refine wl_val rfl rfl rfl (x_move rfl) ?_
  refine wl_nil ?_
  refine at_seq ?_
  refine w_block ?_
  have hmM := (hm1.trans hm2).trans hfz
  have hn2 : n < 95700 := by omega
  refine w_subl (H' := [_, _]) (List.Sublist.cons_cons _ (List.Sublist.cons_cons _ (.cons _ (.cons _ .slnil)))) ?_
  refine w_loop (fun r m' H' env' => ∃ i v Hs, m' = M ∧ r + i = n ∧ Own v 9 57 (reps i [.slice none 0 0, .bool n1, .slice a1 l1 c1, .slice (some ⟨b22, 0, none⟩) 1 1, .bool n1, .slice a1 l1 c1, .slice (some ⟨b22, 0, none⟩) 1 1, .int .i64 1, .slice none 0 0]) Hs ∧ H' = (b7, cl 45 [.int .i64 3, v]) :: (b6, cl 57 [.slice none 0 0, .bool n1, .slice a1 l1 c1, .slice (some ⟨b22, 0, none⟩) 1 1, .bool n1, .slice a1 l1 c1, .slice (some ⟨b22, 0, none⟩) 1 1, .int .i64 1, .slice none 0 0]) :: Hs ∧ env' = [(3, .int .i64 (n : Nat)), (6, .pointer (some ⟨b6, 0, none⟩)), (7, .pointer (some ⟨b7, 0, none⟩)), (30, .int .i64 (n : Nat)), (31, .int .i64 (i : Nat))]) n [(3, .int .i64 (n : Nat)), (6, .pointer (some ⟨b6, 0, none⟩)), (7, .pointer (some ⟨b7, 0, none⟩)), (30, .int .i64 (n : Nat)), (31, .int .i64 (0 : Nat))] ⟨0, _, [], rfl, by omega, Own.nil _ _, rfl, rfl⟩ (by repeat' (first | exact trivial | exact rfl | exact lk_int rfl (by omega) | apply And.intro)) ?_
  rintro r m' H' env' ⟨i, v, Hs, rfl, hri, hown, rfl, rfl⟩
  refine w_seq ?_
  refine w_region ?_
  refine wl_val rfl rfl rfl (x_lss rfl rfl) ?_
  refine wl_nil ?_
  refine at_seq ?_
  refine w_seq ?_
  refine w_if rfl (fun h3 => ?_) (fun h3 => ?_)
  · skip
    have hi : i < n := by omega
    obtain ⟨va, vl, vc, rfl⟩ := hown.slice
    refine w_skip ?_
    refine at_seq ?_
    refine w_seq ?_
    refine w_block ?_
    refine w_region ?_
    refine wl_val rfl rfl rfl (x_fieldAddr Tryz.underlying45 rfl Tryz.size43 rfl) ?_
    refine wl_val rfl rfl rfl (x_load Tryz.plain43 rfl (rowH1 (.head _) rfl)) ?_
    refine wl_val rfl rfl rfl (x_loads Tryz.agg57 (by exact Tryz.size57) rfl (rowH0 (.tail _ (.head _)))) ?_
    refine wl_buildSlice rfl rfl Tryz.underlying43 Tryz.size57 Tryz.zero57 rfl rfl rfl rfl rfl ?_; intro b36
    refine wl_append (cells := reps i [.slice none 0 0, .bool n1, .slice a1 l1 c1, .slice (some ⟨b22, 0, none⟩) 1 1, .bool n1, .slice a1 l1 c1, .slice (some ⟨b22, 0, none⟩) 1 1, .int .i64 1, .slice none 0 0]) (news := [.slice none 0 0, .bool n1, .slice a1 l1 c1, .slice (some ⟨b22, 0, none⟩) 1 1, .bool n1, .slice a1 l1 c1, .slice (some ⟨b22, 0, none⟩) 1 1, .int .i64 1, .slice none 0 0]) rfl rfl rfl Tryz.underlying43 Tryz.underlying43 Tryz.size57 Tryz.bytes57 Tryz.zero57 rfl (by omega) rfl hown (List.perm_append_comm (l₁ := [_, _, _])) rfl rfl (.inr ⟨_, 0, rfl, rowH0 (.head _)⟩) (by simp [Value.oneCell']) (by rw [reps_length]; simp; omega) (by rw [reps_length]; simp; omega) ?_; intro vo' Hs' hown'; refine wl_perm List.perm_append_comm ?_; refine wl_drop1 ?_
    obtain ⟨wa, wl, wc, rfl⟩ := hown'.slice
    refine wl_val rfl rfl rfl (x_fieldAddr Tryz.underlying45 rfl Tryz.size43 rfl) ?_
    refine wl_store rfl Tryz.size43 rfl rfl rfl (by simp) ?_
    refine wl_nil ?_
    refine at_block_normal ?_
    refine at_seq ?_
    refine w_region ?_
    refine wl_val rfl rfl rfl (x_add rfl rfl (wrap_i64 (by omega) (by omega))) ?_
    refine wl_val rfl rfl rfl (x_move rfl) ?_
    refine wl_nil ?_
    exact at_again (r - 1) [(3, .int .i64 (n : Nat)), (6, .pointer (some ⟨b6, 0, none⟩)), (7, .pointer (some ⟨b7, 0, none⟩)), (30, .int .i64 (n : Nat)), (31, .int .i64 (i + 1 : Nat))] (by omega) ⟨i + 1, _, Hs', rfl, by omega, by rw [reps_snoc]; exact hown', rfl, rfl⟩ (by repeat' (first | exact trivial | exact rfl | exact lk_int rfl (by omega) | apply And.intro))
  · skip
    obtain rfl : i = n := by omega
    have hne : reps i [.slice none 0 0, .bool n1, .slice a1 l1 c1, .slice (some ⟨b22, 0, none⟩) 1 1, .bool n1, .slice a1 l1 c1, .slice (some ⟨b22, 0, none⟩) 1 1, .int .i64 1, .slice none 0 0] ≠ [] := fun e => by have := congrArg List.length e; rw [reps_length] at this; simp at this; omega
    obtain ⟨bo, len, cap, junk, rfl, hcap, hlen, rfl⟩ := hown.some hne
    obtain rfl : len = i := by rw [reps_length] at hlen; simp at hlen; omega
    refine w_perm (List.perm_append_comm (l₁ := [_, _])) ?_
    refine w_freeze ?_; intro hfz2
    have hcellM : Row (m'.add bo (cl 57 (reps len [.slice none 0 0, .bool n1, .slice a1 l1 c1, .slice (some ⟨b22, 0, none⟩) 1 1, .bool n1, .slice a1 l1 c1, .slice (some ⟨b22, 0, none⟩) 1 1, .int .i64 1, .slice none 0 0] ++ junk))) [] bo 0 (reps len [.slice none 0 0, .bool n1, .slice a1 l1 c1, .slice (some ⟨b22, 0, none⟩) 1 1, .bool n1, .slice a1 l1 c1, .slice (some ⟨b22, 0, none⟩) 1 1, .int .i64 1, .slice none 0 0]) := rowM (Mem.add_at _ _ _) fun j hj => by rw [List.getElem?_toArray, Nat.zero_add, List.getElem?_append_left hj]
    have hT2 := hT.up (hmM.trans hfz2)
    have hs1 : (Value.slice a1 l1 c1).oneCell' = true := rfl
    have hrep : (longC len).Rep OneC NoC (m'.add bo (cl 57 (reps len [.slice none 0 0, .bool n1, .slice a1 l1 c1, .slice (some ⟨b22, 0, none⟩) 1 1, .bool n1, .slice a1 l1 c1, .slice (some ⟨b22, 0, none⟩) 1 1, .int .i64 1, .slice none 0 0] ++ junk))) (.agg [.bool false, .int .i64 1, .slice none 0 0, .slice none 0 0, .int .i64 3, .slice (some ⟨bo, 0, none⟩) len cap].toArray) := by
      refine ⟨.slice none 0 0, .slice none 0 0, some ⟨bo, 0, none⟩, cap, ?_, Sl.nil, Sl.nil, some ⟨bo, 0, none⟩, cap, _, rfl, by simpa [longC, longT_len] using hcap, longT_rep (p := .slice none 0 0) rfl (hfi hfz2) rfl rfl len, fun _ => ⟨bo, 0, rfl, hcellM⟩⟩
      simp [longC, longT_kind, longT_len]
    have htx := longC_text (n := len) (by omega) (by omega)
    have hsm : (longC len).Small (fun _ => [61, 49]) (fun _ => []) := ⟨by simp [longC], by simp [longC], by simp [longC], by simp [longC], by simp only [longC, longT_size]; omega, by rw [htx]; omega⟩
    have hokc : (longC len).okB = true := by
      have : (longT len).ok 4 = true := by
        unfold Tr.ok
        rw [longT_kind, longT_len, longT_ok _ _ (by omega)]
        simp [Tr.headOk]
        omega
      simp [Cer.okB, longC, this]
    have hres : ∀ r, r = (if (longC len).okB then (if 1048576 < ((longC len).text (fun _ => [61, 49]) (fun _ => [])).length then .tuple #[.string (B []), .int .i64 8] else .tuple #[.string (B ((longC len).text (fun _ => [61, 49]) (fun _ => []))), .int .i64 0]) else .tuple #[.string (B []), .int .i64 9]) → ∃ s e, r = Value.tuple [.string (B s), .int .i64 e].toArray ∧ (1048576 < 52 + len * 11 → s = [] ∧ e = 8) ∧ (¬ 1048576 < 52 + len * 11 → s.length = 52 + len * 11 ∧ e = 0) := by
      intro r hr
      rw [hokc, if_pos rfl, htx] at hr
      by_cases hb : 1048576 < 52 + len * 11
      · rw [if_pos hb] at hr
        exact ⟨_, _, hr, fun _ => ⟨rfl, rfl⟩, fun h => absurd hb h⟩
      · rw [if_neg hb] at hr
        exact ⟨_, _, hr, fun h => absurd h hb, fun _ => ⟨htx, rfl⟩⟩
    clear hokc
    refine w_exit ?_
    refine at_then_exit ?_
    refine at_then_exit ?_
    refine at_block_hit ?_
    refine at_seq ?_
    refine w_seq ?_
    refine w_region ?_
    refine wl_val rfl rfl rfl (x_loads Tryz.agg45 (by exact Tryz.size45) rfl (rowH0 (.head _))) ?_
    refine wl_val rfl rfl rfl (x_build (cs := [_, _, _, _, _, _]) Tryz.underlying61 Tryz.places61 Tryz.zero61 rfl rfl) ?_
    refine wl_alloc rfl rfl Tryz.zero61 ?_; intro b8
    refine wl_storeAll rfl (by exact Tryz.size61) rfl rfl (by simp [Value.oneCell']) rfl ?_
    refine wl_nil ?_
    refine at_seq ?_
    refine w_seq ?_
    refine w_region ?_
    refine wl_val rfl rfl rfl (x_move rfl) ?_
    refine wl_val rfl rfl rfl (x_mul rfl rfl (i64n (r := len * 11) (by omega) (by omega))) ?_
    refine wl_val rfl rfl rfl (x_add rfl rfl (i64n (r := 52 + len * 11) (by omega) (by omega))) ?_
    refine wl_val rfl rfl rfl (x_assign rfl) ?_
    refine wl_nil ?_
    refine at_seq ?_
    refine w_seq ?_
    refine w_region ?_
    refine wl_val rfl rfl rfl (x_loads Tryz.agg61 (by exact Tryz.size61) rfl (rowH0 (.head _))) ?_
    refine wl_callp rfl rfl rfl Tryz.c26 (Format_ok OneC.up (txt := fun _ => [61, 49]) OneC.format NoC.up (ptxt := fun _ => []) (fun _ _ _ h => h.elim) hrep hsm hT2) ?_; rintro v5 m5 hm5 hr
    obtain ⟨s, e, rfl, hS1, hS2⟩ := hres _ hr
    refine wl_val rfl rfl rfl (x_move rfl) ?_
    refine wl_val rfl rfl rfl (x_extract rfl rfl) ?_
    refine wl_val rfl rfl rfl (x_extract rfl rfl) ?_
    refine wl_val rfl rfl rfl (x_assign rfl) ?_
    refine wl_val rfl rfl rfl (x_assign rfl) ?_
    refine wl_nil ?_
    refine at_seq ?_
    refine w_seq ?_
    refine w_seq ?_
    refine w_region ?_
    refine wl_val rfl rfl rfl (x_move rfl) ?_
    refine wl_val rfl rfl rfl (x_gtr rfl rfl) ?_
    refine wl_nil ?_
    refine at_seq ?_
    refine w_if rfl (fun h6 => ?_) (fun h6 => ?_)
    · skip
      obtain ⟨rfl, rfl⟩ := hS1 (by omega)
      refine w_seq ?_
      refine w_region ?_
      refine wl_val rfl rfl rfl (x_move rfl) ?_
      refine wl_make (N := (52 + len * 11)) rfl rfl Tryz.underlying67 Tryz.size5 Tryz.bytes5 Tryz.zero5 rfl rfl rfl (by omega) (by omega) (by omega) (by omega) ?_; intro b54
      refine wl_val rfl rfl rfl (x_strOf (l := List.replicate (52 + len * 11) 0) Tryz.underlying67 Tryz.underlying5 Tryz.underlying9 rfl (by simp) (.inr ⟨_, 0, rfl, rowH0 (by rw [show bsv (List.replicate (52 + len * 11) 0) = reps (52 + len * 11) [.int .u8 0] by rw [reps_one]; simp [bsv]]; exact .head _)⟩)) ?_
      refine wl_callp rfl rfl rfl Tryz.c27 (ParseLong_ok (by rw [B_size]; simp; omega)) ?_; rintro v7 m7 hm7 rfl
      refine wl_val rfl rfl rfl (x_move rfl) ?_
      refine wl_val rfl rfl rfl (x_extract rfl rfl) ?_
      refine wl_val rfl rfl rfl (x_extract rfl rfl) ?_
      refine wl_alloc rfl rfl Tryz.zero61 ?_; intro b12
      refine wl_storeAll rfl (by exact Tryz.size61) rfl rfl (by simp [Value.oneCell']) rfl ?_
      refine wl_val rfl rfl rfl (x_assign rfl) ?_
      refine wl_nil ?_
      refine at_seq ?_
      refine w_seq ?_
      refine w_region ?_
      refine wl_val rfl rfl rfl (x_move rfl) ?_
      refine wl_val rfl rfl rfl (x_eql rfl rfl) ?_
      refine wl_val rfl rfl rfl (x_move rfl) ?_
      refine wl_splitp (t := 61) rfl (fun h8 => ?_) (fun h8 => ?_)
      · skip
        refine wl_val rfl rfl rfl (x_move rfl) ?_
        refine wl_val rfl rfl rfl (x_eqlS rfl rfl) ?_
        refine wl_val rfl rfl rfl (x_pick_t rfl rfl) ?_
        refine wl_val rfl rfl rfl (x_move rfl) ?_
        refine wl_split (t := 65) rfl (fun h9 => ?_) (fun h9 => ?_)
        · skip
          refine wl_val rfl rfl rfl (x_move rfl) ?_
          refine wl_val rfl rfl rfl (x_eql rfl rfl) ?_
          refine wl_val rfl rfl rfl (x_pick_t rfl rfl) ?_
          refine wl_val rfl rfl rfl (x_assign rfl) ?_
          refine wl_nil ?_
          refine at_seq ?_
          refine w_ret ?_
          refine at_then_ret ?_
          refine at_endp (res1 rfl rfl) ?_
          rfl
        · skip
          refine wl_off rfl rfl rfl ?_
          refine wl_off rfl rfl rfl ?_
          refine wl_val rfl rfl rfl (x_pick_f rfl rfl) ?_
          refine wl_val rfl rfl rfl (x_assign rfl) ?_
          refine wl_nil ?_
          refine at_seq ?_
          refine w_ret ?_
          refine at_then_ret ?_
          refine at_endp (res1 rfl rfl) ?_
          exact absurd (congrArg ByteArray.toList (show B [] = ⟨#[]⟩ from rfl)) (of_decide_eq_false h9)
      · skip
        exact absurd rfl h8
    · skip
      obtain ⟨hsl, rfl⟩ := hS2 (by omega)
      refine w_skip ?_
      refine at_seq ?_
      refine w_seq ?_
      refine w_region ?_
      refine wl_val rfl rfl rfl (x_move rfl) ?_
      refine wl_val rfl rfl rfl (x_eql rfl rfl) ?_
      refine wl_val rfl rfl rfl (x_move rfl) ?_
      refine wl_splitp (t := 71) rfl (fun h8 => ?_) (fun h8 => ?_)
      · skip
        refine wl_val rfl rfl rfl (x_move rfl) ?_
        refine wl_val rfl rfl rfl (x_lenS Tryz.underlying9 rfl rfl) ?_
        refine wl_val rfl rfl rfl (x_move rfl) ?_
        refine wl_val rfl rfl rfl (x_eql rfl rfl) ?_
        refine wl_val rfl rfl rfl (x_pick_t rfl rfl) ?_
        refine wl_val rfl rfl rfl (x_assign rfl) ?_
        refine wl_nil ?_
        refine at_seq ?_
        refine w_ret ?_
        refine at_endp (res1 rfl rfl) ?_
        rw [B_size, hsl]
        simp
      · skip
        exact absurd rfl h8
end Go.Cy

