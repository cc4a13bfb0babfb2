/- certificate.Parse. -/
import Derived.Test.YtmamkgbldaehgaaGreatDoorCyParse
namespace Go.Cy
open Go Go.Proofs
set_option maxRecDepth 20000
set_option maxHeartbeats 8000000

def PCerR (m : Mem) (r : Value) (o : Option (Cer Co (List Tm))) : Prop := match o with
  | some c => ∃ v, r = .tuple #[v, .int .i64 0] ∧ CerV m v c
  | none => r = .tuple #[.agg #[.bool false, .int .i64 0, .slice none 0 0, .slice none 0 0, .int .i64 0, .slice none 0 0], .int .i64 9]
theorem PCerR.of {m : Mem} {r : Value} {o o' : Option (Cer Co (List Tm))} (h : PCerR m r o) (e : o' = o) : PCerR m r o' := e ▸ h
abbrev LsV := Sl 1 (One (Sl 1 (One PV)))
theorem LsV.up' {m m' : Mem} {v : Value} {x : List (List (List Tm))} (h : LsV m v x) (hm : m.le m') : LsV m' v x := h.up (One.up fun _ _ _ _ hm h => h.up (One.up PV.up) hm) hm
theorem LsE.up : ∀ m m' vs (a : List (List Tm)), m.le m' → One (Sl 1 (One PV)) m vs a → One (Sl 1 (One PV)) m' vs a := One.up fun _ _ _ _ hm h => h.up (One.up PV.up) hm
theorem FctV.up : ∀ {f : Fct} (v : Value) (m m' : Mem), m.le m' → FctV m v f → FctV m' v f := fun _ _ _ hm ⟨n1, a1, l1, c1, n2, a2, l2, c2, a3, l3, c3, h1, h2, h3, h4⟩ => ⟨n1, a1, l1, c1, n2, a2, l2, c2, a3, l3, c3, h1, h2.up hm, h3.up hm, h4.up PwC.up hm⟩
theorem FctV.fc {m : Mem} {f : Fct} {n1 n2 : Bool} {s1 s2 s3 : Value} (h : FctV m (.agg #[.bool n1, s1, .bool n2, s2, s3]) f) : FcC m [.bool n1, s1, .bool n2, s2, s3] f := by
  obtain ⟨n1', a1, l1, c1, n2', a2, l2, c2, a3, l3, c3, h1, h2, h3, h4⟩ := h
  injection h1 with h1
  simp only [Array.mk.injEq, List.cons.injEq, Value.bool.injEq, and_true] at h1
  obtain ⟨rfl, rfl, rfl, rfl, rfl⟩ := h1
  exact ⟨_, _, _, _, _, rfl, h2.in', h3.in', h4⟩
theorem mkCer {L : List UInt8} {m : Mem} {lv fv : Value} {nk : Int} {na : Option Addr} {nl nc : Nat} (h1 : LsV m lv (pE L).1) (h2 : Sl 5 FcC m fv (pH L).1) (h3 : Nd CoV m (.agg #[.int .i64 nk, .slice na nl nc]) (pI L).1) : CerV m (.agg #[.bool (decide ((pA L).1.getD 0 [] = wTrue)), .int .i64 (pB L).1, lv, fv, .int .i64 nk, .slice na nl nc]) (pC0 L) := by
  have h3' := h3
  obtain ⟨ad, cap, ws, e, _⟩ := h3'
  injection e with e
  simp only [Array.mk.injEq, List.cons.injEq, Value.int.injEq, Value.slice.injEq, and_true, true_and] at e
  obtain ⟨rfl, rfl, rfl, rfl⟩ := e
  exact ⟨lv, fv, na, nc, rfl, h1, h2, h3⟩
theorem PC.format' : ∀ m v a, PC m v a → Pure Tryz.prog 128 #[v] m fun r _ => r = .string (B (txtP a)) := PC.format
def zC : Obj := cl 61 [.bool false, .int .i64 0, .slice none 0 0, .slice none 0 0, .int .i64 0, .slice none 0 0]
theorem rdLists_le : ∀ (k : Nat) (s : Rs), (rdLists k s).2.1.length ≤ s.1.length
  | 0, s => Nat.le_refl _
  | k + 1, s => by
    rw [rdLists]
    split
    · exact Nat.le_refl _
    · exact Nat.le_trans (rdLists_le k _) (rdList_rest s)
theorem rdFacts_le : ∀ (k : Nat) (s : Rs), (rdFacts k s).2.1.length ≤ s.1.length
  | 0, s => Nat.le_refl _
  | k + 1, s => by
    rw [rdFacts]
    split
    · exact Nat.le_refl _
    · exact Nat.le_trans (rdFacts_le k _) (rdFact_all s).2
theorem Parse_ok {m : Mem} {L : List UInt8} (hw : Wd m) (hE : Er m) (hT : Tab Tryz.prog m) (hl : L.length ≤ 1048576) : Pure Tryz.prog 27 #[.string (B L)] m fun r m' => PCerR m' r (pCer L) := by
  have qa : (pA L).2.1.length ≤ L.length := (rdWords_le wCert 2 (L, true)).1
  have qb : (pB L).2.1.length ≤ L.length := by rw [show (pB L).2.1 = (pA L).2.1 from rdNum_rest _ _]; exact qa
  have qc : (pC L).2.1.length ≤ L.length := Nat.le_trans (rdWords_le wLists 1 (pB L).2).1 qb
  have qd : (pD L).2.1.length ≤ L.length := by rw [show (pD L).2.1 = (pC L).2.1 from rdNum_rest _ _]; exact qc
  have qe2 : (pE L).2.1.length ≤ L.length := Nat.le_trans (rdLists_le _ _) qd
  have qf : (pF L).2.1.length ≤ L.length := Nat.le_trans (rdWords_le wFacts 1 (pE L).2).1 qe2
  have qg : (pG L).2.1.length ≤ L.length := by rw [show (pG L).2.1 = (pF L).2.1 from rdNum_rest _ _]; exact qf
  have qh : (pH L).2.1.length ≤ L.length := Nat.le_trans (rdFacts_le _ _) qg
  have qi : (pI L).2.1.length ≤ L.length := by have := rdNode_le 4 (pH L).2; show (rdNode 4 (pH L).2).2.1.length ≤ _; omega
  refine enterp Tryz.func27 rfl rfl ?_
  intro K hm0 hks
  refine wsr ?_
  refine wl_alloc rfl rfl Tryz.zero61 ?_; intro b2
  refine was ?_
  refine wns ?_
  refine w_seq ?_
  refine wsr ?_
  refine wmv ?_
  refine wv (x_lenB Tryz.underlying9 rfl rfl) ?_
  refine wv ((x_gtr rfl rfl).as (bool_f (by omega))) ?_
  refine wns ?_
  refine w_false rfl ?_
  refine w_skip ?_
  refine at_seq ?_
  refine wsr ?_
  refine wmv ?_
  refine wv (x_build (cs := [_, _]) Tryz.underlying128 Tryz.places128 Tryz.zero128 rfl rfl) ?_
  refine wl_box rfl rfl rfl rfl ?_; intro b17
  refine was ?_
  refine wnr ?_
  refine wl_alloc rfl rfl Tryz.zero61 ?_; intro b5
  refine wnr ?_
  refine wmv ?_
  refine wl_front1 ?_
  refine wl_call rfl rfl rfl Tryz.c77 rfl (words_ok (s := (L, true)) (F := wCert) (n := 2) hw hl (by omega)) ?_; rintro v1 m1 H1 hm1 ⟨h1, rfl⟩
  obtain ⟨bw, ow, capw, rfl, hcw, hw0, hw1⟩ := h1.two
  refine was ?_
  refine wnr ?_
  refine wmv ?_
  refine wv (x_index Tryz.underlying129 Tryz.size9 rfl rfl (j := 0) (by omega) (by omega)) ?_
  refine wv (x_load Tryz.plain9 rfl (hw0.heap)) ?_
  refine wv (x_eqlBs (K := [116, 114, 117, 101])  rfl rfl) ?_
  refine wv (x_fieldAddr Tryz.underlying61 rfl Tryz.size4 rfl) ?_
  refine wl_front1 ?_
  refine wl_store rfl Tryz.size4 rfl rfl rfl (by simp) ?_
  refine wnr ?_
  refine wmv ?_
  refine wmv ?_
  refine wv (x_index Tryz.underlying129 Tryz.size9 rfl rfl (j := 1) (by omega) (by omega)) ?_
  refine wv (x_load Tryz.plain9 rfl (hw1.heap)) ?_
  refine wl_front1 ?_
  refine wl_call rfl rfl rfl Tryz.c78 rfl (number_ok' (s := (pA L).2) (L := (pA L).1.getD 1 []) (hE.up hm1) (Wv.small hl 1)) ?_; rintro v2 m2 H2 hm2 ⟨rfl, rfl⟩
  refine wv (x_fieldAddr Tryz.underlying61 rfl Tryz.size3 rfl) ?_
  refine wl_front1 ?_
  refine wl_store rfl Tryz.size3 rfl rfl rfl (by simp) ?_
  refine wns ?_
  have hm02 := hm1.trans hm2
  refine w_seq_mid (fun m' H' env' => ∃ a l c, m2.le m' ∧ LsV m' (.slice a l c) (pE L).1 ∧ H'.Perm [(b17, rdO (pE L).2), (b5, cl 61 [.bool (decide ((pA L).1.getD 0 [] = wTrue)), .int .i64 (pB L).1, .slice a l c, .slice none 0 0, .int .i64 0, .slice none 0 0]), (b2, zC)] ∧ env' = [(0, .string (B L)), (2, .pointer (some ⟨b2, 0, none⟩)), (4, .pointer (some ⟨b17, 0, none⟩)), (5, .pointer (some ⟨b5, 0, none⟩))]) ?_ ?_
  · skip
    refine wsr ?_
    refine wmv ?_
    refine wmv ?_
    refine wl_front1 ?_
    refine wl_call rfl rfl rfl Tryz.c77 rfl (words_ok (s := (pB L).2) (F := wLists) (n := 1) (hw.up hm02) (by omega) (by omega)) ?_; rintro v3 m3 H3 hm3 ⟨h3, rfl⟩
    obtain ⟨bx, ox, capx, rfl, hcx, hx0⟩ := h3.head
    refine wv (x_index Tryz.underlying129 Tryz.size9 rfl rfl (j := 0) (by omega) (by omega)) ?_
    refine wv (x_load Tryz.plain9 rfl (hx0.heap)) ?_
    refine wl_call rfl rfl rfl Tryz.c78 rfl (number_ok' (s := (pC L).2) (L := (pC L).1.headD []) (hE.up (hm02.trans hm3)) (by rw [headD_getD]; exact Wv.small (by omega) 0)) ?_; rintro v4 m4 H4 hm4 ⟨rfl, rfl⟩
    refine was ?_
    refine wns ?_
    refine w_block ?_
    have hm0 := hm02.trans (hm3.trans hm4)
    refine w_loop (fun r m' H' env' => ∃ a c vss ls st Hs, m4.le m' ∧ ls.length + r = (pD L).1.toNat ∧ pE L = (ls ++ (rdLists r st).1, (rdLists r st).2) ∧ All2 (fun vs x => vs.length = 1 ∧ One (Sl 1 (One PV)) m' vs x) vss ls ∧ Own (.slice a ls.length c) 1 25 vss.flatten Hs ∧ (st.2 = true → ls.length + st.1.length ≤ 1048576) ∧ ls.length ≤ 1048577 ∧ st.1.length ≤ 1048576 ∧ H' = (b17, rdO st) :: (b5, cl 61 [.bool (decide ((pA L).1.getD 0 [] = wTrue)), .int .i64 (pB L).1, .slice a ls.length c, .slice none 0 0, .int .i64 0, .slice none 0 0]) :: (b2, zC) :: Hs ∧ env' = [(0, .string (B L)), (2, .pointer (some ⟨b2, 0, none⟩)), (4, .pointer (some ⟨b17, 0, none⟩)), (5, .pointer (some ⟨b5, 0, none⟩)), (7, .int .i64 (pD L).1)]) (pD L).1.toNat [(0, .string (B L)), (2, .pointer (some ⟨b2, 0, none⟩)), (4, .pointer (some ⟨b17, 0, none⟩)), (5, .pointer (some ⟨b5, 0, none⟩)), (7, .int .i64 (pD L).1)] ⟨none, 0, [], [], (pD L).2, [], Mem.le.refl _, by simp, rfl, trivial, Own.nil _ _, (fun _ => by simp; omega), by simp, by omega, rfl, rfl⟩ (by repeat' (first | exact trivial | exact rfl | exact lk_int rfl (by omega) | apply And.intro)) ?_
    rintro r ma H' env' ⟨a, c, vss, ls, st, Hs, hma, hr, htot, hvs, hown, hst1, hst2, hst3, rfl, rfl⟩
    have hvl := hvs.len
    have hfl : vss.flatten.length = ls.length * 1 := by rw [flat_len (k := 1) (fun us hu => by obtain ⟨x, h⟩ := hvs.left us hu; exact h.1), hvl]
    rcases hs2 : st.2 with _ | _
    · skip
      have hstop : rdLists r st = ([], st) := by
        cases r with
        | zero => rfl
        | succ r => rw [rdLists, if_pos hs2]
      rw [hstop, List.append_nil] at htot
      rcases own_cases hown with ⟨rfl, h6, rfl, h7, rfl⟩ | ⟨b6, junk, rfl, hlc, hcl5, rfl⟩
      · skip
        refine w_seq ?_
        refine wsr ?_
        refine wmv ?_
        refine wv (x_nilCheck rfl) ?_
        refine wv (x_fieldAddr Tryz.underlying128 rfl Tryz.size4 rfl) ?_
        refine wv (x_load Tryz.plain4 rfl (rowH1 (.head _) rfl)) ?_
        refine wv ((x_move rfl).as (congrArg Value.bool hs2)) ?_
        refine wl_off rfl rfl rfl ?_
        refine wl_off rfl rfl rfl ?_
        refine wl_off rfl rfl rfl ?_
        refine wl_off rfl rfl rfl ?_
        refine wl_off rfl rfl rfl ?_
        refine wv (x_pick_f rfl rfl) ?_
        refine wns ?_
        refine w_false rfl ?_
        refine w_exit ?_
        refine at_then_exit ?_
        refine at_then_exit ?_
        refine at_block_hit ?_
        exact at_meets [(0, .string (B L)), (2, .pointer (some ⟨b2, 0, none⟩)), (4, .pointer (some ⟨b17, 0, none⟩)), (5, .pointer (some ⟨b5, 0, none⟩))] ⟨none, ls.length, 0, (hm3.trans (hm4.trans hma)), by rw [htot]; exact Sl.ofk hvs rfl (by omega) (fun h => absurd h (by omega)), by rw [htot], rfl⟩ (by repeat' (first | exact trivial | exact rfl | exact lk_int rfl (by omega) | apply And.intro))
      · skip
        refine w_seq ?_
        refine wsr ?_
        refine wmv ?_
        refine wv (x_nilCheck rfl) ?_
        refine wv (x_fieldAddr Tryz.underlying128 rfl Tryz.size4 rfl) ?_
        refine wv (x_load Tryz.plain4 rfl (rowH1 (.head _) rfl)) ?_
        refine wv ((x_move rfl).as (congrArg Value.bool hs2)) ?_
        refine wl_off rfl rfl rfl ?_
        refine wl_off rfl rfl rfl ?_
        refine wl_off rfl rfl rfl ?_
        refine wl_off rfl rfl rfl ?_
        refine wl_off rfl rfl rfl ?_
        refine wv (x_pick_f rfl rfl) ?_
        refine wns ?_
        refine w_false rfl ?_
        refine w_exit ?_
        refine at_then_exit ?_
        refine at_then_exit ?_
        refine at_block_hit ?_
        refine at_perm (List.perm_append_comm (l₁ := [_, _, _]) (l₂ := [_])) ?_
        refine at_freeze ?_; intro hfz
        exact at_meets [(0, .string (B L)), (2, .pointer (some ⟨b2, 0, none⟩)), (4, .pointer (some ⟨b17, 0, none⟩)), (5, .pointer (some ⟨b5, 0, none⟩))] ⟨some ⟨b6, 0, none⟩, ls.length, c, (hm3.trans (hm4.trans hma)).trans hfz, by rw [htot]; exact Sl.ofk (hvs.mono fun vs x h => ⟨h.1, LsE.up _ _ _ _ hfz h.2⟩) rfl hlc (fun h => ⟨b6, 0, rfl, rowM (Mem.add_at _ _ _) fun i hi => by rw [Nat.zero_add]; simp [List.getElem?_append_left hi]⟩), by rw [htot]; exact .refl _, rfl⟩ (by repeat' (first | exact trivial | exact rfl | exact lk_int rfl (by omega) | apply And.intro))
    · skip
      by_cases hlt : (ls.length : Int) < (pD L).1
      · skip
        obtain ⟨r', rfl⟩ : ∃ r', r = r' + 1 := ⟨r - 1, by omega⟩
        rw [rdLists, if_neg (by rw [hs2]; simp)] at htot
        have hs1 := hst1 hs2
        have hrest : (rdList st).2.1.length ≤ st.1.length := rdList_rest st
        have hcost : (rdList st).2.2 = true → (rdList st).2.1.length + 1 ≤ st.1.length := (fun h => by have := (rdList_cost hst3 h).2; have h2 : 1 ≤ (listB txtP (rdList st).1).length := (by simp [listB, listHd]); omega)
        have hmb := hm0.trans hma
        refine w_seq ?_
        refine wsr ?_
        refine wmv ?_
        refine wv (x_nilCheck rfl) ?_
        refine wv (x_fieldAddr Tryz.underlying128 rfl Tryz.size4 rfl) ?_
        refine wv (x_load Tryz.plain4 rfl (rowH1 (.head _) rfl)) ?_
        refine wv ((x_move rfl).as (congrArg Value.bool hs2)) ?_
        refine wv (x_fieldAddr Tryz.underlying61 rfl Tryz.size58 rfl) ?_
        refine wv (x_load Tryz.plain58 rfl (rowH1 (.tail _ (.head _)) rfl)) ?_
        refine wv (x_len Tryz.underlying58 rfl rfl) ?_
        refine wmv ?_
        refine wv ((x_lss rfl rfl).as (bool_t hlt)) ?_
        refine wv (x_pick_t rfl rfl) ?_
        refine wns ?_
        refine w_true rfl ?_
        refine w_skip ?_
        refine at_seq ?_
        refine w_block ?_
        refine drx_start (b := b17) (cs := [3]) (os := fun s => [rdO st, rdO (rdList st).2].getD s (rdO st)) rfl [] [[], [0], [], [2], [3]] ?_
        refine drx_val rfl rfl (fun m' hm' => ds_val rfl (x_fieldAddr Tryz.underlying61 rfl Tryz.size58 rfl)) ?_
        refine drx_val rfl rfl (fun m' hm' => ds_val rfl (x_load Tryz.plain58 rfl (rowH1 (.head _) rfl))) ?_
        refine drx_val rfl rfl (fun m' hm' => ds_val rfl (x_move rfl)) ?_
        refine drx_call 0 (.ret (fun v m' => Sl 1 (One PV) m' v (rdList st).1) (fun _ _ _ hm h => h.up (One.up PV.up) hm)) rfl rfl (fun m' hm' => es_call rfl rfl Tryz.c79 (list_ok (hw.up (hmb.trans hm')) (hE.up (hmb.trans hm')) (hT.up (hmb.trans hm')) hst3)) ?_
        refine drx_op (.ret (fun v m' => ∃ b9 a10 l10 c10, v = .slice (some ⟨b9, 0, none⟩) 1 1 ∧ Row m' [] b9 0 [.slice a10 l10 c10] ∧ Sl 1 (One PV) m' (.slice a10 l10 c10) (rdList st).1) (fun _ _ _ hm ⟨b, a, l, c, e, h, h'⟩ => ⟨b, a, l, c, e, h.up hm, h'.up (One.up PV.up) hm⟩)) rfl rfl (fun m' hm' v3 h3 => by obtain ⟨a10, c10, rfl⟩ := h3.slice; exact DStep.mono (by show DStep _ _ _ _ _ _ _ _ _; exact ds_buildSlice (cs := [.slice a10 _ c10]) (up := fun _ _ _ hm ⟨b, e, h⟩ => ⟨b, e, h.up hm⟩) rfl Tryz.underlying58 Tryz.size25 Tryz.zero25 rfl rfl rfl rfl rfl) fun v m' h hle hp => by obtain ⟨⟨b, e, hr⟩, hh⟩ := hp; exact ⟨⟨b, a10, _, c10, e, hr, h3.up (One.up PV.up) hle⟩, hh⟩) ?_
        refine drx_done (k := 5) (oe := rdO (rdList st).2) Tryz.mixed rfl rfl rfl rfl rfl fun mb hm_mb v4 h4 v3 h3 => ?_
        show WL _ _ _ _ _ _ _ _ _
        obtain ⟨b81, a10, l10, c10, rfl, hr8, hn8⟩ := h4
        refine wl_append (s := 1) (cells := vss.flatten) (news := [.slice a10 l10 c10]) rfl rfl rfl Tryz.underlying58 Tryz.underlying58 Tryz.size25 Tryz.bytes25 Tryz.zero25 rfl (by omega) rfl hown (show List.Perm ([_, _, _] ++ _) _ from List.perm_append_comm) rfl rfl (.inr ⟨_, 0, rfl, hr8.heap⟩) (by simp [Value.oneCell']) (by rw [hfl]; show (_ + 1) * _ ≤ _; omega) (by rw [hfl]; show _ + 1 ≤ _; omega) ?_; intro lv' Hs' hown'; obtain ⟨a', l', c', rfl⟩ := hown'.slice; obtain rfl : l' = ls.length + 1 := (by have := hown'.len; rw [List.length_append, hfl] at this; simp at this; omega); refine wl_perm List.perm_append_comm ?_
        refine wv (x_fieldAddr Tryz.underlying61 rfl Tryz.size58 rfl) ?_
        refine wl_front1 ?_
        refine wl_store rfl Tryz.size58 rfl rfl rfl (by simp) ?_
        refine wl_nil ?_
        refine at_block_normal ?_
        refine at_perm (.swap _ _ _) ?_
        exact at_again r' [(0, .string (B L)), (2, .pointer (some ⟨b2, 0, none⟩)), (4, .pointer (some ⟨b17, 0, none⟩)), (5, .pointer (some ⟨b5, 0, none⟩)), (7, .int .i64 (pD L).1)] (by omega) ⟨a', c', vss ++ [[.slice a10 l10 c10]], ls ++ [(rdList st).1], (rdList st).2, Hs', hma.trans hm_mb, by simp; omega, by rw [htot]; simp, All2.app (hvs.mono fun vs x h => ⟨h.1, LsE.up _ _ _ _ hm_mb h.2⟩) ⟨⟨rfl, ⟨_, rfl, rfl, hn8⟩⟩, trivial⟩, by rw [List.length_append, List.flatten_append]; simpa using hown', (fun h => by have := hcost h; simp; omega), by simp; omega, by omega, by rw [List.length_append]; rfl, rfl⟩ (by repeat' (first | exact trivial | exact rfl | exact lk_int rfl (by omega) | apply And.intro))
      · skip
        obtain rfl : r = 0 := by omega
        rw [show rdLists 0 st = ([], st) from rfl, List.append_nil] at htot
        rcases own_cases hown with ⟨rfl, h6, rfl, h7, rfl⟩ | ⟨b6, junk, rfl, hlc, hcl5, rfl⟩
        · skip
          refine w_seq ?_
          refine wsr ?_
          refine wmv ?_
          refine wv (x_nilCheck rfl) ?_
          refine wv (x_fieldAddr Tryz.underlying128 rfl Tryz.size4 rfl) ?_
          refine wv (x_load Tryz.plain4 rfl (rowH1 (.head _) rfl)) ?_
          refine wv ((x_move rfl).as (congrArg Value.bool hs2)) ?_
          refine wv (x_fieldAddr Tryz.underlying61 rfl Tryz.size58 rfl) ?_
          refine wv (x_load Tryz.plain58 rfl (rowH1 (.tail _ (.head _)) rfl)) ?_
          refine wv (x_len Tryz.underlying58 rfl rfl) ?_
          refine wmv ?_
          refine wv ((x_lss rfl rfl).as (bool_f hlt)) ?_
          refine wv (x_pick_t rfl rfl) ?_
          refine wns ?_
          refine w_false rfl ?_
          refine w_exit ?_
          refine at_then_exit ?_
          refine at_then_exit ?_
          refine at_block_hit ?_
          exact at_meets [(0, .string (B L)), (2, .pointer (some ⟨b2, 0, none⟩)), (4, .pointer (some ⟨b17, 0, none⟩)), (5, .pointer (some ⟨b5, 0, none⟩))] ⟨none, ls.length, 0, (hm3.trans (hm4.trans hma)), by rw [htot]; exact Sl.ofk hvs rfl (by omega) (fun h => absurd h (by omega)), by rw [htot], rfl⟩ (by repeat' (first | exact trivial | exact rfl | exact lk_int rfl (by omega) | apply And.intro))
        · skip
          refine w_seq ?_
          refine wsr ?_
          refine wmv ?_
          refine wv (x_nilCheck rfl) ?_
          refine wv (x_fieldAddr Tryz.underlying128 rfl Tryz.size4 rfl) ?_
          refine wv (x_load Tryz.plain4 rfl (rowH1 (.head _) rfl)) ?_
          refine wv ((x_move rfl).as (congrArg Value.bool hs2)) ?_
          refine wv (x_fieldAddr Tryz.underlying61 rfl Tryz.size58 rfl) ?_
          refine wv (x_load Tryz.plain58 rfl (rowH1 (.tail _ (.head _)) rfl)) ?_
          refine wv (x_len Tryz.underlying58 rfl rfl) ?_
          refine wmv ?_
          refine wv ((x_lss rfl rfl).as (bool_f hlt)) ?_
          refine wv (x_pick_t rfl rfl) ?_
          refine wns ?_
          refine w_false rfl ?_
          refine w_exit ?_
          refine at_then_exit ?_
          refine at_then_exit ?_
          refine at_block_hit ?_
          refine at_perm (List.perm_append_comm (l₁ := [_, _, _]) (l₂ := [_])) ?_
          refine at_freeze ?_; intro hfz
          exact at_meets [(0, .string (B L)), (2, .pointer (some ⟨b2, 0, none⟩)), (4, .pointer (some ⟨b17, 0, none⟩)), (5, .pointer (some ⟨b5, 0, none⟩))] ⟨some ⟨b6, 0, none⟩, ls.length, c, (hm3.trans (hm4.trans hma)).trans hfz, by rw [htot]; exact Sl.ofk (hvs.mono fun vs x h => ⟨h.1, LsE.up _ _ _ _ hfz h.2⟩) rfl hlc (fun h => ⟨b6, 0, rfl, rowM (Mem.add_at _ _ _) fun i hi => by rw [Nat.zero_add]; simp [List.getElem?_append_left hi]⟩), by rw [htot]; exact .refl _, rfl⟩ (by repeat' (first | exact trivial | exact rfl | exact lk_int rfl (by omega) | apply And.intro))
  · skip
    rintro m5 H' env' ⟨la, ll, lc, hm5, hls, hperm, rfl⟩
    refine w_perm hperm ?_
    clear hperm
    have hm05 := hm02.trans hm5
    refine w_seq_mid (fun m' H' env' => ∃ a l c, m5.le m' ∧ Sl 5 FcC m' (.slice a l c) (pH L).1 ∧ H'.Perm [(b17, rdO (pH L).2), (b5, cl 61 [.bool (decide ((pA L).1.getD 0 [] = wTrue)), .int .i64 (pB L).1, .slice la ll lc, .slice a l c, .int .i64 0, .slice none 0 0]), (b2, zC)] ∧ env' = [(0, .string (B L)), (2, .pointer (some ⟨b2, 0, none⟩)), (4, .pointer (some ⟨b17, 0, none⟩)), (5, .pointer (some ⟨b5, 0, none⟩))]) ?_ ?_
    · skip
      refine wsr ?_
      refine wmv ?_
      refine wmv ?_
      refine wl_call rfl rfl rfl Tryz.c77 rfl (words_ok (s := (pE L).2) (F := wFacts) (n := 1) (hw.up hm05) (by omega) (by omega)) ?_; rintro v3 m6 H3 hm6 ⟨h3, rfl⟩
      obtain ⟨bx, ox, capx, rfl, hcx, hx0⟩ := h3.head
      refine wv (x_index Tryz.underlying129 Tryz.size9 rfl rfl (j := 0) (by omega) (by omega)) ?_
      refine wv (x_load Tryz.plain9 rfl (hx0.heap)) ?_
      refine wl_call rfl rfl rfl Tryz.c78 rfl (number_ok' (s := (pF L).2) (L := (pF L).1.headD []) (hE.up (hm05.trans hm6)) (by rw [headD_getD]; exact Wv.small (by omega) 0)) ?_; rintro v4 m7 H4 hm7 ⟨rfl, rfl⟩
      refine was ?_
      refine wns ?_
      refine w_block ?_
      have hm0 := hm05.trans (hm6.trans hm7)
      refine w_loop (fun r m' H' env' => ∃ a c vss ls st Hs, m7.le m' ∧ ls.length + r = (pG L).1.toNat ∧ pH L = (ls ++ (rdFacts r st).1, (rdFacts r st).2) ∧ All2 (fun vs x => vs.length = 5 ∧ FcC m' vs x) vss ls ∧ Own (.slice a ls.length c) 5 135 vss.flatten Hs ∧ (st.2 = true → ls.length + st.1.length ≤ 1048576) ∧ ls.length ≤ 1048577 ∧ st.1.length ≤ 1048576 ∧ H' = (b17, rdO st) :: (b5, cl 61 [.bool (decide ((pA L).1.getD 0 [] = wTrue)), .int .i64 (pB L).1, .slice la ll lc, .slice a ls.length c, .int .i64 0, .slice none 0 0]) :: (b2, zC) :: Hs ∧ env' = [(0, .string (B L)), (2, .pointer (some ⟨b2, 0, none⟩)), (4, .pointer (some ⟨b17, 0, none⟩)), (5, .pointer (some ⟨b5, 0, none⟩)), (8, .int .i64 (pG L).1)]) (pG L).1.toNat [(0, .string (B L)), (2, .pointer (some ⟨b2, 0, none⟩)), (4, .pointer (some ⟨b17, 0, none⟩)), (5, .pointer (some ⟨b5, 0, none⟩)), (8, .int .i64 (pG L).1)] ⟨none, 0, [], [], (pG L).2, [], Mem.le.refl _, by simp, rfl, trivial, Own.nil _ _, (fun _ => by simp; omega), by simp, by omega, rfl, rfl⟩ (by repeat' (first | exact trivial | exact rfl | exact lk_int rfl (by omega) | apply And.intro)) ?_
      rintro r ma H' env' ⟨a, c, vss, ls, st, Hs, hma, hr, htot, hvs, hown, hst1, hst2, hst3, rfl, rfl⟩
      have hvl := hvs.len
      have hfl : vss.flatten.length = ls.length * 5 := by rw [flat_len (k := 5) (fun us hu => by obtain ⟨x, h⟩ := hvs.left us hu; exact h.1), hvl]
      rcases hs2 : st.2 with _ | _
      · skip
        have hstop : rdFacts r st = ([], st) := by
          cases r with
          | zero => rfl
          | succ r => rw [rdFacts, if_pos hs2]
        rw [hstop, List.append_nil] at htot
        rcases own_cases hown with ⟨rfl, h6, rfl, h7, rfl⟩ | ⟨b6, junk, rfl, hlc, hcl5, rfl⟩
        · skip
          refine w_seq ?_
          refine wsr ?_
          refine wmv ?_
          refine wv (x_nilCheck rfl) ?_
          refine wv (x_fieldAddr Tryz.underlying128 rfl Tryz.size4 rfl) ?_
          refine wv (x_load Tryz.plain4 rfl (rowH1 (.head _) rfl)) ?_
          refine wv ((x_move rfl).as (congrArg Value.bool hs2)) ?_
          refine wl_off rfl rfl rfl ?_
          refine wl_off rfl rfl rfl ?_
          refine wl_off rfl rfl rfl ?_
          refine wl_off rfl rfl rfl ?_
          refine wl_off rfl rfl rfl ?_
          refine wv (x_pick_f rfl rfl) ?_
          refine wns ?_
          refine w_false rfl ?_
          refine w_exit ?_
          refine at_then_exit ?_
          refine at_then_exit ?_
          refine at_block_hit ?_
          exact at_meets [(0, .string (B L)), (2, .pointer (some ⟨b2, 0, none⟩)), (4, .pointer (some ⟨b17, 0, none⟩)), (5, .pointer (some ⟨b5, 0, none⟩))] ⟨none, ls.length, 0, (hm6.trans (hm7.trans hma)), by rw [htot]; exact Sl.ofk hvs rfl (by omega) (fun h => absurd h (by omega)), by rw [htot], rfl⟩ (by repeat' (first | exact trivial | exact rfl | exact lk_int rfl (by omega) | apply And.intro))
        · skip
          refine w_seq ?_
          refine wsr ?_
          refine wmv ?_
          refine wv (x_nilCheck rfl) ?_
          refine wv (x_fieldAddr Tryz.underlying128 rfl Tryz.size4 rfl) ?_
          refine wv (x_load Tryz.plain4 rfl (rowH1 (.head _) rfl)) ?_
          refine wv ((x_move rfl).as (congrArg Value.bool hs2)) ?_
          refine wl_off rfl rfl rfl ?_
          refine wl_off rfl rfl rfl ?_
          refine wl_off rfl rfl rfl ?_
          refine wl_off rfl rfl rfl ?_
          refine wl_off rfl rfl rfl ?_
          refine wv (x_pick_f rfl rfl) ?_
          refine wns ?_
          refine w_false rfl ?_
          refine w_exit ?_
          refine at_then_exit ?_
          refine at_then_exit ?_
          refine at_block_hit ?_
          refine at_perm (List.perm_append_comm (l₁ := [_, _, _]) (l₂ := [_])) ?_
          refine at_freeze ?_; intro hfz
          exact at_meets [(0, .string (B L)), (2, .pointer (some ⟨b2, 0, none⟩)), (4, .pointer (some ⟨b17, 0, none⟩)), (5, .pointer (some ⟨b5, 0, none⟩))] ⟨some ⟨b6, 0, none⟩, ls.length, c, (hm6.trans (hm7.trans hma)).trans hfz, by rw [htot]; exact Sl.ofk (hvs.mono fun vs x h => ⟨h.1, FcC.up _ _ _ _ hfz h.2⟩) rfl hlc (fun h => ⟨b6, 0, rfl, rowM (Mem.add_at _ _ _) fun i hi => by rw [Nat.zero_add]; simp [List.getElem?_append_left hi]⟩), by rw [htot]; exact .refl _, rfl⟩ (by repeat' (first | exact trivial | exact rfl | exact lk_int rfl (by omega) | apply And.intro))
      · skip
        by_cases hlt : (ls.length : Int) < (pG L).1
        · skip
          obtain ⟨r', rfl⟩ : ∃ r', r = r' + 1 := ⟨r - 1, by omega⟩
          rw [rdFacts, if_neg (by rw [hs2]; simp)] at htot
          have hs1 := hst1 hs2
          have hrest : (rdFact st).2.1.length ≤ st.1.length := (rdFact_all st).2
          have hcost : (rdFact st).2.2 = true → (rdFact st).2.1.length + 1 ≤ st.1.length := (fun h => by have := (rdFact_cost h).2; have h2 : 1 ≤ (factB (rdFact st).1).length := (by simp [factB, factHd]); omega)
          have hmb := hm0.trans hma
          refine w_seq ?_
          refine wsr ?_
          refine wmv ?_
          refine wv (x_nilCheck rfl) ?_
          refine wv (x_fieldAddr Tryz.underlying128 rfl Tryz.size4 rfl) ?_
          refine wv (x_load Tryz.plain4 rfl (rowH1 (.head _) rfl)) ?_
          refine wv ((x_move rfl).as (congrArg Value.bool hs2)) ?_
          refine wv (x_fieldAddr Tryz.underlying61 rfl Tryz.size59 rfl) ?_
          refine wv (x_load Tryz.plain59 rfl (rowH1 (.tail _ (.head _)) rfl)) ?_
          refine wv (x_len Tryz.underlying59 rfl rfl) ?_
          refine wmv ?_
          refine wv ((x_lss rfl rfl).as (bool_t hlt)) ?_
          refine wv (x_pick_t rfl rfl) ?_
          refine wns ?_
          refine w_true rfl ?_
          refine w_skip ?_
          refine at_seq ?_
          refine w_block ?_
          refine drx_start (b := b17) (cs := [3]) (os := fun s => [rdO st, rdO (rdFact st).2].getD s (rdO st)) rfl [] [[], [0], [], [2], [3]] ?_
          refine drx_val rfl rfl (fun m' hm' => ds_val rfl (x_fieldAddr Tryz.underlying61 rfl Tryz.size59 rfl)) ?_
          refine drx_val rfl rfl (fun m' hm' => ds_val rfl (x_load Tryz.plain59 rfl (rowH1 (.head _) rfl))) ?_
          refine drx_val rfl rfl (fun m' hm' => ds_val rfl (x_move rfl)) ?_
          refine drx_call 0 (.ret (fun v m' => FctV m' v (rdFact st).1) FctV.up) rfl rfl (fun m' hm' => es_call rfl rfl Tryz.c80 (rfactors_ok (hw.up (hmb.trans hm')) (hE.up (hmb.trans hm')) hst3)) ?_
          refine drx_op (.ret (fun v m' => ∃ b9 n1 a1 l1 c1 n2 a2 l2 c2 a3 l3 c3, v = .slice (some ⟨b9, 0, none⟩) 1 1 ∧ Row m' [] b9 0 [.bool n1, .slice a1 l1 c1, .bool n2, .slice a2 l2 c2, .slice a3 l3 c3] ∧ FctV m' (.agg #[.bool n1, .slice a1 l1 c1, .bool n2, .slice a2 l2 c2, .slice a3 l3 c3]) (rdFact st).1) (fun _ _ _ hm ⟨b, n1, a1, l1, c1, n2, a2, l2, c2, a3, l3, c3, e, h, h'⟩ => ⟨b, n1, a1, l1, c1, n2, a2, l2, c2, a3, l3, c3, e, h.up hm, FctV.up _ _ _ hm h'⟩)) rfl rfl (fun m' hm' v3 h3 => by have h3' := h3; obtain ⟨n1, a1, l1, c1, n2, a2, l2, c2, a3, l3, c3, rfl, _⟩ := h3; exact DStep.mono (by show DStep _ _ _ _ _ _ _ _ _; exact ds_buildSlice (cs := [.bool n1, .slice a1 l1 c1, .bool n2, .slice a2 l2 c2, .slice a3 l3 c3]) (up := fun _ _ _ hm ⟨b, e, h⟩ => ⟨b, e, h.up hm⟩) rfl Tryz.underlying59 Tryz.size135 Tryz.zero135 rfl rfl rfl rfl rfl) fun v m' h hle hp => by obtain ⟨⟨b, e, hr⟩, hh⟩ := hp; exact ⟨⟨b, n1, a1, l1, c1, n2, a2, l2, c2, a3, l3, c3, e, hr, FctV.up _ _ _ hle h3'⟩, hh⟩) ?_
          refine drx_done (k := 5) (oe := rdO (rdFact st).2) Tryz.mixed rfl rfl rfl rfl rfl fun mb hm_mb v4 h4 v3 h3 => ?_
          show WL _ _ _ _ _ _ _ _ _
          obtain ⟨b81, n1, a1, l1, c1, n2, a2, l2, c2, a3, l3, c3, rfl, hr8, hn8⟩ := h4
          refine wl_append (s := 5) (cells := vss.flatten) (news := [.bool n1, .slice a1 l1 c1, .bool n2, .slice a2 l2 c2, .slice a3 l3 c3]) rfl rfl rfl Tryz.underlying59 Tryz.underlying59 Tryz.size135 Tryz.bytes135 Tryz.zero135 rfl (by omega) rfl hown (show List.Perm ([_, _, _] ++ _) _ from List.perm_append_comm) rfl rfl (.inr ⟨_, 0, rfl, hr8.heap⟩) (by simp [Value.oneCell']) (by rw [hfl]; show (_ + 5) * _ ≤ _; omega) (by rw [hfl]; show _ + 5 ≤ _; omega) ?_; intro lv' Hs' hown'; obtain ⟨a', l', c', rfl⟩ := hown'.slice; obtain rfl : l' = ls.length + 1 := (by have := hown'.len; rw [List.length_append, hfl] at this; simp at this; omega); refine wl_perm List.perm_append_comm ?_
          refine wv (x_fieldAddr Tryz.underlying61 rfl Tryz.size59 rfl) ?_
          refine wl_front1 ?_
          refine wl_store rfl Tryz.size59 rfl rfl rfl (by simp) ?_
          refine wl_nil ?_
          refine at_block_normal ?_
          refine at_perm (.swap _ _ _) ?_
          exact at_again r' [(0, .string (B L)), (2, .pointer (some ⟨b2, 0, none⟩)), (4, .pointer (some ⟨b17, 0, none⟩)), (5, .pointer (some ⟨b5, 0, none⟩)), (8, .int .i64 (pG L).1)] (by omega) ⟨a', c', vss ++ [[.bool n1, .slice a1 l1 c1, .bool n2, .slice a2 l2 c2, .slice a3 l3 c3]], ls ++ [(rdFact st).1], (rdFact st).2, Hs', hma.trans hm_mb, by simp; omega, by rw [htot]; simp, All2.app (hvs.mono fun vs x h => ⟨h.1, FcC.up _ _ _ _ hm_mb h.2⟩) ⟨⟨rfl, FctV.fc hn8⟩, trivial⟩, by rw [List.length_append, List.flatten_append]; simpa using hown', (fun h => by have := hcost h; simp; omega), by simp; omega, by omega, by rw [List.length_append]; rfl, rfl⟩ (by repeat' (first | exact trivial | exact rfl | exact lk_int rfl (by omega) | apply And.intro))
        · skip
          obtain rfl : r = 0 := by omega
          rw [show rdFacts 0 st = ([], st) from rfl, List.append_nil] at htot
          rcases own_cases hown with ⟨rfl, h6, rfl, h7, rfl⟩ | ⟨b6, junk, rfl, hlc, hcl5, rfl⟩
          · skip
            refine w_seq ?_
            refine wsr ?_
            refine wmv ?_
            refine wv (x_nilCheck rfl) ?_
            refine wv (x_fieldAddr Tryz.underlying128 rfl Tryz.size4 rfl) ?_
            refine wv (x_load Tryz.plain4 rfl (rowH1 (.head _) rfl)) ?_
            refine wv ((x_move rfl).as (congrArg Value.bool hs2)) ?_
            refine wv (x_fieldAddr Tryz.underlying61 rfl Tryz.size59 rfl) ?_
            refine wv (x_load Tryz.plain59 rfl (rowH1 (.tail _ (.head _)) rfl)) ?_
            refine wv (x_len Tryz.underlying59 rfl rfl) ?_
            refine wmv ?_
            refine wv ((x_lss rfl rfl).as (bool_f hlt)) ?_
            refine wv (x_pick_t rfl rfl) ?_
            refine wns ?_
            refine w_false rfl ?_
            refine w_exit ?_
            refine at_then_exit ?_
            refine at_then_exit ?_
            refine at_block_hit ?_
            exact at_meets [(0, .string (B L)), (2, .pointer (some ⟨b2, 0, none⟩)), (4, .pointer (some ⟨b17, 0, none⟩)), (5, .pointer (some ⟨b5, 0, none⟩))] ⟨none, ls.length, 0, (hm6.trans (hm7.trans hma)), by rw [htot]; exact Sl.ofk hvs rfl (by omega) (fun h => absurd h (by omega)), by rw [htot], rfl⟩ (by repeat' (first | exact trivial | exact rfl | exact lk_int rfl (by omega) | apply And.intro))
          · skip
            refine w_seq ?_
            refine wsr ?_
            refine wmv ?_
            refine wv (x_nilCheck rfl) ?_
            refine wv (x_fieldAddr Tryz.underlying128 rfl Tryz.size4 rfl) ?_
            refine wv (x_load Tryz.plain4 rfl (rowH1 (.head _) rfl)) ?_
            refine wv ((x_move rfl).as (congrArg Value.bool hs2)) ?_
            refine wv (x_fieldAddr Tryz.underlying61 rfl Tryz.size59 rfl) ?_
            refine wv (x_load Tryz.plain59 rfl (rowH1 (.tail _ (.head _)) rfl)) ?_
            refine wv (x_len Tryz.underlying59 rfl rfl) ?_
            refine wmv ?_
            refine wv ((x_lss rfl rfl).as (bool_f hlt)) ?_
            refine wv (x_pick_t rfl rfl) ?_
            refine wns ?_
            refine w_false rfl ?_
            refine w_exit ?_
            refine at_then_exit ?_
            refine at_then_exit ?_
            refine at_block_hit ?_
            refine at_perm (List.perm_append_comm (l₁ := [_, _, _]) (l₂ := [_])) ?_
            refine at_freeze ?_; intro hfz
            exact at_meets [(0, .string (B L)), (2, .pointer (some ⟨b2, 0, none⟩)), (4, .pointer (some ⟨b17, 0, none⟩)), (5, .pointer (some ⟨b5, 0, none⟩))] ⟨some ⟨b6, 0, none⟩, ls.length, c, (hm6.trans (hm7.trans hma)).trans hfz, by rw [htot]; exact Sl.ofk (hvs.mono fun vs x h => ⟨h.1, FcC.up _ _ _ _ hfz h.2⟩) rfl hlc (fun h => ⟨b6, 0, rfl, rowM (Mem.add_at _ _ _) fun i hi => by rw [Nat.zero_add]; simp [List.getElem?_append_left hi]⟩), by rw [htot]; exact .refl _, rfl⟩ (by repeat' (first | exact trivial | exact rfl | exact lk_int rfl (by omega) | apply And.intro))
    · skip
      rintro m8 H' env' ⟨fa, fl, fc, hm8, hfs, hperm, rfl⟩
      refine w_perm hperm ?_
      clear hperm
      have hm08 := hm05.trans hm8
      rcases hok : (pJ L).2.2 with _ | _
      · skip
        refine wsr ?_
        refine wmv ?_
        refine wl_call rfl rfl rfl Tryz.c81 rfl (rnode_ok 4 (by omega) _ b17 (pH L).2 (hw.up hm08) (hE.up hm08) (hT.up hm08) (by omega)) ?_; rintro v9 m9 H9 hm9 ⟨⟨⟨nk, na, nl, nc, rfl⟩, hnd⟩, rfl⟩
        refine wv (x_fieldAddr Tryz.underlying61 rfl Tryz.size45 rfl) ?_
        refine wl_front1 ?_
        refine wl_stores rfl (by exact Tryz.size45) rfl rfl (by simp [Value.oneCell']) (by simp) ?_
        refine wnr ?_
        refine wmv ?_
        refine wl_front1 ?_
        refine wl_call rfl rfl rfl Tryz.c77 rfl (words_ok (s := (pI L).2) (F := wEnd) (n := 0) (hw.up (hm08.trans hm9)) (by omega) (by omega)) ?_; rintro v10 m10 H10 hm10 ⟨_, rfl⟩
        refine wns ?_
        refine w_seq ?_
        refine wsr ?_
        refine wmv ?_
        refine wv (x_nilCheck rfl) ?_
        refine wv (x_fieldAddr Tryz.underlying128 rfl Tryz.size4 rfl) ?_
        refine wv (x_load Tryz.plain4 rfl (rowH1 (.head _) rfl)) ?_
        refine wv ((x_not rfl rfl).as (congrArg Value.bool (by show (!(pJ L).2.2) = _; rw [hok]))) ?_
        refine wns ?_
        refine w_true rfl ?_
        refine wsr ?_
        refine wv (x_build (cs := [_, _, _, _, _, _]) Tryz.underlying61 Tryz.places61 Tryz.zero61 rfl rfl) ?_
        refine wl_front2 ?_
        refine wl_storeAll rfl (by exact Tryz.size61) rfl rfl (by simp [Value.oneCell']) rfl ?_
        refine was ?_
        refine wns ?_
        refine w_ret ?_
        refine at_then_ret ?_
        refine at_endp (resAs (vs := [_, _]) rfl rfl ⟨⟨_, _, _, rfl, rowH0 (.head _), .inr ⟨Tryz.agg61, Tryz.size61, rfl⟩⟩, rfl, trivial⟩) ?_
        exact PCerR.of (o := none) rfl (by unfold pCer; rw [if_neg (fun h => by rw [h.1] at hok; cases hok)])
      · skip
        by_cases hb : (pC0 L).okB = true
        · skip
          by_cases hlen : 1048576 < ((pC0 L).text coB txtP).length
          · skip
            refine wsr ?_
            refine wmv ?_
            refine wl_call rfl rfl rfl Tryz.c81 rfl (rnode_ok 4 (by omega) _ b17 (pH L).2 (hw.up hm08) (hE.up hm08) (hT.up hm08) (by omega)) ?_; rintro v9 m9 H9 hm9 ⟨⟨⟨nk, na, nl, nc, rfl⟩, hnd⟩, rfl⟩
            refine wv (x_fieldAddr Tryz.underlying61 rfl Tryz.size45 rfl) ?_
            refine wl_front1 ?_
            refine wl_stores rfl (by exact Tryz.size45) rfl rfl (by simp [Value.oneCell']) (by simp) ?_
            refine wnr ?_
            refine wmv ?_
            refine wl_front1 ?_
            refine wl_call rfl rfl rfl Tryz.c77 rfl (words_ok (s := (pI L).2) (F := wEnd) (n := 0) (hw.up (hm08.trans hm9)) (by omega) (by omega)) ?_; rintro v10 m10 H10 hm10 ⟨_, rfl⟩
            refine wns ?_
            refine w_seq ?_
            refine wsr ?_
            refine wmv ?_
            refine wv (x_nilCheck rfl) ?_
            refine wv (x_fieldAddr Tryz.underlying128 rfl Tryz.size4 rfl) ?_
            refine wv (x_load Tryz.plain4 rfl (rowH1 (.head _) rfl)) ?_
            refine wv ((x_not rfl rfl).as (congrArg Value.bool (by show (!(pJ L).2.2) = _; rw [hok]))) ?_
            refine wns ?_
            refine w_false rfl ?_
            refine w_skip ?_
            refine at_seq ?_
            refine w_seq ?_
            refine wsr ?_
            have hrep : CerV m10 (.agg #[.bool (decide ((pA L).1.getD 0 [] = wTrue)), .int .i64 (pB L).1, .slice la ll lc, .slice fa fl fc, .int .i64 nk, .slice na nl nc]) (pC0 L) := mkCer (hls.up' (hm8.trans (hm9.trans hm10))) (hfs.up FcC.up (hm9.trans hm10)) (Nd.up CoV.up hnd hm10)
            refine wv (x_loads Tryz.agg61 (by exact Tryz.size61) rfl (rowH0 (.tail _ (.head _)))) ?_
            refine wl_callp rfl rfl rfl Tryz.c26 (Format_ok CoC.up CoC.format PC.up PC.format' (hrep.rep (hT.up (hm08.trans (hm9.trans hm10)))) (cer_small hl hok) (hT.up (hm08.trans (hm9.trans hm10)))) ?_; rintro v11 m11 hm11 h11
            rw [if_pos hb, if_pos hlen] at h11
            obtain rfl := h11
            refine wmv ?_
            refine wex ?_
            refine wex ?_
            refine was ?_
            refine was ?_
            refine wnr ?_
            refine wmv ?_
            refine wv ((x_neq rfl rfl).as (bool_t (by decide))) ?_
            refine wmv ?_
            refine wl_off rfl rfl rfl ?_
            refine wl_off rfl rfl rfl ?_
            refine wl_off rfl rfl rfl ?_
            refine wv (x_pick_t rfl rfl) ?_
            refine wns ?_
            refine w_true rfl ?_
            refine wsr ?_
            refine wv (x_build (cs := [_, _, _, _, _, _]) Tryz.underlying61 Tryz.places61 Tryz.zero61 rfl rfl) ?_
            refine wl_front2 ?_
            refine wl_storeAll rfl (by exact Tryz.size61) rfl rfl (by simp [Value.oneCell']) rfl ?_
            refine was ?_
            refine wns ?_
            refine w_ret ?_
            refine at_then_ret ?_
            refine at_endp (resAs (vs := [_, _]) rfl rfl ⟨⟨_, _, _, rfl, rowH0 (.head _), .inr ⟨Tryz.agg61, Tryz.size61, rfl⟩⟩, rfl, trivial⟩) ?_
            exact PCerR.of (o := none) rfl (by unfold pCer; rw [if_neg (fun h => by rw [h.2.2] at hlen; omega)])
          · skip
            by_cases he : (pC0 L).text coB txtP = L
            · skip
              refine wsr ?_
              refine wmv ?_
              refine wl_call rfl rfl rfl Tryz.c81 rfl (rnode_ok 4 (by omega) _ b17 (pH L).2 (hw.up hm08) (hE.up hm08) (hT.up hm08) (by omega)) ?_; rintro v9 m9 H9 hm9 ⟨⟨⟨nk, na, nl, nc, rfl⟩, hnd⟩, rfl⟩
              refine wv (x_fieldAddr Tryz.underlying61 rfl Tryz.size45 rfl) ?_
              refine wl_front1 ?_
              refine wl_stores rfl (by exact Tryz.size45) rfl rfl (by simp [Value.oneCell']) (by simp) ?_
              refine wnr ?_
              refine wmv ?_
              refine wl_front1 ?_
              refine wl_call rfl rfl rfl Tryz.c77 rfl (words_ok (s := (pI L).2) (F := wEnd) (n := 0) (hw.up (hm08.trans hm9)) (by omega) (by omega)) ?_; rintro v10 m10 H10 hm10 ⟨_, rfl⟩
              refine wns ?_
              refine w_seq ?_
              refine wsr ?_
              refine wmv ?_
              refine wv (x_nilCheck rfl) ?_
              refine wv (x_fieldAddr Tryz.underlying128 rfl Tryz.size4 rfl) ?_
              refine wv (x_load Tryz.plain4 rfl (rowH1 (.head _) rfl)) ?_
              refine wv ((x_not rfl rfl).as (congrArg Value.bool (by show (!(pJ L).2.2) = _; rw [hok]))) ?_
              refine wns ?_
              refine w_false rfl ?_
              refine w_skip ?_
              refine at_seq ?_
              refine w_seq ?_
              refine wsr ?_
              have hrep : CerV m10 (.agg #[.bool (decide ((pA L).1.getD 0 [] = wTrue)), .int .i64 (pB L).1, .slice la ll lc, .slice fa fl fc, .int .i64 nk, .slice na nl nc]) (pC0 L) := mkCer (hls.up' (hm8.trans (hm9.trans hm10))) (hfs.up FcC.up (hm9.trans hm10)) (Nd.up CoV.up hnd hm10)
              refine wv (x_loads Tryz.agg61 (by exact Tryz.size61) rfl (rowH0 (.tail _ (.head _)))) ?_
              refine wl_callp rfl rfl rfl Tryz.c26 (Format_ok CoC.up CoC.format PC.up PC.format' (hrep.rep (hT.up (hm08.trans (hm9.trans hm10)))) (cer_small hl hok) (hT.up (hm08.trans (hm9.trans hm10)))) ?_; rintro v11 m11 hm11 h11
              rw [if_pos hb, if_neg hlen] at h11
              obtain rfl := h11
              refine wmv ?_
              refine wex ?_
              refine wex ?_
              refine was ?_
              refine was ?_
              refine wnr ?_
              refine wmv ?_
              refine wv ((x_neq rfl rfl).as (bool_f (by decide))) ?_
              refine wmv ?_
              refine wmv ?_
              refine wmv ?_
              refine wv ((x_neqBs rfl rfl).as (bool_f fun h => h he)) ?_
              refine wv (x_pick_f rfl rfl) ?_
              refine wns ?_
              refine w_false rfl ?_
              refine w_skip ?_
              refine at_seq ?_
              refine wsr ?_
              refine wv (x_loads Tryz.agg61 (by exact Tryz.size61) rfl (rowH0 (.tail _ (.head _)))) ?_
              refine wl_front2 ?_
              refine wl_storeAll rfl (by exact Tryz.size61) rfl rfl (by simp [splice, Value.oneCell']) rfl ?_
              refine was ?_
              refine wns ?_
              refine w_ret ?_
              refine at_endp (resAs (vs := [_, _]) rfl rfl ⟨⟨_, _, _, rfl, rowH0 (.head _), .inr ⟨Tryz.agg61, Tryz.size61, rfl⟩⟩, rfl, trivial⟩) ?_
              exact PCerR.of (o := some (pC0 L)) ⟨_, rfl, hrep.up hm11⟩ (by unfold pCer; rw [if_pos ⟨hok, hb, he⟩])
            · skip
              refine wsr ?_
              refine wmv ?_
              refine wl_call rfl rfl rfl Tryz.c81 rfl (rnode_ok 4 (by omega) _ b17 (pH L).2 (hw.up hm08) (hE.up hm08) (hT.up hm08) (by omega)) ?_; rintro v9 m9 H9 hm9 ⟨⟨⟨nk, na, nl, nc, rfl⟩, hnd⟩, rfl⟩
              refine wv (x_fieldAddr Tryz.underlying61 rfl Tryz.size45 rfl) ?_
              refine wl_front1 ?_
              refine wl_stores rfl (by exact Tryz.size45) rfl rfl (by simp [Value.oneCell']) (by simp) ?_
              refine wnr ?_
              refine wmv ?_
              refine wl_front1 ?_
              refine wl_call rfl rfl rfl Tryz.c77 rfl (words_ok (s := (pI L).2) (F := wEnd) (n := 0) (hw.up (hm08.trans hm9)) (by omega) (by omega)) ?_; rintro v10 m10 H10 hm10 ⟨_, rfl⟩
              refine wns ?_
              refine w_seq ?_
              refine wsr ?_
              refine wmv ?_
              refine wv (x_nilCheck rfl) ?_
              refine wv (x_fieldAddr Tryz.underlying128 rfl Tryz.size4 rfl) ?_
              refine wv (x_load Tryz.plain4 rfl (rowH1 (.head _) rfl)) ?_
              refine wv ((x_not rfl rfl).as (congrArg Value.bool (by show (!(pJ L).2.2) = _; rw [hok]))) ?_
              refine wns ?_
              refine w_false rfl ?_
              refine w_skip ?_
              refine at_seq ?_
              refine w_seq ?_
              refine wsr ?_
              have hrep : CerV m10 (.agg #[.bool (decide ((pA L).1.getD 0 [] = wTrue)), .int .i64 (pB L).1, .slice la ll lc, .slice fa fl fc, .int .i64 nk, .slice na nl nc]) (pC0 L) := mkCer (hls.up' (hm8.trans (hm9.trans hm10))) (hfs.up FcC.up (hm9.trans hm10)) (Nd.up CoV.up hnd hm10)
              refine wv (x_loads Tryz.agg61 (by exact Tryz.size61) rfl (rowH0 (.tail _ (.head _)))) ?_
              refine wl_callp rfl rfl rfl Tryz.c26 (Format_ok CoC.up CoC.format PC.up PC.format' (hrep.rep (hT.up (hm08.trans (hm9.trans hm10)))) (cer_small hl hok) (hT.up (hm08.trans (hm9.trans hm10)))) ?_; rintro v11 m11 hm11 h11
              rw [if_pos hb, if_neg hlen] at h11
              obtain rfl := h11
              refine wmv ?_
              refine wex ?_
              refine wex ?_
              refine was ?_
              refine was ?_
              refine wnr ?_
              refine wmv ?_
              refine wv ((x_neq rfl rfl).as (bool_f (by decide))) ?_
              refine wmv ?_
              refine wmv ?_
              refine wmv ?_
              refine wv ((x_neqBs rfl rfl).as (bool_t he)) ?_
              refine wv (x_pick_f rfl rfl) ?_
              refine wns ?_
              refine w_true rfl ?_
              refine wsr ?_
              refine wv (x_build (cs := [_, _, _, _, _, _]) Tryz.underlying61 Tryz.places61 Tryz.zero61 rfl rfl) ?_
              refine wl_front2 ?_
              refine wl_storeAll rfl (by exact Tryz.size61) rfl rfl (by simp [Value.oneCell']) rfl ?_
              refine was ?_
              refine wns ?_
              refine w_ret ?_
              refine at_then_ret ?_
              refine at_endp (resAs (vs := [_, _]) rfl rfl ⟨⟨_, _, _, rfl, rowH0 (.head _), .inr ⟨Tryz.agg61, Tryz.size61, rfl⟩⟩, rfl, trivial⟩) ?_
              exact PCerR.of (o := none) rfl (by unfold pCer; rw [if_neg (fun h => he h.2.2)])
        · skip
          refine wsr ?_
          refine wmv ?_
          refine wl_call rfl rfl rfl Tryz.c81 rfl (rnode_ok 4 (by omega) _ b17 (pH L).2 (hw.up hm08) (hE.up hm08) (hT.up hm08) (by omega)) ?_; rintro v9 m9 H9 hm9 ⟨⟨⟨nk, na, nl, nc, rfl⟩, hnd⟩, rfl⟩
          refine wv (x_fieldAddr Tryz.underlying61 rfl Tryz.size45 rfl) ?_
          refine wl_front1 ?_
          refine wl_stores rfl (by exact Tryz.size45) rfl rfl (by simp [Value.oneCell']) (by simp) ?_
          refine wnr ?_
          refine wmv ?_
          refine wl_front1 ?_
          refine wl_call rfl rfl rfl Tryz.c77 rfl (words_ok (s := (pI L).2) (F := wEnd) (n := 0) (hw.up (hm08.trans hm9)) (by omega) (by omega)) ?_; rintro v10 m10 H10 hm10 ⟨_, rfl⟩
          refine wns ?_
          refine w_seq ?_
          refine wsr ?_
          refine wmv ?_
          refine wv (x_nilCheck rfl) ?_
          refine wv (x_fieldAddr Tryz.underlying128 rfl Tryz.size4 rfl) ?_
          refine wv (x_load Tryz.plain4 rfl (rowH1 (.head _) rfl)) ?_
          refine wv ((x_not rfl rfl).as (congrArg Value.bool (by show (!(pJ L).2.2) = _; rw [hok]))) ?_
          refine wns ?_
          refine w_false rfl ?_
          refine w_skip ?_
          refine at_seq ?_
          refine w_seq ?_
          refine wsr ?_
          have hrep : CerV m10 (.agg #[.bool (decide ((pA L).1.getD 0 [] = wTrue)), .int .i64 (pB L).1, .slice la ll lc, .slice fa fl fc, .int .i64 nk, .slice na nl nc]) (pC0 L) := mkCer (hls.up' (hm8.trans (hm9.trans hm10))) (hfs.up FcC.up (hm9.trans hm10)) (Nd.up CoV.up hnd hm10)
          refine wv (x_loads Tryz.agg61 (by exact Tryz.size61) rfl (rowH0 (.tail _ (.head _)))) ?_
          refine wl_callp rfl rfl rfl Tryz.c26 (Format_ok CoC.up CoC.format PC.up PC.format' (hrep.rep (hT.up (hm08.trans (hm9.trans hm10)))) (cer_small hl hok) (hT.up (hm08.trans (hm9.trans hm10)))) ?_; rintro v11 m11 hm11 h11
          rw [if_neg hb] at h11
          obtain rfl := h11
          refine wmv ?_
          refine wex ?_
          refine wex ?_
          refine was ?_
          refine was ?_
          refine wnr ?_
          refine wmv ?_
          refine wv ((x_neq rfl rfl).as (bool_t (by decide))) ?_
          refine wmv ?_
          refine wl_off rfl rfl rfl ?_
          refine wl_off rfl rfl rfl ?_
          refine wl_off rfl rfl rfl ?_
          refine wv (x_pick_t rfl rfl) ?_
          refine wns ?_
          refine w_true rfl ?_
          refine wsr ?_
          refine wv (x_build (cs := [_, _, _, _, _, _]) Tryz.underlying61 Tryz.places61 Tryz.zero61 rfl rfl) ?_
          refine wl_front2 ?_
          refine wl_storeAll rfl (by exact Tryz.size61) rfl rfl (by simp [Value.oneCell']) rfl ?_
          refine was ?_
          refine wns ?_
          refine w_ret ?_
          refine at_then_ret ?_
          refine at_endp (resAs (vs := [_, _]) rfl rfl ⟨⟨_, _, _, rfl, rowH0 (.head _), .inr ⟨Tryz.agg61, Tryz.size61, rfl⟩⟩, rfl, trivial⟩) ?_
          exact PCerR.of (o := none) rfl (by unfold pCer; rw [if_neg (fun h => hb h.2.1)])
end Go.Cy


/- cylinderlaw56.rationals: true of what was read. -/
namespace Go.Cy
open Go Go.Proofs
set_option maxRecDepth 20000
set_option maxHeartbeats 4000000

theorem Nn.same {m m' : Mem} {v v' : Value} {n : Nat} (h : Nn m v n) (h' : Nn m' v' n) : ∃ ds, Dg m v ds ∧ Dg m' v' ds := by
  obtain ⟨ds, h1, h2, h3⟩ := h
  obtain ⟨ds', h1', h2', h3'⟩ := h'
  have e : ds = ds' := nv_inj h1.1 h1'.1 (by rw [dlen_nv h1.1 h3, dlen_nv h1'.1 h3', h2, h2']) (by rw [h2, h2'])
  subst e
  exact ⟨ds, h1, h1'⟩
theorem Fc.cells {m : Mem} {v : Value} {z : Int} {d : Nat} (h : Fc m v z d) : ∃ n a1 l1 c1 a2 l2 c2, v = .agg #[.bool n, .slice a1 l1 c1, .slice a2 l2 c2] ∧ Nn m (.slice a2 l2 c2) d := by
  obtain ⟨neg, s, a, t, rfl, h1, h2, h3, h4⟩ := h
  obtain ⟨a1, l1, c1, rfl⟩ := h1.nt.slice
  obtain ⟨a2, l2, c2, rfl⟩ := h4.nt.slice
  exact ⟨_, _, _, _, _, _, _, rfl, h4⟩
def RtOk (t : Tr Co) : Prop := ∀ (m : Mem) (v : Value), Nd CoV m v t → t.size ≤ 35184372088832 → Pure Tryz.prog 30 #[v] m fun r _ => r = .bool true
theorem rt_step {t : Tr Co} (ih : ∀ t' : Tr Co, t'.size < t.size → RtOk t') : RtOk t := by
  rintro m v ⟨ad, cap, ws, rfl, hcap, hrep, hrow⟩ hsz
  have hls := t.len_size
  refine enterp Tryz.func30 rfl rfl ?_
  intro K hm0 hks
  refine wsr ?_
  refine wl_box rfl rfl rfl rfl ?_; intro b1
  refine was ?_
  refine wns ?_
  refine w_seq ?_
  refine wsr ?_
  refine wv (x_fieldAddr Tryz.underlying45 rfl Tryz.size43 rfl) ?_
  refine wv (x_load Tryz.plain43 rfl (rowH1 (.head _) rfl)) ?_
  refine wv (x_len Tryz.underlying43 rfl rfl) ?_
  refine wmv ?_
  refine wns ?_
  refine w_block ?_
  refine w_loop (fun r m1 H' env' => ∃ i u vs, m.le m1 ∧ r = u.len ∧ i + u.len = t.len ∧ u.size ≤ t.size ∧ u.Rep CoV m vs ∧ (0 < u.len → ∃ b o, ad = some ⟨b, o, none⟩ ∧ Row m [] b (o + i * 9) vs) ∧ H' = [(b1, cl 45 [.int .i64 t.kind, .slice ad t.len cap])] ∧ env' = [(1, .pointer (some ⟨b1, 0, none⟩)), (8, .slice ad t.len cap), (9, .int .i64 t.len), (10, .int .i64 (i : Nat))]) t.len [(1, .pointer (some ⟨b1, 0, none⟩)), (8, .slice ad t.len cap), (9, .int .i64 t.len), (10, .int .i64 (0 : Nat))] ⟨0, t, ws, Mem.le.refl _, rfl, by omega, Nat.le_refl _, hrep, by simpa using hrow, rfl, rfl⟩ (by repeat' (first | exact trivial | exact rfl | exact lk_int rfl (by omega) | apply And.intro)) ?_
  rintro r m1 H' env' ⟨i, u, vs, hm1, rfl, hiu, hus, hur, hrow', rfl, rfl⟩
  refine wsr ?_
  refine wv (x_lss rfl rfl) ?_
  refine wns ?_
  refine w_seq ?_
  refine w_if rfl (fun h5 => ?_) (fun h5 => ?_)
  · skip
    obtain ⟨bn, on, rfl, hrw⟩ := hrow' (by omega)
    obtain ⟨a, s, rr, c0, c1, c2, c3, c4, c5, c6, ad', cap', ws', vs', rfl, rfl, hone, ha, hcap', hs', hrow2, hr'⟩ := Tr.all_cells CoV hur (by omega)
    have hss : s.size < t.size := by simp only [Tr.size] at hus; omega
    simp only [Tr.len] at hiu
    obtain ⟨p, f1, f2, f3, g1, g2, g3, e, hf, hg, hp, q, hq1, hq2⟩ := ha
    injection e with e
    simp only [Array.mk.injEq, List.cons.injEq, and_true] at e
    obtain ⟨rfl, rfl, rfl, rfl, rfl, rfl, rfl⟩ := e
    have hok := pCoord_ok hq2 hq1
    obtain ⟨n5, a5, l5, c5, a6, l6, c6, e5, hn6⟩ := hf.cells
    obtain ⟨n9, a9, l9, c9, a10, l10, c10, e9, hn10⟩ := hg.cells
    obtain ⟨a11, l11, c11, rfl⟩ := hp.pv.slice
    cases e5; cases e9
    have hrw7 : Row m1 ([(b1, cl 45 [.int .i64 t.kind, .slice (some ⟨bn, on, none⟩) t.len cap])]) bn (on + i * 9) [.slice a11 l11 c11, .bool n5, .slice a5 l5 c5, .slice a6 l6 c6, .bool n9, .slice a9 l9 c9, .slice a10 l10 c10] := ((hrw.up hm1).heap).sub 0 rfl fun j hj => by
      have hj' : j < 7 := hj
      match j, hj' with
      | 0, _ => rfl
      | 1, _ => rfl
      | 2, _ => rfl
      | 3, _ => rfl
      | 4, _ => rfl
      | 5, _ => rfl
      | 6, _ => rfl
    have hrw2 : Row m1 [] bn (on + i * 9 + 7) [.int .i64 s.kind, .slice ad' s.len cap'] := (hrw.up hm1).sub 7 rfl fun j hj => by
      have hj' : j < 2 := hj
      match j, hj' with
      | 0, _ => rfl
      | 1, _ => rfl
    have hrw2' : ∀ {m'' : Mem} {H : Hp}, m1.le m'' → Row m'' H bn (on + i * 9 + 7) [.int .i64 s.kind, .slice ad' s.len cap'] := fun hm => (hrw2.up hm).heap
    have hz := hok.sm.f1
    have hz2 := hok.sm.f2
    have hl11 : l11 = a.ts.length := by
      obtain ⟨_, _, _, e, _⟩ := hp
      injection e
    by_cases hceq : a.eq
    · skip
      have hts := hok.nil hceq
      refine w_skip ?_
      refine at_seq ?_
      refine w_seq ?_
      refine w_block ?_
      refine wsr ?_
      refine wmv ?_
      refine was ?_
      refine wnr ?_
      refine wv (x_fieldAddr Tryz.underlying45 rfl Tryz.size43 rfl) ?_
      refine wv (x_load Tryz.plain43 rfl (rowH1 (.head _) rfl)) ?_
      refine wmv ?_
      refine wv (x_index Tryz.underlying43 Tryz.size57 rfl rfl (j := i) (by omega) (by omega)) ?_
      refine wv (x_fieldAddr Tryz.underlying57 rfl Tryz.size55 rfl) ?_
      refine wv (x_loads Tryz.agg55 (by exact Tryz.size55) rfl (hrw7)) ?_
      refine wl_alloc rfl rfl Tryz.zero55 ?_; intro b4
      refine wl_storeAll rfl (by exact Tryz.size55) rfl rfl (by simp [Value.oneCell']) rfl ?_
      refine wnr ?_
      refine wv (x_fieldAddr Tryz.underlying55 rfl Tryz.size53 rfl) ?_
      refine wv (x_loads Tryz.agg53 (by exact Tryz.size53) rfl (rowHs (vs := [_, _, _]) (.head _) 1 rfl)) ?_
      refine wl_callp rfl rfl rfl Tryz.c83 (Lowest_ok (hf.fi.up hm1) ⟨by omega, by omega⟩) ?_; rintro v2 m2 hm2 h2
      rw [hok.low1.1, hok.low1.2] at h2
      obtain ⟨n7, a7, l7, c7, a8, l8, c8, rfl, hn8⟩ := h2.cells
      obtain ⟨dl, hd8, hd6⟩ := hn8.same hn6
      obtain ⟨_, hlb, ax, cx, e8, hcx, hr8⟩ := hd8
      obtain ⟨_, _, ay, cy, e6, hcy, hr6⟩ := hd6
      simp only [Value.slice.injEq] at e8 e6
      obtain ⟨rfl, rfl, rfl⟩ := e8
      obtain ⟨rfl, rfl, rfl⟩ := e6
      refine wl_alloc rfl rfl Tryz.zero53 ?_; intro b5
      refine wl_storeAll rfl (by exact Tryz.size53) rfl rfl (by simp [Value.oneCell']) rfl ?_
      refine wns ?_
      refine w_seq ?_
      refine wsr ?_
      refine wv (x_fieldAddr Tryz.underlying53 rfl Tryz.size47 rfl) ?_
      refine wv (x_load Tryz.plain47 rfl (rowH1 (.head _) rfl)) ?_
      refine wv (x_len Tryz.underlying47 rfl rfl) ?_
      refine wv (x_fieldAddr Tryz.underlying55 rfl Tryz.size53 rfl) ?_
      refine wv (x_fieldAddr Tryz.underlying53 rfl Tryz.size47 rfl) ?_
      refine wv (x_load Tryz.plain47 rfl (rowH1 (.tail _ (.head _)) rfl)) ?_
      refine wv (x_len Tryz.underlying47 rfl rfl) ?_
      refine wv ((x_neq rfl rfl).as (bool_f fun h => h rfl)) ?_
      refine wmv ?_
      refine wv (x_fieldAddr Tryz.underlying55 rfl Tryz.size53 rfl) ?_
      refine wv (x_loads Tryz.agg53 (by exact Tryz.size53) rfl (rowHs (vs := [_, _, _]) (.tail _ (.head _)) 1 rfl)) ?_
      refine wv (x_fieldAddr Tryz.underlying55 rfl Tryz.size53 rfl) ?_
      refine wv (x_loads Tryz.agg53 (by exact Tryz.size53) rfl (rowHs (vs := [_, _, _]) (.tail _ (.head _)) 4 rfl)) ?_
      refine wl_callp rfl rfl rfl Tryz.c84 (FCmp_ok (hf.fi.up (hm1.trans hm2)) (hg.fi.up (hm1.trans hm2)) ⟨by omega, by omega⟩ ⟨by omega, by omega⟩) ?_; rintro v3 m3 hm3 rfl
      refine wv ((x_eql rfl rfl).as (bool_t (by rw [show lowZ a.z1 a.d1 * lowD a.z2 a.d2 = lowZ a.z2 a.d2 * lowD a.z1 a.d1 from hceq]; simp [cmpI]))) ?_
      refine wmv ?_
      refine wv (x_fieldAddr Tryz.underlying55 rfl Tryz.size28 rfl) ?_
      refine wv (x_load Tryz.plain28 rfl (rowH1 (.tail _ (.head _)) rfl)) ?_
      refine wv (x_len Tryz.underlying28 rfl rfl) ?_
      refine wv ((x_gtr rfl rfl).as (bool_f (by rw [hl11, hts]; simp))) ?_
      refine wv (x_pick_t rfl rfl) ?_
      refine wv (x_pick_f rfl rfl) ?_
      refine wmv ?_
      refine wv (x_fieldAddr Tryz.underlying45 rfl Tryz.size43 rfl) ?_
      refine wv (x_load Tryz.plain43 rfl (rowH1 (.tail _ (.tail _ (.head _))) rfl)) ?_
      refine wmv ?_
      refine wv (x_index Tryz.underlying43 Tryz.size57 rfl rfl (j := i) (by omega) (by omega)) ?_
      refine wv (x_fieldAddr Tryz.underlying57 rfl Tryz.size45 rfl) ?_
      refine wv (x_loads Tryz.agg45 (by exact Tryz.size45) rfl (hrw2' (hm2.trans hm3))) ?_
      refine wl_callp rfl rfl rfl Tryz.c30 (ih s hss _ _ ⟨ad', cap', ws', rfl, hcap', Tr.Rep.up CoV.up (hm1.trans (hm2.trans hm3)) hs', fun h0 => by obtain ⟨b, o, e, hr⟩ := hrow2 h0; exact ⟨b, o, e, hr.up (hm1.trans (hm2.trans hm3))⟩⟩ (by omega)) ?_; rintro v4 m4 hm4 rfl
      refine wv ((x_not rfl rfl).as rfl) ?_
      refine wv (x_pick_f rfl rfl) ?_
      refine wns ?_
      refine w_false rfl ?_
      refine w_skip ?_
      refine at_seq ?_
      refine wsr ?_
      refine wv (x_fieldAddr Tryz.underlying53 rfl Tryz.size47 rfl) ?_
      refine wv (x_load Tryz.plain47 rfl (rowH1 (.head _) rfl)) ?_
      refine wv (x_len Tryz.underlying47 rfl rfl) ?_
      refine wmv ?_
      refine wns ?_
      refine w_block ?_
      have hm15 := hm1.trans (hm2.trans (hm3.trans hm4))
      have hm25 := hm2.trans (hm3.trans hm4)
      have hm35 := hm3.trans hm4
      refine w_loop (fun r m' H' env' => ∃ k ax ay, k + r = dl.length ∧ m4.le m' ∧ (0 < dl.length → ∃ b o, ax = some ⟨b, o, none⟩ ∧ Row m2 [] b o (dsv dl)) ∧ (0 < dl.length → ∃ b o, ay = some ⟨b, o, none⟩ ∧ Row m [] b o (dsv dl)) ∧ H' = [(b5, cl 53 [.bool n7, .slice a7 l7 c7, .slice ax dl.length c8]), (b4, cl 55 [.slice a11 l11 c11, .bool n5, .slice a5 l5 c5, .slice ay dl.length c6, .bool n9, .slice a9 l9 c9, .slice a10 l10 c10]), (b1, cl 45 [.int .i64 t.kind, .slice (some ⟨bn, on, none⟩) t.len cap])] ∧ env' = [(1, .pointer (some ⟨b1, 0, none⟩)), (8, .slice (some ⟨bn, on, none⟩) t.len cap), (9, .int .i64 t.len), (10, .int .i64 (i : Nat)), (4, .pointer (some ⟨b4, 0, none⟩)), (5, .pointer (some ⟨b5, 0, none⟩)), (56, .int .i64 dl.length), (57, .int .i64 (k : Nat))]) dl.length [(1, .pointer (some ⟨b1, 0, none⟩)), (8, .slice (some ⟨bn, on, none⟩) t.len cap), (9, .int .i64 t.len), (10, .int .i64 (i : Nat)), (4, .pointer (some ⟨b4, 0, none⟩)), (5, .pointer (some ⟨b5, 0, none⟩)), (56, .int .i64 dl.length), (57, .int .i64 (0 : Nat))] ⟨0, a8, a6, by omega, Mem.le.refl _, hr8, hr6, rfl, rfl⟩ (by repeat' (first | exact trivial | exact rfl | exact lk_int rfl (by omega) | apply And.intro)) ?_
      rintro r m5 H' env' ⟨k, ax', ay', hk, hm5, hr8', hr6', rfl, rfl⟩
      refine wsr ?_
      refine wv (x_lss rfl rfl) ?_
      refine wns ?_
      refine w_seq ?_
      refine w_if rfl (fun h6 => ?_) (fun h6 => ?_)
      · skip
        have hkd : k < dl.length := by omega
        obtain ⟨bx, ox, rfl, hrx⟩ := hr8' (by omega)
        obtain ⟨by', oy, rfl, hry⟩ := hr6' (by omega)
        refine w_skip ?_
        refine at_seq ?_
        refine w_seq ?_
        refine w_block ?_
        refine wsr ?_
        refine wmv ?_
        refine was ?_
        refine wns ?_
        refine w_seq ?_
        refine dr_start [] [[], [0], [], [1, 2], [3], [], [5], [6], [], [7, 8], [9]] ?_
        refine dr_val rfl rfl (fun m' hm' => ds_val rfl (x_fieldAddr Tryz.underlying53 rfl Tryz.size47 rfl)) ?_
        refine dr_val rfl rfl (fun m' hm' => ds_val rfl (x_load Tryz.plain47 rfl (rowH1 (.head _) rfl))) ?_
        refine dr_val rfl rfl (fun m' hm' => ds_val rfl (x_move rfl)) ?_
        refine dr_val rfl rfl (fun m' hm' => ds_val rfl (x_index Tryz.underlying47 Tryz.size51 rfl rfl (j := k) (by omega) (by omega))) ?_
        refine dr_val rfl rfl (fun m' hm' => ds_val rfl (x_load Tryz.plain51 rfl (((hrx.up (hm35.trans (hm5.trans hm'))).heap.nth k (dsv_get hkd) (by omega))))) ?_
        refine dr_val rfl rfl (fun m' hm' => ds_val rfl (x_fieldAddr Tryz.underlying55 rfl Tryz.size53 rfl)) ?_
        refine dr_val rfl rfl (fun m' hm' => ds_val rfl (x_fieldAddr Tryz.underlying53 rfl Tryz.size47 rfl)) ?_
        refine dr_val rfl rfl (fun m' hm' => ds_val rfl (x_load Tryz.plain47 rfl (rowH1 (.tail _ (.head _)) rfl))) ?_
        refine dr_val rfl rfl (fun m' hm' => ds_val rfl (x_move rfl)) ?_
        refine dr_val rfl rfl (fun m' hm' => ds_val rfl (x_index Tryz.underlying47 Tryz.size51 rfl rfl (j := k) (by omega) (by omega))) ?_
        refine dr_val rfl rfl (fun m' hm' => ds_val rfl (x_load Tryz.plain51 rfl (((hry.up (hm15.trans (hm5.trans hm'))).heap.nth k (dsv_get hkd) (by omega))))) ?_
        refine dr_done (k := 11) Tryz.mixed rfl rfl rfl fun m6 hm_m6 => ?_
        show WL _ _ _ _ _ _ _ _ _
        refine wv ((x_neq rfl rfl).as (bool_f fun h => h rfl)) ?_
        refine wns ?_
        refine w_false rfl ?_
        refine w_skip ?_
        refine at_block_normal ?_
        refine at_seq ?_
        refine w_region ?_
        refine wv (x_add rfl rfl (wrap_i64 (by omega) (by omega))) ?_
        refine wmv ?_
        refine wl_nil ?_
        exact at_again (r - 1) [(1, .pointer (some ⟨b1, 0, none⟩)), (8, .slice (some ⟨bn, on, none⟩) t.len cap), (9, .int .i64 t.len), (10, .int .i64 (i : Nat)), (4, .pointer (some ⟨b4, 0, none⟩)), (5, .pointer (some ⟨b5, 0, none⟩)), (56, .int .i64 dl.length), (57, .int .i64 ((k + 1) : Nat))] (by omega) ⟨k + 1, _, _, by omega, hm5.trans hm_m6, fun _ => ⟨bx, ox, rfl, hrx⟩, fun _ => ⟨by', oy, rfl, hry⟩, rfl, rfl⟩ (by repeat' (first | exact trivial | exact rfl | exact lk_int rfl (by omega) | apply And.intro))
      · skip
        refine w_exit ?_
        refine at_then_exit ?_
        refine at_then_exit ?_
        refine at_block_hit ?_
        refine at_block_normal ?_
        refine at_seq ?_
        refine w_region ?_
        refine wv (x_add rfl rfl (wrap_i64 (by omega) (by omega))) ?_
        refine wmv ?_
        refine wl_nil ?_
        refine at_drop1 ?_
        refine at_drop1 ?_
        exact at_again rr.len [(1, .pointer (some ⟨b1, 0, none⟩)), (8, .slice (some ⟨bn, on, none⟩) t.len cap), (9, .int .i64 t.len), (10, .int .i64 (i + 1 : Nat))] (by simp only [Tr.len]; omega) ⟨i + 1, rr, vs', hm15.trans hm5, rfl, by omega, by simp only [Tr.size] at hus; omega, hr', fun _ => ⟨bn, on, rfl, hrw.suf [_, _, _, _, _, _, _, _, _] (by simp; omega)⟩, rfl, rfl⟩ (by repeat' (first | exact trivial | exact rfl | exact lk_int rfl (by omega) | apply And.intro))
    · skip
      refine w_skip ?_
      refine at_seq ?_
      refine w_seq ?_
      refine w_block ?_
      refine wsr ?_
      refine wmv ?_
      refine was ?_
      refine wnr ?_
      refine wv (x_fieldAddr Tryz.underlying45 rfl Tryz.size43 rfl) ?_
      refine wv (x_load Tryz.plain43 rfl (rowH1 (.head _) rfl)) ?_
      refine wmv ?_
      refine wv (x_index Tryz.underlying43 Tryz.size57 rfl rfl (j := i) (by omega) (by omega)) ?_
      refine wv (x_fieldAddr Tryz.underlying57 rfl Tryz.size55 rfl) ?_
      refine wv (x_loads Tryz.agg55 (by exact Tryz.size55) rfl (hrw7)) ?_
      refine wl_alloc rfl rfl Tryz.zero55 ?_; intro b4
      refine wl_storeAll rfl (by exact Tryz.size55) rfl rfl (by simp [Value.oneCell']) rfl ?_
      refine wnr ?_
      refine wv (x_fieldAddr Tryz.underlying55 rfl Tryz.size53 rfl) ?_
      refine wv (x_loads Tryz.agg53 (by exact Tryz.size53) rfl (rowHs (vs := [_, _, _]) (.head _) 1 rfl)) ?_
      refine wl_callp rfl rfl rfl Tryz.c83 (Lowest_ok (hf.fi.up hm1) ⟨by omega, by omega⟩) ?_; rintro v2 m2 hm2 h2
      rw [hok.low1.1, hok.low1.2] at h2
      obtain ⟨n7, a7, l7, c7, a8, l8, c8, rfl, hn8⟩ := h2.cells
      obtain ⟨dl, hd8, hd6⟩ := hn8.same hn6
      obtain ⟨_, hlb, ax, cx, e8, hcx, hr8⟩ := hd8
      obtain ⟨_, _, ay, cy, e6, hcy, hr6⟩ := hd6
      simp only [Value.slice.injEq] at e8 e6
      obtain ⟨rfl, rfl, rfl⟩ := e8
      obtain ⟨rfl, rfl, rfl⟩ := e6
      refine wl_alloc rfl rfl Tryz.zero53 ?_; intro b5
      refine wl_storeAll rfl (by exact Tryz.size53) rfl rfl (by simp [Value.oneCell']) rfl ?_
      refine wns ?_
      refine w_seq ?_
      refine wsr ?_
      refine wv (x_fieldAddr Tryz.underlying53 rfl Tryz.size47 rfl) ?_
      refine wv (x_load Tryz.plain47 rfl (rowH1 (.head _) rfl)) ?_
      refine wv (x_len Tryz.underlying47 rfl rfl) ?_
      refine wv (x_fieldAddr Tryz.underlying55 rfl Tryz.size53 rfl) ?_
      refine wv (x_fieldAddr Tryz.underlying53 rfl Tryz.size47 rfl) ?_
      refine wv (x_load Tryz.plain47 rfl (rowH1 (.tail _ (.head _)) rfl)) ?_
      refine wv (x_len Tryz.underlying47 rfl rfl) ?_
      refine wv ((x_neq rfl rfl).as (bool_f fun h => h rfl)) ?_
      refine wmv ?_
      refine wv (x_fieldAddr Tryz.underlying55 rfl Tryz.size53 rfl) ?_
      refine wv (x_loads Tryz.agg53 (by exact Tryz.size53) rfl (rowHs (vs := [_, _, _]) (.tail _ (.head _)) 1 rfl)) ?_
      refine wv (x_fieldAddr Tryz.underlying55 rfl Tryz.size53 rfl) ?_
      refine wv (x_loads Tryz.agg53 (by exact Tryz.size53) rfl (rowHs (vs := [_, _, _]) (.tail _ (.head _)) 4 rfl)) ?_
      refine wl_callp rfl rfl rfl Tryz.c84 (FCmp_ok (hf.fi.up (hm1.trans hm2)) (hg.fi.up (hm1.trans hm2)) ⟨by omega, by omega⟩ ⟨by omega, by omega⟩) ?_; rintro v3 m3 hm3 rfl
      refine wv ((x_eql rfl rfl).as (bool_f fun h => hceq (cmpI_zero h))) ?_
      refine wmv ?_
      refine wl_off rfl rfl rfl ?_
      refine wl_off rfl rfl rfl ?_
      refine wl_off rfl rfl rfl ?_
      refine wl_off rfl rfl rfl ?_
      refine wv (x_pick_f rfl rfl) ?_
      refine wv (x_pick_f rfl rfl) ?_
      refine wmv ?_
      refine wv (x_fieldAddr Tryz.underlying45 rfl Tryz.size43 rfl) ?_
      refine wv (x_load Tryz.plain43 rfl (rowH1 (.tail _ (.tail _ (.head _))) rfl)) ?_
      refine wmv ?_
      refine wv (x_index Tryz.underlying43 Tryz.size57 rfl rfl (j := i) (by omega) (by omega)) ?_
      refine wv (x_fieldAddr Tryz.underlying57 rfl Tryz.size45 rfl) ?_
      refine wv (x_loads Tryz.agg45 (by exact Tryz.size45) rfl (hrw2' (hm2.trans hm3))) ?_
      refine wl_callp rfl rfl rfl Tryz.c30 (ih s hss _ _ ⟨ad', cap', ws', rfl, hcap', Tr.Rep.up CoV.up (hm1.trans (hm2.trans hm3)) hs', fun h0 => by obtain ⟨b, o, e, hr⟩ := hrow2 h0; exact ⟨b, o, e, hr.up (hm1.trans (hm2.trans hm3))⟩⟩ (by omega)) ?_; rintro v4 m4 hm4 rfl
      refine wv ((x_not rfl rfl).as rfl) ?_
      refine wv (x_pick_f rfl rfl) ?_
      refine wns ?_
      refine w_false rfl ?_
      refine w_skip ?_
      refine at_seq ?_
      refine wsr ?_
      refine wv (x_fieldAddr Tryz.underlying53 rfl Tryz.size47 rfl) ?_
      refine wv (x_load Tryz.plain47 rfl (rowH1 (.head _) rfl)) ?_
      refine wv (x_len Tryz.underlying47 rfl rfl) ?_
      refine wmv ?_
      refine wns ?_
      refine w_block ?_
      have hm15 := hm1.trans (hm2.trans (hm3.trans hm4))
      have hm25 := hm2.trans (hm3.trans hm4)
      have hm35 := hm3.trans hm4
      refine w_loop (fun r m' H' env' => ∃ k ax ay, k + r = dl.length ∧ m4.le m' ∧ (0 < dl.length → ∃ b o, ax = some ⟨b, o, none⟩ ∧ Row m2 [] b o (dsv dl)) ∧ (0 < dl.length → ∃ b o, ay = some ⟨b, o, none⟩ ∧ Row m [] b o (dsv dl)) ∧ H' = [(b5, cl 53 [.bool n7, .slice a7 l7 c7, .slice ax dl.length c8]), (b4, cl 55 [.slice a11 l11 c11, .bool n5, .slice a5 l5 c5, .slice ay dl.length c6, .bool n9, .slice a9 l9 c9, .slice a10 l10 c10]), (b1, cl 45 [.int .i64 t.kind, .slice (some ⟨bn, on, none⟩) t.len cap])] ∧ env' = [(1, .pointer (some ⟨b1, 0, none⟩)), (8, .slice (some ⟨bn, on, none⟩) t.len cap), (9, .int .i64 t.len), (10, .int .i64 (i : Nat)), (4, .pointer (some ⟨b4, 0, none⟩)), (5, .pointer (some ⟨b5, 0, none⟩)), (56, .int .i64 dl.length), (57, .int .i64 (k : Nat))]) dl.length [(1, .pointer (some ⟨b1, 0, none⟩)), (8, .slice (some ⟨bn, on, none⟩) t.len cap), (9, .int .i64 t.len), (10, .int .i64 (i : Nat)), (4, .pointer (some ⟨b4, 0, none⟩)), (5, .pointer (some ⟨b5, 0, none⟩)), (56, .int .i64 dl.length), (57, .int .i64 (0 : Nat))] ⟨0, a8, a6, by omega, Mem.le.refl _, hr8, hr6, rfl, rfl⟩ (by repeat' (first | exact trivial | exact rfl | exact lk_int rfl (by omega) | apply And.intro)) ?_
      rintro r m5 H' env' ⟨k, ax', ay', hk, hm5, hr8', hr6', rfl, rfl⟩
      refine wsr ?_
      refine wv (x_lss rfl rfl) ?_
      refine wns ?_
      refine w_seq ?_
      refine w_if rfl (fun h6 => ?_) (fun h6 => ?_)
      · skip
        have hkd : k < dl.length := by omega
        obtain ⟨bx, ox, rfl, hrx⟩ := hr8' (by omega)
        obtain ⟨by', oy, rfl, hry⟩ := hr6' (by omega)
        refine w_skip ?_
        refine at_seq ?_
        refine w_seq ?_
        refine w_block ?_
        refine wsr ?_
        refine wmv ?_
        refine was ?_
        refine wns ?_
        refine w_seq ?_
        refine dr_start [] [[], [0], [], [1, 2], [3], [], [5], [6], [], [7, 8], [9]] ?_
        refine dr_val rfl rfl (fun m' hm' => ds_val rfl (x_fieldAddr Tryz.underlying53 rfl Tryz.size47 rfl)) ?_
        refine dr_val rfl rfl (fun m' hm' => ds_val rfl (x_load Tryz.plain47 rfl (rowH1 (.head _) rfl))) ?_
        refine dr_val rfl rfl (fun m' hm' => ds_val rfl (x_move rfl)) ?_
        refine dr_val rfl rfl (fun m' hm' => ds_val rfl (x_index Tryz.underlying47 Tryz.size51 rfl rfl (j := k) (by omega) (by omega))) ?_
        refine dr_val rfl rfl (fun m' hm' => ds_val rfl (x_load Tryz.plain51 rfl (((hrx.up (hm35.trans (hm5.trans hm'))).heap.nth k (dsv_get hkd) (by omega))))) ?_
        refine dr_val rfl rfl (fun m' hm' => ds_val rfl (x_fieldAddr Tryz.underlying55 rfl Tryz.size53 rfl)) ?_
        refine dr_val rfl rfl (fun m' hm' => ds_val rfl (x_fieldAddr Tryz.underlying53 rfl Tryz.size47 rfl)) ?_
        refine dr_val rfl rfl (fun m' hm' => ds_val rfl (x_load Tryz.plain47 rfl (rowH1 (.tail _ (.head _)) rfl))) ?_
        refine dr_val rfl rfl (fun m' hm' => ds_val rfl (x_move rfl)) ?_
        refine dr_val rfl rfl (fun m' hm' => ds_val rfl (x_index Tryz.underlying47 Tryz.size51 rfl rfl (j := k) (by omega) (by omega))) ?_
        refine dr_val rfl rfl (fun m' hm' => ds_val rfl (x_load Tryz.plain51 rfl (((hry.up (hm15.trans (hm5.trans hm'))).heap.nth k (dsv_get hkd) (by omega))))) ?_
        refine dr_done (k := 11) Tryz.mixed rfl rfl rfl fun m6 hm_m6 => ?_
        show WL _ _ _ _ _ _ _ _ _
        refine wv ((x_neq rfl rfl).as (bool_f fun h => h rfl)) ?_
        refine wns ?_
        refine w_false rfl ?_
        refine w_skip ?_
        refine at_block_normal ?_
        refine at_seq ?_
        refine w_region ?_
        refine wv (x_add rfl rfl (wrap_i64 (by omega) (by omega))) ?_
        refine wmv ?_
        refine wl_nil ?_
        exact at_again (r - 1) [(1, .pointer (some ⟨b1, 0, none⟩)), (8, .slice (some ⟨bn, on, none⟩) t.len cap), (9, .int .i64 t.len), (10, .int .i64 (i : Nat)), (4, .pointer (some ⟨b4, 0, none⟩)), (5, .pointer (some ⟨b5, 0, none⟩)), (56, .int .i64 dl.length), (57, .int .i64 ((k + 1) : Nat))] (by omega) ⟨k + 1, _, _, by omega, hm5.trans hm_m6, fun _ => ⟨bx, ox, rfl, hrx⟩, fun _ => ⟨by', oy, rfl, hry⟩, rfl, rfl⟩ (by repeat' (first | exact trivial | exact rfl | exact lk_int rfl (by omega) | apply And.intro))
      · skip
        refine w_exit ?_
        refine at_then_exit ?_
        refine at_then_exit ?_
        refine at_block_hit ?_
        refine at_block_normal ?_
        refine at_seq ?_
        refine w_region ?_
        refine wv (x_add rfl rfl (wrap_i64 (by omega) (by omega))) ?_
        refine wmv ?_
        refine wl_nil ?_
        refine at_drop1 ?_
        refine at_drop1 ?_
        exact at_again rr.len [(1, .pointer (some ⟨b1, 0, none⟩)), (8, .slice (some ⟨bn, on, none⟩) t.len cap), (9, .int .i64 t.len), (10, .int .i64 (i + 1 : Nat))] (by simp only [Tr.len]; omega) ⟨i + 1, rr, vs', hm15.trans hm5, rfl, by omega, by simp only [Tr.size] at hus; omega, hr', fun _ => ⟨bn, on, rfl, hrw.suf [_, _, _, _, _, _, _, _, _] (by simp; omega)⟩, rfl, rfl⟩ (by repeat' (first | exact trivial | exact rfl | exact lk_int rfl (by omega) | apply And.intro))
  · skip
    refine w_exit ?_
    refine at_then_exit ?_
    refine at_then_exit ?_
    refine at_block_hit ?_
    refine at_seq ?_
    refine wsr ?_
    refine was ?_
    refine wns ?_
    refine w_ret ?_
    refine at_endp (res1 rfl rfl) ?_
    rfl
theorem rationals_ok (t : Tr Co) : RtOk t := by
  induction h : t.size using Nat.strongRecOn generalizing t with
  | _ n ihn => exact rt_step fun t' ht' => ihn t'.size (by omega) t' rfl
end Go.Cy


/- cylinderlaw56.awake, CertificateLong. -/
namespace Go.Cy
open Go Go.Proofs
set_option maxRecDepth 20000

theorem itB_digit (n : Nat) (h : n < 10) : itB (n : Int) = [UInt8.ofNat (48 + n)] := by
  unfold itB
  rw [Lib.itoa_nonneg, Lib.decDigits_one h]

def NoC (_ : Mem) (_ : Value) (_ : Unit) : Prop := False
theorem NoC.up : ∀ (m m' : Mem) v a, m.le m' → NoC m v a → NoC m' v a := fun _ _ _ _ _ h => h

def awC : Cer Unit Unit := ⟨true, 1, [], [], .nil 1⟩
theorem awC_text : awC.text (fun _ => []) (fun _ => []) = [99, 101, 114, 116, 105, 102, 105, 99, 97, 116, 101, 32, 116, 114, 117, 101, 32, 49, 10, 108, 105, 115, 116, 115, 32, 48, 10, 102, 97, 99, 116, 111, 114, 115, 32, 48, 10, 108, 101, 97, 102, 10, 101, 110, 100, 10] := by
  simp only [awC, Cer.text, Cer.headB, listsB, factsB, listsHd, factsHd, Tr.text, Tr.headB, Tr.kind, Tr.len, Tr.cellsB, spaced_one, boolB, cat, List.length_nil, List.map_nil, List.flatten_nil]
  rw [show itB ((0 : Nat) : Int) = [48] from itB_digit 0 (by omega), show itB 1 = [49] from itB_digit 1 (by omega)]
  rfl
theorem awC_small : awC.Small (fun _ => []) (fun _ => []) := ⟨by simp [awC], by simp [awC], by simp [awC], by simp [awC], by simp [awC, Tr.size], by rw [awC_text]; simp⟩
theorem awake_ok {m : Mem} (hT : Tab Tryz.prog m) : Pure Tryz.prog 24 #[] m fun r _ => r = .bool true := by
  have hrep : ∀ {m'}, awC.Rep NoC NoC m' (.agg [.bool true, .int .i64 1, .slice none 0 0, .slice none 0 0, .int .i64 1, .slice none 0 0].toArray) := fun {m'} =>
    ⟨_, _, none, 0, rfl, Sl.nil, Sl.nil, none, 0, [], rfl, Nat.le_refl _, rfl, fun h => absurd h (by simp [awC, Tr.len])⟩
  refine enterp Tryz.func24 rfl rfl ?_
  intro K hm0 hks
  refine wsr ?_
  refine was ?_
  refine wnr ?_
  refine wv (x_build (cs := [_, _]) Tryz.underlying45 Tryz.places45 Tryz.zero45 rfl rfl) ?_
  refine wv (x_build (cs := [_, _, _, _, _, _]) Tryz.underlying61 Tryz.places61 Tryz.zero61 rfl rfl) ?_
  refine wl_callp rfl rfl rfl Tryz.c26 (Format_ok NoC.up (txt := fun _ => []) (fun _ _ _ h => h.elim) NoC.up (ptxt := fun _ => []) (fun _ _ _ h => h.elim) hrep awC_small hT) ?_; rintro v1 m1 hm1 hr
  rw [show awC.okB = true from rfl, if_pos rfl, if_neg (by rw [awC_text]; simp), awC_text] at hr
  subst hr
  refine wmv ?_
  refine wex ?_
  refine wex ?_
  refine was ?_
  refine was ?_
  refine wnr ?_
  refine wmv ?_
  refine wv (x_eql rfl rfl) ?_
  refine wmv ?_
  refine wl_splitp (t := 11) rfl (fun h1 => ?_) (fun h1 => ?_)
  · skip
    refine wmv ?_
    refine wv (x_eqlS rfl rfl) ?_
    refine wv (x_pick_t rfl rfl) ?_
    refine was ?_
    refine wns ?_
    refine w_ret ?_
    refine at_endp (res1 rfl rfl) ?_
    exact congrArg Value.bool (decide_eq_true (congrArg ByteArray.toList rfl))
  · skip
    exact absurd rfl h1

/-! The long certificate -/
def OneC (m : Mem) (v : Value) (_ : Unit) : Prop := ∃ p n1 s1 d1, v = .agg #[p, .bool n1, s1, d1, .bool n1, s1, d1] ∧ Fi m (.agg #[.bool n1, s1, d1]) 1 1
theorem OneC.up : ∀ (m m' : Mem) v a, m.le m' → OneC m v a → OneC m' v a := fun _ _ _ _ hm ⟨p, n1, s1, d1, h1, h2⟩ => ⟨p, n1, s1, d1, h1, h2.up hm⟩
theorem fracB_one : fracB 1 1 = [49] := by
  have h1 : lowZ 1 1 = 1 := rfl
  have h2 : lowD 1 1 = 1 := rfl
  unfold fracB
  rw [h1, h2, if_neg (by unfold blen; rw [if_neg (by omega)]; decide)]
  unfold decB
  rw [if_neg (by omega), if_neg (by omega), show (1 : Int).natAbs = 1 from rfl, revD_pos (by omega), show 1 / 10 = 0 from rfl, revD_zero]
  rfl
theorem OneC.format : ∀ (m : Mem) v a, OneC m v a → Pure Tryz.prog 130 #[v] m fun r _ => r = .string (B ((fun _ => [61, 49]) a)) := by
  rintro m v a ⟨p, n1, s1, d1, rfl, h⟩
  have h2 := CFormat_ok (p := p) h h ⟨by rw [show (1 : Int).natAbs = 1 from rfl, dlen_one]; omega, by rw [dlen_one]; omega⟩ ⟨by rw [show (1 : Int).natAbs = 1 from rfl, dlen_one]; omega, by rw [dlen_one]; omega⟩ rfl
  rw [fracB_one] at h2
  exact h2
end Go.Cy


/- The law CertificateCanonical: the walk. -/
namespace Go.Cy
open Go Go.Proofs
set_option maxRecDepth 20000
set_option maxHeartbeats 4000000

theorem rowEx {m : Mem} {H : Hp} {b o o' : Nat} {A B' : List TV} {x : TV} (h : Row m H b o (fl6 (A ++ x :: B'))) (ho : o' = o + A.length * 6 + 2) : Row m H b o' [.int .i64 x.e0, .int .i64 x.e1, .int .i64 x.e2, .int .i64 x.e3] := h.sub (A.length * 6 + 2) (by omega) fun j hj => by
  have hj' : j < 4 := hj
  rw [Nat.add_assoc, fl6_row rfl _ (by show 2 + j < 6; omega)]
  match j, hj' with
  | 0, _ => rfl
  | 1, _ => rfl
  | 2, _ => rfl
  | 3, _ => rfl
theorem rowCo {m : Mem} {H : Hp} {b o o' : Nat} {A B' : List TV} {x : TV} (h : Row m H b o (fl6 (A ++ x :: B'))) (ho : o' = o + A.length * 6) : Row m H b o' [.bool x.sg, .slice x.p x.ln x.cp] := h.sub (A.length * 6) ho fun j hj => by
  have hj' : j < 2 := hj
  rw [fl6_row rfl _ (by show j < 6; omega)]
  match j, hj' with
  | 0, _ => rfl
  | 1, _ => rfl
def zCer : Cer Co (List Tm) := ⟨false, 0, [], [], .nil 0⟩
theorem zCer_rep {m : Mem} : zCer.Rep CoV PV m (.agg #[.bool false, .int .i64 0, .slice none 0 0, .slice none 0 0, .int .i64 0, .slice none 0 0]) := ⟨_, _, none, 0, rfl, Sl.nil, Sl.nil, none, 0, [], rfl, Nat.le_refl _, rfl, fun h => absurd h (Nat.lt_irrefl _)⟩
theorem pCer_some {L : List UInt8} {c : Cer Co (List Tm)} (h : pCer L = some c) : c = pC0 L ∧ (pJ L).2.2 = true ∧ c.okB = true ∧ c.text coB txtP = L := by
  unfold pCer at h
  split at h
  · rename_i h1
    injection h with h
    subst h
    exact ⟨rfl, h1⟩
  · cases h
theorem split_get {α : Type} {l : List α} {j : Nat} {x : α} (h : l[j]? = some x) : ∃ A B', l = A ++ x :: B' ∧ A.length = j := by
  obtain ⟨hj, e⟩ := List.getElem?_eq_some_iff.1 h
  refine ⟨l.take j, l.drop (j + 1), ?_, by rw [List.length_take]; omega⟩
  rw [← e, List.getElem_cons_drop, List.take_append_drop]
theorem Canonical_ok {m : Mem} {L : List UInt8} (hw : Wd m) (hE : Er m) (hT : Tab Tryz.prog m) : Pure Tryz.prog 5 #[.string (B L)] m fun r _ => r = .bool true := by
  refine enterp Tryz.func5 rfl rfl ?_
  intro K hm0 hks
  by_cases hlen : 3000 < L.length
  · skip
    refine wsr ?_
    refine was ?_
    refine wns ?_
    refine w_seq ?_
    refine wsr ?_
    refine wl_callp rfl rfl rfl Tryz.c24 (awake_ok hT) ?_; rintro v1 m1 hm1 rfl
    refine wv ((x_not rfl rfl).as rfl) ?_
    refine wmv ?_
    refine wmv ?_
    refine wv (x_lenB Tryz.underlying9 rfl rfl) ?_
    refine wv ((x_gtr rfl rfl).as (bool_t (by omega))) ?_
    refine wv (x_pick_f rfl rfl) ?_
    refine wns ?_
    refine w_true rfl ?_
    refine wsr ?_
    refine wl_callp rfl rfl rfl Tryz.c24 (awake_ok (hT.up hm1)) ?_; rintro v2 m2 hm2 rfl
    refine was ?_
    refine wns ?_
    refine w_ret ?_
    refine at_then_ret ?_
    refine at_endp (res1 rfl rfl) ?_
    rfl
  · skip
    rcases hpc : pCer L with _ | c
    · skip
      refine wsr ?_
      refine was ?_
      refine wns ?_
      refine w_seq ?_
      refine wsr ?_
      refine wl_callp rfl rfl rfl Tryz.c24 (awake_ok hT) ?_; rintro v1 m1 hm1 rfl
      refine wv ((x_not rfl rfl).as rfl) ?_
      refine wmv ?_
      refine wmv ?_
      refine wv (x_lenB Tryz.underlying9 rfl rfl) ?_
      refine wv ((x_gtr rfl rfl).as (bool_f (by omega))) ?_
      refine wv (x_pick_f rfl rfl) ?_
      refine wns ?_
      refine w_false rfl ?_
      refine w_skip ?_
      refine at_seq ?_
      refine wsr ?_
      refine wmv ?_
      refine wl_callp rfl rfl rfl Tryz.c27 (Parse_ok (hw.up hm1) (hE.up hm1) (hT.up hm1) (by omega)) ?_; rintro v2 m2 hm2 h2
      rw [hpc] at h2
      obtain rfl := h2
      refine wmv ?_
      refine wex ?_
      refine wex ?_
      refine wl_alloc rfl rfl Tryz.zero61 ?_; intro b3
      refine wl_storeAll rfl (by exact Tryz.size61) rfl rfl (by simp [Value.oneCell']) rfl ?_
      refine was ?_
      refine wns ?_
      refine w_seq ?_
      refine wsr ?_
      refine wmv ?_
      refine wv ((x_neq rfl rfl).as (bool_t (by decide))) ?_
      refine wns ?_
      refine w_true rfl ?_
      refine wsr ?_
      refine wmv ?_
      refine wv ((x_eql rfl rfl).as (bool_t rfl)) ?_
      refine wmv ?_
      refine wv (x_loads Tryz.agg61 (by exact Tryz.size61) rfl (rowH0 (.head _))) ?_
      refine wl_callp rfl rfl rfl Tryz.c28 (Valid_ok CoV.up (c := zCer) zCer_rep (by simp [zCer]) (fun f h => absurd h (by simp [zCer])) (by simp [zCer, Tr.size])) ?_; rintro v3 m3 hm3 rfl
      refine wv (x_not rfl rfl) ?_
      refine wv (x_pick_t rfl rfl) ?_
      refine was ?_
      refine wns ?_
      refine w_ret ?_
      refine at_then_ret ?_
      refine at_endp (res1 rfl rfl) ?_
      rfl
    · skip
      obtain ⟨hc0, hpj, hcok, hctx⟩ := pCer_some hpc
      have hsm : c.Small coB txtP := by rw [hc0]; exact cer_small (by omega) hpj
      have hlen2 : ¬ 1048576 < (c.text coB txtP).length := by rw [hctx]; omega
      have hn0 := rdNode_le 4 (pH L).2
      refine wsr ?_
      refine was ?_
      refine wns ?_
      refine w_seq ?_
      refine wsr ?_
      refine wl_callp rfl rfl rfl Tryz.c24 (awake_ok hT) ?_; rintro v1 m1 hm1 rfl
      refine wv ((x_not rfl rfl).as rfl) ?_
      refine wmv ?_
      refine wmv ?_
      refine wv (x_lenB Tryz.underlying9 rfl rfl) ?_
      refine wv ((x_gtr rfl rfl).as (bool_f (by omega))) ?_
      refine wv (x_pick_f rfl rfl) ?_
      refine wns ?_
      refine w_false rfl ?_
      refine w_skip ?_
      refine at_seq ?_
      refine wsr ?_
      refine wmv ?_
      refine wl_callp rfl rfl rfl Tryz.c27 (Parse_ok (hw.up hm1) (hE.up hm1) (hT.up hm1) (by omega)) ?_; rintro v2 m2 hm2 h2
      rw [hpc] at h2
      obtain ⟨v, rfl, hcv⟩ := h2
      have hcv0 := hcv
      obtain ⟨lv, fv, ad, cap, rfl, hls, hfs, hnd⟩ := hcv
      obtain ⟨la, lc, rfl⟩ := hls.slice
      obtain ⟨fa, fc, rfl⟩ := hfs.slice
      refine wmv ?_
      refine wex ?_
      refine wex ?_
      refine wl_alloc rfl rfl Tryz.zero61 ?_; intro b3
      refine wl_storeAll rfl (by exact Tryz.size61) rfl rfl (by simp [Value.oneCell']) rfl ?_
      refine was ?_
      refine wns ?_
      refine w_seq ?_
      refine wsr ?_
      refine wmv ?_
      refine wv ((x_neq rfl rfl).as (bool_f (by decide))) ?_
      refine wns ?_
      refine w_false rfl ?_
      refine w_skip ?_
      refine at_seq ?_
      refine wsr ?_
      refine wv (x_loads Tryz.agg61 (by exact Tryz.size61) rfl (rowH0 (.head _))) ?_
      refine wl_callp rfl rfl rfl Tryz.c26 (Format_ok CoC.up CoC.format PC.up PC.format' (hcv0.rep (hT.up (hm1.trans hm2))) hsm (hT.up (hm1.trans hm2))) ?_; rintro v3 m3 hm3 h3
      rw [if_pos hcok, if_neg hlen2, hctx] at h3
      obtain rfl := h3
      refine wmv ?_
      refine wex ?_
      refine wex ?_
      refine was ?_
      refine was ?_
      refine wns ?_
      refine w_seq ?_
      refine wsr ?_
      refine wv (x_fieldAddr Tryz.underlying61 rfl Tryz.size58 rfl) ?_
      refine wv (x_load Tryz.plain58 rfl (rowH1 (.head _) rfl)) ?_
      refine wv (x_len Tryz.underlying58 rfl rfl) ?_
      refine wmv ?_
      refine wns ?_
      refine w_block ?_
      have hm13 := hm1.trans (hm2.trans hm3)
      refine w_loop (fun r m' H' env' => ∃ i la, m3.le m' ∧ i + r = c.lists.length ∧ LsV m2 (.slice la c.lists.length lc) c.lists ∧ H' = [(b3, cl 61 [.bool c.verdict, .int .i64 c.first, .slice la c.lists.length lc, .slice fa c.facts.length fc, .int .i64 c.tree.kind, .slice ad c.tree.len cap])] ∧ env' = [(0, .string (B L)), (3, .pointer (some ⟨b3, 0, none⟩)), (5, .string (B L)), (6, .int .i64 0), (41, .int .i64 c.lists.length), (42, .int .i64 (i : Nat))]) c.lists.length [(0, .string (B L)), (3, .pointer (some ⟨b3, 0, none⟩)), (5, .string (B L)), (6, .int .i64 0), (41, .int .i64 c.lists.length), (42, .int .i64 (0 : Nat))] ⟨0, la, Mem.le.refl _, by omega, hls, rfl, rfl⟩ (by repeat' (first | exact trivial | exact rfl | exact lk_int rfl (by omega) | apply And.intro)) ?_
      rintro r m4 H' env' ⟨i, la', hm4, hi, hls', rfl, rfl⟩
      have hlb := hsm.lists
      refine wsr ?_
      refine wv (x_lss rfl rfl) ?_
      refine wns ?_
      refine w_seq ?_
      refine w_if rfl (fun h1 => ?_) (fun h1 => ?_)
      · skip
        have hil : i < c.lists.length := by omega
        have hlb2 := hsm.list _ (List.getElem_mem hil)
        obtain ⟨bl, ol, vs, hla, hvs, ⟨v, rfl, hv1, hv2⟩, hrl⟩ := hls'.get hil
        subst hla
        obtain ⟨pa, pc, rfl⟩ := hv2.slice
        refine w_skip ?_
        refine at_seq ?_
        refine w_seq ?_
        refine w_block ?_
        refine wsr ?_
        refine wmv ?_
        refine was ?_
        refine wnr ?_
        refine wv (x_fieldAddr Tryz.underlying61 rfl Tryz.size58 rfl) ?_
        refine wv (x_load Tryz.plain58 rfl (rowH1 (.head _) rfl)) ?_
        refine wmv ?_
        refine wv (x_index Tryz.underlying58 Tryz.size25 rfl rfl (j := i) (by omega) (by omega)) ?_
        refine wv (x_load Tryz.plain25 rfl ((hrl.up (hm3.trans hm4)).heap)) ?_
        refine wv (x_len Tryz.underlying25 rfl rfl) ?_
        refine wmv ?_
        refine wns ?_
        refine w_block ?_
        refine w_loop (fun r m' H' env' => ∃ k pa, m4.le m' ∧ k + r = c.lists[i].length ∧ Sl 1 (One PV) m2 (.slice pa c.lists[i].length pc) c.lists[i] ∧ Row m2 [] bl (ol + i * 1) [.slice pa c.lists[i].length pc] ∧ H' = [(b3, cl 61 [.bool c.verdict, .int .i64 c.first, .slice (some ⟨bl, ol, none⟩) c.lists.length lc, .slice fa c.facts.length fc, .int .i64 c.tree.kind, .slice ad c.tree.len cap])] ∧ env' = [(0, .string (B L)), (3, .pointer (some ⟨b3, 0, none⟩)), (5, .string (B L)), (6, .int .i64 0), (41, .int .i64 c.lists.length), (42, .int .i64 (i : Nat)), (7, .int .i64 (i : Nat)), (50, .int .i64 c.lists[i].length), (51, .int .i64 (k : Nat))]) c.lists[i].length [(0, .string (B L)), (3, .pointer (some ⟨b3, 0, none⟩)), (5, .string (B L)), (6, .int .i64 0), (41, .int .i64 c.lists.length), (42, .int .i64 (i : Nat)), (7, .int .i64 (i : Nat)), (50, .int .i64 c.lists[i].length), (51, .int .i64 (0 : Nat))] ⟨0, pa, Mem.le.refl _, by omega, hv2, hrl, rfl, rfl⟩ (by repeat' (first | exact trivial | exact rfl | exact lk_int rfl (by omega) | apply And.intro)) ?_
        rintro r2 m5 H' env' ⟨k, pa', hm5, hk, hv2', hrl', rfl, rfl⟩
        refine wsr ?_
        refine wv (x_lss rfl rfl) ?_
        refine wns ?_
        refine w_seq ?_
        refine w_if rfl (fun h2 => ?_) (fun h2 => ?_)
        · skip
          have hkl : k < c.lists[i].length := by omega
          obtain ⟨bp, op, vs, hpa, _, ⟨w, rfl, hw1, hw2⟩, hrp⟩ := hv2'.get hkl
          subst hpa
          obtain ⟨hcvp, q, hq1, hq2⟩ := hw2
          have hpok := pPoly_ok hq2 hq1
          have hpsm := hpok.psm hq1 hq1
          have hnc := nrm_can hpok.can
          obtain ⟨ts, hts⟩ : ∃ ts, ts = c.lists[i][k] := ⟨_, rfl⟩
          rw [← hts] at hcvp hpok hpsm hnc
          have hcvp0 := hcvp
          obtain ⟨xa, xc, xs, rfl, hxr, hxs, hxc⟩ := hcvp
          have hxl := hxs.len
          have hpl := hpsm.len
          have hptot := hpsm.tot
          have hm25 := hm3.trans (hm4.trans hm5)
          refine w_skip ?_
          refine at_seq ?_
          refine w_seq ?_
          refine w_block ?_
          refine wsr ?_
          refine wmv ?_
          refine was ?_
          refine wnr ?_
          refine wv (x_fieldAddr Tryz.underlying61 rfl Tryz.size58 rfl) ?_
          refine wv (x_load Tryz.plain58 rfl (rowH1 (.head _) rfl)) ?_
          refine wmv ?_
          refine wv (x_index Tryz.underlying58 Tryz.size25 rfl rfl (j := i) (by omega) (by omega)) ?_
          refine wv (x_load Tryz.plain25 rfl ((hrl'.up hm25).heap)) ?_
          refine wmv ?_
          refine wv (x_index Tryz.underlying25 Tryz.size28 rfl rfl (j := k) (by omega) (by omega)) ?_
          refine wv (x_load Tryz.plain28 rfl ((hrp.up hm25).heap)) ?_
          refine was ?_
          refine wnr ?_
          refine wmv ?_
          refine wl_callp rfl rfl rfl Tryz.c14 (PNormal_ok ((hcvp0.up hm25).pv) hpl (by omega)) ?_; rintro v6 m6 hm6 ⟨h61, _⟩
          rw [hnc] at h61
          obtain ⟨ya, yc, ys, rfl, hyr, hys, hyc⟩ := h61
          refine was ?_
          refine wns ?_
          refine w_seq ?_
          refine wsr ?_
          refine wmv ?_
          refine wv (x_len Tryz.underlying28 rfl rfl) ?_
          refine wmv ?_
          refine wv (x_len Tryz.underlying28 rfl rfl) ?_
          refine wv ((x_neq rfl rfl).as (bool_f fun h => h rfl)) ?_
          refine wns ?_
          refine w_false rfl ?_
          refine w_skip ?_
          refine at_seq ?_
          refine wsr ?_
          refine wmv ?_
          refine wv (x_len Tryz.underlying28 rfl rfl) ?_
          refine wmv ?_
          refine wns ?_
          refine w_block ?_
          have hyl := hys.len
          refine w_loop (fun r m' H' env' => ∃ j xa ya, m6.le m' ∧ j + r = ts.length ∧ (0 < ts.length → ∃ b o, xa = some ⟨b, o, none⟩ ∧ Row m2 [] b o (fl6 xs)) ∧ (0 < ts.length → ∃ b o, ya = some ⟨b, o, none⟩ ∧ Row m6 [] b o (fl6 ys)) ∧ H' = [(b3, cl 61 [.bool c.verdict, .int .i64 c.first, .slice (some ⟨bl, ol, none⟩) c.lists.length lc, .slice fa c.facts.length fc, .int .i64 c.tree.kind, .slice ad c.tree.len cap])] ∧ env' = [(0, .string (B L)), (3, .pointer (some ⟨b3, 0, none⟩)), (5, .string (B L)), (6, .int .i64 0), (41, .int .i64 c.lists.length), (42, .int .i64 (i : Nat)), (7, .int .i64 (i : Nat)), (50, .int .i64 c.lists[i].length), (51, .int .i64 (k : Nat)), (9, .slice xa ts.length xc), (10, .slice ya ts.length yc), (70, .int .i64 ts.length), (71, .int .i64 (j : Nat))]) ts.length [(0, .string (B L)), (3, .pointer (some ⟨b3, 0, none⟩)), (5, .string (B L)), (6, .int .i64 0), (41, .int .i64 c.lists.length), (42, .int .i64 (i : Nat)), (7, .int .i64 (i : Nat)), (50, .int .i64 c.lists[i].length), (51, .int .i64 (k : Nat)), (9, .slice xa ts.length xc), (10, .slice ya ts.length yc), (70, .int .i64 ts.length), (71, .int .i64 (0 : Nat))] ⟨0, xa, ya, Mem.le.refl _, by omega, hxr, hyr, rfl, rfl⟩ (by repeat' (first | exact trivial | exact rfl | exact lk_int rfl (by omega) | apply And.intro)) ?_
          rintro r3 m7 H' env' ⟨j, xa', ya', hm7, hj, hxr', hyr', rfl, rfl⟩
          refine wsr ?_
          refine wv (x_lss rfl rfl) ?_
          refine wns ?_
          refine w_seq ?_
          refine w_if rfl (fun h3 => ?_) (fun h3 => ?_)
          · skip
            have hjl : j < ts.length := by omega
            obtain ⟨bx, ox, rfl, hrx⟩ := hxr' (by omega)
            obtain ⟨by', oy, rfl, hry⟩ := hyr' (by omega)
            obtain ⟨x, hx1, hx2⟩ := hxs.get j ts[j] (List.getElem?_eq_getElem hjl)
            obtain ⟨y, hy1, hy2⟩ := hys.get j ts[j] (List.getElem?_eq_getElem hjl)
            obtain ⟨A, Bx, rfl, hA⟩ := split_get hx1
            obtain ⟨A', By, rfl, hA'⟩ := split_get hy1
            have hexx : x.ex = y.ex := by rw [hx2.2, hy2.2]
            have hm26 := hm25.trans (hm6.trans hm7)
            refine w_skip ?_
            refine at_seq ?_
            refine w_seq ?_
            refine w_block ?_
            refine wsr ?_
            refine wmv ?_
            refine was ?_
            refine wns ?_
            refine w_seq ?_
            refine dr_start [] [[], [], [0, 1], [2], [3], [], [], [5, 6], [7], [8], [4, 9], [10], [11], [11], [11, 12, 13], [11, 14], [11, 15], [11], [11], [11, 17, 18], [11, 19], [11, 20]] ?_
            refine dr_val rfl rfl (fun m' hm' => ds_val rfl (x_move rfl)) ?_
            refine dr_val rfl rfl (fun m' hm' => ds_val rfl (x_move rfl)) ?_
            refine dr_val rfl rfl (fun m' hm' => ds_val rfl (x_index Tryz.underlying28 Tryz.size72 rfl rfl (j := j) (by omega) (by omega))) ?_
            refine dr_val rfl rfl (fun m' hm' => ds_val rfl (x_fieldAddr Tryz.underlying72 rfl Tryz.size70 rfl)) ?_
            refine dr_val rfl rfl (fun m' hm' => ds_val rfl (x_loads Tryz.agg70 (by exact Tryz.size70) rfl (rowEx (hrx.up (hm26.trans hm')).heap (by show ox + j * 6 + 2 = _; omega)))) ?_
            refine dr_val rfl rfl (fun m' hm' => ds_val rfl (x_move rfl)) ?_
            refine dr_val rfl rfl (fun m' hm' => ds_val rfl (x_move rfl)) ?_
            refine dr_val rfl rfl (fun m' hm' => ds_val rfl (x_index Tryz.underlying28 Tryz.size72 rfl rfl (j := j) (by omega) (by omega))) ?_
            refine dr_val rfl rfl (fun m' hm' => ds_val rfl (x_fieldAddr Tryz.underlying72 rfl Tryz.size70 rfl)) ?_
            refine dr_val rfl rfl (fun m' hm' => ds_val rfl (x_loads Tryz.agg70 (by exact Tryz.size70) rfl (rowEx (hry.up (hm7.trans hm')).heap (by show oy + j * 6 + 2 = _; omega)))) ?_
            refine dr_val rfl rfl (fun m' hm' => ds_val rfl ((x_neqArr Tryz.underlying70 Tryz.underlying3 Tryz.size3 (by decide +kernel) rfl rfl).as (congrArg Value.bool (by rw [Bool.not_eq_false', decide_eq_true_iff]; simpa [TV.ex] using hexx)))) ?_
            refine dr_val rfl rfl (fun m' hm' => ds_val rfl (x_move rfl)) ?_
            refine dr_val rfl rfl (fun m' hm' => ds_val rfl (x_move rfl)) ?_
            refine dr_val rfl rfl (fun m' hm' => ds_val rfl (x_move rfl)) ?_
            refine dr_val rfl rfl (fun m' hm' => ds_val rfl (x_index Tryz.underlying28 Tryz.size72 rfl rfl (j := j) (by omega) (by omega))) ?_
            refine dr_val rfl rfl (fun m' hm' => ds_val rfl (x_fieldAddr Tryz.underlying72 rfl Tryz.size49 rfl)) ?_
            refine dr_val rfl rfl (fun m' hm' => ds_val rfl (x_loads Tryz.agg49 (by exact Tryz.size49) rfl (rowCo (hrx.up (hm26.trans hm')).heap (by show ox + j * 6 + 0 = _; omega)))) ?_
            refine dr_val rfl rfl (fun m' hm' => ds_val rfl (x_move rfl)) ?_
            refine dr_val rfl rfl (fun m' hm' => ds_val rfl (x_move rfl)) ?_
            refine dr_val rfl rfl (fun m' hm' => ds_val rfl (x_index Tryz.underlying28 Tryz.size72 rfl rfl (j := j) (by omega) (by omega))) ?_
            refine dr_val rfl rfl (fun m' hm' => ds_val rfl (x_fieldAddr Tryz.underlying72 rfl Tryz.size49 rfl)) ?_
            refine dr_val rfl rfl (fun m' hm' => ds_val rfl (x_loads Tryz.agg49 (by exact Tryz.size49) rfl (rowCo (hry.up (hm7.trans hm')).heap (by show oy + j * 6 + 0 = _; omega)))) ?_
            refine dr_done (k := 22) Tryz.mixed rfl rfl rfl fun m8 hm_m8 => ?_
            show WL _ _ _ _ _ _ _ _ _
            refine wl_callp rfl rfl rfl Tryz.c29 (Same_ok (hx2.1.in'.up (hm26.trans hm_m8)) (hy2.1.in'.up (hm7.trans hm_m8))) ?_; rintro v9 m9 hm9 h9
            obtain rfl : v9 = .bool true := h9.trans (congrArg Value.bool (decide_eq_true rfl))
            refine wv ((x_not rfl rfl).as rfl) ?_
            refine wv (x_pick_f rfl rfl) ?_
            refine wns ?_
            refine w_false rfl ?_
            refine w_skip ?_
            refine at_block_normal ?_
            refine at_seq ?_
            refine w_region ?_
            refine wv (x_add rfl rfl (wrap_i64 (by omega) (by omega))) ?_
            refine wmv ?_
            refine wl_nil ?_
            exact at_again (r3 - 1) [(0, .string (B L)), (3, .pointer (some ⟨b3, 0, none⟩)), (5, .string (B L)), (6, .int .i64 0), (41, .int .i64 c.lists.length), (42, .int .i64 (i : Nat)), (7, .int .i64 (i : Nat)), (50, .int .i64 c.lists[i].length), (51, .int .i64 (k : Nat)), (9, .slice (some ⟨bx, ox, none⟩) ts.length xc), (10, .slice (some ⟨by', oy, none⟩) ts.length yc), (70, .int .i64 ts.length), (71, .int .i64 ((j + 1) : Nat))] (by omega) ⟨j + 1, _, _, hm7.trans (hm_m8.trans hm9), by omega, fun _ => ⟨bx, ox, rfl, hrx⟩, fun _ => ⟨by', oy, rfl, hry⟩, rfl, rfl⟩ (by repeat' (first | exact trivial | exact rfl | exact lk_int rfl (by omega) | apply And.intro))
          · skip
            refine w_exit ?_
            refine at_then_exit ?_
            refine at_then_exit ?_
            refine at_block_hit ?_
            refine at_block_normal ?_
            refine at_seq ?_
            refine w_region ?_
            refine wv (x_add rfl rfl (wrap_i64 (by omega) (by omega))) ?_
            refine wmv ?_
            refine wl_nil ?_
            exact at_again (r2 - 1) [(0, .string (B L)), (3, .pointer (some ⟨b3, 0, none⟩)), (5, .string (B L)), (6, .int .i64 0), (41, .int .i64 c.lists.length), (42, .int .i64 (i : Nat)), (7, .int .i64 (i : Nat)), (50, .int .i64 c.lists[i].length), (51, .int .i64 ((k + 1) : Nat))] (by omega) ⟨k + 1, some ⟨bp, op, none⟩, hm5.trans (hm6.trans hm7), by omega, hv2', hrl', rfl, rfl⟩ (by repeat' (first | exact trivial | exact rfl | exact lk_int rfl (by omega) | apply And.intro))
        · skip
          refine w_exit ?_
          refine at_then_exit ?_
          refine at_then_exit ?_
          refine at_block_hit ?_
          refine at_block_normal ?_
          refine at_seq ?_
          refine w_region ?_
          refine wv (x_add rfl rfl (wrap_i64 (by omega) (by omega))) ?_
          refine wmv ?_
          refine wl_nil ?_
          exact at_again (r - 1) [(0, .string (B L)), (3, .pointer (some ⟨b3, 0, none⟩)), (5, .string (B L)), (6, .int .i64 0), (41, .int .i64 c.lists.length), (42, .int .i64 ((i + 1) : Nat))] (by omega) ⟨i + 1, some ⟨bl, ol, none⟩, hm4.trans hm5, by omega, hls', rfl, rfl⟩ (by repeat' (first | exact trivial | exact rfl | exact lk_int rfl (by omega) | apply And.intro))
      · skip
        have htz : c.tree.size ≤ 35184372088832 := hsm.tree
        refine w_exit ?_
        refine at_then_exit ?_
        refine at_then_exit ?_
        refine at_block_hit ?_
        refine at_seq ?_
        refine wsr ?_
        refine wmv ?_
        refine wv ((x_eql rfl rfl).as (bool_t rfl)) ?_
        refine wmv ?_
        refine wmv ?_
        refine wmv ?_
        refine wv ((x_eqlBs rfl rfl).as (bool_t rfl)) ?_
        refine wv (x_pick_t rfl rfl) ?_
        refine wmv ?_
        refine wv (x_fieldAddr Tryz.underlying61 rfl Tryz.size45 rfl) ?_
        refine wv (x_loads Tryz.agg45 (by exact Tryz.size45) rfl (rowHs (vs := [_, _]) (.head _) 4 rfl)) ?_
        refine wl_callp rfl rfl rfl Tryz.c30 (rationals_ok c.tree _ _ (Nd.up CoV.up hnd (hm3.trans hm4)) htz) ?_; rintro v9 m9 hm9 rfl
        refine wv (x_pick_t rfl rfl) ?_
        refine was ?_
        refine wns ?_
        refine w_ret ?_
        refine at_endp (res1 rfl rfl) ?_
        rfl
end Go.Cy
