/- certificate.reader: node, the walk. -/
import Derived.Test.YtmamkgbldaehgaaGreatDoorCyReadN
namespace Go.Cy
open Go Go.Proofs
set_option maxRecDepth 20000

def RnOk (d : Nat) : Prop := ∀ (m : Mem) (b : Nat) (s : Rs), Wd m → Er m → Tab Tryz.prog m → s.1.length ≤ 1048576 → Does Tryz.prog 81 #[.pointer (some ⟨b, 0, none⟩), .int .i64 d] m [(b, rdO s)] fun v m' H' => ((∃ k a l c, v = .agg #[.int .i64 k, .slice a l c]) ∧ Nd CoV m' v (rdNode d s).1) ∧ H' = [(b, rdO (rdNode d s).2)]
theorem Wv.head {m : Mem} {v : Value} {F : List UInt8} {s : Rs} (h : Wv m v (rdWords F 1 s).1) : ∃ b o cap, v = .slice (some ⟨b, o, none⟩) 1 cap ∧ 1 ≤ cap ∧ Row m [] b (o + 0 * 1) [.string (B ((rdWords F 1 s).1.headD []))] := by
  have hl := rdWords_len F 1 s
  obtain ⟨ad, cap, rfl, hc, h1⟩ := h
  rcases hws : (rdWords F 1 s).1 with _ | ⟨w, ws⟩
  · rw [hws] at hl; simp at hl
  · rw [hws] at hl h1 hc
    obtain ⟨b, o, rfl, hr⟩ := h1 (by rw [hl]; omega)
    rw [hl] at hc
    refine ⟨b, o, cap, by rw [hl], hc, hr.sub 0 (by simp) fun j hj => ?_⟩
    have : j = 0 := by simp at hj; omega
    subst this; rfl
def zN : Obj := cl 45 [.int .i64 0, .slice none 0 0]
theorem Nd.up {α : Type} {C : Mem → Value → α → Prop} (hC : ∀ m m' v a, m.le m' → C m v a → C m' v a) {m m' : Mem} {v : Value} {t : Tr α} (h : Nd C m v t) (hm : m.le m') : Nd C m' v t := by
  obtain ⟨ad, cap, ws, h1, h2, h3, h4⟩ := h
  exact ⟨ad, cap, ws, h1, h2, Tr.Rep.up hC hm h3, fun h => by obtain ⟨b, o, h5, h6⟩ := h4 h; exact ⟨b, o, h5, h6.up hm⟩⟩
theorem rnode_step {d : Nat} (hd4 : d ≤ 1000) (ih : ∀ d', d' < d → RnOk d') : RnOk d := by
  intro m b s hw hE hT hl
  have hle := rdHead_le s
  have htop := rdTop_le d s
  refine enter Tryz.func81 rfl rfl ?_
  intro K hm0 hks
  refine wsr ?_
  refine wl_alloc rfl rfl Tryz.zero45 ?_; intro b4
  refine wnr ?_
  refine wl_alloc rfl rfl Tryz.zero45 ?_; intro b5
  refine wnr ?_
  refine was ?_
  refine wns ?_
  refine w_seq_mid (fun m' H' env' => m.le m' ∧ H' = [(b5, cl 45 [.int .i64 (rdHead s).1, .slice none 0 0]), (b4, zN), (b, rdO (rdHead s).2.2)] ∧ env' = [(0, .pointer (some ⟨b, 0, none⟩)), (1, .int .i64 d), (4, .pointer (some ⟨b4, 0, none⟩)), (5, .pointer (some ⟨b5, 0, none⟩)), (6, .int .i64 (rdHead s).2.1)]) ?_ ?_
  · skip
    rcases hok : s.2 with _ | _
    · skip
      have hN : rdHead s = (0, 0, s) := by unfold rdHead; rw [if_pos hok]
      rw [hN]
      refine w_block ?_
      refine wsr ?_
      refine wmv ?_
      refine wv (x_nilCheck rfl) ?_
      refine wv (x_fieldAddr Tryz.underlying128 rfl Tryz.size4 rfl) ?_
      refine wv (x_load Tryz.plain4 rfl (rowH1 (.tail _ (.tail _ (.head _))) rfl)) ?_
      refine wv ((x_not rfl rfl).as (congrArg Value.bool (by rw [hok]))) ?_
      refine was ?_
      refine wns ?_
      refine w_true rfl ?_
      refine w_skip ?_
      refine at_block_normal ?_
      exact at_meets [(0, .pointer (some ⟨b, 0, none⟩)), (1, .int .i64 d), (4, .pointer (some ⟨b4, 0, none⟩)), (5, .pointer (some ⟨b5, 0, none⟩)), (6, .int .i64 0)] ⟨Mem.le.refl _, rfl, rfl⟩ (by repeat' (first | exact trivial | exact rfl | exact lk_int rfl (by omega) | apply And.intro))
    · skip
      by_cases h1 : s.1.take 4 = [108, 101, 97, 102]
      · skip
        have hN : rdHead s = (1, 0, (rdWords [108, 101, 97, 102] 0 s).2) := by unfold rdHead; rw [if_neg (by rw [hok]; simp), if_pos h1]
        rw [hN]
        refine w_block ?_
        refine wsr ?_
        refine wmv ?_
        refine wv (x_nilCheck rfl) ?_
        refine wv (x_fieldAddr Tryz.underlying128 rfl Tryz.size4 rfl) ?_
        refine wv (x_load Tryz.plain4 rfl (rowH1 (.tail _ (.tail _ (.head _))) rfl)) ?_
        refine wv ((x_not rfl rfl).as (congrArg Value.bool (by rw [hok]))) ?_
        refine was ?_
        refine wns ?_
        refine w_false rfl ?_
        refine wsr ?_
        refine wmv ?_
        refine wv (x_nilCheck rfl) ?_
        refine wv (x_fieldAddr Tryz.underlying128 rfl Tryz.size9 rfl) ?_
        refine wv (x_load Tryz.plain9 rfl (rowH1 (.tail _ (.tail _ (.head _))) rfl)) ?_
        refine wl_callp rfl rfl rfl Tryz.c137 (HasPrefix_ok (L := s.1) (X := [108, 101, 97, 102]) (by omega) (by simp)) ?_; rintro v2 m2 hm2 h2
        obtain rfl : v2 = .bool true := h2.trans (congrArg Value.bool (decide_eq_true h1))
        refine was ?_
        refine wns ?_
        refine w_true rfl ?_
        refine wsr ?_
        refine wmv ?_
        refine wl_calld2 rfl rfl rfl Tryz.c77 (words_ok (F := [108, 101, 97, 102]) (n := 0) (hw.up hm2) hl (by omega)) ?_; rintro v3 m3 H3 hm3 ⟨h3, rfl⟩
        refine wns ?_
        refine w_region ?_
        refine wv (x_fieldAddr Tryz.underlying45 rfl Tryz.size3 rfl) ?_
        refine wl_store rfl Tryz.size3 rfl rfl rfl (by simp) ?_
        refine wl_nil ?_
        refine at_block_normal ?_
        exact at_meets [(0, .pointer (some ⟨b, 0, none⟩)), (1, .int .i64 d), (4, .pointer (some ⟨b4, 0, none⟩)), (5, .pointer (some ⟨b5, 0, none⟩)), (6, .int .i64 0)] ⟨hm2.trans hm3, rfl, rfl⟩ (by repeat' (first | exact trivial | exact rfl | exact lk_int rfl (by omega) | apply And.intro))
      · skip
        by_cases h2 : s.1.take 3 = [111, 110, 101]
        · skip
          have hN : rdHead s = (2, 1, (rdWords [111, 110, 101] 0 s).2) := by unfold rdHead; rw [if_neg (by rw [hok]; simp), if_neg h1, if_pos h2]
          rw [hN]
          refine w_block ?_
          refine wsr ?_
          refine wmv ?_
          refine wv (x_nilCheck rfl) ?_
          refine wv (x_fieldAddr Tryz.underlying128 rfl Tryz.size4 rfl) ?_
          refine wv (x_load Tryz.plain4 rfl (rowH1 (.tail _ (.tail _ (.head _))) rfl)) ?_
          refine wv ((x_not rfl rfl).as (congrArg Value.bool (by rw [hok]))) ?_
          refine was ?_
          refine wns ?_
          refine w_false rfl ?_
          refine wsr ?_
          refine wmv ?_
          refine wv (x_nilCheck rfl) ?_
          refine wv (x_fieldAddr Tryz.underlying128 rfl Tryz.size9 rfl) ?_
          refine wv (x_load Tryz.plain9 rfl (rowH1 (.tail _ (.tail _ (.head _))) rfl)) ?_
          refine wl_callp rfl rfl rfl Tryz.c137 (HasPrefix_ok (L := s.1) (X := [108, 101, 97, 102]) (by omega) (by simp)) ?_; rintro v2 m2 hm2 h3
          obtain rfl : v2 = .bool false := h3.trans (congrArg Value.bool (decide_eq_false h1))
          refine was ?_
          refine wns ?_
          refine w_false rfl ?_
          refine wsr ?_
          refine wmv ?_
          refine wv (x_nilCheck rfl) ?_
          refine wv (x_fieldAddr Tryz.underlying128 rfl Tryz.size9 rfl) ?_
          refine wv (x_load Tryz.plain9 rfl (rowH1 (.tail _ (.tail _ (.head _))) rfl)) ?_
          refine wl_callp rfl rfl rfl Tryz.c137 (HasPrefix_ok (L := s.1) (X := [111, 110, 101]) (by omega) (by simp)) ?_; rintro v3 m3 hm3 h3
          obtain rfl : v3 = .bool true := h3.trans (congrArg Value.bool (decide_eq_true h2))
          refine was ?_
          refine wns ?_
          refine w_true rfl ?_
          refine wsr ?_
          refine wmv ?_
          refine wl_calld2 rfl rfl rfl Tryz.c77 (words_ok (F := [111, 110, 101]) (n := 0) (hw.up (hm2.trans hm3)) hl (by omega)) ?_; rintro v4 m4 H4 hm4 ⟨h4, rfl⟩
          refine wns ?_
          refine w_region ?_
          refine wv (x_fieldAddr Tryz.underlying45 rfl Tryz.size3 rfl) ?_
          refine wl_store rfl Tryz.size3 rfl rfl rfl (by simp) ?_
          refine was ?_
          refine wl_nil ?_
          refine at_block_normal ?_
          exact at_meets [(0, .pointer (some ⟨b, 0, none⟩)), (1, .int .i64 d), (4, .pointer (some ⟨b4, 0, none⟩)), (5, .pointer (some ⟨b5, 0, none⟩)), (6, .int .i64 1)] ⟨hm2.trans (hm3.trans hm4), rfl, rfl⟩ (by repeat' (first | exact trivial | exact rfl | exact lk_int rfl (by omega) | apply And.intro))
        · skip
          have hN : rdHead s = (3, (rdNum ((rdWords [97, 108, 108] 1 s).1.headD []) (rdWords [97, 108, 108] 1 s).2).1, (rdNum ((rdWords [97, 108, 108] 1 s).1.headD []) (rdWords [97, 108, 108] 1 s).2).2) := by unfold rdHead; rw [if_neg (by rw [hok]; simp), if_neg h1, if_neg h2]
          rw [hN]
          have hwl := rdWords_le [97, 108, 108] 1 s
          have hhd : ((rdWords [97, 108, 108] 1 s).1.headD []).length ≤ 1048576 := by
            rcases hws : (rdWords [97, 108, 108] 1 s).1 with _ | ⟨w, ws⟩
            · simp
            · have := hwl.2.1 w (by rw [hws]; exact List.mem_cons_self ..)
              rw [List.headD_cons]; omega
          refine w_block ?_
          refine wsr ?_
          refine wmv ?_
          refine wv (x_nilCheck rfl) ?_
          refine wv (x_fieldAddr Tryz.underlying128 rfl Tryz.size4 rfl) ?_
          refine wv (x_load Tryz.plain4 rfl (rowH1 (.tail _ (.tail _ (.head _))) rfl)) ?_
          refine wv ((x_not rfl rfl).as (congrArg Value.bool (by rw [hok]))) ?_
          refine was ?_
          refine wns ?_
          refine w_false rfl ?_
          refine wsr ?_
          refine wmv ?_
          refine wv (x_nilCheck rfl) ?_
          refine wv (x_fieldAddr Tryz.underlying128 rfl Tryz.size9 rfl) ?_
          refine wv (x_load Tryz.plain9 rfl (rowH1 (.tail _ (.tail _ (.head _))) rfl)) ?_
          refine wl_callp rfl rfl rfl Tryz.c137 (HasPrefix_ok (L := s.1) (X := [108, 101, 97, 102]) (by omega) (by simp)) ?_; rintro v2 m2 hm2 h3
          obtain rfl : v2 = .bool false := h3.trans (congrArg Value.bool (decide_eq_false h1))
          refine was ?_
          refine wns ?_
          refine w_false rfl ?_
          refine wsr ?_
          refine wmv ?_
          refine wv (x_nilCheck rfl) ?_
          refine wv (x_fieldAddr Tryz.underlying128 rfl Tryz.size9 rfl) ?_
          refine wv (x_load Tryz.plain9 rfl (rowH1 (.tail _ (.tail _ (.head _))) rfl)) ?_
          refine wl_callp rfl rfl rfl Tryz.c137 (HasPrefix_ok (L := s.1) (X := [111, 110, 101]) (by omega) (by simp)) ?_; rintro v3 m3 hm3 h3
          obtain rfl : v3 = .bool false := h3.trans (congrArg Value.bool (decide_eq_false h2))
          refine was ?_
          refine wns ?_
          refine w_false rfl ?_
          refine w_region ?_
          refine wmv ?_
          refine wmv ?_
          refine wl_calld2 rfl rfl rfl Tryz.c77 (words_ok (F := [97, 108, 108]) (n := 1) (hw.up (hm2.trans hm3)) hl (by omega)) ?_; rintro v4 m4 H4 hm4 ⟨h4, rfl⟩
          obtain ⟨bw, ow, capw, rfl, hcw, hrw⟩ := h4.head
          refine wv (x_index Tryz.underlying129 Tryz.size9 rfl rfl (j := 0) (by omega) (by omega)) ?_
          refine wv (x_load Tryz.plain9 rfl (hrw.heap)) ?_
          refine wl_calld2 rfl rfl rfl Tryz.c78 (number_ok' (L := (rdWords [97, 108, 108] 1 s).1.headD []) (hE.up (hm2.trans (hm3.trans hm4))) hhd) ?_; rintro v5 m5 H5 hm5 ⟨rfl, rfl⟩
          refine wv (x_fieldAddr Tryz.underlying45 rfl Tryz.size3 rfl) ?_
          refine wl_store rfl Tryz.size3 rfl rfl rfl (by simp) ?_
          refine was ?_
          refine wl_nil ?_
          refine at_block_normal ?_
          exact at_meets [(0, .pointer (some ⟨b, 0, none⟩)), (1, .int .i64 d), (4, .pointer (some ⟨b4, 0, none⟩)), (5, .pointer (some ⟨b5, 0, none⟩)), (6, .int .i64 (rdNum ((rdWords [97, 108, 108] 1 s).1.headD []) (rdWords [97, 108, 108] 1 s).2).1)] ⟨hm2.trans (hm3.trans (hm4.trans hm5)), rfl, rfl⟩ (by repeat' (first | exact trivial | exact rfl | exact lk_int rfl (by omega) | apply And.intro))
  · skip
    rintro m1 H' env' ⟨hm1, rfl, rfl⟩
    obtain ⟨kind, cnt, st0, hhd⟩ : ∃ k c s', rdHead s = (k, c, s') := ⟨_, _, _, rfl⟩
    have htp : rdTop d s = if d = 0 ∧ 0 < cnt then (st0.1, false) else st0 := by unfold rdTop; rw [hhd]
    rw [hhd] at hle ⊢
    refine w_seq_mid (fun m' H' env' => m' = m1 ∧ H'.Perm [(b5, cl 45 [.int .i64 kind, .slice none 0 0]), (b4, zN), (b, rdO (rdTop d s))] ∧ env' = [(0, .pointer (some ⟨b, 0, none⟩)), (1, .int .i64 d), (4, .pointer (some ⟨b4, 0, none⟩)), (5, .pointer (some ⟨b5, 0, none⟩)), (6, .int .i64 cnt)]) ?_ ?_
    · skip
      by_cases hc : 0 < cnt
      · skip
        by_cases hd0 : d = 0
        · skip
          rw [htp, if_pos ⟨hd0, hc⟩]
          refine wsr ?_
          refine wmv ?_
          refine wv ((x_gtr rfl rfl).as (bool_t hc)) ?_
          refine wmv ?_
          refine wmv ?_
          refine wv ((x_eql rfl rfl).as (bool_t (by rw [hd0]; rfl))) ?_
          unfold rdO
          refine wv (x_pick_t rfl rfl) ?_
          refine wns ?_
          refine w_true rfl ?_
          refine w_region ?_
          refine wmv ?_
          refine wv (x_nilCheck rfl) ?_
          refine wv (x_fieldAddr Tryz.underlying128 rfl Tryz.size4 rfl) ?_
          refine wl_front2 ?_
          refine wl_store rfl Tryz.size4 rfl rfl rfl (by simp) ?_
          refine wl_nil ?_
          exact at_meets [(0, .pointer (some ⟨b, 0, none⟩)), (1, .int .i64 d), (4, .pointer (some ⟨b4, 0, none⟩)), (5, .pointer (some ⟨b5, 0, none⟩)), (6, .int .i64 cnt)] ⟨rfl, perm3.symm, rfl⟩ (by repeat' (first | exact trivial | exact rfl | exact lk_int rfl (by omega) | apply And.intro))
        · skip
          rw [htp, if_neg fun h => hd0 h.1]
          refine wsr ?_
          refine wmv ?_
          refine wv ((x_gtr rfl rfl).as (bool_t hc)) ?_
          refine wmv ?_
          refine wmv ?_
          refine wv ((x_eql rfl rfl).as (bool_f (by omega))) ?_
          refine wv (x_pick_t rfl rfl) ?_
          refine wns ?_
          refine w_false rfl ?_
          refine w_skip ?_
          exact at_meets [(0, .pointer (some ⟨b, 0, none⟩)), (1, .int .i64 d), (4, .pointer (some ⟨b4, 0, none⟩)), (5, .pointer (some ⟨b5, 0, none⟩)), (6, .int .i64 cnt)] ⟨rfl, .refl _, rfl⟩ (by repeat' (first | exact trivial | exact rfl | exact lk_int rfl (by omega) | apply And.intro))
      · skip
        rw [htp, if_neg fun h => hc h.2]
        refine wsr ?_
        refine wmv ?_
        refine wv ((x_gtr rfl rfl).as (bool_f hc)) ?_
        refine wmv ?_
        refine wl_off rfl rfl rfl ?_
        refine wl_off rfl rfl rfl ?_
        refine wv (x_pick_f rfl rfl) ?_
        refine wns ?_
        refine w_false rfl ?_
        refine w_skip ?_
        exact at_meets [(0, .pointer (some ⟨b, 0, none⟩)), (1, .int .i64 d), (4, .pointer (some ⟨b4, 0, none⟩)), (5, .pointer (some ⟨b5, 0, none⟩)), (6, .int .i64 cnt)] ⟨rfl, .refl _, rfl⟩ (by repeat' (first | exact trivial | exact rfl | exact lk_int rfl (by omega) | apply And.intro))
    · skip
      rintro m1' H' env' ⟨rfl, hperm, rfl⟩
      refine w_perm hperm ?_
      clear hperm
      have hNd : rdNode d s = rdCells (rdSub d) kind cnt.toNat (rdTop d s) := by rw [rdNode_eq, hhd]
      have hz : d = 0 → (rdTop d s).2 = true → cnt ≤ 0 := fun h0 h1 => by
        rw [htp] at h1
        split at h1
        · cases h1
        · omega
      refine w_seq_mid (fun m' H' env' => ∃ a c ds cs st Hs, m1'.le m' ∧ rdNode d s = (toTr ds (.nil kind), st) ∧ (toTr ds (.nil kind)).Rep CoV m' cs ∧ Own (.slice a ds.length c) 9 57 cs Hs ∧ H'.Perm ((b5, cl 45 [.int .i64 kind, .slice a ds.length c]) :: (b4, zN) :: (b, rdO st) :: Hs) ∧ env' = [(4, .pointer (some ⟨b4, 0, none⟩)), (5, .pointer (some ⟨b5, 0, none⟩))]) ?_ ?_
      · skip
        refine w_block ?_
        refine w_loop (fun r m' H' env' => ∃ a c ds cs st Hs, m1'.le m' ∧ ds.length + r = cnt.toNat ∧ rdNode d s = (toTr ds (rdCells (rdSub d) kind r st).1, (rdCells (rdSub d) kind r st).2) ∧ ds.length + st.1.length ≤ s.1.length ∧ (toTr ds (.nil kind)).Rep CoV m' cs ∧ Own (.slice a ds.length c) 9 57 cs Hs ∧ (d = 0 → st.2 = true → cnt ≤ 0) ∧ H' = (b5, cl 45 [.int .i64 kind, .slice a ds.length c]) :: (b4, zN) :: (b, rdO st) :: Hs ∧ env' = [(0, .pointer (some ⟨b, 0, none⟩)), (1, .int .i64 d), (4, .pointer (some ⟨b4, 0, none⟩)), (5, .pointer (some ⟨b5, 0, none⟩)), (6, .int .i64 cnt)]) cnt.toNat [(0, .pointer (some ⟨b, 0, none⟩)), (1, .int .i64 d), (4, .pointer (some ⟨b4, 0, none⟩)), (5, .pointer (some ⟨b5, 0, none⟩)), (6, .int .i64 cnt)] ⟨none, 0, [], [], rdTop d s, [], Mem.le.refl _, by simp, hNd, by simpa using htop, rfl, Own.nil _ _, hz, rfl, rfl⟩ (by repeat' (first | exact trivial | exact rfl | exact lk_int rfl (by omega) | apply And.intro)) ?_
        rintro r m2 H' env' ⟨a, c, ds, cs, st, Hs, hm2, hr, hrd, hlen, hrep, hown, hz2, rfl, rfl⟩
        rcases hs2 : st.2 with _ | _
        · skip
          have hstop : rdCells (rdSub d) kind r st = (.nil kind, st) := by
            cases r with
            | zero => rfl
            | succ r => rw [rdCells, if_pos hs2]
          rw [hstop] at hrd
          refine w_seq ?_
          refine wsr ?_
          refine wmv ?_
          refine wv (x_nilCheck rfl) ?_
          refine wv (x_fieldAddr Tryz.underlying128 rfl Tryz.size4 rfl) ?_
          refine wv (x_load Tryz.plain4 rfl (rowH1 (.tail _ (.tail _ (.head _))) rfl)) ?_
          refine wv ((x_move rfl).as (congrArg Value.bool hs2)) ?_
          refine wl_off rfl rfl rfl ?_
          refine wl_off rfl rfl rfl ?_
          refine wl_off rfl rfl rfl ?_
          refine wl_off rfl rfl rfl ?_
          refine wl_off rfl rfl rfl ?_
          refine wv (x_pick_f rfl rfl) ?_
          refine wns ?_
          refine w_false rfl ?_
          refine w_exit ?_
          refine at_then_exit ?_
          refine at_then_exit ?_
          refine at_block_hit ?_
          exact at_meets [(4, .pointer (some ⟨b4, 0, none⟩)), (5, .pointer (some ⟨b5, 0, none⟩))] ⟨a, c, ds, cs, st, Hs, hm2, hrd, hrep, hown, .refl _, rfl⟩ (by repeat' (first | exact trivial | exact rfl | exact lk_int rfl (by omega) | apply And.intro))
        · skip
          by_cases hlt : (ds.length : Int) < cnt
          · skip
            obtain ⟨r', rfl⟩ : ∃ r', r = r' + 1 := ⟨r - 1, by omega⟩
            obtain ⟨d', hd'⟩ : ∃ d', d = d' + 1 := ⟨d - 1, by
              by_cases h0 : d = 0
              · have := hz2 h0 hs2; omega
              · omega⟩
            have hwl := rdWords_le [97, 116] 1 st
            have hhdl : ((rdWords [97, 116] 1 st).1.headD []).length ≤ 1048576 := by
              rcases hws : (rdWords [97, 116] 1 st).1 with _ | ⟨w, ws⟩
              · simp
              · have := hwl.2.1 w (by rw [hws]; exact List.mem_cons_self ..)
                rw [List.headD_cons]; omega
            have hm02 := hm1.trans hm2
            have hsub : rdSub d = rdNode d' := by rw [hd']; rfl
            rw [rdCells, if_neg (by rw [hs2]; simp)] at hrd
            rcases hco : pCoord ((rdWords [97, 116] 1 st).1.headD []) with _ | co
            · skip
              rw [hco] at hrd
              simp only at hrd
              refine w_seq ?_
              refine wsr ?_
              refine wmv ?_
              refine wv (x_nilCheck rfl) ?_
              refine wv (x_fieldAddr Tryz.underlying128 rfl Tryz.size4 rfl) ?_
              refine wv (x_load Tryz.plain4 rfl (rowH1 (.tail _ (.tail _ (.head _))) rfl)) ?_
              refine wv ((x_move rfl).as (congrArg Value.bool hs2)) ?_
              refine wv (x_fieldAddr Tryz.underlying45 rfl Tryz.size43 rfl) ?_
              refine wv (x_load Tryz.plain43 rfl (rowH1 (.head _) rfl)) ?_
              refine wv (x_len Tryz.underlying43 rfl rfl) ?_
              refine wmv ?_
              refine wv ((x_lss rfl rfl).as (bool_t hlt)) ?_
              refine wl_perm perm3 ?_
              refine wv (x_pick_t rfl rfl) ?_
              refine wns ?_
              refine w_true rfl ?_
              refine w_skip ?_
              refine at_seq ?_
              refine w_block ?_
              refine wsr ?_
              refine wmv ?_
              refine wl_call rfl rfl rfl Tryz.c77 rfl (words_ok (F := [97, 116]) (n := 1) (hw.up hm02) (by omega) (by omega)) ?_; rintro v3 m3 H3 hm3 ⟨h3, rfl⟩; obtain ⟨bw, ow, capw, rfl, hcw, hrw⟩ := h3.head
              refine wv (x_index Tryz.underlying129 Tryz.size9 rfl rfl (j := 0) (by omega) (by omega)) ?_
              refine wv (x_load Tryz.plain9 rfl (hrw.heap)) ?_
              refine wl_callp rfl rfl rfl Tryz.c138 (CParse_ok (hw.up (hm02.trans hm3)) (hE.up (hm02.trans hm3)) (hT.up (hm02.trans hm3)) hhdl) ?_; rintro v4 m4 hm4 h4
              rw [hco] at h4
              obtain rfl := h4
              refine wmv ?_
              refine wex ?_
              refine wex ?_
              refine wl_alloc rfl rfl Tryz.zero55 ?_; intro b7
              refine wl_storeAll rfl (by exact Tryz.size55) rfl rfl (by simp [Value.oneCell']) rfl ?_
              refine was ?_
              refine wns ?_
              refine w_seq ?_
              refine wsr ?_
              refine wmv ?_
              refine wv ((x_neq rfl rfl).as (bool_t (by decide))) ?_
              refine wns ?_
              refine w_true rfl ?_
              refine wsr ?_
              unfold rdO
              refine wmv ?_
              refine wv (x_nilCheck rfl) ?_
              refine wv (x_fieldAddr Tryz.underlying128 rfl Tryz.size4 rfl) ?_
              refine wl_front1 ?_
              refine wl_store rfl Tryz.size4 rfl rfl rfl (by simp) ?_
              refine wns ?_
              refine w_exit ?_
              refine at_then_exit ?_
              refine at_block_miss rfl ?_
              refine at_then_exit ?_
              refine at_block_hit ?_
              refine at_perm (.swap _ _ _) ?_
              refine at_drop1 ?_
              exact at_meets [(4, .pointer (some ⟨b4, 0, none⟩)), (5, .pointer (some ⟨b5, 0, none⟩))] ⟨a, c, ds, cs, ((rdWords [97, 116] 1 st).2.1, false), Hs, hm2.trans (hm3.trans hm4), hrd, Tr.Rep.up CoV.up (hm3.trans hm4) hrep, hown, perm3.symm, rfl⟩ (by repeat' (first | exact trivial | exact rfl | exact lk_int rfl (by omega) | apply And.intro))
            · skip
              rw [hco] at hrd
              simp only at hrd
              have hnl := rdNode_le d' (rdWords [97, 116] 1 st).2
              have hw2l : (rdWords [97, 116] 1 st).2.1.length + 1 ≤ st.1.length := by
                cases hok : (rdWords [97, 116] 1 st).2.2 with
                | true => have := (hwl.2.2.1 hok).2; omega
                | false =>
                  exfalso
                  have h3 := hwl.2.2.2 hok
                  have hwl2 := rdWords_len [97, 116] 1 st
                  rcases hws : (rdWords [97, 116] 1 st).1 with _ | ⟨w, ws⟩
                  · rw [hws] at hwl2; simp at hwl2
                  · rw [hws] at h3 hco
                    rw [List.headD_cons, h3 w (List.mem_cons_self ..), pCoord_nil] at hco
                    cases hco
              refine w_seq ?_
              refine wsr ?_
              refine wmv ?_
              refine wv (x_nilCheck rfl) ?_
              refine wv (x_fieldAddr Tryz.underlying128 rfl Tryz.size4 rfl) ?_
              refine wv (x_load Tryz.plain4 rfl (rowH1 (.tail _ (.tail _ (.head _))) rfl)) ?_
              refine wv ((x_move rfl).as (congrArg Value.bool hs2)) ?_
              refine wv (x_fieldAddr Tryz.underlying45 rfl Tryz.size43 rfl) ?_
              refine wv (x_load Tryz.plain43 rfl (rowH1 (.head _) rfl)) ?_
              refine wv (x_len Tryz.underlying43 rfl rfl) ?_
              refine wmv ?_
              refine wv ((x_lss rfl rfl).as (bool_t hlt)) ?_
              refine wl_perm perm3 ?_
              refine wv (x_pick_t rfl rfl) ?_
              refine wns ?_
              refine w_true rfl ?_
              refine w_skip ?_
              refine at_seq ?_
              refine w_block ?_
              refine wsr ?_
              refine wmv ?_
              refine wl_call rfl rfl rfl Tryz.c77 rfl (words_ok (F := [97, 116]) (n := 1) (hw.up hm02) (by omega) (by omega)) ?_; rintro v3 m3 H3 hm3 ⟨h3, rfl⟩; obtain ⟨bw, ow, capw, rfl, hcw, hrw⟩ := h3.head
              refine wv (x_index Tryz.underlying129 Tryz.size9 rfl rfl (j := 0) (by omega) (by omega)) ?_
              refine wv (x_load Tryz.plain9 rfl (hrw.heap)) ?_
              refine wl_callp rfl rfl rfl Tryz.c138 (CParse_ok (hw.up (hm02.trans hm3)) (hE.up (hm02.trans hm3)) (hT.up (hm02.trans hm3)) hhdl) ?_; rintro v4 m4 hm4 h4
              rw [hco] at h4
              obtain ⟨p, f1, f2, f3, g1, g2, g3, rfl, hc2, hc3, hc4⟩ := h4
              obtain ⟨a9, l9, c9, rfl⟩ := hc4.pv.slice
              obtain ⟨n5, a5, l5, c5, a6, l6, c6, e5⟩ := hc2.fi.agg
              obtain ⟨n7, a7, l7, c7, a8, l8, c8, e7⟩ := hc3.fi.agg
              cases e5
              cases e7
              refine wmv ?_
              refine wex ?_
              refine wex ?_
              refine wl_alloc rfl rfl Tryz.zero55 ?_; intro b7
              refine wl_storeAll rfl (by exact Tryz.size55) rfl rfl (by simp [Value.oneCell']) rfl ?_
              refine was ?_
              refine wns ?_
              refine w_seq ?_
              refine wsr ?_
              refine wmv ?_
              refine wv ((x_neq rfl rfl).as (bool_f (by decide))) ?_
              refine wns ?_
              refine w_false rfl ?_
              refine w_skip ?_
              refine at_seq ?_
              refine w_perm (.swap _ _ _) ?_
              have hm34 := hm3.trans hm4
              have hm04 := hm02.trans hm34
              refine drx_start (b := b) (cs := [6]) (os := fun s => [rdO (rdWords [97, 116] 1 st).2, rdO (rdNode d' (rdWords [97, 116] 1 st).2).2].getD s (rdO (rdWords [97, 116] 1 st).2)) rfl [] [[], [0], [], [], [], [4], [3, 5], [2, 6], [7]] ?_
              refine drx_val rfl rfl (fun m' hm' => ds_val rfl (x_fieldAddr Tryz.underlying45 rfl Tryz.size43 rfl)) ?_
              refine drx_val rfl rfl (fun m' hm' => ds_val rfl (x_load Tryz.plain43 rfl (rowH1 (.tail _ (.head _)) rfl))) ?_
              refine drx_val rfl rfl (fun m' hm' => ds_val rfl (x_loads Tryz.agg55 (by exact Tryz.size55) rfl (rowH0 (.head _)))) ?_
              refine drx_val rfl rfl (fun m' hm' => ds_val rfl (x_move rfl)) ?_
              refine drx_val rfl rfl (fun m' hm' => ds_val rfl (x_move rfl)) ?_
              refine drx_val rfl rfl (fun m' hm' => ds_val rfl (x_sub rfl rfl (asN d' (by omega) (by omega)))) ?_
              refine drx_call 0 (.ret (fun v m' => (∃ k a l c, v = .agg #[.int .i64 k, .slice a l c]) ∧ Nd CoV m' v (rdNode d' (rdWords [97, 116] 1 st).2).1) (fun _ _ _ hm h => ⟨h.1, Nd.up CoV.up h.2 hm⟩)) rfl rfl (fun m' hm' => es_call rfl rfl Tryz.c81 (ih d' (by omega) _ b (rdWords [97, 116] 1 st).2 (hw.up (hm04.trans hm')) (hE.up (hm04.trans hm')) (hT.up (hm04.trans hm')) (by omega))) ?_
              refine drx_op (.ret (fun v m' => ∃ k8 a10 l10 c10, v = .agg #[.slice a9 l9 c9, .bool n5, .slice a5 l5 c5, .slice a6 l6 c6, .bool n7, .slice a7 l7 c7, .slice a8 l8 c8, .int .i64 k8, .slice a10 l10 c10] ∧ Nd CoV m' (.agg #[.int .i64 k8, .slice a10 l10 c10]) (rdNode d' (rdWords [97, 116] 1 st).2).1) (fun _ _ _ hm ⟨k, a, l, c, e, h⟩ => ⟨k, a, l, c, e, Nd.up CoV.up h hm⟩)) rfl rfl (fun m' hm' v6 h6 => by obtain ⟨⟨k8, a10, l10, c10, rfl⟩, hn⟩ := h6; exact ds_ex rfl (x_build (cs := [_, _, _, _, _, _, _, _, _]) Tryz.underlying57 Tryz.places57 Tryz.zero57 rfl rfl) ⟨k8, a10, l10, c10, rfl, hn⟩) ?_
              refine drx_op (.ret (fun v m' => ∃ b9 k8 a10 l10 c10, v = .slice (some ⟨b9, 0, none⟩) 1 1 ∧ Row m' [] b9 0 [.slice a9 l9 c9, .bool n5, .slice a5 l5 c5, .slice a6 l6 c6, .bool n7, .slice a7 l7 c7, .slice a8 l8 c8, .int .i64 k8, .slice a10 l10 c10] ∧ Nd CoV m' (.agg #[.int .i64 k8, .slice a10 l10 c10]) (rdNode d' (rdWords [97, 116] 1 st).2).1) (fun _ _ _ hm ⟨b, k, a, l, c, e, h, h'⟩ => ⟨b, k, a, l, c, e, h.up hm, Nd.up CoV.up h' hm⟩)) rfl rfl (fun m' hm' v7 h7 => by obtain ⟨k8, a10, l10, c10, rfl, hn⟩ := h7; exact DStep.mono (by show DStep _ _ _ _ _ _ _ _ _; exact ds_buildSlice (cs := [.slice a9 l9 c9, .bool n5, .slice a5 l5 c5, .slice a6 l6 c6, .bool n7, .slice a7 l7 c7, .slice a8 l8 c8, .int .i64 k8, .slice a10 l10 c10]) (up := fun _ _ _ hm ⟨b, e, h⟩ => ⟨b, e, h.up hm⟩) rfl Tryz.underlying43 Tryz.size57 Tryz.zero57 rfl rfl rfl rfl rfl) fun v m' h hle hp => by obtain ⟨⟨b, e, hr⟩, hh⟩ := hp; exact ⟨⟨b, k8, a10, l10, c10, e, hr, Nd.up CoV.up hn hle⟩, hh⟩) ?_
              refine drx_done (k := 9) (oe := rdO (rdNode d' (rdWords [97, 116] 1 st).2).2) Tryz.mixed rfl rfl rfl rfl rfl fun m5 hm_m5 v8 h8 v7 h7 v6 h6 => ?_
              show WL _ _ _ _ _ _ _ _ _
              obtain ⟨b81, k8, a10, l10, c10, rfl, hr8, hn8⟩ := h8
              refine wl_append (s := 9) (cells := cs) (news := [.slice a9 l9 c9, .bool n5, .slice a5 l5 c5, .slice a6 l6 c6, .bool n7, .slice a7 l7 c7, .slice a8 l8 c8, .int .i64 k8, .slice a10 l10 c10]) rfl rfl rfl Tryz.underlying43 Tryz.underlying43 Tryz.size57 Tryz.bytes57 Tryz.zero57 rfl (by omega) rfl hown (show List.Perm ([_, _, _, _] ++ _) _ from List.perm_append_comm) rfl rfl (.inr ⟨_, 0, rfl, hr8.heap⟩) (by simp [Value.oneCell']) (by rw [hown.len]; show (_ + 9) * _ ≤ _; omega) (by rw [hown.len]; show _ + 9 ≤ _; omega) ?_; intro lv' Hs' hown'; obtain ⟨a', l', c', rfl⟩ := hown'.slice; obtain rfl : l' = ds.length + 1 := (by have := hown'.len; have h2 := hown.len; rw [List.length_append, h2] at this; simp at this; omega); refine wl_perm List.perm_append_comm ?_
              refine wv (x_fieldAddr Tryz.underlying45 rfl Tryz.size43 rfl) ?_
              refine wl_front2 ?_
              refine wl_store rfl Tryz.size43 rfl rfl rfl (by simp) ?_
              refine wl_nil ?_
              refine at_block_normal ?_
              refine at_perm (.cons _ perm3') ?_
              refine at_perm (.swap _ _ _) ?_
              refine at_drop1 ?_
              have hmm := hm34.trans hm_m5
              have hN9 : (toTr [(co, (rdNode d' (rdWords [97, 116] 1 st).2).1)] (.nil kind)).Rep CoV m5 [.slice a9 l9 c9, .bool n5, .slice a5 l5 c5, .slice a6 l6 c6, .bool n7, .slice a7 l7 c7, .slice a8 l8 c8, .int .i64 k8, .slice a10 l10 c10] := by
                obtain ⟨ad', cap', ws', e', h5', h6', h7'⟩ := hn8
                injection e' with e'
                simp only [Array.mk.injEq, List.cons.injEq, Value.int.injEq, Value.slice.injEq, and_true, true_and] at e'
                obtain ⟨rfl, rfl, rfl, rfl⟩ := e'
                exact ⟨_, _, _, _, _, _, _, _, _, ws', [], rfl, by simp [Value.oneCell'], ⟨_, _, _, _, _, _, _, rfl, hc2.up hm_m5, hc3.up hm_m5, hc4.up hm_m5, _, hhdl, hco⟩, h5', h6', h7', rfl⟩
              exact at_again r' [(0, .pointer (some ⟨b, 0, none⟩)), (1, .int .i64 d), (4, .pointer (some ⟨b4, 0, none⟩)), (5, .pointer (some ⟨b5, 0, none⟩)), (6, .int .i64 cnt)] (by omega) ⟨a', c', ds ++ [(co, (rdNode d' (rdWords [97, 116] 1 st).2).1)], cs ++ [.slice a9 l9 c9, .bool n5, .slice a5 l5 c5, .slice a6 l6 c6, .bool n7, .slice a7 l7 c7, .slice a8 l8 c8, .int .i64 k8, .slice a10 l10 c10], (rdNode d' (rdWords [97, 116] 1 st).2).2, Hs', hm2.trans hmm, by simp; omega, by rw [toTr_snoc]; rw [hsub] at hrd ⊢; exact hrd, by simp; omega, rep_snoc hN9 (Tr.Rep.up CoV.up hmm hrep), by rw [List.length_append]; exact hown', fun h0 => by omega, by rw [List.length_append]; rfl, rfl⟩ (by repeat' (first | exact trivial | exact rfl | exact lk_int rfl (by omega) | apply And.intro))
          · skip
            obtain rfl : r = 0 := by omega
            rw [show rdCells (rdSub d) kind 0 st = (.nil kind, st) from rfl] at hrd
            refine w_seq ?_
            refine wsr ?_
            refine wmv ?_
            refine wv (x_nilCheck rfl) ?_
            refine wv (x_fieldAddr Tryz.underlying128 rfl Tryz.size4 rfl) ?_
            refine wv (x_load Tryz.plain4 rfl (rowH1 (.tail _ (.tail _ (.head _))) rfl)) ?_
            refine wv ((x_move rfl).as (congrArg Value.bool hs2)) ?_
            refine wv (x_fieldAddr Tryz.underlying45 rfl Tryz.size43 rfl) ?_
            refine wv (x_load Tryz.plain43 rfl (rowH1 (.head _) rfl)) ?_
            refine wv (x_len Tryz.underlying43 rfl rfl) ?_
            refine wmv ?_
            refine wv ((x_lss rfl rfl).as (bool_f hlt)) ?_
            refine wv (x_pick_t rfl rfl) ?_
            refine wns ?_
            refine w_false rfl ?_
            refine w_exit ?_
            refine at_then_exit ?_
            refine at_then_exit ?_
            refine at_block_hit ?_
            exact at_meets [(4, .pointer (some ⟨b4, 0, none⟩)), (5, .pointer (some ⟨b5, 0, none⟩))] ⟨a, c, ds, cs, st, Hs, hm2, hrd, hrep, hown, .refl _, rfl⟩ (by repeat' (first | exact trivial | exact rfl | exact lk_int rfl (by omega) | apply And.intro))
      · skip
        rintro m2 H' env' ⟨a, c, ds, cs, st, Hs, hm2, hrd, hrep, hown, hperm, rfl⟩
        rw [hrd]
        refine w_perm hperm ?_
        clear hperm
        rcases own_cases hown with ⟨rfl, h6, rfl, h7, rfl⟩ | ⟨b6, junk, rfl, hlc, hcl5, rfl⟩
        · skip
          unfold zN
          refine wsr ?_
          refine wv (x_loads Tryz.agg45 (by exact Tryz.size45) rfl (rowH0 (.head _))) ?_
          refine wl_front1 ?_
          refine wl_storeAll rfl (by exact Tryz.size45) rfl rfl (by simp [Value.oneCell']) rfl ?_
          refine wns ?_
          refine w_ret ?_
          refine at_endx (x := (b, rdO st)) (by first | exact .head _ | exact .tail _ (.head _) | exact .tail _ (.tail _ (.head _)) | exact .tail _ (.tail _ (.tail _ (.head _))) | exact .tail _ (.tail _ (.tail _ (.tail _ (.head _))))) (resA rfl ⟨⟨_, _, _, rfl, rowH0 (.head _), .inr ⟨Tryz.agg45, Tryz.size45, rfl⟩⟩, trivial⟩) ?_
          refine ⟨⟨⟨_, _, _, _, rfl⟩, none, 0, cs, by show _ = _; rw [toTr_kind, toTr_len]; rfl, by rw [toTr_len]; show ds.length + 0 ≤ 0; omega, hrep, fun h => absurd h (by rw [toTr_len]; show ¬ 0 < ds.length + 0; omega)⟩, rfl⟩
        · skip
          unfold zN
          refine wsr ?_
          refine wv (x_loads Tryz.agg45 (by exact Tryz.size45) rfl (rowH0 (.head _))) ?_
          refine wl_front1 ?_
          refine wl_storeAll rfl (by exact Tryz.size45) rfl rfl (by simp [Value.oneCell']) rfl ?_
          refine wns ?_
          refine w_ret ?_
          refine at_perm (List.perm_append_comm (l₁ := [_, _, _]) (l₂ := [_])) ?_
          refine at_freeze ?_; intro hfz
          refine at_endx (x := (b, rdO st)) (by first | exact .head _ | exact .tail _ (.head _) | exact .tail _ (.tail _ (.head _)) | exact .tail _ (.tail _ (.tail _ (.head _))) | exact .tail _ (.tail _ (.tail _ (.tail _ (.head _))))) (resA rfl ⟨⟨_, _, _, rfl, rowH0 (.head _), .inr ⟨Tryz.agg45, Tryz.size45, rfl⟩⟩, trivial⟩) ?_
          refine ⟨⟨⟨_, _, _, _, rfl⟩, some ⟨b6, 0, none⟩, c, cs, by show _ = _; rw [toTr_kind, toTr_len]; rfl, by rw [toTr_len]; exact hlc, Tr.Rep.up CoV.up hfz hrep, fun _ => ⟨b6, 0, rfl, rowM (Mem.add_at _ _ _) fun i hi => by rw [Nat.zero_add]; simp [List.getElem?_append_left hi]⟩⟩, rfl⟩
theorem rnode_ok : ∀ d, d ≤ 1000 → RnOk d := by
  intro d
  induction d using Nat.strongRecOn with
  | _ d ihd => exact fun hd => rnode_step hd fun d' h => ihd d' h (by omega)
end Go.Cy


/- certificate.Valid, Format. -/
namespace Go.Cy
open Go Go.Proofs
set_option maxRecDepth 20000

structure Cer (α β : Type) where
  verdict : Bool
  first : Int
  lists : List (List β)
  facts : List Fct
  tree : Tr α
namespace Cer
variable {α β : Type}
def okB (c : Cer α β) : Bool := decide (1 ≤ c.first) && decide (c.first ≤ 5) && decide (c.lists.length ≤ 4) && (c.facts.all fun f => f.powers.all pwOk) && c.tree.ok 4
def headB (c : Cer α β) : List UInt8 := ([99, 101, 114, 116, 105, 102, 105, 99, 97, 116, 101] ++ spaced [boolB c.verdict]) ++ 32 :: itB c.first ++ [10]
def text (txt : α → List UInt8) (ptxt : β → List UInt8) (c : Cer α β) : List UInt8 := (((c.headB ++ listsB ptxt c.lists) ++ factsB c.facts) ++ c.tree.text txt) ++ [101, 110, 100] ++ [10]
def Rep (C : Mem → Value → α → Prop) (D : Mem → Value → β → Prop) (m : Mem) (v : Value) (c : Cer α β) : Prop :=
  ∃ lv fv ad cap, v = .agg #[.bool c.verdict, .int .i64 c.first, lv, fv, .int .i64 c.tree.kind, .slice ad c.tree.len cap] ∧ Sl 1 (One (Sl 1 (One D))) m lv c.lists ∧ Sl 5 FcC m fv c.facts ∧ Nd C m (.agg #[.int .i64 c.tree.kind, .slice ad c.tree.len cap]) c.tree
structure Small (txt : α → List UInt8) (ptxt : β → List UInt8) (c : Cer α β) : Prop where
  lists : c.lists.length ≤ 35184372088832
  list : ∀ l ∈ c.lists, l.length ≤ 35184372088832
  facts : c.facts.length ≤ 35184372088832
  fact : ∀ f ∈ c.facts, f.powers.length ≤ 35184372088832 ∧ dlen f.scale.natAbs ≤ 1000000000000 ∧ dlen f.unit.natAbs ≤ 1000000000000
  tree : c.tree.size ≤ 35184372088832
  text : (c.text txt ptxt).length ≤ 35184372088832
theorem not_ok {c : Cer α β} {i j : Nat} (hi : i < c.facts.length) (hj : j < c.facts[i].powers.length) (h : pwOk c.facts[i].powers[j] = false) : c.okB = false := by
  have : (c.facts.all fun f => f.powers.all pwOk) = false := by
    rw [List.all_eq_false]
    refine ⟨c.facts[i], List.getElem_mem hi, ?_⟩
    rw [Bool.not_eq_true, List.all_eq_false]
    exact ⟨_, List.getElem_mem hj, by rw [h]; simp⟩
  simp [okB, this]
end Cer

theorem Valid_ok {α β : Type} {C : Mem → Value → α → Prop} {D : Mem → Value → β → Prop} (hC : ∀ m m' v a, m.le m' → C m v a → C m' v a) {m : Mem} {v : Value} {c : Cer α β} (hv : c.Rep C D m v) (h1 : c.facts.length ≤ 35184372088832) (h2 : ∀ f ∈ c.facts, f.powers.length ≤ 35184372088832) (h3 : c.tree.size ≤ 35184372088832) :
    Pure Tryz.prog 28 #[v] m fun r _ => r = .bool c.okB := by
  obtain ⟨lv, fv, ad, cap, rfl, hl, hf, hn⟩ := hv
  obtain ⟨lad, lcap, rfl⟩ := hl.slice
  obtain ⟨fad, fcap, rfl⟩ := hf.slice
  refine enterp Tryz.func28 rfl rfl ?_
  intro K hm0 hks
  refine wsr ?_
  refine wl_box rfl rfl rfl rfl ?_; intro b1
  refine was ?_
  refine wns ?_
  refine w_seq ?_
  refine wsr ?_
  refine wv (x_fieldAddr Tryz.underlying61 rfl Tryz.size3 rfl) ?_
  refine wv (x_load Tryz.plain3 rfl (rowH1 (.head _) rfl)) ?_
  refine wv (x_lss rfl rfl) ?_
  refine wmv ?_
  refine wl_splitp (t := 10) rfl (fun h4 => ?_) (fun h4 => ?_)
  · skip
    refine wl_off rfl rfl rfl ?_
    refine wl_off rfl rfl rfl ?_
    refine wl_off rfl rfl rfl ?_
    refine wv (x_pick_t rfl rfl) ?_
    refine wmv ?_
    refine wl_off rfl rfl rfl ?_
    refine wl_off rfl rfl rfl ?_
    refine wl_off rfl rfl rfl ?_
    refine wl_off rfl rfl rfl ?_
    refine wv (x_pick_t rfl rfl) ?_
    refine wns ?_
    refine w_true rfl ?_
    refine wsr ?_
    refine was ?_
    refine wns ?_
    refine w_ret ?_
    refine at_then_ret ?_
    refine at_endp (res1 rfl rfl) ?_
    have : ¬ 1 ≤ c.first := by omega
    simp [Cer.okB, this]
  · skip
    refine wv (x_fieldAddr Tryz.underlying61 rfl Tryz.size3 rfl) ?_
    refine wv (x_load Tryz.plain3 rfl (rowH1 (.head _) rfl)) ?_
    refine wv (x_gtr rfl rfl) ?_
    refine wv (x_pick_f rfl rfl) ?_
    refine wmv ?_
    refine wl_splitp (t := 15) rfl (fun h5 => ?_) (fun h5 => ?_)
    · skip
      refine wl_off rfl rfl rfl ?_
      refine wl_off rfl rfl rfl ?_
      refine wl_off rfl rfl rfl ?_
      refine wl_off rfl rfl rfl ?_
      refine wv (x_pick_t rfl rfl) ?_
      refine wns ?_
      refine w_true rfl ?_
      refine wsr ?_
      refine was ?_
      refine wns ?_
      refine w_ret ?_
      refine at_then_ret ?_
      refine at_endp (res1 rfl rfl) ?_
      have : ¬ c.first ≤ 5 := by omega
      simp [Cer.okB, this]
    · skip
      refine wv (x_fieldAddr Tryz.underlying61 rfl Tryz.size58 rfl) ?_
      refine wv (x_load Tryz.plain58 rfl (rowH1 (.head _) rfl)) ?_
      refine wv (x_len Tryz.underlying58 rfl rfl) ?_
      refine wv (x_gtr rfl rfl) ?_
      refine wv (x_pick_f rfl rfl) ?_
      refine wns ?_
      refine w_if rfl (fun h6 => ?_) (fun h6 => ?_)
      · skip
        refine wsr ?_
        refine was ?_
        refine wns ?_
        refine w_ret ?_
        refine at_then_ret ?_
        refine at_endp (res1 rfl rfl) ?_
        have : ¬ c.lists.length ≤ 4 := by omega
        simp [Cer.okB, this]
      · skip
        have e1 : 1 ≤ c.first := by omega
        have e2 : c.first ≤ 5 := by omega
        have e3 : c.lists.length ≤ 4 := by omega
        refine w_skip ?_
        refine at_seq ?_
        refine w_seq ?_
        refine wsr ?_
        refine wv (x_fieldAddr Tryz.underlying61 rfl Tryz.size59 rfl) ?_
        refine wv (x_load Tryz.plain59 rfl (rowH1 (.head _) rfl)) ?_
        refine wv (x_len Tryz.underlying59 rfl rfl) ?_
        refine wmv ?_
        refine wns ?_
        refine w_block ?_
        refine w_loop (fun r m' H' env' => ∃ i, m.le m' ∧ r + i = c.facts.length ∧ (∀ i' (h : i' < c.facts.length), i' < i → (c.facts[i'].powers.all pwOk) = true) ∧ H' = [(b1, cl 61 [.bool c.verdict, .int .i64 c.first, (.slice lad c.lists.length lcap), (.slice fad c.facts.length fcap), .int .i64 c.tree.kind, .slice ad c.tree.len cap])] ∧ env' = [(1, .pointer (some ⟨b1, 0, none⟩)), (2, .bool false), (22, .slice fad c.facts.length fcap), (23, .int .i64 c.facts.length), (24, .int .i64 (i : Nat))]) c.facts.length [(1, .pointer (some ⟨b1, 0, none⟩)), (2, .bool false), (22, .slice fad c.facts.length fcap), (23, .int .i64 c.facts.length), (24, .int .i64 (0 : Nat))] ⟨0, Mem.le.refl _, rfl, fun i' _ h => absurd h (Nat.not_lt_zero _), rfl, rfl⟩ (by repeat' (first | exact trivial | exact rfl | exact lk_int rfl (by omega) | apply And.intro)) ?_
        rintro r m1 H' env' ⟨i, hm1, hri, hok, rfl, rfl⟩
        refine wsr ?_
        refine wv (x_lss rfl rfl) ?_
        refine wns ?_
        refine w_seq ?_
        refine w_if rfl (fun h7 => ?_) (fun h7 => ?_)
        · skip
          have hi : i < c.facts.length := by omega
          obtain ⟨bl, ol, vs, rfl, hvl, ⟨n1, s1, n2, s2, pw, rfl, hI1, hI2, hpw⟩, hrow⟩ := hf.get hi
          obtain ⟨sa1, sl1, sc1, rfl⟩ := hI1.slice
          obtain ⟨sa2, sl2, sc2, rfl⟩ := hI2.slice
          obtain ⟨ad', cap', rfl⟩ := hpw.slice
          have hli := h2 _ (List.getElem_mem hi)
          refine w_skip ?_
          refine at_seq ?_
          refine w_seq ?_
          refine w_block ?_
          refine wsr ?_
          refine wv (x_index Tryz.underlying59 Tryz.size135 rfl rfl (j := i) (by omega) (by omega)) ?_
          refine wv (x_loads Tryz.agg135 (by exact Tryz.size135) rfl (((hrow.up hm1).heap))) ?_
          refine wl_alloc rfl rfl Tryz.zero135 ?_; intro b4
          refine wl_storeAll rfl (by exact Tryz.size135) rfl rfl (by simp [Value.oneCell']) rfl ?_
          refine wnr ?_
          refine wv (x_fieldAddr Tryz.underlying135 rfl Tryz.size133 rfl) ?_
          refine wv (x_load Tryz.plain133 rfl (rowH1 (.head _) rfl)) ?_
          refine wv (x_len Tryz.underlying133 rfl rfl) ?_
          refine wmv ?_
          refine wns ?_
          refine w_block ?_
          refine w_drop1 ?_
          refine w_loop (fun r m' H' env' => ∃ j, m.le m' ∧ r + j = c.facts[i].powers.length ∧ (∀ j' (h : j' < c.facts[i].powers.length), j' < j → pwOk c.facts[i].powers[j'] = true) ∧ H' = [(b1, cl 61 [.bool c.verdict, .int .i64 c.first, (.slice lad c.lists.length lcap), (.slice (some ⟨bl, ol, none⟩) c.facts.length fcap), .int .i64 c.tree.kind, .slice ad c.tree.len cap])] ∧ env' = [(1, .pointer (some ⟨b1, 0, none⟩)), (2, .bool false), (22, .slice (some ⟨bl, ol, none⟩) c.facts.length fcap), (23, .int .i64 c.facts.length), (24, .int .i64 (i : Nat)), (29, .slice ad' c.facts[i].powers.length cap'), (30, .int .i64 c.facts[i].powers.length), (31, .int .i64 (j : Nat))]) c.facts[i].powers.length [(1, .pointer (some ⟨b1, 0, none⟩)), (2, .bool false), (22, .slice (some ⟨bl, ol, none⟩) c.facts.length fcap), (23, .int .i64 c.facts.length), (24, .int .i64 (i : Nat)), (29, .slice ad' c.facts[i].powers.length cap'), (30, .int .i64 c.facts[i].powers.length), (31, .int .i64 (0 : Nat))] ⟨0, hm1, rfl, fun j' _ h => absurd h (Nat.not_lt_zero _), rfl, rfl⟩ (by repeat' (first | exact trivial | exact rfl | exact lk_int rfl (by omega) | apply And.intro)) ?_
          rintro r2 m2 H' env' ⟨j, hm2, hrj, hokj, rfl, rfl⟩
          refine wsr ?_
          refine wv (x_lss rfl rfl) ?_
          refine wns ?_
          refine w_seq ?_
          refine w_if rfl (fun h8 => ?_) (fun h8 => ?_)
          · skip
            have hj : j < c.facts[i].powers.length := by omega
            obtain ⟨bq, oq, vs', rfl, hvl', hpe, hrow'⟩ := hpw.get hj
            generalize hpp : c.facts[i].powers[j] = p at hpe
            obtain rfl := hpe
            refine w_skip ?_
            refine at_seq ?_
            refine w_seq ?_
            refine w_block ?_
            refine wsr ?_
            refine wv (x_index Tryz.underlying133 Tryz.size139 rfl rfl (j := j) (by omega) (by omega)) ?_
            refine wv (x_loads Tryz.agg139 (by exact Tryz.size139) rfl (((hrow'.up hm2).heap))) ?_
            refine wl_alloc rfl rfl Tryz.zero139 ?_; intro b6
            refine wl_storeAll rfl (by exact Tryz.size139) rfl rfl (by simp [Value.oneCell']) rfl ?_
            refine wnr ?_
            refine wv (x_fieldAddr Tryz.underlying139 rfl Tryz.size3 rfl) ?_
            refine wv (x_load Tryz.plain3 rfl (rowH1 (.head _) rfl)) ?_
            refine wv (x_lss rfl rfl) ?_
            refine wmv ?_
            refine wl_splitp (t := 38) rfl (fun h9 => ?_) (fun h9 => ?_)
            · skip
              refine wl_off rfl rfl rfl ?_
              refine wl_off rfl rfl rfl ?_
              refine wl_off rfl rfl rfl ?_
              refine wv (x_pick_t rfl rfl) ?_
              refine wmv ?_
              refine wl_off rfl rfl rfl ?_
              refine wl_off rfl rfl rfl ?_
              refine wl_off rfl rfl rfl ?_
              refine wv (x_pick_t rfl rfl) ?_
              refine wmv ?_
              refine wl_off rfl rfl rfl ?_
              refine wl_off rfl rfl rfl ?_
              refine wl_off rfl rfl rfl ?_
              refine wv (x_pick_t rfl rfl) ?_
              refine wmv ?_
              refine wl_off rfl rfl rfl ?_
              refine wl_off rfl rfl rfl ?_
              refine wl_off rfl rfl rfl ?_
              refine wv (x_pick_t rfl rfl) ?_
              refine wmv ?_
              refine wl_off rfl rfl rfl ?_
              refine wl_off rfl rfl rfl ?_
              refine wl_off rfl rfl rfl ?_
              refine wv (x_pick_t rfl rfl) ?_
              refine wns ?_
              refine w_true rfl ?_
              refine wsr ?_
              refine was ?_
              refine wns ?_
              refine w_ret ?_
              refine at_block_ret ?_
              refine at_then_ret ?_
              refine at_then_ret ?_
              refine at_block_ret ?_
              refine at_block_ret ?_
              refine at_then_ret ?_
              refine at_then_ret ?_
              refine at_block_ret ?_
              refine at_then_ret ?_
              refine at_endp (res1 rfl rfl) ?_
              exact congrArg Value.bool (Cer.not_ok hi hj (by rw [hpp]; simp [pwOk]; omega)).symm
            · skip
              refine wv (x_fieldAddr Tryz.underlying139 rfl Tryz.size3 rfl) ?_
              refine wv (x_load Tryz.plain3 rfl (rowH1 (.head _) rfl)) ?_
              refine wv (x_gtr rfl rfl) ?_
              refine wv (x_pick_f rfl rfl) ?_
              refine wmv ?_
              refine wl_splitp (t := 43) rfl (fun h10 => ?_) (fun h10 => ?_)
              · skip
                refine wl_off rfl rfl rfl ?_
                refine wl_off rfl rfl rfl ?_
                refine wl_off rfl rfl rfl ?_
                refine wv (x_pick_t rfl rfl) ?_
                refine wmv ?_
                refine wl_off rfl rfl rfl ?_
                refine wl_off rfl rfl rfl ?_
                refine wl_off rfl rfl rfl ?_
                refine wv (x_pick_t rfl rfl) ?_
                refine wmv ?_
                refine wl_off rfl rfl rfl ?_
                refine wl_off rfl rfl rfl ?_
                refine wl_off rfl rfl rfl ?_
                refine wv (x_pick_t rfl rfl) ?_
                refine wmv ?_
                refine wl_off rfl rfl rfl ?_
                refine wl_off rfl rfl rfl ?_
                refine wl_off rfl rfl rfl ?_
                refine wv (x_pick_t rfl rfl) ?_
                refine wns ?_
                refine w_true rfl ?_
                refine wsr ?_
                refine was ?_
                refine wns ?_
                refine w_ret ?_
                refine at_block_ret ?_
                refine at_then_ret ?_
                refine at_then_ret ?_
                refine at_block_ret ?_
                refine at_block_ret ?_
                refine at_then_ret ?_
                refine at_then_ret ?_
                refine at_block_ret ?_
                refine at_then_ret ?_
                refine at_endp (res1 rfl rfl) ?_
                exact congrArg Value.bool (Cer.not_ok hi hj (by rw [hpp]; simp [pwOk]; omega)).symm
              · skip
                refine wv (x_fieldAddr Tryz.underlying139 rfl Tryz.size3 rfl) ?_
                refine wv (x_load Tryz.plain3 rfl (rowH1 (.head _) rfl)) ?_
                refine wv (x_lss rfl rfl) ?_
                refine wv (x_pick_f rfl rfl) ?_
                refine wmv ?_
                refine wl_splitp (t := 48) rfl (fun h11 => ?_) (fun h11 => ?_)
                · skip
                  refine wl_off rfl rfl rfl ?_
                  refine wl_off rfl rfl rfl ?_
                  refine wl_off rfl rfl rfl ?_
                  refine wv (x_pick_t rfl rfl) ?_
                  refine wmv ?_
                  refine wl_off rfl rfl rfl ?_
                  refine wl_off rfl rfl rfl ?_
                  refine wl_off rfl rfl rfl ?_
                  refine wv (x_pick_t rfl rfl) ?_
                  refine wmv ?_
                  refine wl_off rfl rfl rfl ?_
                  refine wl_off rfl rfl rfl ?_
                  refine wl_off rfl rfl rfl ?_
                  refine wv (x_pick_t rfl rfl) ?_
                  refine wns ?_
                  refine w_true rfl ?_
                  refine wsr ?_
                  refine was ?_
                  refine wns ?_
                  refine w_ret ?_
                  refine at_block_ret ?_
                  refine at_then_ret ?_
                  refine at_then_ret ?_
                  refine at_block_ret ?_
                  refine at_block_ret ?_
                  refine at_then_ret ?_
                  refine at_then_ret ?_
                  refine at_block_ret ?_
                  refine at_then_ret ?_
                  refine at_endp (res1 rfl rfl) ?_
                  exact congrArg Value.bool (Cer.not_ok hi hj (by rw [hpp]; simp [pwOk]; omega)).symm
                · skip
                  refine wv (x_fieldAddr Tryz.underlying139 rfl Tryz.size3 rfl) ?_
                  refine wv (x_load Tryz.plain3 rfl (rowH1 (.head _) rfl)) ?_
                  refine wv (x_gtr rfl rfl) ?_
                  refine wv (x_pick_f rfl rfl) ?_
                  refine wmv ?_
                  refine wl_splitp (t := 53) rfl (fun h12 => ?_) (fun h12 => ?_)
                  · skip
                    refine wl_off rfl rfl rfl ?_
                    refine wl_off rfl rfl rfl ?_
                    refine wl_off rfl rfl rfl ?_
                    refine wv (x_pick_t rfl rfl) ?_
                    refine wmv ?_
                    refine wl_off rfl rfl rfl ?_
                    refine wl_off rfl rfl rfl ?_
                    refine wl_off rfl rfl rfl ?_
                    refine wv (x_pick_t rfl rfl) ?_
                    refine wns ?_
                    refine w_true rfl ?_
                    refine wsr ?_
                    refine was ?_
                    refine wns ?_
                    refine w_ret ?_
                    refine at_block_ret ?_
                    refine at_then_ret ?_
                    refine at_then_ret ?_
                    refine at_block_ret ?_
                    refine at_block_ret ?_
                    refine at_then_ret ?_
                    refine at_then_ret ?_
                    refine at_block_ret ?_
                    refine at_then_ret ?_
                    refine at_endp (res1 rfl rfl) ?_
                    exact congrArg Value.bool (Cer.not_ok hi hj (by rw [hpp]; simp [pwOk]; omega)).symm
                  · skip
                    refine wv (x_fieldAddr Tryz.underlying139 rfl Tryz.size3 rfl) ?_
                    refine wv (x_load Tryz.plain3 rfl (rowH1 (.head _) rfl)) ?_
                    refine wv (x_lss rfl rfl) ?_
                    refine wv (x_pick_f rfl rfl) ?_
                    refine wmv ?_
                    refine wl_splitp (t := 58) rfl (fun h13 => ?_) (fun h13 => ?_)
                    · skip
                      refine wl_off rfl rfl rfl ?_
                      refine wl_off rfl rfl rfl ?_
                      refine wl_off rfl rfl rfl ?_
                      refine wv (x_pick_t rfl rfl) ?_
                      refine wns ?_
                      refine w_true rfl ?_
                      refine wsr ?_
                      refine was ?_
                      refine wns ?_
                      refine w_ret ?_
                      refine at_block_ret ?_
                      refine at_then_ret ?_
                      refine at_then_ret ?_
                      refine at_block_ret ?_
                      refine at_block_ret ?_
                      refine at_then_ret ?_
                      refine at_then_ret ?_
                      refine at_block_ret ?_
                      refine at_then_ret ?_
                      refine at_endp (res1 rfl rfl) ?_
                      exact congrArg Value.bool (Cer.not_ok hi hj (by rw [hpp]; simp [pwOk]; omega)).symm
                    · skip
                      refine wv (x_fieldAddr Tryz.underlying139 rfl Tryz.size3 rfl) ?_
                      refine wv (x_load Tryz.plain3 rfl (rowH1 (.head _) rfl)) ?_
                      refine wv (x_gtr rfl rfl) ?_
                      refine wv (x_pick_f rfl rfl) ?_
                      refine wns ?_
                      refine w_if rfl (fun h14 => ?_) (fun h14 => ?_)
                      · skip
                        refine wsr ?_
                        refine was ?_
                        refine wns ?_
                        refine w_ret ?_
                        refine at_block_ret ?_
                        refine at_then_ret ?_
                        refine at_then_ret ?_
                        refine at_block_ret ?_
                        refine at_block_ret ?_
                        refine at_then_ret ?_
                        refine at_then_ret ?_
                        refine at_block_ret ?_
                        refine at_then_ret ?_
                        refine at_endp (res1 rfl rfl) ?_
                        exact congrArg Value.bool (Cer.not_ok hi hj (by rw [hpp]; simp [pwOk]; omega)).symm
                      · skip
                        have hp : pwOk p = true := by simp [pwOk]; omega
                        refine w_skip ?_
                        refine at_block_normal ?_
                        refine at_seq ?_
                        refine w_region ?_
                        refine wv (x_add rfl rfl (wrap_i64 (by omega) (by omega))) ?_
                        refine wmv ?_
                        refine wl_nil ?_
                        refine at_drop1 ?_
                        exact at_again (r2 - 1) [(1, .pointer (some ⟨b1, 0, none⟩)), (2, .bool false), (22, .slice (some ⟨bl, ol, none⟩) c.facts.length fcap), (23, .int .i64 c.facts.length), (24, .int .i64 (i : Nat)), (29, .slice (some ⟨bq, oq, none⟩) c.facts[i].powers.length cap'), (30, .int .i64 c.facts[i].powers.length), (31, .int .i64 (j + 1 : Nat))] (by omega) ⟨j + 1, hm2, by omega, fun j' h' hj' => (Decidable.em (j' = j)).elim (fun e => by subst e; rw [hpp]; exact hp) (fun e => hokj j' h' (by omega)), rfl, rfl⟩ (by repeat' (first | exact trivial | exact rfl | exact lk_int rfl (by omega) | apply And.intro))
          · skip
            obtain rfl : j = c.facts[i].powers.length := by omega
            have ha : (c.facts[i].powers.all pwOk) = true := by
              rw [List.all_eq_true]
              intro p hp
              obtain ⟨j', hj', rfl⟩ := List.mem_iff_getElem.1 hp
              exact hokj j' hj' hj'
            refine w_exit ?_
            refine at_then_exit ?_
            refine at_then_exit ?_
            refine at_block_hit ?_
            refine at_block_normal ?_
            refine at_seq ?_
            refine w_region ?_
            refine wv (x_add rfl rfl (wrap_i64 (by omega) (by omega))) ?_
            refine wmv ?_
            refine wl_nil ?_
            exact at_again (r - 1) [(1, .pointer (some ⟨b1, 0, none⟩)), (2, .bool false), (22, .slice (some ⟨bl, ol, none⟩) c.facts.length fcap), (23, .int .i64 c.facts.length), (24, .int .i64 (i + 1 : Nat))] (by omega) ⟨i + 1, hm2, by omega, fun i' h' hi' => (Decidable.em (i' = i)).elim (fun e => by subst e; exact ha) (fun e => hok i' h' (by omega)), rfl, rfl⟩ (by repeat' (first | exact trivial | exact rfl | exact lk_int rfl (by omega) | apply And.intro))
        · skip
          obtain rfl : i = c.facts.length := by omega
          have ha : (c.facts.all fun f => f.powers.all pwOk) = true := by
            rw [List.all_eq_true]
            intro f hf'
            obtain ⟨i', hi', rfl⟩ := List.mem_iff_getElem.1 hf'
            exact hok i' hi' hi'
          obtain ⟨ad0, cap0, ws0, e0, g1, g2, g3⟩ := hn
          have hn' : Nd C m1 (.agg #[.int .i64 c.tree.kind, .slice ad c.tree.len cap]) c.tree := ⟨ad0, cap0, ws0, e0, g1, g2.up hC hm1, fun h0 => by obtain ⟨b, o, e, hr⟩ := g3 h0; exact ⟨b, o, e, hr.up hm1⟩⟩
          refine w_exit ?_
          refine at_then_exit ?_
          refine at_then_exit ?_
          refine at_block_hit ?_
          refine at_seq ?_
          refine wsr ?_
          refine wv (x_fieldAddr Tryz.underlying61 rfl Tryz.size45 rfl) ?_
          refine wv (x_loads Tryz.agg45 (by exact Tryz.size45) rfl (rowHs (vs := [_, _]) (.head _) 4 rfl)) ?_
          refine wl_callp rfl rfl rfl Tryz.c82 (validNode_ok hC c.tree _ _ 4 hn' (by omega) h3) ?_; rintro v2 m2 hm2 rfl
          refine was ?_
          refine wns ?_
          refine w_ret ?_
          refine at_endp (res1 rfl rfl) ?_
          simp [Cer.okB, e1, e2, e3, ha]

theorem Cer.textB {α β : Type} (txt : α → List UInt8) (ptxt : β → List UInt8) (c : Cer α β) : (c.text txt ptxt).length = c.headB.length + (listsB ptxt c.lists).length + (factsB c.facts).length + (c.tree.text txt).length + 4 := by
  simp [Cer.text]; omega
theorem Format_ok {α β : Type} {C : Mem → Value → α → Prop} {D : Mem → Value → β → Prop} {txt : α → List UInt8} {ptxt : β → List UInt8} (hC : ∀ m m' v a, m.le m' → C m v a → C m' v a) (hF : ∀ m v a, C m v a → Pure Tryz.prog 130 #[v] m fun r _ => r = .string (B (txt a)))
    (hD : ∀ m m' v a, m.le m' → D m v a → D m' v a) (hG : ∀ m v a, D m v a → Pure Tryz.prog 128 #[v] m fun r _ => r = .string (B (ptxt a))) {m : Mem} {v : Value} {c : Cer α β} (hv : c.Rep C D m v) (hs : c.Small txt ptxt) (hT : Tab Tryz.prog m) :
    Pure Tryz.prog 26 #[v] m fun r _ => r = (if c.okB then (if 1048576 < (c.text txt ptxt).length then .tuple #[.string (B []), .int .i64 8] else .tuple #[.string (B (c.text txt ptxt)), .int .i64 0]) else .tuple #[.string (B []), .int .i64 9]) := by
  have hv' := hv
  obtain ⟨lv, fv, ad, cap, rfl, hl, hf, hn⟩ := hv
  obtain ⟨lad, lcap, rfl⟩ := hl.slice
  obtain ⟨fad, fcap, rfl⟩ := hf.slice
  have htl := hs.text
  rw [Cer.textB] at htl
  have hup := One.up (C := Sl 1 (One D)) fun m m' v a hm h => Sl.up (One.up hD) h hm
  have hNd : ∀ {m'}, m.le m' → Nd C m' (.agg [.int .i64 c.tree.kind, .slice ad c.tree.len cap].toArray) c.tree := by
    intro m' hm
    obtain ⟨ad0, cap0, ws0, e0, g1, g2, g3⟩ := hn
    exact ⟨ad0, cap0, ws0, e0, g1, g2.up hC hm, fun h0 => by obtain ⟨b, o, e, hr⟩ := g3 h0; exact ⟨b, o, e, hr.up hm⟩⟩
  refine enterp Tryz.func26 rfl rfl ?_
  intro K hm0 hks
  refine wsr ?_
  refine wl_box rfl rfl rfl rfl ?_; intro b1
  refine was ?_
  refine was ?_
  refine wns ?_
  refine w_seq ?_
  refine wsr ?_
  refine wv (x_loads Tryz.agg61 (by exact Tryz.size61) rfl (rowH0 (.head _))) ?_
  refine wl_callp rfl rfl rfl Tryz.c28 (Valid_ok hC hv' hs.facts (fun f hf => (hs.fact f hf).1) hs.tree) ?_; rintro v1 m1 hm1 rfl
  refine wv (x_not rfl rfl) ?_
  refine wns ?_
  refine w_cond rfl (fun h1 => ?_) (fun h1 => ?_)
  · skip
    have hok : c.okB = false := by simpa using h1
    refine wsr ?_
    refine was ?_
    refine was ?_
    refine wns ?_
    refine w_ret ?_
    refine at_then_ret ?_
    refine at_endp (res2 rfl rfl rfl) ?_
    rw [hok]; rfl
  · skip
    have hok : c.okB = true := by simpa using h1
    have hob : 1 ≤ c.first ∧ c.first ≤ 5 ∧ ∀ f ∈ c.facts, ∀ p ∈ f.powers, pwOk p = true := by
      simp only [Cer.okB, Bool.and_eq_true, decide_eq_true_eq, List.all_eq_true] at hok
      exact ⟨hok.1.1.1.1, hok.1.1.1.2, hok.1.2⟩
    obtain ⟨hf1, hf2, hpo⟩ := hob
    have hit := itB_len (n := c.first) (by omega) (by omega)
    have hbl : (boolB c.verdict).length ≤ 5 := by unfold boolB; split <;> simp
    have hhl : c.headB.length = 14 + (boolB c.verdict).length + (itB c.first).length := by simp [Cer.headB, spaced_one]; omega
    rw [hhl] at htl
    refine w_skip ?_
    refine at_seq ?_
    refine wsr ?_
    refine wv (x_build (cs := [_, _]) Tryz.underlying117 Tryz.places117 Tryz.zero117 rfl rfl) ?_
    refine wl_box rfl rfl rfl rfl ?_; intro b9
    refine was ?_
    refine wnr ?_
    refine wmv ?_
    refine wl_front1 ?_
    refine wl_calld1 rfl rfl rfl Tryz.c67 (start_ok (s := [99, 101, 114, 116, 105, 102, 105, 99, 97, 116, 101]) bt_writer (Bld.new _ b9) (by simp)) ?_; rintro v2 m2 H2 hm2 ⟨rfl, hB2⟩
    refine wnr ?_
    refine wmv ?_
    refine wv (x_fieldAddr Tryz.underlying61 rfl Tryz.size4 rfl) ?_
    refine wv (x_load Tryz.plain4 rfl (rowH1 (.head _) rfl)) ?_
    refine wl_callp rfl rfl rfl Tryz.c69 (FormatBool_ok) ?_; rintro v3 m3 hm3 rfl
    refine wl_buildSlice rfl rfl Tryz.underlying129 Tryz.size9 Tryz.zero9 rfl rfl rfl rfl rfl ?_; intro b16
    refine wl_callw1 rfl rfl rfl Tryz.c68 (word_ok (ws := [boolB c.verdict]) bt_writer hB2 (by rw [spaced_one]; simp; omega) (by simp)) ?_; rintro v4 m4 H4 hm4 ⟨rfl, hB4⟩
    refine wnr ?_
    refine wmv ?_
    refine wv (x_fieldAddr Tryz.underlying61 rfl Tryz.size3 rfl) ?_
    refine wv (x_load Tryz.plain3 rfl (rowH1 (.head _) rfl)) ?_
    refine wl_calld1 rfl rfl rfl Tryz.c70 (number_ok (n := c.first) bt_writer (hT.up (hm1.trans (hm2.trans (hm3.trans hm4)))) hB4 (by omega) (by omega) (by rw [spaced_one]; simp; omega)) ?_; rintro v5 m5 H5 hm5 ⟨rfl, hB5⟩
    refine wnr ?_
    refine wmv ?_
    refine wl_calld1 rfl rfl rfl Tryz.c71 (wend_ok bt_writer hB5 (by rw [spaced_one]; simp; omega)) ?_; rintro v6 m6 H6 hm6 ⟨rfl, hB6⟩
    refine wnr ?_
    have hm06 := hm1.trans (hm2.trans (hm3.trans (hm4.trans (hm5.trans hm6))))
    replace hB6 : Bld 117 b9 c.headB H6 := by simpa [Cer.headB] using hB6
    refine wmv ?_
    refine wv (x_fieldAddr Tryz.underlying61 rfl Tryz.size58 rfl) ?_
    refine wv (x_load Tryz.plain58 rfl (rowH1 (.head _) rfl)) ?_
    refine wl_calld1 rfl rfl rfl Tryz.c72 (lists_ok hD hG hB6 (hl.up hup hm06) (hT.up hm06) hs.lists hs.list (by omega)) ?_; rintro v7 m7 H7 hm7 ⟨rfl, L7, hW7, hB7⟩
    refine wnr ?_
    have hl7 := hW7.hi
    refine wmv ?_
    refine wv (x_fieldAddr Tryz.underlying61 rfl Tryz.size59 rfl) ?_
    refine wv (x_load Tryz.plain59 rfl (rowH1 (.head _) rfl)) ?_
    refine wl_calld1 rfl rfl rfl Tryz.c73 (factors_ok hB7 (hf.up FcC.up (hm06.trans hm7)) (hT.up (hm06.trans hm7)) hs.facts (fun f hf => ⟨(hs.fact f hf).1, hpo f hf, (hs.fact f hf).2⟩) (by omega)) ?_; rintro v8 m8 H8 hm8 ⟨rfl, L8, hW8, hB8⟩
    refine wnr ?_
    have hl8 := hW8.hi
    refine wmv ?_
    refine wv (x_fieldAddr Tryz.underlying61 rfl Tryz.size45 rfl) ?_
    refine wv (x_loads Tryz.agg45 (by exact Tryz.size45) rfl (rowHs (vs := [_, _]) (.head _) 4 rfl)) ?_
    refine wl_calld1 rfl rfl rfl Tryz.c74 (node_ok hC hF c.tree _ b9 _ _ _ hB8 (hNd (hm06.trans (hm7.trans hm8))) (hT.up (hm06.trans (hm7.trans hm8))) hs.tree (by omega)) ?_; rintro v9 m9 H9 hm9 ⟨rfl, L9, hW9, hB9⟩
    refine wnr ?_
    have hl9 := hW9.hi
    refine wmv ?_
    refine wl_calld1 rfl rfl rfl Tryz.c67 (start_ok (s := [101, 110, 100]) bt_writer hB9 (by simp; omega)) ?_; rintro v10 m10 H10 hm10 ⟨rfl, hB10⟩
    refine wnr ?_
    refine wmv ?_
    refine wl_calld1 rfl rfl rfl Tryz.c71 (wend_ok bt_writer hB10 (by simp; omega)) ?_; rintro v11 m11 H11 hm11 ⟨rfl, hB11⟩
    refine wns ?_
    refine w_seq ?_
    refine wsr ?_
    refine wmv ?_
    refine wl_calld1 rfl rfl rfl Tryz.c75 (full_ok hB11) ?_; rintro v12 m12 H12 hm12 ⟨rfl, rfl⟩
    refine wns ?_
    have hW : Wrote [] (c.text txt ptxt) (L9 ++ [101, 110, 100] ++ [10]) := ((((((Wrote.all [] c.headB).as rfl).trans hW7).trans hW8).trans hW9).app.app).as rfl
    have hhi := hW.hi
    refine w_if rfl (fun h2 => ?_) (fun h2 => ?_)
    · skip
      have : 1048576 < (c.text txt ptxt).length := by simp only [List.length_nil] at hhi; omega
      refine wsr ?_
      refine was ?_
      refine was ?_
      refine wns ?_
      refine w_ret ?_
      refine at_then_ret ?_
      refine at_clear ?_
      refine at_endp (res2 rfl rfl rfl) ?_
      rw [hok, if_pos rfl, if_pos this]; rfl
    · skip
      have he : L9 ++ [101, 110, 100] ++ [10] = c.text txt ptxt := by
        rcases hW.eq with e | e
        · simpa using e
        · exact absurd e h2
      rw [he] at hB11 h2
      refine w_skip ?_
      refine at_seq ?_
      refine wsr ?_
      refine wmv ?_
      refine wv (x_nilCheck rfl) ?_
      refine wv (x_fieldAddr Tryz.underlying117 rfl Tryz.size115 rfl) ?_
      refine wl_calld1 rfl rfl rfl Tryz.c76 (BString_ok hB11 (by simp [Cer.text]) (by have := hs.text; omega)) ?_; rintro v13 m13 H13 hm13 ⟨rfl, rfl⟩
      refine was ?_
      refine was ?_
      refine wns ?_
      refine w_ret ?_
      refine at_endp (res2 rfl rfl rfl) ?_
      rw [hok, if_pos rfl, if_neg h2]
end Go.Cy


/- What the readers read is not much longer than the text. -/
namespace Go.Cy
open Go Go.Proofs
set_option maxRecDepth 20000

def wsum (ws : List (List UInt8)) : Nat := (ws.map fun w => w.length + 1).sum
theorem wsum_cons (w : List UInt8) (ws : List (List UInt8)) : wsum (w :: ws) = w.length + 1 + wsum ws := by simp [wsum]
theorem wsum_len (ws : List (List UInt8)) : ws.length ≤ wsum ws := by
  induction ws with
  | nil => simp [wsum]
  | cons w ws ih => rw [wsum_cons, List.length_cons]; omega
theorem splB_sum (c : UInt8) (l : List UInt8) : wsum (splB c l) = l.length + 1 := by
  induction l with
  | nil => rfl
  | cons b l ih =>
    rw [splB]
    split
    · rw [wsum_cons, ih]; simp; omega
    · rcases h : splB c l with _ | ⟨x, xs⟩
      · exact absurd h (splB_ne c l)
      · rw [h] at ih
        simp only
        rw [wsum_cons] at ih ⊢
        simp; omega
theorem rdLine_sum {F : List UInt8} {s : Rs} (h : (rdLine F s).2.2 = true) : s.2 = true ∧ (rdLine F s).2.1.length + 1 + F.length + wsum (rdLine F s).1 ≤ s.1.length := by
  unfold rdLine at h ⊢
  rcases hc : cutB 10 s.1 with ⟨a, _ | q⟩
  · rw [hc] at h; cases h
  · rw [hc] at h
    simp only at h ⊢
    have h1 := cutB_some hc
    have h1l : s.1.length = a.length + (q.length + 1) := by rw [h1]; simp
    have h2 := splB_sum 32 a
    rcases hs : splB 32 a with _ | ⟨w, ws⟩
    · rw [hs] at h; cases h
    · rw [hs] at h h2
      simp only at h ⊢
      split at h
      · rename_i he
        rw [if_pos he]
        rw [wsum_cons, he.1] at h2
        exact ⟨he.2, by show q.length + 1 + F.length + wsum ws ≤ _; omega⟩
      · cases h
theorem rdWords_sum {F : List UInt8} {n : Nat} {s : Rs} (h : (rdWords F n s).2.2 = true) : s.2 = true ∧ (rdWords F n s).2.1.length + 1 + F.length + wsum (rdWords F n s).1 ≤ s.1.length := by
  unfold rdWords at h ⊢
  split at h
  · rename_i h1
    rw [if_pos h1]
    exact rdLine_sum h1.1
  · cases h
theorem atoi_bd {L : List UInt8} {v : Int} (h : atoi L = some v) : -9223372036854775808 ≤ v ∧ v ≤ 9223372036854775807 := by
  unfold atoi at h
  rcases ha : Lib.atoiAll L with u | _ | _
  · rw [ha] at h
    injection h with h
    subst h
    cases L with
    | nil => cases ha
    | cons c r =>
      unfold Lib.atoiAll at ha
      simp only at ha
      rcases hm : Lib.parseMag (if c.toNat = 43 ∨ c.toNat = 45 then r else c :: r) with w | _ | _
      · rw [hm] at ha
        simp only at ha
        split at ha
        · cases ha
        · split at ha
          · cases ha
          · injection ha with ha
            subst ha
            split <;> omega
      · rw [hm] at ha; cases ha
      · rw [hm] at ha; cases ha
  · rw [ha] at h; cases h
  · rw [ha] at h; cases h
theorem rdNum_bd (L : List UInt8) (s : Rs) : -9223372036854775808 ≤ (rdNum L s).1 ∧ (rdNum L s).1 ≤ 9223372036854775807 := by
  unfold rdNum
  rcases ha : atoi L with _ | v
  · exact ⟨by show (-9223372036854775808 : Int) ≤ 0; omega, by show (0 : Int) ≤ _; omega⟩
  · exact atoi_bd ha
theorem rdNum_ok {L : List UInt8} {s : Rs} (h : (rdNum L s).2.2 = true) : s.2 = true ∧ (rdNum L s).2 = s := by
  unfold rdNum at h ⊢
  rcases ha : atoi L with _ | v
  · rw [ha] at h; cases h
  · rw [ha] at h; exact ⟨h, rfl⟩
theorem rdInt_ok {L : List UInt8} {s : Rs} (h : (rdInt L s).2.2 = true) : s.2 = true ∧ (rdInt L s).2 = s := by
  unfold rdInt at h ⊢
  rcases ha : pInt L with _ | v
  · rw [ha] at h; cases h
  · rw [ha] at h; exact ⟨h, rfl⟩
theorem rdInt_le (L : List UInt8) (s : Rs) : dlen (rdInt L s).1.natAbs ≤ L.length := by
  unfold rdInt
  rcases ha : pInt L with _ | v
  · show dlen (0 : Int).natAbs ≤ _
    rw [show (0 : Int).natAbs = 0 from rfl, dlen_zero]; omega
  · exact pInt_le ha
noncomputable def txtP (ts : List Tm) : List UInt8 := polyB (nrm ts)
theorem pPoly_txt {q : List UInt8} {ts : List Tm} (h : pPoly q = some ts) (hl : q.length ≤ 1048576) : txtP ts = q := by
  have := pPoly_ok h hl
  rw [txtP, nrm_can this.can, this.txt]
theorem pCoord_txt {q : List UInt8} {c : Co} (h : pCoord q = some c) : coB c = q := by
  unfold pCoord at h
  rcases hc : pCo q with _ | c'
  · rw [hc] at h; cases h
  · rw [hc] at h
    simp only at h
    split at h
    · rename_i he
      injection h with h
      rw [← h]; exact he
    · cases h
theorem rdPolys_cat : ∀ {ps : List (List UInt8)} {l : List (List Tm)}, rdPolys ps = some l → (∀ p ∈ ps, p.length ≤ 1048576) → (cat (fun p => 32 :: txtP p) l).length = wsum ps ∧ l.length = ps.length
  | [], l, h, _ => by
    rw [rdPolys] at h; injection h with h; subst h; exact ⟨rfl, rfl⟩
  | p :: ps, l, h, hp => by
    rw [rdPolys] at h
    rcases h1 : pPoly p with _ | t
    · rw [h1] at h; cases h
    · rw [h1] at h
      simp only at h
      rcases h2 : rdPolys ps with _ | l'
      · rw [h2] at h; cases h
      · rw [h2] at h
        simp only [Option.map_some, Option.some.injEq] at h
        subst h
        have ih := rdPolys_cat h2 fun q hq => hp q (List.mem_cons_of_mem _ hq)
        rw [wsum_cons, show t :: l' = [t] ++ l' from rfl, cat_append, cat_one, List.length_append, ih.1, pPoly_txt h1 (hp p (List.mem_cons_self ..))]
        exact ⟨by simp, by simp [ih.2]⟩
theorem rdList_cost {s : Rs} (hl : s.1.length ≤ 1048576) (h : (rdList s).2.2 = true) : s.2 = true ∧ (listB txtP (rdList s).1).length + 65 * (rdList s).2.1.length ≤ 65 * s.1.length := by
  unfold rdList at h ⊢
  have hle := (rdLine_le (F := [108, 105, 115, 116]) (s := s)).2.1
  have hsum := @rdLine_sum [108, 105, 115, 116] s
  obtain ⟨ws, s', hr⟩ : ∃ ws s', rdLine [108, 105, 115, 116] s = (ws, s') := ⟨_, _, rfl⟩
  rw [hr] at h hsum hle ⊢
  simp only at h hsum hle ⊢
  rcases ws with _ | ⟨w, ps⟩
  · cases h
  · simp only at h ⊢
    rcases hp : rdPolys ps with _ | l
    · rw [hp] at h; cases h
    · rw [hp] at h
      simp only at h ⊢
      have hs := hsum h
      have hc := rdPolys_cat hp fun p hp' => Nat.le_trans (hle p (List.mem_cons_of_mem _ hp')) hl
      have hwl := wsum_len ps
      rw [wsum_cons] at hs
      have hi := itB_len (n := l.length) (by omega) (by have := hc.2; omega)
      refine ⟨hs.1, ?_⟩
      simp only [listB, listHd, List.length_append, List.length_cons, List.length_nil, hc.1] at hs ⊢
      omega
theorem pwB_le {p : Int × Int × Int} (h : ∀ x ∈ [p.1, p.2.1, p.2.2], -9223372036854775808 ≤ x ∧ x ≤ 9223372036854775807) : (pwB p).length ≤ 65 := by
  have h1 := itB_len (n := p.1) (h _ (by simp)).1 (h _ (by simp)).2
  have h2 := itB_len (n := p.2.1) (h _ (by simp)).1 (h _ (by simp)).2
  have h3 := itB_len (n := p.2.2) (h _ (by simp)).1 (h _ (by simp)).2
  simp only [pwB, List.length_append, List.length_cons, List.length_nil]
  omega
theorem rdPow_ok {w : List UInt8} {s s' : Rs} {p : Int × Int × Int} (h : rdPow w s = some (p, s')) : (pwB p).length ≤ 65 ∧ 2 ≤ w.length ∧ s'.1 = s.1 ∧ (s'.2 = true → s' = s) := by
  unfold rdPow at h
  rcases hc : cutB 46 w with ⟨lv, _ | q⟩
  · rw [hc] at h; cases h
  · rw [hc] at h
    simp only at h
    rcases hd : cutB 94 q with ⟨ix, _ | ex⟩
    · rw [hd] at h; cases h
    · rw [hd] at h
      simp only at h
      split at h
      · simp only [Option.some.injEq, Prod.mk.injEq] at h
        obtain ⟨rfl, rfl⟩ := h
        have h1 := cutB_some hc
        have h2 := cutB_some hd
        refine ⟨pwB_le fun x hx => ?_, ?_, by rw [rdNum_rest, rdNum_rest, rdNum_rest], fun h3 => ?_⟩
        · simp only [List.mem_cons, List.not_mem_nil, or_false] at hx
          rcases hx with rfl | rfl | rfl
          · exact rdNum_bd _ _
          · exact rdNum_bd _ _
          · exact rdNum_bd _ _
        · rw [h1, h2]; simp; omega
        · have h4 := rdNum_ok h3
          have h5 := rdNum_ok h4.1
          have h6 := rdNum_ok h5.1
          rw [h4.2, h5.2, h6.2]
      · cases h
theorem rdPows_cost : ∀ {ps : List (List UInt8)} {s s' : Rs} {l : List (Int × Int × Int)}, rdPows ps s = some (l, s') → (cat (fun p => 32 :: pwB p) l).length ≤ 65 * wsum ps ∧ l.length = ps.length ∧ s'.1 = s.1 ∧ (s'.2 = true → s' = s)
  | [], s, s', l, h => by
    rw [rdPows] at h
    simp only [Option.some.injEq, Prod.mk.injEq] at h
    obtain ⟨rfl, rfl⟩ := h
    exact ⟨by simp [cat], rfl, rfl, fun _ => rfl⟩
  | w :: ws, s, s', l, h => by
    rw [rdPows] at h
    rcases h1 : rdPow w s with _ | ⟨p, s1⟩
    · rw [h1] at h; cases h
    · rw [h1] at h
      simp only at h
      rcases h2 : rdPows ws s1 with _ | ⟨l', s2⟩
      · rw [h2] at h; cases h
      · rw [h2] at h
        simp only [Option.map_some, Option.some.injEq, Prod.mk.injEq] at h
        obtain ⟨rfl, rfl⟩ := h
        have ih := rdPows_cost h2
        have hp := rdPow_ok h1
        refine ⟨?_, by simp [ih.2.1], ih.2.2.1.trans hp.2.2.1, fun h3 => ?_⟩
        · rw [wsum_cons, show p :: l' = [p] ++ l' from rfl, cat_append, cat_one, List.length_append, List.length_cons]
          have := ih.1
          have := hp.1
          have := hp.2.1
          omega
        · have h4 := ih.2.2.2 h3
          rw [h4] at h3 ⊢
          exact hp.2.2.2 h3
def Fok (n : Nat) (f : Fct) : Prop := f.powers.length ≤ n ∧ dlen f.scale.natAbs ≤ n ∧ dlen f.unit.natAbs ≤ n
theorem rdFact_all (s : Rs) : Fok s.1.length (rdFact s).1 ∧ (rdFact s).2.1.length ≤ s.1.length := by
  have hle := rdLine_le (F := [102, 97, 99, 116, 111, 114]) (s := s)
  unfold rdFact
  obtain ⟨ws, s', hr⟩ : ∃ ws s', rdLine [102, 97, 99, 116, 111, 114] s = (ws, s') := ⟨_, _, rfl⟩
  rw [hr] at hle ⊢
  simp only at hle ⊢
  have hz : Fok s.1.length ⟨0, 0, []⟩ := ⟨Nat.zero_le _, by show dlen (0 : Int).natAbs ≤ _; rw [show (0 : Int).natAbs = 0 from rfl, dlen_zero]; omega, by show dlen (0 : Int).natAbs ≤ _; rw [show (0 : Int).natAbs = 0 from rfl, dlen_zero]; omega⟩
  rcases ws with _ | ⟨w0, _ | ⟨w1, ps⟩⟩
  · exact ⟨hz, hle.1⟩
  · exact ⟨hz, hle.1⟩
  · simp only
    rcases hp : rdPows ps (rdInt w1 (rdInt w0 s').2).2 with _ | ⟨l, s3⟩
    · exact ⟨hz, hle.1⟩
    · have hc := rdPows_cost hp
      have h0 := hle.2.1 w0 (by simp)
      have h1 := hle.2.1 w1 (by simp)
      have h2 := rdInt_le w0 s'
      have h3 := rdInt_le w1 (rdInt w0 s').2
      refine ⟨⟨?_, by show dlen (rdInt w0 s').1.natAbs ≤ _; omega, by show dlen (rdInt w1 (rdInt w0 s').2).1.natAbs ≤ _; omega⟩, ?_⟩
      · show l.length ≤ _
        have := hle.2.2.1
        simp at this
        rw [hc.2.1]; omega
      · show s3.1.length ≤ _
        rw [hc.2.2.1, rdInt_rest, rdInt_rest]; exact hle.1
theorem rdFact_cost {s : Rs} (h : (rdFact s).2.2 = true) : s.2 = true ∧ (factB (rdFact s).1).length + 65 * (rdFact s).2.1.length ≤ 65 * s.1.length := by
  unfold rdFact at h ⊢
  have hsum := @rdLine_sum [102, 97, 99, 116, 111, 114] s
  obtain ⟨ws, s', hr⟩ : ∃ ws s', rdLine [102, 97, 99, 116, 111, 114] s = (ws, s') := ⟨_, _, rfl⟩
  rw [hr] at h hsum ⊢
  simp only at h hsum ⊢
  rcases ws with _ | ⟨w0, _ | ⟨w1, ps⟩⟩
  · cases h
  · cases h
  · simp only at h ⊢
    rcases hp : rdPows ps (rdInt w1 (rdInt w0 s').2).2 with _ | ⟨l, s3⟩
    · rw [hp] at h; cases h
    · rw [hp] at h
      simp only at h ⊢
      have hc := rdPows_cost hp
      have hs3 := hc.2.2.2 h
      rw [hs3] at h
      have h1 := rdInt_ok h
      have h2 := rdInt_ok h1.1
      have hs := hsum h2.1
      rw [wsum_cons, wsum_cons] at hs
      have d1 := decB_len (rdInt w0 s').1
      have d2 := decB_len (rdInt w1 (rdInt w0 s').2).1
      have e1 := rdInt_le w0 s'
      have e2 := rdInt_le w1 (rdInt w0 s').2
      have hs3' : s3.1 = s'.1 := by rw [hc.2.2.1, rdInt_rest, rdInt_rest]
      refine ⟨hs.1, ?_⟩
      rw [hs3']
      have hcl := hc.1
      simp only [factB, factHd, spaced, List.length_append, List.length_cons, List.length_nil, List.map_cons, List.map_nil, List.flatten_cons, List.flatten_nil] at hs ⊢
      omega
end Go.Cy


/- What certificate.Parse reads, as a function; its size. -/
namespace Go.Cy
open Go Go.Proofs
set_option maxRecDepth 20000

theorem rdHead_cost {s : Rs} (h : (rdHead s).2.2.2 = true) : s.2 = true ∧ 26 + 65 * (rdHead s).2.2.1.length ≤ 65 * s.1.length := by
  unfold rdHead at h ⊢
  split at h
  · rename_i h1; rw [h1] at h; cases h
  · rename_i h1
    rw [if_neg h1]
    split at h
    · rename_i h2
      rw [if_pos h2]
      have := rdWords_sum h
      simp only [List.length_cons, List.length_nil] at this ⊢
      exact ⟨this.1, by omega⟩
    · rename_i h2
      rw [if_neg h2]
      split at h
      · rename_i h3
        rw [if_pos h3]
        have := rdWords_sum h
        simp only [List.length_cons, List.length_nil] at this ⊢
        exact ⟨this.1, by omega⟩
      · rename_i h3
        rw [if_neg h3]
        simp only at h ⊢
        have h4 := rdNum_ok h
        rw [h4.2]
        have := rdWords_sum h4.1
        simp only [List.length_cons, List.length_nil] at this ⊢
        exact ⟨this.1, by omega⟩
theorem rdTop_ok {d : Nat} {s : Rs} (h : (rdTop d s).2 = true) : rdTop d s = (rdHead s).2.2 := by
  unfold rdTop at h ⊢
  split at h
  · cases h
  · rename_i h1; rw [if_neg h1]
theorem rdCells_cost {sub : Rs → Tr Co × Rs} (hz : ∀ s, (sub s).2.1.length + (sub s).1.size ≤ s.1.length) (hs : ∀ s, s.1.length ≤ 1048576 → (sub s).2.2 = true → s.2 = true ∧ ((sub s).1.text coB).length + 65 * (sub s).2.1.length ≤ 65 * s.1.length) (kind : Int) : ∀ (k : Nat) (s : Rs), s.1.length ≤ 1048576 → (rdCells sub kind k s).2.2 = true → s.2 = true ∧ ((rdCells sub kind k s).1.cellsB coB).length + 65 * (rdCells sub kind k s).2.1.length ≤ 65 * s.1.length
  | 0, s, _, h => ⟨h, by simp [rdCells, Tr.cellsB]⟩
  | k + 1, s, hl, h => by
    rw [rdCells] at h ⊢
    split at h
    · rename_i h1; rw [h1] at h; cases h
    · rename_i h1
      rw [if_neg h1]
      have hok : s.2 = true := by simpa using h1
      rcases hc : pCoord ((rdWords [97, 116] 1 s).1.headD []) with _ | c
      · rw [hc] at h; cases h
      · rw [hc] at h
        simp only at h ⊢
        have hwle := (rdWords_le [97, 116] 1 s).1
        have hzz := hz (rdWords [97, 116] 1 s).2
        have h2 := rdCells_cost hz hs kind k _ (by omega) h
        have h3 := hs _ (by omega) h2.1
        have h4 := rdWords_sum h3.1
        have hwl := rdWords_len [97, 116] 1 s
        have hw1 : wsum (rdWords [97, 116] 1 s).1 = ((rdWords [97, 116] 1 s).1.headD []).length + 1 := by
          rcases hws : (rdWords [97, 116] 1 s).1 with _ | ⟨w, _ | ⟨w', ws⟩⟩
          · rw [hws] at hwl; simp at hwl
          · simp [wsum]
          · rw [hws] at hwl; simp at hwl
        refine ⟨hok, ?_⟩
        rw [hw1] at h4
        have h5 := pCoord_txt hc
        simp only [Tr.cellsB, List.length_append, List.length_cons, List.length_nil, h5] at h4 ⊢
        have h6 := h3.2
        rw [Tr.text, List.length_append] at h6
        omega
theorem rdTree_cost {sub : Rs → Tr Co × Rs} {d : Nat} {s : Rs} (hl : s.1.length ≤ 1048576) (hz : ∀ s, (sub s).2.1.length + (sub s).1.size ≤ s.1.length) (hs : (rdTop d s).2 = true → (rdHead s).2.1.toNat = 0 ∨ ∀ s, s.1.length ≤ 1048576 → (sub s).2.2 = true → s.2 = true ∧ ((sub s).1.text coB).length + 65 * (sub s).2.1.length ≤ 65 * s.1.length)
    (h : (rdCells sub (rdHead s).1 (rdHead s).2.1.toNat (rdTop d s)).2.2 = true) : s.2 = true ∧ ((rdCells sub (rdHead s).1 (rdHead s).2.1.toNat (rdTop d s)).1.text coB).length + 65 * (rdCells sub (rdHead s).1 (rdHead s).2.1.toNat (rdTop d s)).2.1.length ≤ 65 * s.1.length := by
  have h5 := rdTop_le d s
  have h1 : (rdTop d s).2 = true ∧ ((rdCells sub (rdHead s).1 (rdHead s).2.1.toNat (rdTop d s)).1.cellsB coB).length + 65 * (rdCells sub (rdHead s).1 (rdHead s).2.1.toNat (rdTop d s)).2.1.length ≤ 65 * (rdTop d s).1.length := by
    by_cases hk : (rdHead s).2.1.toNat = 0
    · rw [hk] at h ⊢
      exact ⟨h, by simp [rdCells, Tr.cellsB]⟩
    · by_cases hok : (rdTop d s).2 = true
      · exact rdCells_cost hz ((hs hok).resolve_left hk) _ _ _ (by omega) h
      · exfalso
        obtain ⟨k, hk'⟩ : ∃ k, (rdHead s).2.1.toNat = k + 1 := ⟨(rdHead s).2.1.toNat - 1, by omega⟩
        rw [hk', rdCells, if_pos (by simpa using hok)] at h
        exact hok h
  have h2 := rdTop_ok h1.1
  have h3 := rdHead_cost (s := s) (by rw [← h2]; exact h1.1)
  have h4 := rdCells_le hz (rdHead s).1 (rdHead s).2.1.toNat (rdTop d s)
  have h6 := Tr.len_size (rdCells sub (rdHead s).1 (rdHead s).2.1.toNat (rdTop d s)).1
  have h7 := Tr.headB_le (rdCells sub (rdHead s).1 (rdHead s).2.1.toNat (rdTop d s)).1.kind (rdCells sub (rdHead s).1 (rdHead s).2.1.toNat (rdTop d s)).1.len (by omega)
  refine ⟨h3.1, ?_⟩
  rw [Tr.text, List.length_append]
  have h8 := h1.2
  rw [h2] at h8 h7 ⊢
  omega
theorem rdNode_cost : ∀ (d : Nat) (s : Rs), s.1.length ≤ 1048576 → (rdNode d s).2.2 = true → s.2 = true ∧ ((rdNode d s).1.text coB).length + 65 * (rdNode d s).2.1.length ≤ 65 * s.1.length
  | 0, s, hl, h => by
    rw [rdNode] at h ⊢
    refine rdTree_cost hl (fun s => by simp [Tr.size]) (fun ht => .inl ?_) h
    unfold rdTop at ht
    split at ht
    · cases ht
    · rename_i h1
      have : ¬ 0 < (rdHead s).2.1 := fun h2 => h1 ⟨rfl, h2⟩
      omega
  | d + 1, s, hl, h => by
    rw [rdNode] at h ⊢
    exact rdTree_cost hl (rdNode_le d) (fun _ => .inr (rdNode_cost d)) h
noncomputable def rdLists : Nat → Rs → List (List (List Tm)) × Rs
  | 0, s => ([], s)
  | k + 1, s => if s.2 = false then ([], s) else ((rdList s).1 :: (rdLists k (rdList s).2).1, (rdLists k (rdList s).2).2)
def rdFacts : Nat → Rs → List Fct × Rs
  | 0, s => ([], s)
  | k + 1, s => if s.2 = false then ([], s) else ((rdFact s).1 :: (rdFacts k (rdFact s).2).1, (rdFacts k (rdFact s).2).2)
theorem rdList_rest (s : Rs) : (rdList s).2.1.length ≤ s.1.length := by
  have hle := rdLine_le (F := [108, 105, 115, 116]) (s := s)
  unfold rdList
  obtain ⟨ws, s', hr⟩ : ∃ ws s', rdLine [108, 105, 115, 116] s = (ws, s') := ⟨_, _, rfl⟩
  rw [hr] at hle ⊢
  simp only at hle ⊢
  rcases ws with _ | ⟨w, ps⟩
  · exact hle.1
  · simp only
    rcases rdPolys ps with _ | l
    · exact hle.1
    · exact hle.1
theorem rdLists_cost : ∀ (k : Nat) (s : Rs), s.1.length ≤ 1048576 → (rdLists k s).2.2 = true → s.2 = true ∧ (cat (listB txtP) (rdLists k s).1).length + 65 * (rdLists k s).2.1.length ≤ 65 * s.1.length
  | 0, s, _, h => ⟨h, by simp [rdLists, cat]⟩
  | k + 1, s, hl, h => by
    rw [rdLists] at h ⊢
    split at h
    · rename_i h1; rw [h1] at h; cases h
    · rename_i h1
      rw [if_neg h1]
      simp only at h ⊢
      have h2 := rdLists_cost k _ (Nat.le_trans (rdList_rest s) hl) h
      have h3 := rdList_cost hl h2.1
      refine ⟨h3.1, ?_⟩
      rw [show (rdList s).1 :: (rdLists k (rdList s).2).1 = [(rdList s).1] ++ (rdLists k (rdList s).2).1 from rfl, cat_append, cat_one, List.length_append]
      omega
theorem rdFacts_cost : ∀ (k : Nat) (s : Rs), (rdFacts k s).2.2 = true → s.2 = true ∧ (cat factB (rdFacts k s).1).length + 65 * (rdFacts k s).2.1.length ≤ 65 * s.1.length
  | 0, s, h => ⟨h, by simp [rdFacts, cat]⟩
  | k + 1, s, h => by
    rw [rdFacts] at h ⊢
    split at h
    · rename_i h1; rw [h1] at h; cases h
    · rename_i h1
      rw [if_neg h1]
      simp only at h ⊢
      have h2 := rdFacts_cost k _ h
      have h3 := rdFact_cost h2.1
      refine ⟨h3.1, ?_⟩
      rw [show (rdFact s).1 :: (rdFacts k (rdFact s).2).1 = [(rdFact s).1] ++ (rdFacts k (rdFact s).2).1 from rfl, cat_append, cat_one, List.length_append]
      omega
theorem rdFacts_all : ∀ (k : Nat) (s : Rs), ∀ f ∈ (rdFacts k s).1, Fok s.1.length f
  | 0, s, f, h => by simp [rdFacts] at h
  | k + 1, s, f, h => by
    rw [rdFacts] at h
    split at h
    · simp at h
    · have h1 := rdFact_all s
      rcases List.mem_cons.1 h with rfl | h
      · exact h1.1
      · have h2 := rdFacts_all k _ f h
        exact ⟨Nat.le_trans h2.1 h1.2, Nat.le_trans h2.2.1 h1.2, Nat.le_trans h2.2.2 h1.2⟩
end Go.Cy


/- The certificate read. -/
namespace Go.Cy
open Go Go.Proofs
set_option maxRecDepth 20000

def wCert : List UInt8 := [99, 101, 114, 116, 105, 102, 105, 99, 97, 116, 101]
def wLists : List UInt8 := [108, 105, 115, 116, 115]
def wFacts : List UInt8 := [102, 97, 99, 116, 111, 114, 115]
def wEnd : List UInt8 := [101, 110, 100]
def wTrue : List UInt8 := [116, 114, 117, 101]
def pA (L : List UInt8) : List (List UInt8) × Rs := rdWords wCert 2 (L, true)
def pB (L : List UInt8) : Int × Rs := rdNum ((pA L).1.getD 1 []) (pA L).2
def pC (L : List UInt8) : List (List UInt8) × Rs := rdWords wLists 1 (pB L).2
def pD (L : List UInt8) : Int × Rs := rdNum ((pC L).1.headD []) (pC L).2
noncomputable def pE (L : List UInt8) : List (List (List Tm)) × Rs := rdLists (pD L).1.toNat (pD L).2
noncomputable def pF (L : List UInt8) : List (List UInt8) × Rs := rdWords wFacts 1 (pE L).2
noncomputable def pG (L : List UInt8) : Int × Rs := rdNum ((pF L).1.headD []) (pF L).2
noncomputable def pH (L : List UInt8) : List Fct × Rs := rdFacts (pG L).1.toNat (pG L).2
noncomputable def pI (L : List UInt8) : Tr Co × Rs := rdNode 4 (pH L).2
noncomputable def pJ (L : List UInt8) : List (List UInt8) × Rs := rdWords wEnd 0 (pI L).2
noncomputable def pC0 (L : List UInt8) : Cer Co (List Tm) := ⟨decide ((pA L).1.getD 0 [] = wTrue), (pB L).1, (pE L).1, (pH L).1, (pI L).1⟩
theorem cat_ge {α : Type} {f : α → List UInt8} (h : ∀ x, 1 ≤ (f x).length) (xs : List α) : xs.length ≤ (cat f xs).length := by
  induction xs with
  | nil => simp
  | cons x xs ih =>
    have := h x
    rw [show x :: xs = [x] ++ xs from rfl, cat_append, cat_one, List.length_append, List.length_append]
    simp; omega
theorem cat_mem {α : Type} {f : α → List UInt8} {xs : List α} {x : α} (h : x ∈ xs) : (f x).length ≤ (cat f xs).length := by
  induction xs with
  | nil => simp at h
  | cons y xs ih =>
    rw [show y :: xs = [y] ++ xs from rfl, cat_append, cat_one, List.length_append]
    rcases List.mem_cons.1 h with rfl | h
    · omega
    · have := ih h; omega
theorem pJ_steps {L : List UInt8} (hl : L.length ≤ 1048576) (h : (pJ L).2.2 = true) :
    (pI L).2.2 = true ∧ (pH L).2.2 = true ∧ (pG L).2.2 = true ∧ (pF L).2.2 = true ∧ (pE L).2.2 = true ∧ (pD L).2.2 = true ∧ (pC L).2.2 = true ∧ (pB L).2.2 = true ∧ (pA L).2.2 = true ∧
    (pA L).2.1.length ≤ L.length ∧ (pB L).2.1.length ≤ L.length ∧ (pC L).2.1.length ≤ L.length ∧ (pD L).2.1.length ≤ L.length ∧ (pE L).2.1.length ≤ L.length ∧ (pF L).2.1.length ≤ L.length ∧ (pG L).2.1.length ≤ L.length ∧ (pH L).2.1.length ≤ L.length ∧
    (cat (listB txtP) (pE L).1).length + 65 * (pE L).2.1.length ≤ 65 * L.length ∧ (cat factB (pH L).1).length + 65 * (pH L).2.1.length ≤ 65 * (pE L).2.1.length ∧ ((pI L).1.text coB).length ≤ 65 * (pH L).2.1.length := by
  have i1 := (rdWords_sum h).1
  have a1 := (rdWords_le wCert 2 (L, true)).1
  have b1 : (pB L).2.1 = (pA L).2.1 := rdNum_rest _ _
  have c1 := (rdWords_le wLists 1 (pB L).2).1
  have d1 : (pD L).2.1 = (pC L).2.1 := rdNum_rest _ _
  have e0 : (pD L).2.1.length ≤ L.length := by
    rw [d1]; refine Nat.le_trans c1 ?_; rw [b1]; exact a1
  have e1 : ∀ (k : Nat) (s : Rs), (rdLists k s).2.1.length ≤ s.1.length := by
    intro k
    induction k with
    | zero => intro s; exact Nat.le_refl _
    | succ k ih =>
      intro s
      rw [rdLists]
      split
      · exact Nat.le_refl _
      · exact Nat.le_trans (ih _) (rdList_rest s)
  have h1 : ∀ (k : Nat) (s : Rs), (rdFacts k s).2.1.length ≤ s.1.length := by
    intro k
    induction k with
    | zero => intro s; exact Nat.le_refl _
    | succ k ih =>
      intro s
      rw [rdFacts]
      split
      · exact Nat.le_refl _
      · exact Nat.le_trans (ih _) (rdFact_all s).2
  have e2 : (pE L).2.1.length ≤ L.length := Nat.le_trans (e1 _ _) e0
  have f1 := (rdWords_le wFacts 1 (pE L).2).1
  have g1 : (pG L).2.1 = (pF L).2.1 := rdNum_rest _ _
  have g2 : (pG L).2.1.length ≤ (pE L).2.1.length := by rw [g1]; exact f1
  have h2 : (pH L).2.1.length ≤ (pG L).2.1.length := h1 _ _
  have i2 := rdNode_cost 4 (pH L).2 (by omega) i1
  have h3 := rdFacts_cost _ _ i2.1
  have g3 := rdNum_ok h3.1
  have f2 := (rdWords_sum g3.1).1
  have e3 := rdLists_cost _ _ (by show (pD L).2.1.length ≤ _; omega) f2
  have d2 := rdNum_ok e3.1
  have c2 := (rdWords_sum d2.1).1
  have b2 := rdNum_ok c2
  have e4 := e3.2
  have h4 := h3.2
  have i3 := i2.2
  refine ⟨i1, i2.1, h3.1, g3.1, f2, e3.1, d2.1, c2, b2.1, a1, by rw [b1]; exact a1, by rw [← d1]; exact e0, e0, e2, by rw [← g1]; omega, by omega, by omega, ?_, ?_, ?_⟩
  · show (cat (listB txtP) (pE L).1).length + 65 * (pE L).2.1.length ≤ _
    have : (cat (listB txtP) (pE L).1).length + 65 * (pE L).2.1.length ≤ 65 * (pD L).2.1.length := e4
    omega
  · have : (cat factB (pH L).1).length + 65 * (pH L).2.1.length ≤ 65 * (pG L).2.1.length := h4
    omega
  · have : ((pI L).1.text coB).length + 65 * (pI L).2.1.length ≤ 65 * (pH L).2.1.length := i3
    omega
theorem cer_small {L : List UInt8} (hl : L.length ≤ 1048576) (h : (pJ L).2.2 = true) : (pC0 L).Small coB txtP := by
  obtain ⟨_, _, _, _, _, _, _, _, _, _, _, _, hd, he, _, hg, hh, h1, h2, h3⟩ := pJ_steps hl h
  have l1 : (pE L).1.length ≤ (cat (listB txtP) (pE L).1).length := cat_ge (fun x => by simp [listB, listHd]) _
  have l2 : (pH L).1.length ≤ (cat factB (pH L).1).length := cat_ge (fun x => by simp [factB, factHd]) _
  have hn := rdNode_le 4 (pH L).2
  have hfa := rdFacts_all (pG L).1.toNat (pG L).2
  refine ⟨by show (pE L).1.length ≤ _; omega, fun l hl' => ?_, by show (pH L).1.length ≤ _; omega, fun f hf => ?_, by show (pI L).1.size ≤ _; have : (pI L).2.1.length + (pI L).1.size ≤ (pH L).2.1.length := hn; omega, ?_⟩
  · have l3 : (listB txtP l).length ≤ (cat (listB txtP) (pE L).1).length := cat_mem hl'
    have l4 : l.length ≤ (listB txtP l).length := by
      have := cat_ge (f := fun p => 32 :: txtP p) (fun x => by simp) l
      simp only [listB, List.length_append]; omega
    omega
  · have := hfa f hf
    exact ⟨Nat.le_trans this.1 (by omega), Nat.le_trans this.2.1 (by omega), Nat.le_trans this.2.2 (by omega)⟩
  · have hb := rdNum_bd ((pA L).1.getD 1 []) (pA L).2
    have i1 := itB_len (n := (pB L).1) hb.1 hb.2
    have i2 := itB_len (n := ((pE L).1.length : Int)) (by omega) (by omega)
    have i3 := itB_len (n := ((pH L).1.length : Int)) (by omega) (by omega)
    have i4 : ∀ b, (boolB b).length ≤ 5 := fun b => by unfold boolB; split <;> simp
    have hhl : ∀ c : Cer Co (List Tm), c.headB.length = 14 + (boolB c.verdict).length + (itB c.first).length := fun c => by simp [Cer.headB, spaced_one]; omega
    rw [Cer.textB]
    have e1 : (pC0 L).headB.length ≤ 40 := by
      rw [hhl]
      have := i4 (pC0 L).verdict
      have : (itB (pC0 L).first).length ≤ 21 := i1
      omega
    have e2 : (listsB txtP (pC0 L).lists).length ≤ 28 + (cat (listB txtP) (pE L).1).length := by
      show (listsB txtP (pE L).1).length ≤ _
      simp only [listsB, listsHd, List.length_append, List.length_cons, List.length_nil]; omega
    have e3 : (factsB (pC0 L).facts).length ≤ 30 + (cat factB (pH L).1).length := by
      show (factsB (pH L).1).length ≤ _
      simp only [factsB, factsHd, List.length_append, List.length_cons, List.length_nil]; omega
    have e4 : ((pC0 L).tree.text coB).length ≤ 65 * (pH L).2.1.length := h3
    omega
noncomputable def pCer (L : List UInt8) : Option (Cer Co (List Tm)) := open Classical in if (pJ L).2.2 = true ∧ (pC0 L).okB = true ∧ (pC0 L).text coB txtP = L then some (pC0 L) else none
end Go.Cy


/- certificate.Parse: what the walk needs. -/
namespace Go.Cy
open Go Go.Proofs
set_option maxRecDepth 20000

theorem All2.get {α β : Type} {R : α → β → Prop} : ∀ {xs : List α} {bs : List β}, All2 R xs bs → ∀ (i : Nat) b, bs[i]? = some b → ∃ a, xs[i]? = some a ∧ R a b
  | [], [], _, i, b, h => by simp at h
  | x :: xs, y :: bs, h, 0, b, hb => by simp at hb; subst hb; exact ⟨x, rfl, h.1⟩
  | x :: xs, y :: bs, h, i + 1, b, hb => by simpa using All2.get h.2 i b (by simpa using hb)
theorem All2.left {α β : Type} {R : α → β → Prop} : ∀ {xs : List α} {bs : List β}, All2 R xs bs → ∀ a ∈ xs, ∃ b, R a b
  | [], [], _, a, h => by simp at h
  | x :: xs, y :: bs, h, a, ha => by
    rcases List.mem_cons.1 ha with rfl | ha
    · exact ⟨y, h.1⟩
    · exact All2.left h.2 a ha
theorem Sl.ofk {α : Type} {k : Nat} {C : Mem → List Value → α → Prop} {m : Mem} {ad : Option Addr} {cap n : Nat} {vss : List (List Value)} {xs : List α} (h : All2 (fun vs x => vs.length = k ∧ C m vs x) vss xs) (hn : n = xs.length) (hc : n ≤ cap) (hr : 0 < n → ∃ b o, ad = some ⟨b, o, none⟩ ∧ Row m [] b o vss.flatten) : Sl k C m (.slice ad n cap) xs := by
  subst hn
  refine ⟨ad, cap, vss, rfl, hc, h.len, fun us hu => ?_, fun i x hx => ?_, hr⟩
  · obtain ⟨b, h1⟩ := h.left us hu
    exact h1.1
  · obtain ⟨a, h1, h2⟩ := h.get i x hx
    exact ⟨a, h1, h2.2⟩
theorem Sl.mono {α : Type} {k : Nat} {C C' : Mem → List Value → α → Prop} {m : Mem} {v : Value} {xs : List α} (hC : ∀ vs a, C m vs a → C' m vs a) (h : Sl k C m v xs) : Sl k C' m v xs := by
  obtain ⟨ad, cap, vss, h1, h2, h3, h4, h5, h6⟩ := h
  exact ⟨ad, cap, vss, h1, h2, h3, h4, fun i x hx => by obtain ⟨vs, h7, h8⟩ := h5 i x hx; exact ⟨vs, h7, hC _ _ h8⟩, h6⟩
theorem Tr.Rep.mono {α : Type} {C C' : Mem → Value → α → Prop} {m : Mem} (hC : ∀ v a, C m v a → C' m v a) : ∀ {t : Tr α} {vs : List Value}, t.Rep C m vs → t.Rep C' m vs
  | .nil _, _, h => h
  | .cons a s r, vs, h => by
    obtain ⟨c0, c1, c2, c3, c4, c5, c6, ad, cap, ws, vs', h0, h1, h2, h3, h4, h5, h6⟩ := h
    exact ⟨c0, c1, c2, c3, c4, c5, c6, ad, cap, ws, vs', h0, h1, hC _ _ h2, h3, Tr.Rep.mono hC h4, h5, Tr.Rep.mono hC h6⟩
theorem Nd.mono {α : Type} {C C' : Mem → Value → α → Prop} {m : Mem} {v : Value} {t : Tr α} (hC : ∀ v a, C m v a → C' m v a) (h : Nd C m v t) : Nd C' m v t := by
  obtain ⟨ad, cap, ws, h1, h2, h3, h4⟩ := h
  exact ⟨ad, cap, ws, h1, h2, Tr.Rep.mono hC h3, h4⟩
theorem PV.pc {m : Mem} {v : Value} {ts : List Tm} (hT : Tab Tryz.prog m) (h : PV m v ts) : PC m v ts := by
  obtain ⟨h1, q, h2, h3⟩ := h
  exact ⟨h1.pv, (pPoly_ok h3 h2).psm h2 h2, hT⟩
theorem CoV.cc {m : Mem} {v : Value} {c : Co} (hT : Tab Tryz.prog m) (h : CoV m v c) : CoC m v c := by
  obtain ⟨p, f1, f2, f3, g1, g2, g3, rfl, h1, h2, h3, q, h4, h5⟩ := h
  exact ⟨p, f1, f2, f3, g1, g2, g3, rfl, h1.fi, h2.fi, h3.pv, (pCoord_ok h5 h4).sm, hT⟩
def CerV (m : Mem) (v : Value) (c : Cer Co (List Tm)) : Prop := c.Rep CoV PV m v
theorem CerV.rep {m : Mem} {v : Value} {c : Cer Co (List Tm)} (hT : Tab Tryz.prog m) (h : CerV m v c) : c.Rep CoC PC m v := by
  obtain ⟨lv, fv, ad, cap, h1, h2, h3, h4⟩ := h
  exact ⟨lv, fv, ad, cap, h1, h2.mono fun vs a ⟨v, e, h5, h6⟩ => ⟨v, e, h5, h6.mono fun vs a ⟨v, e, h5, h6⟩ => ⟨v, e, h5, h6.pc hT⟩⟩, h3, h4.mono fun v a h => h.cc hT⟩
theorem CerV.up {m m' : Mem} {v : Value} {c : Cer Co (List Tm)} (h : CerV m v c) (hm : m.le m') : CerV m' v c := by
  obtain ⟨lv, fv, ad, cap, h1, h2, h3, h4⟩ := h
  exact ⟨lv, fv, ad, cap, h1, h2.up (One.up fun _ _ _ _ hm h => h.up (One.up PV.up) hm) hm, h3.up FcC.up hm, Nd.up CoV.up h4 hm⟩
theorem Wv.two {m : Mem} {v : Value} {F : List UInt8} {s : Rs} (h : Wv m v (rdWords F 2 s).1) : ∃ b o cap, v = .slice (some ⟨b, o, none⟩) 2 cap ∧ 2 ≤ cap ∧ Row m [] b (o + 0 * 1) [.string (B ((rdWords F 2 s).1.getD 0 []))] ∧ Row m [] b (o + 1 * 1) [.string (B ((rdWords F 2 s).1.getD 1 []))] := by
  have hl := rdWords_len F 2 s
  obtain ⟨ad, cap, rfl, hc, h1⟩ := h
  rcases hws : (rdWords F 2 s).1 with _ | ⟨w, _ | ⟨w', _ | ⟨w'', ws⟩⟩⟩
  · rw [hws] at hl; simp at hl
  · rw [hws] at hl; simp at hl
  · rw [hws] at h1 hc
    obtain ⟨b, o, rfl, hr⟩ := h1 (by simp)
    refine ⟨b, o, cap, rfl, hc, hr.sub 0 (by simp) fun j hj => ?_, hr.sub 1 (by simp) fun j hj => ?_⟩
    · have : j = 0 := by simp at hj; omega
      subst this; rfl
    · have : j = 0 := by simp at hj; omega
      subst this; rfl
  · rw [hws] at hl; simp at hl
theorem Wv.small {F : List UInt8} {n : Nat} {s : Rs} (hl : s.1.length ≤ 1048576) (i : Nat) : ((rdWords F n s).1.getD i []).length ≤ 1048576 := by
  by_cases h : i < (rdWords F n s).1.length
  · rw [List.getD_eq_getElem?_getD, List.getElem?_eq_getElem h]
    exact Nat.le_trans ((rdWords_le F n s).2.1 _ (List.getElem_mem h)) hl
  · rw [List.getD_eq_getElem?_getD, List.getElem?_eq_none (by omega)]; simp
theorem headD_getD {α : Type} (l : List α) (x : α) : l.headD x = l.getD 0 x := by cases l <;> rfl
end Go.Cy
