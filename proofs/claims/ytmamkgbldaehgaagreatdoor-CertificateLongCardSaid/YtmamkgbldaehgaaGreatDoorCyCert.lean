/- certificate.Valid, Format. -/
import Derived.Test.YtmamkgbldaehgaaGreatDoorCyWrite5
namespace Go.Cy
open Go Go.Proofs
set_option maxRecDepth 20000

/-- A certificate. -/
structure Cer (α β : Type) where
  verdict : Bool
  first : Int
  lists : List (List β)
  facts : List Fct
  tree : Tr α
namespace Cer
variable {α β : Type}
def okB (c : Cer α β) : Bool := decide (1 ≤ c.first) && decide (c.first ≤ 5) && decide (c.lists.length ≤ 4) && (c.facts.all fun f => f.powers.all pwOk) && c.tree.ok 4
def headB (c : Cer α β) : List UInt8 := ([99, 101, 114, 116, 105, 102, 105, 99, 97, 116, 101] ++ spaced [boolB c.verdict]) ++ 32 :: itB c.first ++ [10]
def text (txt : α → List UInt8) (ptxt : β → List UInt8) (c : Cer α β) : List UInt8 := (((c.headB ++ listsB ptxt c.lists) ++ factsB c.facts) ++ c.tree.text txt) ++ [101, 110, 100] ++ [10]
/-- A certificate in memory. -/
def Rep (C : Mem → Value → α → Prop) (D : Mem → Value → β → Prop) (m : Mem) (v : Value) (c : Cer α β) : Prop :=
  ∃ lv fv ad cap, v = .agg #[.bool c.verdict, .int .i64 c.first, lv, fv, .int .i64 c.tree.kind, .slice ad c.tree.len cap] ∧ Sl 1 (One (Sl 1 (One D))) m lv c.lists ∧ Sl 5 FcC m fv c.facts ∧ Nd C m (.agg #[.int .i64 c.tree.kind, .slice ad c.tree.len cap]) c.tree
/-- No part is great. -/
structure Small (txt : α → List UInt8) (ptxt : β → List UInt8) (c : Cer α β) : Prop where
  lists : c.lists.length ≤ 35184372088832
  list : ∀ l ∈ c.lists, l.length ≤ 35184372088832
  facts : c.facts.length ≤ 35184372088832
  fact : ∀ f ∈ c.facts, f.powers.length ≤ 35184372088832 ∧ dlen f.scale.natAbs ≤ 1000000000000 ∧ dlen f.unit.natAbs ≤ 1000000000000
  tree : c.tree.size ≤ 35184372088832
  text : (c.text txt ptxt).length ≤ 35184372088832
theorem not_ok {c : Cer α β} {i j : Nat} (hi : i < c.facts.length) (hj : j < c.facts[i].powers.length) (h : pwOk c.facts[i].powers[j] = false) : c.okB = false := by
  have : (c.facts.all fun f => f.powers.all pwOk) = false := by
    rw [List.all_eq_false]
    refine ⟨c.facts[i], List.getElem_mem hi, ?_⟩
    rw [Bool.not_eq_true, List.all_eq_false]
    exact ⟨_, List.getElem_mem hj, by rw [h]; simp⟩
  simp [okB, this]
end Cer

theorem Valid_ok {α β : Type} {C : Mem → Value → α → Prop} {D : Mem → Value → β → Prop} (hC : ∀ m m' v a, m.le m' → C m v a → C m' v a) {m : Mem} {v : Value} {c : Cer α β} (hv : c.Rep C D m v) (h1 : c.facts.length ≤ 35184372088832) (h2 : ∀ f ∈ c.facts, f.powers.length ≤ 35184372088832) (h3 : c.tree.size ≤ 35184372088832) :
    Pure Tryz.prog 28 #[v] m fun r _ => r = .bool c.okB := by
  obtain ⟨lv, fv, ad, cap, rfl, hl, hf, hn⟩ := hv
  obtain ⟨lad, lcap, rfl⟩ := hl.slice
  obtain ⟨fad, fcap, rfl⟩ := hf.slice
  refine enterp Tryz.func28 rfl rfl ?_
  intro K hm0 hks
  refine w_seq ?_
  refine w_region ?_
  refine wl_box rfl rfl rfl rfl ?_; intro b1
  refine wl_val rfl rfl rfl (x_assign rfl) ?_
  refine wl_nil ?_
  refine at_seq ?_
  refine w_seq ?_
  refine w_seq ?_
  refine w_region ?_
  refine wl_val rfl rfl rfl (x_fieldAddr Tryz.underlying61 rfl Tryz.size3 rfl) ?_
  refine wl_val rfl rfl rfl (x_load Tryz.plain3 rfl (rowH1 (.head _) rfl)) ?_
  refine wl_val rfl rfl rfl (x_lss rfl rfl) ?_
  refine wl_val rfl rfl rfl (x_move rfl) ?_
  refine wl_splitp (t := 10) rfl (fun h4 => ?_) (fun h4 => ?_)
  · skip
    refine wl_off rfl rfl rfl ?_
    refine wl_off rfl rfl rfl ?_
    refine wl_off rfl rfl rfl ?_
    refine wl_val rfl rfl rfl (x_pick_t rfl rfl) ?_
    refine wl_val rfl rfl rfl (x_move rfl) ?_
    refine wl_off rfl rfl rfl ?_
    refine wl_off rfl rfl rfl ?_
    refine wl_off rfl rfl rfl ?_
    refine wl_off rfl rfl rfl ?_
    refine wl_val rfl rfl rfl (x_pick_t rfl rfl) ?_
    refine wl_nil ?_
    refine at_seq ?_
    refine w_true rfl ?_
    refine w_seq ?_
    refine w_region ?_
    refine wl_val rfl rfl rfl (x_assign rfl) ?_
    refine wl_nil ?_
    refine at_seq ?_
    refine w_ret ?_
    refine at_then_ret ?_
    refine at_endp (res1 rfl rfl) ?_
    have : ¬ 1 ≤ c.first := by omega
    simp [Cer.okB, this]
  · skip
    refine wl_val rfl rfl rfl (x_fieldAddr Tryz.underlying61 rfl Tryz.size3 rfl) ?_
    refine wl_val rfl rfl rfl (x_load Tryz.plain3 rfl (rowH1 (.head _) rfl)) ?_
    refine wl_val rfl rfl rfl (x_gtr rfl rfl) ?_
    refine wl_val rfl rfl rfl (x_pick_f rfl rfl) ?_
    refine wl_val rfl rfl rfl (x_move rfl) ?_
    refine wl_splitp (t := 15) rfl (fun h5 => ?_) (fun h5 => ?_)
    · skip
      refine wl_off rfl rfl rfl ?_
      refine wl_off rfl rfl rfl ?_
      refine wl_off rfl rfl rfl ?_
      refine wl_off rfl rfl rfl ?_
      refine wl_val rfl rfl rfl (x_pick_t rfl rfl) ?_
      refine wl_nil ?_
      refine at_seq ?_
      refine w_true rfl ?_
      refine w_seq ?_
      refine w_region ?_
      refine wl_val rfl rfl rfl (x_assign rfl) ?_
      refine wl_nil ?_
      refine at_seq ?_
      refine w_ret ?_
      refine at_then_ret ?_
      refine at_endp (res1 rfl rfl) ?_
      have : ¬ c.first ≤ 5 := by omega
      simp [Cer.okB, this]
    · skip
      refine wl_val rfl rfl rfl (x_fieldAddr Tryz.underlying61 rfl Tryz.size58 rfl) ?_
      refine wl_val rfl rfl rfl (x_load Tryz.plain58 rfl (rowH1 (.head _) rfl)) ?_
      refine wl_val rfl rfl rfl (x_len Tryz.underlying58 rfl rfl) ?_
      refine wl_val rfl rfl rfl (x_gtr rfl rfl) ?_
      refine wl_val rfl rfl rfl (x_pick_f rfl rfl) ?_
      refine wl_nil ?_
      refine at_seq ?_
      refine w_if rfl (fun h6 => ?_) (fun h6 => ?_)
      · skip
        refine w_seq ?_
        refine w_region ?_
        refine wl_val rfl rfl rfl (x_assign rfl) ?_
        refine wl_nil ?_
        refine at_seq ?_
        refine w_ret ?_
        refine at_then_ret ?_
        refine at_endp (res1 rfl rfl) ?_
        have : ¬ c.lists.length ≤ 4 := by omega
        simp [Cer.okB, this]
      · skip
        have e1 : 1 ≤ c.first := by omega
        have e2 : c.first ≤ 5 := by omega
        have e3 : c.lists.length ≤ 4 := by omega
        refine w_skip ?_
        refine at_seq ?_
        refine w_seq ?_
        refine w_seq ?_
        refine w_region ?_
        refine wl_val rfl rfl rfl (x_fieldAddr Tryz.underlying61 rfl Tryz.size59 rfl) ?_
        refine wl_val rfl rfl rfl (x_load Tryz.plain59 rfl (rowH1 (.head _) rfl)) ?_
        refine wl_val rfl rfl rfl (x_len Tryz.underlying59 rfl rfl) ?_
        refine wl_val rfl rfl rfl (x_move rfl) ?_
        refine wl_nil ?_
        refine at_seq ?_
        refine w_block ?_
        refine w_loop (fun r m' H' env' => ∃ i, m.le m' ∧ r + i = c.facts.length ∧ (∀ i' (h : i' < c.facts.length), i' < i → (c.facts[i'].powers.all pwOk) = true) ∧ H' = [(b1, cl 61 [.bool c.verdict, .int .i64 c.first, (.slice lad c.lists.length lcap), (.slice fad c.facts.length fcap), .int .i64 c.tree.kind, .slice ad c.tree.len cap])] ∧ env' = [(1, .pointer (some ⟨b1, 0, none⟩)), (2, .bool false), (22, .slice fad c.facts.length fcap), (23, .int .i64 c.facts.length), (24, .int .i64 (i : Nat))]) c.facts.length [(1, .pointer (some ⟨b1, 0, none⟩)), (2, .bool false), (22, .slice fad c.facts.length fcap), (23, .int .i64 c.facts.length), (24, .int .i64 (0 : Nat))] ⟨0, Mem.le.refl _, rfl, fun i' _ h => absurd h (Nat.not_lt_zero _), rfl, rfl⟩ (by repeat' (first | exact trivial | exact rfl | exact lk_int rfl (by omega) | apply And.intro)) ?_
        rintro r m1 H' env' ⟨i, hm1, hri, hok, rfl, rfl⟩
        refine w_seq ?_
        refine w_region ?_
        refine wl_val rfl rfl rfl (x_lss rfl rfl) ?_
        refine wl_nil ?_
        refine at_seq ?_
        refine w_seq ?_
        refine w_if rfl (fun h7 => ?_) (fun h7 => ?_)
        · skip
          have hi : i < c.facts.length := by omega
          obtain ⟨bl, ol, vs, rfl, hvl, ⟨n1, s1, n2, s2, pw, rfl, hI1, hI2, hpw⟩, hrow⟩ := hf.get hi
          obtain ⟨sa1, sl1, sc1, rfl⟩ := hI1.slice
          obtain ⟨sa2, sl2, sc2, rfl⟩ := hI2.slice
          obtain ⟨ad', cap', rfl⟩ := hpw.slice
          have hli := h2 _ (List.getElem_mem hi)
          refine w_skip ?_
          refine at_seq ?_
          refine w_seq ?_
          refine w_block ?_
          refine w_seq ?_
          refine w_region ?_
          refine wl_val rfl rfl rfl (x_index Tryz.underlying59 Tryz.size135 rfl rfl (j := i) (by omega) (by omega)) ?_
          refine wl_val rfl rfl rfl (x_loads Tryz.agg135 (by exact Tryz.size135) rfl (((hrow.up hm1).heap))) ?_
          refine wl_alloc rfl rfl Tryz.zero135 ?_; intro b4
          refine wl_storeAll rfl (by exact Tryz.size135) rfl rfl (by simp [Value.oneCell']) rfl ?_
          refine wl_nil ?_
          refine at_seq ?_
          refine w_seq ?_
          refine w_region ?_
          refine wl_val rfl rfl rfl (x_fieldAddr Tryz.underlying135 rfl Tryz.size133 rfl) ?_
          refine wl_val rfl rfl rfl (x_load Tryz.plain133 rfl (rowH1 (.head _) rfl)) ?_
          refine wl_val rfl rfl rfl (x_len Tryz.underlying133 rfl rfl) ?_
          refine wl_val rfl rfl rfl (x_move rfl) ?_
          refine wl_nil ?_
          refine at_seq ?_
          refine w_block ?_
          refine w_drop1 ?_
          refine w_loop (fun r m' H' env' => ∃ j, m.le m' ∧ r + j = c.facts[i].powers.length ∧ (∀ j' (h : j' < c.facts[i].powers.length), j' < j → pwOk c.facts[i].powers[j'] = true) ∧ H' = [(b1, cl 61 [.bool c.verdict, .int .i64 c.first, (.slice lad c.lists.length lcap), (.slice (some ⟨bl, ol, none⟩) c.facts.length fcap), .int .i64 c.tree.kind, .slice ad c.tree.len cap])] ∧ env' = [(1, .pointer (some ⟨b1, 0, none⟩)), (2, .bool false), (22, .slice (some ⟨bl, ol, none⟩) c.facts.length fcap), (23, .int .i64 c.facts.length), (24, .int .i64 (i : Nat)), (29, .slice ad' c.facts[i].powers.length cap'), (30, .int .i64 c.facts[i].powers.length), (31, .int .i64 (j : Nat))]) c.facts[i].powers.length [(1, .pointer (some ⟨b1, 0, none⟩)), (2, .bool false), (22, .slice (some ⟨bl, ol, none⟩) c.facts.length fcap), (23, .int .i64 c.facts.length), (24, .int .i64 (i : Nat)), (29, .slice ad' c.facts[i].powers.length cap'), (30, .int .i64 c.facts[i].powers.length), (31, .int .i64 (0 : Nat))] ⟨0, hm1, rfl, fun j' _ h => absurd h (Nat.not_lt_zero _), rfl, rfl⟩ (by repeat' (first | exact trivial | exact rfl | exact lk_int rfl (by omega) | apply And.intro)) ?_
          rintro r2 m2 H' env' ⟨j, hm2, hrj, hokj, rfl, rfl⟩
          refine w_seq ?_
          refine w_region ?_
          refine wl_val rfl rfl rfl (x_lss rfl rfl) ?_
          refine wl_nil ?_
          refine at_seq ?_
          refine w_seq ?_
          refine w_if rfl (fun h8 => ?_) (fun h8 => ?_)
          · skip
            have hj : j < c.facts[i].powers.length := by omega
            obtain ⟨bq, oq, vs', rfl, hvl', hpe, hrow'⟩ := hpw.get hj
            generalize hpp : c.facts[i].powers[j] = p at hpe
            obtain rfl := hpe
            refine w_skip ?_
            refine at_seq ?_
            refine w_seq ?_
            refine w_block ?_
            refine w_seq ?_
            refine w_region ?_
            refine wl_val rfl rfl rfl (x_index Tryz.underlying133 Tryz.size139 rfl rfl (j := j) (by omega) (by omega)) ?_
            refine wl_val rfl rfl rfl (x_loads Tryz.agg139 (by exact Tryz.size139) rfl (((hrow'.up hm2).heap))) ?_
            refine wl_alloc rfl rfl Tryz.zero139 ?_; intro b6
            refine wl_storeAll rfl (by exact Tryz.size139) rfl rfl (by simp [Value.oneCell']) rfl ?_
            refine wl_nil ?_
            refine at_seq ?_
            refine w_seq ?_
            refine w_region ?_
            refine wl_val rfl rfl rfl (x_fieldAddr Tryz.underlying139 rfl Tryz.size3 rfl) ?_
            refine wl_val rfl rfl rfl (x_load Tryz.plain3 rfl (rowH1 (.head _) rfl)) ?_
            refine wl_val rfl rfl rfl (x_lss rfl rfl) ?_
            refine wl_val rfl rfl rfl (x_move rfl) ?_
            refine wl_splitp (t := 38) rfl (fun h9 => ?_) (fun h9 => ?_)
            · skip
              refine wl_off rfl rfl rfl ?_
              refine wl_off rfl rfl rfl ?_
              refine wl_off rfl rfl rfl ?_
              refine wl_val rfl rfl rfl (x_pick_t rfl rfl) ?_
              refine wl_val rfl rfl rfl (x_move rfl) ?_
              refine wl_off rfl rfl rfl ?_
              refine wl_off rfl rfl rfl ?_
              refine wl_off rfl rfl rfl ?_
              refine wl_val rfl rfl rfl (x_pick_t rfl rfl) ?_
              refine wl_val rfl rfl rfl (x_move rfl) ?_
              refine wl_off rfl rfl rfl ?_
              refine wl_off rfl rfl rfl ?_
              refine wl_off rfl rfl rfl ?_
              refine wl_val rfl rfl rfl (x_pick_t rfl rfl) ?_
              refine wl_val rfl rfl rfl (x_move rfl) ?_
              refine wl_off rfl rfl rfl ?_
              refine wl_off rfl rfl rfl ?_
              refine wl_off rfl rfl rfl ?_
              refine wl_val rfl rfl rfl (x_pick_t rfl rfl) ?_
              refine wl_val rfl rfl rfl (x_move rfl) ?_
              refine wl_off rfl rfl rfl ?_
              refine wl_off rfl rfl rfl ?_
              refine wl_off rfl rfl rfl ?_
              refine wl_val rfl rfl rfl (x_pick_t rfl rfl) ?_
              refine wl_nil ?_
              refine at_seq ?_
              refine w_true rfl ?_
              refine w_seq ?_
              refine w_region ?_
              refine wl_val rfl rfl rfl (x_assign rfl) ?_
              refine wl_nil ?_
              refine at_seq ?_
              refine w_ret ?_
              refine at_block_ret ?_
              refine at_then_ret ?_
              refine at_then_ret ?_
              refine at_block_ret ?_
              refine at_block_ret ?_
              refine at_then_ret ?_
              refine at_then_ret ?_
              refine at_block_ret ?_
              refine at_then_ret ?_
              refine at_endp (res1 rfl rfl) ?_
              exact congrArg Value.bool (Cer.not_ok hi hj (by rw [hpp]; simp [pwOk]; omega)).symm
            · skip
              refine wl_val rfl rfl rfl (x_fieldAddr Tryz.underlying139 rfl Tryz.size3 rfl) ?_
              refine wl_val rfl rfl rfl (x_load Tryz.plain3 rfl (rowH1 (.head _) rfl)) ?_
              refine wl_val rfl rfl rfl (x_gtr rfl rfl) ?_
              refine wl_val rfl rfl rfl (x_pick_f rfl rfl) ?_
              refine wl_val rfl rfl rfl (x_move rfl) ?_
              refine wl_splitp (t := 43) rfl (fun h10 => ?_) (fun h10 => ?_)
              · skip
                refine wl_off rfl rfl rfl ?_
                refine wl_off rfl rfl rfl ?_
                refine wl_off rfl rfl rfl ?_
                refine wl_val rfl rfl rfl (x_pick_t rfl rfl) ?_
                refine wl_val rfl rfl rfl (x_move rfl) ?_
                refine wl_off rfl rfl rfl ?_
                refine wl_off rfl rfl rfl ?_
                refine wl_off rfl rfl rfl ?_
                refine wl_val rfl rfl rfl (x_pick_t rfl rfl) ?_
                refine wl_val rfl rfl rfl (x_move rfl) ?_
                refine wl_off rfl rfl rfl ?_
                refine wl_off rfl rfl rfl ?_
                refine wl_off rfl rfl rfl ?_
                refine wl_val rfl rfl rfl (x_pick_t rfl rfl) ?_
                refine wl_val rfl rfl rfl (x_move rfl) ?_
                refine wl_off rfl rfl rfl ?_
                refine wl_off rfl rfl rfl ?_
                refine wl_off rfl rfl rfl ?_
                refine wl_val rfl rfl rfl (x_pick_t rfl rfl) ?_
                refine wl_nil ?_
                refine at_seq ?_
                refine w_true rfl ?_
                refine w_seq ?_
                refine w_region ?_
                refine wl_val rfl rfl rfl (x_assign rfl) ?_
                refine wl_nil ?_
                refine at_seq ?_
                refine w_ret ?_
                refine at_block_ret ?_
                refine at_then_ret ?_
                refine at_then_ret ?_
                refine at_block_ret ?_
                refine at_block_ret ?_
                refine at_then_ret ?_
                refine at_then_ret ?_
                refine at_block_ret ?_
                refine at_then_ret ?_
                refine at_endp (res1 rfl rfl) ?_
                exact congrArg Value.bool (Cer.not_ok hi hj (by rw [hpp]; simp [pwOk]; omega)).symm
              · skip
                refine wl_val rfl rfl rfl (x_fieldAddr Tryz.underlying139 rfl Tryz.size3 rfl) ?_
                refine wl_val rfl rfl rfl (x_load Tryz.plain3 rfl (rowH1 (.head _) rfl)) ?_
                refine wl_val rfl rfl rfl (x_lss rfl rfl) ?_
                refine wl_val rfl rfl rfl (x_pick_f rfl rfl) ?_
                refine wl_val rfl rfl rfl (x_move rfl) ?_
                refine wl_splitp (t := 48) rfl (fun h11 => ?_) (fun h11 => ?_)
                · skip
                  refine wl_off rfl rfl rfl ?_
                  refine wl_off rfl rfl rfl ?_
                  refine wl_off rfl rfl rfl ?_
                  refine wl_val rfl rfl rfl (x_pick_t rfl rfl) ?_
                  refine wl_val rfl rfl rfl (x_move rfl) ?_
                  refine wl_off rfl rfl rfl ?_
                  refine wl_off rfl rfl rfl ?_
                  refine wl_off rfl rfl rfl ?_
                  refine wl_val rfl rfl rfl (x_pick_t rfl rfl) ?_
                  refine wl_val rfl rfl rfl (x_move rfl) ?_
                  refine wl_off rfl rfl rfl ?_
                  refine wl_off rfl rfl rfl ?_
                  refine wl_off rfl rfl rfl ?_
                  refine wl_val rfl rfl rfl (x_pick_t rfl rfl) ?_
                  refine wl_nil ?_
                  refine at_seq ?_
                  refine w_true rfl ?_
                  refine w_seq ?_
                  refine w_region ?_
                  refine wl_val rfl rfl rfl (x_assign rfl) ?_
                  refine wl_nil ?_
                  refine at_seq ?_
                  refine w_ret ?_
                  refine at_block_ret ?_
                  refine at_then_ret ?_
                  refine at_then_ret ?_
                  refine at_block_ret ?_
                  refine at_block_ret ?_
                  refine at_then_ret ?_
                  refine at_then_ret ?_
                  refine at_block_ret ?_
                  refine at_then_ret ?_
                  refine at_endp (res1 rfl rfl) ?_
                  exact congrArg Value.bool (Cer.not_ok hi hj (by rw [hpp]; simp [pwOk]; omega)).symm
                · skip
                  refine wl_val rfl rfl rfl (x_fieldAddr Tryz.underlying139 rfl Tryz.size3 rfl) ?_
                  refine wl_val rfl rfl rfl (x_load Tryz.plain3 rfl (rowH1 (.head _) rfl)) ?_
                  refine wl_val rfl rfl rfl (x_gtr rfl rfl) ?_
                  refine wl_val rfl rfl rfl (x_pick_f rfl rfl) ?_
                  refine wl_val rfl rfl rfl (x_move rfl) ?_
                  refine wl_splitp (t := 53) rfl (fun h12 => ?_) (fun h12 => ?_)
                  · skip
                    refine wl_off rfl rfl rfl ?_
                    refine wl_off rfl rfl rfl ?_
                    refine wl_off rfl rfl rfl ?_
                    refine wl_val rfl rfl rfl (x_pick_t rfl rfl) ?_
                    refine wl_val rfl rfl rfl (x_move rfl) ?_
                    refine wl_off rfl rfl rfl ?_
                    refine wl_off rfl rfl rfl ?_
                    refine wl_off rfl rfl rfl ?_
                    refine wl_val rfl rfl rfl (x_pick_t rfl rfl) ?_
                    refine wl_nil ?_
                    refine at_seq ?_
                    refine w_true rfl ?_
                    refine w_seq ?_
                    refine w_region ?_
                    refine wl_val rfl rfl rfl (x_assign rfl) ?_
                    refine wl_nil ?_
                    refine at_seq ?_
                    refine w_ret ?_
                    refine at_block_ret ?_
                    refine at_then_ret ?_
                    refine at_then_ret ?_
                    refine at_block_ret ?_
                    refine at_block_ret ?_
                    refine at_then_ret ?_
                    refine at_then_ret ?_
                    refine at_block_ret ?_
                    refine at_then_ret ?_
                    refine at_endp (res1 rfl rfl) ?_
                    exact congrArg Value.bool (Cer.not_ok hi hj (by rw [hpp]; simp [pwOk]; omega)).symm
                  · skip
                    refine wl_val rfl rfl rfl (x_fieldAddr Tryz.underlying139 rfl Tryz.size3 rfl) ?_
                    refine wl_val rfl rfl rfl (x_load Tryz.plain3 rfl (rowH1 (.head _) rfl)) ?_
                    refine wl_val rfl rfl rfl (x_lss rfl rfl) ?_
                    refine wl_val rfl rfl rfl (x_pick_f rfl rfl) ?_
                    refine wl_val rfl rfl rfl (x_move rfl) ?_
                    refine wl_splitp (t := 58) rfl (fun h13 => ?_) (fun h13 => ?_)
                    · skip
                      refine wl_off rfl rfl rfl ?_
                      refine wl_off rfl rfl rfl ?_
                      refine wl_off rfl rfl rfl ?_
                      refine wl_val rfl rfl rfl (x_pick_t rfl rfl) ?_
                      refine wl_nil ?_
                      refine at_seq ?_
                      refine w_true rfl ?_
                      refine w_seq ?_
                      refine w_region ?_
                      refine wl_val rfl rfl rfl (x_assign rfl) ?_
                      refine wl_nil ?_
                      refine at_seq ?_
                      refine w_ret ?_
                      refine at_block_ret ?_
                      refine at_then_ret ?_
                      refine at_then_ret ?_
                      refine at_block_ret ?_
                      refine at_block_ret ?_
                      refine at_then_ret ?_
                      refine at_then_ret ?_
                      refine at_block_ret ?_
                      refine at_then_ret ?_
                      refine at_endp (res1 rfl rfl) ?_
                      exact congrArg Value.bool (Cer.not_ok hi hj (by rw [hpp]; simp [pwOk]; omega)).symm
                    · skip
                      refine wl_val rfl rfl rfl (x_fieldAddr Tryz.underlying139 rfl Tryz.size3 rfl) ?_
                      refine wl_val rfl rfl rfl (x_load Tryz.plain3 rfl (rowH1 (.head _) rfl)) ?_
                      refine wl_val rfl rfl rfl (x_gtr rfl rfl) ?_
                      refine wl_val rfl rfl rfl (x_pick_f rfl rfl) ?_
                      refine wl_nil ?_
                      refine at_seq ?_
                      refine w_if rfl (fun h14 => ?_) (fun h14 => ?_)
                      · skip
                        refine w_seq ?_
                        refine w_region ?_
                        refine wl_val rfl rfl rfl (x_assign rfl) ?_
                        refine wl_nil ?_
                        refine at_seq ?_
                        refine w_ret ?_
                        refine at_block_ret ?_
                        refine at_then_ret ?_
                        refine at_then_ret ?_
                        refine at_block_ret ?_
                        refine at_block_ret ?_
                        refine at_then_ret ?_
                        refine at_then_ret ?_
                        refine at_block_ret ?_
                        refine at_then_ret ?_
                        refine at_endp (res1 rfl rfl) ?_
                        exact congrArg Value.bool (Cer.not_ok hi hj (by rw [hpp]; simp [pwOk]; omega)).symm
                      · skip
                        have hp : pwOk p = true := by simp [pwOk]; omega
                        refine w_skip ?_
                        refine at_block_normal ?_
                        refine at_seq ?_
                        refine w_region ?_
                        refine wl_val rfl rfl rfl (x_add rfl rfl (wrap_i64 (by omega) (by omega))) ?_
                        refine wl_val rfl rfl rfl (x_move rfl) ?_
                        refine wl_nil ?_
                        refine at_drop1 ?_
                        exact at_again (r2 - 1) [(1, .pointer (some ⟨b1, 0, none⟩)), (2, .bool false), (22, .slice (some ⟨bl, ol, none⟩) c.facts.length fcap), (23, .int .i64 c.facts.length), (24, .int .i64 (i : Nat)), (29, .slice (some ⟨bq, oq, none⟩) c.facts[i].powers.length cap'), (30, .int .i64 c.facts[i].powers.length), (31, .int .i64 (j + 1 : Nat))] (by omega) ⟨j + 1, hm2, by omega, fun j' h' hj' => (Decidable.em (j' = j)).elim (fun e => by subst e; rw [hpp]; exact hp) (fun e => hokj j' h' (by omega)), rfl, rfl⟩ (by repeat' (first | exact trivial | exact rfl | exact lk_int rfl (by omega) | apply And.intro))
          · skip
            obtain rfl : j = c.facts[i].powers.length := by omega
            have ha : (c.facts[i].powers.all pwOk) = true := by
              rw [List.all_eq_true]
              intro p hp
              obtain ⟨j', hj', rfl⟩ := List.mem_iff_getElem.1 hp
              exact hokj j' hj' hj'
            refine w_exit ?_
            refine at_then_exit ?_
            refine at_then_exit ?_
            refine at_block_hit ?_
            refine at_block_normal ?_
            refine at_seq ?_
            refine w_region ?_
            refine wl_val rfl rfl rfl (x_add rfl rfl (wrap_i64 (by omega) (by omega))) ?_
            refine wl_val rfl rfl rfl (x_move rfl) ?_
            refine wl_nil ?_
            exact at_again (r - 1) [(1, .pointer (some ⟨b1, 0, none⟩)), (2, .bool false), (22, .slice (some ⟨bl, ol, none⟩) c.facts.length fcap), (23, .int .i64 c.facts.length), (24, .int .i64 (i + 1 : Nat))] (by omega) ⟨i + 1, hm2, by omega, fun i' h' hi' => (Decidable.em (i' = i)).elim (fun e => by subst e; exact ha) (fun e => hok i' h' (by omega)), rfl, rfl⟩ (by repeat' (first | exact trivial | exact rfl | exact lk_int rfl (by omega) | apply And.intro))
        · skip
          obtain rfl : i = c.facts.length := by omega
          have ha : (c.facts.all fun f => f.powers.all pwOk) = true := by
            rw [List.all_eq_true]
            intro f hf'
            obtain ⟨i', hi', rfl⟩ := List.mem_iff_getElem.1 hf'
            exact hok i' hi' hi'
          obtain ⟨ad0, cap0, ws0, e0, g1, g2, g3⟩ := hn
          have hn' : Nd C m1 (.agg #[.int .i64 c.tree.kind, .slice ad c.tree.len cap]) c.tree := ⟨ad0, cap0, ws0, e0, g1, g2.up hC hm1, fun h0 => by obtain ⟨b, o, e, hr⟩ := g3 h0; exact ⟨b, o, e, hr.up hm1⟩⟩
          refine w_exit ?_
          refine at_then_exit ?_
          refine at_then_exit ?_
          refine at_block_hit ?_
          refine at_seq ?_
          refine w_seq ?_
          refine w_region ?_
          refine wl_val rfl rfl rfl (x_fieldAddr Tryz.underlying61 rfl Tryz.size45 rfl) ?_
          refine wl_val rfl rfl rfl (x_loads Tryz.agg45 (by exact Tryz.size45) rfl (rowHs (vs := [_, _]) (.head _) 4 rfl)) ?_
          refine wl_callp rfl rfl rfl Tryz.c82 (validNode_ok hC c.tree _ _ 4 hn' (by omega) h3) ?_; rintro v2 m2 hm2 rfl
          refine wl_val rfl rfl rfl (x_assign rfl) ?_
          refine wl_nil ?_
          refine at_seq ?_
          refine w_ret ?_
          refine at_endp (res1 rfl rfl) ?_
          simp [Cer.okB, e1, e2, e3, ha]

theorem Cer.textB {α β : Type} (txt : α → List UInt8) (ptxt : β → List UInt8) (c : Cer α β) : (c.text txt ptxt).length = c.headB.length + (listsB ptxt c.lists).length + (factsB c.facts).length + (c.tree.text txt).length + 4 := by
  simp [Cer.text]; omega
theorem Format_ok {α β : Type} {C : Mem → Value → α → Prop} {D : Mem → Value → β → Prop} {txt : α → List UInt8} {ptxt : β → List UInt8} (hC : ∀ m m' v a, m.le m' → C m v a → C m' v a) (hF : ∀ m v a, C m v a → Pure Tryz.prog 130 #[v] m fun r _ => r = .string (B (txt a)))
    (hD : ∀ m m' v a, m.le m' → D m v a → D m' v a) (hG : ∀ m v a, D m v a → Pure Tryz.prog 128 #[v] m fun r _ => r = .string (B (ptxt a))) {m : Mem} {v : Value} {c : Cer α β} (hv : c.Rep C D m v) (hs : c.Small txt ptxt) (hT : Tab Tryz.prog m) :
    Pure Tryz.prog 26 #[v] m fun r _ => r = (if c.okB then (if 1048576 < (c.text txt ptxt).length then .tuple #[.string (B []), .int .i64 8] else .tuple #[.string (B (c.text txt ptxt)), .int .i64 0]) else .tuple #[.string (B []), .int .i64 9]) := by
  have hv' := hv
  obtain ⟨lv, fv, ad, cap, rfl, hl, hf, hn⟩ := hv
  obtain ⟨lad, lcap, rfl⟩ := hl.slice
  obtain ⟨fad, fcap, rfl⟩ := hf.slice
  have htl := hs.text
  rw [Cer.textB] at htl
  have hup := One.up (C := Sl 1 (One D)) fun m m' v a hm h => Sl.up (One.up hD) h hm
  have hNd : ∀ {m'}, m.le m' → Nd C m' (.agg [.int .i64 c.tree.kind, .slice ad c.tree.len cap].toArray) c.tree := by
    intro m' hm
    obtain ⟨ad0, cap0, ws0, e0, g1, g2, g3⟩ := hn
    exact ⟨ad0, cap0, ws0, e0, g1, g2.up hC hm, fun h0 => by obtain ⟨b, o, e, hr⟩ := g3 h0; exact ⟨b, o, e, hr.up hm⟩⟩
  refine enterp Tryz.func26 rfl rfl ?_
  intro K hm0 hks
  refine w_seq ?_
  refine w_region ?_
  refine wl_box rfl rfl rfl rfl ?_; intro b1
  refine wl_val rfl rfl rfl (x_assign rfl) ?_
  refine wl_val rfl rfl rfl (x_assign rfl) ?_
  refine wl_nil ?_
  refine at_seq ?_
  refine w_seq ?_
  refine w_seq ?_
  refine w_region ?_
  refine wl_val rfl rfl rfl (x_loads Tryz.agg61 (by exact Tryz.size61) rfl (rowH0 (.head _))) ?_
  refine wl_callp rfl rfl rfl Tryz.c28 (Valid_ok hC hv' hs.facts (fun f hf => (hs.fact f hf).1) hs.tree) ?_; rintro v1 m1 hm1 rfl
  refine wl_val rfl rfl rfl (x_not rfl rfl) ?_
  refine wl_nil ?_
  refine at_seq ?_
  refine w_cond rfl (fun h1 => ?_) (fun h1 => ?_)
  · skip
    have hok : c.okB = false := by simpa using h1
    refine w_seq ?_
    refine w_region ?_
    refine wl_val rfl rfl rfl (x_assign rfl) ?_
    refine wl_val rfl rfl rfl (x_assign rfl) ?_
    refine wl_nil ?_
    refine at_seq ?_
    refine w_ret ?_
    refine at_then_ret ?_
    refine at_endp (res2 rfl rfl rfl) ?_
    rw [hok]; rfl
  · skip
    have hok : c.okB = true := by simpa using h1
    have hob : 1 ≤ c.first ∧ c.first ≤ 5 ∧ ∀ f ∈ c.facts, ∀ p ∈ f.powers, pwOk p = true := by
      simp only [Cer.okB, Bool.and_eq_true, decide_eq_true_eq, List.all_eq_true] at hok
      exact ⟨hok.1.1.1.1, hok.1.1.1.2, hok.1.2⟩
    obtain ⟨hf1, hf2, hpo⟩ := hob
    have hit := itB_len (n := c.first) (by omega) (by omega)
    have hbl : (boolB c.verdict).length ≤ 5 := by unfold boolB; split <;> simp
    have hhl : c.headB.length = 14 + (boolB c.verdict).length + (itB c.first).length := by simp [Cer.headB, spaced_one]; omega
    rw [hhl] at htl
    refine w_skip ?_
    refine at_seq ?_
    refine w_seq ?_
    refine w_region ?_
    refine wl_val rfl rfl rfl (x_build (cs := [_, _]) Tryz.underlying117 Tryz.places117 Tryz.zero117 rfl rfl) ?_
    refine wl_box rfl rfl rfl rfl ?_; intro b9
    refine wl_val rfl rfl rfl (x_assign rfl) ?_
    refine wl_nil ?_
    refine at_seq ?_
    refine w_seq ?_
    refine w_region ?_
    refine wl_val rfl rfl rfl (x_move rfl) ?_
    refine wl_front1 ?_
    refine wl_calld1 rfl rfl rfl Tryz.c67 (start_ok (s := [99, 101, 114, 116, 105, 102, 105, 99, 97, 116, 101]) bt_writer (Bld.new _ b9) (by simp)) ?_; rintro v2 m2 H2 hm2 ⟨rfl, hB2⟩
    refine wl_nil ?_
    refine at_seq ?_
    refine w_seq ?_
    refine w_region ?_
    refine wl_val rfl rfl rfl (x_move rfl) ?_
    refine wl_val rfl rfl rfl (x_fieldAddr Tryz.underlying61 rfl Tryz.size4 rfl) ?_
    refine wl_val rfl rfl rfl (x_load Tryz.plain4 rfl (rowH1 (.head _) rfl)) ?_
    refine wl_callp rfl rfl rfl Tryz.c69 (FormatBool_ok) ?_; rintro v3 m3 hm3 rfl
    refine wl_buildSlice rfl rfl Tryz.underlying129 Tryz.size9 Tryz.zero9 rfl rfl rfl rfl rfl ?_; intro b16
    refine wl_callw1 rfl rfl rfl Tryz.c68 (word_ok (ws := [boolB c.verdict]) bt_writer hB2 (by rw [spaced_one]; simp; omega) (by simp)) ?_; rintro v4 m4 H4 hm4 ⟨rfl, hB4⟩
    refine wl_nil ?_
    refine at_seq ?_
    refine w_seq ?_
    refine w_region ?_
    refine wl_val rfl rfl rfl (x_move rfl) ?_
    refine wl_val rfl rfl rfl (x_fieldAddr Tryz.underlying61 rfl Tryz.size3 rfl) ?_
    refine wl_val rfl rfl rfl (x_load Tryz.plain3 rfl (rowH1 (.head _) rfl)) ?_
    refine wl_calld1 rfl rfl rfl Tryz.c70 (number_ok (n := c.first) bt_writer (hT.up (hm1.trans (hm2.trans (hm3.trans hm4)))) hB4 (by omega) (by omega) (by rw [spaced_one]; simp; omega)) ?_; rintro v5 m5 H5 hm5 ⟨rfl, hB5⟩
    refine wl_nil ?_
    refine at_seq ?_
    refine w_seq ?_
    refine w_region ?_
    refine wl_val rfl rfl rfl (x_move rfl) ?_
    refine wl_calld1 rfl rfl rfl Tryz.c71 (wend_ok bt_writer hB5 (by rw [spaced_one]; simp; omega)) ?_; rintro v6 m6 H6 hm6 ⟨rfl, hB6⟩
    refine wl_nil ?_
    refine at_seq ?_
    refine w_seq ?_
    refine w_region ?_
    have hm06 := hm1.trans (hm2.trans (hm3.trans (hm4.trans (hm5.trans hm6))))
    replace hB6 : Bld 117 b9 c.headB H6 := by simpa [Cer.headB] using hB6
    refine wl_val rfl rfl rfl (x_move rfl) ?_
    refine wl_val rfl rfl rfl (x_fieldAddr Tryz.underlying61 rfl Tryz.size58 rfl) ?_
    refine wl_val rfl rfl rfl (x_load Tryz.plain58 rfl (rowH1 (.head _) rfl)) ?_
    refine wl_calld1 rfl rfl rfl Tryz.c72 (lists_ok hD hG hB6 (hl.up hup hm06) (hT.up hm06) hs.lists hs.list (by omega)) ?_; rintro v7 m7 H7 hm7 ⟨rfl, L7, hW7, hB7⟩
    refine wl_nil ?_
    refine at_seq ?_
    refine w_seq ?_
    refine w_region ?_
    have hl7 := hW7.hi
    refine wl_val rfl rfl rfl (x_move rfl) ?_
    refine wl_val rfl rfl rfl (x_fieldAddr Tryz.underlying61 rfl Tryz.size59 rfl) ?_
    refine wl_val rfl rfl rfl (x_load Tryz.plain59 rfl (rowH1 (.head _) rfl)) ?_
    refine wl_calld1 rfl rfl rfl Tryz.c73 (factors_ok hB7 (hf.up FcC.up (hm06.trans hm7)) (hT.up (hm06.trans hm7)) hs.facts (fun f hf => ⟨(hs.fact f hf).1, hpo f hf, (hs.fact f hf).2⟩) (by omega)) ?_; rintro v8 m8 H8 hm8 ⟨rfl, L8, hW8, hB8⟩
    refine wl_nil ?_
    refine at_seq ?_
    refine w_seq ?_
    refine w_region ?_
    have hl8 := hW8.hi
    refine wl_val rfl rfl rfl (x_move rfl) ?_
    refine wl_val rfl rfl rfl (x_fieldAddr Tryz.underlying61 rfl Tryz.size45 rfl) ?_
    refine wl_val rfl rfl rfl (x_loads Tryz.agg45 (by exact Tryz.size45) rfl (rowHs (vs := [_, _]) (.head _) 4 rfl)) ?_
    refine wl_calld1 rfl rfl rfl Tryz.c74 (node_ok hC hF c.tree _ b9 _ _ _ hB8 (hNd (hm06.trans (hm7.trans hm8))) (hT.up (hm06.trans (hm7.trans hm8))) hs.tree (by omega)) ?_; rintro v9 m9 H9 hm9 ⟨rfl, L9, hW9, hB9⟩
    refine wl_nil ?_
    refine at_seq ?_
    refine w_seq ?_
    refine w_region ?_
    have hl9 := hW9.hi
    refine wl_val rfl rfl rfl (x_move rfl) ?_
    refine wl_calld1 rfl rfl rfl Tryz.c67 (start_ok (s := [101, 110, 100]) bt_writer hB9 (by simp; omega)) ?_; rintro v10 m10 H10 hm10 ⟨rfl, hB10⟩
    refine wl_nil ?_
    refine at_seq ?_
    refine w_seq ?_
    refine w_region ?_
    refine wl_val rfl rfl rfl (x_move rfl) ?_
    refine wl_calld1 rfl rfl rfl Tryz.c71 (wend_ok bt_writer hB10 (by simp; omega)) ?_; rintro v11 m11 H11 hm11 ⟨rfl, hB11⟩
    refine wl_nil ?_
    refine at_seq ?_
    refine w_seq ?_
    refine w_seq ?_
    refine w_region ?_
    refine wl_val rfl rfl rfl (x_move rfl) ?_
    refine wl_calld1 rfl rfl rfl Tryz.c75 (full_ok hB11) ?_; rintro v12 m12 H12 hm12 ⟨rfl, rfl⟩
    refine wl_nil ?_
    refine at_seq ?_
    have hW : Wrote [] (c.text txt ptxt) (L9 ++ [101, 110, 100] ++ [10]) := ((((((Wrote.all [] c.headB).as rfl).trans hW7).trans hW8).trans hW9).app.app).as rfl
    have hhi := hW.hi
    refine w_if rfl (fun h2 => ?_) (fun h2 => ?_)
    · skip
      have : 1048576 < (c.text txt ptxt).length := by simp only [List.length_nil] at hhi; omega
      refine w_seq ?_
      refine w_region ?_
      refine wl_val rfl rfl rfl (x_assign rfl) ?_
      refine wl_val rfl rfl rfl (x_assign rfl) ?_
      refine wl_nil ?_
      refine at_seq ?_
      refine w_ret ?_
      refine at_then_ret ?_
      refine at_clear ?_
      refine at_endp (res2 rfl rfl rfl) ?_
      rw [hok, if_pos rfl, if_pos this]; rfl
    · skip
      have he : L9 ++ [101, 110, 100] ++ [10] = c.text txt ptxt := by
        rcases hW.eq with e | e
        · simpa using e
        · exact absurd e h2
      rw [he] at hB11 h2
      refine w_skip ?_
      refine at_seq ?_
      refine w_seq ?_
      refine w_region ?_
      refine wl_val rfl rfl rfl (x_move rfl) ?_
      refine wl_val rfl rfl rfl (x_nilCheck rfl) ?_
      refine wl_val rfl rfl rfl (x_fieldAddr Tryz.underlying117 rfl Tryz.size115 rfl) ?_
      refine wl_calld1 rfl rfl rfl Tryz.c76 (BString_ok hB11 (by simp [Cer.text]) (by have := hs.text; omega)) ?_; rintro v13 m13 H13 hm13 ⟨rfl, rfl⟩
      refine wl_val rfl rfl rfl (x_assign rfl) ?_
      refine wl_val rfl rfl rfl (x_assign rfl) ?_
      refine wl_nil ?_
      refine at_seq ?_
      refine w_ret ?_
      refine at_endp (res2 rfl rfl rfl) ?_
      rw [hok, if_pos rfl, if_neg h2]
end Go.Cy

