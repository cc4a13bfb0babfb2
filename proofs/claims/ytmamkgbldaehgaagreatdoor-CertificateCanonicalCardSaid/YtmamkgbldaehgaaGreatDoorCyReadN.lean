/- Regions that draw their order, in which a chain of calls changes one block of the call's own while the other operations are pure. -/
import Derived.Test.YtmamkgbldaehgaaGreatDoorCyDig2
import Derived.Test.YtmamkgbldaehgaaGreatDoorCyReadL
namespace Go.Cy
open Go
section
variable {P : Program} {n : Nat} {K : Ctx} {Q : Exit → Act → World → Prop} {env : Env} {m : Mem} {H : Hp}
def EStep (P : Program) (n : Nat) (ops : Array Oper) (Q : Exit → Act → World → Prop) (o : Oper) (env : Env) (m : Mem) (H : Hp) (b : Nat) (o0 o1 : Obj) (φ : Value → Mem → Hp → Prop) : Prop :=
  ∀ a w, Fr n env a → Fits m w → Has ((b, o0) :: H) w → m b = none →
    if Region.wanted o (yielded ops a.tmps) then o.wp P a w (fun a' w' => ∃ v m' h', a' = a.put o.dst v ∧ St ⟨w, m, [b]⟩ m' ((b, o1) :: h') w' ∧ φ v m' h') Q
    else o0 = o1 ∧ φ undef m []
theorem DStep.e {ops : Array Oper} {o : Oper} {b : Nat} {o0 : Obj} {φ : Value → Mem → Hp → Prop} (h : DStep P n ops Q o env m H φ) : EStep P n ops Q o env m H b o0 o0 φ := by
  intro a w ha hf hh hb
  have h1 := h a w ha hf (fun b' o' hb' => hh b' o' (.tail _ hb'))
  split
  · rename_i hw
    rw [if_pos hw] at h1
    refine Oper.wp_mono ?_ h1
    rintro a' w' ⟨v, m', h', e1, e2, e3⟩
    have h0 : St ⟨w, m, [b]⟩ m ([] ++ [(b, o0)]) w := St.start (H := [(b, o0)]) hf (fun b' o' hb' => hh b' o' (by rw [List.mem_singleton.1 hb']; exact .head _)) (List.pairwise_singleton _ _) (fun b' o' hb' => by cases List.mem_singleton.1 hb'; exact hb)
    exact ⟨v, m', h', e1, (St.call (Hc := []) (Hr := [(b, o0)]) h0 e2).perm (List.perm_append_singleton _ _), e3⟩
  · rename_i hw
    rw [if_neg hw] at h1
    exact ⟨rfl, h1⟩
def stg (cs : List Nat) (listed : Array Bool) : Nat := (cs.filter fun i => listed.getD i false).length
def chainOk (l : List Oper) (k : Nat) (cs : List Nat) : Bool := (List.range cs.length).all fun s => Nat.blt (cs.getD s 0) k && (List.range cs.length).all fun s' => Nat.beq s s' || (!(Nat.beq (cs.getD s 0) (cs.getD s' 0)) && (!(Nat.blt s' s) || ((masks l []).getD (cs.getD s 0) 0).testBit (cs.getD s' 0)))
theorem chain_spec {l : List Oper} {k : Nat} {cs : List Nat} (h : chainOk l k cs = true) : (∀ i ∈ cs, i < k) ∧ ∀ (s s' i i' : Nat), cs[s]? = some i → cs[s']? = some i' → s ≠ s' → i ≠ i' ∧ (s' < s → ((masks l []).getD i 0).testBit i' = true) := by
  simp only [chainOk, List.all_eq_true, List.mem_range, Bool.and_eq_true, Bool.or_eq_true] at h
  have hg : ∀ s i, cs[s]? = some i → s < cs.length ∧ cs.getD s 0 = i := fun s i hs => ⟨(List.getElem?_eq_some_iff.1 hs).1, by rw [List.getD_eq_getElem?_getD, hs]; rfl⟩
  refine ⟨fun i hi => ?_, fun s s' i i' hs hs' hne => ?_⟩
  · obtain ⟨s, hs⟩ := List.getElem?_of_mem hi
    obtain ⟨h1, h2⟩ := hg s i hs
    have := (h s h1).1
    rw [h2] at this; simpa [Nat.blt_eq] using this
  · obtain ⟨h1, h2⟩ := hg s i hs
    obtain ⟨h3, h4⟩ := hg s' i' hs'
    rcases (h s h1).2 s' h3 with h5 | h5
    · exact absurd (Nat.eq_of_beq_eq_true h5) hne
    · rw [h2, h4] at h5
      refine ⟨fun e => ?_, fun hlt => ?_⟩
      · have h6 := h5.1
        rw [e] at h6; simp at h6
      · rcases h5.2 with h6 | h6
        · have : Nat.blt s' s = true := by rw [Nat.blt_eq]; exact hlt
          rw [this] at h6; simp at h6
        · exact h6
theorem stg_of {cs : List Nat} {listed : Array Bool} {s : Nat} (hs : s ≤ cs.length) (h1 : ∀ s' i, s' < s → cs[s']? = some i → listed.getD i false = true) (h2 : ∀ s' i, s ≤ s' → cs[s']? = some i → listed.getD i false = false) : stg cs listed = s := by
  unfold stg
  have e : cs.filter (fun i => listed.getD i false) = cs.take s := by
    conv => lhs; rw [← List.take_append_drop s cs]
    rw [List.filter_append, List.filter_eq_self.2, List.filter_eq_nil_iff.2, List.append_nil]
    · intro i hi
      obtain ⟨t, ht⟩ := List.getElem?_of_mem hi
      rw [List.getElem?_drop] at ht
      rw [h2 _ i (by omega) ht]; simp
    · intro i hi
      obtain ⟨t, ht⟩ := List.getElem?_of_mem hi
      rw [List.getElem?_take] at ht
      split at ht
      · exact h1 _ i (by assumption) ht
      · cases ht
  rw [e, List.length_take]; omega
theorem stg_all {l : List Oper} {k : Nat} {cs : List Nat} {listed : Array Bool} (hch : chainOk l k cs = true) (hall : ∀ i, i < k → listed.getD i false = true) : stg cs listed = cs.length :=
  stg_of (Nat.le_refl _) (fun s' i _ hi => hall i ((chain_spec hch).1 i (List.mem_of_getElem? hi))) (fun s' i hs hi => by have := (List.getElem?_eq_some_iff.1 hi).1; omega)
theorem masks_len : ∀ (l : List Oper) (acc : List Nat), (masks l acc).length = acc.length + l.length
  | [], acc => by simp [masks]
  | o :: l, acc => by
    rw [masks, masks_len l]; simp; omega
theorem stg_parts {l : List Oper} {k i s : Nat} {o : Oper} {cs : List Nat} {listed : Array Bool} (hch : chainOk l k cs = true) (hc : Closed l listed) (ho : l[i]? = some o) (hr : ∀ e ∈ o.after, Region.binds .any e = true → listed.getD e.on false = true) (hi : listed.getD i false = false) (hs : cs[s]? = some i) :
    (∀ s' i', s' < s → cs[s']? = some i' → listed.getD i' false = true) ∧ ∀ s' i', s ≤ s' → cs[s']? = some i' → listed.getD i' false = false := by
  refine ⟨fun s' i' hlt hi' => mask_listed hc i o i' ho hr (((chain_spec hch).2 s s' i i' hs hi' (by omega)).2 hlt), fun s' i' hle hi' => ?_⟩
  by_cases e : s = s'
  · subst e
    rw [hs] at hi'; cases hi'; exact hi
  · cases hl : listed.getD i' false with
    | false => rfl
    | true =>
      exfalso
      have hbit := ((chain_spec hch).2 s' s i' i hi' hs (by omega)).2 (by omega)
      have hjl : i' < l.length := by
        refine Nat.lt_of_not_le fun hge => ?_
        have : (masks l []).getD i' 0 = 0 := by rw [List.getD_eq_getElem?_getD, List.getElem?_eq_none (by rw [masks_len]; simpa using hge)]; rfl
        rw [this] at hbit; simp at hbit
      have := mask_listed hc i' _ i (List.getElem?_eq_getElem hjl) (fun e he hb => hc i' _ (List.getElem?_eq_getElem hjl) hl e he hb) hbit
      rw [this] at hi; cases hi
theorem stg_before {l : List Oper} {k i s : Nat} {o : Oper} {cs : List Nat} {listed : Array Bool} (hch : chainOk l k cs = true) (hc : Closed l listed) (ho : l[i]? = some o) (hr : ∀ e ∈ o.after, Region.binds .any e = true → listed.getD e.on false = true) (hi : listed.getD i false = false) (hs : cs[s]? = some i) : stg cs listed = s :=
  stg_of (by have := (List.getElem?_eq_some_iff.1 hs).1; omega) (stg_parts hch hc ho hr hi hs).1 (stg_parts hch hc ho hr hi hs).2
theorem stg_at {l : List Oper} {k i : Nat} {o : Oper} {cs : List Nat} {listed : Array Bool} (hch : chainOk l k cs = true) (hc : Closed l listed) (ho : l[i]? = some o) (hr : ∀ e ∈ o.after, Region.binds .any e = true → listed.getD e.on false = true) (hi : listed.getD i false = false) : cs[stg cs listed]? = some i ∨ i ∉ cs := by
  by_cases hm : i ∈ cs
  · obtain ⟨s, hs⟩ := List.getElem?_of_mem hm
    refine .inl ?_
    rw [stg_before hch hc ho hr hi hs]; exact hs
  · exact .inr hm
theorem stg_set {l : List Oper} {k i : Nat} {o : Oper} {cs : List Nat} {listed : Array Bool} (hch : chainOk l k cs = true) (hsz : i < listed.size) (hc : Closed l listed) (ho : l[i]? = some o) (hr : ∀ e ∈ o.after, Region.binds .any e = true → listed.getD e.on false = true) (hi : listed.getD i false = false) : stg cs (listed.setIfInBounds i true) = if i ∈ cs then stg cs listed + 1 else stg cs listed := by
  by_cases hm : i ∈ cs
  · rw [if_pos hm]
    obtain ⟨s, hs⟩ := List.getElem?_of_mem hm
    obtain ⟨hb, ha⟩ := stg_parts hch hc ho hr hi hs
    rw [stg_before hch hc ho hr hi hs]
    refine stg_of (by have := (List.getElem?_eq_some_iff.1 hs).1; omega) (fun s' i' hs' hi' => ?_) (fun s' i' hs' hi' => ?_)
    · by_cases e : s' = s
      · subst e
        rw [hs] at hi'; cases hi'
        exact getD_set_same hsz
      · have := ((chain_spec hch).2 s s' i i' hs hi' (Ne.symm e)).1
        rw [getD_set_ne (Ne.symm this)]
        exact hb s' i' (by omega) hi'
    · have := ((chain_spec hch).2 s s' i i' hs hi' (by omega)).1
      rw [getD_set_ne (Ne.symm this)]
      exact ha s' i' (by omega) hi'
  · rw [if_neg hm]
    unfold stg
    congr 1
    apply List.filter_congr
    intro j hj
    rw [getD_set_ne (fun e => hm (by rw [← e]; exact hj))]
theorem w_drawX {id : Nat} (b : Nat) (cs : List Nat) (os : Nat → Obj) {l : List Oper} (k : Nat) (pr : Nat → List Nat) (φ : Nat → Value → Mem → Hp → Prop) (hm : P.follows .mixedOrders = true) (hok : drawOk l k pr = true) (hch : chainOk l k cs = true) (ts : List (Nat × List Nat)) (hex : exOk l k pr ts = true)
    (henv : ((List.range k).all fun i => match dstAt l i with | some t => (lk (wo ts env) t).isNone && Nat.blt t n | none => true) = true)
    (hst : ∀ i, i < k → ∀ v m1 m2 h, m.le m1 → m1.le m2 → φ i v m1 h → φ i v m2 h)
    (hob : ∀ i o, i < k → l[i]? = some o → ∀ s, (cs[s]? = some i ∨ i ∉ cs) → ∀ m', m.le m' → ∀ (vs : Nat → Value) (Hs : Nat → Hp), (∀ j ∈ pr i, φ j (vs j) m' (Hs j)) → EStep P n l.toArray Q o (penv l vs (pr i) ++ envAt ts i env) m' H b (os s) (os (if i ∈ cs then s + 1 else s)) (φ i))
    (hend : ∀ m', m.le m' → ∀ vs Hs, (∀ i, i < k → φ i (vs i) m' (Hs i)) → WL P n K l.toArray Q (l.drop k) (penv l vs (List.range k) ++ wo ts env) m' (flatAll Hs k ++ (b, os cs.length) :: H)) :
    W P n K (.region id l.toArray true) Q env m ((b, os 0) :: H) := by
  obtain ⟨hk, hpre, htail, hedge⟩ := drawOk_spec hok
  simp only [List.all_eq_true, List.mem_range] at henv
  have henv' : ∀ i, i < k → ∀ t, dstAt l i = some t → lk (wo ts env) t = none := fun i hi t ht => by
    have := henv i hi
    rw [ht] at this
    simp only [Bool.and_eq_true] at this
    simpa using this.1
  have hfit : ∀ i, i < k → ∀ t, dstAt l i = some t → t < n := fun i hi t ht => by
    have := henv i hi
    rw [ht] at this
    simp only [Bool.and_eq_true] at this
    simpa [Nat.blt_eq] using this.2
  intro a0 w0 ha0 hs0
  refine wp_region_any hm ?_
  have key : ∀ (fuel : Nat) (listed : Array Bool) (a : Act) (w : World) (m' : Mem) (vs : Nat → Value) (Hs : Nat → Hp), listed.size = l.length → cnt listed k + fuel = l.length → (∀ j, k ≤ j → listed.getD j false = false) → Closed l listed →
      m.le m' → St K m' (flat Hs listed k ++ (b, os (stg cs listed)) :: H) w → a.tmps.size = n → a.defers = [] → (∀ t v, lk (wo ts env) t = some v → a.tmps[t]? = some v) → (∀ t is v, (t, is) ∈ ts → lk env t = some v → (∀ j, j < k → dstAt l j = some t → listed.getD j false = false) → a.tmps[t]? = some v) →
      (∀ j, j < k → listed.getD j false = true → φ j (vs j) m' (Hs j) ∧ ∀ t, dstAt l j = some t → a.tmps[t]? = some (vs j)) → wpAny P .any l.toArray Q fuel listed a w := by
    intro fuel
    induction fuel with
    | zero =>
      intro listed a w m' vs Hs hsz hcnt hge hc hle hst' hts hdf hfr hfx hφ
      have h1 := cnt_le listed k
      have hck : cnt listed k = k := by omega
      have hkl : k = l.length := by omega
      have hall := cnt_all hck
      refine wpAny_tail hok 0 k listed a w (Nat.le_refl k) (by omega) hsz (fun j hj => by rw [hall j (by omega)]; simp; omega) hc ?_
      have hend' := hend m' hle vs Hs (fun i hi => (hφ i hi (hall i hi)).1)
      refine hend' a w ⟨hts, fun t v ht => ?_, hdf⟩ (by rw [← flat_all k hall, ← stg_all hch hall]; exact hst')
      rcases penv_get ht with ⟨j, hj, hd, rfl⟩ | h2
      · exact (hφ j (by simpa using hj) (hall j (by simpa using hj))).2 t hd
      · exact hfr t v h2
    | succ fuel ih =>
      intro listed a w m' vs Hs hsz hcnt hge hc hle hst' hts hdf hfr hfx hφ
      by_cases hck : cnt listed k = k
      · have hall := cnt_all hck
        refine wpAny_tail hok (fuel + 1) k listed a w (Nat.le_refl k) (by omega) hsz (fun j hj => ?_) hc ?_
        · by_cases hjk : j < k
          · rw [hall j hjk]; simp [hjk]
          · rw [hge j (by omega)]; simp [hjk]
        · have hend' := hend m' hle vs Hs (fun i hi => (hφ i hi (hall i hi)).1)
          refine hend' a w ⟨hts, fun t v ht => ?_, hdf⟩ (by rw [← flat_all k hall, ← stg_all hch hall]; exact hst')
          rcases penv_get ht with ⟨j, hj, hd, rfl⟩ | h2
          · exact (hφ j (by simpa using hj) (hall j (by simpa using hj))).2 t hd
          · exact hfr t v h2
      · obtain ⟨i0, hi0k, hi0f, hi0m⟩ := cnt_some hck
        refine ⟨fun hnil => ?_, fun i hi => ?_⟩
        · exfalso
          have hil : i0 < l.length := by omega
          have hmem : i0 ∈ Region.ready .any l.toArray listed := by
            refine mem_ready.2 ⟨by rw [getD_true (by omega)]; exact hi0f, l[i0], by simp [hil], fun e he hb => hi0m e.on (hedge i0 l[i0] e (List.getElem?_eq_getElem hil) he hb)⟩
          rw [hnil] at hmem; simp at hmem
        · obtain ⟨h1, o, ho, h2⟩ := mem_ready.1 hi
          have ho' : l[i]? = some o := by simpa using ho
          have hil : i < l.length := (List.getElem?_eq_some_iff.1 ho').1
          rw [getD_true (by omega)] at h1
          have hik : i < k := by
            by_cases hik : i < k
            · exact hik
            · exfalso
              have h5 := mask_listed hc i o i0 ho' h2 (htail i (by omega) hil i0 (by omega))
              rw [hi0f] at h5; simp at h5
          obtain ⟨⟨t, ht, huniq⟩, hpr, _⟩ := hpre i hik
          have hprl : ∀ j ∈ pr i, listed.getD j false = true := fun j hj => mask_listed hc i o j ho' h2 (hpr j hj).2
          have hod : o.dst = some t := by simpa [dstAt, ho'] using ht
          have hsg : cs[stg cs listed]? = some i ∨ i ∉ cs := stg_at hch hc ho' h2 h1
          have hstep := hob i o hik ho' _ hsg m' hle vs Hs (fun j hj => (hφ j (hpr j hj).1 (hprl j hj)).1) a w ⟨hts, fun t v hv => ?_, hdf⟩ hst'.mem (fun b ob hb => hst'.heap b ob (List.mem_append_right _ hb)) (hst'.apart b _ (List.mem_append_right _ (.head _)))
          · -- the next state
            have hnext : ∀ v m'' h' w', St ⟨w, m', [b]⟩ m'' ((b, os (if i ∈ cs then stg cs listed + 1 else stg cs listed)) :: h') w' → φ i v m'' h' → wpAny P .any l.toArray Q fuel (listed.setIfInBounds i true) (a.put o.dst v) w' := by
              intro v m'' h' w' hst2 hφv
              have hle2 : m'.le m'' := hst2.le
              refine ih _ _ _ m'' (fun j => if j = i then v else vs j) (fun j => if j = i then h' else Hs j) (by simp [hsz]) (by rw [cnt_set (by omega) h1 k hik]; omega)
                (fun j hj => by rw [getD_set_ne (by omega)]; exact hge j hj) (hc.list (by omega) ho' h2) (hle.trans hle2) ?_ (by rw [hod]; simp [Act.put, hts]) (by rw [hod]; simp [Act.put, hdf]) (fun t' v' hv' => ?_) (fun t' is' v' hm' hv' hun => ?_) (fun j hj hlj => ?_)
              · have := St.call (Hc := [(b, os (stg cs listed))]) (Hr := flat Hs listed k ++ H) (hst'.perm List.perm_middle) hst2
                rw [stg_set hch (by omega) hc ho' h2 h1]
                refine this.perm ?_
                have hp := flat_add (Hs := Hs) (h := h') (by omega) h1 k hik
                refine List.Perm.trans ?_ List.perm_middle.symm
                rw [List.cons_append]
                refine List.Perm.cons _ ?_
                rw [← List.append_assoc]
                exact List.Perm.append_right _ hp
              · have hne : t ≠ t' := fun e => by
                  subst e
                  rw [henv' i hik t ht] at hv'; simp at hv'
                rw [hod]; simp only [Act.put]
                rw [Array.getElem?_setIfInBounds_ne hne]; exact hfr t' v' hv'
              · have hne : t ≠ t' := fun e => by
                  subst e
                  have := hun i hik ht
                  rw [getD_set_same (by omega)] at this; cases this
                rw [hod]; simp only [Act.put]
                rw [Array.getElem?_setIfInBounds_ne hne]
                refine hfx t' is' v' hm' hv' fun j hj hd => ?_
                have := hun j hj hd
                by_cases hji : j = i
                · subst hji; exact h1
                · rw [getD_set_ne hji] at this; exact this
              · by_cases hji : j = i
                · subst hji
                  simp only [if_true]
                  refine ⟨hφv, fun t' ht' => ?_⟩
                  have : t' = t := by rw [ht] at ht'; exact (Option.some.inj ht').symm
                  subst this
                  have hlt : t' < n := hfit j hik t' ht
                  rw [hod]; simp [Act.put, hts, hlt]
                · rw [getD_set_ne hji] at hlj
                  obtain ⟨g1, g2⟩ := hφ j hj hlj
                  simp only [if_neg hji]
                  refine ⟨hst j hj (vs j) m' m'' (Hs j) hle hle2 g1, fun t' ht' => ?_⟩
                  have hne : t ≠ t' := fun e => huniq j hj hji (e ▸ ht')
                  rw [hod]; simp only [Act.put]
                  rw [Array.getElem?_setIfInBounds_ne hne]; exact g2 t' ht'
            unfold wpOp
            rw [ho]
            dsimp only
            split
            · rename_i hw
              rw [if_pos hw] at hstep
              refine .inl (Oper.wp_mono ?_ hstep)
              rintro a' w' ⟨v, m'', h', rfl, h8, h9⟩
              exact hnext v m'' h' w' h8 h9
            · rename_i hw
              rw [if_neg hw] at hstep
              refine hnext undef m' [] w ?_ hstep.2
              rw [← hstep.1]
              exact St.start (H := [(b, os (stg cs listed))]) hst'.mem (fun b' o' hb' => by cases List.mem_singleton.1 hb'; exact hst'.heap _ _ (List.mem_append_right _ (.head _))) (List.pairwise_singleton _ _) (fun b' o' hb' => by cases List.mem_singleton.1 hb'; exact hst'.apart _ _ (List.mem_append_right _ (.head _)))
          · rcases penv_get hv with ⟨j, hj, hd, rfl⟩ | h4
            · exact (hφ j (hpr j hj).1 (hprl j hj)).2 t hd
            · rcases envAt_get h4 with ⟨is, h5, h6, h7⟩ | h5
              · refine hfx t is v h5 h7 fun j hj hd => ?_
                cases hlj : listed.getD j false with
                | false => rfl
                | true =>
                  exfalso
                  rcases (exOk_spec hex h5 h6).1 j hj hd with e | hbit
                  · subst e; rw [hlj] at h1; cases h1
                  · have hjl : j < l.length := by omega
                    have := mask_listed hc j _ i (List.getElem?_eq_getElem hjl) (fun e he hb => hc j _ (List.getElem?_eq_getElem hjl) hlj e he hb) hbit
                    rw [this] at h1; cases h1
              · exact hfr t v h5
  refine key l.length _ a0 _ m (fun _ => undef) (fun _ => []) (by simp) (by rw [cnt_zero k (fun i _ => by simp [Array.getD_eq_getD_getElem?, Array.getElem?_replicate]; split <;> rfl)]; simp) (fun j _ => by simp [Array.getD_eq_getD_getElem?, Array.getElem?_replicate]; split <;> rfl)
    (fun i o _ hi => by simp [Array.getD_eq_getD_getElem?, Array.getElem?_replicate] at hi; split at hi <;> simp at hi) (Mem.le.refl m) ?_ ha0.size ha0.defers (fun t v h => ha0.get t v (wo_get h)) (fun t _ v _ h _ => ha0.get t v h) (fun j _ hj => by simp [Array.getD_eq_getD_getElem?, Array.getElem?_replicate] at hj; split at hj <;> simp at hj)
  rw [flat_none k (fun i _ => by simp [Array.getD_eq_getD_getElem?, Array.getElem?_replicate]; split <;> rfl)]
  rw [show stg cs (Array.replicate l.toArray.size false) = 0 from stg_of (Nat.zero_le _) (fun s' i h _ => by omega) (fun s' i _ _ => by simp [Array.getD_eq_getD_getElem?, Array.getElem?_replicate]; split <;> rfl)]
  exact { hs0 with }

def ObX (P : Program) (n : Nat) (Q : Exit → Act → World → Prop) (b : Nat) (cs : List Nat) (os : Nat → Obj) (ts : List (Nat × List Nat)) (env : Env) (m : Mem) (H : Hp) (l : List Oper) (prs : List (List Nat)) (L : Phis) (i : Nat) (φ : Phi) : Prop :=
  ∃ o, l[i]? = some o ∧ ∀ s, (cs[s]? = some i ∨ i ∉ cs) → ∀ m', m.le m' → Preds l L m' (prs.getD i []) (envAt ts i env) fun env' => EStep P n l.toArray Q o env' m' H b (os s) (os (if i ∈ cs then s + 1 else s)) φ.p
def DRX (P : Program) (n : Nat) (K : Ctx) (Q : Exit → Act → World → Prop) (b : Nat) (cs : List Nat) (os : Nat → Obj) (ts : List (Nat × List Nat)) (env : Env) (m : Mem) (H : Hp) (id : Nat) (l : List Oper) (prs : List (List Nat)) (i : Nat) (L : Phis) : Prop :=
  (∀ j, j < i → ∃ φ, lkp L j = some φ ∧ ObX P n Q b cs os ts env m H l prs L j φ) → W P n K (.region id l.toArray true) Q env m ((b, os 0) :: H)
theorem drx_step {b : Nat} {cs : List Nat} {os : Nat → Obj} {ts : List (Nat × List Nat)} {id : Nat} {l : List Oper} {prs : List (List Nat)} {i : Nat} {L : Phis} (φ : Phi) (hok : prsOk prs = true) (hob : ObX P n Q b cs os ts env m H l prs L i φ) (h : DRX P n K Q b cs os ts env m H id l prs (i + 1) ((i, φ) :: L)) : DRX P n K Q b cs os ts env m H id l prs i L := by
  intro hp
  have hlt : ∀ i, ∀ j ∈ prs.getD i [], j < i := by
    intro i j hj
    simp only [prsOk, List.all_eq_true, List.mem_range] at hok
    by_cases hi : i < prs.length
    · have := hok i hi j hj
      simpa [Nat.blt_eq] using this
    · rw [List.getD_eq_getElem?_getD, List.getElem?_eq_none (by omega)] at hj
      simp at hj
  refine h fun j hj => ?_
  by_cases hji : j = i
  · subst hji
    obtain ⟨o, ho, h1⟩ := hob
    exact ⟨φ, by simp [lkp], o, ho, fun s hs m' hm => preds_ext _ _ _ (fun x hx => by have := hlt j x hx; omega) (h1 s hs m' hm)⟩
  · obtain ⟨ψ, h1, o, ho, h2⟩ := hp j (by omega)
    exact ⟨ψ, by simp [lkp, nbeq (Ne.symm hji), h1], o, ho, fun s hs m' hm => preds_ext _ _ _ (fun x hx => by have := hlt j x hx; omega) (h2 s hs m' hm)⟩


theorem drx_start {b : Nat} {cs : List Nat} {os : Nat → Obj} {o0 : Obj} {id : Nat} {l : List Oper} (h0 : os 0 = o0) (ts : List (Nat × List Nat)) (prs : List (List Nat)) (h : DRX P n K Q b cs os ts env m H id l prs 0 []) : W P n K (.region id l.toArray true) Q env m ((b, o0) :: H) := by
  subst h0
  exact h fun j hj => by omega
theorem preds_imp {l : List Oper} {L : Phis} {m : Mem} {G G' : Env → Prop} (hg : ∀ e, G e → G' e) : ∀ (js : List Nat) (env : Env), Preds l L m js env G → Preds l L m js env G'
  | [], env, h => hg env h
  | j :: js, env, h => by
    unfold Preds at h ⊢
    split at h
    · exact preds_imp hg js _ h
    · exact fun v hv => preds_imp hg js _ (h v hv)
    · exact fun b => preds_imp hg js _ (h b)
    · exact h.elim
theorem drx_done {b : Nat} {cs : List Nat} {os : Nat → Obj} {oe : Obj} {ts : List (Nat × List Nat)} {id : Nat} {l : List Oper} {prs : List (List Nat)} {k : Nat} {L : Phis} (hm : P.follows .mixedOrders = true) (hok : drawOk l k (fun i => prs.getD i []) = true) (hch : chainOk l k cs = true) (hoe : os cs.length = oe) (hex : exOk l k (fun i => prs.getD i []) ts = true)
    (henv : ((List.range k).all fun i => match dstAt l i with | some t => (lk (wo ts env) t).isNone && Nat.blt t n | none => true) = true)
    (h : ∀ m', m.le m' → Fin' l L m' k (wo ts env) ((b, oe) :: H) fun env' H' => WL P n K l.toArray Q (l.drop k) env' m' H') : DRX P n K Q b cs os ts env m H id l prs k L := by
  intro hp
  subst hoe
  refine w_drawX b cs os k (fun i => prs.getD i []) (phiAt L) hm hok hch ts hex henv (fun i hi v m1 m2 hh h1 h2 h3 => ?_) (fun i o hi ho s hs m' hle vs Hs hpr => ?_) (fun m' hle vs Hs hφ => ?_)
  · unfold phiAt at h3 ⊢
    cases hl : lkp L i with
    | none => rw [hl] at h3; exact h3.elim
    | some φ => rw [hl] at h3; exact φ.up h2 h3
  · obtain ⟨φ, h1, o', ho', h2⟩ := hp i hi
    rw [ho] at ho'
    cases ho'
    obtain ⟨env', h3, h4⟩ := preds_use _ (envAt ts i env) _ hpr (h2 s hs m' hle)
    intro a w ha hf hh hb
    have h5 := h3 a w ⟨ha.size, fun t v hv => ?_, ha.defers⟩ hf hh hb
    · have e : phiAt L i = φ.p := by funext v m h; simp [phiAt, h1]
      rw [e]; exact h5
    · have hcov : ∀ t v, lk (penv l vs (prs.getD i []) ++ envAt ts i env) t = some v → a.tmps[t]? = some v := ha.get
      rcases h4 t v hv with ⟨j, hj, hd, rfl⟩ | h6
      · obtain ⟨_, hpre, _, _⟩ := drawOk_spec hok
        refine hcov t _ ?_
        rw [lk_append, penv_in (k := k) (fun i' hi' t' ht' => by
          obtain ⟨⟨t'', h7, h8⟩, _⟩ := hpre i' hi'
          rw [ht'] at h7; cases h7; exact h8) (fun x hx => ((hpre i hi).2.1 x hx).1) hj hd]
      · exact env_mem hcov h6 (fun j hj t' ht' => by
          obtain ⟨_, hpre, _, _⟩ := drawOk_spec hok
          have hjk := ((hpre i hi).2.1 j hj).1
          simp only [List.all_eq_true, List.mem_range] at henv
          have := henv j hjk
          rw [ht'] at this
          simp only [Bool.and_eq_true] at this
          cases hx : lk (envAt ts i env) t' with
          | none => rfl
          | some u =>
            exfalso
            rcases envAt_get hx with ⟨is, h7, h8, _⟩ | h7
            · exact (exOk_spec hex h7 h8).2 j hj ht'
            · rw [h7] at this; simp at this)
  · obtain ⟨env', H', h1, h2, h3⟩ := fin_use k (wo ts env) ((b, os cs.length) :: H) _ hφ (h m' hle)
    intro a w ha hs
    refine h1 a w ⟨ha.size, fun t v hv => ?_, ha.defers⟩ (hs.perm h3)
    rcases h2 t v hv with ⟨j, hj, hd, rfl⟩ | h6
    · obtain ⟨_, hpre, _, _⟩ := drawOk_spec hok
      refine ha.get t _ ?_
      rw [lk_append, penv_in (k := k) (fun i' hi' t' ht' => by
        obtain ⟨⟨t'', h7, h8⟩, _⟩ := hpre i' hi'
        rw [ht'] at h7; cases h7; exact h8) (fun x hx => by simpa using hx) (by simpa using hj) hd]
    · exact env_mem ha.get h6 (fun j hj t' ht' => by
        simp only [List.all_eq_true, List.mem_range] at henv
        have := henv j (by simpa using hj)
        rw [ht'] at this
        simp only [Bool.and_eq_true] at this
        simpa using this.1)

section
variable {b : Nat} {cs : List Nat} {os : Nat → Obj} {l : List Oper} {id : Nat} {prs : List (List Nat)} {i : Nat} {L : Phis} {o : Oper}
theorem drx_op {ts : List (Nat × List Nat)} (φ : Phi) (hok : prsOk prs = true) (ho : l[i]? = some o) (hob : ∀ m', m.le m' → Preds l L m' (prs.getD i []) (envAt ts i env) fun env' => DStep P n l.toArray Q o env' m' H φ.p) (h : DRX P n K Q b cs os ts env m H id l prs (i + 1) ((i, φ) :: L)) (hn : i ∉ cs := by decide) : DRX P n K Q b cs os ts env m H id l prs i L :=
  drx_step φ hok ⟨o, ho, fun s _ m' hm => by rw [if_neg hn]; exact preds_imp (fun e h => h.e) _ _ (hob m' hm)⟩ h
theorem drx_val {ts : List (Nat × List Nat)} {c : Value} (hok : prsOk prs = true) (ho : l[i]? = some o) (hob : ∀ m', m.le m' → Preds l L m' (prs.getD i []) (envAt ts i env) fun env' => DStep P n l.toArray Q o env' m' H (Phi.val c).p) (h : DRX P n K Q b cs os ts env m H id l prs (i + 1) ((i, .val c) :: L)) (hn : i ∉ cs := by decide) : DRX P n K Q b cs os ts env m H id l prs i L :=
  drx_op _ hok ho hob h hn
theorem drx_call {ts : List (Nat × List Nat)} (s0 : Nat) (φ : Phi) (hok : prsOk prs = true) (ho : l[i]? = some o) (hob : ∀ m', m.le m' → Preds l L m' (prs.getD i []) (envAt ts i env) fun env' => EStep P n l.toArray Q o env' m' H b (os s0) (os (s0 + 1)) φ.p) (h : DRX P n K Q b cs os ts env m H id l prs (i + 1) ((i, φ) :: L)) (hs : cs[s0]? = some i := by rfl) (hnd : cs.Nodup := by decide) : DRX P n K Q b cs os ts env m H id l prs i L :=
  drx_step φ hok ⟨o, ho, fun s h1 m' hm => by
    have hm1 : i ∈ cs := List.mem_of_getElem? hs
    have h2 := h1.resolve_right fun h => h hm1
    have e : s = s0 := (List.getElem?_inj (List.getElem?_eq_some_iff.1 h2).1 hnd).1 (h2.trans hs.symm)
    rw [if_pos hm1, e]
    exact hob m' hm⟩ h
end
section
variable {b : Nat} {o0 o1 : Obj} {l : List Oper} {d : Option Nat} {ty : TypeId} {pos : String} {aft : Array Edge} {g : Option (Nat × Bool)} {f : FuncId} {args : List Operand} {tys : Array TypeId} {vs : List Value}
theorem es_call' {φ : Phi} {R' : Value → Mem → Prop} (hg : gd l.toArray env g = some true) (ha : evs env args = some vs) (hc : Callable P f) (hf : Does P f vs.toArray m [(b, o0)] fun v m' H' => R' v m' ∧ H' = [(b, o1)]) (hR : ∀ v m', m.le m' → R' v m' → φ.p v m' []) :
    EStep P n l.toArray Q ⟨d, .call ⟨.value (.func f), args.toArray, tys⟩, ty, pos, aft, g⟩ env m H b o0 o1 φ.p := by
  intro a w hfr hfit hh hb
  rw [if_pos (hfr.wanted hg)]
  refine wp_enter (call_run ha hc a w hfr) (hf w hfit (fun b' o' hb' => hh b' o' (by rw [List.mem_singleton.1 hb']; exact .head _)) (List.pairwise_singleton _ _) (fun b' o' hb' => by cases List.mem_singleton.1 hb'; exact hb)) fun v w' hv => ?_
  obtain ⟨m', H', hst, hR', rfl⟩ := hv
  exact ⟨v, m', [], rfl, hst, hR v m' hst.le hR'⟩
theorem es_call {R : Value → Mem → Prop} {up : ∀ v m m', m.le m' → R v m → R v m'} (hg : gd l.toArray env g = some true) (ha : evs env args = some vs) (hc : Callable P f) (hf : Does P f vs.toArray m [(b, o0)] fun v m' H' => R v m' ∧ H' = [(b, o1)]) :
    EStep P n l.toArray Q ⟨d, .call ⟨.value (.func f), args.toArray, tys⟩, ty, pos, aft, g⟩ env m H b o0 o1 (Phi.ret R up).p := es_call' (φ := .ret R up) hg ha hc hf fun _ _ _ h => ⟨h, rfl⟩
theorem es_callc {c : Value} (hg : gd l.toArray env g = some true) (ha : evs env args = some vs) (hc : Callable P f) (hf : Does P f vs.toArray m [(b, o0)] fun v _ H' => v = c ∧ H' = [(b, o1)]) :
    EStep P n l.toArray Q ⟨d, .call ⟨.value (.func f), args.toArray, tys⟩, ty, pos, aft, g⟩ env m H b o0 o1 (Phi.val c).p := es_call' (φ := .val c) hg ha hc hf fun _ _ _ h => ⟨h, rfl⟩
end
end
end Go.Cy

/- certificate.writer.factors. -/
namespace Go.Cy
open Go Go.Proofs
set_option maxRecDepth 20000

structure Fct where
  scale : Int
  unit : Int
  powers : List (Int × Int × Int)
def PwC (_ : Mem) (vs : List Value) (p : Int × Int × Int) : Prop := vs = [.int .i64 p.1, .int .i64 p.2.1, .int .i64 p.2.2]
def FcC (m : Mem) (vs : List Value) (f : Fct) : Prop := ∃ n1 s1 n2 s2 pw, vs = [.bool n1, s1, .bool n2, s2, pw] ∧ In m (.agg #[.bool n1, s1]) f.scale ∧ In m (.agg #[.bool n2, s2]) f.unit ∧ Sl 3 PwC m pw f.powers
theorem PwC.up : ∀ m m' vs a, m.le m' → PwC m vs a → PwC m' vs a := fun _ _ _ _ _ h => h
theorem FcC.up : ∀ m m' vs a, m.le m' → FcC m vs a → FcC m' vs a := fun _ _ _ _ hm ⟨n1, s1, n2, s2, pw, h1, h2, h3, h4⟩ => ⟨n1, s1, n2, s2, pw, h1, h2.up hm, h3.up hm, h4.up PwC.up hm⟩
theorem In.slice {m : Mem} {n : Bool} {s : Value} {z : Int} (h : In m (.agg #[.bool n, s]) z) : ∃ ad l c, s = .slice ad l c := by
  obtain ⟨neg, s', a, e, h1, _⟩ := h
  cases e
  exact h1.slice
def pwOk (p : Int × Int × Int) : Bool := decide (1 ≤ p.1) && decide (p.1 ≤ 4) && decide (0 ≤ p.2.1) && decide (p.2.1 ≤ 1073741824) && decide (1 ≤ p.2.2) && decide (p.2.2 ≤ 1073741824)
theorem pwOk.bd {p : Int × Int × Int} (h : pwOk p = true) : 1 ≤ p.1 ∧ p.1 ≤ 4 ∧ 0 ≤ p.2.1 ∧ p.2.1 ≤ 1073741824 ∧ 1 ≤ p.2.2 ∧ p.2.2 ≤ 1073741824 := by
  simp only [pwOk, Bool.and_eq_true, decide_eq_true_eq] at h
  omega

def pwB (p : Int × Int × Int) : List UInt8 := (((itB p.1 ++ [46]) ++ itB p.2.1) ++ [94]) ++ itB p.2.2
def factHd (f : Fct) : List UInt8 := [102, 97, 99, 116, 111, 114] ++ spaced [decB f.scale, decB f.unit]
def factB (f : Fct) : List UInt8 := (factHd f ++ cat (fun p => 32 :: pwB p) f.powers) ++ [10]
def factsHd (n : Nat) : List UInt8 := ([102, 97, 99, 116, 111, 114, 115] ++ 32 :: itB n) ++ [10]
def factsB (fs : List Fct) : List UInt8 := factsHd fs.length ++ cat factB fs

theorem factors_ok {m : Mem} {b : Nat} {L : List UInt8} {Hb : Hp} {v : Value} {fs : List Fct} (hB : Bld 117 b L Hb) (hv : Sl 5 FcC m v fs) (hT : Tab Tryz.prog m) (hl1 : fs.length ≤ 35184372088832) (hl2 : ∀ f ∈ fs, f.powers.length ≤ 35184372088832 ∧ (∀ p ∈ f.powers, pwOk p = true) ∧ dlen f.scale.natAbs ≤ 1000000000000 ∧ dlen f.unit.natAbs ≤ 1000000000000) (hlen : L.length + (factsB fs).length ≤ 35184372088832) :
    Does Tryz.prog 73 #[.pointer (some ⟨b, 0, none⟩), v] m Hb fun r _ H' => r = .tuple #[] ∧ ∃ L', Wrote L (factsB fs) L' ∧ Bld 117 b L' H' := by
  obtain ⟨ad, cap, rfl⟩ := hv.slice
  have hit := itB_len (n := (fs.length : Int)) (by omega) (by omega)
  have htx : factsB fs = factsHd fs.length ++ cat factB fs := rfl
  have hhd : (factsHd fs.length).length = 9 + (itB fs.length).length := by simp [factsHd]; omega
  rw [htx, List.length_append] at hlen
  refine enter Tryz.func73 rfl rfl ?_
  intro K hm0 hks
  refine wsr ?_
  refine wmv ?_
  refine wl_calld0 rfl rfl rfl Tryz.c67 (start_ok (s := [102, 97, 99, 116, 111, 114, 115]) bt_writer hB (by simp; omega)) ?_; rintro v1 m1 H1 hm1 ⟨rfl, hB1⟩
  refine wnr ?_
  refine wmv ?_
  refine wmv ?_
  refine wv (x_len Tryz.underlying59 rfl rfl) ?_
  refine wl_calld0 rfl rfl rfl Tryz.c70 (number_ok (n := fs.length) bt_writer (hT.up hm1) hB1 (by omega) (by omega) (by simp; omega)) ?_; rintro v2 m2 H2 hm2 ⟨rfl, hB2⟩
  refine wnr ?_
  refine wmv ?_
  refine wl_calld0 rfl rfl rfl Tryz.c71 (wend_ok bt_writer hB2 (by simp; omega)) ?_; rintro v3 m3 H3 hm3 ⟨rfl, hB3⟩
  refine wnr ?_
  refine wmv ?_
  refine wv (x_len Tryz.underlying59 rfl rfl) ?_
  refine wmv ?_
  refine wns ?_
  refine w_block ?_
  have hm03 := hm1.trans (hm2.trans hm3)
  refine w_loop (fun r m' H' env' => ∃ i Lc, m3.le m' ∧ r + i = fs.length ∧ Wrote L (factsHd fs.length ++ cat factB (fs.take i)) Lc ∧ Bld 117 b Lc H' ∧ env' = [(0, .pointer (some ⟨b, 0, none⟩)), (16, .slice ad fs.length cap), (17, .int .i64 fs.length), (18, .int .i64 (i : Nat))]) fs.length [(0, .pointer (some ⟨b, 0, none⟩)), (16, .slice ad fs.length cap), (17, .int .i64 fs.length), (18, .int .i64 (0 : Nat))] ⟨0, _, Mem.le.refl _, rfl, (Wrote.all L (factsHd fs.length)).as (by simp [cat]), by simpa [factsHd] using hB3, rfl⟩ (by repeat' (first | exact trivial | exact rfl | exact lk_int rfl (by omega) | apply And.intro)) ?_
  rintro r m4 H4 env' ⟨i, Lc, hm4, hri, hW, hB4, rfl⟩
  have hWl := hW.hi
  rw [List.length_append] at hWl
  refine wsr ?_
  refine wv (x_lss rfl rfl) ?_
  refine wns ?_
  refine w_seq ?_
  refine w_if rfl (fun h1 => ?_) (fun h1 => ?_)
  · skip
    have hi : i < fs.length := by omega
    have hcl := congrArg List.length (cat_split factB hi)
    obtain ⟨bl, ol, vs, rfl, hvl, ⟨n1, s1, n2, s2, pw, rfl, hI1, hI2, hpw⟩, hrow⟩ := hv.get hi
    obtain ⟨sa1, sl1, sc1, rfl⟩ := hI1.slice
    obtain ⟨sa2, sl2, sc2, rfl⟩ := hI2.slice
    obtain ⟨ad', cap', rfl⟩ := hpw.slice
    obtain ⟨hli, hpo, hds, hdu⟩ := hl2 _ (List.getElem_mem hi)
    have hlb : (factB fs[i]).length = (factHd fs[i]).length + (cat (fun p => 32 :: pwB p) fs[i].powers).length + 1 := by simp [factB]; omega
    have hlh : (factHd fs[i]).length = 6 + (spaced [decB fs[i].scale, decB fs[i].unit]).length := by simp [factHd]; omega
    rw [List.length_append, List.length_append] at hcl
    refine w_skip ?_
    refine at_seq ?_
    refine w_seq ?_
    refine w_block ?_
    refine wsr ?_
    refine wv (x_index Tryz.underlying59 Tryz.size135 rfl rfl (j := i) (by omega) (by omega)) ?_
    refine wv (x_loads Tryz.agg135 (by exact Tryz.size135) rfl (((hrow.up (hm03.trans hm4)).heap))) ?_
    refine wl_alloc rfl rfl Tryz.zero135 ?_; intro b5
    refine wl_storeAll rfl (by exact Tryz.size135) rfl rfl (by simp [Value.oneCell']) rfl ?_
    refine wnr ?_
    refine wmv ?_
    refine wl_calld1 rfl rfl rfl Tryz.c67 (start_ok (s := [102, 97, 99, 116, 111, 114]) bt_writer hB4 (by simp; omega)) ?_; rintro v5 m5 H5 hm5 ⟨rfl, hB5⟩
    refine wns ?_
    refine w_seq ?_
    have hm05 := hm03.trans (hm4.trans hm5)
    refine dr_start [] [[], [], [1], [2], [], [4], [5], [3, 6]] ?_
    refine dr_val rfl rfl (fun m' hm' => ds_val rfl (x_move rfl)) ?_
    refine dr_val rfl rfl (fun m' hm' => ds_val rfl (x_fieldAddr Tryz.underlying135 rfl Tryz.size49 rfl)) ?_
    refine dr_val rfl rfl (fun m' hm' => ds_val rfl (x_loads Tryz.agg49 (by exact Tryz.size49) rfl (rowHs (vs := [_, _]) (.head _) 0 rfl))) ?_
    refine dr_val rfl rfl (fun m' hm' => ds_callc rfl rfl Tryz.c129 (DecFormat_ok (z := fs[i].scale) (hI1.up (hm05.trans hm')) hds)) ?_
    refine dr_val rfl rfl (fun m' hm' => ds_val rfl (x_fieldAddr Tryz.underlying135 rfl Tryz.size49 rfl)) ?_
    refine dr_val rfl rfl (fun m' hm' => ds_val rfl (x_loads Tryz.agg49 (by exact Tryz.size49) rfl (rowHs (vs := [_, _]) (.head _) 2 rfl))) ?_
    refine dr_val rfl rfl (fun m' hm' => ds_callc rfl rfl Tryz.c129 (DecFormat_ok (z := fs[i].unit) (hI2.up (hm05.trans hm')) hdu)) ?_
    refine dr_op (.ret (fun v m => ∃ b, v = .slice (some ⟨b, 0, none⟩) 2 2 ∧ Row m [] b 0 ([.string (B (decB fs[i].scale)), .string (B (decB fs[i].unit))])) (fun _ _ _ hm ⟨b, e, h⟩ => ⟨b, e, h.up hm⟩)) rfl rfl (fun m' hm' => by show DStep _ _ _ _ _ _ _ _ _; exact ds_buildSlice rfl Tryz.underlying129 Tryz.size9 Tryz.zero9 rfl rfl rfl rfl rfl) ?_
    refine dr_done (k := 8) Tryz.mixed rfl rfl rfl fun m6 hm_m6 v7 h7 => ?_
    show WL _ _ _ _ _ _ _ _ _
    obtain ⟨bw, rfl, hbw⟩ := h7
    refine wl_calld1 rfl rfl rfl Tryz.c68 (wordm_ok (ws := [decB fs[i].scale, decB fs[i].unit]) bt_writer hB5 hbw (by simp; omega) (by simp)) ?_; rintro v7 m7 H7 hm7 ⟨rfl, hB7⟩
    refine wns ?_
    refine w_seq ?_
    refine wsr ?_
    refine wv (x_fieldAddr Tryz.underlying135 rfl Tryz.size133 rfl) ?_
    refine wv (x_load Tryz.plain133 rfl (rowH1 (.head _) rfl)) ?_
    refine wv (x_len Tryz.underlying133 rfl rfl) ?_
    refine wmv ?_
    refine wns ?_
    refine w_block ?_
    have hm07 := hm05.trans (hm_m6.trans hm7)
    refine w_drop1 ?_
    refine w_loop (fun r m' H' env' => ∃ j Lc', m7.le m' ∧ r + j = fs[i].powers.length ∧ Wrote L ((factsHd fs.length ++ cat factB (fs.take i)) ++ (factHd fs[i] ++ cat (fun p => 32 :: pwB p) (fs[i].powers.take j))) Lc' ∧ Bld 117 b Lc' H' ∧ env' = [(0, .pointer (some ⟨b, 0, none⟩)), (16, .slice (some ⟨bl, ol, none⟩) fs.length cap), (17, .int .i64 fs.length), (18, .int .i64 (i : Nat)), (34, .slice ad' fs[i].powers.length cap'), (35, .int .i64 fs[i].powers.length), (36, .int .i64 (j : Nat))]) fs[i].powers.length [(0, .pointer (some ⟨b, 0, none⟩)), (16, .slice (some ⟨bl, ol, none⟩) fs.length cap), (17, .int .i64 fs.length), (18, .int .i64 (i : Nat)), (34, .slice ad' fs[i].powers.length cap'), (35, .int .i64 fs[i].powers.length), (36, .int .i64 (0 : Nat))] ⟨0, _, Mem.le.refl _, rfl, (hW.app (q := factHd fs[i])).as (by simp [cat]), by rw [List.append_assoc] at hB7; exact hB7, rfl⟩ (by repeat' (first | exact trivial | exact rfl | exact lk_int rfl (by omega) | apply And.intro)) ?_
    rintro r2 m8 H8 env' ⟨j, Lc', hm8, hrj, hW8, hB8, rfl⟩
    have hWl8 := hW8.hi
    rw [List.length_append, List.length_append, List.length_append] at hWl8
    refine wsr ?_
    refine wv (x_lss rfl rfl) ?_
    refine wns ?_
    refine w_seq ?_
    refine w_if rfl (fun h2 => ?_) (fun h2 => ?_)
    · skip
      have hj : j < fs[i].powers.length := by omega
      have hcl2 := congrArg List.length (cat_split (fun p => 32 :: pwB p) hj)
      rw [List.length_append, List.length_append, List.length_cons] at hcl2
      obtain ⟨bq, oq, vs', rfl, hvl', hpe, hrow'⟩ := hpw.get hj
      have hpb := pwOk.bd (hpo _ (List.getElem_mem hj))
      generalize hpp : fs[i].powers[j] = p at hpe hpb hcl2
      obtain rfl := hpe
      refine w_skip ?_
      refine at_seq ?_
      refine w_seq ?_
      refine w_block ?_
      refine wsr ?_
      refine wv (x_index Tryz.underlying133 Tryz.size139 rfl rfl (j := j) (by omega) (by omega)) ?_
      refine wv (x_loads Tryz.agg139 (by exact Tryz.size139) rfl (((hrow'.up (hm07.trans hm8)).heap))) ?_
      refine wl_alloc rfl rfl Tryz.zero139 ?_; intro b7
      refine wl_storeAll rfl (by exact Tryz.size139) rfl rfl (by simp [Value.oneCell']) rfl ?_
      refine wns ?_
      refine w_seq ?_
      refine wsr ?_
      refine wmv ?_
      refine wl_calld1 rfl rfl rfl Tryz.c75 (full_ok hB8) ?_; rintro v9 m9 H9 hm9 ⟨rfl, rfl⟩
      refine wns ?_
      refine w_if rfl (fun h6 => ?_) (fun h6 => ?_)
      · skip
        refine w_ret ?_
        refine at_then_ret ?_
        refine at_block_ret ?_
        refine at_then_ret ?_
        refine at_then_ret ?_
        refine at_block_ret ?_
        refine at_then_ret ?_
        refine at_block_ret ?_
        refine at_then_ret ?_
        refine at_then_ret ?_
        refine at_block_ret ?_
        refine at_drop1 ?_
        refine at_end (res0 rfl) ?_
        refine ⟨rfl, Lc', ?_, hB8⟩
        have e : factsB fs = ((factsHd fs.length ++ cat factB (fs.take i)) ++ (factHd fs[i] ++ cat (fun p => 32 :: pwB p) (fs[i].powers.take j))) ++ (cat (fun p => 32 :: pwB p) (fs[i].powers.drop j) ++ [10] ++ cat factB (fs.drop (i + 1))) := by
          rw [htx, cat_split factB hi, factB]
          conv => lhs; rw [← List.take_append_drop j fs[i].powers, cat_append]
          simp
        rw [e]
        exact hW8.stop _ h6
      · skip
        have t1 := itB_len (n := p.1) (by omega) (by omega)
        have t2 := itB_len (n := p.2.1) (by omega) (by omega)
        have t3 := itB_len (n := p.2.2) (by omega) (by omega)
        have tp : pwB p = (((itB p.1 ++ [46]) ++ itB p.2.1) ++ [94]) ++ itB p.2.2 := rfl
        have tl : (pwB p).length ≤ 65 := by rw [tp]; simp; omega
        have hm09 := hm07.trans (hm8.trans hm9)
        refine w_skip ?_
        refine at_seq ?_
        refine dr_start [] [[], [], [1], [2], [3], [], [5], [6], [4, 7], [8], [], [10], [11], [9, 12], [13]] ?_
        refine dr_val rfl rfl (fun m' hm' => ds_val rfl (x_move rfl)) ?_
        refine dr_val rfl rfl (fun m' hm' => ds_val rfl (x_fieldAddr Tryz.underlying139 rfl Tryz.size3 rfl)) ?_
        refine dr_val rfl rfl (fun m' hm' => ds_val rfl (x_load Tryz.plain3 rfl (rowH1 (.head _) rfl))) ?_
        refine dr_val rfl rfl (fun m' hm' => ds_callc rfl rfl Tryz.c127 (Itoa_ok (n := p.1) (hT.up (hm09.trans hm')) (by omega) (by omega))) ?_
        refine dr_val rfl rfl (fun m' hm' => ds_val rfl (x_concat rfl rfl (by rw [show (ByteArray.mk [46].toArray) = B [46] from rfl, B_size, B_size]; simp; unfold itB at t1; omega))) ?_
        refine dr_val rfl rfl (fun m' hm' => ds_val rfl (x_fieldAddr Tryz.underlying139 rfl Tryz.size3 rfl)) ?_
        refine dr_val rfl rfl (fun m' hm' => ds_val rfl (x_load Tryz.plain3 rfl (rowH1 (.head _) rfl))) ?_
        refine dr_val rfl rfl (fun m' hm' => ds_callc rfl rfl Tryz.c127 (Itoa_ok (n := p.2.1) (hT.up (hm09.trans hm')) (by omega) (by omega))) ?_
        refine dr_val rfl rfl (fun m' hm' => ds_val rfl (x_concat rfl rfl (by rw [show (ByteArray.mk [46].toArray) = B [46] from rfl, B_append, B_size, B_size]; simp; unfold itB at t1 t2; omega))) ?_
        refine dr_val rfl rfl (fun m' hm' => ds_val rfl (x_concat rfl rfl (by rw [show (ByteArray.mk [46].toArray) = B [46] from rfl, show (ByteArray.mk [94].toArray) = B [94] from rfl, B_append, B_append, B_size, B_size]; simp; unfold itB at t1 t2; omega))) ?_
        refine dr_val rfl rfl (fun m' hm' => ds_val rfl (x_fieldAddr Tryz.underlying139 rfl Tryz.size3 rfl)) ?_
        refine dr_val rfl rfl (fun m' hm' => ds_val rfl (x_load Tryz.plain3 rfl (rowH1 (.head _) rfl))) ?_
        refine dr_val rfl rfl (fun m' hm' => ds_callc rfl rfl Tryz.c127 (Itoa_ok (n := p.2.2) (hT.up (hm09.trans hm')) (by omega) (by omega))) ?_
        refine dr_val rfl rfl (fun m' hm' => ds_val rfl (x_concat rfl rfl (by rw [show (ByteArray.mk [46].toArray) = B [46] from rfl, show (ByteArray.mk [94].toArray) = B [94] from rfl, B_append, B_append, B_append, B_size, B_size]; simp; unfold itB at t1 t2 t3; omega))) ?_
        refine dr_op (.ret (fun v m => ∃ b, v = .slice (some ⟨b, 0, none⟩) 1 1 ∧ Row m [] b 0 ([.string ((((B (itB p.1) ++ ByteArray.mk [46].toArray) ++ B (itB p.2.1)) ++ ByteArray.mk [94].toArray) ++ B (itB p.2.2))])) (fun _ _ _ hm ⟨b, e, h⟩ => ⟨b, e, h.up hm⟩)) rfl rfl (fun m' hm' => by show DStep _ _ _ _ _ _ _ _ _; exact ds_buildSlice rfl Tryz.underlying129 Tryz.size9 Tryz.zero9 rfl rfl rfl rfl rfl) ?_
        refine dr_done (k := 15) Tryz.mixed rfl rfl rfl fun m10 hm_m10 v14 h14 => ?_
        show WL _ _ _ _ _ _ _ _ _
        obtain ⟨bw, rfl, hbw⟩ := h14
        rw [show (ByteArray.mk [46].toArray) = B [46] from rfl, show (ByteArray.mk [94].toArray) = B [94] from rfl, B_append, B_append, B_append, B_append, ← tp] at hbw
        refine wl_calld1 rfl rfl rfl Tryz.c68 (wordm_ok (ws := [pwB p]) bt_writer hB8 hbw (by rw [spaced_one]; simp; omega) (by simp)) ?_; rintro v11 m11 H11 hm11 ⟨rfl, hB11⟩
        refine wl_nil ?_
        refine at_block_normal ?_
        refine at_seq ?_
        refine w_region ?_
        refine wv (x_add rfl rfl (wrap_i64 (by omega) (by omega))) ?_
        refine wmv ?_
        refine wl_nil ?_
        refine at_drop1 ?_
        exact at_again (r2 - 1) [(0, .pointer (some ⟨b, 0, none⟩)), (16, .slice (some ⟨bl, ol, none⟩) fs.length cap), (17, .int .i64 fs.length), (18, .int .i64 (i : Nat)), (34, .slice (some ⟨bq, oq, none⟩) fs[i].powers.length cap'), (35, .int .i64 fs[i].powers.length), (36, .int .i64 (j + 1 : Nat))] (by omega) ⟨j + 1, _, hm8.trans (hm9.trans (hm_m10.trans hm11)), by omega, (hW8.app (q := spaced [pwB p])).as (by rw [cat_snoc _ hj, hpp, spaced_one]; simp), hB11, rfl⟩ (by repeat' (first | exact trivial | exact rfl | exact lk_int rfl (by omega) | apply And.intro))
    · skip
      obtain rfl : j = fs[i].powers.length := by omega
      rw [List.take_length] at hW8 hWl8
      refine w_exit ?_
      refine at_then_exit ?_
      refine at_then_exit ?_
      refine at_block_hit ?_
      refine at_seq ?_
      refine w_region ?_
      refine wmv ?_
      refine wl_calld0 rfl rfl rfl Tryz.c71 (wend_ok bt_writer hB8 (by omega)) ?_; rintro v8 m8' H8' hm8' ⟨rfl, hB8'⟩
      refine wl_nil ?_
      refine at_block_normal ?_
      refine at_seq ?_
      refine w_region ?_
      refine wv (x_add rfl rfl (wrap_i64 (by omega) (by omega))) ?_
      refine wmv ?_
      refine wl_nil ?_
      exact at_again (r - 1) [(0, .pointer (some ⟨b, 0, none⟩)), (16, .slice (some ⟨bl, ol, none⟩) fs.length cap), (17, .int .i64 fs.length), (18, .int .i64 (i + 1 : Nat))] (by omega) ⟨i + 1, _, hm4.trans (hm5.trans (hm_m6.trans (hm7.trans (hm8.trans hm8')))), by omega, (hW8.app (q := [10])).as (by rw [cat_snoc _ hi, factB]; simp), hB8', rfl⟩ (by repeat' (first | exact trivial | exact rfl | exact lk_int rfl (by omega) | apply And.intro))
  · skip
    obtain rfl : i = fs.length := by omega
    rw [List.take_length] at hW
    refine w_exit ?_
    refine at_then_exit ?_
    refine at_then_exit ?_
    refine at_block_hit ?_
    refine at_end_normal (res0 rfl) ?_
    exact ⟨rfl, Lc, hW, hB4⟩
end Go.Cy


/- certificate.reader: factors. -/
namespace Go.Cy
open Go Go.Proofs
set_option maxRecDepth 20000

def rdPow (w : List UInt8) (s : Rs) : Option ((Int × Int × Int) × Rs) := match cutB 46 w with
  | (lv, some q) => match cutB 94 q with
    | (ix, some ex) => if s.2 = true then some (((rdNum lv s).1, (rdNum ix (rdNum lv s).2).1, (rdNum ex (rdNum ix (rdNum lv s).2).2).1), (rdNum ex (rdNum ix (rdNum lv s).2).2).2) else none
    | (_, none) => none
  | (_, none) => none
def rdPows : List (List UInt8) → Rs → Option (List (Int × Int × Int) × Rs)
  | [], s => some ([], s)
  | w :: ws, s => match rdPow w s with
    | some (p, s') => (rdPows ws s').map fun x => (p :: x.1, x.2)
    | none => none
def rdFact (s : Rs) : Fct × Rs := match (rdLine [102, 97, 99, 116, 111, 114] s).1 with
  | w0 :: w1 :: ps => match rdPows ps (rdInt w1 (rdInt w0 (rdLine [102, 97, 99, 116, 111, 114] s).2).2).2 with
    | some (l, s3) => (⟨(rdInt w0 (rdLine [102, 97, 99, 116, 111, 114] s).2).1, (rdInt w1 (rdInt w0 (rdLine [102, 97, 99, 116, 111, 114] s).2).2).1, l⟩, s3)
    | none => (⟨0, 0, []⟩, ((rdLine [102, 97, 99, 116, 111, 114] s).2.1, false))
  | _ => (⟨0, 0, []⟩, ((rdLine [102, 97, 99, 116, 111, 114] s).2.1, false))
theorem rdNum_rest (L : List UInt8) (s : Rs) : (rdNum L s).2.1 = s.1 := by unfold rdNum; split <;> rfl
theorem rdInt_rest (L : List UInt8) (s : Rs) : (rdInt L s).2.1 = s.1 := by unfold rdInt; split <;> rfl
def FctV (m : Mem) (v : Value) (f : Fct) : Prop := ∃ n1 a1 l1 c1 n2 a2 l2 c2 a3 l3 c3, v = .agg #[.bool n1, .slice a1 l1 c1, .bool n2, .slice a2 l2 c2, .slice a3 l3 c3] ∧ Ic m (.agg #[.bool n1, .slice a1 l1 c1]) f.scale ∧ Ic m (.agg #[.bool n2, .slice a2 l2 c2]) f.unit ∧ Sl 3 PwC m (.slice a3 l3 c3) f.powers
theorem FctV.zero {m : Mem} : FctV m (.agg #[.bool false, .slice none 0 0, .bool false, .slice none 0 0, .slice none 0 0]) ⟨0, 0, []⟩ := ⟨_, _, _, _, _, _, _, _, _, _, _, rfl, Ic.zero, Ic.zero, Sl.nil⟩
def pwc (l : List (Int × Int × Int)) : List Value := (l.map fun (p : Int × Int × Int) => [Value.int .i64 p.1, .int .i64 p.2.1, .int .i64 p.2.2]).flatten
theorem pwc_len (l : List (Int × Int × Int)) : (pwc l).length = l.length * 3 := by
  induction l with
  | nil => rfl
  | cons p l ih => simp [pwc] at ih ⊢; omega
theorem Sl.pw {m : Mem} {ad : Option Addr} {cap n : Nat} {l : List (Int × Int × Int)} (hn : n = l.length) (hc : n ≤ cap) (hr : 0 < n → ∃ b o, ad = some ⟨b, o, none⟩ ∧ Row m [] b o (pwc l)) : Sl 3 PwC m (.slice ad n cap) l := by
  subst hn
  refine ⟨ad, cap, l.map fun (p : Int × Int × Int) => [Value.int .i64 p.1, .int .i64 p.2.1, .int .i64 p.2.2], rfl, hc, by simp, fun us hu => ?_, fun i x hx => ?_, hr⟩
  · obtain ⟨v, _, rfl⟩ := List.mem_map.1 hu; rfl
  · exact ⟨_, by rw [List.getElem?_map, hx]; rfl, rfl⟩
theorem perm3 {α : Type} {x y z : α} {l : List α} : (x :: y :: z :: l).Perm (z :: x :: y :: l) := (List.Perm.cons x (.swap ..)).trans (.swap ..)
theorem perm3' {α : Type} {x y z : α} {l : List α} : (x :: y :: z :: l).Perm (y :: z :: x :: l) := (List.Perm.swap ..).trans (List.Perm.cons y (.swap ..))
theorem rfactors_ok {m : Mem} {b : Nat} {s : Rs} (hw : Wd m) (hE : Er m) (hl : s.1.length ≤ 1048576) : Does Tryz.prog 80 #[.pointer (some ⟨b, 0, none⟩)] m [(b, rdO s)] fun v m' H' => FctV m' v (rdFact s).1 ∧ H' = [(b, rdO (rdFact s).2)] := by
  have hle := rdLine_le (F := [102, 97, 99, 116, 111, 114]) (s := s)
  obtain ⟨ws, s', hr⟩ : ∃ ws s', rdLine [102, 97, 99, 116, 111, 114] s = (ws, s') := ⟨_, _, rfl⟩
  rw [hr] at hle
  simp only at hle
  refine enter Tryz.func80 rfl rfl ?_
  intro K hm0 hks
  by_cases hws : ws.length < 2
  · skip
    have hN : rdFact s = (⟨0, 0, []⟩, (s'.1, false)) := by
      unfold rdFact
      rw [hr]
      rcases ws with _ | ⟨w0, _ | ⟨w1, ps⟩⟩
      · rfl
      · rfl
      · exact absurd hws (by simp only [List.length_cons]; omega)
    refine wsr ?_
    refine wl_alloc rfl rfl Tryz.zero135 ?_; intro b2
    refine wnr ?_
    refine wmv ?_
    refine wl_calld1 rfl rfl rfl Tryz.c132 (line_ok (F := [102, 97, 99, 116, 111, 114]) hw hl) ?_; rintro v1 m1 H1 hm1 ⟨h1, rfl⟩
    rw [hr] at h1 ⊢
    simp only at h1
    unfold rdO
    obtain ⟨ad, cap, rfl, hcap, _⟩ := h1
    refine was ?_
    refine wns ?_
    refine w_seq ?_
    refine wsr ?_
    refine wmv ?_
    refine wv (x_len Tryz.underlying129 rfl rfl) ?_
    refine wv ((x_lss rfl rfl).as (bool_t (by omega))) ?_
    refine wns ?_
    refine w_true rfl ?_
    refine wsr ?_
    refine wmv ?_
    refine wv (x_nilCheck rfl) ?_
    refine wv (x_fieldAddr Tryz.underlying128 rfl Tryz.size4 rfl) ?_
    refine wl_front1 ?_
    refine wl_store rfl Tryz.size4 rfl rfl rfl (by simp) ?_
    refine wnr ?_
    refine wv (x_build (cs := [_, _, _, _, _]) Tryz.underlying135 Tryz.places135 Tryz.zero135 rfl rfl) ?_
    refine wl_front1 ?_
    refine wl_storeAll rfl (by exact Tryz.size135) rfl rfl (by simp [Value.oneCell']) rfl ?_
    refine wns ?_
    refine w_ret ?_
    refine at_then_ret ?_
    refine at_endx (x := (b, rdO (s'.1, false))) (by first | exact .head _ | exact .tail _ (.head _) | exact .tail _ (.tail _ (.head _)) | exact .tail _ (.tail _ (.tail _ (.head _))) | exact .tail _ (.tail _ (.tail _ (.tail _ (.head _))))) (resA rfl ⟨⟨_, _, _, rfl, rowH0 (.head _), .inr ⟨Tryz.agg135, Tryz.size135, rfl⟩⟩, trivial⟩) ?_
    rw [hN]
    exact ⟨FctV.zero, rfl⟩
  · skip
    obtain ⟨w0, w1, ps, rfl⟩ : ∃ w0 w1 ps, ws = w0 :: w1 :: ps := by
      rcases ws with _ | ⟨w0, _ | ⟨w1, ps⟩⟩
      · simp at hws
      · simp at hws
      · exact ⟨_, _, _, rfl⟩
    have hw0 := hle.2.1 w0 (by simp)
    have hw1 := hle.2.1 w1 (by simp)
    have hcl : 2 ≤ (w0 :: w1 :: ps).length := by simp
    refine wsr ?_
    refine wl_alloc rfl rfl Tryz.zero135 ?_; intro b2
    refine wnr ?_
    refine wmv ?_
    refine wl_calld1 rfl rfl rfl Tryz.c132 (line_ok (F := [102, 97, 99, 116, 111, 114]) hw hl) ?_; rintro v1 m1 H1 hm1 ⟨h1, rfl⟩
    rw [hr] at h1 ⊢
    simp only at h1
    obtain ⟨ad, cap, rfl, hcap, h2⟩ := h1
    refine was ?_
    refine wns ?_
    refine w_seq ?_
    refine wsr ?_
    refine wmv ?_
    refine wv (x_len Tryz.underlying129 rfl rfl) ?_
    refine wv ((x_lss rfl rfl).as (bool_f (by omega))) ?_
    refine wns ?_
    refine w_false rfl ?_
    refine w_skip ?_
    refine at_seq ?_
    refine w_seq ?_
    have hW : Wv m1 (.slice ad (w0 :: w1 :: ps).length cap) (w0 :: w1 :: ps) := ⟨_, _, rfl, hcap, h2⟩
    obtain ⟨bw, ow, had, hrow0⟩ := hW.row (H := []) (i := 0) (by omega)
    obtain ⟨bw', ow', had', hrow1⟩ := hW.row (H := []) (i := 1) (by omega)
    rw [had] at had'
    cases had'
    replace hrow0 : Row m1 [] bw (ow + 0 * 1) [.string (B w0)] := hrow0
    replace hrow1 : Row m1 [] bw (ow + 1 * 1) [.string (B w1)] := hrow1
    subst had
    refine w_perm (.swap _ _ _) ?_
    refine drx_start (b := b) (cs := [4, 9]) (os := fun s => [rdO s', rdO (rdInt w0 s').2, rdO (rdInt w1 (rdInt w0 s').2).2].getD s (rdO s')) rfl [] [[], [], [1], [2], [0, 3], [], [], [6], [7], [5, 8], [4, 9], []] ?_
    refine drx_val rfl rfl (fun m' hm' => ds_val rfl (x_move rfl)) ?_
    refine drx_val rfl rfl (fun m' hm' => ds_val rfl (x_move rfl)) ?_
    refine drx_val rfl rfl (fun m' hm' => ds_val rfl (x_index Tryz.underlying129 Tryz.size9 rfl rfl (j := 0) (by omega) (by omega))) ?_
    refine drx_val rfl rfl (fun m' hm' => ds_val rfl (x_load Tryz.plain9 rfl ((hrow0.up hm').heap))) ?_
    refine drx_call 0 (.ret (fun v m' => Ic m' v (rdInt w0 s').1) (fun _ _ _ hm h => h.up hm)) rfl rfl (fun m' hm' => es_call rfl rfl Tryz.c135 (integer_ok (by omega))) ?_
    refine drx_val rfl rfl (fun m' hm' => ds_val rfl (x_move rfl)) ?_
    refine drx_val rfl rfl (fun m' hm' => ds_val rfl (x_move rfl)) ?_
    refine drx_val rfl rfl (fun m' hm' => ds_val rfl (x_index Tryz.underlying129 Tryz.size9 rfl rfl (j := 1) (by omega) (by omega))) ?_
    refine drx_val rfl rfl (fun m' hm' => ds_val rfl (x_load Tryz.plain9 rfl ((hrow1.up hm').heap))) ?_
    refine drx_call 1 (.ret (fun v m' => Ic m' v (rdInt w1 (rdInt w0 s').2).1) (fun _ _ _ hm h => h.up hm)) rfl rfl (fun m' hm' => es_call rfl rfl Tryz.c135 (integer_ok (by omega))) ?_
    refine drx_op (.ret (fun v m' => ∃ n1 a1 l1 c1 n2 a2 l2 c2, v = .agg #[.bool n1, .slice a1 l1 c1, .bool n2, .slice a2 l2 c2, .slice none 0 0] ∧ Ic m' (.agg #[.bool n1, .slice a1 l1 c1]) (rdInt w0 s').1 ∧ Ic m' (.agg #[.bool n2, .slice a2 l2 c2]) (rdInt w1 (rdInt w0 s').2).1) (fun _ _ _ hm ⟨n1, a1, l1, c1, n2, a2, l2, c2, e, h, h'⟩ => ⟨n1, a1, l1, c1, n2, a2, l2, c2, e, h.up hm, h'.up hm⟩)) rfl rfl (fun m' hm' v4 h4 v9 h9 => by obtain ⟨n1, a1, l1, c1, rfl⟩ := Ic.agg h4; obtain ⟨n2, a2, l2, c2, rfl⟩ := Ic.agg h9; exact ds_ex rfl (x_build (cs := [_, _, _, _, _]) Tryz.underlying135 Tryz.places135 Tryz.zero135 rfl rfl) ⟨n1, a1, l1, c1, n2, a2, l2, c2, rfl, h4, h9⟩) ?_
    refine drx_op (.box 135 [.bool false, .slice none 0 0, .bool false, .slice none 0 0, .slice none 0 0]) rfl rfl (fun m' hm' => ds_alloc rfl Tryz.zero135) ?_
    refine drx_done (k := 12) (oe := rdO (rdInt w1 (rdInt w0 s').2).2) Tryz.mixed rfl rfl rfl rfl rfl fun m2 hm_m2 b4 v10 h10 v9 h9 v4 h4 => ?_
    show WL _ _ _ _ _ _ _ _ _
    obtain ⟨n1, a1, l1, c1, n2, a2, l2, c2, rfl, hz1, hz2⟩ := h10
    refine wl_storeAll rfl (by exact Tryz.size135) rfl rfl (by simp [Value.oneCell']) rfl ?_
    refine wns ?_
    refine w_seq ?_
    refine wsr ?_
    refine wmv ?_
    refine wv (x_slice (lo := 2) (hi := (w0 :: w1 :: ps).length) Tryz.underlying129 Tryz.size9 rfl (⟨_, by first | rfl | exact lk_int rfl (by omega)⟩) (rfl) (by omega) (by omega)) ?_
    refine wv (x_len Tryz.underlying129 rfl rfl) ?_
    refine wmv ?_
    refine wns ?_
    refine w_block ?_
    have hWp := Wv.drop hW (k := 2) (by omega)
    obtain ⟨ad2, had2⟩ : ∃ ad2, ad2 = offTo (some ⟨bw, ow, none⟩) 2 1 cap := ⟨_, rfl⟩
    obtain ⟨cap2, hcap2⟩ : ∃ cap2, cap2 = cap - 2 := ⟨_, rfl⟩
    rw [← had2, ← hcap2] at hWp ⊢
    replace hWp : Wv m1 (.slice ad2 ps.length cap2) ps := hWp
    have hpl : ps.length ≤ 1048576 := by have := hle.2.2.1; simp at this; omega
    refine w_perm (.cons _ (.swap _ _ _)) ?_
    have hm12 := hm1.trans hm_m2
    refine w_loop (fun r m' H' env' => ∃ i a c pls st rest Hs, i + r = ps.length ∧ m2.le m' ∧ rest = ps.drop i ∧ pls.length = i ∧ rdPows ps (rdInt w1 (rdInt w0 s').2).2 = (rdPows rest st).map (fun x => (pls ++ x.1, x.2)) ∧ Own (.slice a pls.length c) 3 139 (pwc pls) Hs ∧ st.1 = s'.1 ∧ H' = (b4, cl 135 [.bool n1, .slice a1 l1 c1, .bool n2, .slice a2 l2 c2, .slice a pls.length c]) :: (b2, cl 135 [.bool false, .slice none 0 0, .bool false, .slice none 0 0, .slice none 0 0]) :: (b, rdO st) :: Hs ∧ env' = [(0, .pointer (some ⟨b, 0, none⟩)), (2, .pointer (some ⟨b2, 0, none⟩)), (4, .pointer (some ⟨b4, 0, none⟩)), (34, .slice ad2 ps.length cap2), (35, .int .i64 ps.length), (36, .int .i64 (i : Nat))]) ps.length [(0, .pointer (some ⟨b, 0, none⟩)), (2, .pointer (some ⟨b2, 0, none⟩)), (4, .pointer (some ⟨b4, 0, none⟩)), (34, .slice ad2 ps.length cap2), (35, .int .i64 ps.length), (36, .int .i64 (0 : Nat))] ⟨0, none, 0, [], _, ps, [], by omega, Mem.le.refl _, rfl, rfl, by cases rdPows ps (rdInt w1 (rdInt w0 s').2).2 <;> simp, Own.nil _ _, by rw [rdInt_rest, rdInt_rest], rfl, rfl⟩ (by repeat' (first | exact trivial | exact rfl | exact lk_int rfl (by omega) | apply And.intro)) ?_
    rintro r m3 H' env' ⟨i, a, c, pls, st, rest, Hs, hi, hm3, hrest, hpll, hpp, hown, hst, rfl, rfl⟩
    have hm03 := hm12.trans hm3
    refine wsr ?_
    refine wv (x_lss rfl rfl) ?_
    refine wns ?_
    refine w_seq ?_
    refine w_if rfl (fun h3 => ?_) (fun h3 => ?_)
    · skip
      have hiq : i < ps.length := by omega
      rw [List.drop_eq_getElem_cons hiq] at hrest
      have hqi := hle.2.1 ps[i] (List.mem_cons_of_mem _ (List.mem_cons_of_mem _ (List.getElem_mem hiq)))
      subst hrest
      obtain ⟨bx, ox, rfl, hrow⟩ := (hWp.up (hm_m2.trans hm3)).row (H := (b4, cl 135 [.bool n1, .slice a1 l1 c1, .bool n2, .slice a2 l2 c2, .slice a pls.length c]) :: (b2, cl 135 [.bool false, .slice none 0 0, .bool false, .slice none 0 0, .slice none 0 0]) :: (b, rdO st) :: Hs) hiq
      rw [rdPows] at hpp
      rcases hc : cutB 46 ps[i] with ⟨lv, _ | q⟩
      · skip
        have hN : rdPow ps[i] st = none := by unfold rdPow; rw [hc]
        refine w_skip ?_
        refine at_seq ?_
        refine w_seq ?_
        refine w_block ?_
        refine wsr ?_
        refine wv (x_index Tryz.underlying129 Tryz.size9 rfl rfl (j := i) (by omega) (by omega)) ?_
        refine wv (x_load Tryz.plain9 rfl (hrow)) ?_
        refine was ?_
        refine wnr ?_
        refine wmv ?_
        refine wl_callp rfl rfl rfl Tryz.c136 (Cut_ok (c := 46) (L := ps[i]) (hw.up hm03) (by omega)) ?_; rintro v4 m4 hm4 h4
        rw [hc] at h4
        obtain rfl := h4
        refine wmv ?_
        refine wex ?_
        refine wex ?_
        refine wex ?_
        refine was ?_
        refine was ?_
        refine was ?_
        refine wnr ?_
        refine wmv ?_
        refine wl_callp rfl rfl rfl Tryz.c136 (Cut_ok (c := 94) (L := []) (hw.up (hm03.trans hm4)) (by simp)) ?_; rintro v5 m5 hm5 h5
        obtain ⟨s5, u5, f5, rfl⟩ := cut_form (c := 94) (L := []) h5
        unfold rdO
        refine wmv ?_
        refine wex ?_
        refine wex ?_
        refine wex ?_
        refine was ?_
        refine was ?_
        refine was ?_
        refine wns ?_
        refine w_seq ?_
        refine wsr ?_
        refine wmv ?_
        refine wv (x_not rfl rfl) ?_
        refine wmv ?_
        refine wl_off rfl rfl rfl ?_
        refine wl_off rfl rfl rfl ?_
        refine wv (x_pick_t rfl rfl) ?_
        refine wmv ?_
        refine wl_off rfl rfl rfl ?_
        refine wl_off rfl rfl rfl ?_
        refine wl_off rfl rfl rfl ?_
        refine wl_off rfl rfl rfl ?_
        refine wl_off rfl rfl rfl ?_
        refine wv (x_pick_t rfl rfl) ?_
        refine wns ?_
        refine w_true rfl ?_
        refine wsr ?_
        refine wmv ?_
        refine wv (x_nilCheck rfl) ?_
        refine wv (x_fieldAddr Tryz.underlying128 rfl Tryz.size4 rfl) ?_
        refine wl_front2 ?_
        refine wl_store rfl Tryz.size4 rfl rfl rfl (by simp) ?_
        refine wnr ?_
        refine wv (x_build (cs := [_, _, _, _, _]) Tryz.underlying135 Tryz.places135 Tryz.zero135 rfl rfl) ?_
        refine wl_front2 ?_
        refine wl_storeAll rfl (by exact Tryz.size135) rfl rfl (by simp [Value.oneCell']) rfl ?_
        refine wns ?_
        refine w_ret ?_
        refine at_then_ret ?_
        refine at_block_ret ?_
        refine at_then_ret ?_
        refine at_then_ret ?_
        refine at_block_ret ?_
        refine at_then_ret ?_
        refine at_endx (x := (b, rdO (st.1, false))) (by first | exact .head _ | exact .tail _ (.head _) | exact .tail _ (.tail _ (.head _)) | exact .tail _ (.tail _ (.tail _ (.head _))) | exact .tail _ (.tail _ (.tail _ (.tail _ (.head _))))) (resA rfl ⟨⟨_, _, _, rfl, rowH0 (.head _), .inr ⟨Tryz.agg135, Tryz.size135, rfl⟩⟩, trivial⟩) ?_
        rw [show rdFact s = (⟨0, 0, []⟩, (s'.1, false)) by unfold rdFact; rw [hr]; simp only [hpp, hN, Option.map_none]]
        exact ⟨FctV.zero, by rw [hst]; rfl⟩
      · skip
        have hLe := cutB_some hc
        have hlvl : lv.length ≤ 1048576 ∧ q.length ≤ 1048576 := by rw [hLe] at hqi; simp at hqi; omega
        rcases hd : cutB 94 q with ⟨ix, _ | ex⟩
        · skip
          have hN : rdPow ps[i] st = none := by unfold rdPow; rw [hc]; simp only [hd]
          refine w_skip ?_
          refine at_seq ?_
          refine w_seq ?_
          refine w_block ?_
          refine wsr ?_
          refine wv (x_index Tryz.underlying129 Tryz.size9 rfl rfl (j := i) (by omega) (by omega)) ?_
          refine wv (x_load Tryz.plain9 rfl (hrow)) ?_
          refine was ?_
          refine wnr ?_
          refine wmv ?_
          refine wl_callp rfl rfl rfl Tryz.c136 (Cut_ok (c := 46) (L := ps[i]) (hw.up hm03) (by omega)) ?_; rintro v4 m4 hm4 h4
          rw [hc] at h4
          obtain rfl := h4
          refine wmv ?_
          refine wex ?_
          refine wex ?_
          refine wex ?_
          refine was ?_
          refine was ?_
          refine was ?_
          refine wnr ?_
          refine wmv ?_
          refine wl_callp rfl rfl rfl Tryz.c136 (Cut_ok (c := 94) (L := q) (hw.up (hm03.trans hm4)) (by omega)) ?_; rintro v5 m5 hm5 h5
          rw [hd] at h5
          obtain rfl := h5
          unfold rdO
          refine wmv ?_
          refine wex ?_
          refine wex ?_
          refine wex ?_
          refine was ?_
          refine was ?_
          refine was ?_
          refine wns ?_
          refine w_seq ?_
          refine wsr ?_
          refine wmv ?_
          refine wv (x_not rfl rfl) ?_
          refine wmv ?_
          refine wmv ?_
          refine wv (x_not rfl rfl) ?_
          refine wv (x_pick_f rfl rfl) ?_
          refine wmv ?_
          refine wl_off rfl rfl rfl ?_
          refine wl_off rfl rfl rfl ?_
          refine wl_off rfl rfl rfl ?_
          refine wl_off rfl rfl rfl ?_
          refine wl_off rfl rfl rfl ?_
          refine wv (x_pick_t rfl rfl) ?_
          refine wns ?_
          refine w_true rfl ?_
          refine wsr ?_
          refine wmv ?_
          refine wv (x_nilCheck rfl) ?_
          refine wv (x_fieldAddr Tryz.underlying128 rfl Tryz.size4 rfl) ?_
          refine wl_front2 ?_
          refine wl_store rfl Tryz.size4 rfl rfl rfl (by simp) ?_
          refine wnr ?_
          refine wv (x_build (cs := [_, _, _, _, _]) Tryz.underlying135 Tryz.places135 Tryz.zero135 rfl rfl) ?_
          refine wl_front2 ?_
          refine wl_storeAll rfl (by exact Tryz.size135) rfl rfl (by simp [Value.oneCell']) rfl ?_
          refine wns ?_
          refine w_ret ?_
          refine at_then_ret ?_
          refine at_block_ret ?_
          refine at_then_ret ?_
          refine at_then_ret ?_
          refine at_block_ret ?_
          refine at_then_ret ?_
          refine at_endx (x := (b, rdO (st.1, false))) (by first | exact .head _ | exact .tail _ (.head _) | exact .tail _ (.tail _ (.head _)) | exact .tail _ (.tail _ (.tail _ (.head _))) | exact .tail _ (.tail _ (.tail _ (.tail _ (.head _))))) (resA rfl ⟨⟨_, _, _, rfl, rowH0 (.head _), .inr ⟨Tryz.agg135, Tryz.size135, rfl⟩⟩, trivial⟩) ?_
          rw [show rdFact s = (⟨0, 0, []⟩, (s'.1, false)) by unfold rdFact; rw [hr]; simp only [hpp, hN, Option.map_none]]
          exact ⟨FctV.zero, by rw [hst]; rfl⟩
        · skip
          have hLf := cutB_some hd
          have hixl : ix.length ≤ 1048576 ∧ ex.length ≤ 1048576 := by have := hlvl.2; rw [hLf] at this; simp at this; omega
          rcases hok : st.2 with _ | _
          · skip
            have hN : rdPow ps[i] st = none := by unfold rdPow; rw [hc]; simp only [hd, hok]; rfl
            refine w_skip ?_
            refine at_seq ?_
            refine w_seq ?_
            refine w_block ?_
            refine wsr ?_
            refine wv (x_index Tryz.underlying129 Tryz.size9 rfl rfl (j := i) (by omega) (by omega)) ?_
            refine wv (x_load Tryz.plain9 rfl (hrow)) ?_
            refine was ?_
            refine wnr ?_
            refine wmv ?_
            refine wl_callp rfl rfl rfl Tryz.c136 (Cut_ok (c := 46) (L := ps[i]) (hw.up hm03) (by omega)) ?_; rintro v4 m4 hm4 h4
            rw [hc] at h4
            obtain rfl := h4
            refine wmv ?_
            refine wex ?_
            refine wex ?_
            refine wex ?_
            refine was ?_
            refine was ?_
            refine was ?_
            refine wnr ?_
            refine wmv ?_
            refine wl_callp rfl rfl rfl Tryz.c136 (Cut_ok (c := 94) (L := q) (hw.up (hm03.trans hm4)) (by omega)) ?_; rintro v5 m5 hm5 h5
            rw [hd] at h5
            obtain rfl := h5
            unfold rdO
            refine wmv ?_
            refine wex ?_
            refine wex ?_
            refine wex ?_
            refine was ?_
            refine was ?_
            refine was ?_
            refine wns ?_
            refine w_seq ?_
            refine wsr ?_
            refine wmv ?_
            refine wv (x_not rfl rfl) ?_
            refine wmv ?_
            refine wmv ?_
            refine wv (x_not rfl rfl) ?_
            refine wv (x_pick_f rfl rfl) ?_
            refine wmv ?_
            refine wmv ?_
            refine wv (x_nilCheck rfl) ?_
            refine wv (x_fieldAddr Tryz.underlying128 rfl Tryz.size4 rfl) ?_
            refine wv (x_load Tryz.plain4 rfl (rowH1 (.tail _ (.tail _ (.head _))) rfl)) ?_
            refine wv ((x_not rfl rfl).as (congrArg Value.bool (by rw [hok]))) ?_
            refine wv (x_pick_f rfl rfl) ?_
            refine wns ?_
            refine w_true rfl ?_
            refine wsr ?_
            refine wmv ?_
            refine wv (x_nilCheck rfl) ?_
            refine wv (x_fieldAddr Tryz.underlying128 rfl Tryz.size4 rfl) ?_
            refine wl_front2 ?_
            refine wl_store rfl Tryz.size4 rfl rfl rfl (by simp) ?_
            refine wnr ?_
            refine wv (x_build (cs := [_, _, _, _, _]) Tryz.underlying135 Tryz.places135 Tryz.zero135 rfl rfl) ?_
            refine wl_front2 ?_
            refine wl_storeAll rfl (by exact Tryz.size135) rfl rfl (by simp [Value.oneCell']) rfl ?_
            refine wns ?_
            refine w_ret ?_
            refine at_then_ret ?_
            refine at_block_ret ?_
            refine at_then_ret ?_
            refine at_then_ret ?_
            refine at_block_ret ?_
            refine at_then_ret ?_
            refine at_endx (x := (b, rdO (st.1, false))) (by first | exact .head _ | exact .tail _ (.head _) | exact .tail _ (.tail _ (.head _)) | exact .tail _ (.tail _ (.tail _ (.head _))) | exact .tail _ (.tail _ (.tail _ (.tail _ (.head _))))) (resA rfl ⟨⟨_, _, _, rfl, rowH0 (.head _), .inr ⟨Tryz.agg135, Tryz.size135, rfl⟩⟩, trivial⟩) ?_
            rw [show rdFact s = (⟨0, 0, []⟩, (s'.1, false)) by unfold rdFact; rw [hr]; simp only [hpp, hN, Option.map_none]]
            exact ⟨FctV.zero, by rw [hst]; rfl⟩
          · skip
            have hN : rdPow ps[i] st = some (((rdNum lv st).1, (rdNum ix (rdNum lv st).2).1, (rdNum ex (rdNum ix (rdNum lv st).2).2).1), (rdNum ex (rdNum ix (rdNum lv st).2).2).2) := by unfold rdPow; rw [hc]; simp only [hd]; rw [if_pos hok]
            rw [hN] at hpp
            simp only at hpp
            refine w_skip ?_
            refine at_seq ?_
            refine w_seq ?_
            refine w_block ?_
            refine wsr ?_
            refine wv (x_index Tryz.underlying129 Tryz.size9 rfl rfl (j := i) (by omega) (by omega)) ?_
            refine wv (x_load Tryz.plain9 rfl (hrow)) ?_
            refine was ?_
            refine wnr ?_
            refine wmv ?_
            refine wl_callp rfl rfl rfl Tryz.c136 (Cut_ok (c := 46) (L := ps[i]) (hw.up hm03) (by omega)) ?_; rintro v4 m4 hm4 h4
            rw [hc] at h4
            obtain rfl := h4
            refine wmv ?_
            refine wex ?_
            refine wex ?_
            refine wex ?_
            refine was ?_
            refine was ?_
            refine was ?_
            refine wnr ?_
            refine wmv ?_
            refine wl_callp rfl rfl rfl Tryz.c136 (Cut_ok (c := 94) (L := q) (hw.up (hm03.trans hm4)) (by omega)) ?_; rintro v5 m5 hm5 h5
            rw [hd] at h5
            obtain rfl := h5
            refine wmv ?_
            refine wex ?_
            refine wex ?_
            refine wex ?_
            refine was ?_
            refine was ?_
            refine was ?_
            refine wns ?_
            refine w_seq ?_
            refine wsr ?_
            refine wmv ?_
            refine wv (x_not rfl rfl) ?_
            refine wmv ?_
            refine wmv ?_
            refine wv (x_not rfl rfl) ?_
            refine wv (x_pick_f rfl rfl) ?_
            refine wmv ?_
            refine wmv ?_
            refine wv (x_nilCheck rfl) ?_
            refine wv (x_fieldAddr Tryz.underlying128 rfl Tryz.size4 rfl) ?_
            refine wv (x_load Tryz.plain4 rfl (rowH1 (.tail _ (.tail _ (.head _))) rfl)) ?_
            refine wv ((x_not rfl rfl).as (congrArg Value.bool (by rw [hok]))) ?_
            refine wv (x_pick_f rfl rfl) ?_
            refine wns ?_
            refine w_false rfl ?_
            refine w_skip ?_
            refine at_seq ?_
            refine w_perm perm3 ?_
            have hm35 := hm4.trans hm5
            refine drx_start (b := b) (cs := [4, 7, 10]) (os := fun s => [rdO st, rdO (rdNum lv st).2, rdO (rdNum ix (rdNum lv st).2).2, rdO (rdNum ex (rdNum ix (rdNum lv st).2).2).2].getD s (rdO st)) rfl [] [[], [0], [], [], [2, 3], [], [], [5, 6], [], [], [8, 9], [4, 7, 10], [11]] ?_
            refine drx_val rfl rfl (fun m' hm' => ds_val rfl (x_fieldAddr Tryz.underlying135 rfl Tryz.size133 rfl)) ?_
            refine drx_val rfl rfl (fun m' hm' => ds_val rfl (x_load Tryz.plain133 rfl (rowH1 (.head _) rfl))) ?_
            refine drx_val rfl rfl (fun m' hm' => ds_val rfl (x_move rfl)) ?_
            refine drx_val rfl rfl (fun m' hm' => ds_val rfl (x_move rfl)) ?_
            refine drx_call 0 (.val _) rfl rfl (fun m' hm' => es_callc rfl rfl Tryz.c78 (number_ok' (s := st) (L := lv) (hE.up (hm03.trans (hm35.trans hm'))) (by omega))) ?_
            refine drx_val rfl rfl (fun m' hm' => ds_val rfl (x_move rfl)) ?_
            refine drx_val rfl rfl (fun m' hm' => ds_val rfl (x_move rfl)) ?_
            refine drx_call 1 (.val _) rfl rfl (fun m' hm' => es_callc rfl rfl Tryz.c78 (number_ok' (s := (rdNum lv st).2) (L := ix) (hE.up (hm03.trans (hm35.trans hm'))) (by omega))) ?_
            refine drx_val rfl rfl (fun m' hm' => ds_val rfl (x_move rfl)) ?_
            refine drx_val rfl rfl (fun m' hm' => ds_val rfl (x_move rfl)) ?_
            refine drx_call 2 (.val _) rfl rfl (fun m' hm' => es_callc rfl rfl Tryz.c78 (number_ok' (s := (rdNum ix (rdNum lv st).2).2) (L := ex) (hE.up (hm03.trans (hm35.trans hm'))) (by omega))) ?_
            refine drx_val rfl rfl (fun m' hm' => ds_val rfl (x_build (cs := [_, _, _]) Tryz.underlying139 Tryz.places139 Tryz.zero139 rfl rfl)) ?_
            refine drx_op (.ret (fun v m => ∃ b, v = .slice (some ⟨b, 0, none⟩) 1 1 ∧ Row m [] b 0 ([.int .i64 (rdNum lv st).1, .int .i64 (rdNum ix (rdNum lv st).2).1, .int .i64 (rdNum ex (rdNum ix (rdNum lv st).2).2).1])) (fun _ _ _ hm ⟨b, e, h⟩ => ⟨b, e, h.up hm⟩)) rfl rfl (fun m' hm' => by show DStep _ _ _ _ _ _ _ _ _; exact ds_buildSlice rfl Tryz.underlying133 Tryz.size139 Tryz.zero139 rfl rfl rfl rfl rfl) ?_
            refine drx_done (k := 13) (oe := rdO (rdNum ex (rdNum ix (rdNum lv st).2).2).2) Tryz.mixed rfl rfl rfl rfl rfl fun m6 hm_m6 v12 h12 => ?_
            show WL _ _ _ _ _ _ _ _ _
            obtain ⟨b81, rfl, hr81⟩ := h12
            refine wl_append (s := 3) (cells := pwc pls) (news := [.int .i64 (rdNum lv st).1, .int .i64 (rdNum ix (rdNum lv st).2).1, .int .i64 (rdNum ex (rdNum ix (rdNum lv st).2).2).1]) rfl rfl rfl Tryz.underlying133 Tryz.underlying133 Tryz.size139 Tryz.bytes139 Tryz.zero139 rfl (by omega) rfl hown (show List.Perm ([_, _, _] ++ _) _ from List.perm_append_comm) rfl rfl (.inr ⟨_, 0, rfl, hr81.heap⟩) (by simp [Value.oneCell']) (by rw [pwc_len]; show (_ + 3) * _ ≤ _; omega) (by rw [pwc_len]; show _ + 3 ≤ _; omega) ?_; intro lv' Hs' hown'; obtain ⟨a', l', c', rfl⟩ := hown'.slice; obtain rfl : l' = pls.length + 1 := (by have := hown'.len; rw [List.length_append, pwc_len] at this; simp at this; omega); refine wl_perm List.perm_append_comm ?_
            refine wv (x_fieldAddr Tryz.underlying135 rfl Tryz.size133 rfl) ?_
            refine wl_front1 ?_
            refine wl_store rfl Tryz.size133 rfl rfl rfl (by simp) ?_
            refine wl_nil ?_
            refine at_block_normal ?_
            refine at_seq ?_
            refine w_region ?_
            refine wv (x_add rfl rfl (wrap_i64 (by omega) (by omega))) ?_
            refine wmv ?_
            refine wl_nil ?_
            refine at_perm (.cons _ (.swap _ _ _)) ?_
            exact at_again (r - 1) [(0, .pointer (some ⟨b, 0, none⟩)), (2, .pointer (some ⟨b2, 0, none⟩)), (4, .pointer (some ⟨b4, 0, none⟩)), (34, .slice (some ⟨bx, ox, none⟩) ps.length cap2), (35, .int .i64 ps.length), (36, .int .i64 ((i + 1) : Nat))] (by omega) ⟨i + 1, a', c', pls ++ [((rdNum lv st).1, (rdNum ix (rdNum lv st).2).1, (rdNum ex (rdNum ix (rdNum lv st).2).2).1)], (rdNum ex (rdNum ix (rdNum lv st).2).2).2, ps.drop (i + 1), Hs', by omega, hm3.trans (hm35.trans hm_m6), rfl, by simp [hpll], by rw [hpp, Option.map_map]; congr 1; funext y; simp, by rw [List.length_append, show pwc (pls ++ [((rdNum lv st).1, (rdNum ix (rdNum lv st).2).1, (rdNum ex (rdNum ix (rdNum lv st).2).2).1)]) = pwc pls ++ [.int .i64 (rdNum lv st).1, .int .i64 (rdNum ix (rdNum lv st).2).1, .int .i64 (rdNum ex (rdNum ix (rdNum lv st).2).2).1] by simp [pwc]]; exact hown', by rw [rdNum_rest, rdNum_rest, rdNum_rest]; exact hst, by rw [List.length_append]; rfl, rfl⟩ (by repeat' (first | exact trivial | exact rfl | exact lk_int rfl (by omega) | apply And.intro))
    · skip
      obtain rfl : i = ps.length := by omega
      rw [List.drop_length] at hrest
      subst hrest
      rw [rdPows, Option.map_some, List.append_nil] at hpp
      have hN : rdFact s = (⟨(rdInt w0 s').1, (rdInt w1 (rdInt w0 s').2).1, pls⟩, st) := by unfold rdFact; rw [hr]; simp only [hpp]
      rcases own_cases hown with ⟨rfl, h6, rfl, h7, rfl⟩ | ⟨b5, junk, rfl, hlc, hcl5, rfl⟩
      · skip
        refine w_exit ?_
        refine at_then_exit ?_
        refine at_then_exit ?_
        refine at_block_hit ?_
        refine at_seq ?_
        refine wsr ?_
        refine wv (x_loads Tryz.agg135 (by exact Tryz.size135) rfl (rowH0 (.head _))) ?_
        refine wl_front1 ?_
        refine wl_storeAll rfl (by exact Tryz.size135) rfl rfl (by simp [Value.oneCell']) rfl ?_
        refine wns ?_
        refine w_ret ?_
        refine at_endx (x := (b, rdO st)) (by first | exact .head _ | exact .tail _ (.head _) | exact .tail _ (.tail _ (.head _)) | exact .tail _ (.tail _ (.tail _ (.head _))) | exact .tail _ (.tail _ (.tail _ (.tail _ (.head _))))) (resA rfl ⟨⟨_, _, _, rfl, rowH0 (.head _), .inr ⟨Tryz.agg135, Tryz.size135, rfl⟩⟩, trivial⟩) ?_
        rw [hN]
        exact ⟨⟨_, _, _, _, _, _, _, _, _, _, _, rfl, hz1.up hm3, hz2.up hm3, Sl.pw rfl (by omega) (fun h => absurd h (by omega))⟩, rfl⟩
      · skip
        refine w_exit ?_
        refine at_then_exit ?_
        refine at_then_exit ?_
        refine at_block_hit ?_
        refine at_seq ?_
        refine wsr ?_
        refine wv (x_loads Tryz.agg135 (by exact Tryz.size135) rfl (rowH0 (.head _))) ?_
        refine wl_front1 ?_
        refine wl_storeAll rfl (by exact Tryz.size135) rfl rfl (by simp [Value.oneCell']) rfl ?_
        refine wns ?_
        refine w_ret ?_
        refine at_perm (List.perm_append_comm (l₁ := [_, _, _]) (l₂ := [_])) ?_
        refine at_freeze ?_; intro hfz
        refine at_endx (x := (b, rdO st)) (by first | exact .head _ | exact .tail _ (.head _) | exact .tail _ (.tail _ (.head _)) | exact .tail _ (.tail _ (.tail _ (.head _))) | exact .tail _ (.tail _ (.tail _ (.tail _ (.head _))))) (resA rfl ⟨⟨_, _, _, rfl, rowH0 (.head _), .inr ⟨Tryz.agg135, Tryz.size135, rfl⟩⟩, trivial⟩) ?_
        rw [hN]
        exact ⟨⟨_, _, _, _, _, _, _, _, _, _, _, rfl, hz1.up (hm3.trans hfz), hz2.up (hm3.trans hfz), Sl.pw rfl hlc (fun h => ⟨b5, 0, rfl, rowM (Mem.add_at _ _ _) fun i hi => by rw [Nat.zero_add]; simp [List.getElem?_append_left hi]⟩)⟩, rfl⟩
end Go.Cy


/- certificate.reader: node. -/
namespace Go.Cy
open Go Go.Proofs
set_option maxRecDepth 20000

def CoV (m : Mem) (v : Value) (c : Co) : Prop := ∃ p f1 f2 f3 g1 g2 g3, v = .agg #[p, f1, f2, f3, g1, g2, g3] ∧ Fc m (.agg #[f1, f2, f3]) c.z1 c.d1 ∧ Fc m (.agg #[g1, g2, g3]) c.z2 c.d2 ∧ Cv m p c.ts ∧ ∃ q : List UInt8, q.length ≤ 1048576 ∧ pCoord q = some c
theorem CoV.up : ∀ m m' v a, m.le m' → CoV m v a → CoV m' v a := fun _ _ _ _ hm ⟨p, f1, f2, f3, g1, g2, g3, h1, h2, h3, h4, h5⟩ => ⟨p, f1, f2, f3, g1, g2, g3, h1, h2.up hm, h3.up hm, h4.up hm, h5⟩
def rdHead (s : Rs) : Int × Int × Rs :=
  if s.2 = false then (0, 0, s)
  else if s.1.take 4 = [108, 101, 97, 102] then (1, 0, (rdWords [108, 101, 97, 102] 0 s).2)
  else if s.1.take 3 = [111, 110, 101] then (2, 1, (rdWords [111, 110, 101] 0 s).2)
  else (3, (rdNum ((rdWords [97, 108, 108] 1 s).1.headD []) (rdWords [97, 108, 108] 1 s).2).1, (rdNum ((rdWords [97, 108, 108] 1 s).1.headD []) (rdWords [97, 108, 108] 1 s).2).2)
noncomputable def rdCells (sub : Rs → Tr Co × Rs) (kind : Int) : Nat → Rs → Tr Co × Rs
  | 0, s => (.nil kind, s)
  | k + 1, s => if s.2 = false then (.nil kind, s) else match pCoord ((rdWords [97, 116] 1 s).1.headD []) with
    | none => (.nil kind, ((rdWords [97, 116] 1 s).2.1, false))
    | some c => (.cons c (sub (rdWords [97, 116] 1 s).2).1 (rdCells sub kind k (sub (rdWords [97, 116] 1 s).2).2).1, (rdCells sub kind k (sub (rdWords [97, 116] 1 s).2).2).2)
def rdTop (d : Nat) (s : Rs) : Rs := if d = 0 ∧ 0 < (rdHead s).2.1 then ((rdHead s).2.2.1, false) else (rdHead s).2.2
mutual
noncomputable def rdNode : Nat → Rs → Tr Co × Rs
  | 0, s => rdCells (fun s => (.nil 0, s)) (rdHead s).1 (rdHead s).2.1.toNat (rdTop 0 s)
  | d + 1, s => rdCells (rdNode d) (rdHead s).1 (rdHead s).2.1.toNat (rdTop (d + 1) s)
end
noncomputable def rdSub : Nat → Rs → Tr Co × Rs
  | 0 => fun s => (.nil 0, s)
  | d + 1 => rdNode d
theorem rdNode_eq (d : Nat) (s : Rs) : rdNode d s = rdCells (rdSub d) (rdHead s).1 (rdHead s).2.1.toNat (rdTop d s) := by
  cases d with
  | zero => rw [rdNode]; rfl
  | succ d => rw [rdNode]; rfl
theorem rdWords_len (F : List UInt8) (n : Nat) (s : Rs) : (rdWords F n s).1.length = n := by
  unfold rdWords
  split
  · rename_i h; exact h.2
  · simp
theorem rdWords_le (F : List UInt8) (n : Nat) (s : Rs) : (rdWords F n s).2.1.length ≤ s.1.length ∧ (∀ w ∈ (rdWords F n s).1, w.length ≤ s.1.length) ∧ ((rdWords F n s).2.2 = true → s.2 = true ∧ (rdWords F n s).2.1.length + 1 + F.length ≤ s.1.length) ∧ ((rdWords F n s).2.2 = false → ∀ w ∈ (rdWords F n s).1, w = []) := by
  have h := rdLine_le (F := F) (s := s)
  unfold rdWords
  split
  · rename_i h1
    exact ⟨h.1, h.2.1, fun _ => h.2.2.2 h1.1, fun e => by cases e⟩
  · refine ⟨h.1, fun w hw => ?_, (fun e => by cases e), fun _ w hw => (List.mem_replicate.1 hw).2⟩
    rw [(List.mem_replicate.1 hw).2]; simp
theorem pCoord_nil : pCoord [] = none := by
  unfold pCoord pCo
  rfl
theorem rdHead_le (s : Rs) : (rdHead s).2.2.1.length ≤ s.1.length := by
  unfold rdHead
  split
  · exact Nat.le_refl _
  split
  · exact (rdWords_le _ _ _).1
  split
  · exact (rdWords_le _ _ _).1
  · show (rdNum _ _).2.1.length ≤ _
    rw [rdNum_rest]; exact (rdWords_le _ _ _).1
theorem rdTop_le (d : Nat) (s : Rs) : (rdTop d s).1.length ≤ s.1.length := by
  unfold rdTop
  split <;> exact rdHead_le s
theorem rdCells_le {sub : Rs → Tr Co × Rs} (hs : ∀ s, (sub s).2.1.length + (sub s).1.size ≤ s.1.length) (kind : Int) : ∀ (k : Nat) (s : Rs), (rdCells sub kind k s).2.1.length + (rdCells sub kind k s).1.size ≤ s.1.length ∧ (rdCells sub kind k s).1.kind = kind
  | 0, s => ⟨by simp [rdCells, Tr.size], rfl⟩
  | k + 1, s => by
    have hw := rdWords_le [97, 116] 1 s
    have hwl := rdWords_len [97, 116] 1 s
    rw [rdCells]
    split
    · exact ⟨by simp [Tr.size], rfl⟩
    · rcases hc : pCoord ((rdWords [97, 116] 1 s).1.headD []) with _ | c
      · exact ⟨by simp only [Tr.size]; omega, rfl⟩
      · have h1 := hs (rdWords [97, 116] 1 s).2
        have h2 := rdCells_le hs kind k (sub (rdWords [97, 116] 1 s).2).2
        refine ⟨?_, h2.2⟩
        simp only [Tr.size]
        cases hok : (rdWords [97, 116] 1 s).2.2 with
        | true => have := (hw.2.2.1 hok).2; omega
        | false =>
          exfalso
          have h3 := hw.2.2.2 hok
          rcases hws : (rdWords [97, 116] 1 s).1 with _ | ⟨w, ws⟩
          · rw [hws] at hwl; simp at hwl
          · rw [hws] at h3 hc
            rw [List.headD_cons, h3 w (List.mem_cons_self ..), pCoord_nil] at hc
            cases hc
theorem rdNode_le : ∀ (d : Nat) (s : Rs), (rdNode d s).2.1.length + (rdNode d s).1.size ≤ s.1.length
  | 0, s => by
    rw [rdNode]
    have := (rdCells_le (sub := fun s => (.nil 0, s)) (fun s => by simp [Tr.size]) (rdHead s).1 (rdHead s).2.1.toNat (rdTop 0 s)).1
    have h2 := rdTop_le 0 s
    omega
  | d + 1, s => by
    rw [rdNode]
    have := (rdCells_le (sub := rdNode d) (rdNode_le d) (rdHead s).1 (rdHead s).2.1.toNat (rdTop (d + 1) s)).1
    have h2 := rdTop_le (d + 1) s
    omega
def toTr (l : List (Co × Tr Co)) (t : Tr Co) : Tr Co := l.foldr (fun p r => .cons p.1 p.2 r) t
theorem toTr_snoc (l : List (Co × Tr Co)) (p : Co × Tr Co) (t : Tr Co) : toTr (l ++ [p]) t = toTr l (.cons p.1 p.2 t) := by simp [toTr]
theorem toTr_kind (l : List (Co × Tr Co)) (t : Tr Co) : (toTr l t).kind = t.kind := by
  induction l with
  | nil => rfl
  | cons p l ih => exact ih
theorem toTr_len (l : List (Co × Tr Co)) (t : Tr Co) : (toTr l t).len = l.length + t.len := by
  induction l with
  | nil => simp [toTr]
  | cons p l ih => show (toTr l t).len + 1 = _; rw [ih, List.length_cons]; omega
theorem rep_snoc {C : Mem → Value → Co → Prop} {m : Mem} {k : Int} {p : Co × Tr Co} {new : List Value} (hnew : (toTr [p] (.nil k)).Rep C m new) : ∀ {l : List (Co × Tr Co)} {cs : List Value}, (toTr l (.nil k)).Rep C m cs → (toTr (l ++ [p]) (.nil k)).Rep C m (cs ++ new)
  | [], cs, h => by
    have : cs = [] := h
    subst this; exact hnew
  | q :: l, cs, h => by
    obtain ⟨c0, c1, c2, c3, c4, c5, c6, ad, cap, ws, vs', rfl, h1, h2, h3, h4, h5, h6⟩ := h
    exact ⟨c0, c1, c2, c3, c4, c5, c6, ad, cap, ws, vs' ++ new, rfl, h1, h2, h3, h4, h5, rep_snoc hnew h6⟩
end Go.Cy
