/- The same calculus, further: regions that draw their order, in which operations that only compute may come behind stores. -/
import Derived.Test.YtmamkgbldaehgaaGreatDoorCyCal
import Derived.Laws.BytesString
import Derived.Laws.BytesArg
import Derived.Laws.Strings
import Derived.Lib.Builder
import Derived.Lib.UnsafeStr
import Derived.Laws.Externs
import Derived.Test.YtmamkgbldaehgaaGreatDoorCyDig
namespace Go.Cy
open Go

theorem wpAny_tail' {P : Program} {Q : Exit → Act → World → Prop} {l : List Oper} {k : Nat} (hk : k ≤ l.length) (htail : ∀ i, k ≤ i → i < l.length → ∀ j, j < i → ((masks l []).getD i 0).testBit j = true) (hedge : ∀ i o e, l[i]? = some o → e ∈ o.after → Region.binds .any e = true → e.on < i) : ∀ (fuel i : Nat) (listed : Array Bool) (a : Act) (w : World), k ≤ i → i + fuel = l.length → listed.size = l.length → (∀ j, j < l.length → listed.getD j false = decide (j < i)) → Closed l listed →
    wpList P l.toArray Q (l.drop i) a w → wpAny P .any l.toArray Q fuel listed a w := by
  have only : ∀ (i : Nat) (listed : Array Bool), k ≤ i → listed.size = l.length → (∀ j, j < l.length → listed.getD j false = decide (j < i)) → Closed l listed → ∀ j, j ∈ Region.ready .any l.toArray listed → j = i := by
    intro i listed hki hsz hl hc j hj
    obtain ⟨h1, o, ho, h2⟩ := mem_ready.1 hj
    have ho' : l[j]? = some o := by simpa using ho
    have hjl : j < l.length := (List.getElem?_eq_some_iff.1 ho').1
    rw [getD_true (by omega), hl j hjl] at h1
    have hji : ¬ j < i := by simpa using h1
    by_cases hij : j = i
    · exact hij
    · exfalso
      have h5 := mask_listed hc j o i ho' h2 (htail j (by omega) hjl i (by omega))
      rw [hl i (by omega)] at h5
      simp at h5
  intro fuel
  induction fuel with
  | zero =>
    intro i listed a w hki hlen hsz hl hc h
    have hi : i = l.length := by omega
    subst hi
    have hr : Region.ready .any l.toArray listed = [] := by
      rw [List.eq_nil_iff_forall_not_mem]
      intro j hj
      have := only _ listed hki hsz hl hc j hj
      obtain ⟨_, o, ho, _⟩ := mem_ready.1 hj
      have := (Array.getElem?_eq_some_iff.1 ho).1
      simp at this
      omega
    refine ⟨hr, ?_⟩
    simpa [wpList] using h
  | succ fuel ih =>
    intro i listed a w hki hlen hsz hl hc h
    have hil : i < l.length := by omega
    have hdrop : l.drop i = l[i] :: l.drop (i + 1) := List.drop_eq_getElem_cons hil
    have hoi : l[i]? = some l[i] := List.getElem?_eq_getElem hil
    have hrdy : i ∈ Region.ready .any l.toArray listed ∨ Region.ready .any l.toArray listed = [] := by
      cases hr : Region.ready .any l.toArray listed with
      | nil => exact .inr rfl
      | cons x xs =>
        have := only i listed hki hsz hl hc x (by rw [hr]; exact .head _)
        subst this
        exact .inl (.head _)
    refine ⟨fun hnil => ?_, fun j hj => ?_⟩
    · -- op i is ready: all its edges go to what has been listed
      exfalso
      have hmem : i ∈ Region.ready .any l.toArray listed := by
        refine mem_ready.2 ⟨?_, l[i], by simp [hil], fun e he hb => ?_⟩
        · rw [getD_true (by omega), hl i hil]; simp
        · have hlt := hedge i l[i] e hoi he hb
          rw [hl e.on (by omega)]; simpa using hlt
      rw [hnil] at hmem; simp at hmem
    · have hji := only i listed hki hsz hl hc j hj
      subst hji
      obtain ⟨_, o, ho, h2⟩ := mem_ready.1 hj
      have ho' : l[j]? = some o := by simpa using ho
      have hoe : o = l[j] := by rw [hoi] at ho'; exact (Option.some.inj ho').symm
      subst hoe
      rw [hdrop] at h
      unfold wpList at h
      unfold wpOp
      rw [ho]
      have hnext : ∀ a w, wpList P l.toArray Q (l.drop (j + 1)) a w → wpAny P .any l.toArray Q fuel (listed.setIfInBounds j true) a w := by
        intro a w hw
        refine ih (j + 1) _ a w (by omega) (by omega) (by simp [hsz]) (fun x hx => ?_) (hc.list (by omega) hoi h2) hw
        by_cases hxj : x = j
        · subst hxj; rw [getD_set_same (by omega)]; simp
        · rw [getD_set_ne hxj, hl x hx]
          have : (x < j) = (x < j + 1) := by apply propext; omega
          simp [this]
      dsimp only
      split
      · rename_i hw
        rw [if_pos hw] at h
        exact h.imp (Oper.wp_mono hnext) id
      · rename_i hw
        rw [if_neg hw] at h
        exact hnext _ _ h

def drawOkF (l : List Oper) (k : Nat) (Fi : List Nat) (pr : Nat → List Nat) : Bool :=
  let ms := masks l []
  Nat.ble k l.length &&
  (List.range l.length).all (fun i => match l[i]? with
    | some o => o.after.toList.all fun e => !Region.binds .any e || Nat.blt e.on i
    | none => true) &&
  (List.range l.length).all (fun i =>
    if Nat.blt i k then
      (match dstAt l i with
      | some t => (List.range k).all fun j => Nat.beq i j || dstAt l j != some t
      | none => false) &&
      ((pr i).all fun j => Nat.blt j k && (ms.getD i 0).testBit j) &&
      (match l[i]? with
      | some o => !(o.op matches .select ..)
      | none => false)
    else (List.range i).all fun j => nmem j Fi || (ms.getD i 0).testBit j)

theorem drawOkF_spec {l : List Oper} {k : Nat} {Fi : List Nat} {pr : Nat → List Nat} (hok : drawOkF l k Fi pr = true) : k ≤ l.length ∧
    (∀ i, i < k → (∃ t, dstAt l i = some t ∧ ∀ j, j < k → j ≠ i → dstAt l j ≠ some t) ∧ (∀ j ∈ pr i, j < k ∧ ((masks l []).getD i 0).testBit j = true) ∧ ∃ o, l[i]? = some o) ∧
    (∀ i, k ≤ i → i < l.length → ∀ j, j < i → nmem j Fi = false → ((masks l []).getD i 0).testBit j = true) ∧
    (∀ i o e, l[i]? = some o → e ∈ o.after → Region.binds .any e = true → e.on < i) := by
  simp only [drawOkF, Bool.and_eq_true, List.all_eq_true, List.mem_range] at hok
  obtain ⟨⟨hk, hedge⟩, hall⟩ := hok
  have hk' : k ≤ l.length := Nat.le_of_ble_eq_true hk
  refine ⟨hk', fun i hi => ?_, fun i hki hi j hj hnF => ?_, fun i o e ho he hb => ?_⟩
  · have h := hall i (by omega)
    rw [if_pos (by simpa [Nat.blt_eq] using hi)] at h
    simp only [Bool.and_eq_true, List.all_eq_true] at h
    obtain ⟨⟨h1, h2⟩, h3⟩ := h
    refine ⟨?_, fun j hj => ?_, ?_⟩
    · split at h1
      · rename_i t ht
        refine ⟨t, ht, fun j hj hji hjt => ?_⟩
        simp only [List.all_eq_true, List.mem_range, Bool.or_eq_true] at h1
        rcases h1 j hj with h4 | h4
        · exact hji (Nat.eq_of_beq_eq_true h4).symm
        · rw [hjt] at h4; simp at h4
      · simp at h1
    · have h4 := h2 j hj
      exact ⟨by simpa [Nat.blt_eq] using h4.1, h4.2⟩
    · exact ⟨l[i]'(by omega), List.getElem?_eq_getElem (by omega)⟩
  · have h := hall i hi
    rw [if_neg (by simp [Nat.blt_eq]; omega)] at h
    simp only [List.all_eq_true, List.mem_range, Bool.or_eq_true] at h
    rcases h j hj with h | h
    · rw [h] at hnF; cases hnF
    · exact h
  · have h := hedge i (List.getElem?_eq_some_iff.1 ho).1
    rw [ho] at h
    simp only [List.all_eq_true] at h
    have h1 := h e (Array.mem_toList_iff.2 he)
    simpa [hb, Nat.blt_eq] using h1


def fval : List (Nat × Value) → Nat → Value
  | [], _ => undef
  | (f, c) :: F, i => match Nat.beq i f with
    | true => c
    | false => fval F i
theorem fval_mem {i : Nat} : ∀ {F : List (Nat × Value)}, nmem i (F.map Prod.fst) = true → (i, fval F i) ∈ F
  | [], h => by cases h
  | (f, c) :: F, h => by
    change (match Nat.beq i f with | true => true | false => nmem i (F.map Prod.fst)) = true at h
    show (i, match Nat.beq i f with | true => c | false => fval F i) ∈ (f, c) :: F
    cases hb : Nat.beq i f with
    | true => rw [Nat.eq_of_beq_eq_true hb]; exact .head _
    | false => rw [hb] at h; exact .tail _ (fval_mem h)
theorem cnt_ext {listed : Array Bool} {k N : Nat} (hk : k ≤ N) (h : ∀ j, k ≤ j → listed.getD j false = false) : cnt listed N = cnt listed k := by
  obtain ⟨d, rfl⟩ : ∃ d, N = k + d := ⟨N - k, by omega⟩
  clear hk
  induction d with
  | zero => rfl
  | succ d ih => rw [← Nat.add_assoc, cnt, h (k + d) (by omega), ih]; simp
theorem cnt_full {listed : Array Bool} : ∀ {p : Nat}, (∀ j, j < p → listed.getD j false = true) → cnt listed p = p
  | 0, _ => rfl
  | p + 1, h => by rw [cnt, h p (by omega), cnt_full fun j hj => h j (by omega)]; simp; omega
theorem flatAll_listed {Hs : Nat → Hp} {listed : Array Bool} : ∀ {k : Nat}, flatAll (fun j => if listed.getD j false = true then Hs j else []) k = flat Hs listed k
  | 0 => rfl
  | k + 1 => by rw [flatAll, flat, flatAll_listed]

def WLF (P : Program) (n : Nat) (K : Ctx) (l : List Oper) (Q : Exit → Act → World → Prop) (F : List (Nat × Value)) (p : Nat) (env : Env) (m : Mem) (H : Hp) : Prop :=
  ∀ (fuel : Nat) (listed : Array Bool) (a : Act) (w : World), listed.size = l.length → cnt listed l.length + fuel = l.length → (∀ j, j < p → (∀ c, (j, c) ∉ F) → listed.getD j false = true) → (∀ j, p ≤ j → listed.getD j false = false) → Closed l listed →
    Fr n env a → (∀ f c, (f, c) ∈ F → listed.getD f false = true → ∀ t, dstAt l f = some t → a.tmps[t]? = some c) → St K m H w → wpAny P .any l.toArray Q fuel listed a w
theorem WLF.sub {P : Program} {n : Nat} {K : Ctx} {l : List Oper} {Q : Exit → Act → World → Prop} {F : List (Nat × Value)} {p : Nat} {env env' : Env} {m : Mem} {H H' : Hp} (h : WLF P n K l Q F p env' m H') (he : ∀ t v, lk env' t = some v → lk env t = some v) (hp : H.Perm H') : WLF P n K l Q F p env m H :=
  fun fuel listed a w h1 h2 h3 h4 h5 h6 h7 h8 => h fuel listed a w h1 h2 h3 h4 h5 ⟨h6.size, fun t v hv => h6.get t v (he t v hv), h6.defers⟩ h7 (h8.perm hp)

theorem w_drawF {P : Program} {n : Nat} {K : Ctx} {Q : Exit → Act → World → Prop} {env : Env} {m : Mem} {H : Hp} {id : Nat} {l : List Oper} (k : Nat) (pr : Nat → List Nat) (φ : Nat → Value → Mem → Hp → Prop) (hm : P.follows .mixedOrders = true) (F : List (Nat × Value)) (hFφ : ∀ f c, (f, c) ∈ F → ∀ v m h, φ f v m h ↔ v = c ∧ h = []) (hok : drawOkF l k (F.map Prod.fst) pr = true) (ts : List (Nat × List Nat)) (hex : exOk l k pr ts = true)
    (henv : ((List.range k).all fun i => match dstAt l i with | some t => (lk (wo ts env) t).isNone && Nat.blt t n | none => true) = true)
    (hst : ∀ i, i < k → ∀ v m1 m2 h, m.le m1 → m1.le m2 → φ i v m1 h → φ i v m2 h)
    (hob : ∀ i o, i < k → l[i]? = some o → ∀ m', m.le m' → ∀ (vs : Nat → Value) (Hs : Nat → Hp), (∀ j ∈ pr i, φ j (vs j) m' (Hs j)) → DStep P n l.toArray Q o (penv l vs (pr i) ++ envAt ts i env) m' H (φ i))
    (hend : ∀ m', m.le m' → ∀ vs Hs, (∀ i, i < k → φ i (vs i) m' (Hs i)) → WLF P n K l Q F k (penv l vs ((List.range k).filter fun j => !nmem j (F.map Prod.fst)) ++ wo ts env) m' (flatAll Hs k ++ H)) :
    W P n K (.region id l.toArray true) Q env m H := by
  obtain ⟨hk, hpre, htail, hedge⟩ := drawOkF_spec hok
  simp only [List.all_eq_true, List.mem_range] at henv
  have henv' : ∀ i, i < k → ∀ t, dstAt l i = some t → lk (wo ts env) t = none := fun i hi t ht => by
    have := henv i hi
    rw [ht] at this
    simp only [Bool.and_eq_true] at this
    simpa using this.1
  have hfit : ∀ i, i < k → ∀ t, dstAt l i = some t → t < n := fun i hi t ht => by
    have := henv i hi
    rw [ht] at this
    simp only [Bool.and_eq_true] at this
    simpa [Nat.blt_eq] using this.2
  intro a0 w0 ha0 hs0
  refine wp_region_any hm ?_
  have key : ∀ (fuel : Nat) (listed : Array Bool) (a : Act) (w : World) (m' : Mem) (vs : Nat → Value) (Hs : Nat → Hp), listed.size = l.length → cnt listed k + fuel = l.length → (∀ j, k ≤ j → listed.getD j false = false) → Closed l listed →
      m.le m' → St K m' (flat Hs listed k ++ H) w → a.tmps.size = n → a.defers = [] → (∀ t v, lk (wo ts env) t = some v → a.tmps[t]? = some v) → (∀ t is v, (t, is) ∈ ts → lk env t = some v → (∀ j, j < k → dstAt l j = some t → listed.getD j false = false) → a.tmps[t]? = some v) →
      (∀ j, j < k → listed.getD j false = true → φ j (vs j) m' (Hs j) ∧ ∀ t, dstAt l j = some t → a.tmps[t]? = some (vs j)) → wpAny P .any l.toArray Q fuel listed a w := by
    have done : ∀ (fuel : Nat) (listed : Array Bool) (a : Act) (w : World) (m' : Mem) (vs : Nat → Value) (Hs : Nat → Hp), listed.size = l.length → cnt listed k + fuel = l.length → (∀ j, k ≤ j → listed.getD j false = false) → Closed l listed →
      m.le m' → St K m' (flat Hs listed k ++ H) w → a.tmps.size = n → a.defers = [] → (∀ t v, lk (wo ts env) t = some v → a.tmps[t]? = some v) →
      (∀ j, j < k → listed.getD j false = true → φ j (vs j) m' (Hs j) ∧ ∀ t, dstAt l j = some t → a.tmps[t]? = some (vs j)) → (∀ i, i < k → nmem i (F.map Prod.fst) = false → listed.getD i false = true) → wpAny P .any l.toArray Q fuel listed a w := by
      intro fuel listed a w m' vs Hs hsz hcnt hge hc hle hst' hts hdf hfr hφ hdone
      have hun : ∀ i, i < k → listed.getD i false = false → nmem i (F.map Prod.fst) = true := fun i hi h => by
        cases hx : nmem i (F.map Prod.fst) with
        | true => rfl
        | false => rw [hdone i hi hx] at h; cases h
      have hend' := hend m' hle (fun j => if listed.getD j false = true then vs j else fval F j) (fun j => if listed.getD j false = true then Hs j else []) (fun i hi => by
        cases hx : listed.getD i false with
        | true => simp only [if_true]; exact (hφ i hi hx).1
        | false => simp only [Bool.false_eq_true, if_false]; exact (hFφ i _ (fval_mem (hun i hi hx)) _ _ _).2 ⟨rfl, rfl⟩)
      refine hend' fuel listed a w hsz (by rw [cnt_ext hk hge]; exact hcnt) (fun j hj hno => ?_) hge hc ⟨hts, fun t v ht => ?_, hdf⟩ (fun f c hfc hlf t ht => ?_) ?_
      · refine hdone j hj ?_
        cases hx : nmem j (F.map Prod.fst) with
        | false => rfl
        | true => exact absurd (fval_mem hx) (hno _)
      · rcases penv_get ht with ⟨j, hj, hd, rfl⟩ | h2
        · simp only [List.mem_filter, List.mem_range, Bool.not_eq_true'] at hj
          have hlj := hdone j hj.1 hj.2
          simp only [hlj, if_true]
          exact (hφ j hj.1 hlj).2 t hd
        · exact hfr t v h2
      · have hfk : f < k := by
          by_cases hfk : f < k
          · exact hfk
          · rw [hge f (by omega)] at hlf; cases hlf
        obtain ⟨g1, g2⟩ := hφ f hfk hlf
        rw [← ((hFφ f c hfc _ _ _).1 g1).1]
        exact g2 t ht
      · rw [flatAll_listed]; exact hst'
    intro fuel
    induction fuel with
    | zero =>
      intro listed a w m' vs Hs hsz hcnt hge hc hle hst' hts hdf hfr hfx hφ
      have h1 := cnt_le listed k
      exact done 0 listed a w m' vs Hs hsz hcnt hge hc hle hst' hts hdf hfr hφ (fun i hi _ => cnt_all (by omega) i hi)
    | succ fuel ih =>
      intro listed a w m' vs Hs hsz hcnt hge hc hle hst' hts hdf hfr hfx hφ
      by_cases hdone : ∀ i, i < k → nmem i (F.map Prod.fst) = false → listed.getD i false = true
      · exact done _ listed a w m' vs Hs hsz hcnt hge hc hle hst' hts hdf hfr hφ hdone
      · obtain ⟨i1, hi1k, hi1F, hi1f⟩ : ∃ i1, i1 < k ∧ nmem i1 (F.map Prod.fst) = false ∧ listed.getD i1 false = false := by
          refine Classical.byContradiction fun hno => hdone fun i hi hF => ?_
          cases hx : listed.getD i false with
          | true => rfl
          | false => exact absurd ⟨i, hi, hF, hx⟩ hno
        have hck : cnt listed k ≠ k := fun e => by rw [cnt_all e i1 hi1k] at hi1f; cases hi1f
        obtain ⟨i0, hi0k, hi0f, hi0m⟩ := cnt_some hck
        refine ⟨fun hnil => ?_, fun i hi => ?_⟩
        · exfalso
          have hil : i0 < l.length := by omega
          have hmem : i0 ∈ Region.ready .any l.toArray listed := by
            refine mem_ready.2 ⟨by rw [getD_true (by omega)]; exact hi0f, l[i0], by simp [hil], fun e he hb => hi0m e.on (hedge i0 l[i0] e (List.getElem?_eq_getElem hil) he hb)⟩
          rw [hnil] at hmem; simp at hmem
        · obtain ⟨h1, o, ho, h2⟩ := mem_ready.1 hi
          have ho' : l[i]? = some o := by simpa using ho
          have hil : i < l.length := (List.getElem?_eq_some_iff.1 ho').1
          rw [getD_true (by omega)] at h1
          have hik : i < k := by
            by_cases hik : i < k
            · exact hik
            · exfalso
              have h5 := mask_listed hc i o i1 ho' h2 (htail i (by omega) hil i1 (by omega) hi1F)
              rw [hi1f] at h5; simp at h5
          obtain ⟨⟨t, ht, huniq⟩, hpr, _⟩ := hpre i hik
          have hprl : ∀ j ∈ pr i, listed.getD j false = true := fun j hj => mask_listed hc i o j ho' h2 (hpr j hj).2
          have hod : o.dst = some t := by simpa [dstAt, ho'] using ht
          have hstep := hob i o hik ho' m' hle vs Hs (fun j hj => (hφ j (hpr j hj).1 (hprl j hj)).1) a w ⟨hts, fun t v hv => ?_, hdf⟩ hst'.mem (fun b ob hb => hst'.heap b ob (List.mem_append_right _ hb))
          · -- the next state
            have hnext : ∀ v m'' h' w', St ⟨w, m', []⟩ m'' h' w' → φ i v m'' h' → wpAny P .any l.toArray Q fuel (listed.setIfInBounds i true) (a.put o.dst v) w' := by
              intro v m'' h' w' hst2 hφv
              have hle2 : m'.le m'' := hst2.le
              refine ih _ _ _ m'' (fun j => if j = i then v else vs j) (fun j => if j = i then h' else Hs j) (by simp [hsz]) (by rw [cnt_set (by omega) h1 k hik]; omega)
                (fun j hj => by rw [getD_set_ne (by omega)]; exact hge j hj) (hc.list (by omega) ho' h2) (hle.trans hle2) ?_ (by rw [hod]; simp [Act.put, hts]) (by rw [hod]; simp [Act.put, hdf]) (fun t' v' hv' => ?_) (fun t' is' v' hm' hv' hun => ?_) (fun j hj hlj => ?_)
              · have := St.call (Hc := []) (Hr := flat Hs listed k ++ H) hst' hst2
                rw [← List.append_assoc] at this
                exact this.perm (List.Perm.append_right _ (flat_add (by omega) h1 k hik))
              · have hne : t ≠ t' := fun e => by
                  subst e
                  rw [henv' i hik t ht] at hv'; simp at hv'
                rw [hod]; simp only [Act.put]
                rw [Array.getElem?_setIfInBounds_ne hne]; exact hfr t' v' hv'
              · have hne : t ≠ t' := fun e => by
                  subst e
                  have := hun i hik ht
                  rw [getD_set_same (by omega)] at this; cases this
                rw [hod]; simp only [Act.put]
                rw [Array.getElem?_setIfInBounds_ne hne]
                refine hfx t' is' v' hm' hv' fun j hj hd => ?_
                have := hun j hj hd
                by_cases hji : j = i
                · subst hji; exact h1
                · rw [getD_set_ne hji] at this; exact this
              · by_cases hji : j = i
                · subst hji
                  simp only [if_true]
                  refine ⟨hφv, fun t' ht' => ?_⟩
                  have : t' = t := by rw [ht] at ht'; exact (Option.some.inj ht').symm
                  subst this
                  have hlt : t' < n := hfit j hik t' ht
                  rw [hod]; simp [Act.put, hts, hlt]
                · rw [getD_set_ne hji] at hlj
                  obtain ⟨g1, g2⟩ := hφ j hj hlj
                  simp only [if_neg hji]
                  refine ⟨hst j hj (vs j) m' m'' (Hs j) hle hle2 g1, fun t' ht' => ?_⟩
                  have hne : t ≠ t' := fun e => huniq j hj hji (e ▸ ht')
                  rw [hod]; simp only [Act.put]
                  rw [Array.getElem?_setIfInBounds_ne hne]; exact g2 t' ht'
            unfold wpOp
            rw [ho]
            dsimp only
            split
            · rename_i hw
              rw [if_pos hw] at hstep
              refine .inl (Oper.wp_mono ?_ hstep)
              rintro a' w' ⟨v, m'', h', rfl, h8, h9⟩
              exact hnext v m'' h' w' h8 h9
            · rename_i hw
              rw [if_neg hw] at hstep
              refine hnext undef m' [] w ?_ hstep
              exact St.start (H := []) hst'.mem (fun _ _ h => absurd h (List.not_mem_nil)) List.nodup_nil (fun _ _ h => absurd h (List.not_mem_nil))
          · rcases penv_get hv with ⟨j, hj, hd, rfl⟩ | h4
            · exact (hφ j (hpr j hj).1 (hprl j hj)).2 t hd
            · rcases envAt_get h4 with ⟨is, h5, h6, h7⟩ | h5
              · refine hfx t is v h5 h7 fun j hj hd => ?_
                cases hlj : listed.getD j false with
                | false => rfl
                | true =>
                  exfalso
                  rcases (exOk_spec hex h5 h6).1 j hj hd with e | hbit
                  · subst e; rw [hlj] at h1; cases h1
                  · have hjl : j < l.length := by omega
                    have := mask_listed hc j _ i (List.getElem?_eq_getElem hjl) (fun e he hb => hc j _ (List.getElem?_eq_getElem hjl) hlj e he hb) hbit
                    rw [this] at h1; cases h1
              · exact hfr t v h5
  refine key l.length _ a0 _ m (fun _ => undef) (fun _ => []) (by simp) (by rw [cnt_zero k (fun i _ => by simp [Array.getD_eq_getD_getElem?, Array.getElem?_replicate]; split <;> rfl)]; simp) (fun j _ => by simp [Array.getD_eq_getD_getElem?, Array.getElem?_replicate]; split <;> rfl)
    (fun i o _ hi => by simp [Array.getD_eq_getD_getElem?, Array.getElem?_replicate] at hi; split at hi <;> simp at hi) (Mem.le.refl m) ?_ ha0.size ha0.defers (fun t v h => ha0.get t v (wo_get h)) (fun t _ v _ h _ => ha0.get t v h) (fun j _ hj => by simp [Array.getD_eq_getD_getElem?, Array.getElem?_replicate] at hj; split at hj <;> simp at hj)
  rw [flat_none k (fun i _ => by simp [Array.getD_eq_getD_getElem?, Array.getElem?_replicate]; split <;> rfl)]
  exact { hs0 with }

def FinF (l : List Oper) (L : Phis) (m : Mem) (Fi : List Nat) : Nat → Env → Hp → (Env → Hp → Prop) → Prop
  | 0, env, H, G => G env H
  | k + 1, env, H, G => match nmem k Fi with
    | true => FinF l L m Fi k env H G
    | false => match lkp L k, dstAt l k with
      | some (.val c), some t => FinF l L m Fi k ((t, c) :: env) H G
      | some (.ret R _), some t => ∀ v, R v m → FinF l L m Fi k ((t, v) :: env) H G
      | some (.box T zs), some t => ∀ b, FinF l L m Fi k ((t, .pointer (some ⟨b, 0, none⟩)) :: env) ((b, cl T zs) :: H) G
      | _, _ => False
def FinL (L : Phis) : List (Nat × Value) → Prop
  | [] => True
  | (f, c) :: F => lkp L f = some (.val c) ∧ FinL L F
theorem FinL.get {L : Phis} : ∀ {F : List (Nat × Value)} (_ : FinL L F) {f : Nat} {c : Value}, (f, c) ∈ F → lkp L f = some (.val c)
  | (f', c') :: F, h, f, c, hm => by
    rcases List.mem_cons.1 hm with e | hm
    · cases e; exact h.1
    · exact FinL.get h.2 hm
theorem FinL.val {L : Phis} {F : List (Nat × Value)} (h : FinL L F) {f : Nat} {c : Value} (hm : (f, c) ∈ F) : ∃ c, lkp L f = some (.val c) := ⟨c, h.get hm⟩
theorem finF_use {Fi : List Nat} {l : List Oper} {L : Phis} {m : Mem} {vs : Nat → Value} {Hs : Nat → Hp} : ∀ (k : Nat) (env : Env) (H : Hp) (G : Env → Hp → Prop), (∀ j, j < k → phiAt L j (vs j) m (Hs j)) → (∀ j, nmem j Fi = true → ∃ c, lkp L j = some (.val c)) → FinF l L m Fi k env H G → ∃ env' H', G env' H' ∧ (∀ t v, lk env' t = some v → (∃ j, j < k ∧ nmem j Fi = false ∧ dstAt l j = some t ∧ v = vs j) ∨ lk env t = some v) ∧ (flatAll Hs k ++ H).Perm H'
  | 0, env, H, G, _, _, h => ⟨env, H, h, fun _ _ h => .inr h, List.Perm.refl _⟩
  | k + 1, env, H, G, hp, hv, h => by
    have hj := hp k (by omega)
    unfold phiAt at hj
    unfold FinF at h
    cases hx : nmem k Fi with
    | true =>
      rw [hx] at h
      obtain ⟨c, hcv⟩ := hv k hx
      rw [hcv] at hj
      obtain ⟨env', H', h3, h4, h5⟩ := finF_use k env H G (fun i hi => hp i (by omega)) hv h
      refine ⟨env', H', h3, fun t v ht => ?_, ?_⟩
      · rcases h4 t v ht with ⟨i, hi, h6⟩ | h6
        · exact .inl ⟨i, by omega, h6⟩
        · exact .inr h6
      · rw [flatAll, hj.2]; exact h5
    | false =>
    rw [hx] at h
    dsimp only at h
    have step : ∀ t, dstAt l k = some t → FinF l L m Fi k ((t, vs k) :: env) (Hs k ++ H) G → ∃ env' H', G env' H' ∧ (∀ t v, lk env' t = some v → (∃ j, j < k + 1 ∧ nmem j Fi = false ∧ dstAt l j = some t ∧ v = vs j) ∨ lk env t = some v) ∧ (flatAll Hs (k + 1) ++ H).Perm H' := by
      intro t ht h2
      obtain ⟨env', H', h3, h4, h5⟩ := finF_use k ((t, vs k) :: env) (Hs k ++ H) G (fun i hi => hp i (by omega)) hv h2
      refine ⟨env', H', h3, fun t' v hv => ?_, ?_⟩
      · rcases h4 t' v hv with ⟨i, hi, h6⟩ | h6
        · exact .inl ⟨i, by omega, h6⟩
        · simp only [lk] at h6
          split at h6
          · rename_i hb
            have : t = t' := Nat.eq_of_beq_eq_true hb
            subst this
            exact .inl ⟨k, by omega, hx, ht, (Option.some.inj h6).symm⟩
          · exact .inr h6
      · refine List.Perm.trans ?_ h5
        rw [flatAll, ← List.append_assoc]
        exact List.Perm.append_right _ List.perm_append_comm
    split at h
    · rename_i c t h1 h2
      rw [h1] at hj
      refine step t h2 ?_
      rw [hj.2, hj.1]; exact h
    · rename_i R up t h1 h2
      rw [h1] at hj
      refine step t h2 ?_
      rw [hj.2]; exact h _ hj.1
    · rename_i T zs t h1 h2
      rw [h1] at hj
      obtain ⟨b, hb, hh⟩ := hj
      refine step t h2 ?_
      rw [hh, hb]; exact h b
    · exact h.elim


theorem dr_doneF {P : Program} {n : Nat} {K : Ctx} {Q : Exit → Act → World → Prop} {env : Env} {m : Mem} {H : Hp} (F : List (Nat × Value)) {ts : List (Nat × List Nat)} {id : Nat} {l : List Oper} {prs : List (List Nat)} {k : Nat} {L : Phis} (hm : P.follows .mixedOrders = true) (hF : FinL L F) (hok : drawOkF l k (F.map Prod.fst) (fun i => prs.getD i []) = true) (hex : exOk l k (fun i => prs.getD i []) ts = true)
    (henv : ((List.range k).all fun i => match dstAt l i with | some t => (lk (wo ts env) t).isNone && Nat.blt t n | none => true) = true)
    (h : ∀ m', m.le m' → FinF l L m' (F.map Prod.fst) k (wo ts env) H fun env' H' => WLF P n K l Q F k env' m' H') : DR P n K Q ts env m H id l prs k L := by
  intro hp
  refine w_drawF k (fun i => prs.getD i []) (phiAt L) hm F (fun f c hfc v m h => by rw [phiAt, hF.get hfc]; rfl) hok ts hex henv (fun i hi v m1 m2 hh h1 h2 h3 => ?_) (fun i o hi ho m' hle vs Hs hpr => ?_) (fun m' hle vs Hs hφ => ?_)
  · unfold phiAt at h3 ⊢
    cases hl : lkp L i with
    | none => rw [hl] at h3; exact h3.elim
    | some φ => rw [hl] at h3; exact φ.up h2 h3
  · obtain ⟨φ, h1, o', ho', h2⟩ := hp i hi
    rw [ho] at ho'
    cases ho'
    obtain ⟨env', h3, h4⟩ := preds_use _ (envAt ts i env) _ hpr (h2 m' hle)
    intro a w ha hf hh
    have h5 := h3 a w ⟨ha.size, fun t v hv => ?_, ha.defers⟩ hf hh
    · have e : phiAt L i = φ.p := by funext v m h; simp [phiAt, h1]
      rw [e]; exact h5
    · have hcov : ∀ t v, lk (penv l vs (prs.getD i []) ++ envAt ts i env) t = some v → a.tmps[t]? = some v := ha.get
      rcases h4 t v hv with ⟨j, hj, hd, rfl⟩ | h6
      · obtain ⟨_, hpre, _, _⟩ := drawOkF_spec hok
        refine hcov t _ ?_
        rw [lk_append, penv_in (k := k) (fun i' hi' t' ht' => by
          obtain ⟨⟨t'', h7, h8⟩, _⟩ := hpre i' hi'
          rw [ht'] at h7; cases h7; exact h8) (fun x hx => ((hpre i hi).2.1 x hx).1) hj hd]
      · exact env_mem hcov h6 (fun j hj t' ht' => by
          obtain ⟨_, hpre, _, _⟩ := drawOkF_spec hok
          have hjk := ((hpre i hi).2.1 j hj).1
          simp only [List.all_eq_true, List.mem_range] at henv
          have := henv j hjk
          rw [ht'] at this
          simp only [Bool.and_eq_true] at this
          cases hx : lk (envAt ts i env) t' with
          | none => rfl
          | some u =>
            exfalso
            rcases envAt_get hx with ⟨is, h7, h8, _⟩ | h7
            · exact (exOk_spec hex h7 h8).2 j hj ht'
            · rw [h7] at this; simp at this)
  · obtain ⟨env', H', h1, h2, h3⟩ := finF_use k (wo ts env) H _ hφ (fun j hj => hF.val (fval_mem hj)) (h m' hle)
    refine h1.sub (fun t v hv => ?_) h3
    rcases h2 t v hv with ⟨j, hj, hnf, hd, rfl⟩ | h6
    · obtain ⟨_, hpre, _, _⟩ := drawOkF_spec hok
      rw [lk_append, penv_in (k := k) (fun i' hi' t' ht' => by
        obtain ⟨⟨t'', h7, h8⟩, _⟩ := hpre i' hi'
        rw [ht'] at h7; cases h7; exact h8) (fun x hx => by simp at hx; exact hx.1) (by simp; exact ⟨hj, by simpa using hnf⟩) hd]
    · have hno : lk (penv l vs ((List.range k).filter fun j => !nmem j (F.map Prod.fst))) t = none := by
        cases hl : lk (penv l vs ((List.range k).filter fun j => !nmem j (F.map Prod.fst))) t with
        | none => rfl
        | some u =>
          rcases penv_get (l := l) (vs := vs) (env := []) (by rw [List.append_nil]; exact hl) with ⟨j, hj, hd, _⟩ | h
          · simp only [List.all_eq_true, List.mem_range] at henv
            have hjk : j < k := by simp at hj; exact hj.1
            have := henv j hjk
            rw [hd] at this
            simp only [Bool.and_eq_true] at this
            rw [h6] at this; simp at this
          · simp [lk] at h
      rw [lk_append, hno]
      exact h6

theorem nmem_of_mem {i : Nat} : ∀ {js : List Nat}, i ∈ js → nmem i js = true
  | j :: js, h => by
    show (match Nat.beq i j with | true => true | false => nmem i js) = true
    cases hb : Nat.beq i j with
    | true => rfl
    | false =>
      rcases List.mem_cons.1 h with e | h
      · subst e; exact absurd rfl (Nat.ne_of_beq_eq_false hb)
      · exact nmem_of_mem h
def FloatOkA (P : Program) (n : Nat) (l : List Oper) (env : Env) (FA F : List (Nat × Value)) : Prop :=
  ∀ f c, (f, c) ∈ F → ∃ o t, l[f]? = some o ∧ o.dst = some t ∧ t < n ∧ lk env t = none ∧ (∀ f' c', (f', c') ∈ F → dstAt l f' = some t → f' = f ∧ c' = c) ∧ gd l.toArray env o.guard = some true ∧ ∀ a w, Fr n env a → (∀ f' c', (f', c') ∈ FA → ((masks l []).getD f 0).testBit f' = true → ∀ t, dstAt l f' = some t → a.tmps[t]? = some c') → (execOp a.eval o).run P w = .ok (.value c) w
def FloatOk (P : Program) (n : Nat) (l : List Oper) (env : Env) (F : List (Nat × Value)) : Prop := FloatOkA P n l env F F
section
variable {P : Program} {n : Nat} {K : Ctx} {l : List Oper} {Q : Exit → Act → World → Prop} {F : List (Nat × Value)} {p : Nat} {env : Env} {m : Mem} {H : Hp}

theorem ready_some {listed : Array Bool} (hedge : ∀ i o e, l[i]? = some o → e ∈ o.after → Region.binds .any e = true → e.on < i) (hsz : listed.size = l.length) (h : cnt listed l.length ≠ l.length) : Region.ready .any l.toArray listed ≠ [] := by
  obtain ⟨i0, hi0k, hi0f, hi0m⟩ := cnt_some h
  intro hnil
  have hmem : i0 ∈ Region.ready .any l.toArray listed := by
    refine mem_ready.2 ⟨by rw [getD_true (by omega)]; exact hi0f, l[i0], by simp [hi0k], fun e he hb => hi0m e.on (hedge i0 l[i0] e (List.getElem?_eq_getElem hi0k) he hb)⟩
  rw [hnil] at hmem; simp at hmem

theorem float_step (hF : FloatOk P n l env F) {f : Nat} {c : Value} (hf : (f, c) ∈ F) {fuel : Nat} {listed : Array Bool} {a : Act} {w : World} (hsz : listed.size = l.length) (hcnt : cnt listed l.length + (fuel + 1) = l.length) (hu : listed.getD f false = false) (hc : Closed l listed) (hr : ∀ o, l[f]? = some o → ∀ e ∈ o.after, Region.binds .any e = true → listed.getD e.on false = true)
    (hfr : Fr n env a) (hfl : ∀ f c, (f, c) ∈ F → listed.getD f false = true → ∀ t, dstAt l f = some t → a.tmps[t]? = some c)
    (ih : ∀ listed' a', listed'.size = l.length → cnt listed' l.length + fuel = l.length → (∀ j, listed'.getD j false = true ↔ (listed.getD j false = true ∨ j = f)) → Closed l listed' → Fr n env a' → (∀ f c, (f, c) ∈ F → listed'.getD f false = true → ∀ t, dstAt l f = some t → a'.tmps[t]? = some c) → wpAny P .any l.toArray Q fuel listed' a' w) :
    wpOp P l.toArray Q f (wpAny P .any l.toArray Q fuel (listed.setIfInBounds f true)) a w := by
  obtain ⟨o, t, ho, hd, ht, hno, huniq, hg, hx⟩ := hF f c hf
  have hfl' : f < l.length := (List.getElem?_eq_some_iff.1 ho).1
  have hoa : l.toArray[f]? = some o := by simpa using ho
  unfold wpOp
  rw [hoa]
  dsimp only
  rw [if_pos (hfr.wanted hg)]
  refine .inl ?_
  unfold Oper.wp
  rw [hx a w hfr fun f' c' hf' hm' t' ht' => hfl f' c' hf' (mask_listed hc f o f' ho (hr o ho) hm') t' ht', Oper.upon_value, hd]
  have hdf : dstAt l f = some t := by simp [dstAt, ho, hd]
  refine ih _ _ (by simp [hsz]) (by rw [cnt_set (by omega) hu _ hfl']; omega) (fun j => ?_) (hc.list (by omega) ho (hr o ho)) ⟨by simp [Act.put, hfr.size], fun t' v' hv' => ?_, by simp [Act.put, hfr.defers]⟩ (fun f' c' hf' hl' t' ht' => ?_)
  · by_cases hj : j = f
    · subst hj; simp [hsz, hfl']
    · rw [getD_set_ne hj]; simp [hj]
  · have hne : t ≠ t' := fun e => by subst e; rw [hno] at hv'; cases hv'
    simp only [Act.put]
    rw [Array.getElem?_setIfInBounds_ne hne]; exact hfr.get t' v' hv'
  · by_cases hne : t = t'
    · subst hne
      obtain ⟨e1, e2⟩ := huniq f' c' hf' ht'
      subst e2
      simp [Act.put, hfr.size, ht]
    · have hff : f' ≠ f := fun e => by subst e; rw [hdf] at ht'; cases ht'; exact hne rfl
      rw [getD_set_ne hff] at hl'
      simp only [Act.put]
      rw [Array.getElem?_setIfInBounds_ne hne]; exact hfl f' c' hf' hl' t' ht'

theorem wlf_write {o : Oper} {b : Nat} {ob ob' : Obj} (hp : l[p]? = some o) (hpF : nmem p (F.map Prod.fst) = false) (hm : ∀ i, p < i → i < l.length → ((masks l []).getD i 0).testBit p = true) (hedge : ∀ i o e, l[i]? = some o → e ∈ o.after → Region.binds .any e = true → e.on < i)
    (hF : FloatOk P n l env F) (hdst : o.dst = none) (hg : gd l.toArray env o.guard = some true)
    (hx : ∀ a w, Fr n env a → w.heap[b]? = some ob → ∃ w', (execOp a.eval o).run P w = .ok .skip w' ∧ w'.os = w.os ∧ w'.tape = w.tape ∧ w'.output = w.output ∧ w'.heap.size = w.heap.size ∧ w'.heap[b]? = some ob' ∧ ∀ k, k ≠ b → w'.heap[k]? = w.heap[k]?)
    (h : WLF P n K l Q F (p + 1) env m ((b, ob') :: H)) : WLF P n K l Q F p env m ((b, ob) :: H) := by
  have hpl : p < l.length := (List.getElem?_eq_some_iff.1 hp).1
  have hnF : ∀ c, (p, c) ∉ F := fun c hc => by
    have : nmem p (F.map Prod.fst) = true := nmem_of_mem (List.mem_map.2 ⟨_, hc, rfl⟩)
    rw [this] at hpF; cases hpF
  intro fuel
  induction fuel with
  | zero =>
    intro listed a w hsz hcnt hl1 hl2 hc hfr hfl hst
    have := cnt_all (k := l.length) (by omega) p hpl
    rw [hl2 p (Nat.le_refl _)] at this; cases this
  | succ fuel ih =>
    intro listed a w hsz hcnt hl1 hl2 hc hfr hfl hst
    refine ⟨fun hnil => absurd hnil (ready_some hedge hsz (by omega)), fun j hj => ?_⟩
    obtain ⟨h1, o', ho, h2⟩ := mem_ready.1 hj
    have ho' : l[j]? = some o' := by simpa using ho
    have hjl : j < l.length := (List.getElem?_eq_some_iff.1 ho').1
    rw [getD_true (by omega)] at h1
    rcases Nat.lt_trichotomy j p with hjp | hjp | hjp
    · have : ∃ c, (j, c) ∈ F := by
        refine Classical.byContradiction fun hno => ?_
        rw [hl1 j hjp (fun c hcF => hno ⟨c, hcF⟩)] at h1; cases h1
      obtain ⟨c, hcF⟩ := this
      refine float_step hF hcF hsz hcnt h1 hc (fun o hoo => by rw [ho'] at hoo; cases hoo; exact h2) hfr hfl fun listed' a' g1 g2 g3 g4 g5 g6 => ih listed' a' w g1 g2 (fun i hi hno => (g3 i).2 (.inl (hl1 i hi hno))) (fun i hi => ?_) g4 g5 g6 hst
      cases hx : listed'.getD i false with
      | false => rfl
      | true =>
        rcases (g3 i).1 hx with h | h
        · rw [hl2 i hi] at h; cases h
        · omega
    · subst hjp
      rw [hp] at ho'; cases ho'
      unfold wpOp
      rw [ho]
      dsimp only
      rw [if_pos (hfr.wanted hg)]
      refine .inl ?_
      unfold Oper.wp
      obtain ⟨w', hr, e1, e2, e3, e4, e5, e6⟩ := hx a w hfr (hst.heap b ob (.head _))
      rw [hr, Oper.upon_skip, hdst]
      refine h fuel _ _ _ (by simp [hsz]) (by rw [cnt_set (by omega) h1 _ hjl]; omega) (fun i hi hno => ?_) (fun i hi => ?_) (hc.list (by omega) hp h2) hfr (fun f c hf hlf t ht => ?_) (hst.write e1 e2 e3 e4 e5 e6)
      · by_cases hij : i = j
        · subst hij; exact getD_set_same (by omega)
        · rw [getD_set_ne hij]; exact hl1 i (by omega) hno
      · rw [getD_set_ne (by omega)]; exact hl2 i (by omega)
      · have hfj : f ≠ j := fun e => by subst e; exact hnF c hf
        rw [getD_set_ne hfj] at hlf
        exact hfl f c hf hlf t ht
    · exfalso
      have := mask_listed hc j o' p ho' h2 (hm j hjp hjl)
      rw [hl2 p (Nat.le_refl _)] at this; cases this

def fenv (l : List Oper) : List (Nat × Value) → Env
  | [] => []
  | (f, c) :: F => match dstAt l f with
    | some t => (t, c) :: fenv l F
    | none => fenv l F
theorem fenv_get : ∀ {F : List (Nat × Value)} {t : Nat} {v : Value}, lk (fenv l F) t = some v → ∃ f, (f, v) ∈ F ∧ dstAt l f = some t
  | [], _, _, h => by cases h
  | (f, c) :: F, t, v, h => by
    unfold fenv at h
    split at h
    · rename_i u hu
      change (match Nat.beq u t with | true => some c | false => lk (fenv l F) t) = some v at h
      cases hb : Nat.beq u t with
      | true => rw [hb] at h; cases h; exact ⟨f, .head _, by rw [hu, Nat.eq_of_beq_eq_true hb]⟩
      | false => rw [hb] at h; obtain ⟨f', h1, h2⟩ := fenv_get h; exact ⟨f', .tail _ h1, h2⟩
    · obtain ⟨f', h1, h2⟩ := fenv_get h; exact ⟨f', .tail _ h1, h2⟩

theorem wlf_end (hpl : p ≤ l.length) (hFp : ∀ f c, (f, c) ∈ F → f < p) (htail : ∀ i, p ≤ i → i < l.length → ∀ j, j < i → ((masks l []).getD i 0).testBit j = true) (hedge : ∀ i o e, l[i]? = some o → e ∈ o.after → Region.binds .any e = true → e.on < i)
    (hF : FloatOk P n l env F) (h : WL P n K l.toArray Q (l.drop p) (fenv l F ++ env) m H) : WLF P n K l Q F p env m H := by
  have fin : ∀ (fuel : Nat) (listed : Array Bool) (a : Act) (w : World), listed.size = l.length → cnt listed l.length + fuel = l.length → (∀ j, j < p → listed.getD j false = true) → (∀ j, p ≤ j → listed.getD j false = false) → Closed l listed →
      Fr n env a → (∀ f c, (f, c) ∈ F → listed.getD f false = true → ∀ t, dstAt l f = some t → a.tmps[t]? = some c) → St K m H w → wpAny P .any l.toArray Q fuel listed a w := by
    intro fuel listed a w hsz hcnt hl1 hl2 hc hfr hfl hst
    rw [cnt_ext hpl hl2, cnt_full hl1] at hcnt
    refine wpAny_tail' hpl htail hedge fuel p listed a w (Nat.le_refl _) hcnt hsz (fun j hj => ?_) hc (h a w ⟨hfr.size, fun t v hv => ?_, hfr.defers⟩ hst)
    · by_cases hjp : j < p
      · rw [hl1 j hjp]; simp [hjp]
      · rw [hl2 j (by omega)]; simp [hjp]
    · rcases lk_app hv with h1 | h1
      · obtain ⟨f, h2, h3⟩ := fenv_get h1
        exact hfl f v h2 (hl1 f (hFp f v h2)) t h3
      · exact hfr.get t v h1
  intro fuel
  induction fuel with
  | zero =>
    intro listed a w hsz hcnt hl1 hl2 hc hfr hfl hst
    exact fin 0 listed a w hsz hcnt (fun j hj => cnt_all (k := l.length) (by omega) j (by omega)) hl2 hc hfr hfl hst
  | succ fuel ih =>
    intro listed a w hsz hcnt hl1 hl2 hc hfr hfl hst
    by_cases hall : ∀ j, j < p → listed.getD j false = true
    · exact fin _ listed a w hsz hcnt hall hl2 hc hfr hfl hst
    · obtain ⟨i1, hi1, hi1f⟩ : ∃ i1, i1 < p ∧ listed.getD i1 false = false := by
        refine Classical.byContradiction fun hno => hall fun i hi => ?_
        cases hx : listed.getD i false with
        | true => rfl
        | false => exact absurd ⟨i, hi, hx⟩ hno
      refine ⟨fun hnil => absurd hnil (ready_some hedge hsz (by omega)), fun j hj => ?_⟩
      obtain ⟨h1, o', ho, h2⟩ := mem_ready.1 hj
      have ho' : l[j]? = some o' := by simpa using ho
      have hjl : j < l.length := (List.getElem?_eq_some_iff.1 ho').1
      rw [getD_true (by omega)] at h1
      have hjp : j < p := by
        by_cases hjp : j < p
        · exact hjp
        · exfalso
          have := mask_listed hc j o' i1 ho' h2 (htail j (by omega) hjl i1 (by omega))
          rw [hi1f] at this; cases this
      have : ∃ c, (j, c) ∈ F := by
        refine Classical.byContradiction fun hno => ?_
        rw [hl1 j hjp (fun c hcF => hno ⟨c, hcF⟩)] at h1; cases h1
      obtain ⟨c, hcF⟩ := this
      refine float_step hF hcF hsz hcnt h1 hc (fun o hoo => by rw [ho'] at hoo; cases hoo; exact h2) hfr hfl fun listed' a' g1 g2 g3 g4 g5 g6 => ih listed' a' w g1 g2 (fun i hi hno => (g3 i).2 (.inl (hl1 i hi hno))) (fun i hi => ?_) g4 g5 g6 hst
      cases hx : listed'.getD i false with
      | false => rfl
      | true =>
        rcases (g3 i).1 hx with h | h
        · rw [hl2 i hi] at h; cases h
        · omega
end

def fpick (l : List Oper) (ds : List Nat) : List (Nat × Value) → Env
  | [] => []
  | (f, c) :: F => match nmem f ds, dstAt l f with
    | true, some t => (t, c) :: fpick l ds F
    | _, _ => fpick l ds F
theorem fpick_get {l : List Oper} {ds : List Nat} : ∀ {F : List (Nat × Value)} {t : Nat} {v : Value}, lk (fpick l ds F) t = some v → ∃ f, (f, v) ∈ F ∧ nmem f ds = true ∧ dstAt l f = some t
  | [], _, _, h => by cases h
  | (f, c) :: F, t, v, h => by
    unfold fpick at h
    split at h
    · rename_i u hn hu
      change (match Nat.beq u t with | true => some c | false => lk (fpick l ds F) t) = some v at h
      cases hb : Nat.beq u t with
      | true => rw [hb] at h; cases h; exact ⟨f, .head _, hn, by rw [hu, Nat.eq_of_beq_eq_true hb]⟩
      | false => rw [hb] at h; obtain ⟨f', h1, h2⟩ := fpick_get h; exact ⟨f', .tail _ h1, h2⟩
    · obtain ⟨f', h1, h2⟩ := fpick_get h; exact ⟨f', .tail _ h1, h2⟩
def depsOk (l : List Oper) (f : Nat) (ds : List Nat) : Bool := ds.all fun d => ((masks l []).getD f 0).testBit d
def FloatsOkA (P : Program) (n : Nat) (l : List Oper) (env : Env) (FA : List (Nat × Value)) : List (Nat × Value) → Prop
  | [] => True
  | (f, c) :: F => (∃ o t ds, l[f]? = some o ∧ o.dst = some t ∧ Nat.blt t n = true ∧ lk env t = none ∧ gd l.toArray env o.guard = some true ∧ depsOk l f ds = true ∧ Ex P n o (fpick l ds FA ++ env) (fun _ => none) [] c) ∧ FloatsOkA P n l env FA F
def FloatsOk (P : Program) (n : Nat) (l : List Oper) (env : Env) (F : List (Nat × Value)) : Prop := FloatsOkA P n l env F F
def distinct (l : List Oper) : List (Nat × Value) → Bool
  | [] => true
  | (f, _) :: F => (F.all fun p => dstAt l p.1 != dstAt l f) && distinct l F
theorem FloatsOkA.mem {P : Program} {n : Nat} {l : List Oper} {env : Env} {FA : List (Nat × Value)} : ∀ {F : List (Nat × Value)}, FloatsOkA P n l env FA F → distinct l F = true → FloatOkA P n l env FA F
  | [], _, _ => fun f c h => absurd h List.not_mem_nil
  | (f, c) :: F, h, hd => by
    obtain ⟨⟨o, t, ds, h1, h2, h3, h4, h5, h7, h6⟩, hr⟩ := h
    simp only [distinct, Bool.and_eq_true, List.all_eq_true, bne_iff_ne, ne_eq] at hd
    have ih := FloatsOkA.mem hr hd.2
    have hdf : dstAt l f = some t := by simp [dstAt, h1, h2]
    intro f' c' hm
    rcases List.mem_cons.1 hm with e | hm
    · cases e
      refine ⟨o, t, h1, h2, by simpa [Nat.blt_eq] using h3, h4, fun f2 c2 hm2 hd2 => ?_, h5, fun a w ha hx => h6 a w ⟨ha.size, fun t' v' hv' => ?_, ha.defers⟩ (fun b x hb => by cases hb) (fun _ _ hb => absurd hb List.not_mem_nil)⟩
      rotate_left
      · rcases lk_app hv' with h8 | h8
        · obtain ⟨f', h9, h10, h11⟩ := fpick_get h8
          simp only [depsOk, List.all_eq_true] at h7
          exact hx f' v' h9 (h7 f' (nmem_mem h10)) t' h11
        · exact ha.get t' v' h8
      rcases List.mem_cons.1 hm2 with e | hm2
      · cases e; exact ⟨rfl, rfl⟩
      · exact absurd (hd2.trans hdf.symm) (hd.1 _ hm2)
    · obtain ⟨o', t', g1, g2, g3, g4, g5, g6, g7⟩ := ih f' c' hm
      refine ⟨o', t', g1, g2, g3, g4, fun f2 c2 hm2 hd2 => ?_, g6, g7⟩
      rcases List.mem_cons.1 hm2 with e | hm2
      · cases e
        exact absurd (by rw [hd2]; simp [dstAt, g1, g2]) (hd.1 _ hm)
      · exact g5 f2 c2 hm2 hd2
theorem FloatsOk.mem {P : Program} {n : Nat} {l : List Oper} {env : Env} {F : List (Nat × Value)} (h : FloatsOk P n l env F) (hd : distinct l F = true) : FloatOk P n l env F := FloatsOkA.mem h hd
def edgeOk (l : List Oper) : Bool := (List.range l.length).all (fun i => match l[i]? with
    | some o => o.after.toList.all fun e => !Region.binds .any e || Nat.blt e.on i
    | none => true)
theorem edgeOk_spec {l : List Oper} (h : edgeOk l = true) : ∀ i o e, l[i]? = some o → e ∈ o.after → Region.binds .any e = true → e.on < i := by
  intro i o e ho he hb
  simp only [edgeOk, List.all_eq_true, List.mem_range] at h
  have h1 := h i (List.getElem?_eq_some_iff.1 ho).1
  rw [ho] at h1
  simp only [List.all_eq_true] at h1
  have h2 := h1 e (Array.mem_toList_iff.2 he)
  simpa [hb, Nat.blt_eq] using h2
def mainOk (l : List Oper) (p : Nat) : Bool := (List.range l.length).all fun i => !Nat.blt p i || ((masks l []).getD i 0).testBit p
def endOk (l : List Oper) (p : Nat) (F : List (Nat × Value)) : Bool := Nat.ble p l.length && (F.all fun q => Nat.blt q.1 p) && (List.range l.length).all fun i => !Nat.ble p i || (List.range i).all fun j => ((masks l []).getD i 0).testBit j
section
variable {P : Program} {n : Nat} {K : Ctx} {l : List Oper} {Q : Exit → Act → World → Prop} {F : List (Nat × Value)} {p : Nat} {env : Env} {m : Mem} {H : Hp}
variable {ty : TypeId} {pos : String} {aft : Array Edge} {g : Option (Nat × Bool)} {x y : Operand} {v : Value}
theorem wlf_done (he : endOk l p F = true) (hed : edgeOk l = true) (hd : distinct l F = true) (hF : FloatsOk P n l env F) (h : WL P n K l.toArray Q (l.drop p) (fenv l F ++ env) m H) : WLF P n K l Q F p env m H := by
  simp only [endOk, Bool.and_eq_true, List.all_eq_true, List.mem_range, Bool.or_eq_true] at he
  refine wlf_end (Nat.le_of_ble_eq_true he.1.1) (fun f c hf => by simpa [Nat.blt_eq] using he.1.2 _ hf) (fun i hi hil j hj => ?_) (edgeOk_spec hed) (hF.mem hd) h
  rcases he.2 i hil with h1 | h1
  · have : Nat.ble p i = true := Nat.ble_eq_true_of_le hi
    rw [this] at h1; cases h1
  · exact h1 j hj
theorem wlf_stores {T E : TypeId} {b o : Nat} {xs xs' vs : List Value} (hp : l[p]? = some ⟨none, .store T x y, ty, pos, aft, g⟩) (hpF : nmem p (F.map Prod.fst) = false) (hm : mainOk l p = true) (hed : edgeOk l = true) (hd : distinct l F = true) (hF : FloatsOk P n l env F)
    (hg : gd l.toArray env g = some true) (hs : sizeIs P T vs.length) (hx : ev env x = some (.pointer (some ⟨b, o, none⟩))) (hy : ev env y = some (.agg vs.toArray)) (hv : ∀ u ∈ vs, u.oneCell' = true) (ho : o + vs.length ≤ xs.length) (hxs : splice xs o vs = xs')
    (h : WLF P n K l Q F (p + 1) env m ((b, cl E xs') :: H)) : WLF P n K l Q F p env m ((b, cl E xs) :: H) := by
  simp only [mainOk, List.all_eq_true, List.mem_range, Bool.or_eq_true] at hm
  refine wlf_write hp hpF (fun i hi hil => ?_) (edgeOk_spec hed) (hF.mem hd) rfl hg (fun a w ha hb => ?_) h
  · rcases hm i hil with h1 | h1
    · have : Nat.blt p i = true := by simpa [Nat.blt_eq] using hi
      rw [this] at h1; cases h1
    · exact h1
  · obtain ⟨w', hr, e⟩ := run_storeCells' (P := P) (b := b) (T := E) vs o 0 xs w hb (by simpa using ho) hv
    refine ⟨w', ?_, by rw [← hxs]; simpa using e⟩
    simp [execOp, ha.ev hx, ha.ev hy, Instr.storeAt, Instr.sureAddr, storeVar, run_sizeOf hs, Value.cells, hr]
theorem wlf_store {T E : TypeId} {b o : Nat} {xs xs' : List Value} (hp : l[p]? = some ⟨none, .store T x y, ty, pos, aft, g⟩) (hpF : nmem p (F.map Prod.fst) = false) (hm : mainOk l p = true) (hed : edgeOk l = true) (hd : distinct l F = true) (hF : FloatsOk P n l env F)
    (hg : gd l.toArray env g = some true) (hs : sizeIs P T 1) (hx : ev env x = some (.pointer (some ⟨b, o, none⟩))) (hy : ev env y = some v) (hv : v.oneCell' = true) (ho : o < xs.length) (hxs : xs.set o v = xs')
    (h : WLF P n K l Q F (p + 1) env m ((b, cl E xs') :: H)) : WLF P n K l Q F p env m ((b, cl E xs) :: H) := by
  simp only [mainOk, List.all_eq_true, List.mem_range, Bool.or_eq_true] at hm
  refine wlf_write hp hpF (fun i hi hil => ?_) (edgeOk_spec hed) (hF.mem hd) rfl hg (fun a w ha hb => ?_) h
  · rcases hm i hil with h1 | h1
    · have : Nat.blt p i = true := by simpa [Nat.blt_eq] using hi
      rw [this] at h1; cases h1
    · exact h1
  · have hc : v.cells.toList = [v] := by cases v <;> first | rfl | (simp [Value.oneCell'] at hv)
    have hc2 : v.cells.size = 1 := by have := congrArg List.length hc; simpa using this
    obtain ⟨w', hr, e⟩ := run_storeCells' (P := P) (b := b) (T := E) [v] o 0 xs w hb (by simp; omega) (by simpa using hv)
    refine ⟨w', ?_, by rw [← hxs]; simpa [splice_one] using e⟩
    simp [execOp, ha.ev hx, ha.ev hy, Instr.storeAt, Instr.sureAddr, storeVar, run_sizeOf hs, hc2, hc, hr]
end
end Go.Cy

/- The calculus, further: strings. -/
namespace Go.Cy
open Go

def B (l : List UInt8) : ByteArray := ⟨l.toArray⟩
theorem B_size (l : List UInt8) : (B l).size = l.length := by simp [B, ByteArray.size]
theorem B_append (x y : List UInt8) : B x ++ B y = B (x ++ y) := by
  apply ByteArray.ext
  simp [B, ByteArray.data_append]
theorem B_toList (l : List UInt8) : (B l).toList = l := by
  rw [ByteArray.toList_eq]
  simp [B]
def bsv (l : List UInt8) : List Value := l.map fun b => Value.int .u8 (b.toNat : Int)
def ssv (s : ByteArray) : List Value := s.data.toList.map fun b => Value.int .u8 (b.toNat : Int)
theorem ssv_B (l : List UInt8) : ssv (B l) = bsv l := by simp [ssv, bsv, B]
theorem bsv_length (l : List UInt8) : (bsv l).length = l.length := by simp [bsv]
theorem bsv_append (x y : List UInt8) : bsv (x ++ y) = bsv x ++ bsv y := by simp [bsv]
theorem bsv_at {l : List UInt8} {junk : List Value} {o k : Nat} (h : k < l.length) (e : o = k) : (bsv l ++ junk)[o]? = some (.int .u8 (l[k].toNat : Int)) := by
  subst e
  rw [List.getElem?_append_left (by simpa [bsv] using h)]
  simp [bsv, h]
theorem bsv_setAs {l : List UInt8} {junk : List Value} {o k : Nat} {y : UInt8} (h : k < l.length) (e : o = k) : (bsv l ++ junk).set o (.int .u8 (y.toNat : Int)) = bsv (l.set k y) ++ junk := by
  subst e
  rw [List.set_append_left _ _ (by simpa [bsv] using h)]
  simp [bsv, List.map_set]
theorem bsv_snoc (x : List UInt8) (b : UInt8) : bsv (x ++ [b]) = bsv x ++ [.int .u8 (b.toNat : Int)] := by simp [bsv]
theorem extract_all (s : ByteArray) : s.extract 0 s.size = s := by
  simp
theorem foldl_bytes : ∀ (l acc : List UInt8), (l.map fun b => (b.toNat : Int)).foldl (fun (r : ByteArray) n => r.push (UInt8.ofNat n.toNat)) (B acc) = B (acc ++ l)
  | [], acc => by simp
  | b :: l, acc => by
    have e : (B acc).push (UInt8.ofNat ((b.toNat : Int)).toNat) = B (acc ++ [b]) := by
      apply ByteArray.ext
      simp [B, ByteArray.push]
    rw [List.map_cons, List.foldl_cons, e, foldl_bytes l (acc ++ [b])]
    simp

def symTab (s : ByteArray) : Bool := Nat.ble 10 s.size && (List.range 10).all fun i => s.get! i == UInt8.ofNat (48 + i)
theorem x_indexSym {P : Program} {n : Nat} {env : Env} {m : Mem} {H : Hp} {d : Option Nat} {ty : TypeId} {pos : String} {aft : Array Edge} {g : Option (Nat × Bool)} {x y : Operand} {T : TypeId} {s : ByteArray} {j : Nat} {k : IntKind} {p : Int} (ht : P.underlying T = some .string) (hx : ev env x = some (.string s)) (hy : ev env y = some (.int k p)) (hp : p = (j : Int)) (hj : j < 10) (hs : symTab s = true) :
    Ex P n ⟨d, .index T x y, ty, pos, aft, g⟩ env m H (.int .u8 ((UInt8.ofNat (48 + j)).toNat : Int)) := by
  simp only [symTab, Bool.and_eq_true, beq_iff_eq, List.all_eq_true, List.mem_range] at hs
  have h0 := Nat.le_of_ble_eq_true hs.1
  have h1 : j < s.size := by omega
  have h2 := x_indexS (d := d) (ty := ty) (pos := pos) (aft := aft) (g := g) (n := n) (m := m) (H := H) ht hx hy hp h1
  have h3 : s[j] = UInt8.ofNat (48 + j) := by
    rw [← hs.2 j hj]
    simp [ByteArray.get!, ByteArray.getElem_eq_getElem_data, h1]
  rw [h3] at h2
  exact h2

section
variable {P : Program} {n : Nat} {K : Ctx} {Q : Exit → Act → World → Prop} {env : Env} {m : Mem} {H : Hp} {ops : Array Oper} {rest : List Oper}
variable {dd : Nat} {d : Option Nat} {ty : TypeId} {pos : String} {aft : Array Edge} {g : Option (Nat × Bool)} {x y : Operand}
theorem x_strOf {T t E : TypeId} {a0 : Option Addr} {len cap : Nat} {l : List UInt8} (ht : P.underlying T = some (.slice E)) (he : P.underlying E = some (.int .u8)) (ht' : P.underlying t = some .string)
    (hx : ev env x = some (.slice a0 len cap)) (hl : l.length = len) (hr : len = 0 ∨ ∃ b o, a0 = some ⟨b, o, none⟩ ∧ Row m H b o (bsv l)) : Ex P n ⟨d, .convert T t x, ty, pos, aft, g⟩ env m H (.string (B l)) := fun a w ha hf hh => by
  have h1 : (convert T t (.slice a0 len cap)).run P w = .ok (.string (B l)) w := by
    rw [run_convert_bytes_string w T t E _ len cap ht he ht']
    rcases hr with h0 | ⟨b, o, rfl, hrow⟩
    · subst h0
      have : l = [] := List.length_eq_zero_iff.1 hl
      subst this
      cases a0 <;> simp [Conv.bytesToString, loadCells, loadCellsFrom] <;> rfl
    · have hL : (loadCells ⟨b, o, none⟩ len).run P w = .ok ((l.map fun b => (b.toNat : Int)).map (Value.int .u8)).toArray w := by
        have := run_loadCells_list (P := P) w ⟨b, o, none⟩ (bsv l) (fun j v hv => by rw [add_none]; exact hrow.cell hf hh hv)
        rw [bsv_length, hl] at this
        rw [this]
        simp [bsv]
      rw [run_bytesToString w _ len cap _ hL]
      have := foldl_bytes l []
      rw [List.nil_append] at this
      rw [← this]
      rfl
  simp [execOp, ha.ev hx, h1]

theorem wl_appendS {T T' E : TypeId} {k : Nat} {zs cells : List Value} {v : Value} {Hs H0 : Hp} {tys : Array TypeId} {st : ByteArray}
    (hg : gd ops env g = some true) (hd : Nat.blt dd n = true) (hT : tys = #[T, T']) (ht : P.underlying T = some (.slice E)) (ht' : P.underlying T' = some .string) (hs : sizeIs P E 1) (hb : bytesIs P E k) (hz : zeroIs P E zs) (hzs : zs.length = 1)
    (hx : ev env x = some v) (hown : Own v 1 E cells Hs) (hH : H.Perm (Hs ++ H0)) (hy : ev env y = some (.string st))
    (hbd : (cells.length + st.size) * k ≤ 140737488355328) (hcl : cells.length + st.size ≤ 4611686018427387904)
    (h : ∀ v' Hs', Own v' 1 E (cells ++ ssv st) Hs' → WL P n K ops Q rest ((dd, v') :: env) m (Hs' ++ H0)) : WL P n K ops Q (⟨some dd, .call ⟨.builtin .append, [x, y].toArray, tys⟩, ty, pos, aft, g⟩ :: rest) env m H := by
  subst hT
  obtain ⟨i, z, hi, hi1, hi2, hi3, hi4⟩ := info_of hs hb hz
  intro a w ha hst
  have hst2 : St K m (Hs ++ H0) w := hst.perm hH
  unfold wpList
  rw [if_pos (ha.wanted hg)]
  refine .inl ?_
  obtain ⟨news, hne⟩ : ∃ news, news = ssv st := ⟨_, rfl⟩
  rw [← hne] at h
  obtain ⟨s, hs1⟩ : ∃ s, s = 1 := ⟨_, rfl⟩
  rw [← hs1] at hs hzs hown h
  obtain ⟨len', hlen'⟩ : ∃ len', len' = st.size := ⟨_, rfl⟩
  have hs0 : 0 < s := by omega
  have hl : news.length = len' * s := by rw [hne, hs1, hlen']; simp [ssv]
  have h1 : ∀ u ∈ news, u.oneCell' = true := by
    intro u hu
    rw [hne, ssv, List.mem_map] at hu
    obtain ⟨b, _, rfl⟩ := hu
    rfl
  have hbd : (cells.length + news.length) * k ≤ 140737488355328 * s := by rw [hl, hlen', hs1, Nat.mul_one, Nat.mul_one]; exact hbd
  have hcl : cells.length + news.length ≤ 4611686018427387904 * s := by rw [hl, hlen', hs1, Nat.mul_one, Nat.mul_one]; exact hcl
  have hi1 : i.size = s := by rw [hi1, hs1]
  have hnews : ∀ w, (Builtin.firstCells i.size len' (.string st)).run P w = .ok news.toArray w := by
    intro w
    rw [hne, hlen']
    simp only [Builtin.firstCells, Sem.run_pure]
    congr 1
    rw [extract_all]
    apply Array.ext'
    simp [ssv]
  have drawSt : ∀ (H : Hp), St K m H w → St K m H w.drew := fun H h => { h with }
  -- what the operation gives
  have main : ∀ (base : Option Addr) (len cap : Nat) (xs : List Value), v = .slice base len cap → len ≤ cap → cells.length = len * s → xs.take (len * s) = cells → xs.length = cap * s →
      ((base = none ∧ cap = 0 ∧ Hs = []) ∨ ∃ b, base = some ⟨b, 0, none⟩ ∧ Hs = [(b, cl E xs)]) →
      ∃ v' w', (execOp a.eval ⟨some dd, .call ⟨.builtin .append, [x, y].toArray, #[T, T']⟩, ty, pos, aft, g⟩).run P w = .ok (.value v') w' ∧ ∃ Hs', Own v' s E (cells ++ news) Hs' ∧ St K m (Hs' ++ H0) w' := by
    intro base len cap xs hv hlc hcl1 htake hxl hbase
    subst hv
    have hlen63 : len + len' ≤ 4611686018427387904 := by
      have e : cells.length + news.length = (len + len') * s := by rw [hcl1, hl, Nat.add_mul]
      rw [e] at hcl
      exact Nat.le_of_mul_le_mul_right hcl hs0
    have hbytes : (len + len') * i.bytes ≤ 140737488355328 := by
      have e : cells.length + news.length = (len + len') * s := by rw [hcl1, hl, Nat.add_mul]
      rw [e] at hbd
      rw [hi2]
      have : ((len + len') * k) * s ≤ 140737488355328 * s := by rw [Nat.mul_right_comm]; exact hbd
      exact Nat.le_of_mul_le_mul_right this hs0
    have hex : (execOp a.eval ⟨some dd, .call ⟨.builtin .append, [x, y].toArray, #[T, T']⟩, ty, pos, aft, g⟩).run P w = ((Builtin.append_ #[T, T'] ty #[.slice base len cap, .string st]).run P w).andThen fun r w' => .ok (.value r) w' := by
      simp [execOp, resolve, invoke, builtin, ha.ev hx, ha.ev hy]
    by_cases hfit : len + len' ≤ cap
    · -- there is room
      rcases hbase with ⟨rfl, rfl, rfl⟩ | ⟨b, rfl, rfl⟩
      · have h0 : len = 0 ∧ len' = 0 := by omega
        obtain ⟨rfl, rfl⟩ := h0
        have hn : news = [] := List.length_eq_zero_iff.1 (by simpa using hl)
        have hc : cells = [] := List.length_eq_zero_iff.1 (by simpa using hcl1)
        subst hn; subst hc
        refine ⟨.slice none 0 0, w, ?_, [], Own.nil s E, hst2⟩
        rw [hex]
        simp [Builtin.append_, underlying, ht, ht', typeInfo, hi, sizeOf, Builtin.lenOf, hnews, ← hlen']
      · have hbk : w.heap[b]? = some (cl E xs) := hst2.heap b _ (.head _)
        obtain ⟨w', hrun, e1, e2, e3, e4, e5, e6⟩ := run_storeCells' (P := P) (b := b) (T := E) news (len * s) 0 xs w hbk (by rw [hxl, hl, Nat.add_zero, ← Nat.add_mul]; exact Nat.mul_le_mul_right _ hfit) h1
        have hst3 : St K m ((b, cl E (splice xs (len * s) news)) :: H0) w' := St.write hst2 e1 e2 e3 e4 (by simpa using e5) e6
        refine ⟨.slice (some ⟨b, 0, none⟩) (len + len') cap, w', ?_, _, .inr ⟨b, len + len', cap, splice xs (len * s) news, rfl, hfit, by simp [hcl1, hl, Nat.add_mul], by rw [splice_length, hxl], ?_, rfl⟩, hst3⟩
        · rw [hex]
          have hadd : (⟨b, 0, none⟩ : Addr).add (len * i.size) = ⟨b, len * s, none⟩ := by rw [add_none, hi1, Nat.zero_add]
          simp [Builtin.append_, underlying, ht, ht', typeInfo, hi, sizeOf, Builtin.lenOf, hnews, hfit, hadd, hrun, ← hlen']
        · have hle : len * s + news.length ≤ xs.length := by rw [hxl, hl, ← Nat.add_mul]; exact Nat.mul_le_mul_right _ hfit
          have hle2 : len * s ≤ xs.length := by omega
          rw [splice_eq news xs (len * s) hle, htake, Nat.add_mul, ← hl, ← hcl1]
          rw [show cells.length + news.length = (cells ++ news).length by simp, List.take_left']
          simp
    · -- a new row
      have hnp : Builtin.nextslicecap (len + len') cap * i.bytes ≤ 281474976710656 := by
        have := nextcap_le (need := len + len') (cap := cap) (by omega)
        have h2 := Nat.mul_le_mul_right i.bytes this
        rw [Nat.mul_assoc] at h2
        omega
      have hold : (Builtin.firstCells i.size len (.slice base len cap)).run P w.drew = .ok cells.toArray w.drew := by
        rw [hi1]
        rcases hbase with ⟨rfl, rfl, rfl⟩ | ⟨b, rfl, rfl⟩
        · have : len = 0 := by omega
          subst this
          have hc : cells = [] := List.length_eq_zero_iff.1 (by simpa using hcl1)
          subst hc
          simp [Builtin.firstCells]
        · refine firstCells_row (m := m) (H := [(b, cl E xs)]) (rowH (.head _) fun j hj => ?_) hst2.mem (fun b' o' hb' => hst2.heap b' o' (List.mem_append_left _ hb')) hcl1
          rw [Nat.zero_add, ← htake, List.getElem?_take, if_pos (by omega)]
      have hq : (Question.appendCap (len + len') cap E).forced = false := rfl
      refine ⟨.slice (some ⟨w.heap.size, 0, none⟩) (len + len') ((Question.appendCap (len + len') cap E).cut (w.tape w.drawn (Question.appendCap (len + len') cap E))),
        World.alloc w.drew (cl E (cells ++ news ++ reps ((Question.appendCap (len + len') cap E).cut (w.tape w.drawn (Question.appendCap (len + len') cap E)) - (len + len')) zs)), ?_, _,
        .inr ⟨w.heap.size, len + len', _, cells ++ news ++ reps ((Question.appendCap (len + len') cap E).cut (w.tape w.drawn (Question.appendCap (len + len') cap E)) - (len + len')) zs, rfl, ?_, by simp [hcl1, hl, Nat.add_mul], ?_, ?_, rfl⟩, ?_⟩
      · rw [hex]
        have hnp' : ¬ (281474976710656 < Builtin.nextslicecap (len + len') cap * i.bytes) := by omega
        have h63 : ¬ (9223372036854775807 < (len : Int) + (len' : Int)) := by omega
        have hz' : (zeroValue E).run P w.drew = .ok z w.drew := by simp [zeroValue, typeInfo, hi, hi3]
        have hzc : ∀ q, Builtin.zeroCells z.cells q = (reps q zs).toArray := fun q => by
          unfold Builtin.zeroCells
          rw [hi4]
          have := range_reps zs q
          simpa using this
        simp [Builtin.append_, underlying, ht, ht', typeInfo, hi, sizeOf, Builtin.lenOf, ← hlen', hfit, hnp', h63, choose, Sem.run, hq, hold, hnews, hz', hzc, newRow, cl, askRoom]
      · simp only [Question.cut]; omega
      · have hge : len + len' ≤ (Question.appendCap (len + len') cap E).cut (w.tape w.drawn (Question.appendCap (len + len') cap E)) := by simp only [Question.cut]; omega
        simp only [List.length_append, reps_length, hzs, hcl1, hl]
        rw [← Nat.add_mul, ← Nat.add_mul]
        congr 1
        omega
      · rw [Nat.add_mul, ← hl, ← hcl1, show cells.length + news.length = (cells ++ news).length by simp, List.take_left']
        rfl
      · have hst4 := (drawSt (Hs ++ H0) hst2).alloc (cl E (cells ++ news ++ reps ((Question.appendCap (len + len') cap E).cut (w.tape w.drawn (Question.appendCap (len + len') cap E)) - (len + len')) zs))
        refine hst4.sub (fun b' o' hb' => ?_) ?_
        · rcases List.mem_cons.1 hb' with hb' | hb'
          · rw [hb']; exact .head _
          · exact .tail _ (List.mem_append_right _ hb')
        · have hnd := hst4.nodup
          unfold keys at hnd ⊢
          rw [List.map_cons, List.map_append, List.nodup_cons, List.nodup_append] at hnd
          rw [List.cons_append, List.nil_append, List.map_cons, List.nodup_cons]
          exact ⟨fun hmem => hnd.1 (List.mem_append_right _ hmem), hnd.2.2.1⟩
  have fin : ∃ v' w', (execOp a.eval ⟨some dd, .call ⟨.builtin .append, [x, y].toArray, #[T, T']⟩, ty, pos, aft, g⟩).run P w = .ok (.value v') w' ∧ ∃ Hs', Own v' s E (cells ++ news) Hs' ∧ St K m (Hs' ++ H0) w' := by
    rcases hown with ⟨rfl, rfl, rfl⟩ | ⟨b, len, cap, xs, rfl, h2, h3, h4, h5, rfl⟩
    · exact main none 0 0 [] rfl (Nat.le_refl _) (by simp) (by simp) (by simp) (.inl ⟨rfl, rfl, rfl⟩)
    · exact main _ len cap xs rfl h2 h3 h5 h4 (.inr ⟨b, rfl, rfl⟩)
  obtain ⟨v', w', hrun, Hs', ho, hst'⟩ := fin
  unfold Oper.wp
  rw [hrun, Oper.upon_value]
  exact h v' Hs' ho _ w' (ha.put v' hd) hst'

end
end Go.Cy

/- The calculus, further: addresses compared and converted, a function without a body, a row of bytes handed out as a string. -/
namespace Go.Cy
open Go

section
variable {P : Program} {n : Nat} {K : Ctx} {Q : Exit → Act → World → Prop} {env : Env} {m : Mem} {H : Hp} {ops : Array Oper} {rest : List Oper}
variable {d : Option Nat} {ty : TypeId} {pos : String} {aft : Array Edge} {g : Option (Nat × Bool)} {x y : Operand}

theorem x_eqlNN {T E T' : TypeId} (ht : P.underlying T = some (.pointer E)) (hx : ev env x = some (.pointer none)) (hy : ev env y = some (.pointer none)) : Ex P n ⟨d, .binOp .eql T x y T', ty, pos, aft, g⟩ env m H (.bool true) := fun a w ha _ _ => by
  have h0 : ∀ d : Nat, (Op.equalIn (d + 1) T (.pointer none) (.pointer none)).run P w = .ok true w := fun d => by simp [Op.equalIn, run_underlying ht]
  have h : (Op.equal T (.pointer none) (.pointer none)).run P w = .ok true w := by simp [Op.equal, Op.maxDepth, h0 9999]
  simp [execOp, ha.ev hx, ha.ev hy, eqGuard, binOp, h]
theorem x_eqlPN {T E T' : TypeId} {ad : Addr} (ht : P.underlying T = some (.pointer E)) (hx : ev env x = some (.pointer (some ad))) (hy : ev env y = some (.pointer none)) : Ex P n ⟨d, .binOp .eql T x y T', ty, pos, aft, g⟩ env m H (.bool false) := fun a w ha _ _ => by
  have h0 : ∀ d : Nat, (Op.equalIn (d + 1) T (.pointer (some ad)) (.pointer none)).run P w = .ok false w := fun d => by simp [Op.equalIn, run_underlying ht]
  have h : (Op.equal T (.pointer (some ad)) (.pointer none)).run P w = .ok false w := by simp [Op.equal, Op.maxDepth, h0 9999]
  simp [execOp, ha.ev hx, ha.ev hy, eqGuard, binOp, h]
theorem x_neqSame {T E T' : TypeId} {ad : Addr} {j : TypeInfo} (ht : P.underlying T = some (.pointer E)) (hE : P.info? E = some j) (hx : ev env x = some (.pointer (some ad))) (hy : ev env y = some (.pointer (some ad))) : Ex P n ⟨d, .binOp .neq T x y T', ty, pos, aft, g⟩ env m H (.bool false) := fun a w ha _ _ => by
  have h := Lib.run_neq_ptr_same (P := P) w ad ht hE
  simp [execOp, ha.ev hx, ha.ev hy, eqGuard, h]

theorem x_maxAs {k : IntKind} {p q r : Int} {tys : Array TypeId} (hx : ev env x = some (.int k p)) (hy : ev env y = some (.int k q)) (e : (if q > p then q else p) = r) : Ex P n ⟨d, .call ⟨.builtin .max, [x, y].toArray, tys⟩, ty, pos, aft, g⟩ env m H (.int k r) := e ▸ x_max hx hy
theorem x_minAs {k : IntKind} {p q r : Int} {tys : Array TypeId} (hx : ev env x = some (.int k p)) (hy : ev env y = some (.int k q)) (e : (if q < p then q else p) = r) : Ex P n ⟨d, .call ⟨.builtin .min, [x, y].toArray, tys⟩, ty, pos, aft, g⟩ env m H (.int k r) := e ▸ x_min hx hy
theorem shape_cl {w : World} {b : Nat} {E : TypeId} {xs : List Value} (h : w.heap[b]? = some (cl E xs)) : w.shape? b = some (E, xs.length) := by
  simp [World.shape?, h, cl]

theorem x_toUnsafe {T t e E : TypeId} {b o : Nat} {xs : List Value} {s : Nat} (hm : (b, cl E xs) ∈ H) (hs : P.underlying T = some (.pointer e)) (hd : P.underlying t = some .unsafePointer) (he : sizeIs P e (s + 1)) (ho : o < xs.length)
    (hx : ev env x = some (.pointer (some ⟨b, o, none⟩))) : Ex P n ⟨d, .convert T t x, ty, pos, aft, g⟩ env m H (.pointer (some ⟨b, o, none⟩)) := fun a w ha hf hh => by
  unfold sizeIs at he
  obtain ⟨j, hj, hjs⟩ := Option.map_eq_some_iff.1 he
  have h := Lib.run_to_unsafe (P := P) w ⟨b, o, none⟩ hs hd hj (by omega) (shape_cl (hh _ _ hm)) ho
  simp [execOp, ha.ev hx, h]
theorem x_fromUnsafe {T t u E : TypeId} {b o : Nat} {xs : List Value} {s : Nat} (hm : (b, cl E xs) ∈ H) (hs : P.underlying T = some .unsafePointer) (hd : P.underlying t = some (.pointer u)) (he : sizeIs P u s) {c : Nat} (hc : xs.length = c) (hlies : liesAt P P.depth E (c / P.cellsOf E) o u 1 = true)
    (hx : ev env x = some (.pointer (some ⟨b, o, none⟩))) : Ex P n ⟨d, .convert T t x, ty, pos, aft, g⟩ env m H (.pointer (some ⟨b, o, none⟩)) := fun a w ha hf hh => by
  unfold sizeIs at he
  obtain ⟨j, hj, hjs⟩ := Option.map_eq_some_iff.1 he
  subst hc
  have h := Lib.run_from_unsafe (P := P) w ⟨b, o, none⟩ hs hd hj (shape_cl (hh _ _ hm)) hlies
  simp [execOp, ha.ev hx, h]

theorem x_extern {f : FuncId} {fn : Func} {e : Array Value → Sem Value} {args : List Operand} {tys : Array TypeId} {vs : List Value} {v : Value} (hf : P.funcs[f]? = some fn) (hname : (fn.name == "runtime.NumGoroutine") = false)
    (hb : fn.body.isNone = true) (hn : Extern.findNext fn = none) (he : Extern.find fn = some e) (ha : evs env args = some vs) (hv : ∀ w, (e vs.toArray).run P w = .ok v w) :
    Ex P n ⟨d, .call ⟨.value (.func f), args.toArray, tys⟩, ty, pos, aft, g⟩ env m H v := fun a w hfr _ _ => by
  have h := run_callFunc_extern (P := P) hf hname hb hn he vs.toArray w
  rw [hv w] at h
  simp only [Result.andThen] at h
  simp [execOp, resolve, Deferred.ofValue, Act.eval, invoke, hfr.evs ha, h]

theorem x_sliceData {tys : Array TypeId} {b o len cap : Nat} (hc : 0 < cap) (hx : ev env x = some (.slice (some ⟨b, o, none⟩) len cap)) : Ex P n ⟨d, .call ⟨.builtin .unsafeSliceData, [x].toArray, tys⟩, ty, pos, aft, g⟩ env m H (.pointer (some ⟨b, o, none⟩)) := fun a w ha _ _ => by
  have h := Lib.run_unsafeSliceData_row (P := P) w tys ty ⟨b, o, none⟩ len cap (by omega)
  simp [execOp, resolve, invoke, builtin, ha.ev hx, h]

theorem St.lose {w w' : World} {b : Nat} {o : Obj} (h : St K m ((b, o) :: H) w) (hos : w'.os = w.os) (htape : w'.tape = w.tape) (hout : w'.output = w.output) (hsz : w'.heap.size = w.heap.size)
    (hold : ∀ k, k ≠ b → w'.heap[k]? = w.heap[k]?) : St K m H w' := by
  have hlt : b < w'.heap.size := by rw [hsz]; exact lt_of_heap (h.heap b o (.head _))
  exact (h.write (o' := w'.heap[b]) hos htape hout hsz (Array.getElem?_eq_getElem hlt) hold).drop1

theorem wl_unsafeString {dd : Nat} {pt it e : TypeId} {b : Nat} {l : List UInt8} {junk : List Value} {H0 : Hp} {len : Int} {tys : Array TypeId} (hT : tys = #[pt, it]) (hg : gd ops env g = some true) (hd : Nat.blt dd n = true) (hp : P.underlying pt = some (.pointer e)) (hc : P.cellsOf e = 1)
    (hx : ev env x = some (.pointer (some ⟨b, 0, none⟩))) (hy : ev env y = some (.int .i64 len)) (hl : len = l.length) (hH : H = (b, cl e (bsv l ++ junk)) :: H0) (h0 : l ≠ []) (h63 : l.length ≤ 9223372036854775807)
    (h : WL P n K ops Q rest ((dd, .string (B l)) :: env) m H0) : WL P n K ops Q (⟨some dd, .call ⟨.builtin .unsafeString, [x, y].toArray, tys⟩, ty, pos, aft, g⟩ :: rest) env m H := by
  subst hH; subst hT; subst hl
  intro a w ha hst
  unfold wpList
  rw [if_pos (ha.wanted hg)]
  refine .inl ?_
  have hb := hst.heap b _ (.head _)
  have hr := Lib.run_unsafeString_row (P := P) w pt it ty e hp hc b _ (shape_cl hb) l h0 (by simp [bsv]) (by omega) (fun j x hx => by
    rw [add_none]
    have h1 : (bsv l ++ junk)[j]? = some (.int .u8 x.toNat) := by
      have hj := (List.getElem?_eq_some_iff.1 hx).1
      rw [List.getElem?_append_left (by simpa [bsv] using hj)]
      simp [bsv, hx]
    simp [World.cell?, hb, cl, h1])
  unfold Oper.wp
  have hx' : (execOp a.eval ⟨some dd, .call ⟨.builtin .unsafeString, [x, y].toArray, #[pt, it]⟩, ty, pos, aft, g⟩).run P w = .ok (.value (.string (B l))) (w.freeze ⟨b, 0, none⟩ l.length) := by
    simp [execOp, resolve, invoke, builtin, ha.ev hx, ha.ev hy, hr, B]
  rw [hx', Oper.upon_value]
  refine h _ _ (ha.put _ hd) (hst.lose ?_ ?_ ?_ ?_ ?_)
  all_goals unfold World.freeze
  · split <;> rfl
  · split <;> rfl
  · split <;> rfl
  · split <;> simp
  · intro k hk
    split
    · rfl
    · simp only [Array.getElem?_modify]
      rw [if_neg (fun e => hk e.symm)]
end

theorem at_drop1 {n : Nat} {K : Ctx} {Q : Exit → Act → World → Prop} {env : Env} {m : Mem} {H : Hp} {e : Exit} {x : Nat × Obj} (h : At n K Q e env m H) : At n K Q e env m (x :: H) := fun a w ha hs => h a w ha hs.drop1
theorem at_perm {n : Nat} {K : Ctx} {Q : Exit → Act → World → Prop} {env : Env} {m : Mem} {H H' : Hp} {e : Exit} (hp : H.Perm H') (h : At n K Q e env m H') : At n K Q e env m H := fun a w ha hs => h a w ha (hs.perm hp)
theorem at_freeze {n : Nat} {K : Ctx} {Q : Exit → Act → World → Prop} {env : Env} {m : Mem} {H : Hp} {e : Exit} {b : Nat} {o : Obj} (h : m.le (m.add b o) → At n K Q e env (m.add b o) H) : At n K Q e env m ((b, o) :: H) := fun a w ha hs => h (Mem.le_add o (hs.apart b o (.head _))) a w ha hs.freeze
theorem St.clear {K : Ctx} {m : Mem} {H : Hp} {w : World} (h : St K m H w) : St K m [] w := h.sub (fun _ _ hb => absurd hb List.not_mem_nil) List.nodup_nil
theorem at_clear {n : Nat} {K : Ctx} {Q : Exit → Act → World → Prop} {env : Env} {m : Mem} {H : Hp} {e : Exit} (h : At n K Q e env m []) : At n K Q e env m H := fun a w ha hs => h a w ha hs.clear
/-! ### Calls that are given blocks -/
section
variable {P : Program} {n : Nat} {K : Ctx} {Q : Exit → Act → World → Prop} {env : Env} {m : Mem} {ops : Array Oper} {rest : List Oper}
variable {f : FuncId} {args : List Operand} {tys : Array TypeId} {vs : List Value} {d : Nat} {ty : TypeId} {pos : String} {aft : Array Edge} {g : Option (Nat × Bool)} {Hc : Hp} {R : Value → Mem → Hp → Prop} {e1 e2 e3 : Nat × Obj}
theorem wl_calld0 (hg : gd ops env g = some true) (hd : Nat.blt d n = true) (ha : evs env args = some vs) (hc : Callable P f) (hf : Does P f vs.toArray m Hc R)
    (h : ∀ v m' H', m.le m' → R v m' H' → WL P n K ops Q rest ((d, v) :: env) m' H') : WL P n K ops Q (⟨some d, .call ⟨.value (.func f), args.toArray, tys⟩, ty, pos, aft, g⟩ :: rest) env m Hc :=
  wl_call hg hd ha hc (List.append_nil _).symm hf fun v m' H' hm hR => by rw [List.append_nil]; exact h v m' H' hm hR
theorem wl_calldp {H Hr : Hp} (hp : H.Perm (Hc ++ Hr)) (hg : gd ops env g = some true) (hd : Nat.blt d n = true) (ha : evs env args = some vs) (hc : Callable P f) (hf : Does P f vs.toArray m Hc R)
    (h : ∀ v m' H', m.le m' → R v m' H' → WL P n K ops Q rest ((d, v) :: env) m' (Hr ++ H')) : WL P n K ops Q (⟨some d, .call ⟨.value (.func f), args.toArray, tys⟩, ty, pos, aft, g⟩ :: rest) env m H :=
  wl_perm hp (wl_call hg hd ha hc rfl hf fun v m' H' hm hR => wl_perm List.perm_append_comm (h v m' H' hm hR))
theorem wl_calld1 (hg : gd ops env g = some true) (hd : Nat.blt d n = true) (ha : evs env args = some vs) (hc : Callable P f) (hf : Does P f vs.toArray m Hc R)
    (h : ∀ v m' H', m.le m' → R v m' H' → WL P n K ops Q rest ((d, v) :: env) m' (e1 :: H')) : WL P n K ops Q (⟨some d, .call ⟨.value (.func f), args.toArray, tys⟩, ty, pos, aft, g⟩ :: rest) env m (e1 :: Hc) :=
  wl_calldp (Hr := [e1]) (List.perm_append_comm (l₁ := [e1])) hg hd ha hc hf h
theorem wl_calld2 (hg : gd ops env g = some true) (hd : Nat.blt d n = true) (ha : evs env args = some vs) (hc : Callable P f) (hf : Does P f vs.toArray m Hc R)
    (h : ∀ v m' H', m.le m' → R v m' H' → WL P n K ops Q rest ((d, v) :: env) m' (e1 :: e2 :: H')) : WL P n K ops Q (⟨some d, .call ⟨.value (.func f), args.toArray, tys⟩, ty, pos, aft, g⟩ :: rest) env m (e1 :: e2 :: Hc) :=
  wl_calldp (Hr := [e1, e2]) (List.perm_append_comm (l₁ := [e1, e2])) hg hd ha hc hf h
theorem wl_callvdp {H Hr : Hp} {t : Nat} {fst cap : List Value} (hp : H.Perm (Hc ++ Hr)) (hg : gd ops env g = some true) (hd : Nat.blt d n = true) (ht : lk env t = some (.func (.func f) fst.toArray cap.toArray)) (ha : evs env args = some vs) (hc : Callable P f) (hf : Does P f (fst ++ vs ++ cap).toArray m Hc R)
    (h : ∀ v m' H', m.le m' → R v m' H' → WL P n K ops Q rest ((d, v) :: env) m' (Hr ++ H')) : WL P n K ops Q (⟨some d, .call ⟨.value (.tmp t), args.toArray, tys⟩, ty, pos, aft, g⟩ :: rest) env m H :=
  wl_perm hp (wl_callv hg hd ht ha hc rfl hf fun v m' H' hm hR => wl_perm List.perm_append_comm (h v m' H' hm hR))
variable {e0 : Nat × Obj}
theorem wl_callw1 (hg : gd ops env g = some true) (hd : Nat.blt d n = true) (ha : evs env args = some vs) (hc : Callable P f) (hf : Does P f vs.toArray m (e0 :: Hc) R)
    (h : ∀ v m' H', m.le m' → R v m' H' → WL P n K ops Q rest ((d, v) :: env) m' (e1 :: H')) : WL P n K ops Q (⟨some d, .call ⟨.value (.func f), args.toArray, tys⟩, ty, pos, aft, g⟩ :: rest) env m (e0 :: e1 :: Hc) :=
  wl_calldp (Hr := [e1]) (.cons _ (List.perm_append_comm (l₁ := [e1]))) hg hd ha hc hf h
theorem wl_callw2 (hg : gd ops env g = some true) (hd : Nat.blt d n = true) (ha : evs env args = some vs) (hc : Callable P f) (hf : Does P f vs.toArray m (e0 :: Hc) R)
    (h : ∀ v m' H', m.le m' → R v m' H' → WL P n K ops Q rest ((d, v) :: env) m' (e1 :: e2 :: H')) : WL P n K ops Q (⟨some d, .call ⟨.value (.func f), args.toArray, tys⟩, ty, pos, aft, g⟩ :: rest) env m (e0 :: e1 :: e2 :: Hc) :=
  wl_calldp (Hr := [e1, e2]) (.cons _ (List.perm_append_comm (l₁ := [e1, e2]))) hg hd ha hc hf h
end
theorem ds_buildSlice {P : Program} {n : Nat} {Q : Exit → Act → World → Prop} {env : Env} {m : Mem} {H : Hp} {l : List Oper} {d : Option Nat} {ty : TypeId} {pos : String} {aft : Array Edge} {g : Option (Nat × Bool)} {T E : TypeId} {len s : Nat} {zs cs : List Value} {ps : List (Nat × Operand)} {vs : List (Nat × Value)} {up : ∀ (v : Value) (m m' : Mem), m.le m' → (∃ b, v = .slice (some ⟨b, 0, none⟩) len len ∧ Row m [] b 0 cs) → ∃ b, v = .slice (some ⟨b, 0, none⟩) len len ∧ Row m' [] b 0 cs}
    (hg : gd l.toArray env g = some true) (ht : P.underlying T = some (.slice E)) (hs : sizeIs P E (s + 1)) (hz : zeroIs P E zs) (hzl : Nat.beq zs.length (s + 1) = true)
    (hlen : Nat.ble 1 (len * (s + 1)) = true) (hmax : Nat.ble (len * (s + 1)) 16777216 = true) (hv : evp env ps = some vs) (hc' : fillL (fun i => some (i * (s + 1), (s + 1))) (reps len zs) vs = some cs) :
    DStep P n l.toArray Q ⟨d, .buildSlice T len ps.toArray, ty, pos, aft, g⟩ env m H (Phi.ret (fun v m => ∃ b, v = .slice (some ⟨b, 0, none⟩) len len ∧ Row m [] b 0 cs) up).p := by
  obtain ⟨z, hz1, hz2⟩ := hz
  have e : z.cells = zs.toArray := by rw [← hz2]
  have hc1 := fill_eq _ _ _ _ hc'
  intro a w ha hf hh
  rw [if_pos (ha.wanted hg)]
  have hx : (execOp a.eval ⟨d, .buildSlice T len ps.toArray, ty, pos, aft, g⟩).run P w = .ok (.value (.slice (some ⟨w.heap.size, 0, none⟩) len len)) (w.alloc (cl E cs)) := by
    have h1 : ¬ (16777216 < len * (s + 1)) := by have := Nat.le_of_ble_eq_true hmax; omega
    have h2 : ¬ (len * (s + 1) = 0) := by have := Nat.le_of_ble_eq_true hlen; omega
    simp [execOp, Instr.buildSlice, underlying, ht, run_sizeOf hs, h1, run_zeroValue' hz1, newRow, e, ha.evp hv]
    rw [if_neg h2]
    have hr := range_reps zs len
    rw [Nat.eq_of_beq_eq_true hzl] at hr
    have hr2 : ((Array.range (len * (s + 1))).map fun i => zs[i % zs.length]?.getD default) = (reps len zs).toArray := by
      rw [← hr]
      simp
    rw [hr2, hc1]
    simp [cl]
  unfold Oper.wp
  rw [hx, Oper.upon_value]
  have h0 : St ⟨w, m, []⟩ m [] w := St.start (H := []) hf (fun _ _ h => absurd h List.not_mem_nil) List.nodup_nil (fun _ _ h => absurd h List.not_mem_nil)
  have h1 := (h0.alloc (cl E cs)).freeze
  exact ⟨_, m.add w.heap.size (cl E cs), [], rfl, h1, ⟨w.heap.size, rfl, rowM (Mem.add_at _ _ _) fun i _ => by simp⟩, rfl⟩
theorem Own.slice {v : Value} {s : Nat} {E : TypeId} {cells : List Value} {Hs : Hp} (h : Own v s E cells Hs) : ∃ a l c, v = .slice a l c := by
  rcases h with ⟨rfl, _⟩ | ⟨b, len, cap, xs, rfl, _⟩
  · exact ⟨_, _, _, rfl⟩
  · exact ⟨_, _, _, rfl⟩
theorem Own.len {a : Option Addr} {l c s : Nat} {E : TypeId} {cells : List Value} {Hs : Hp} (h : Own (.slice a l c) s E cells Hs) : cells.length = l * s := by
  rcases h with ⟨h1, rfl, _⟩ | ⟨b, len, cap, xs, h1, _, h2, _⟩
  · cases h1; simp
  · cases h1; exact h2
theorem Own.some {v : Value} {s : Nat} {E : TypeId} {cells : List Value} {Hs : Hp} (h : Own v s E cells Hs) (h0 : cells ≠ []) : ∃ b len cap junk, v = .slice (some ⟨b, 0, none⟩) len cap ∧ len ≤ cap ∧ cells.length = len * s ∧ Hs = [(b, cl E (cells ++ junk))] := by
  rcases h with ⟨_, h1, _⟩ | ⟨b, len, cap, xs, h1, h2, h3, h4, h5, h6⟩
  · exact absurd h1 h0
  · exact ⟨b, len, cap, xs.drop (len * s), h1, h2, h3, by rw [h6, ← h5, List.take_append_drop]⟩
end Go.Cy

/- Digits in base 2^32, further: sums, differences, three products for four, division digit by digit. -/
namespace Go.Cy

theorem take_set_succ {zs : List Nat} {i : Nat} (h : i < zs.length) (d : Nat) : (zs.set i d).take (i + 1) = zs.take i ++ [d] := by
  rw [List.take_succ_eq_append_getElem (by simpa using h)]
  simp [List.take_set_of_le]
theorem nv_take_set {zs : List Nat} {i : Nat} (h : i < zs.length) (d : Nat) : nv ((zs.set i d).take (i + 1)) = nv (zs.take i) + 4294967296 ^ i * d := by
  rw [take_set_succ h, nv_snoc]; simp [Nat.min_eq_left (Nat.le_of_lt h)]

theorem add_step {zs : List Nat} {i c x y A : Nat} (hi : i < zs.length) (h : nv (zs.take i) + 4294967296 ^ i * c = A) :
    nv ((zs.set i ((x + y + c) % 4294967296)).take (i + 1)) + 4294967296 ^ (i + 1) * ((x + y + c) / 4294967296) = A + 4294967296 ^ i * x + 4294967296 ^ i * y := by
  rw [nv_take_set hi, ← h, Nat.pow_succ, Nat.mul_assoc, Nat.add_assoc, ← Nat.mul_add, Nat.mod_add_div, Nat.mul_add, Nat.mul_add]
  omega
theorem sub_step {zs : List Nat} {i b x y A C : Nat} (hi : i < zs.length) (hx : x < 4294967296) (hy : y < 4294967296) (hb : b ≤ 1) (h : nv (zs.take i) + A = C + 4294967296 ^ i * b) :
    nv ((zs.set i ((x + 8589934592 - y - b) % 4294967296)).take (i + 1)) + (A + 4294967296 ^ i * y) = C + 4294967296 ^ i * x + 4294967296 ^ (i + 1) * (if x < y + b then 1 else 0) := by
  rw [nv_take_set hi, Nat.pow_succ, Nat.mul_assoc]
  have e : (x + 8589934592 - y - b) % 4294967296 + y + b = x + 4294967296 * (if x < y + b then 1 else 0) := by split <;> omega
  have e2 := congrArg (fun t => 4294967296 ^ i * t) e
  simp only [Nat.mul_add] at e2
  omega

theorem set_step {zs : List Nat} {k : Nat} (hk : k < zs.length) (d : Nat) {s : Nat} (hd : s = d + 4294967296 * (s / 4294967296)) : nv (zs.set k d) + 4294967296 ^ (k + 1) * (s / 4294967296) + 4294967296 ^ k * zs[k] = nv zs + 4294967296 ^ k * s := by
  have h1 := nv_set hk d
  have h2 : 4294967296 ^ k * s = 4294967296 ^ k * d + 4294967296 ^ (k + 1) * (s / 4294967296) := by
    rw [Nat.pow_succ, Nat.mul_assoc, ← Nat.mul_add, ← hd]
  omega
theorem into_step {zs xs : List Nat} {o i c A : Nat} (hk : o + i < zs.length) (hi : i < xs.length) (h : nv zs + 4294967296 ^ (o + i) * c = A + 4294967296 ^ o * nv (xs.take i)) :
    nv (zs.set (o + i) ((zs[o + i] + xs[i] + c) % 4294967296)) + 4294967296 ^ (o + (i + 1)) * ((zs[o + i] + xs[i] + c) / 4294967296) = A + 4294967296 ^ o * nv (xs.take (i + 1)) := by
  have h1 := set_step hk ((zs[o + i] + xs[i] + c) % 4294967296) (s := zs[o + i] + xs[i] + c) (by omega)
  rw [nv_take_succ hi, Nat.mul_add, ← Nat.mul_assoc, ← Nat.pow_add]
  rw [Nat.mul_add, Nat.mul_add] at h1
  rw [← Nat.add_assoc o i 1]
  omega
theorem into_carry {zs : List Nat} {k c A : Nat} (hk : k < zs.length) (h : nv zs + 4294967296 ^ k * c = A) :
    nv (zs.set k ((zs[k] + 0 + c) % 4294967296)) + 4294967296 ^ (k + 1) * ((zs[k] + 0 + c) / 4294967296) = A := by
  have h1 := set_step hk ((zs[k] + 0 + c) % 4294967296) (s := zs[k] + 0 + c) (by omega)
  rw [Nat.mul_add, Nat.mul_add] at h1
  omega

theorem karatsuba (x0 x1 y0 y1 : Nat) : (x0 + x1) * (y0 + y1) - (x0 * y0 + x1 * y1) = x0 * y1 + x1 * y0 := by
  rw [Nat.add_mul, Nat.mul_add, Nat.mul_add]; omega
theorem karatsuba_sum (x0 x1 y0 y1 k : Nat) : x0 * y0 + k * k * (x1 * y1) + k * (x0 * y1 + x1 * y0) = (x0 + k * x1) * (y0 + k * y1) := by
  rw [Nat.add_mul, Nat.mul_add, Nat.mul_add, Nat.mul_add, Nat.mul_assoc k k, Nat.mul_left_comm x0 k, Nat.mul_assoc k x1 y0, Nat.mul_assoc k x1 (k * y1), Nat.mul_left_comm x1 k y1]
  omega

/-! The quotient's digit -/
structure Est (u3 v2 q : Nat) : Prop where
  lt : q < 4294967296
  le : q * v2 ≤ u3
  max : u3 < (q + 1) * v2 ∨ q = 4294967295

theorem Est.quot {u3 v2 q U V k ul vl : Nat} (h : Est u3 v2 q) (hU : U = u3 * k + ul) (hul : ul < k) (hV : V = v2 * k + vl) (hvl : vl < k) (hv2 : 4294967296 ≤ v2) (hlt : U < 4294967296 * V) : U / V ≤ q ∧ q ≤ U / V + 1 := by
  have hk : 0 < k := by omega
  have hVp : 0 < V := by
    have : 0 < v2 * k := Nat.mul_pos (by omega) hk
    omega
  constructor
  · rcases h.max with h1 | h1
    · refine Nat.le_of_lt_succ (Nat.div_lt_of_lt_mul ?_)
      have h2 : (u3 + 1) * k ≤ (q + 1) * v2 * k := Nat.mul_le_mul_right _ h1
      rw [Nat.add_mul, Nat.one_mul] at h2
      have h3 : V * (q + 1) = (q + 1) * v2 * k + (q + 1) * vl := by rw [hV, Nat.mul_comm, Nat.mul_add, Nat.mul_assoc]
      show U < V * (q + 1)
      rw [h3, hU]
      omega
    · have := Nat.div_lt_of_lt_mul (m := U) (n := V) (k := 4294967296) (by rw [Nat.mul_comm]; exact hlt)
      omega
  · rcases Nat.eq_zero_or_pos q with h0 | h0
    · subst h0; exact Nat.zero_le _
    · obtain ⟨p, rfl⟩ : ∃ p, q = p + 1 := ⟨q - 1, by omega⟩
      refine Nat.succ_le_succ ((Nat.le_div_iff_mul_le hVp).2 ?_)
      have h1 := h.le
      have h2 := h.lt
      have h3 : p * V ≤ p * (v2 * k + k) := Nat.mul_le_mul_left _ (by omega)
      have h4 : p * (v2 * k + k) = (p * v2 + p) * k := by rw [Nat.mul_add, Nat.add_mul, Nat.mul_assoc]
      have h5 : (p * v2 + p) * k ≤ u3 * k := Nat.mul_le_mul_right _ (by rw [Nat.add_mul] at h1; omega)
      omega

theorem subm_step {us : List Nat} {k c b y q : Nat} (hk : k < us.length) (hu : us[k] < 4294967296) (hb : b ≤ 1) :
    nv (us.set k ((us[k] + 8589934592 - (y * q + c) % 4294967296 - b) % 4294967296)) + 4294967296 ^ k * (y * q) + 4294967296 ^ k * (c + b) = nv us + 4294967296 ^ (k + 1) * ((y * q + c) / 4294967296 + (if us[k] < (y * q + c) % 4294967296 + b then 1 else 0)) := by
  have h1 := nv_set hk ((us[k] + 8589934592 - (y * q + c) % 4294967296 - b) % 4294967296)
  have e : (us[k] + 8589934592 - (y * q + c) % 4294967296 - b) % 4294967296 + y * q + (c + b) = us[k] + 4294967296 * ((y * q + c) / 4294967296 + (if us[k] < (y * q + c) % 4294967296 + b then 1 else 0)) := by
    generalize y * q = p
    split <;> omega
  have e2 := congrArg (fun t => 4294967296 ^ k * t) e
  rw [Nat.pow_succ, Nat.mul_assoc]
  simp only [Nat.mul_add] at e2 ⊢
  omega
end Go.Cy
