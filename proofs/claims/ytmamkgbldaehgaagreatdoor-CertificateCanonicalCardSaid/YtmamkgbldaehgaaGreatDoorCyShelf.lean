/- checkpoly.Normal. -/
import Derived.Test.YtmamkgbldaehgaaGreatDoorCyKnuth
import Derived.Test.YtmamkgbldaehgaaGreatDoorCyDiv
import Derived.Test.YtmamkgbldaehgaaGreatDoorCyDig2
import Derived.Sort.Grow
import Derived.Deep.Draws
import Derived.Lib.LaidTab
import Derived.Lib.ItoaNum
namespace Go.Cy
open Go Go.Proofs
set_option maxRecDepth 20000

def All2 {α β : Type} (R : α → β → Prop) : List α → List β → Prop
  | [], [] => True
  | a :: xs, b :: bs => R a b ∧ All2 R xs bs
  | _, _ => False
theorem All2.len {α β : Type} {R : α → β → Prop} : ∀ {xs : List α} {bs : List β}, All2 R xs bs → xs.length = bs.length
  | [], [], _ => rfl
  | _ :: xs, _ :: bs, h => by simp [All2.len h.2]
theorem All2.app {α β : Type} {R : α → β → Prop} : ∀ {xs cs : List α} {bs ds : List β}, All2 R xs bs → All2 R cs ds → All2 R (xs ++ cs) (bs ++ ds)
  | [], _, [], _, _, h => h
  | _ :: _, _, _ :: _, _, h, h2 => ⟨h.1, All2.app h.2 h2⟩
theorem All2.mono {α β : Type} {R S : α → β → Prop} (hRS : ∀ a b, R a b → S a b) : ∀ {xs : List α} {bs : List β}, All2 R xs bs → All2 S xs bs
  | [], [], _ => trivial
  | _ :: _, _ :: _, h => ⟨hRS _ _ h.1, All2.mono hRS h.2⟩
theorem All2.split {α β : Type} {R : α → β → Prop} : ∀ {xs cs : List α} {es : List β}, All2 R (xs ++ cs) es → ∃ bs ds, es = bs ++ ds ∧ All2 R xs bs ∧ All2 R cs ds
  | [], _, es, h => ⟨[], es, rfl, trivial, h⟩
  | a :: xs, cs, [], h => h.elim
  | a :: xs, cs, e :: es, h => by
    obtain ⟨bs, ds, rfl, h1, h2⟩ := All2.split h.2
    exact ⟨e :: bs, ds, rfl, ⟨h.1, h1⟩, h2⟩
theorem All2.perm {α β : Type} {R : α → β → Prop} {xs xs' : List α} (hp : xs'.Perm xs) : ∀ {bs : List β}, All2 R xs bs → ∃ bs', bs'.Perm bs ∧ All2 R xs' bs' := by
  induction hp with
  | nil => intro bs h; exact ⟨bs, .refl _, h⟩
  | cons a _ ih =>
    intro bs h
    rcases bs with _ | ⟨b, bs⟩
    · exact h.elim
    · obtain ⟨bs', h1, h2⟩ := ih h.2
      exact ⟨b :: bs', h1.cons b, h.1, h2⟩
  | swap a c l =>
    intro bs h
    rcases bs with _ | ⟨b, _ | ⟨d, bs⟩⟩
    · exact h.elim
    · exact h.2.elim
    · exact ⟨d :: b :: bs, .swap .., h.2.1, h.1, h.2.2⟩
  | trans _ _ ih1 ih2 =>
    intro bs h
    obtain ⟨b1, h1, h2⟩ := ih2 h
    obtain ⟨b2, h3, h4⟩ := ih1 h2
    exact ⟨b2, h3.trans h1, h4⟩
def Tv (m : Mem) (x : TV) (t : Tm) : Prop := In m (Iv x.sg (.slice x.p x.ln x.cp)) t.1 ∧ x.ex = t.2
def Tc (m : Mem) (x : TV) (t : Tm) : Prop := Ic m (Iv x.sg (.slice x.p x.ln x.cp)) t.1 ∧ x.ex = t.2
theorem Tv.up {m m' : Mem} {x : TV} {t : Tm} (h : Tv m x t) (hm : m.le m') : Tv m' x t := ⟨h.1.up hm, h.2⟩
theorem Tc.up {m m' : Mem} {x : TV} {t : Tm} (h : Tc m x t) (hm : m.le m') : Tc m' x t := ⟨h.1.up hm, h.2⟩
theorem Tc.tv {m : Mem} {x : TV} {t : Tm} (h : Tc m x t) : Tv m x t := ⟨h.1.in', h.2⟩
def keepT (t : Tm) : Bool := decide (t.1 ≠ 0) && decide (0 ≤ minL t.2)
def Pv (m : Mem) (v : Value) (ts : List Tm) : Prop := ∃ ad cap xs, v = .slice ad ts.length cap ∧ (0 < ts.length → ∃ b o, ad = some ⟨b, o, none⟩ ∧ Row m [] b o (fl6 xs)) ∧ All2 (Tv m) xs ts ∧ ts.length ≤ cap
def Cv (m : Mem) (v : Value) (ts : List Tm) : Prop := ∃ ad cap xs, v = .slice ad ts.length cap ∧ (0 < ts.length → ∃ b o, ad = some ⟨b, o, none⟩ ∧ Row m [] b o (fl6 xs)) ∧ All2 (Tc m) xs ts ∧ ts.length ≤ cap
theorem Cv.pv {m : Mem} {v : Value} {ts : List Tm} (h : Cv m v ts) : Pv m v ts := by
  obtain ⟨ad, cap, xs, h1, h2, h3, h4⟩ := h
  exact ⟨ad, cap, xs, h1, h2, h3.mono fun _ _ h => h.tv, h4⟩
theorem Cv.up {m m' : Mem} {v : Value} {ts : List Tm} (h : Cv m v ts) (hm : m.le m') : Cv m' v ts := by
  obtain ⟨ad, cap, xs, h1, h2, h3, h4⟩ := h
  exact ⟨ad, cap, xs, h1, fun h => by obtain ⟨b, o, h5, h6⟩ := h2 h; exact ⟨b, o, h5, h6.up hm⟩, h3.mono fun _ _ h => h.up hm, h4⟩
theorem Pv.up {m m' : Mem} {v : Value} {ts : List Tm} (h : Pv m v ts) (hm : m.le m') : Pv m' v ts := by
  obtain ⟨ad, cap, xs, h1, h2, h3, h4⟩ := h
  exact ⟨ad, cap, xs, h1, fun h => by obtain ⟨b, o, h5, h6⟩ := h2 h; exact ⟨b, o, h5, h6.up hm⟩, h3.mono fun _ _ h => h.up hm, h4⟩
theorem All2.imp {α β : Type} {R S : α → β → Prop} : ∀ {xs : List α} {bs : List β}, All2 R xs bs → (∀ a b, a ∈ xs → b ∈ bs → R a b → S a b) → All2 S xs bs
  | [], [], _, _ => trivial
  | _ :: _, _ :: _, h, f => ⟨f _ _ (List.mem_cons_self ..) (List.mem_cons_self ..) h.1, All2.imp h.2 fun a b ha hb => f a b (List.mem_cons_of_mem _ ha) (List.mem_cons_of_mem _ hb)⟩
theorem All2.right {α β : Type} {R : α → β → Prop} : ∀ {xs : List α} {bs : List β}, All2 R xs bs → ∀ b ∈ bs, ∃ a ∈ xs, R a b
  | [], [], _, b, h => by simp at h
  | x :: xs, y :: bs, h, b, hb => by
    rcases List.mem_cons.1 hb with rfl | hb
    · exact ⟨x, List.mem_cons_self .., h.1⟩
    · obtain ⟨a, h1, h2⟩ := All2.right h.2 b hb
      exact ⟨a, List.mem_cons_of_mem _ h1, h2⟩
def tot : List Tm → Nat
  | [] => 0
  | t :: l => t.1.natAbs + tot l
theorem tot_app (a b : List Tm) : tot (a ++ b) = tot a + tot b := by
  induction a with
  | nil => simp [tot]
  | cons t a ih => simp only [List.cons_append, tot, ih]; omega
theorem tot_perm {a b : List Tm} (h : a.Perm b) : tot a = tot b := by
  induction h with
  | nil => rfl
  | cons t _ ih => simp only [tot, ih]
  | swap t u l => simp only [tot]; omega
  | trans _ _ h1 h2 => rw [h1, h2]
theorem tot_filter (p : Tm → Bool) (a : List Tm) : tot (a.filter p) ≤ tot a := by
  induction a with
  | nil => simp [tot]
  | cons t a ih => rw [List.filter_cons]; split <;> simp only [tot] <;> omega
noncomputable def nrm (ts : List Tm) : List Tm := open Classical in if h : ∃ rs, Can rs ∧ ∀ e, e.length = 4 → cf e rs = cf e (ts.filter keepT) then h.choose else []
theorem nrm_eq {ts rs : List Tm} (h : Can rs) (he : ∀ e, e.length = 4 → cf e rs = cf e (ts.filter keepT)) : nrm ts = rs := by
  have hex : ∃ rs, Can rs ∧ ∀ e, e.length = 4 → cf e rs = cf e (ts.filter keepT) := ⟨rs, h, he⟩
  unfold nrm
  rw [dif_pos hex]
  exact Can.uniq hex.choose_spec.1 h fun e hl => by rw [hex.choose_spec.2 e hl, he e hl]
def tz : TV := ⟨false, none, 0, 0, 0, 0, 0, 0⟩
theorem fl6_tz (n : Nat) : reps n [.bool false, .slice none 0 0, .int .i64 0, .int .i64 0, .int .i64 0, .int .i64 0] = fl6 (List.replicate n tz) := by
  induction n with
  | zero => simp [reps, fl6]
  | succ n ih => simp only [reps, List.replicate_succ, List.flatten_cons] at ih ⊢; rw [ih]; rfl
theorem All2.pw {α β : Type} {R : α → β → Prop} {P : α → α → Prop} {Q : β → β → Prop} (hq : ∀ a b c d, R a b → R c d → P a c → Q b d) : ∀ {xs : List α} {bs : List β}, All2 R xs bs → xs.Pairwise P → bs.Pairwise Q
  | [], [], _, _ => .nil
  | x :: xs, b :: bs, h, hp => by
    rw [List.pairwise_cons] at hp ⊢
    refine ⟨fun d hd => ?_, All2.pw hq h.2 hp.2⟩
    obtain ⟨c, hc, hr⟩ := h.2.right d hd
    exact hq _ _ _ _ h.1 hr (hp.1 c hc)
structure Ndo (rs done rest : List Tm) : Prop where
  can : Can rs
  abv : ∀ t ∈ rest, Abv rs t.2
  sum : ∀ e, cf e rs = cf e done
  tot : tot rs ≤ tot done
  len : rs.length ≤ done.length
theorem Ndo.push {rs c1 c2 : List Tm} {t : Tm} (h : Ndo rs c1 (t :: c2)) (ht : Tok t) (hne : ∀ x ∈ rs, x.2 ≠ t.2) (hb : ∀ u ∈ c2, ¬ lxl 4 t.2 u.2) : Ndo (rs ++ [t]) (c1 ++ [t]) c2 := by
  refine ⟨h.can.push ht (h.abv t (List.mem_cons_self ..)) hne, fun u hu x hx => ?_, fun e => by rw [cf_app, cf_app, h.sum], by rw [tot_app, tot_app]; have := h.tot; omega, by have := h.len; simp; omega⟩
  rcases List.mem_append.1 hx with hx | hx
  · exact h.abv u (List.mem_cons_of_mem _ hu) x hx
  · rw [List.mem_singleton.1 hx]; exact hb u hu
theorem Ndo.set {rs c1 c2 : List Tm} {t : Tm} {z : Int} {e : List Int} (h : Ndo (rs ++ [(z, e)]) c1 (t :: c2)) (he : e = t.2) (hz : z + t.1 ≠ 0) : Ndo (rs ++ [(z + t.1, e)]) (c1 ++ [t]) c2 := by
  refine ⟨h.can.set hz, fun u hu x hx => ?_, fun f => ?_, ?_, by have := h.len; simp at this ⊢; omega⟩
  · have h1 := h.abv u (List.mem_cons_of_mem _ hu)
    rcases List.mem_append.1 hx with hx | hx
    · exact h1 x (List.mem_append_left _ hx)
    · have := h1 (z, e) (List.mem_append_right _ (List.mem_singleton.2 rfl))
      rw [List.mem_singleton.1 hx]; exact this
  · rw [cf_set, cf_app f c1, h.sum, he]
  · have := h.tot; rw [tot_app] at this ⊢; rw [tot_app c1]; simp only [Go.Cy.tot] at this ⊢; omega
theorem Ndo.pop {rs c1 c2 : List Tm} {t : Tm} {z : Int} {e : List Int} (h : Ndo (rs ++ [(z, e)]) c1 (t :: c2)) (he : e = t.2) (hz : z + t.1 = 0) : Ndo rs (c1 ++ [t]) c2 := by
  refine ⟨h.can.init, fun u hu x hx => h.abv u (List.mem_cons_of_mem _ hu) x (List.mem_append_left _ hx), fun f => ?_, ?_, by have := h.len; simp at this ⊢; omega⟩
  · rw [cf_app f c1, ← h.sum, cf_gone (a := rs) (e := e) hz f, he]
  · have := h.tot; rw [tot_app] at this; rw [tot_app c1]; omega
theorem own_some6 {a : Option Addr} {l c : Nat} {T : TypeId} {cells : List Value} {Hs : Hp} (h : Own (.slice a l c) 6 T cells Hs) (h0 : cells ≠ []) : ∃ b junk, a = some ⟨b, 0, none⟩ ∧ l ≤ c ∧ cells.length = l * 6 ∧ Hs = [(b, cl T (cells ++ junk))] ∧ (cells ++ junk).length = c * 6 := by
  rcases h with ⟨_, h1, _⟩ | ⟨b, len, cap, xs, h1, h2, h3, h4, h5, h6⟩
  · exact absurd h1 h0
  · cases h1
    exact ⟨b, xs.drop (l * 6), rfl, h2, h3, by rw [h6, ← h5, List.take_append_drop], by rw [← h5, List.take_append_drop, h4]⟩
theorem own_of6 {b l c : Nat} {T : TypeId} {cells junk : List Value} (h1 : l ≤ c) (h2 : cells.length = l * 6) (h3 : (cells ++ junk).length = c * 6) : Own (.slice (some ⟨b, 0, none⟩) l c) 6 T cells [(b, cl T (cells ++ junk))] :=
  .inr ⟨b, l, c, _, rfl, h1, h2, h3, List.take_left' h2, rfl⟩
theorem fl6_coef {P : List TV} {z : TV} {junk : List Value} {ng : Bool} {p : Option Addr} {ln cp o : Nat} (h : o = P.length * 6) : splice (fl6 (P ++ [z]) ++ junk) o [.bool ng, .slice p ln cp] = fl6 (P ++ [⟨ng, p, ln, cp, z.e0, z.e1, z.e2, z.e3⟩]) ++ junk := by
  have l1 : (fl6 P).length = o := by rw [fl6_len]; omega
  have e : o + [Value.bool ng, .slice p ln cp].length ≤ (fl6 (P ++ [z]) ++ junk).length := by rw [List.length_append, fl6_len]; simp; omega
  have e1 : fl6 (P ++ [z]) ++ junk = fl6 P ++ (z.cells ++ junk) := by rw [fl6_app]; simp [fl6]
  rw [splice_eq _ _ _ e, e1, List.take_left' l1, List.drop_append, List.drop_of_length_le (by rw [l1]; omega), l1]
  rw [show o + [Value.bool ng, .slice p ln cp].length - o = 2 by simp]
  rw [fl6_app]
  simp [fl6, TV.cells]
theorem All2.snoc {α β : Type} {R : α → β → Prop} {xs : List α} {bs : List β} {a : α} {b : β} (h : All2 R (xs ++ [a]) (bs ++ [b])) : All2 R xs bs ∧ R a b := by
  obtain ⟨c, d, he, h1, h2⟩ := h.split
  have := h2.len
  obtain ⟨rfl, rfl⟩ := List.append_inj' he this
  exact ⟨h1, h2.1⟩
theorem rowE {m : Mem} {H : Hp} {b o : Nat} {T : TypeId} {P : List TV} {z : TV} {junk : List Value} (hm : (b, cl T (fl6 (P ++ [z]) ++ junk)) ∈ H) (h : o = P.length * 6 + 2) : Row m H b o [.int .i64 z.e0, .int .i64 z.e1, .int .i64 z.e2, .int .i64 z.e3] := rowH hm fun i hi => by
  have hi' : i < 4 := hi
  rw [List.getElem?_append_left (by rw [fl6_len]; simp; omega), h, Nat.add_assoc, fl6_row rfl _ (by show 2 + i < 6; omega)]
  match i, hi' with
  | 0, _ => rfl
  | 1, _ => rfl
  | 2, _ => rfl
  | 3, _ => rfl
theorem rowC {m : Mem} {H : Hp} {b o : Nat} {T : TypeId} {P : List TV} {z : TV} {junk : List Value} (hm : (b, cl T (fl6 (P ++ [z]) ++ junk)) ∈ H) (h : o = P.length * 6) : Row m H b o [.bool z.sg, .slice z.p z.ln z.cp] := rowH hm fun i hi => by
  have hi' : i < 2 := hi
  rw [List.getElem?_append_left (by rw [fl6_len]; simp; omega), h, fl6_row rfl _ (by show i < 6; omega)]
  match i, hi' with
  | 0, _ => rfl
  | 1, _ => rfl
theorem fl6_put {ys : List TV} {y : TV} {N : Nat} (h : ys.length < N) : splice (fl6 (ys ++ List.replicate (N - ys.length) tz)) (ys.length * 6) y.cells = fl6 ((ys ++ [y]) ++ List.replicate (N - (ys ++ [y]).length) tz) := by
  obtain ⟨k, rfl⟩ : ∃ k, N = ys.length + (k + 1) := ⟨N - ys.length - 1, by omega⟩
  rw [show ys.length + (k + 1) - ys.length = k + 1 by omega, List.replicate_succ, fl6_set rfl, List.length_append, show ys.length + (k + 1) - (ys.length + [y].length) = k by simp; omega, List.append_assoc]
  rfl
theorem PNormal_ok {m : Mem} {v : Value} {ts : List Tm} (hv : Pv m v ts) (hl : ts.length ≤ 1073741824) (hbd : dlen (tot ts) ≤ 35184372088831) : Pure Tryz.prog 14 #[v] m fun r m' => Cv m' r (nrm ts) ∧ Can (nrm ts) ∧ (∀ e, e.length = 4 → cf e (nrm ts) = cf e (ts.filter keepT)) ∧ tot (nrm ts) ≤ tot ts ∧ (nrm ts).length ≤ ts.length := by
  obtain ⟨ad, cap, xs, rfl, hrow, hall, hcap⟩ := hv
  have hxl := hall.len
  refine enterp Tryz.func14 rfl rfl ?_
  intro K hm0 hks
  refine wsr ?_
  refine was ?_
  refine wnr ?_
  refine wmv ?_
  refine wv (x_len Tryz.underlying28 rfl rfl) ?_
  refine wl_makeCap (L := 0) (N := ts.length) rfl rfl Tryz.underlying28 Tryz.size72 Tryz.bytes72 Tryz.zero72 rfl rfl rfl rfl (Nat.zero_le _) rfl (by omega) (by omega) ?_; intro b13
  refine was ?_
  refine wns ?_
  refine w_seq ?_
  refine wsr ?_
  refine wmv ?_
  refine wv (x_len Tryz.underlying28 rfl rfl) ?_
  refine wmv ?_
  refine wns ?_
  refine w_block ?_
  refine w_loop (fun r m' H' env' => ∃ k ys ks, k + r = ts.length ∧ m.le m' ∧ All2 (Tc m') ys ks ∧ ks = (ts.take k).filter keepT ∧ H' = [(b13, cl 72 (fl6 (ys ++ List.replicate (ts.length - ys.length) tz)))] ∧ env' = [(2, .slice none 0 0), (3, .slice (some ⟨b13, 0, none⟩) ys.length ts.length), (14, .slice ad ts.length cap), (15, .int .i64 ts.length), (16, .int .i64 (k : Nat))]) ts.length [(2, .slice none 0 0), (3, .slice (some ⟨b13, 0, none⟩) 0 ts.length), (14, .slice ad ts.length cap), (15, .int .i64 ts.length), (16, .int .i64 (0 : Nat))] ⟨0, [], [], by omega, Mem.le.refl _, trivial, by simp, by rw [fl6_tz]; rfl, rfl⟩ (by repeat' (first | exact trivial | exact rfl | exact lk_int rfl (by omega) | apply And.intro)) ?_
  rintro r m1 H' env' ⟨k, ys, ks, hk, hm1, hys, hks, rfl, rfl⟩
  refine wsr ?_
  refine wv (x_lss rfl rfl) ?_
  refine wns ?_
  refine w_seq ?_
  refine w_if rfl (fun h1 => ?_) (fun h1 => ?_)
  · skip
    obtain ⟨r', rfl⟩ : ∃ r', r = r' + 1 := ⟨r - 1, by omega⟩
    obtain ⟨b, o, rfl, hrow'⟩ := hrow (by omega)
    obtain ⟨A, x, B, rfl, hA⟩ := split_at xs k (by omega)
    obtain ⟨t1, t2, hts, ha1, ha2⟩ := hall.split
    rcases t2 with _ | ⟨t, t2⟩
    · exact ha2.elim
    have hkl : k = t1.length := by rw [← hA]; exact ha1.len
    have htk : ts.take (k + 1) = ts.take k ++ [t] := by rw [hts, hkl, List.take_left' rfl, show t1 ++ t :: t2 = (t1 ++ [t]) ++ t2 by simp, List.take_left' (by simp)]
    have hyl : ys.length ≤ k := by rw [hys.len, hks]; exact Nat.le_trans (List.length_filter_le _ _) (by rw [List.length_take]; omega)
    have hx := ha2.1.up hm1
    obtain ⟨ng, s, a, e1, hs, e2⟩ := hx.1
    have hrx : Row m1 [(b13, cl 72 (fl6 (ys ++ List.replicate (ts.length - ys.length) tz)))] b (o + k * 6) x.cells := ((hrow'.up hm1).heap).sub (k * 6) rfl (fl6_row (by omega))
    refine w_skip ?_
    refine at_seq ?_
    refine w_seq ?_
    refine w_block ?_
    refine wsr ?_
    refine wv (x_index Tryz.underlying28 Tryz.size72 rfl rfl (j := k) (by omega) (by omega)) ?_
    refine wv (x_loads Tryz.agg72 (by exact Tryz.size72) rfl (hrx)) ?_
    refine wl_alloc rfl rfl Tryz.zero72 ?_; intro b5
    refine wl_storeAll rfl (by exact Tryz.size72) rfl rfl (by exact TV.one x) rfl ?_
    refine wnr ?_
    refine wv (x_fieldAddr Tryz.underlying72 rfl Tryz.size49 rfl) ?_
    refine wv (x_loads Tryz.agg49 (by exact Tryz.size49) rfl (rowHs (vs := [_, _]) (.head _) 0 rfl)) ?_
    refine wl_callp rfl rfl rfl Tryz.c40 (Sign_ok hx.1) ?_; rintro v2 m2 hm2 rfl
    refine wv (x_neq rfl rfl) ?_
    refine wmv ?_
    refine wl_splitp (t := 24) rfl (fun h2 => ?_) (fun h2 => ?_)
    · skip
      refine wv (x_fieldAddr Tryz.underlying72 rfl Tryz.size70 rfl) ?_
      refine wv (x_sliceArr Tryz.underlying70 Tryz.size3 rfl) ?_
      refine wl_calld0 rfl rfl rfl Tryz.c41 (Min_ok (es := x.ex) (by show 4 ≤ _; omega) (by show 0 < 4; omega) (rowHs (.head _) 2 rfl)) ?_; rintro v3 m3 H3 hm3 ⟨rfl, rfl⟩
      refine wv (x_geq rfl rfl) ?_
      refine wv (x_pick_t rfl rfl) ?_
      refine wns ?_
      refine w_if rfl (fun hmin => ?_) (fun hmin => ?_)
      · skip
        refine dr_start [] [[], [], [1], [2], [], [4], [3, 5], [6]] ?_
        refine dr_val rfl rfl (fun m' hm' => ds_val rfl (x_move rfl)) ?_
        refine dr_val rfl rfl (fun m' hm' => ds_val rfl (x_fieldAddr Tryz.underlying72 rfl Tryz.size49 rfl)) ?_
        refine dr_val rfl rfl (fun m' hm' => ds_val rfl (x_loads Tryz.agg49 (by exact Tryz.size49) rfl (rowHs (vs := [_, _]) (.head _) 0 rfl))) ?_
        refine dr_op (.ret (fun r m' => Ic m' r t.1) (fun _ _ _ hm h => h.up hm)) rfl rfl (fun m' hm' => ds_call rfl rfl Tryz.c42 (INormal_ok ((hx.1).up ((hm2.trans hm3).trans hm')))) ?_
        refine dr_val rfl rfl (fun m' hm' => ds_val rfl (x_fieldAddr Tryz.underlying72 rfl Tryz.size70 rfl)) ?_
        refine dr_val rfl rfl (fun m' hm' => ds_val rfl (x_loads Tryz.agg70 (by exact Tryz.size70) rfl (rowHs (vs := [_, _, _, _]) (.head _) 2 rfl))) ?_
        refine dr_op (.ret (fun v m' => ∃ y : TV, v = .agg y.cells.toArray ∧ Tc m' y t) (fun _ _ _ hm ⟨y, e, h⟩ => ⟨y, e, h.up hm⟩)) rfl rfl (fun m' hm' v3 h3 => by obtain ⟨ng, ad, l, c, rfl⟩ := Ic.agg h3; exact ds_ex rfl (x_build (cs := [_, _, _, _, _, _]) Tryz.underlying72 Tryz.places72 Tryz.zero72 rfl rfl) ⟨⟨ng, ad, l, c, x.e0, x.e1, x.e2, x.e3⟩, rfl, h3, hx.2⟩) ?_
        refine dr_op (.ret (fun v m' => ∃ b y, v = .slice (some ⟨b, 0, none⟩) 1 1 ∧ Row m' [] b 0 (TV.cells y) ∧ Tc m' y t) (fun _ _ _ hm ⟨b, y, e, h, h'⟩ => ⟨b, y, e, h.up hm, h'.up hm⟩)) rfl rfl (fun m' hm' v6 h6 => by obtain ⟨y, rfl, hy⟩ := h6; exact DStep.mono (by show DStep _ _ _ _ _ _ _ _ _; exact ds_buildSlice (cs := y.cells) (up := fun _ _ _ hm ⟨b, e, h⟩ => ⟨b, e, h.up hm⟩) rfl Tryz.underlying28 Tryz.size72 Tryz.zero72 rfl rfl rfl rfl rfl) fun v m' h hle hp => by obtain ⟨⟨b, e, hr⟩, hh⟩ := hp; exact ⟨⟨b, y, e, hr, hy.up hle⟩, hh⟩) ?_
        refine dr_done (k := 8) Tryz.mixed rfl rfl rfl fun m4 hm_m4 v7 h7 v6 h6 v3 h3 => ?_
        show WL _ _ _ _ _ _ _ _ _
        obtain ⟨b37, y, rfl, hry, hy⟩ := h7; refine wl_appendIn (s := 6) (xs := fl6 (ys ++ List.replicate (ts.length - ys.length) tz)) (news := y.cells) rfl rfl rfl Tryz.underlying28 Tryz.underlying28 Tryz.size72 rfl (.swap _ _ _) rfl (by rw [fl6_len]; simp; omega) rfl (.inr ⟨_, 0, rfl, hry.heap⟩) (TV.one y) (by omega) ?_; rw [fl6_put (by omega)]; refine wl_perm (.swap _ _ _) ?_; refine wl_drop1 ?_
        refine was ?_
        refine wl_nil ?_
        refine at_block_normal ?_
        refine at_seq ?_
        refine w_region ?_
        refine wv (x_add rfl rfl (wrap_i64 (by omega) (by omega))) ?_
        refine wmv ?_
        refine wl_nil ?_
        have hkt : keepT t = true := by rw [keepT, ← hx.2, Bool.and_eq_true]; exact ⟨decide_eq_true fun h => h2 (by rw [h]; rfl), decide_eq_true hmin⟩
        exact at_again r' [(2, .slice none 0 0), (3, .slice (some ⟨b13, 0, none⟩) (ys.length + 1) ts.length), (14, .slice (some ⟨b, o, none⟩) ts.length cap), (15, .int .i64 ts.length), (16, .int .i64 ((k + 1) : Nat))] (by omega) ⟨k + 1, ys ++ [y], ks ++ [t], by omega, hm1.trans (hm2.trans (hm3.trans hm_m4)), All2.app (hys.mono fun _ _ h => h.up (hm2.trans (hm3.trans hm_m4))) ⟨hy, trivial⟩, by rw [htk, List.filter_append, hks]; simp [hkt], rfl, by rw [List.length_append]; rfl⟩ (by repeat' (first | exact trivial | exact rfl | exact lk_int rfl (by omega) | apply And.intro))
      · skip
        have hkt : keepT t = false := by rw [keepT, ← hx.2, decide_eq_false hmin, Bool.and_false]
        refine w_skip ?_
        refine at_block_normal ?_
        refine at_seq ?_
        refine w_region ?_
        refine wv (x_add rfl rfl (wrap_i64 (by omega) (by omega))) ?_
        refine wmv ?_
        refine wl_nil ?_
        refine at_drop1 ?_
        exact at_again r' [(2, .slice none 0 0), (3, .slice (some ⟨b13, 0, none⟩) ys.length ts.length), (14, .slice (some ⟨b, o, none⟩) ts.length cap), (15, .int .i64 ts.length), (16, .int .i64 ((k + 1) : Nat))] (by omega) ⟨k + 1, ys, ks, by omega, hm1.trans (hm2.trans hm3), hys.mono fun _ _ h => h.up (hm2.trans hm3), by rw [htk, List.filter_append, hks]; simp [hkt], rfl, rfl⟩ (by repeat' (first | exact trivial | exact rfl | exact lk_int rfl (by omega) | apply And.intro))
    · skip
      have hkt : keepT t = false := by
        have h0 : t.1 = 0 := by
          have := sign_cases t.1
          omega
        simp [keepT, h0]
      refine wl_off rfl rfl rfl ?_
      refine wl_off rfl rfl rfl ?_
      refine wl_off rfl rfl rfl ?_
      refine wl_off rfl rfl rfl ?_
      refine wv (x_pick_f rfl rfl) ?_
      refine wns ?_
      refine w_false rfl ?_
      refine w_skip ?_
      refine at_block_normal ?_
      refine at_seq ?_
      refine w_region ?_
      refine wv (x_add rfl rfl (wrap_i64 (by omega) (by omega))) ?_
      refine wmv ?_
      refine wl_nil ?_
      refine at_drop1 ?_
      exact at_again r' [(2, .slice none 0 0), (3, .slice (some ⟨b13, 0, none⟩) ys.length ts.length), (14, .slice (some ⟨b, o, none⟩) ts.length cap), (15, .int .i64 ts.length), (16, .int .i64 ((k + 1) : Nat))] (by omega) ⟨k + 1, ys, ks, by omega, hm1.trans hm2, hys.mono fun _ _ h => h.up hm2, by rw [htk, List.filter_append, hks]; simp [hkt], rfl, rfl⟩ (by repeat' (first | exact trivial | exact rfl | exact lk_int rfl (by omega) | apply And.intro))
  · skip
    obtain rfl : k = ts.length := by omega
    rw [List.take_length] at hks
    have hyl : ys.length ≤ ts.length := by rw [hys.len, hks]; exact List.length_filter_le _ _
    refine w_exit ?_
    refine at_then_exit ?_
    refine at_then_exit ?_
    refine at_block_hit ?_
    refine at_seq ?_
    refine wsr ?_
    refine was ?_
    refine wns ?_
    refine w_seq_mid (fun m' H' env' => ∃ ls cs, m.le m' ∧ All2 (Tc m') ls cs ∧ cs.Perm ks ∧ Srt ls ∧ ls.length = ys.length ∧ H' = [(b13, cl 72 (fl6 (ls ++ List.replicate (ts.length - ys.length) tz)))] ∧ env' = [(3, .slice (some ⟨b13, 0, none⟩) ys.length ts.length)]) ?_ ?_
    · skip
      refine wsr ?_
      refine wmv ?_
      refine wmv ?_
      refine wl_calld0 rfl rfl rfl Tryz.c45 (isSorted_ok (L := ys) (R := List.replicate (ts.length - ys.length) tz) rfl (by omega)) ?_; rintro v8 m8 H8 hm8 ⟨c8, rfl, hc8, rfl⟩
      refine wv (x_not rfl rfl) ?_
      refine wns ?_
      refine w_cond rfl (fun h9 => ?_) (fun h9 => ?_)
      · skip
        refine w_region ?_
        refine wmv ?_
        refine wmv ?_
        refine wl_calld0 rfl rfl rfl Tryz.c46 (sortStable_ok (L := ys) (R := List.replicate (ts.length - ys.length) tz) rfl (by omega)) ?_; rintro v9 m9 H9 hm9 ⟨ls, hp, hs, rfl⟩
        refine wl_nil ?_
        obtain ⟨cs, hcp, hcs⟩ := All2.perm hp (hys.mono fun _ _ h => h.up (hm8.trans hm9))
        exact at_meets [(3, .slice (some ⟨b13, 0, none⟩) ys.length ts.length)] ⟨ls, cs, hm1.trans (hm8.trans hm9), hcs, hcp, hs, hp.length_eq, rfl, rfl⟩ (by repeat' (first | exact trivial | exact rfl | exact lk_int rfl (by omega) | apply And.intro))
      · skip
        refine w_skip ?_
        exact at_meets [(3, .slice (some ⟨b13, 0, none⟩) ys.length ts.length)] ⟨ys, ks, hm1.trans hm8, hys.mono fun _ _ h => h.up hm8, .refl _, hc8 (by simpa using h9), rfl, rfl, rfl⟩ (by repeat' (first | exact trivial | exact rfl | exact lk_int rfl (by omega) | apply And.intro))
    · skip
      rintro m2 H' env' ⟨ls, cs, hm2, hls, hcp, hsrt, hll, rfl, rfl⟩
      have hcl : cs.length = ys.length := by rw [← hll]; exact hls.len.symm
      have hok : ∀ t ∈ cs, Tok t := by
        intro t ht
        obtain ⟨x, _, hx⟩ := hls.right t ht
        have h1 := hcp.mem_iff.1 ht
        rw [hks, List.mem_filter, keepT, Bool.and_eq_true] at h1
        have h4 : t.2.length = 4 := by rw [← hx.2]; rfl
        exact ⟨of_decide_eq_true h1.2.1, h4, (minL_nonneg (by intro h; rw [h] at h4; simp at h4)).1 (of_decide_eq_true h1.2.2)⟩
      have hcs : cs.Pairwise fun a b => ¬ lxl 4 a.2 b.2 := hls.pw (fun a b c d h1 h2 h3 => by rw [← h1.2, ← h2.2]; exact h3) hsrt
      have htc : tot cs ≤ tot ts := by rw [tot_perm hcp, hks]; exact tot_filter _ _
      refine wsr ?_
      refine was ?_
      refine wns ?_
      refine w_seq ?_
      refine wsr ?_
      refine wmv ?_
      refine wv (x_len Tryz.underlying28 rfl rfl) ?_
      refine wmv ?_
      refine wns ?_
      refine w_block ?_
      refine w_loop (fun r m' H' env' => ∃ k a c zs rs Hs, k + r = ys.length ∧ m2.le m' ∧ All2 (Tc m') zs rs ∧ Ndo rs (cs.take k) (cs.drop k) ∧ Own (.slice a rs.length c) 6 72 (fl6 zs) Hs ∧ H' = (b13, cl 72 (fl6 (ls ++ List.replicate (ts.length - ys.length) tz))) :: Hs ∧ env' = [(7, .slice a rs.length c), (47, .slice (some ⟨b13, 0, none⟩) ys.length ts.length), (48, .int .i64 ys.length), (49, .int .i64 (k : Nat))]) ys.length [(7, .slice none 0 0), (47, .slice (some ⟨b13, 0, none⟩) ys.length ts.length), (48, .int .i64 ys.length), (49, .int .i64 (0 : Nat))] ⟨0, none, 0, [], [], [], by omega, Mem.le.refl _, trivial, ⟨⟨.nil, fun _ h => absurd h List.not_mem_nil⟩, fun _ _ _ h => absurd h List.not_mem_nil, fun _ => rfl, Nat.le_refl _, Nat.le_refl _⟩, Own.nil _ _, rfl, rfl⟩ (by repeat' (first | exact trivial | exact rfl | exact lk_int rfl (by omega) | apply And.intro)) ?_
      rintro r m3 H' env' ⟨k, a, c, zs, rs, Hs, hk, hm3, hzs, hnd, hown, rfl, rfl⟩
      have hzl := hzs.len
      refine wsr ?_
      refine wv (x_lss rfl rfl) ?_
      refine wns ?_
      refine w_seq ?_
      refine w_if rfl (fun h1 => ?_) (fun h1 => ?_)
      · skip
        obtain ⟨A, x, B, rfl, hA⟩ := split_at ls k (by omega)
        obtain ⟨c1, c2, hcc, ha1, ha2⟩ := hls.split
        rcases c2 with _ | ⟨t, c2⟩
        · exact ha2.elim
        subst hcc
        have hkl : k = c1.length := by rw [← hA]; exact ha1.len
        rw [hkl, List.take_left' rfl, List.drop_left' rfl] at hnd
        have hx := ha2.1.up hm3
        have ht := hok t (by simp)
        have hb2 : ∀ u ∈ c2, ¬ lxl 4 t.2 u.2 := (List.pairwise_cons.1 (List.pairwise_append.1 hcs).2.1).1
        have htk : (c1 ++ t :: c2).take (k + 1) = c1 ++ [t] := by rw [show c1 ++ t :: c2 = (c1 ++ [t]) ++ c2 by simp, List.take_left' (by simp; omega)]
        have hdk : (c1 ++ t :: c2).drop (k + 1) = c2 := by rw [show c1 ++ t :: c2 = (c1 ++ [t]) ++ c2 by simp, List.drop_left' (by simp; omega)]
        have htt : tot c1 + t.1.natAbs ≤ tot ts := by rw [tot_app] at htc; simp only [tot] at htc; omega
        rcases snoc_cases rs with rfl | ⟨rs0, u, rfl⟩
        · skip
          have hz0 : zs = [] := List.length_eq_zero_iff.1 (by simpa using hzl)
          subst hz0
          rw [List.length_nil]
          refine w_skip ?_
          refine at_seq ?_
          refine w_seq ?_
          refine w_block ?_
          refine wsr ?_
          refine wv (x_index Tryz.underlying28 Tryz.size72 rfl rfl (j := k) (by omega) (by omega)) ?_
          refine wv (x_loads Tryz.agg72 (by exact Tryz.size72) rfl (rowT (P := A) (x := x) (.head _) (List.append_assoc A (x :: B) _) (by omega))) ?_
          refine wl_alloc rfl rfl Tryz.zero72 ?_; intro b9
          refine wl_storeAll rfl (by exact Tryz.size72) rfl rfl (by exact TV.one x) rfl ?_
          refine wnr ?_
          refine wmv ?_
          refine wv (x_len Tryz.underlying28 rfl rfl) ?_
          refine wv (x_sub rfl rfl (wrap_i64 (by omega) (by omega))) ?_
          refine was ?_
          refine wns ?_
          refine w_seq ?_
          refine w_seq ?_
          refine dr_start [] [[], [0], [1], [2], [2], [2, 3, 4], [2, 5], [2, 6], [2], [2, 8]] ?_
          refine dr_val rfl rfl (fun m' hm' => ds_val rfl (x_move rfl)) ?_
          refine dr_val rfl rfl (fun m' hm' => ds_val rfl ((x_lss rfl rfl).as (bool_t (by simp)))) ?_
          refine dr_val rfl rfl (fun m' hm' => ds_val rfl (x_move rfl)) ?_
          refine dr_val rfl rfl (fun m' hm' => ds_off rfl) ?_
          refine dr_val rfl rfl (fun m' hm' => ds_off rfl) ?_
          refine dr_val rfl rfl (fun m' hm' => ds_off rfl) ?_
          refine dr_val rfl rfl (fun m' hm' => ds_off rfl) ?_
          refine dr_val rfl rfl (fun m' hm' => ds_off rfl) ?_
          refine dr_val rfl rfl (fun m' hm' => ds_off rfl) ?_
          refine dr_val rfl rfl (fun m' hm' => ds_off rfl) ?_
          refine dr_done (k := 10) Tryz.mixed rfl rfl rfl fun m4 hm_m4 => ?_
          show WL _ _ _ _ _ _ _ _ _
          refine wl_off rfl rfl rfl ?_
          refine wv (x_pick_t rfl rfl) ?_
          refine wns ?_
          refine w_true rfl ?_
          refine wsr ?_
          refine wmv ?_
          refine wv (x_loads Tryz.agg72 (by exact Tryz.size72) rfl (rowH0 (.head _))) ?_
          refine wl_buildSlice rfl rfl Tryz.underlying28 Tryz.size72 Tryz.zero72 rfl rfl rfl rfl rfl ?_; intro b70
          refine wl_append (cells := fl6 []) (news := x.cells) rfl rfl rfl Tryz.underlying28 Tryz.underlying28 Tryz.size72 Tryz.bytes72 Tryz.zero72 rfl (by omega) rfl hown (show List.Perm ([_, _, _] ++ _) _ from List.perm_append_comm) rfl rfl (.inr ⟨_, 0, rfl, rowH0 (.head _)⟩) (TV.one x) (by rw [fl6_len]; show (_ + 6) * _ ≤ _; simp only [List.length_nil, List.length_append, List.length_singleton]; omega) (by rw [fl6_len]; show _ + 6 ≤ _; simp only [List.length_nil, List.length_append, List.length_singleton]; omega) ?_; intro lv' Hs' hown'; obtain ⟨a', l', c', rfl⟩ := hown'.slice; obtain rfl : l' = 1 := (by have := hown'.len; rw [List.length_append, fl6_len] at this; simp [TV.cells] at this; omega); refine wl_perm List.perm_append_comm ?_; refine wl_drop1 ?_; refine wl_drop1 ?_
          refine was ?_
          refine wns ?_
          refine w_exit ?_
          refine at_then_exit ?_
          refine at_block_hit ?_
          refine at_seq ?_
          refine w_region ?_
          refine wv (x_add rfl rfl (wrap_i64 (by omega) (by omega))) ?_
          refine wmv ?_
          refine wl_nil ?_
          exact at_again (r - 1) [(7, .slice a' 1 c'), (47, .slice (some ⟨b13, 0, none⟩) ys.length ts.length), (48, .int .i64 ys.length), (49, .int .i64 ((k + 1) : Nat))] (by omega) ⟨k + 1, a', c', [] ++ [x], [] ++ [t], Hs', by omega, hm3.trans hm_m4, (show All2 _ [x] [t] from ⟨hx.up hm_m4, trivial⟩), by rw [htk, hdk]; exact hnd.push ht (fun _ h => absurd h List.not_mem_nil) hb2, by simpa [fl6] using hown', rfl, rfl⟩ (by repeat' (first | exact trivial | exact rfl | exact lk_int rfl (by omega) | apply And.intro))
        · skip
          rcases snoc_cases zs with rfl | ⟨zs0, z, rfl⟩
          · simp at hzl
          have hrl : (rs0 ++ [u]).length = rs0.length + 1 := by simp
          have hzl0 : zs0.length = rs0.length := by simpa using hzl
          obtain ⟨hzs0, hz⟩ := hzs.snoc
          have hu0 := hnd.abv t (List.mem_cons_self ..) u (List.mem_append_right _ (List.mem_singleton.2 rfl))
          obtain ⟨b, junk, rfl, hlc, hcl6, rfl, hjl⟩ := own_some6 hown (by intro h; have := congrArg List.length h; rw [fl6_len] at this; simp at this)
          rw [hrl] at hown hlc hcl6
          have hrb := hnd.len
          rw [hrl] at hrb
          rw [hrl]
          by_cases he : z.ex = x.ex
          · skip
            have he' : u.2 = t.2 := by rw [← hz.2, ← hx.2]; exact he
            have hzi := hz.1
            have hbu : dlen u.1.natAbs ≤ 35184372088831 := Nat.le_trans (dlen_mono (by have := hnd.tot; rw [tot_app] at this; simp only [tot] at this; omega)) hbd
            have hbt : dlen t.1.natAbs ≤ 35184372088831 := Nat.le_trans (dlen_mono (by omega)) hbd
            refine w_skip ?_
            refine at_seq ?_
            refine w_seq ?_
            refine w_block ?_
            refine wsr ?_
            refine wv (x_index Tryz.underlying28 Tryz.size72 rfl rfl (j := k) (by omega) (by omega)) ?_
            refine wv (x_loads Tryz.agg72 (by exact Tryz.size72) rfl (rowT (P := A) (x := x) (.head _) (List.append_assoc A (x :: B) _) (by omega))) ?_
            refine wl_alloc rfl rfl Tryz.zero72 ?_; intro b9
            refine wl_storeAll rfl (by exact Tryz.size72) rfl rfl (by exact TV.one x) rfl ?_
            refine wnr ?_
            refine wmv ?_
            refine wv (x_len Tryz.underlying28 rfl rfl) ?_
            refine wv (x_sub rfl rfl (asN rs0.length (by omega) (by omega))) ?_
            refine was ?_
            refine wns ?_
            refine w_seq ?_
            refine w_seq ?_
            refine dr_start [] [[], [0], [1], [2], [2], [2, 3, 4], [2, 5], [2, 6], [2], [2, 8]] ?_
            refine dr_val rfl rfl (fun m' hm' => ds_val rfl (x_move rfl)) ?_
            refine dr_val rfl rfl (fun m' hm' => ds_val rfl ((x_lss rfl rfl).as (bool_f (by omega)))) ?_
            refine dr_val rfl rfl (fun m' hm' => ds_val rfl (x_move rfl)) ?_
            refine dr_val rfl rfl (fun m' hm' => ds_val rfl (x_move rfl)) ?_
            refine dr_val rfl rfl (fun m' hm' => ds_val rfl (x_move rfl)) ?_
            refine dr_val rfl rfl (fun m' hm' => ds_val rfl (x_index Tryz.underlying28 Tryz.size72 rfl rfl (j := rs0.length) (by omega) (by omega))) ?_
            refine dr_val rfl rfl (fun m' hm' => ds_val rfl (x_fieldAddr Tryz.underlying72 rfl Tryz.size70 rfl)) ?_
            refine dr_val rfl rfl (fun m' hm' => ds_val rfl (x_loads Tryz.agg70 (by exact Tryz.size70) rfl (rowE (P := zs0) (z := z) (.tail _ (.tail _ (.head _))) (by show 0 + rs0.length * 6 + 2 = _; omega)))) ?_
            refine dr_val rfl rfl (fun m' hm' => ds_val rfl (x_fieldAddr Tryz.underlying72 rfl Tryz.size70 rfl)) ?_
            refine dr_val rfl rfl (fun m' hm' => ds_val rfl (x_loads Tryz.agg70 (by exact Tryz.size70) rfl (rowHs (vs := [_, _, _, _]) (.head _) 2 rfl))) ?_
            refine dr_done (k := 10) Tryz.mixed rfl rfl rfl fun m4 hm_m4 => ?_
            show WL _ _ _ _ _ _ _ _ _
            refine wv ((x_neqArr Tryz.underlying70 Tryz.underlying3 Tryz.size3 (by decide +kernel) rfl rfl).as (congrArg Value.bool (by rw [Bool.not_eq_false', decide_eq_true_iff]; simpa [TV.ex] using he))) ?_
            refine wv (x_pick_f rfl rfl) ?_
            refine wns ?_
            refine w_false rfl ?_
            refine w_skip ?_
            refine at_seq ?_
            refine w_seq ?_
            refine dr_start [] [[], [], [], [], [2, 3], [4], [5], [], [7], [6, 8]] ?_
            refine dr_val rfl rfl (fun m' hm' => ds_val rfl (x_move rfl)) ?_
            refine dr_val rfl rfl (fun m' hm' => ds_val rfl (x_move rfl)) ?_
            refine dr_val rfl rfl (fun m' hm' => ds_val rfl (x_move rfl)) ?_
            refine dr_val rfl rfl (fun m' hm' => ds_val rfl (x_move rfl)) ?_
            refine dr_val rfl rfl (fun m' hm' => ds_val rfl (x_index Tryz.underlying28 Tryz.size72 rfl rfl (j := rs0.length) (by omega) (by omega))) ?_
            refine dr_val rfl rfl (fun m' hm' => ds_val rfl (x_fieldAddr Tryz.underlying72 rfl Tryz.size49 rfl)) ?_
            refine dr_val rfl rfl (fun m' hm' => ds_val rfl (x_loads Tryz.agg49 (by exact Tryz.size49) rfl (rowC (P := zs0) (z := z) (.tail _ (.tail _ (.head _))) (by show 0 + rs0.length * 6 + 0 = _; omega)))) ?_
            refine dr_val rfl rfl (fun m' hm' => ds_val rfl (x_fieldAddr Tryz.underlying72 rfl Tryz.size49 rfl)) ?_
            refine dr_val rfl rfl (fun m' hm' => ds_val rfl (x_loads Tryz.agg49 (by exact Tryz.size49) rfl (rowHs (vs := [_, _]) (.head _) 0 rfl))) ?_
            refine dr_op (.ret (fun r m' => Ic m' r (u.1 + t.1)) (fun _ _ _ hm h => h.up hm)) rfl rfl (fun m' hm' => ds_call rfl rfl Tryz.c47 (IAdd_ok ((hzi.in').up (hm_m4.trans hm')) (hx.1.in'.up (hm_m4.trans hm')) ⟨hbu, hbt⟩)) ?_
            refine dr_done (k := 10) Tryz.mixed rfl rfl rfl fun m5 hm_m5 v9 h9 => ?_
            show WL _ _ _ _ _ _ _ _ _
            refine wv (x_index Tryz.underlying28 Tryz.size72 rfl rfl (j := rs0.length) (by omega) (by omega)) ?_
            obtain ⟨ng', p', ln', cp', rfl⟩ := Ic.agg h9
            refine wv (x_fieldAddr Tryz.underlying72 rfl Tryz.size49 rfl) ?_
            refine wl_front2 ?_
            refine wl_storesAs (xs' := fl6 (zs0 ++ [⟨ng', p', ln', cp', z.e0, z.e1, z.e2, z.e3⟩]) ++ junk) (vs := [.bool ng', .slice p' ln' cp']) rfl (by exact Tryz.size49) rfl rfl (by simp [Value.oneCell']) (by rw [List.length_append, fl6_len]; simp; omega) (fl6_coef (by show 0 + rs0.length * 6 + 0 = _; omega)) ?_
            refine wnr ?_
            refine wmv ?_
            refine wmv ?_
            refine wv (x_index Tryz.underlying28 Tryz.size72 rfl rfl (j := rs0.length) (by omega) (by omega)) ?_
            refine wv (x_fieldAddr Tryz.underlying72 rfl Tryz.size49 rfl) ?_
            refine wv (x_loads Tryz.agg49 (by exact Tryz.size49) rfl (rowC (P := zs0) (z := ⟨ng', p', ln', cp', z.e0, z.e1, z.e2, z.e3⟩) (.head _) (by show 0 + rs0.length * 6 + 0 = _; omega))) ?_
            refine wl_callp rfl rfl rfl Tryz.c40 (Sign_ok h9.in') ?_; rintro v6 m6 hm6 rfl
            refine wv (x_eql rfl rfl) ?_
            refine wns ?_
            have hmm := hm_m4.trans (hm_m5.trans hm6)
            refine w_if rfl (fun hsg => ?_) (fun hsg => ?_)
            · skip
              have hs0 : u.1 + t.1 = 0 := by have := sign_cases (u.1 + t.1); omega
              refine w_region ?_
              refine wmv ?_
              refine wmv ?_
              refine wv (x_sliceTo Tryz.underlying28 Tryz.size72 rfl rfl (by omega)) ?_
              refine was ?_
              refine wl_nil ?_
              refine at_block_normal ?_
              refine at_seq ?_
              refine w_region ?_
              refine wv (x_add rfl rfl (wrap_i64 (by omega) (by omega))) ?_
              refine wmv ?_
              refine wl_nil ?_
              refine at_perm (show List.Perm ([_] ++ [_, _]) _ from List.perm_append_comm) ?_
              refine at_drop1 ?_
              exact at_again (r - 1) [(7, .slice (some ⟨b, 0, none⟩) rs0.length c), (47, .slice (some ⟨b13, 0, none⟩) ys.length ts.length), (48, .int .i64 ys.length), (49, .int .i64 ((k + 1) : Nat))] (by omega) ⟨k + 1, some ⟨b, 0, none⟩, c, zs0, rs0, _, by omega, hm3.trans hmm, hzs0.mono fun _ _ h => h.up hmm, by rw [htk, hdk]; exact Ndo.pop (z := u.1) (e := u.2) hnd he' hs0, by rw [fl6_app, List.append_assoc]; exact own_of6 (by omega) (by rw [fl6_len]; omega) (by rw [← hjl, fl6_app]; simp [fl6, TV.cells]), rfl, rfl⟩ (by repeat' (first | exact trivial | exact rfl | exact lk_int rfl (by omega) | apply And.intro))
            · skip
              have hs0 : u.1 + t.1 ≠ 0 := by intro h; exact hsg (by rw [h]; rfl)
              refine w_skip ?_
              refine at_block_normal ?_
              refine at_seq ?_
              refine w_region ?_
              refine wv (x_add rfl rfl (wrap_i64 (by omega) (by omega))) ?_
              refine wmv ?_
              refine wl_nil ?_
              refine at_perm (show List.Perm ([_] ++ [_, _]) _ from List.perm_append_comm) ?_
              refine at_drop1 ?_
              exact at_again (r - 1) [(7, .slice (some ⟨b, 0, none⟩) (rs0.length + 1) c), (47, .slice (some ⟨b13, 0, none⟩) ys.length ts.length), (48, .int .i64 ys.length), (49, .int .i64 ((k + 1) : Nat))] (by omega) ⟨k + 1, some ⟨b, 0, none⟩, c, zs0 ++ [⟨ng', p', ln', cp', z.e0, z.e1, z.e2, z.e3⟩], rs0 ++ [(u.1 + t.1, u.2)], _, by omega, hm3.trans hmm, All2.app (hzs0.mono fun _ _ h => h.up hmm) ⟨(show Tc m6 ⟨ng', p', ln', cp', z.e0, z.e1, z.e2, z.e3⟩ (u.1 + t.1, u.2) from ⟨h9.up hm6, hz.2⟩), trivial⟩, by rw [htk, hdk]; exact Ndo.set (z := u.1) (e := u.2) hnd he' hs0, by rw [List.length_append]; exact own_of6 hlc (by rw [fl6_len] at hcl6 ⊢; simpa using hcl6) (by rw [← hjl]; simp only [List.length_append, fl6_len, List.length_singleton]), rfl, by rw [List.length_append]; rfl⟩ (by repeat' (first | exact trivial | exact rfl | exact lk_int rfl (by omega) | apply And.intro))
          · skip
            have hne : u.2 ≠ t.2 := by rw [← hz.2, ← hx.2]; exact he
            refine w_skip ?_
            refine at_seq ?_
            refine w_seq ?_
            refine w_block ?_
            refine wsr ?_
            refine wv (x_index Tryz.underlying28 Tryz.size72 rfl rfl (j := k) (by omega) (by omega)) ?_
            refine wv (x_loads Tryz.agg72 (by exact Tryz.size72) rfl (rowT (P := A) (x := x) (.head _) (List.append_assoc A (x :: B) _) (by omega))) ?_
            refine wl_alloc rfl rfl Tryz.zero72 ?_; intro b9
            refine wl_storeAll rfl (by exact Tryz.size72) rfl rfl (by exact TV.one x) rfl ?_
            refine wnr ?_
            refine wmv ?_
            refine wv (x_len Tryz.underlying28 rfl rfl) ?_
            refine wv (x_sub rfl rfl (asN rs0.length (by omega) (by omega))) ?_
            refine was ?_
            refine wns ?_
            refine w_seq ?_
            refine w_seq ?_
            refine dr_start [] [[], [0], [1], [2], [2], [2, 3, 4], [2, 5], [2, 6], [2], [2, 8]] ?_
            refine dr_val rfl rfl (fun m' hm' => ds_val rfl (x_move rfl)) ?_
            refine dr_val rfl rfl (fun m' hm' => ds_val rfl ((x_lss rfl rfl).as (bool_f (by omega)))) ?_
            refine dr_val rfl rfl (fun m' hm' => ds_val rfl (x_move rfl)) ?_
            refine dr_val rfl rfl (fun m' hm' => ds_val rfl (x_move rfl)) ?_
            refine dr_val rfl rfl (fun m' hm' => ds_val rfl (x_move rfl)) ?_
            refine dr_val rfl rfl (fun m' hm' => ds_val rfl (x_index Tryz.underlying28 Tryz.size72 rfl rfl (j := rs0.length) (by omega) (by omega))) ?_
            refine dr_val rfl rfl (fun m' hm' => ds_val rfl (x_fieldAddr Tryz.underlying72 rfl Tryz.size70 rfl)) ?_
            refine dr_val rfl rfl (fun m' hm' => ds_val rfl (x_loads Tryz.agg70 (by exact Tryz.size70) rfl (rowE (P := zs0) (z := z) (.tail _ (.tail _ (.head _))) (by show 0 + rs0.length * 6 + 2 = _; omega)))) ?_
            refine dr_val rfl rfl (fun m' hm' => ds_val rfl (x_fieldAddr Tryz.underlying72 rfl Tryz.size70 rfl)) ?_
            refine dr_val rfl rfl (fun m' hm' => ds_val rfl (x_loads Tryz.agg70 (by exact Tryz.size70) rfl (rowHs (vs := [_, _, _, _]) (.head _) 2 rfl))) ?_
            refine dr_done (k := 10) Tryz.mixed rfl rfl rfl fun m4 hm_m4 => ?_
            show WL _ _ _ _ _ _ _ _ _
            refine wv ((x_neqArr Tryz.underlying70 Tryz.underlying3 Tryz.size3 (by decide +kernel) rfl rfl).as (congrArg Value.bool (by rw [Bool.not_eq_true', decide_eq_false_iff_not]; exact fun ⟨h1, h2, h3, h4⟩ => he (by simp [TV.ex, h1, h2, h3, h4])))) ?_
            refine wv (x_pick_f rfl rfl) ?_
            refine wns ?_
            refine w_true rfl ?_
            refine wsr ?_
            refine wmv ?_
            refine wv (x_loads Tryz.agg72 (by exact Tryz.size72) rfl (rowH0 (.head _))) ?_
            refine wl_buildSlice rfl rfl Tryz.underlying28 Tryz.size72 Tryz.zero72 rfl rfl rfl rfl rfl ?_; intro b70
            refine wl_append (cells := fl6 (zs0 ++ [z])) (news := x.cells) rfl rfl rfl Tryz.underlying28 Tryz.underlying28 Tryz.size72 Tryz.bytes72 Tryz.zero72 rfl (by omega) rfl hown (show List.Perm ([_, _, _] ++ _) _ from List.perm_append_comm) rfl rfl (.inr ⟨_, 0, rfl, rowH0 (.head _)⟩) (TV.one x) (by rw [fl6_len]; show (_ + 6) * _ ≤ _; simp only [List.length_nil, List.length_append, List.length_singleton]; omega) (by rw [fl6_len]; show _ + 6 ≤ _; simp only [List.length_nil, List.length_append, List.length_singleton]; omega) ?_; intro lv' Hs' hown'; obtain ⟨a', l', c', rfl⟩ := hown'.slice; obtain rfl : l' = rs0.length + 1 + 1 := (by have := hown'.len; rw [List.length_append, fl6_len] at this; simp [TV.cells] at this; omega); refine wl_perm List.perm_append_comm ?_; refine wl_drop1 ?_; refine wl_drop1 ?_
            refine was ?_
            refine wns ?_
            refine w_exit ?_
            refine at_then_exit ?_
            refine at_block_hit ?_
            refine at_seq ?_
            refine w_region ?_
            refine wv (x_add rfl rfl (wrap_i64 (by omega) (by omega))) ?_
            refine wmv ?_
            refine wl_nil ?_
            exact at_again (r - 1) [(7, .slice a' (rs0.length + 1 + 1) c'), (47, .slice (some ⟨b13, 0, none⟩) ys.length ts.length), (48, .int .i64 ys.length), (49, .int .i64 ((k + 1) : Nat))] (by omega) ⟨k + 1, a', c', (zs0 ++ [z]) ++ [x], (rs0 ++ [u]) ++ [t], Hs', by omega, hm3.trans hm_m4, All2.app (hzs.mono fun _ _ h => h.up hm_m4) ⟨hx.up hm_m4, trivial⟩, by rw [htk, hdk]; exact hnd.push ht (hnd.can.others ht.2.1 hu0 hne) hb2, by rw [fl6_app]; simpa [fl6] using hown', rfl, by rw [List.length_append, hrl]; rfl⟩ (by repeat' (first | exact trivial | exact rfl | exact lk_int rfl (by omega) | apply And.intro))
      · skip
        obtain rfl : k = ys.length := by omega
        rw [List.take_of_length_le (by omega), List.drop_of_length_le (by omega)] at hnd
        have hnr : nrm ts = rs := nrm_eq hnd.can fun e _ => by rw [hnd.sum, cf_perm hcp, hks]
        have hfin : tot rs ≤ tot ts ∧ rs.length ≤ ts.length := ⟨Nat.le_trans hnd.tot htc, by have := hnd.len; omega⟩
        have hsum : ∀ e, e.length = 4 → cf e rs = cf e (ts.filter keepT) := fun e _ => by rw [hnd.sum, cf_perm hcp, hks]
        rcases hown with ⟨h2, h3, rfl⟩ | ⟨b, len, cap', xs', h2, h3, h4, h5, h6, rfl⟩
        · skip
          injection h2 with h21 h22 h23
          subst h21; subst h23
          have hz0 : zs = [] := by cases zs with
            | nil => rfl
            | cons x l => simp [fl6, TV.cells] at h3
          subst hz0
          refine w_exit ?_
          refine at_then_exit ?_
          refine at_then_exit ?_
          refine at_block_hit ?_
          refine at_seq ?_
          refine wsr ?_
          refine wmv ?_
          refine was ?_
          refine wns ?_
          refine w_ret ?_
          refine at_drop1 ?_
          refine at_endp (res1 rfl rfl) ?_
          rw [hnr]
          exact ⟨⟨none, 0, [], rfl, fun h => absurd h (by omega), hzs, by omega⟩, hnd.can, hsum, hfin⟩
        · skip
          injection h2 with h21 h22 h23
          subst h21; subst h23; subst h22
          refine w_exit ?_
          refine at_then_exit ?_
          refine at_then_exit ?_
          refine at_block_hit ?_
          refine at_seq ?_
          refine wsr ?_
          refine wmv ?_
          refine was ?_
          refine wns ?_
          refine w_ret ?_
          refine at_perm (.swap _ _ _) ?_
          refine at_freeze ?_; intro hfz
          refine at_drop1 ?_
          refine at_endp (res1 rfl rfl) ?_
          rw [hnr]
          exact ⟨⟨_, _, zs, rfl, fun _ => ⟨b, 0, rfl, rowM (Mem.add_at _ _ _) fun i hi => by rw [Nat.zero_add, ← h6, List.getElem?_take, if_pos (by rw [← h6, List.length_take] at hi; omega)]; simp⟩, hzs.mono fun _ _ h => h.up hfz, h3⟩, hnd.can, hsum, hfin⟩
end Go.Cy


/- checksign: fractions. -/
namespace Go.Cy
open Go Go.Proofs
set_option maxRecDepth 20000

def Fi (m : Mem) (v : Value) (z : Int) (d : Nat) : Prop := ∃ neg s a t, v = .agg #[.bool neg, s, t] ∧ Nt m s a ∧ z = sg neg a ∧ Nt m t d
def Fc (m : Mem) (v : Value) (z : Int) (d : Nat) : Prop := ∃ neg s a t, v = .agg #[.bool neg, s, t] ∧ Nn m s a ∧ z = sg neg a ∧ (neg = true → a ≠ 0) ∧ Nn m t d
theorem Fi.up {m m' : Mem} {v : Value} {z : Int} {d : Nat} (h : Fi m v z d) (hm : m.le m') : Fi m' v z d := by obtain ⟨neg, s, a, t, h1, h2, h3, h4⟩ := h; exact ⟨neg, s, a, t, h1, h2.up hm, h3, h4.up hm⟩
theorem Fc.up {m m' : Mem} {v : Value} {z : Int} {d : Nat} (h : Fc m v z d) (hm : m.le m') : Fc m' v z d := by obtain ⟨neg, s, a, t, h1, h2, h3, h4, h5⟩ := h; exact ⟨neg, s, a, t, h1, h2.up hm, h3, h4, h5.up hm⟩
theorem Fc.fi {m : Mem} {v : Value} {z : Int} {d : Nat} (h : Fc m v z d) : Fi m v z d := by obtain ⟨neg, s, a, t, h1, h2, h3, h4, h5⟩ := h; exact ⟨neg, s, a, t, h1, h2.nt, h3, h5.nt⟩
theorem Fi.agg {m : Mem} {v : Value} {z : Int} {d : Nat} (h : Fi m v z d) : ∃ neg a1 l1 c1 a2 l2 c2, v = .agg #[.bool neg, .slice a1 l1 c1, .slice a2 l2 c2] := by
  obtain ⟨neg, s, a, t, rfl, hs, _, ht⟩ := h
  obtain ⟨a1, l1, c1, rfl⟩ := hs.slice
  obtain ⟨a2, l2, c2, rfl⟩ := ht.slice
  exact ⟨_, _, _, _, _, _, _, rfl⟩
def lowZ (z : Int) (d : Nat) : Int := if d = 0 ∨ z = 0 then 0 else z.tdiv (Int.gcd z d)
def lowD (z : Int) (d : Nat) : Nat := if d = 0 ∨ z = 0 then 1 else d / Int.gcd z d

theorem Ic.nat {m : Mem} {neg : Bool} {s : Value} {k : Nat} (h : Ic m (.agg #[.bool neg, s]) (k : Int)) : Nn m s k := by
  obtain ⟨n, s', a, e, h1, h2, h3⟩ := h
  cases e
  have := sg_cases neg a
  refine h1.eq ?_
  cases neg with
  | false => simp [sg] at h2; omega
  | true => simp [sg] at h2 h3; omega

theorem den_ok {m : Mem} {v : Value} {z : Int} {d : Nat} (h : Fi m v z d) : Pure Tryz.prog 140 #[v] m fun r m' => Ic m' r d := by
  obtain ⟨neg, s, a, t, rfl, hs, e1, ht⟩ := h
  refine enterp Tryz.func140 rfl rfl ?_
  intro K hm0 hks
  refine wsr ?_
  refine wl_box rfl rfl rfl rfl ?_; intro b1
  refine wl_alloc rfl rfl Tryz.zero49 ?_; intro b2
  refine wnr ?_
  refine wv (x_fieldAddr Tryz.underlying53 rfl Tryz.size47 rfl) ?_
  refine wv (x_load Tryz.plain47 rfl (rowH1 (.tail _ (.head _)) rfl)) ?_
  refine wl_callp rfl rfl rfl Tryz.c101 (From_ok ht) ?_; rintro v1 m1 hm1 h1
  obtain ⟨n4, d4, l4, c4, rfl⟩ := h1.agg
  refine wl_storeAll rfl (by exact Tryz.size49) rfl rfl (by simp [Value.oneCell']) rfl ?_
  refine wns ?_
  refine w_ret ?_
  refine at_endp (resA rfl ⟨⟨_, _, _, rfl, rowH0 (.head _), .inr ⟨Tryz.agg49, Tryz.size49, rfl⟩⟩, trivial⟩) ?_
  exact h1.eq rfl

theorem Lowest_ok {m : Mem} {v : Value} {z : Int} {d : Nat} (h : Fi m v z d) (hs : dlen z.natAbs ≤ 1000000000000 ∧ dlen d ≤ 1000000000000) : Pure Tryz.prog 83 #[v] m fun r m' => Fc m' r (lowZ z d) (lowD z d) := by
  have h' := h
  obtain ⟨neg, s, a, t, rfl, hS, e1, ht⟩ := h
  have hI : ∀ {m'}, m.le m' → In m' (.agg [.bool neg, s].toArray) z := fun hm => e1 ▸ In.of (hS.up hm)
  refine enterp Tryz.func83 rfl rfl ?_
  intro K hm0 hks
  refine wsr ?_
  refine wl_box rfl rfl rfl rfl ?_; intro b1
  refine wl_alloc rfl rfl Tryz.zero53 ?_; intro b2
  refine wns ?_
  refine w_seq ?_
  refine wsr ?_
  refine wv (x_fieldAddr Tryz.underlying53 rfl Tryz.size47 rfl) ?_
  refine wv (x_load Tryz.plain47 rfl (rowH1 (.tail _ (.head _)) rfl)) ?_
  refine wl_callp rfl rfl rfl Tryz.c100 (IsZero_ok ht) ?_; rintro v1 m1 hm1 rfl
  refine wmv ?_
  refine wl_splitp (t := 11) rfl (fun h0 => ?_) (fun h0 => ?_)
  · skip
    refine wl_off rfl rfl rfl ?_
    refine wl_off rfl rfl rfl ?_
    refine wl_off rfl rfl rfl ?_
    refine wl_off rfl rfl rfl ?_
    refine wv (x_pick_t rfl rfl) ?_
    refine wns ?_
    refine w_true rfl ?_
    refine wsr ?_
    refine wl_callp rfl rfl rfl Tryz.c25 (Of_ok' (by omega) (by omega)) ?_; rintro v2 m2 hm2 h2
    obtain ⟨n4, d4, l4, c4, rfl⟩ := h2.agg
    refine wl_callp rfl rfl rfl Tryz.c66 (Of_ok (x := 1) (by omega)) ?_; rintro v3 m3 hm3 h3
    obtain ⟨ad5, l5, c5, rfl⟩ := h3.slice
    refine wv (x_build (cs := [_, _, _]) Tryz.underlying53 Tryz.places53 Tryz.zero53 rfl rfl) ?_
    refine wl_storeAll rfl (by exact Tryz.size53) rfl rfl (by simp [Value.oneCell']) rfl ?_
    refine wns ?_
    refine w_ret ?_
    refine at_then_ret ?_
    refine at_endp (resA rfl ⟨⟨_, _, _, rfl, rowH0 (.head _), .inr ⟨Tryz.agg53, Tryz.size53, rfl⟩⟩, trivial⟩) ?_
    rw [lowZ, lowD, if_pos (.inl h0), if_pos (.inl h0)]
    obtain ⟨n6, s6, a6, e6, h6, h7, h8⟩ := h2.up hm3
    cases e6
    exact ⟨_, _, _, _, rfl, h6, h7, h8, h3⟩
  · skip
    refine wv (x_fieldAddr Tryz.underlying53 rfl Tryz.size49 rfl) ?_
    refine wv (x_loads Tryz.agg49 (by exact Tryz.size49) rfl (rowHs (vs := [_, _]) (.tail _ (.head _)) 0 rfl)) ?_
    refine wl_callp rfl rfl rfl Tryz.c40 (Sign_ok (hI hm1)) ?_; rintro v2 m2 hm2 rfl
    refine wv (x_eql rfl rfl) ?_
    refine wv (x_pick_f rfl rfl) ?_
    refine wns ?_
    refine w_if rfl (fun h1 => ?_) (fun h1 => ?_)
    · skip
      have hz : z = 0 := by have := sign_cases z; omega
      refine wsr ?_
      refine wl_callp rfl rfl rfl Tryz.c25 (Of_ok' (by omega) (by omega)) ?_; rintro v3 m3 hm3 h3
      obtain ⟨n4, d4, l4, c4, rfl⟩ := h3.agg
      refine wl_callp rfl rfl rfl Tryz.c66 (Of_ok (x := 1) (by omega)) ?_; rintro v4 m4 hm4 h4
      obtain ⟨ad5, l5, c5, rfl⟩ := h4.slice
      refine wv (x_build (cs := [_, _, _]) Tryz.underlying53 Tryz.places53 Tryz.zero53 rfl rfl) ?_
      refine wl_storeAll rfl (by exact Tryz.size53) rfl rfl (by simp [Value.oneCell']) rfl ?_
      refine wns ?_
      refine w_ret ?_
      refine at_then_ret ?_
      refine at_endp (resA rfl ⟨⟨_, _, _, rfl, rowH0 (.head _), .inr ⟨Tryz.agg53, Tryz.size53, rfl⟩⟩, trivial⟩) ?_
      rw [lowZ, lowD, if_pos (.inr hz), if_pos (.inr hz)]
      obtain ⟨n6, s6, a6, e6, h6, h7, h8⟩ := h3.up hm4
      cases e6
      exact ⟨_, _, _, _, rfl, h6, h7, h8, h4⟩
    · skip
      have hz : z ≠ 0 := by have := sign_cases z; omega
      have hg0 : 0 < Int.gcd z d := Int.gcd_pos_of_ne_zero_left _ hz
      have hg1 : Int.gcd z d ≤ d := Nat.le_of_dvd (by omega) (by have := Int.gcd_dvd_right z (d : Int); exact Int.ofNat_dvd.1 this)
      refine w_skip ?_
      refine at_seq ?_
      refine w_seq ?_
      refine dr_start [] [[], [0], [], [2], [1, 3], []] ?_
      refine dr_val rfl rfl (fun m' hm' => ds_val rfl (x_fieldAddr Tryz.underlying53 rfl Tryz.size49 rfl)) ?_
      refine dr_val rfl rfl (fun m' hm' => ds_val rfl (x_loads Tryz.agg49 (by exact Tryz.size49) rfl (rowHs (vs := [_, _]) (.tail _ (.head _)) 0 rfl))) ?_
      refine dr_val rfl rfl (fun m' hm' => ds_val rfl (x_loads Tryz.agg53 (by exact Tryz.size53) rfl (rowH0 (.tail _ (.head _))))) ?_
      refine dr_op (.ret (fun r m' => Ic m' r d) (fun _ _ _ hm h => h.up hm)) rfl rfl (fun m' hm' => ds_call rfl rfl Tryz.c140 (den_ok (h'.up ((hm1.trans hm2).trans hm')))) ?_
      refine dr_op (.ret (fun r m' => Ic m' r (Int.gcd z d)) (fun _ _ _ hm h => h.up hm)) rfl rfl (fun m' hm' v3 h3 => ds_call rfl rfl Tryz.c139 (Gcd_ok (hI (hm1.trans (hm2.trans hm'))) h3.in' ⟨by omega, by rw [Int.natAbs_natCast]; omega⟩)) ?_
      refine dr_op (.box 49 [.bool false, .slice none 0 0]) rfl rfl (fun m' hm' => ds_alloc rfl Tryz.zero49) ?_
      refine dr_done (k := 6) Tryz.mixed rfl rfl rfl fun m3 hm_m3 b3 v4 h4 v3 h3 => ?_
      show WL _ _ _ _ _ _ _ _ _
      obtain ⟨n5, d5, l5, c5, rfl⟩ := h4.agg
      refine wl_storeAll rfl (by exact Tryz.size49) rfl rfl (by simp [Value.oneCell']) rfl ?_
      refine wnr ?_
      refine wv (x_fieldAddr Tryz.underlying53 rfl Tryz.size49 rfl) ?_
      refine wv (x_loads Tryz.agg49 (by exact Tryz.size49) rfl (rowHs (vs := [_, _]) (.tail _ (.tail _ (.head _))) 0 rfl)) ?_
      refine wv (x_loads Tryz.agg49 (by exact Tryz.size49) rfl (rowH0 (.head _))) ?_
      refine wl_callp rfl rfl rfl Tryz.c141 (Exact_ok (hI (hm1.trans (hm2.trans hm_m3))) h4.in' (by omega) (by omega) (Int.gcd_dvd_left _ _)) ?_; rintro v6 m6 hm6 ⟨q, rfl, hq⟩
      obtain ⟨n7, d7, l7, c7, rfl⟩ := hq.agg
      refine wmv ?_
      refine wex ?_
      refine wex ?_
      refine wl_alloc rfl rfl Tryz.zero49 ?_; intro b4
      refine wl_storeAll rfl (by exact Tryz.size49) rfl rfl (by simp [Value.oneCell']) rfl ?_
      refine was ?_
      refine wns ?_
      refine w_seq ?_
      refine dr_start [] [[], [0], [], [1, 2], [3], [4], [4], []] ?_
      refine dr_val rfl rfl (fun m' hm' => ds_val rfl (x_loads Tryz.agg53 (by exact Tryz.size53) rfl (rowH0 (.tail _ (.tail _ (.tail _ (.head _))))))) ?_
      refine dr_op (.ret (fun r m' => Ic m' r d) (fun _ _ _ hm h => h.up hm)) rfl rfl (fun m' hm' => ds_call rfl rfl Tryz.c140 (den_ok (h'.up ((hm1.trans (hm2.trans (hm_m3.trans hm6))).trans hm')))) ?_
      refine dr_val rfl rfl (fun m' hm' => ds_val rfl (x_loads Tryz.agg49 (by exact Tryz.size49) rfl (rowH0 (.tail _ (.head _))))) ?_
      refine dr_op (.ret (fun r m' => ∃ n0 a0 l0 c0, r = .tuple #[.agg #[.bool n0, .slice a0 l0 c0], .int .i64 0] ∧ Ic m' (.agg #[.bool n0, .slice a0 l0 c0]) ((d : Int).tdiv (Int.gcd z d))) fun _ _ _ hm ⟨n0, a0, l0, c0, e, h⟩ => ⟨n0, a0, l0, c0, e, h.up hm⟩) rfl rfl (fun m' hm' v1 h1 => ds_call rfl rfl Tryz.c141 ((Exact_ok h1.in' (h4.in'.up (hm6.trans hm')) (by omega) (by rw [Int.natAbs_natCast]; omega) (Int.gcd_dvd_right _ _)).mono fun _ _ _ ⟨_, e, hq⟩ => by subst e; obtain ⟨n0, a0, l0, c0, rfl⟩ := hq.agg; exact ⟨_, _, _, _, rfl, hq⟩)) ?_
      refine dr_op (.ret (fun r m' => ∃ n0 a0 l0 c0, r = .tuple #[.agg #[.bool n0, .slice a0 l0 c0], .int .i64 0] ∧ Ic m' (.agg #[.bool n0, .slice a0 l0 c0]) ((d : Int).tdiv (Int.gcd z d))) fun _ _ _ hm ⟨n0, a0, l0, c0, e, h⟩ => ⟨n0, a0, l0, c0, e, h.up hm⟩) rfl rfl (fun m' hm' v3 h3 => ds_ex rfl (x_move rfl) h3) ?_
      refine dr_op (.ret (fun r m' => ∃ n0 a0 l0 c0, r = .agg #[.bool n0, .slice a0 l0 c0] ∧ Ic m' r ((d : Int).tdiv (Int.gcd z d))) (fun _ _ _ hm ⟨n0, a0, l0, c0, e, h⟩ => ⟨n0, a0, l0, c0, e, h.up hm⟩)) rfl rfl (fun m' hm' v4 h4 => (by obtain ⟨n0, a0, l0, c0, rfl, h⟩ := h4; exact ds_ex rfl (x_extract rfl rfl) ⟨_, _, _, _, rfl, h⟩)) ?_
      refine dr_op (.val (.int .i64 0)) rfl rfl (fun m' hm' v4 h4 => (by obtain ⟨n0, a0, l0, c0, rfl, h⟩ := h4; exact ds_val rfl (x_extract rfl rfl))) ?_
      refine dr_op (.box 49 [.bool false, .slice none 0 0]) rfl rfl (fun m' hm' => ds_alloc rfl Tryz.zero49) ?_
      refine dr_doneF (k := 8) [(6, _)] Tryz.mixed ⟨rfl, trivial⟩ rfl rfl rfl fun m7 hm_m7 b6 v5 h5 v4 h4 v3 h3 v1 h1 => ?_
      show WLF _ _ _ _ _ _ _ _ _ _
      obtain ⟨_, _, _, _, rfl, _⟩ := h4
      obtain ⟨_, _, _, _, rfl, h5⟩ := h5
      refine wlf_stores (vs := [_, _]) (xs' := [_, _]) rfl rfl rfl rfl rfl ⟨⟨_, _, [], rfl, rfl, rfl, rfl, rfl, rfl, x_extract rfl rfl⟩, trivial⟩ rfl Tryz.size49 rfl rfl (by simp [Value.oneCell']) (by simp) rfl ?_
      refine wlf_done rfl rfl rfl ⟨⟨_, _, [], rfl, rfl, rfl, rfl, rfl, rfl, x_extract rfl rfl⟩, trivial⟩ ?_
      show WL _ _ _ _ _ _ _ _ _
      refine was ?_
      refine wnr ?_
      refine wv (x_loads Tryz.agg49 (by exact Tryz.size49) rfl (rowH0 (.tail _ (.head _)))) ?_
      refine wv (x_fieldAddr Tryz.underlying49 rfl Tryz.size47 rfl) ?_
      refine wv (x_load Tryz.plain47 rfl (rowH1 (.head _) rfl)) ?_
      refine wv (x_build (cs := [_, _, _]) Tryz.underlying53 Tryz.places53 Tryz.zero53 rfl rfl) ?_
      refine wl_front3 ?_
      refine wl_storeAll rfl (by exact Tryz.size53) rfl rfl (by simp [Value.oneCell']) rfl ?_
      refine wns ?_
      refine w_ret ?_
      refine at_endp (resA rfl ⟨⟨_, _, _, rfl, rowH0 (.head _), .inr ⟨Tryz.agg53, Tryz.size53, rfl⟩⟩, trivial⟩) ?_
      rw [lowZ, lowD, if_neg (by omega), if_neg (by omega)]
      obtain ⟨nq, sq, aq, eq, hq1, hq2, hq3⟩ := hq.up hm_m7
      cases eq
      exact ⟨_, _, _, _, rfl, hq1, hq2, hq3, (h5.eq (by rw [← Int.ofNat_tdiv])).nat⟩

theorem compare_ok {m : Mem} {v u : Value} {z1 z2 : Int} {d1 d2 : Nat} (hv : Fi m v z1 d1) (hu : Fi m u z2 d2) (hl : dlen z1.natAbs + dlen d2 ≤ 35184372088800 ∧ dlen z2.natAbs + dlen d1 ≤ 35184372088800) :
    Pure Tryz.prog 142 #[v, u] m fun r _ => r = .int .i64 (cmpI (z1 * d2) (z2 * d1)) := by
  have hv' := hv
  have hu' := hu
  obtain ⟨n1, s1, a1, t1, rfl, hS1, e1, ht1⟩ := hv
  obtain ⟨n2, s2, a2, t2, rfl, hS2, e2, ht2⟩ := hu
  have hI1 : ∀ {m'}, m.le m' → In m' (.agg [.bool n1, s1].toArray) z1 := fun hm => e1 ▸ In.of (hS1.up hm)
  have hI2 : ∀ {m'}, m.le m' → In m' (.agg [.bool n2, s2].toArray) z2 := fun hm => e2 ▸ In.of (hS2.up hm)
  refine enterp Tryz.func142 rfl rfl ?_
  intro K hm0 hks
  refine wsr ?_
  refine wl_box rfl rfl rfl rfl ?_; intro b2
  refine wl_box rfl rfl rfl rfl ?_; intro b3
  refine was ?_
  refine wns ?_
  refine w_seq ?_
  refine dr_start [] [[], [0], [], [2], [1, 3], [], [5], [], [7]] ?_
  refine dr_val rfl rfl (fun m' hm' => ds_val rfl (x_fieldAddr Tryz.underlying53 rfl Tryz.size49 rfl)) ?_
  refine dr_val rfl rfl (fun m' hm' => ds_val rfl (x_loads Tryz.agg49 (by exact Tryz.size49) rfl (rowHs (vs := [_, _]) (.tail _ (.head _)) 0 rfl))) ?_
  refine dr_val rfl rfl (fun m' hm' => ds_val rfl (x_loads Tryz.agg53 (by exact Tryz.size53) rfl (rowH0 (.head _)))) ?_
  refine dr_op (.ret (fun r m' => Ic m' r d2) (fun _ _ _ hm h => h.up hm)) rfl rfl (fun m' hm' => ds_call rfl rfl Tryz.c140 (den_ok (hu'.up hm'))) ?_
  refine dr_op (.ret (fun r m' => Ic m' r (z1 * d2)) (fun _ _ _ hm h => h.up hm)) rfl rfl (fun m' hm' v3 h3 => ds_call rfl rfl Tryz.c118 (Mul_ok' (hI1 hm') h3.in' hl.1)) ?_
  refine dr_val rfl rfl (fun m' hm' => ds_val rfl (x_fieldAddr Tryz.underlying53 rfl Tryz.size49 rfl)) ?_
  refine dr_val rfl rfl (fun m' hm' => ds_val rfl (x_loads Tryz.agg49 (by exact Tryz.size49) rfl (rowHs (vs := [_, _]) (.head _) 0 rfl))) ?_
  refine dr_val rfl rfl (fun m' hm' => ds_val rfl (x_loads Tryz.agg53 (by exact Tryz.size53) rfl (rowH0 (.tail _ (.head _))))) ?_
  refine dr_op (.ret (fun r m' => Ic m' r d1) (fun _ _ _ hm h => h.up hm)) rfl rfl (fun m' hm' => ds_call rfl rfl Tryz.c140 (den_ok (hv'.up hm'))) ?_
  refine dr_done (k := 9) Tryz.mixed rfl rfl rfl fun m1 hm_m1 v8 h8 v4 h4 v3 h3 => ?_
  show WL _ _ _ _ _ _ _ _ _
  refine wl_callp rfl rfl rfl Tryz.c118 (Mul_ok' (hI2 hm_m1) h8.in' hl.2) ?_; rintro v9 m9 hm9 h9
  refine wl_callp rfl rfl rfl Tryz.c65 (Cmp_ok' (h4.up hm9).in' h9.in') ?_; rintro v10 m10 hm10 rfl
  refine was ?_
  refine wns ?_
  refine w_ret ?_
  refine at_endp (res1 rfl rfl) ?_
  rfl

theorem lowZ_le (z : Int) (d : Nat) : (lowZ z d).natAbs ≤ z.natAbs := by
  unfold lowZ
  split
  · simp
  · rw [Int.natAbs_tdiv]; exact Nat.div_le_self _ _
theorem lowD_le1 (z : Int) (d : Nat) : lowD z d ≤ max d 1 := by
  unfold lowD
  split
  · omega
  · exact Nat.le_trans (Nat.div_le_self _ _) (Nat.le_max_left _ _)

theorem dlen_lowD (z : Int) (d : Nat) : dlen (lowD z d) ≤ dlen d + 1 := by
  have h := dlen_mono (lowD_le1 z d)
  rcases Nat.eq_zero_or_pos d with h0 | h0
  · subst h0
    rw [show max 0 1 = 1 from rfl, dlen_one] at h
    omega
  · rw [Nat.max_eq_left h0] at h
    omega
theorem FCmp_ok {m : Mem} {v u : Value} {z1 z2 : Int} {d1 d2 : Nat} (hv : Fi m v z1 d1) (hu : Fi m u z2 d2) (h1 : dlen z1.natAbs ≤ 1000000000000 ∧ dlen d1 ≤ 1000000000000) (h2 : dlen z2.natAbs ≤ 1000000000000 ∧ dlen d2 ≤ 1000000000000) :
    Pure Tryz.prog 84 #[v, u] m fun r _ => r = .int .i64 (cmpI (lowZ z1 d1 * lowD z2 d2) (lowZ z2 d2 * lowD z1 d1)) := by
  have a1 := dlen_mono (lowZ_le z1 d1)
  have a2 := dlen_mono (lowZ_le z2 d2)
  have b1 := dlen_lowD z1 d1
  have b2 := dlen_lowD z2 d2
  have hv' := hv
  have hu' := hu
  obtain ⟨n1, x1, l1, y1, x2, l2, y2, rfl⟩ := hv.agg
  obtain ⟨n2, x3, l3, y3, x4, l4, y4, rfl⟩ := hu.agg
  refine enterp Tryz.func84 rfl rfl ?_
  intro K hm0 hks
  refine wsr ?_
  refine wl_box rfl rfl rfl rfl ?_; intro b2
  refine wl_box rfl rfl rfl rfl ?_; intro b3
  refine was ?_
  refine wns ?_
  refine w_seq ?_
  refine dr_start [] [[], [0], []] ?_
  refine dr_val rfl rfl (fun m' hm' => ds_val rfl (x_loads Tryz.agg53 (by exact Tryz.size53) rfl (rowH0 (.tail _ (.head _))))) ?_
  refine dr_op (.ret (fun r m' => Fc m' r (lowZ z1 d1) (lowD z1 d1)) (fun _ _ _ hm h => h.up hm)) rfl rfl (fun m' hm' => ds_call rfl rfl Tryz.c83 (Lowest_ok (hv'.up hm') h1)) ?_
  refine dr_val rfl rfl (fun m' hm' => ds_val rfl (x_loads Tryz.agg53 (by exact Tryz.size53) rfl (rowH0 (.head _)))) ?_
  refine dr_done (k := 3) Tryz.mixed rfl rfl rfl fun m1 hm_m1 v1 h1 => ?_
  show WL _ _ _ _ _ _ _ _ _
  refine wl_callp rfl rfl rfl Tryz.c83 (Lowest_ok (hu'.up hm_m1) h2) ?_; rintro v3 m3 hm3 h3
  refine wl_callp rfl rfl rfl Tryz.c142 (compare_ok (h1.up hm3).fi h3.fi ⟨by omega, by omega⟩) ?_; rintro v4 m4 hm4 rfl
  refine was ?_
  refine wns ?_
  refine w_ret ?_
  refine at_endp (res1 rfl rfl) ?_
  rfl
end Go.Cy


/- decimal: chunk, Format. -/
namespace Go.Cy
open Go Go.Proofs
set_option maxRecDepth 20000

theorem chunk_ok {m : Mem} : Pure Tryz.prog 210 #[.int .i64 10] m fun r _ => r = .tuple #[.int .u32 1000000000, .int .i64 9] := by
  have key : ∀ c, 1 ≤ c → c ≤ 9 → 10 ^ c ≤ 1000000000 ∧ (10 ^ c * 10 ≤ 4294967295 → c < 9) ∧ (¬ 10 ^ c * 10 ≤ 4294967295 → c = 9) := by
    intro c h1 h2
    have : c = 1 ∨ c = 2 ∨ c = 3 ∨ c = 4 ∨ c = 5 ∨ c = 6 ∨ c = 7 ∨ c = 8 ∨ c = 9 := by omega
    rcases this with rfl | rfl | rfl | rfl | rfl | rfl | rfl | rfl | rfl <;> decide
  refine enterp Tryz.func210 rfl rfl ?_
  intro K hm0 hks
  refine wsr ?_
  refine was ?_
  refine was ?_
  refine wnr ?_
  refine wmv ?_
  refine wv (x_conv Tryz.underlying3 Tryz.underlying111 rfl (u64n (r := 10) (by omega) (by omega))) ?_
  refine was ?_
  refine was ?_
  refine wns ?_
  refine w_seq ?_
  refine w_block ?_
  refine w_loop (fun r m' H' env' => ∃ c p, r + c = 9 ∧ 1 ≤ c ∧ p = 10 ^ c ∧ m' = m ∧ H' = [] ∧ env' = [(0, .int .i64 10), (4, .int .u64 (p : Nat)), (5, .int .i64 (c : Nat))]) 8 [(0, .int .i64 10), (4, .int .u64 (10 : Nat)), (5, .int .i64 (1 : Nat))] ⟨1, 10, rfl, Nat.le_refl _, rfl, rfl, rfl, rfl⟩ (by repeat' (first | exact trivial | exact rfl | exact lk_int rfl (by omega) | apply And.intro)) ?_
  rintro r m1 H' env' ⟨c, p, hr, hc, hp, rfl, rfl, rfl⟩
  obtain ⟨k1, k2, k3⟩ := key c hc (by omega)
  rw [← hp] at k1 k2 k3
  refine w_seq ?_
  refine wsr ?_
  refine wmv ?_
  refine wmv ?_
  refine wv (x_conv Tryz.underlying3 Tryz.underlying111 rfl (u64n (r := 10) (by omega) (by omega))) ?_
  refine wv (x_mul rfl rfl (u64n (r := p * 10) (by omega) (by omega))) ?_
  refine wv (x_leq rfl rfl) ?_
  refine wns ?_
  refine w_if rfl (fun h1 => ?_) (fun h1 => ?_)
  · skip
    have := k2 (by omega)
    refine w_skip ?_
    refine at_seq ?_
    refine w_block ?_
    refine wsr ?_
    refine wmv ?_
    refine wmv ?_
    refine wv (x_conv Tryz.underlying3 Tryz.underlying111 rfl (u64n (r := 10) (by omega) (by omega))) ?_
    refine wv (x_mul rfl rfl (u64n (r := p * 10) (by omega) (by omega))) ?_
    refine was ?_
    refine wns ?_
    refine w_region ?_
    refine wmv ?_
    refine wv (x_add rfl rfl (wrap_i64 (by omega) (by omega))) ?_
    refine was ?_
    refine wl_nil ?_
    refine at_block_normal ?_
    exact at_again (r - 1) [(0, .int .i64 10), (4, .int .u64 (p * 10 : Nat)), (5, .int .i64 (c + 1 : Nat))] (by omega) ⟨c + 1, p * 10, by omega, by omega, by rw [hp, Nat.pow_succ], rfl, rfl, rfl⟩ (by repeat' (first | exact trivial | exact rfl | exact lk_int rfl (by omega) | apply And.intro))
  · skip
    have := k3 (by omega)
    subst this
    subst hp
    refine w_exit ?_
    refine at_then_exit ?_
    refine at_then_exit ?_
    refine at_block_hit ?_
    refine at_seq ?_
    refine wsr ?_
    refine wmv ?_
    refine wv (x_conv Tryz.underlying111 Tryz.underlying51 rfl (u32n (r := 1000000000) (by omega) (by omega))) ?_
    refine wmv ?_
    refine was ?_
    refine was ?_
    refine wns ?_
    refine w_ret ?_
    refine at_endp (res2 rfl rfl rfl) ?_
    rfl

def turned (l l' : List UInt8) (k : Nat) : Prop := l'.length = l.length ∧ ∀ i (h : i < l.length), l'[i]? = some (if i < k ∨ l.length - k ≤ i then l[l.length - 1 - i] else l[i])
theorem turned_zero (l : List UInt8) : turned l l 0 := ⟨rfl, fun i h => by rw [if_neg (by omega)]; simp [h]⟩
theorem turned_step {l l' : List UInt8} {k : Nat} (h : turned l l' k) (hk : k < l.length - 1 - k) (h1 : k < l'.length) (h2 : l.length - 1 - k < l'.length) : turned l ((l'.set k l'[l.length - 1 - k]).set (l.length - 1 - k) l'[k]) (k + 1) := by
  obtain ⟨hl, hg⟩ := h
  have ek : l'[k] = l[k]'(by omega) := by
    have := hg k (by omega)
    rw [List.getElem?_eq_getElem h1, if_neg (by omega)] at this
    exact Option.some.inj this
  have ej : l'[l.length - 1 - k] = l[l.length - 1 - k]'(by omega) := by
    have := hg (l.length - 1 - k) (by omega)
    rw [List.getElem?_eq_getElem h2, if_neg (by omega)] at this
    exact Option.some.inj this
  refine ⟨by simp [hl], fun i hi => ?_⟩
  rw [List.getElem?_set]
  by_cases e1 : l.length - 1 - k = i
  · subst e1
    rw [if_pos rfl, if_pos (by simp; omega), if_pos (by omega), ek]
    congr 2
    omega
  · rw [if_neg e1, List.getElem?_set]
    by_cases e2 : k = i
    · subst e2
      rw [if_pos rfl, if_pos h1, if_pos (by omega), ej]
    · rw [if_neg e2, hg i hi]
      congr 1
      by_cases e3 : i < k ∨ l.length - k ≤ i
      · rw [if_pos e3, if_pos (by omega)]
      · rw [if_neg e3, if_neg (by omega)]
theorem turned_end {l l' : List UInt8} {k : Nat} (h : turned l l' k) (hk : l.length ≤ 2 * k + 1) : l' = l.reverse := by
  obtain ⟨hl, hg⟩ := h
  refine List.ext_getElem? fun i => ?_
  by_cases hi : i < l.length
  · rw [hg i hi, List.getElem?_reverse hi, List.getElem?_eq_getElem (by omega)]
    congr 1
    split
    · rfl
    · congr 1; omega
  · rw [List.getElem?_eq_none (by omega), List.getElem?_eq_none (by simp; omega)]

theorem Reverse_ok {m : Mem} {b : Nat} {l : List UInt8} {junk : List Value} {cap : Nat} (hcap : l.length ≤ cap) (hl : l.length ≤ 4611686018427387904) : Does Tryz.prog 212 #[.slice (some ⟨b, 0, none⟩) l.length cap] m [(b, cl 5 (bsv l ++ junk))] fun _ m' H' => H' = [(b, cl 5 (bsv l.reverse ++ junk))] := by
  refine enter Tryz.func212 rfl rfl ?_
  intro K hm0 hks
  refine wsr ?_
  refine wmv ?_
  refine wv (x_len Tryz.underlying67 rfl rfl) ?_
  refine wv (x_sub rfl rfl (wrap_i64 (by omega) (by omega))) ?_
  refine was ?_
  refine was ?_
  refine wns ?_
  refine w_block ?_
  refine w_loop (fun r m' H' env' => ∃ k l', r + k = l.length ∧ m.le m' ∧ turned l l' k ∧ H' = [(b, cl 5 (bsv l' ++ junk))] ∧ env' = [(0, .slice (some ⟨b, 0, none⟩) l.length cap), (2, .int .i64 k), (3, .int .i64 ((l.length : Int) - 1 - k))]) l.length [(0, .slice (some ⟨b, 0, none⟩) l.length cap), (2, .int .i64 (0 : Nat)), (3, .int .i64 ((l.length : Int) - 1 - (0 : Nat)))] ⟨0, l, rfl, Mem.le.refl _, turned_zero l, rfl, rfl⟩ (by repeat' (first | exact trivial | exact rfl | exact lk_int rfl (by omega) | apply And.intro)) ?_
  rintro r m1 H' env' ⟨k, l', hr, hm1, ht, rfl, rfl⟩
  refine w_seq ?_
  refine wsr ?_
  refine wmv ?_
  refine wmv ?_
  refine wv (x_lss rfl rfl) ?_
  refine wns ?_
  refine w_if rfl (fun h1 => ?_) (fun h1 => ?_)
  · skip
    have k1 : k < l'.length := by rw [ht.1]; omega
    have k2 : l.length - 1 - k < l'.length := by rw [ht.1]; omega
    have k3 : l.length - 1 - k < (l'.set k l'[l.length - 1 - k]).length := by simpa using k2
    refine w_skip ?_
    refine at_seq ?_
    refine w_seq ?_
    refine w_block ?_
    refine dr_start [] [[], [], [], [], [], [], [4, 5], [6], [], [], [8, 9], [10], [0, 1]] ?_
    refine dr_val rfl rfl (fun m' hm' => ds_val rfl (x_move rfl)) ?_
    refine dr_val rfl rfl (fun m' hm' => ds_val rfl (x_move rfl)) ?_
    refine dr_val rfl rfl (fun m' hm' => ds_val rfl (x_move rfl)) ?_
    refine dr_val rfl rfl (fun m' hm' => ds_val rfl (x_move rfl)) ?_
    refine dr_val rfl rfl (fun m' hm' => ds_val rfl (x_move rfl)) ?_
    refine dr_val rfl rfl (fun m' hm' => ds_val rfl (x_move rfl)) ?_
    refine dr_val rfl rfl (fun m' hm' => ds_val rfl (x_index Tryz.underlying67 Tryz.size5 rfl rfl (j := (l.length - 1 - k)) (by omega) (by omega))) ?_
    refine dr_val rfl rfl (fun m' hm' => ds_val rfl (x_load Tryz.plain5 rfl (rowH1 (.head _) (bsv_at k2 (by omega))))) ?_
    refine dr_val rfl rfl (fun m' hm' => ds_val rfl (x_move rfl)) ?_
    refine dr_val rfl rfl (fun m' hm' => ds_val rfl (x_move rfl)) ?_
    refine dr_val rfl rfl (fun m' hm' => ds_val rfl (x_index Tryz.underlying67 Tryz.size5 rfl rfl (j := k) (by omega) (by omega))) ?_
    refine dr_val rfl rfl (fun m' hm' => ds_val rfl (x_load Tryz.plain5 rfl (rowH1 (.head _) (bsv_at k1 (by omega))))) ?_
    refine dr_val rfl rfl (fun m' hm' => ds_val rfl (x_index Tryz.underlying67 Tryz.size5 rfl rfl (j := k) (by omega) (by omega))) ?_
    refine dr_doneF (k := 13) [(2, _), (3, _)] Tryz.mixed ⟨rfl, rfl, trivial⟩ rfl rfl rfl fun m2 hm_m2 => ?_
    show WLF _ _ _ _ _ _ _ _ _ _
    refine wlf_store (xs' := bsv (l'.set k l'[l.length - 1 - k]) ++ junk) rfl rfl rfl rfl rfl ⟨⟨_, _, [], rfl, rfl, rfl, rfl, rfl, rfl, x_move rfl⟩, ⟨_, _, [], rfl, rfl, rfl, rfl, rfl, rfl, x_move rfl⟩, trivial⟩ rfl Tryz.size5 rfl rfl rfl (by simp [bsv]; omega) (bsv_setAs k1 (by omega)) ?_
    refine wlf_done rfl rfl rfl ⟨⟨_, _, [], rfl, rfl, rfl, rfl, rfl, rfl, x_move rfl⟩, ⟨_, _, [], rfl, rfl, rfl, rfl, rfl, rfl, x_move rfl⟩, trivial⟩ ?_
    show WL _ _ _ _ _ _ _ _ _
    refine wv (x_index Tryz.underlying67 Tryz.size5 rfl rfl (j := (l.length - 1 - k)) (by omega) (by omega)) ?_
    refine wl_storeAs (xs' := bsv ((l'.set k l'[l.length - 1 - k]).set (l.length - 1 - k) l'[k]) ++ junk) rfl Tryz.size5 rfl rfl rfl (by simp [bsv]; omega) (bsv_setAs k3 (by omega)) ?_
    refine wl_nil ?_
    refine at_block_normal ?_
    refine at_seq ?_
    refine w_region ?_
    refine wmv ?_
    refine wv (x_add rfl rfl (wrap_i64 (by omega) (by omega))) ?_
    refine wmv ?_
    refine wv (x_sub rfl rfl (wrap_i64 (by omega) (by omega))) ?_
    refine was ?_
    refine was ?_
    refine wl_nil ?_
    exact at_again (r - 1) [(0, .slice (some ⟨b, 0, none⟩) l.length cap), (2, .int .i64 (k + 1 : Nat)), (3, .int .i64 ((l.length : Int) - 1 - (k + 1 : Nat)))] (by omega) ⟨k + 1, _, by omega, hm1.trans hm_m2, turned_step ht (by omega) k1 k2, rfl, rfl⟩ (by repeat' (first | exact trivial | exact rfl | exact lk_int rfl (by omega) | apply And.intro))
  · skip
    refine w_exit ?_
    refine at_then_exit ?_
    refine at_then_exit ?_
    refine at_block_hit ?_
    refine at_end_normal (res0 rfl) ?_
    rw [turned_end ht (by omega)]
end Go.Cy


/- decimal.Format. -/
namespace Go.Cy
open Go Go.Proofs
set_option maxRecDepth 20000

def revD (n : Nat) : List UInt8 := if n = 0 then [] else UInt8.ofNat (48 + n % 10) :: revD (n / 10)
  termination_by n
  decreasing_by omega
theorem revD_zero : revD 0 = [] := by rw [revD]; simp
theorem revD_pos {n : Nat} (h : n ≠ 0) : revD n = UInt8.ofNat (48 + n % 10) :: revD (n / 10) := by rw [revD]; simp [h]
def decB (z : Int) : List UInt8 := if z = 0 then [48] else (if z < 0 then [45] else []) ++ (revD z.natAbs).reverse
theorem revD_pow (n : Nat) (h : n ≠ 0) : 10 ^ ((revD n).length - 1) ≤ n := by
  induction n using Nat.strongRecOn with
  | _ n ih =>
    rw [revD_pos h]
    by_cases h0 : n / 10 = 0
    · rw [h0, revD_zero]; simp; omega
    · have := ih (n / 10) (by omega) h0
      rw [revD_pos h0] at this ⊢
      simp only [List.length_cons, Nat.add_sub_cancel] at this ⊢
      rw [Nat.pow_succ]
      omega
theorem revD_len (n : Nat) : (revD n).length ≤ 10 * dlen n := by
  by_cases h : n = 0
  · subst h; rw [revD_zero]; simp
  · have h1 := revD_pow n h
    have h2 := lt_dlen n
    have h3 : 4294967296 ^ dlen n ≤ 10 ^ (10 * dlen n) := by rw [Nat.pow_mul]; exact Nat.pow_le_pow_left (by omega) _
    have h4 : 10 ^ ((revD n).length - 1) < 10 ^ (10 * dlen n) := by omega
    have := (Nat.pow_lt_pow_iff_right (by omega : 1 < 10)).1 h4
    omega

theorem digit_step {part q i : Nat} (hi : i < 9) (h0 : part ≠ 0 ∨ q ≠ 0) : revD (part + 10 ^ (9 - i) * q) = UInt8.ofNat (48 + part % 10) :: revD (part / 10 + 10 ^ (9 - (i + 1)) * q) := by
  have e : 10 ^ (9 - i) = 10 * 10 ^ (9 - (i + 1)) := by rw [← Nat.pow_succ']; congr 1; omega
  have hp : 0 < 10 ^ (9 - (i + 1)) := Nat.pow_pos (by omega)
  have hne : part + 10 ^ (9 - i) * q ≠ 0 := by
    rcases h0 with h | h
    · omega
    · have : 0 < 10 ^ (9 - i) * q := Nat.mul_pos (Nat.pow_pos (by omega)) (Nat.pos_of_ne_zero h)
      omega
  rw [revD_pos hne, e, Nat.mul_assoc]
  congr 2
  · congr 1
    rw [Nat.add_mul_mod_self_left]
  · rw [Nat.add_mul_div_left _ _ (by omega)]

theorem pow_step {part i : Nat} (hi : i < 9) (h : part < 10 ^ (9 - i)) : part / 10 < 10 ^ (9 - (i + 1)) := by
  have e : 10 ^ (9 - i) = 10 * 10 ^ (9 - (i + 1)) := by rw [← Nat.pow_succ']; congr 1; omega
  omega

theorem own_some {v : Value} {E : TypeId} {L : List UInt8} {Hs : Hp} (h : Own v 1 E (bsv L) Hs) (hne : L ≠ []) : ∃ b cap junk, v = .slice (some ⟨b, 0, none⟩) L.length cap ∧ L.length ≤ cap ∧ Hs = [(b, cl E (bsv L ++ junk))] := by
  rcases h with ⟨_, e, _⟩ | ⟨b, len, cap, xs, rfl, hlc, hcl, hxl, htk, rfl⟩
  · exact absurd (by simpa [bsv] using e) hne
  · obtain rfl : len = L.length := by simpa [bsv] using hcl.symm
    refine ⟨b, cap, xs.drop L.length, rfl, hlc, ?_⟩
    rw [← htk, Nat.mul_one, List.take_append_drop]

theorem format_ok {m : Mem} {v : Value} {z : Int} (hv : In m v z) (hb : dlen z.natAbs ≤ 1000000000000) : Pure Tryz.prog 180 #[v, .int .i64 10] m fun r _ => r = .string (B (decB z)) := by
  have hv' := hv
  obtain ⟨neg, s, a, rfl, hs, hz⟩ := hv
  have ha : z.natAbs = a := by subst hz; cases neg <;> simp [sg]
  have hlen := revD_len a
  rw [ha] at hb
  obtain ⟨sa, sl, sc, rfl⟩ := hs.slice
  refine enterp Tryz.func180 rfl rfl ?_
  intro K hm0 hks
  refine wsr ?_
  refine wl_box rfl rfl rfl rfl ?_; intro b2
  refine was ?_
  refine wns ?_
  refine w_seq ?_
  refine wsr ?_
  refine wv (x_loads Tryz.agg49 (by exact Tryz.size49) rfl (rowH0 (.head _))) ?_
  refine wl_callp rfl rfl rfl Tryz.c40 (Sign_ok hv') ?_; rintro v1 m1 hm1 rfl
  refine wv (x_eql rfl rfl) ?_
  refine wns ?_
  refine w_if rfl (fun h0 => ?_) (fun h0 => ?_)
  · skip
    have := sign_cases z
    obtain rfl : z = 0 := by omega
    refine wsr ?_
    refine was ?_
    refine wns ?_
    refine w_ret ?_
    refine at_then_ret ?_
    refine at_endp (res1 rfl rfl) ?_
    rfl
  · skip
    have hz0 : z ≠ 0 := by intro e; subst e; exact h0 rfl
    refine w_skip ?_
    refine at_seq ?_
    refine wsr ?_
    refine wmv ?_
    refine wl_callp rfl rfl rfl Tryz.c210 (chunk_ok) ?_; rintro v2 m2 hm2 rfl
    refine wmv ?_
    refine wex ?_
    refine wex ?_
    refine was ?_
    refine was ?_
    refine wnr ?_
    refine was ?_
    refine wns ?_
    refine w_seq ?_
    refine wsr ?_
    refine wv (x_fieldAddr Tryz.underlying49 rfl Tryz.size47 rfl) ?_
    refine wv (x_load Tryz.plain47 rfl (rowH1 (.head _) rfl)) ?_
    refine was ?_
    refine wns ?_
    refine w_block ?_
    refine w_loop (fun r m' H' env' => ∃ vo Hs out rv, revD a = out ++ revD r ∧ m2.le m' ∧ Own vo 1 5 (bsv out) Hs ∧ Nt m' rv r ∧ H' = (b2, cl 49 [.bool neg, .slice sa sl sc]) :: Hs ∧ env' = [(1, .int .i64 10), (2, .pointer (some ⟨b2, 0, none⟩)), (5, .int .u32 1000000000), (6, .int .i64 9), (7, vo), (8, rv)]) a [(1, .int .i64 10), (2, .pointer (some ⟨b2, 0, none⟩)), (5, .int .u32 1000000000), (6, .int .i64 9), (7, .slice none 0 0), (8, .slice sa sl sc)] ⟨_, [], [], _, rfl, Mem.le.refl _, Own.nil _ _, hs.up (hm1.trans hm2), rfl, rfl⟩ (by repeat' (first | exact trivial | exact rfl | exact lk_int rfl (by omega) | apply And.intro)) ?_
    rintro r m3 H' env' ⟨vo, Hs, out, rv, hrev, hm3, hown, hrv, rfl, rfl⟩
    refine w_seq ?_
    refine wsr ?_
    refine wmv ?_
    refine wl_callp rfl rfl rfl Tryz.c100 (IsZero_ok hrv) ?_; rintro v4 m4 hm4 rfl
    refine wv (x_not rfl rfl) ?_
    refine wns ?_
    refine w_cond rfl (fun h1 => ?_) (fun h1 => ?_)
    · skip
      have hr0 : r ≠ 0 := by simpa using h1
      refine w_skip ?_
      refine at_seq ?_
      refine w_block ?_
      refine wsr ?_
      refine was ?_
      refine wnr ?_
      refine wmv ?_
      refine wmv ?_
      refine wl_callp rfl rfl rfl Tryz.c211 (DivSmall_ok (hrv.up hm4) (d := 1000000000) (by omega) (by omega)) ?_; rintro v5 m5 hm5 ⟨q, rfl, hq⟩
      refine wmv ?_
      refine wex ?_
      refine wex ?_
      refine wex ?_
      refine was ?_
      refine was ?_
      refine wnr ?_
      refine wmv ?_
      refine wl_callp rfl rfl rfl Tryz.c100 (IsZero_ok hq.nt) ?_; rintro v6 m6 hm6 rfl
      refine was ?_
      refine wnr ?_
      refine was ?_
      refine wns ?_
      refine w_block ?_
      have hdm := Nat.div_add_mod r 1000000000
      have hml := Nat.mod_lt r (show 0 < 1000000000 by omega)
      generalize hQ : r / 1000000000 = Q at *
      generalize hP : r % 1000000000 = p0 at *
      refine w_loop (fun r' m' H' env' => ∃ i part vo Hs out, r' + i = 9 ∧ revD a = out ++ revD (part + 10 ^ (9 - i) * Q) ∧ part < 10 ^ (9 - i) ∧ m6.le m' ∧ Own vo 1 5 (bsv out) Hs ∧ H' = (b2, cl 49 [.bool neg, .slice sa sl sc]) :: Hs ∧ env' = [(1, .int .i64 10), (2, .pointer (some ⟨b2, 0, none⟩)), (5, .int .u32 1000000000), (6, .int .i64 9), (7, vo), (8, q), (9, .int .u32 (part : Nat)), (10, .bool (decide (Q = 0))), (11, .int .i64 (i : Nat))]) 9 [(1, .int .i64 10), (2, .pointer (some ⟨b2, 0, none⟩)), (5, .int .u32 1000000000), (6, .int .i64 9), (7, vo), (8, q), (9, .int .u32 (p0 : Nat)), (10, .bool (decide (Q = 0))), (11, .int .i64 (0 : Nat))] ⟨0, p0, vo, Hs, out, rfl, by rw [hrev, ← hdm, Nat.add_comm], hml, Mem.le.refl _, hown, rfl, rfl⟩ (by repeat' (first | exact trivial | exact rfl | exact lk_int rfl (by omega) | apply And.intro)) ?_
      clear hown hrev
      rintro r' m7 H' env' ⟨i, part, vo, Hs, out, hri, hrev, hpart, hm7, hown, rfl, rfl⟩
      have hol : out.length ≤ (revD a).length := by rw [hrev]; simp
      have hp9 : 10 ^ (9 - i) ≤ 10 ^ 9 := Nat.pow_le_pow_right (by omega) (by omega)
      refine w_seq ?_
      refine wsr ?_
      refine wmv ?_
      refine wmv ?_
      refine wv (x_lss rfl rfl) ?_
      refine wmv ?_
      refine wl_splitp (t := 37) rfl (fun h2 => ?_) (fun h2 => ?_)
      · skip
        refine wmv ?_
        refine wv (x_not rfl rfl) ?_
        refine wmv ?_
        refine wl_split (t := 40) rfl (fun h3 => ?_) (fun h3 => ?_)
        · skip
          have hQ0 : Q ≠ 0 := by simpa using h3
          have dst := digit_step (part := part) (q := Q) (i := i) (by omega) (.inr hQ0)
          refine wl_off rfl rfl rfl ?_
          refine wl_off rfl rfl rfl ?_
          refine wv (x_pick_t rfl rfl) ?_
          refine wv (x_pick_t rfl rfl) ?_
          refine wns ?_
          refine w_true rfl ?_
          refine w_skip ?_
          refine at_seq ?_
          refine w_seq ?_
          refine w_block ?_
          refine wsr ?_
          refine wmv ?_
          refine wmv ?_
          refine wmv ?_
          refine wv (x_conv Tryz.underlying3 Tryz.underlying51 rfl (u32n (r := 10) (by omega) (by omega))) ?_
          refine wv (x_rem rfl rfl (by omega) ((Int.ofNat_tmod part 10).symm)) ?_
          refine wv (x_indexSym Tryz.underlying9 rfl rfl rfl (by omega) (by decide +kernel)) ?_
          refine wl_buildSlice rfl rfl Tryz.underlying67 Tryz.size5 Tryz.zero5 rfl rfl rfl rfl rfl ?_; intro b53
          refine wl_append (cells := bsv out) (news := [_]) rfl rfl rfl Tryz.underlying67 Tryz.underlying67 Tryz.size5 Tryz.bytes5 Tryz.zero5 rfl (by omega) rfl hown (List.perm_append_comm (l₁ := [_, _])) rfl rfl (.inr ⟨_, 0, rfl, rowH0 (.head _)⟩) (by simp [Value.oneCell']) (by simp [bsv]; omega) (by simp [bsv]; omega) ?_; intro vo' Hs' hown'; refine wl_perm List.perm_append_comm ?_; refine wl_drop1 ?_
          refine was ?_
          refine wns ?_
          refine w_region ?_
          refine wmv ?_
          refine wmv ?_
          refine wv (x_conv Tryz.underlying3 Tryz.underlying51 rfl (u32n (r := 10) (by omega) (by omega))) ?_
          refine wv (x_quo rfl rfl (by omega) (u32n (r := part / 10) (by rw [Int.ofNat_tdiv]) (by omega))) ?_
          refine was ?_
          refine wl_nil ?_
          refine at_block_normal ?_
          refine at_seq ?_
          refine w_region ?_
          refine wmv ?_
          refine wv (x_add rfl rfl (wrap_i64 (by omega) (by omega))) ?_
          refine was ?_
          refine wl_nil ?_
          exact at_again (r' - 1) [(1, .int .i64 10), (2, .pointer (some ⟨b2, 0, none⟩)), (5, .int .u32 1000000000), (6, .int .i64 9), (7, vo'), (8, q), (9, .int .u32 (part / 10 : Nat)), (10, .bool (decide (Q = 0))), (11, .int .i64 (i + 1 : Nat))] (by omega) ⟨i + 1, part / 10, vo', Hs', out ++ [UInt8.ofNat (48 + part % 10)], by omega, by rw [hrev, dst]; simp, pow_step (by omega) hpart, hm7, by rw [bsv_snoc]; exact hown', rfl, rfl⟩ (by repeat' (first | exact trivial | exact rfl | exact lk_int rfl (by omega) | apply And.intro))
        · skip
          have hQ0 : Q = 0 := by simpa using h3
          refine wmv ?_
          refine wv (x_neq rfl rfl) ?_
          refine wv (x_pick_f rfl rfl) ?_
          refine wv (x_pick_t rfl rfl) ?_
          refine wns ?_
          refine w_if rfl (fun h4 => ?_) (fun h4 => ?_)
          · skip
            have dst := digit_step (part := part) (q := Q) (i := i) (by omega) (.inl (by omega))
            refine w_skip ?_
            refine at_seq ?_
            refine w_seq ?_
            refine w_block ?_
            refine wsr ?_
            refine wmv ?_
            refine wmv ?_
            refine wmv ?_
            refine wv (x_conv Tryz.underlying3 Tryz.underlying51 rfl (u32n (r := 10) (by omega) (by omega))) ?_
            refine wv (x_rem rfl rfl (by omega) ((Int.ofNat_tmod part 10).symm)) ?_
            refine wv (x_indexSym Tryz.underlying9 rfl rfl rfl (by omega) (by decide +kernel)) ?_
            refine wl_buildSlice rfl rfl Tryz.underlying67 Tryz.size5 Tryz.zero5 rfl rfl rfl rfl rfl ?_; intro b53
            refine wl_append (cells := bsv out) (news := [_]) rfl rfl rfl Tryz.underlying67 Tryz.underlying67 Tryz.size5 Tryz.bytes5 Tryz.zero5 rfl (by omega) rfl hown (List.perm_append_comm (l₁ := [_, _])) rfl rfl (.inr ⟨_, 0, rfl, rowH0 (.head _)⟩) (by simp [Value.oneCell']) (by simp [bsv]; omega) (by simp [bsv]; omega) ?_; intro vo' Hs' hown'; refine wl_perm List.perm_append_comm ?_; refine wl_drop1 ?_
            refine was ?_
            refine wns ?_
            refine w_region ?_
            refine wmv ?_
            refine wmv ?_
            refine wv (x_conv Tryz.underlying3 Tryz.underlying51 rfl (u32n (r := 10) (by omega) (by omega))) ?_
            refine wv (x_quo rfl rfl (by omega) (u32n (r := part / 10) (by rw [Int.ofNat_tdiv]) (by omega))) ?_
            refine was ?_
            refine wl_nil ?_
            refine at_block_normal ?_
            refine at_seq ?_
            refine w_region ?_
            refine wmv ?_
            refine wv (x_add rfl rfl (wrap_i64 (by omega) (by omega))) ?_
            refine was ?_
            refine wl_nil ?_
            exact at_again (r' - 1) [(1, .int .i64 10), (2, .pointer (some ⟨b2, 0, none⟩)), (5, .int .u32 1000000000), (6, .int .i64 9), (7, vo'), (8, q), (9, .int .u32 (part / 10 : Nat)), (10, .bool (decide (Q = 0))), (11, .int .i64 (i + 1 : Nat))] (by omega) ⟨i + 1, part / 10, vo', Hs', out ++ [UInt8.ofNat (48 + part % 10)], by omega, by rw [hrev, dst]; simp, pow_step (by omega) hpart, hm7, by rw [bsv_snoc]; exact hown', rfl, rfl⟩ (by repeat' (first | exact trivial | exact rfl | exact lk_int rfl (by omega) | apply And.intro))
          · skip
            have hpz : part + 10 ^ (9 - i) * Q = Q := by rw [hQ0]; omega
            rw [hpz] at hrev
            refine w_exit ?_
            refine at_then_exit ?_
            refine at_then_exit ?_
            refine at_block_hit ?_
            refine at_block_normal ?_
            exact at_again Q [(1, .int .i64 10), (2, .pointer (some ⟨b2, 0, none⟩)), (5, .int .u32 1000000000), (6, .int .i64 9), (7, vo), (8, q)] (by omega) ⟨vo, Hs, out, q, hrev, hm3.trans (hm4.trans (hm5.trans (hm6.trans hm7))), hown, hq.nt.up (hm6.trans hm7), rfl, rfl⟩ (by repeat' (first | exact trivial | exact rfl | exact lk_int rfl (by omega) | apply And.intro))
      · skip
        have hi9 : i = 9 := by omega
        subst hi9
        have hpz : part + 10 ^ (9 - 9) * Q = Q := by simp at hpart ⊢; omega
        rw [hpz] at hrev
        refine wl_off rfl rfl rfl ?_
        refine wl_off rfl rfl rfl ?_
        refine wl_off rfl rfl rfl ?_
        refine wl_off rfl rfl rfl ?_
        refine wl_off rfl rfl rfl ?_
        refine wl_off rfl rfl rfl ?_
        refine wv (x_pick_f rfl rfl) ?_
        refine wns ?_
        refine w_false rfl ?_
        refine w_exit ?_
        refine at_then_exit ?_
        refine at_then_exit ?_
        refine at_block_hit ?_
        refine at_block_normal ?_
        exact at_again Q [(1, .int .i64 10), (2, .pointer (some ⟨b2, 0, none⟩)), (5, .int .u32 1000000000), (6, .int .i64 9), (7, vo), (8, q)] (by omega) ⟨vo, Hs, out, q, hrev, hm3.trans (hm4.trans (hm5.trans (hm6.trans hm7))), hown, hq.nt.up (hm6.trans hm7), rfl, rfl⟩ (by repeat' (first | exact trivial | exact rfl | exact lk_int rfl (by omega) | apply And.intro))
    · skip
      have hr0 : r = 0 := by simpa using h1
      subst hr0
      rw [revD_zero, List.append_nil] at hrev
      subst hrev
      have hne : revD a ≠ [] := by rw [revD_pos (by omega)]; simp
      have hne2 : ∀ x, revD a ++ x ≠ [] := fun x e => hne (List.append_eq_nil_iff.1 e).1
      refine w_exit ?_
      refine at_then_exit ?_
      refine at_then_exit ?_
      refine at_block_hit ?_
      refine at_seq ?_
      refine w_seq ?_
      refine wsr ?_
      refine wv (x_fieldAddr Tryz.underlying49 rfl Tryz.size4 rfl) ?_
      refine wv (x_load Tryz.plain4 rfl (rowH1 (.head _) rfl)) ?_
      refine wns ?_
      refine w_cond rfl (fun h5 => ?_) (fun h5 => ?_)
      · skip
        subst h5
        refine w_region ?_
        refine wmv ?_
        refine wl_buildSlice rfl rfl Tryz.underlying67 Tryz.size5 Tryz.zero5 rfl rfl rfl rfl rfl ?_; intro b62
        refine wl_append (cells := bsv (revD a)) (news := [_]) rfl rfl rfl Tryz.underlying67 Tryz.underlying67 Tryz.size5 Tryz.bytes5 Tryz.zero5 rfl (by omega) rfl hown (List.perm_append_comm (l₁ := [_, _])) rfl rfl (.inr ⟨_, 0, rfl, rowH0 (.head _)⟩) (by simp [Value.oneCell']) (by simp [bsv]; omega) (by simp [bsv]; omega) ?_; intro vo' Hs' hown'; refine wl_perm List.perm_append_comm ?_; refine wl_drop1 ?_
        rw [show Value.int IntKind.u8 45 = .int .u8 ((45 : UInt8).toNat : Int) from rfl, ← bsv_snoc] at hown'
        obtain ⟨bo, cap, junk, rfl, hcap, rfl⟩ := own_some hown' (hne2 _)
        refine wl_front1 ?_
        refine was ?_
        refine wnr ?_
        refine wmv ?_
        refine wl_call rfl rfl rfl Tryz.c212 (Hc := [_]) (Hr := [_]) rfl (Reverse_ok hcap (by first | omega | (simp; omega))) ?_; rintro v9 m9 H9 hm9 rfl
        refine wnr ?_
        refine wmv ?_
        refine wv (x_strOf (l := (revD a ++ [45]).reverse) Tryz.underlying67 Tryz.underlying5 Tryz.underlying9 rfl (by simp) (.inr ⟨_, 0, rfl, rowH (.head _) (fun i hi => by rw [Nat.zero_add, List.getElem?_append_left hi])⟩)) ?_
        refine was ?_
        refine wns ?_
        refine w_ret ?_
        refine at_endp (res1 rfl rfl) ?_
        rw [decB, if_neg hz0, if_pos (by simp only [sg, if_true] at hz; omega), ha]
        first | done | simp
      · skip
        subst h5
        refine w_skip ?_
        refine at_seq ?_
        refine wsr ?_
        obtain ⟨bo, cap, junk, rfl, hcap, rfl⟩ := own_some hown (hne)
        refine wl_front1 ?_
        refine wmv ?_
        refine wl_call rfl rfl rfl Tryz.c212 (Hc := [_]) (Hr := [_]) rfl (Reverse_ok hcap (by first | omega | (simp; omega))) ?_; rintro v9 m9 H9 hm9 rfl
        refine wnr ?_
        refine wmv ?_
        refine wv (x_strOf (l := (revD a).reverse) Tryz.underlying67 Tryz.underlying5 Tryz.underlying9 rfl (by simp) (.inr ⟨_, 0, rfl, rowH (.head _) (fun i hi => by rw [Nat.zero_add, List.getElem?_append_left hi])⟩)) ?_
        refine was ?_
        refine wns ?_
        refine w_ret ?_
        refine at_endp (res1 rfl rfl) ?_
        rw [decB, if_neg hz0, if_neg (by rw [hz]; simp [sg]), ha]
        first | done | simp

theorem DecFormat_ok {m : Mem} {v : Value} {z : Int} (hv : In m v z) (hb : dlen z.natAbs ≤ 1000000000000) : Pure Tryz.prog 129 #[v] m fun r _ => r = .string (B (decB z)) := by
  have hv' := hv
  obtain ⟨neg, s, a, rfl, hs, hz⟩ := hv
  obtain ⟨sa, sl, sc, rfl⟩ := hs.slice
  refine enterp Tryz.func129 rfl rfl ?_
  intro K hm0 hks
  refine wsr ?_
  refine wl_box rfl rfl rfl rfl ?_; intro b1
  refine was ?_
  refine wnr ?_
  refine wv (x_loads Tryz.agg49 (by exact Tryz.size49) rfl (rowH0 (.head _))) ?_
  refine wl_callp rfl rfl rfl Tryz.c180 (format_ok hv' hb) ?_; rintro v1 m1 hm1 rfl
  refine was ?_
  refine wns ?_
  refine w_ret ?_
  refine at_endp (res1 rfl rfl) ?_
  rfl
end Go.Cy


/- From the kit's contracts of library functions to this calculus. -/
namespace Go.Cy
open Go

theorem St.grown {m : Mem} {w : World} (hf : Fits m w) (k : Nat) (os : Array Obj) : St ⟨w, m, []⟩ m [] (Go.Sort.grow (w.drewN k) os) where
  os := rfl
  tape := rfl
  output := rfl
  size := by simp [Go.Sort.grow, World.drewN]
  old := fun j hj _ => by
    show (w.heap ++ os)[j]? = w.heap[j]?
    rw [Array.getElem?_append_left hj]
  mem := fun b o hb => by
    have h := hf b o hb
    have hlt : b < w.heap.size := (Array.getElem?_eq_some_iff.1 h).1
    show (w.heap ++ os)[b]? = some o
    rw [Array.getElem?_append_left hlt]
    exact h
  heap := fun _ _ h => absurd h List.not_mem_nil
  own := fun _ _ h => absurd h List.not_mem_nil
  nodup := List.nodup_nil
  apart := fun _ _ h => absurd h List.not_mem_nil
  le := Mem.le.refl _
  grow := fun b h => absurd rfl h

theorem Pure.of_grow {P : Program} {f : FuncId} {args : Array Value} {m : Mem} {v : Value} (h : ∀ w, Fits m w → Calls P f args w fun e w' => e = .returned v ∧ ∃ k os, w' = Go.Sort.grow (w.drewN k) os) : Pure P f args m fun r _ => r = v := by
  intro w hf _ _ _
  refine Calls.mono (h w hf) ?_
  rintro e w' ⟨rfl, k, os, rfl⟩
  exact ⟨m, [], St.grown hf k os, rfl, rfl⟩
def Tab (P : Program) (m : Mem) : Prop := ∀ w, Fits m w → Lib.TabIs P w "internal/strconv.uint64pow10" .u64 Lib.pow10Tab
theorem Fits.le {m m' : Mem} {w : World} (h : Fits m' w) (hm : m.le m') : Fits m w := fun b o hb => h b o (hm b o hb)
theorem Tab.up {P : Program} {m m' : Mem} (h : Tab P m) (hm : m.le m') : Tab P m' := fun w hf => h w (hf.le hm)
end Go.Cy
