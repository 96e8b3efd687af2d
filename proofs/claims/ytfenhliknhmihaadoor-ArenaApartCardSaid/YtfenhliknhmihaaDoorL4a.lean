import Derived.Test.YtfenhliknhmihaaDoorA13
namespace Go.Ab.F
open Go Go.Ab
set_option linter.all false

/-! ArenaApart: the plain law. -/
structure En where
  s : Int
  q : Nat
  c : Int
def En.ad (e : En) : Int := e.s * 64 + e.q * wordsOf e.c
structure Ap (a : PAr) (v : Int) (E : List En) : Prop where
  len : a.sp.length = 8
  wl : a.ws.length = 512
  ent : ∀ (j : Nat) e, E[j]? = some e → a.has e.s ∧ (a.at e.s).cls = e.c ∧ (e.q : Int) < placesOf e.c ∧ (a.at e.s).tk.getLsbD e.q = true
  wd : ∀ (j : Nat) e, E[j]? = some e → ∀ k : Int, 0 ≤ k → k < wordsOf e.c → a.ws[(e.ad + k).toNat]? = some (xr j v)
theorem ent_room {a : PAr} {v : Int} {E : List En} (H : Ap a v E) {j : Nat} {e : En} (he : E[j]? = some e) :
    0 ≤ e.c ∧ e.c ≤ 5 ∧ 2 ≤ wordsOf e.c ∧ 1 ≤ e.s ∧ e.s ≤ 7 ∧ e.s * 64 ≤ e.ad ∧ e.ad + wordsOf e.c ≤ e.s * 64 + 64 := by
  obtain ⟨h1, h2, h3, h4⟩ := H.ent j e he
  have hw := wp_cases e.c e.q (by omega) h3
  have := h1.1
  have h2' := h1.2
  rw [H.len] at h2'
  have hq0 : (0 : Int) ≤ e.q * wordsOf e.c := Int.mul_nonneg (by omega) (by omega)
  unfold En.ad
  exact ⟨by omega, by omega, by omega, by omega, by omega, by omega, by omega⟩
theorem Ap.setNo {a : PAr} {v : Int} {E : List En} (H : Ap a v E) (s c : Int) : Ap (a.set s c).2 v E := by
  unfold PAr.set
  by_cases h1 : ¬ a.has s ∨ wordsOf c = 0
  · rw [if_pos h1]; exact H
  · rw [if_neg h1]
    by_cases h2 : (a.at s).cls ≠ -1
    · rw [if_pos h2]; exact H
    · rw [if_neg h2]
      have hs : a.has s := Classical.not_not.1 fun h => h1 (.inl h)
      refine ⟨by show (a.setS s _).sp.length = 8; rw [a.setS_len]; exact H.len, H.wl, fun j e he => ?_, H.wd⟩
      obtain ⟨e1, e2, e3, e4⟩ := H.ent j e he
      have hne : e.s ≠ s := fun e' => by
        have := ent_room H he
        rw [e'] at e2
        omega
      show (a.setS s _).has e.s ∧ ((a.setS s _).at e.s).cls = e.c ∧ _ ∧ ((a.setS s _).at e.s).tk.getLsbD e.q = true
      rw [PAr.setS_ne _ hs e1 hne]
      exact ⟨(a.setS_has _ _ _).2 e1, e2, e3, e4⟩
/-- A place that is taken: written as far as k. -/
structure Nw (a : PAr) (v : Int) (E : List En) (e : En) (k : Nat) : Prop where
  ap : Ap a v E
  has : a.has e.s
  cls : (a.at e.s).cls = e.c
  pl : (e.q : Int) < placesOf e.c
  tk : (a.at e.s).tk.getLsbD e.q = true
  wr : ∀ i : Nat, i < k → a.ws[(e.ad + i).toNat]? = some (xr E.length v)
  no : ∀ i : Nat, k ≤ i → (i : Int) < wordsOf e.c → a.ws[(e.ad + i).toNat]? = some 0
  far : ∀ (j : Nat) f, E[j]? = some f → f.ad + wordsOf f.c ≤ e.ad ∨ e.ad + wordsOf e.c ≤ f.ad
theorem Nw.room {a : PAr} {v : Int} {E : List En} {e : En} {k : Nat} (H : Nw a v E e k) :
    0 ≤ e.c ∧ e.c ≤ 5 ∧ 2 ≤ wordsOf e.c ∧ wordsOf e.c ≤ 64 ∧ 1 ≤ e.s ∧ e.s ≤ 7 ∧ e.s * 64 ≤ e.ad ∧ e.ad + wordsOf e.c ≤ e.s * 64 + 64 := by
  have hw := wp_cases e.c e.q (by omega) H.pl
  have := H.has.1
  have h2' := H.has.2
  rw [H.ap.len] at h2'
  have hq0 : (0 : Int) ≤ e.q * wordsOf e.c := Int.mul_nonneg (by omega) (by omega)
  unfold En.ad
  exact ⟨by omega, by omega, by omega, by omega, by omega, by omega, by omega, by omega⟩
theorem clr_in {l : List Int} {o n i : Nat} (hl : o + n ≤ l.length) (h1 : o ≤ i) (h2 : i < o + n) : (clr l o n)[i]? = some 0 := by
  unfold clr
  rw [List.append_assoc, List.getElem?_append_right (by simp; omega), List.getElem?_append_left (by simp; omega), List.getElem?_replicate]
  simp only [List.length_take]
  rw [if_pos (by omega)]
theorem Ap.take {a : PAr} {v : Int} {E : List En} (H : Ap a v E) {s : Int} (hs : a.has s) (he : (a.take s).2.1 = 0) :
    ∃ e : En, e.s = s ∧ (a.take s).1 = e.ad ∧ Nw (a.take s).2.2 v E e 0 := by
  unfold PAr.take at he
  by_cases h1 : a.cls s = -1
  · rw [if_pos h1] at he; simp at he
  rw [if_neg h1] at he
  by_cases h2 : placesOf (a.at s).cls ≤ first0 (a.at s).tk
  · rw [if_pos h2] at he; simp at he
  have hpl : (first0 (a.at s).tk : Int) < placesOf (a.at s).cls := by omega
  obtain ⟨c0, c1, w2, w3, w4, w5⟩ := wp_cases (a.at s).cls (first0 (a.at s).tk) (by omega) hpl
  have hfree : (a.at s).tk.getLsbD (first0 (a.at s).tk) = false := by
    rcases first0_spec (a.at s).tk with ⟨h, _⟩ | ⟨_, h, _⟩
    · omega
    · exact h
  generalize hq : first0 (a.at s).tk = q at *
  generalize hc : (a.at s).cls = c at *
  have e0 : a.take s = (s * 64 + q * wordsOf c, 0, ⟨clr a.ws (s * 64 + q * wordsOf c).toNat (wordsOf c).toNat, (a.setS s ⟨c, (a.at s).tk ||| bitOf q, (a.at s).md &&& ~~~ bitOf q⟩).sp⟩) := by
    unfold PAr.take
    rw [if_neg h1, hq, hc, if_neg h2]
  have b1 := hs.1
  have b2 := hs.2
  rw [H.len] at b2
  have hq0 : (0 : Int) ≤ q * wordsOf c := Int.mul_nonneg (by omega) (by omega)
  have hwl := H.wl
  refine ⟨⟨s, q, c⟩, rfl, by rw [e0]; rfl, ?_⟩
  rw [e0]
  simp only
  generalize hb : (⟨clr a.ws (s * 64 + q * wordsOf c).toNat (wordsOf c).toNat, (a.setS s ⟨c, (a.at s).tk ||| bitOf q, (a.at s).md &&& ~~~ bitOf q⟩).sp⟩ : PAr) = b
  have bsp : b.sp = (a.setS s ⟨c, (a.at s).tk ||| bitOf q, (a.at s).md &&& ~~~ bitOf q⟩).sp := by rw [← hb]
  have bw : b.ws = clr a.ws (s * 64 + q * wordsOf c).toNat (wordsOf c).toNat := by rw [← hb]
  have bl : b.sp.length = 8 := by rw [bsp]; exact (a.setS_len s _).trans H.len
  have bat : ∀ n, b.at n = (a.setS s ⟨c, (a.at s).tk ||| bitOf q, (a.at s).md &&& ~~~ bitOf q⟩).at n := fun n => congrArg (fun l : List PSp => (l[n.toNat]?).getD ⟨-1, 0, 0⟩) bsp
  have bhas : ∀ n, b.has n ↔ a.has n := fun n => by unfold PAr.has; rw [bl, H.len]
  have bas : b.at s = ⟨c, (a.at s).tk ||| bitOf q, (a.at s).md &&& ~~~ bitOf q⟩ := by rw [bat]; exact PAr.setS_at _ hs
  have ban : ∀ n, a.has n → n ≠ s → b.at n = a.at n := fun n hn hne => by rw [bat]; exact PAr.setS_ne _ hs hn hne
  have far : ∀ (j : Nat) f, E[j]? = some f → f.ad + wordsOf f.c ≤ s * 64 + q * wordsOf c ∨ s * 64 + q * wordsOf c + wordsOf c ≤ f.ad := by
    intro j f hf
    have hr := ent_room H hf
    obtain ⟨f1, f2, f3, f4⟩ := H.ent j f hf
    by_cases hfs : f.s = s
    · have hfc : f.c = c := by rw [← f2, hfs, hc]
      have hne : f.q ≠ q := fun e => by rw [hfs, e, hfree] at f4; cases f4
      unfold En.ad
      rw [hfs, hfc]
      rcases Nat.lt_or_gt_of_ne hne with hlt | hgt
      · left
        have := Int.mul_le_mul_of_nonneg_right (show (f.q : Int) + 1 ≤ q by omega) (show 0 ≤ wordsOf c by omega)
        rw [Int.add_mul] at this; omega
      · right
        have := Int.mul_le_mul_of_nonneg_right (show (q : Int) + 1 ≤ f.q by omega) (show 0 ≤ wordsOf c by omega)
        rw [Int.add_mul] at this; omega
    · omega
  refine ⟨⟨bl, by rw [bw, clr_length (by omega)]; exact hwl, fun j f hf => ?_, fun j f hf k hk0 hk => ?_⟩, (bhas s).2 hs, by rw [bas], hpl, ?_, fun i hi => by omega, fun i _ hi => ?_, far⟩
  · obtain ⟨f1, f2, f3, f4⟩ := H.ent j f hf
    refine ⟨(bhas _).2 f1, ?_, f3, ?_⟩
    · by_cases hfs : f.s = s
      · rw [hfs, bas]; show c = f.c; rw [← f2, hfs, hc]
      · rw [ban _ f1 hfs]; exact f2
    · by_cases hfs : f.s = s
      · rw [hfs, bas]
        simp only [BitVec.getLsbD_or]
        rw [hfs] at f4
        rw [f4]; rfl
      · rw [ban _ f1 hfs]; exact f4
  · have hr := ent_room H hf
    have := far j f hf
    rw [bw, clr_get (by omega) (by omega)]
    exact H.wd j f hf k hk0 hk
  · rw [bas]
    simp only [BitVec.getLsbD_or, bit_get q q (by omega), decide_true, Bool.or_true]
  · rw [bw]
    unfold En.ad
    simp only at hi ⊢
    exact clr_in (by omega) (by omega) (by omega)
theorem Nw.word {a : PAr} {v : Int} {E : List En} {e : En} {k : Nat} (H : Nw a v E e k) {i : Int} (hi : 0 ≤ i ∧ i < wordsOf e.c) : a.word e.ad i = some (e.ad + i).toNat := by
  have h := word_at (a := a) (by rw [H.ap.len]; decide) H.has (q := e.q) (by rw [H.cls]; exact H.pl) H.tk (k := i) (by rw [H.cls]; exact hi)
  rw [H.cls] at h
  exact h
theorem Nw.read {a : PAr} {v : Int} {E : List En} {e : En} {k : Nat} (H : Nw a v E e k) (hk : (k : Int) < wordsOf e.c) : a.read e.ad k = (0, 0) := by
  rw [read_some (H.word ⟨by omega, hk⟩), H.no k (Nat.le_refl k) hk]; rfl
theorem Nw.write {a : PAr} {v : Int} {E : List En} {e : En} {k : Nat} (H : Nw a v E e k) (hk : (k : Int) < wordsOf e.c) :
    (a.write e.ad k (xr E.length v)).1 = 0 ∧ Nw (a.write e.ad k (xr E.length v)).2 v E e (k + 1) := by
  obtain ⟨r1, r2, r3, r4, r5, r6, r7, r8⟩ := H.room
  have hwl := H.ap.wl
  rw [write_some (H.word ⟨by omega, hk⟩)]
  refine ⟨rfl, ⟨⟨H.ap.len, by simp [hwl], H.ap.ent, fun j f hf i hi0 hi => ?_⟩, H.has, H.cls, H.pl, H.tk, fun i hi => ?_, fun i hi hi' => ?_, H.far⟩⟩
  · have hr := ent_room H.ap hf
    have := H.far j f hf
    show (a.ws.set _ _)[_]? = _
    rw [List.getElem?_set_ne (by omega)]
    exact H.ap.wd j f hf i hi0 hi
  · show (a.ws.set _ _)[_]? = _
    by_cases he : i = k
    · subst he; rw [List.getElem?_set_self (by omega)]
    · rw [List.getElem?_set_ne (by omega)]; exact H.wr i (by omega)
  · show (a.ws.set _ _)[_]? = _
    rw [List.getElem?_set_ne (by omega)]; exact H.no i (by omega) hi'
theorem Nw.done {a : PAr} {v : Int} {E : List En} {e : En} {k : Nat} (H : Nw a v E e k) (hk : wordsOf e.c ≤ k) : Ap a v (E ++ [e]) := by
  refine ⟨H.ap.len, H.ap.wl, fun j f hf => ?_, fun j f hf i hi0 hi => ?_⟩
  · rcases Nat.lt_trichotomy j E.length with h | h | h
    · rw [List.getElem?_append_left h] at hf; exact H.ap.ent j f hf
    · subst h; rw [List.getElem?_append_right (Nat.le_refl _)] at hf; simp at hf; subst hf
      exact ⟨H.has, H.cls, H.pl, H.tk⟩
    · rw [List.getElem?_eq_none (by simp; omega)] at hf; cases hf
  · rcases Nat.lt_trichotomy j E.length with h | h | h
    · rw [List.getElem?_append_left h] at hf; exact H.ap.wd j f hf i hi0 hi
    · subst h; rw [List.getElem?_append_right (Nat.le_refl _)] at hf; simp at hf; subst hf
      obtain ⟨n, rfl⟩ : ∃ n : Nat, i = n := ⟨i.toNat, by omega⟩
      exact H.wr n (by omega)
    · rw [List.getElem?_eq_none (by simp; omega)] at hf; cases hf
theorem Ap.read {a : PAr} {v : Int} {E : List En} (H : Ap a v E) {j : Nat} {e : En} (he : E[j]? = some e) {k : Int} (hk : 0 ≤ k ∧ k < wordsOf e.c) : a.read e.ad k = (xr j v, 0) := by
  obtain ⟨e1, e2, e3, e4⟩ := H.ent j e he
  have h := word_at (a := a) (by rw [H.len]; decide) e1 (q := e.q) (by rw [e2]; exact e3) e4 (k := k) (by rw [e2]; exact hk)
  rw [e2] at h
  have h : a.word e.ad k = some (e.ad + k).toNat := h
  rw [read_some h, H.wd j e he k hk.1 hk.2]; rfl
theorem apart_new (v : Int) : Ap (newA 8) v [] :=
  ⟨by show (List.replicate 8 _).length = 8; rw [List.length_replicate], by show (List.replicate (8 * 64) (0 : Int)).length = 512; rw [List.length_replicate], fun j e he => by simp at he, fun j e he => by simp at he⟩
end Go.Ab.F
