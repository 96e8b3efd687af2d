import Derived.Test.YtfenhliknhmihaaDoorArn
import Derived.Test.YtfenhliknhmihaaDoorAlc

namespace Go.Ab.F
open Go Go.Ab
set_option linter.all false

/-! ArenaApart: the plain law. -/
structure En where
  s : Int
  q : Nat
  c : Int
def En.ad (e : En) : Int := e.s * 64 + e.q * wordsOf e.c
structure Ap (a : PAr) (v : Int) (E : List En) : Prop where
  len : a.sp.length = 8
  wl : a.ws.length = 512
  ent : ∀ (j : Nat) e, E[j]? = some e → a.has e.s ∧ (a.at e.s).cls = e.c ∧ (e.q : Int) < placesOf e.c ∧ (a.at e.s).tk.getLsbD e.q = true
  wd : ∀ (j : Nat) e, E[j]? = some e → ∀ k : Int, 0 ≤ k → k < wordsOf e.c → a.ws[(e.ad + k).toNat]? = some (xr j v)
theorem ent_room {a : PAr} {v : Int} {E : List En} (H : Ap a v E) {j : Nat} {e : En} (he : E[j]? = some e) :
    0 ≤ e.c ∧ e.c ≤ 5 ∧ 2 ≤ wordsOf e.c ∧ 1 ≤ e.s ∧ e.s ≤ 7 ∧ e.s * 64 ≤ e.ad ∧ e.ad + wordsOf e.c ≤ e.s * 64 + 64 := by
  obtain ⟨h1, h2, h3, h4⟩ := H.ent j e he
  have hw := wp_cases e.c e.q (by omega) h3
  have := h1.1
  have h2' := h1.2
  rw [H.len] at h2'
  have hq0 : (0 : Int) ≤ e.q * wordsOf e.c := Int.mul_nonneg (by omega) (by omega)
  unfold En.ad
  exact ⟨by omega, by omega, by omega, by omega, by omega, by omega, by omega⟩
theorem Ap.setNo {a : PAr} {v : Int} {E : List En} (H : Ap a v E) (s c : Int) : Ap (a.set s c).2 v E := by
  unfold PAr.set
  by_cases h1 : ¬ a.has s ∨ wordsOf c = 0
  · rw [if_pos h1]; exact H
  · rw [if_neg h1]
    by_cases h2 : (a.at s).cls ≠ -1
    · rw [if_pos h2]; exact H
    · rw [if_neg h2]
      have hs : a.has s := Classical.not_not.1 fun h => h1 (.inl h)
      refine ⟨by show (a.setS s _).sp.length = 8; rw [a.setS_len]; exact H.len, H.wl, fun j e he => ?_, H.wd⟩
      obtain ⟨e1, e2, e3, e4⟩ := H.ent j e he
      have hne : e.s ≠ s := fun e' => by
        have := ent_room H he
        rw [e'] at e2
        omega
      show (a.setS s _).has e.s ∧ ((a.setS s _).at e.s).cls = e.c ∧ _ ∧ ((a.setS s _).at e.s).tk.getLsbD e.q = true
      rw [PAr.setS_ne _ hs e1 hne]
      exact ⟨(a.setS_has _ _ _).2 e1, e2, e3, e4⟩
/-- A place that is taken: written as far as k. -/
structure Nw (a : PAr) (v : Int) (E : List En) (e : En) (k : Nat) : Prop where
  ap : Ap a v E
  has : a.has e.s
  cls : (a.at e.s).cls = e.c
  pl : (e.q : Int) < placesOf e.c
  tk : (a.at e.s).tk.getLsbD e.q = true
  wr : ∀ i : Nat, i < k → a.ws[(e.ad + i).toNat]? = some (xr E.length v)
  no : ∀ i : Nat, k ≤ i → (i : Int) < wordsOf e.c → a.ws[(e.ad + i).toNat]? = some 0
  far : ∀ (j : Nat) f, E[j]? = some f → f.ad + wordsOf f.c ≤ e.ad ∨ e.ad + wordsOf e.c ≤ f.ad
theorem Nw.room {a : PAr} {v : Int} {E : List En} {e : En} {k : Nat} (H : Nw a v E e k) :
    0 ≤ e.c ∧ e.c ≤ 5 ∧ 2 ≤ wordsOf e.c ∧ wordsOf e.c ≤ 64 ∧ 1 ≤ e.s ∧ e.s ≤ 7 ∧ e.s * 64 ≤ e.ad ∧ e.ad + wordsOf e.c ≤ e.s * 64 + 64 := by
  have hw := wp_cases e.c e.q (by omega) H.pl
  have := H.has.1
  have h2' := H.has.2
  rw [H.ap.len] at h2'
  have hq0 : (0 : Int) ≤ e.q * wordsOf e.c := Int.mul_nonneg (by omega) (by omega)
  unfold En.ad
  exact ⟨by omega, by omega, by omega, by omega, by omega, by omega, by omega, by omega⟩
theorem clr_in {l : List Int} {o n i : Nat} (hl : o + n ≤ l.length) (h1 : o ≤ i) (h2 : i < o + n) : (clr l o n)[i]? = some 0 := by
  unfold clr
  rw [List.append_assoc, List.getElem?_append_right (by simp; omega), List.getElem?_append_left (by simp; omega), List.getElem?_replicate]
  simp only [List.length_take]
  rw [if_pos (by omega)]
theorem Ap.take {a : PAr} {v : Int} {E : List En} (H : Ap a v E) {s : Int} (hs : a.has s) (he : (a.take s).2.1 = 0) :
    ∃ e : En, e.s = s ∧ (a.take s).1 = e.ad ∧ Nw (a.take s).2.2 v E e 0 := by
  unfold PAr.take at he
  by_cases h1 : a.cls s = -1
  · rw [if_pos h1] at he; simp at he
  rw [if_neg h1] at he
  by_cases h2 : placesOf (a.at s).cls ≤ first0 (a.at s).tk
  · rw [if_pos h2] at he; simp at he
  have hpl : (first0 (a.at s).tk : Int) < placesOf (a.at s).cls := by omega
  obtain ⟨c0, c1, w2, w3, w4, w5⟩ := wp_cases (a.at s).cls (first0 (a.at s).tk) (by omega) hpl
  have hfree : (a.at s).tk.getLsbD (first0 (a.at s).tk) = false := by
    rcases first0_spec (a.at s).tk with ⟨h, _⟩ | ⟨_, h, _⟩
    · omega
    · exact h
  generalize hq : first0 (a.at s).tk = q at *
  generalize hc : (a.at s).cls = c at *
  have e0 : a.take s = (s * 64 + q * wordsOf c, 0, ⟨clr a.ws (s * 64 + q * wordsOf c).toNat (wordsOf c).toNat, (a.setS s ⟨c, (a.at s).tk ||| bitOf q, (a.at s).md &&& ~~~ bitOf q⟩).sp⟩) := by
    unfold PAr.take
    rw [if_neg h1, hq, hc, if_neg h2]
  have b1 := hs.1
  have b2 := hs.2
  rw [H.len] at b2
  have hq0 : (0 : Int) ≤ q * wordsOf c := Int.mul_nonneg (by omega) (by omega)
  have hwl := H.wl
  refine ⟨⟨s, q, c⟩, rfl, by rw [e0]; rfl, ?_⟩
  rw [e0]
  simp only
  generalize hb : (⟨clr a.ws (s * 64 + q * wordsOf c).toNat (wordsOf c).toNat, (a.setS s ⟨c, (a.at s).tk ||| bitOf q, (a.at s).md &&& ~~~ bitOf q⟩).sp⟩ : PAr) = b
  have bsp : b.sp = (a.setS s ⟨c, (a.at s).tk ||| bitOf q, (a.at s).md &&& ~~~ bitOf q⟩).sp := by rw [← hb]
  have bw : b.ws = clr a.ws (s * 64 + q * wordsOf c).toNat (wordsOf c).toNat := by rw [← hb]
  have bl : b.sp.length = 8 := by rw [bsp]; exact (a.setS_len s _).trans H.len
  have bat : ∀ n, b.at n = (a.setS s ⟨c, (a.at s).tk ||| bitOf q, (a.at s).md &&& ~~~ bitOf q⟩).at n := fun n => congrArg (fun l : List PSp => (l[n.toNat]?).getD ⟨-1, 0, 0⟩) bsp
  have bhas : ∀ n, b.has n ↔ a.has n := fun n => by unfold PAr.has; rw [bl, H.len]
  have bas : b.at s = ⟨c, (a.at s).tk ||| bitOf q, (a.at s).md &&& ~~~ bitOf q⟩ := by rw [bat]; exact PAr.setS_at _ hs
  have ban : ∀ n, a.has n → n ≠ s → b.at n = a.at n := fun n hn hne => by rw [bat]; exact PAr.setS_ne _ hs hn hne
  have far : ∀ (j : Nat) f, E[j]? = some f → f.ad + wordsOf f.c ≤ s * 64 + q * wordsOf c ∨ s * 64 + q * wordsOf c + wordsOf c ≤ f.ad := by
    intro j f hf
    have hr := ent_room H hf
    obtain ⟨f1, f2, f3, f4⟩ := H.ent j f hf
    by_cases hfs : f.s = s
    · have hfc : f.c = c := by rw [← f2, hfs, hc]
      have hne : f.q ≠ q := fun e => by rw [hfs, e, hfree] at f4; cases f4
      unfold En.ad
      rw [hfs, hfc]
      rcases Nat.lt_or_gt_of_ne hne with hlt | hgt
      · left
        have := Int.mul_le_mul_of_nonneg_right (show (f.q : Int) + 1 ≤ q by omega) (show 0 ≤ wordsOf c by omega)
        rw [Int.add_mul] at this; omega
      · right
        have := Int.mul_le_mul_of_nonneg_right (show (q : Int) + 1 ≤ f.q by omega) (show 0 ≤ wordsOf c by omega)
        rw [Int.add_mul] at this; omega
    · omega
  refine ⟨⟨bl, by rw [bw, clr_length (by omega)]; exact hwl, fun j f hf => ?_, fun j f hf k hk0 hk => ?_⟩, (bhas s).2 hs, by rw [bas], hpl, ?_, fun i hi => by omega, fun i _ hi => ?_, far⟩
  · obtain ⟨f1, f2, f3, f4⟩ := H.ent j f hf
    refine ⟨(bhas _).2 f1, ?_, f3, ?_⟩
    · by_cases hfs : f.s = s
      · rw [hfs, bas]; show c = f.c; rw [← f2, hfs, hc]
      · rw [ban _ f1 hfs]; exact f2
    · by_cases hfs : f.s = s
      · rw [hfs, bas]
        simp only [BitVec.getLsbD_or]
        rw [hfs] at f4
        rw [f4]; rfl
      · rw [ban _ f1 hfs]; exact f4
  · have hr := ent_room H hf
    have := far j f hf
    rw [bw, clr_get (by omega) (by omega)]
    exact H.wd j f hf k hk0 hk
  · rw [bas]
    simp only [BitVec.getLsbD_or, bit_get q q (by omega), decide_true, Bool.or_true]
  · rw [bw]
    unfold En.ad
    simp only at hi ⊢
    exact clr_in (by omega) (by omega) (by omega)
theorem Nw.word {a : PAr} {v : Int} {E : List En} {e : En} {k : Nat} (H : Nw a v E e k) {i : Int} (hi : 0 ≤ i ∧ i < wordsOf e.c) : a.word e.ad i = some (e.ad + i).toNat := by
  have h := word_at (a := a) (by rw [H.ap.len]; decide) H.has (q := e.q) (by rw [H.cls]; exact H.pl) H.tk (k := i) (by rw [H.cls]; exact hi)
  rw [H.cls] at h
  exact h
theorem Nw.read {a : PAr} {v : Int} {E : List En} {e : En} {k : Nat} (H : Nw a v E e k) (hk : (k : Int) < wordsOf e.c) : a.read e.ad k = (0, 0) := by
  rw [read_some (H.word ⟨by omega, hk⟩), H.no k (Nat.le_refl k) hk]; rfl
theorem Nw.write {a : PAr} {v : Int} {E : List En} {e : En} {k : Nat} (H : Nw a v E e k) (hk : (k : Int) < wordsOf e.c) :
    (a.write e.ad k (xr E.length v)).1 = 0 ∧ Nw (a.write e.ad k (xr E.length v)).2 v E e (k + 1) := by
  obtain ⟨r1, r2, r3, r4, r5, r6, r7, r8⟩ := H.room
  have hwl := H.ap.wl
  rw [write_some (H.word ⟨by omega, hk⟩)]
  refine ⟨rfl, ⟨⟨H.ap.len, by simp [hwl], H.ap.ent, fun j f hf i hi0 hi => ?_⟩, H.has, H.cls, H.pl, H.tk, fun i hi => ?_, fun i hi hi' => ?_, H.far⟩⟩
  · have hr := ent_room H.ap hf
    have := H.far j f hf
    show (a.ws.set _ _)[_]? = _
    rw [List.getElem?_set_ne (by omega)]
    exact H.ap.wd j f hf i hi0 hi
  · show (a.ws.set _ _)[_]? = _
    by_cases he : i = k
    · subst he; rw [List.getElem?_set_self (by omega)]
    · rw [List.getElem?_set_ne (by omega)]; exact H.wr i (by omega)
  · show (a.ws.set _ _)[_]? = _
    rw [List.getElem?_set_ne (by omega)]; exact H.no i (by omega) hi'
theorem Nw.done {a : PAr} {v : Int} {E : List En} {e : En} {k : Nat} (H : Nw a v E e k) (hk : wordsOf e.c ≤ k) : Ap a v (E ++ [e]) := by
  refine ⟨H.ap.len, H.ap.wl, fun j f hf => ?_, fun j f hf i hi0 hi => ?_⟩
  · rcases Nat.lt_trichotomy j E.length with h | h | h
    · rw [List.getElem?_append_left h] at hf; exact H.ap.ent j f hf
    · subst h; rw [List.getElem?_append_right (Nat.le_refl _)] at hf; simp at hf; subst hf
      exact ⟨H.has, H.cls, H.pl, H.tk⟩
    · rw [List.getElem?_eq_none (by simp; omega)] at hf; cases hf
  · rcases Nat.lt_trichotomy j E.length with h | h | h
    · rw [List.getElem?_append_left h] at hf; exact H.ap.wd j f hf i hi0 hi
    · subst h; rw [List.getElem?_append_right (Nat.le_refl _)] at hf; simp at hf; subst hf
      obtain ⟨n, rfl⟩ : ∃ n : Nat, i = n := ⟨i.toNat, by omega⟩
      exact H.wr n (by omega)
    · rw [List.getElem?_eq_none (by simp; omega)] at hf; cases hf
theorem Ap.read {a : PAr} {v : Int} {E : List En} (H : Ap a v E) {j : Nat} {e : En} (he : E[j]? = some e) {k : Int} (hk : 0 ≤ k ∧ k < wordsOf e.c) : a.read e.ad k = (xr j v, 0) := by
  obtain ⟨e1, e2, e3, e4⟩ := H.ent j e he
  have h := word_at (a := a) (by rw [H.len]; decide) e1 (q := e.q) (by rw [e2]; exact e3) e4 (k := k) (by rw [e2]; exact hk)
  rw [e2] at h
  have h : a.word e.ad k = some (e.ad + k).toNat := h
  rw [read_some h, H.wd j e he k hk.1 hk.2]; rfl
theorem apart_new (v : Int) : Ap (newA 8) v [] :=
  ⟨by show (List.replicate 8 _).length = 8; rw [List.length_replicate], by show (List.replicate (8 * 64) (0 : Int)).length = 512; rw [List.length_replicate], fun j e he => by simp at he, fun j e he => by simp at he⟩
end Go.Ab.F

namespace Go.Ab.F
open Go Go.Ab
set_option linter.all false
attribute [local congr] c_bind c_cl c_mk c_lp c_clC c_gQ c_gV c_condE c_thenK

/-! AllocKeeps: the plain law. -/
def Placed (a : PAr) (e : En) : Prop := a.has e.s ∧ (a.at e.s).cls = e.c ∧ (e.q : Int) < placesOf e.c ∧ (a.at e.s).tk.getLsbD e.q = true
theorem placed_room {a : PAr} {e : En} {N : Nat} (hl : a.sp.length = N) (h : Placed a e) : 0 ≤ e.c ∧ e.c ≤ 5 ∧ 2 ≤ wordsOf e.c ∧ e.q < 32 ∧ 1 ≤ e.s ∧ e.s < N ∧ e.s * 64 ≤ e.ad ∧ e.ad + wordsOf e.c ≤ e.s * 64 + 64 := by
  obtain ⟨h1, h2, h3, h4⟩ := h
  have hw := wp_cases e.c e.q (by omega) h3
  have := h1.1
  have h2' := h1.2
  rw [hl] at h2'
  have hq0 : (0 : Int) ≤ e.q * wordsOf e.c := Int.mul_nonneg (by omega) (by omega)
  unfold En.ad
  exact ⟨by omega, by omega, by omega, by omega, by omega, by omega, by omega, by omega⟩
structure Kp (a : PAr) (N : Nat) (K : List En) : Prop where
  len : a.sp.length = N
  wl : a.ws.length = N * 64
  hN : N ≤ 512
  ent : ∀ e, e ∈ K → Placed a e ∧ (a.at e.s).md.getLsbD e.q = true ∧ a.ws[e.ad.toNat]? = some (1000 + e.ad)
theorem kp_sweep {a : PAr} {N : Nat} {K : List En} (H : Kp a N K) (n : Int) : Kp (a.sweep n).2 N K := by
  unfold PAr.sweep
  by_cases h1 : a.cls n = -1
  · rw [if_pos h1]; exact H
  rw [if_neg h1]
  obtain ⟨hn, hcl⟩ := cls_has h1
  refine ⟨(a.setS_len n _).trans H.len, H.wl, H.hN, fun e he => ?_⟩
  obtain ⟨⟨e1, e2, e3, e4⟩, e5, e6⟩ := H.ent e he
  by_cases hs : e.s = n
  · subst hs
    have hne : ¬ (a.at e.s).tk &&& (a.at e.s).md = 0 := fun h => by
      have : ((a.at e.s).tk &&& (a.at e.s).md).getLsbD e.q = true := by rw [BitVec.getLsbD_and, e4, e5]; rfl
      rw [h] at this; simp at this
    show Placed (a.setS e.s _) e ∧ ((a.setS e.s _).at e.s).md.getLsbD e.q = true ∧ _
    unfold Placed
    rw [if_neg hne, PAr.setS_at _ hn]
    exact ⟨⟨(a.setS_has _ _ _).2 e1, e2, e3, by show ((a.at e.s).tk &&& (a.at e.s).md).getLsbD e.q = true; rw [BitVec.getLsbD_and, e4, e5]; rfl⟩, e5, e6⟩
  · show Placed (a.setS n _) e ∧ ((a.setS n _).at e.s).md.getLsbD e.q = true ∧ _
    unfold Placed
    rw [PAr.setS_ne _ hn e1 hs]
    exact ⟨⟨(a.setS_has _ _ _).2 e1, e2, e3, e4⟩, e5, e6⟩
theorem kp_set {a : PAr} {N : Nat} {K : List En} (H : Kp a N K) (n c : Int) : Kp (a.set n c).2 N K := by
  unfold PAr.set
  by_cases h1 : ¬ a.has n ∨ wordsOf c = 0
  · rw [if_pos h1]; exact H
  rw [if_neg h1]
  by_cases h2 : (a.at n).cls ≠ -1
  · rw [if_pos h2]; exact H
  rw [if_neg h2]
  have hn : a.has n := Classical.not_not.1 fun h => h1 (.inl h)
  refine ⟨(a.setS_len n _).trans H.len, H.wl, H.hN, fun e he => ?_⟩
  obtain ⟨hp, e5, e6⟩ := H.ent e he
  have hr := placed_room H.len hp
  obtain ⟨e1, e2, e3, e4⟩ := hp
  have hs : e.s ≠ n := fun h => by rw [h] at e2; omega
  show Placed (a.setS n _) e ∧ ((a.setS n _).at e.s).md.getLsbD e.q = true ∧ _
  unfold Placed
  rw [PAr.setS_ne _ hn e1 hs]
  exact ⟨⟨(a.setS_has _ _ _).2 e1, e2, e3, e4⟩, e5, e6⟩
/-- A place that is taken anew keeps what is kept, and is another one. -/
theorem kp_take {a : PAr} {N : Nat} {K : List En} (H : Kp a N K) (n : Int) :
    Kp (a.take n).2.2 N K ∧ ((a.take n).2.1 = 0 → ∃ e : En, (a.take n).1 = e.ad ∧ Placed (a.take n).2.2 e ∧ ∀ f, f ∈ K → f.ad ≠ e.ad) := by
  unfold PAr.take
  by_cases h1 : a.cls n = -1
  · rw [if_pos h1]; exact ⟨H, fun h => by simp at h⟩
  rw [if_neg h1]
  by_cases h2 : placesOf (a.at n).cls ≤ first0 (a.at n).tk
  · rw [if_pos h2]; exact ⟨H, fun h => by simp at h⟩
  rw [if_neg h2]
  obtain ⟨hn, hcl⟩ := cls_has h1
  have hpl : (first0 (a.at n).tk : Int) < placesOf (a.at n).cls := by omega
  have hwp := wp_cases (a.at n).cls (first0 (a.at n).tk) (by omega) hpl
  have hfree : (a.at n).tk.getLsbD (first0 (a.at n).tk) = false := by
    rcases first0_spec (a.at n).tk with ⟨h, _⟩ | ⟨_, h, _⟩
    · omega
    · exact h
  generalize hq : first0 (a.at n).tk = q at *
  generalize hc : (a.at n).cls = c at *
  have b1 := hn.1
  have b2 := hn.2
  rw [H.len] at b2
  have hN := H.hN
  have hwl := H.wl
  have hq0 : (0 : Int) ≤ q * wordsOf c := Int.mul_nonneg (by omega) (by omega)
  have hat := PAr.setS_at ⟨c, (a.at n).tk ||| bitOf q, (a.at n).md &&& ~~~ bitOf q⟩ hn
  have hne : ∀ m, a.has m → m ≠ n → (a.setS n ⟨c, (a.at n).tk ||| bitOf q, (a.at n).md &&& ~~~ bitOf q⟩).at m = a.at m := fun m hm h => PAr.setS_ne _ hn hm h
  have hhas := a.setS_has n
  have hslen := a.setS_len n ⟨c, (a.at n).tk ||| bitOf q, (a.at n).md &&& ~~~ bitOf q⟩
  simp only
  generalize hb : (⟨clr a.ws (n * 64 + q * wordsOf c).toNat (wordsOf c).toNat, (a.setS n ⟨c, (a.at n).tk ||| bitOf q, (a.at n).md &&& ~~~ bitOf q⟩).sp⟩ : PAr) = b
  have bsp : b.sp = (a.setS n ⟨c, (a.at n).tk ||| bitOf q, (a.at n).md &&& ~~~ bitOf q⟩).sp := by rw [← hb]
  have bw : b.ws = clr a.ws (n * 64 + q * wordsOf c).toNat (wordsOf c).toNat := by rw [← hb]
  have bat : ∀ m, b.at m = (a.setS n ⟨c, (a.at n).tk ||| bitOf q, (a.at n).md &&& ~~~ bitOf q⟩).at m := fun m => congrArg (fun l : List PSp => (l[m.toNat]?).getD ⟨-1, 0, 0⟩) bsp
  have bl : b.sp.length = N := by rw [bsp]; exact hslen.trans H.len
  have bhas : ∀ m, b.has m ↔ a.has m := fun m => by unfold PAr.has; rw [bl, H.len]
  have far : ∀ f, f ∈ K → f.ad + wordsOf f.c ≤ n * 64 + q * wordsOf c ∨ n * 64 + q * wordsOf c + wordsOf c ≤ f.ad := by
    intro f hf
    obtain ⟨hp, f5, f6⟩ := H.ent f hf
    have hr := placed_room H.len hp
    obtain ⟨f1, f2, f3, f4⟩ := hp
    by_cases hfs : f.s = n
    · have hfc : f.c = c := by rw [← f2, hfs, hc]
      have hneq : f.q ≠ q := fun e => by rw [hfs, e, hfree] at f4; cases f4
      unfold En.ad
      rw [hfs, hfc]
      rcases Nat.lt_or_gt_of_ne hneq with hlt | hgt
      · left
        have := Int.mul_le_mul_of_nonneg_right (show (f.q : Int) + 1 ≤ q by omega) (show 0 ≤ wordsOf c by omega)
        rw [Int.add_mul] at this; omega
      · right
        have := Int.mul_le_mul_of_nonneg_right (show (q : Int) + 1 ≤ f.q by omega) (show 0 ≤ wordsOf c by omega)
        rw [Int.add_mul] at this; omega
    · omega
  refine ⟨⟨bl, by rw [bw, clr_length (by omega)]; exact hwl, hN, fun f hf => ?_⟩, fun _ => ⟨⟨n, q, c⟩, rfl, ⟨(bhas n).2 hn, by rw [bat, hat], hpl, ?_⟩, fun f hf => ?_⟩⟩
  · obtain ⟨hp, f5, f6⟩ := H.ent f hf
    have hr := placed_room H.len hp
    have hfar := far f hf
    obtain ⟨f1, f2, f3, f4⟩ := hp
    have hws : b.ws[f.ad.toNat]? = some (1000 + f.ad) := by rw [bw, clr_get (by omega) (by omega)]; exact f6
    by_cases hfs : f.s = n
    · have hneq : ¬ f.q = q := fun e => by rw [hfs, e, hfree] at f4; cases f4
      unfold Placed
      rw [bat, hfs, hat]
      refine ⟨⟨(bhas n).2 hn, by show c = f.c; rw [← f2, hfs, hc], f3, ?_⟩, ?_, hws⟩
      · show ((a.at n).tk ||| bitOf q).getLsbD f.q = true
        rw [BitVec.getLsbD_or]
        rw [hfs] at f4; rw [f4]; rfl
      · show ((a.at n).md &&& ~~~ bitOf q).getLsbD f.q = true
        rw [BitVec.getLsbD_and, BitVec.getLsbD_not, bit_get q f.q (by omega)]
        rw [hfs] at f5; rw [f5]
        have : f.q < 64 := by omega
        simp [hneq, this]
    · unfold Placed
      rw [bat, hne f.s f1 hfs]
      exact ⟨⟨(bhas _).2 f1, f2, f3, f4⟩, f5, hws⟩
  · rw [bat, hat]
    show ((a.at n).tk ||| bitOf q).getLsbD q = true
    rw [BitVec.getLsbD_or, bit_get q q (by omega)]; simp
  · have hr := placed_room H.len (H.ent f hf).1
    have hfar := far f hf
    show f.ad ≠ n * 64 + q * wordsOf c
    omega
/-- What a taking of the allocator keeps. -/
def Keeps (N : Nat) (K : List En) (r : Option (Int × Int) × PAl) : Prop :=
  Kp r.2.ar N K ∧ ∀ x, r.1 = some x → x.2 = 0 → ∃ e : En, x.1 = e.ad ∧ Placed r.2.ar e ∧ ∀ f, f ∈ K → f.ad ≠ e.ad
section
variable {N : Nat} {K : List En}
theorem kp_at1 {l : PAl} (H : Kp l.ar N K) (c : Int) (n : Nat) : Kp (l.at1 c n).ar N K := by
  unfold PAl.at1; split
  · exact kp_sweep H n
  · exact H
theorem kp_begin {l : PAl} (H : Kp l.ar N K) (c : Int) (n : Nat) : Keeps N K (some (l.beginU n c).1, (l.beginU n c).2) := by
  have h := kp_take (kp_set H n c) n
  exact ⟨h.1, fun x hx h0 => by cases hx; exact h.2 h0⟩
theorem kp_scan1 (c : Int) : ∀ (k n : Nat) (l : PAl), Kp l.ar N K → Keeps N K (PAl.scan1 c k n l)
  | 0, n, l, H => ⟨H, fun x hx => by cases hx⟩
  | k + 1, n, l, H => by
    rw [PAl.scan1]
    split
    · exact kp_scan1 c k (n + 1) l H
    · split
      · have h := kp_take (kp_at1 H c n) n
        exact ⟨h.1, fun x hx h0 => by cases hx; exact h.2 h0⟩
      · exact kp_scan1 c k (n + 1) _ (kp_at1 H c n)
theorem kp_scan2 (c : Int) : ∀ (k n : Nat) (l : PAl), Kp l.ar N K → Keeps N K (PAl.scan2 c k n l)
  | 0, n, l, H => ⟨H, fun x hx => by cases hx⟩
  | k + 1, n, l, H => by
    rw [PAl.scan2]
    split
    · exact kp_begin H c n
    · exact kp_scan2 c k (n + 1) l H
theorem kp_scan3 (c : Int) : ∀ (k n : Nat) (l : PAl), Kp l.ar N K → Keeps N K (PAl.scan3 c k n l)
  | 0, n, l, H => ⟨H, fun x hx => by cases hx⟩
  | k + 1, n, l, H => by
    rw [PAl.scan3]
    split
    · split
      · exact kp_begin (l := l.sweepU n) (kp_sweep H n) c n
      · exact kp_scan3 c k (n + 1) _ (kp_sweep H n)
    · exact kp_scan3 c k (n + 1) l H
theorem kp_atake {l : PAl} (H : Kp l.ar N K) (n : Int) : Kp (l.take n).2.ar N K ∧ ((l.take n).1.2 = 0 → ∃ e : En, (l.take n).1.1 = e.ad ∧ Placed (l.take n).2.ar e ∧ ∀ f, f ∈ K → f.ad ≠ e.ad) := by
  unfold PAl.take
  by_cases h1 : classOf n = -1
  · rw [if_pos h1]; exact ⟨H, fun h => by simp at h⟩
  rw [if_neg h1]
  generalize classOf n = c
  have k1 := kp_scan1 c l.un.length 0 l H
  generalize PAl.scan1 c l.un.length 0 l = x1 at *
  obtain ⟨r1, l1⟩ := x1
  cases r1 with
  | some a => exact ⟨k1.1, fun h => k1.2 a rfl h⟩
  | none =>
    simp only
    unfold PAl.more
    have k2 := kp_scan2 c (l1.un.length - 1) 1 l1 k1.1
    generalize PAl.scan2 c (l1.un.length - 1) 1 l1 = x2 at *
    obtain ⟨r2, l2⟩ := x2
    cases r2 with
    | some a => exact ⟨k2.1, fun h => k2.2 a rfl h⟩
    | none =>
      simp only
      unfold PAl.more2
      have k3 := kp_scan3 c l2.un.length 0 l2 k2.1
      generalize PAl.scan3 c l2.un.length 0 l2 = x3 at *
      obtain ⟨r3, l3⟩ := x3
      cases r3 with
      | some a => exact ⟨k3.1, fun h => k3.2 a rfl h⟩
      | none => exact ⟨k3.1, fun h => by simp at h⟩
end
theorem placed_find {a : PAr} {e : En} {N : Nat} (hl : a.sp.length = N) (hN : N ≤ 512) (h : Placed a e) : a.find e.ad = some (e.s, e.q) := by
  obtain ⟨h1, h2, h3, h4⟩ := h
  have := find_at (a := a) (by omega) h1 (q := e.q) (by rw [h2]; exact h3)
  rw [h2, h4] at this
  exact this
theorem placed_word {a : PAr} {e : En} {N : Nat} (hl : a.sp.length = N) (hN : N ≤ 512) (h : Placed a e) : a.word e.ad 0 = some e.ad.toNat := by
  have hr := placed_room hl h
  unfold PAr.word
  rw [placed_find hl hN h]
  simp only
  rw [h.2.1, if_pos ⟨by omega, by omega⟩, Int.add_zero]
/-- One more is marked, and written: it is kept. -/
theorem kp_more {a : PAr} {N : Nat} {K : List En} {e : En} (H : Kp a N K) (he : Placed a e) (hK : ∀ f, f ∈ K → f.ad ≠ e.ad) :
    Kp ((a.mark e.ad).2.write e.ad 0 (1000 + e.ad)).2 N (K ++ [e]) := by
  have hN := H.hN
  have hr := placed_room H.len he
  have hm : ∃ m, (a.mark e.ad).2.sp = (a.setS e.s m).sp ∧ m.cls = e.c ∧ m.tk = (a.at e.s).tk ∧ m.md.getLsbD e.q = true ∧ (∀ j, j < 64 → (a.at e.s).md.getLsbD j = true → m.md.getLsbD j = true) := by
    unfold PAr.mark
    rw [placed_find H.len hN he]
    simp only
    cases hmd : (a.at e.s).md.getLsbD e.q with
    | true =>
      refine ⟨a.at e.s, ?_, he.2.1, rfl, hmd, fun j _ h => h⟩
      show a.sp = a.sp.set e.s.toNat (a.at e.s)
      have := PAr.at_some he.1
      apply List.ext_getElem?
      intro i
      by_cases hi : e.s.toNat = i
      · subst hi; rw [this, List.getElem?_set_self (PAr.has_lt he.1)]
      · rw [List.getElem?_set_ne hi]
    | false =>
      refine ⟨⟨(a.at e.s).cls, (a.at e.s).tk, (a.at e.s).md ||| bitOf e.q⟩, rfl, he.2.1, rfl, ?_, fun j hj h => ?_⟩
      · show ((a.at e.s).md ||| bitOf e.q).getLsbD e.q = true
        rw [BitVec.getLsbD_or, bit_get _ _ (by omega)]; simp
      · show ((a.at e.s).md ||| bitOf e.q).getLsbD j = true
        rw [BitVec.getLsbD_or, h]; rfl
  have hws : (a.mark e.ad).2.ws = a.ws := by
    unfold PAr.mark
    rw [placed_find H.len hN he]
    simp only
    split <;> rfl
  obtain ⟨m, m1, m2, m3, m4, m5⟩ := hm
  generalize (a.mark e.ad).2 = b at *
  have bl : b.sp.length = N := by rw [m1]; exact (a.setS_len _ _).trans H.len
  have bat : ∀ n, b.at n = (a.setS e.s m).at n := fun n => congrArg (fun l : List PSp => (l[n.toNat]?).getD ⟨-1, 0, 0⟩) m1
  have bhas : ∀ n, b.has n ↔ a.has n := fun n => by unfold PAr.has; rw [bl, H.len]
  have bes : b.at e.s = m := by rw [bat]; exact PAr.setS_at _ he.1
  have hpb : Placed b e := ⟨(bhas _).2 he.1, by rw [bes]; exact m2, he.2.2.1, by rw [bes, m3]; exact he.2.2.2⟩
  rw [write_some (placed_word bl hN hpb)]
  have hwl := H.wl
  refine ⟨bl, by simp [hws, H.wl], hN, fun f hf => ?_⟩
  rw [List.mem_append, List.mem_singleton] at hf
  rcases hf with hf | rfl
  · obtain ⟨hp, f5, f6⟩ := H.ent f hf
    have hrf := placed_room H.len hp
    obtain ⟨f1, f2, f3, f4⟩ := hp
    have hw : (b.ws.set e.ad.toNat (1000 + e.ad))[f.ad.toNat]? = some (1000 + f.ad) := by
      have := hK f hf
      rw [List.getElem?_set_ne (by omega), hws]; exact f6
    by_cases hfs : f.s = e.s
    · refine ⟨⟨(bhas _).2 f1, ?_, f3, ?_⟩, ?_, hw⟩
      · show (b.at f.s).cls = f.c
        rw [hfs, bes, m2, ← he.2.1, ← hfs, f2]
      · show (b.at f.s).tk.getLsbD f.q = true
        rw [hfs, bes, m3, ← hfs]; exact f4
      · show (b.at f.s).md.getLsbD f.q = true
        rw [hfs, bes]; exact m5 _ (by omega) (by rw [← hfs]; exact f5)
    · have hb : b.at f.s = a.at f.s := by rw [bat]; exact PAr.setS_ne _ he.1 f1 hfs
      refine ⟨⟨(bhas _).2 f1, ?_, f3, ?_⟩, ?_, hw⟩
      · show (b.at f.s).cls = f.c
        rw [hb]; exact f2
      · show (b.at f.s).tk.getLsbD f.q = true
        rw [hb]; exact f4
      · show (b.at f.s).md.getLsbD f.q = true
        rw [hb]; exact f5
  · refine ⟨hpb, ?_, ?_⟩
    · show (b.at f.s).md.getLsbD f.q = true
      rw [bes]; exact m4
    · show (b.ws.set _ _)[_]? = _
      rw [List.getElem?_set_self (by rw [hws]; omega)]
theorem kp_read {a : PAr} {N : Nat} {K : List En} (H : Kp a N K) {e : En} (he : e ∈ K) : a.read e.ad 0 = (1000 + e.ad, 0) := by
  obtain ⟨hp, _, h6⟩ := H.ent e he
  rw [read_some (placed_word H.len H.hN hp), h6]; rfl
/-! Sweeping on. -/
theorem one_some {l : PAl} : ∀ {k n m : Nat}, l.one k n = some m → n ≤ m ∧ m < n + k ∧ (l.un[m]?).getD false = true
  | 0, n, m, h => by simp [PAl.one] at h
  | k + 1, n, m, h => by
    rw [PAl.one] at h
    split at h
    · rename_i hb; cases h; exact ⟨Nat.le_refl _, by omega, hb⟩
    · have := one_some h; exact ⟨by omega, by omega, this.2.2⟩
theorem one_none {l : PAl} : ∀ {k n : Nat}, l.one k n = none → ∀ m, n ≤ m → m < n + k → (l.un[m]?).getD false = false
  | 0, n, _, m, h1, h2 => by omega
  | k + 1, n, h, m, h1, h2 => by
    rw [PAl.one] at h
    split at h
    · cases h
    · rename_i hb
      by_cases e : m = n
      · subst e; simpa using hb
      · exact one_none h m (by omega) (by omega)
theorem left_less {l : PAl} {m : Nat} (hm : m < l.un.length) (hb : (l.un[m]?).getD false = true) : (l.sweepU m).left + 1 = l.left := by
  have hl := (sweepL_len l m).1
  unfold PAl.left
  rw [hl]
  have e : ∀ i, i < l.un.length → (fun i => (l.un[i]?).getD false) i = ((fun i => ((l.sweepU m).un[i]?).getD false) i || decide (i = m)) := by
    intro i hi
    show (l.un[i]?).getD false = (((l.un.set m false)[i]?).getD false || decide (i = m))
    by_cases h : i = m
    · subst h; simp [hb]
    · rw [List.getElem?_set_ne (fun e => h e.symm)]; simp [h]
  rw [cnt_congr e]
  have hf : ((l.sweepU m).un[m]?).getD false = false := by
    show ((l.un.set m false)[m]?).getD false = false
    rw [List.getElem?_set_self hm]; rfl
  have key : ∀ (f : Nat → Bool) (q : Nat), f q = false → ∀ n, q < n → cnt (fun j => f j || decide (j = q)) n = cnt f n + 1 := by
    intro f q hf n
    induction n with
    | zero => intro h; omega
    | succ n ih =>
      intro h
      rw [cnt, cnt]
      by_cases e : q = n
      · subst e
        have : cnt (fun j => f j || decide (j = q)) q = cnt f q := cnt_congr fun j hj => by
          have : ¬ j = q := by omega
          simp [this]
        rw [this, hf]; simp
      · rw [ih (by omega)]
        have : ¬ n = q := fun h => e h.symm
        simp [this]; omega
  exact (key _ m hf _ hm).symm
end Go.Ab.F

namespace Go.Ab.F
open Go Go.Ab
set_option linter.all false
attribute [local congr] c_bind c_cl c_mk c_lp c_clC c_gQ c_gV c_condE c_thenK

theorem rd_bools {h : Heap} {x : D} {vs : List AV} (H : Rep h (.sl .bool) x vs) : ∃ l : List Bool, RdC h 1 (argAV (.sl .bool) vs) (l.map .bool) l.length := by
  cases x <;> simp only [Rep] at H
  rename_i xs
  rcases H with ⟨rfl, rfl⟩ | ⟨i, c, us, rfl, h1, h2, h3, h4, h5⟩
  · exact ⟨[], ⟨rfl, .inl ⟨rfl, rfl⟩⟩⟩
  · have hs : Ty.size .bool = 1 := rfl
    rw [hs, Nat.mul_one] at h3
    have each : ∀ j, j < xs.length → ∃ n, us[j]? = some (.bool n) := fun j hj => by
      have := h5 j xs[j] (List.getElem?_eq_getElem hj)
      rw [hs, Nat.mul_one] at this
      generalize xs[j] = y at this
      cases y <;> simp only [Rep] at this
      rename_i n
      refine ⟨n, ?_⟩
      have e := congrArg (fun l => l[0]?) this
      simpa [List.getElem?_take] using e
    have hl : ∃ l : List Bool, us = l.map .bool := by
      clear h2 h4 h5 h1
      rw [← h3] at each
      clear h3
      induction us with
      | nil => exact ⟨[], rfl⟩
      | cons u us ih =>
        obtain ⟨n, hn⟩ := each 0 (by simp)
        simp at hn; subst hn
        obtain ⟨l, rfl⟩ := ih fun j hj => by
          obtain ⟨n, hn⟩ := each (j + 1) (by simpa using hj)
          exact ⟨n, by simpa using hn⟩
        exact ⟨n :: l, rfl⟩
    obtain ⟨l, rfl⟩ := hl
    have hlen : l.length = xs.length := by simpa using h3
    exact ⟨l, ⟨by simp, .inr ⟨i, c, by rw [hlen]; rfl, h1, fun hne => h2 fun e => hne (by rw [hlen, e]; rfl)⟩⟩⟩
theorem Ads_at {K : List En} {k : Nat} {e : En} (he : K[k]? = some e) : (wsC (K.map En.ad))[k]? = some (.int .i64 e.ad) := by simp [wsC, he]
section
variable {q u p w s : Nat}
/-- The first loop: places are taken, some are kept. -/
theorem keeps_L0 {h g : Heap} {x1 x2 : AV} {l : List Int} {bs : List Bool} {a : PAl} {B N : Nat} (hx : RdC h 1 x1 (l.map fun n => .int .i64 n) l.length) (hy : RdC h 1 x2 (bs.map .bool) bs.length) (hN : l.length ≤ 60)
    (hq : q < B) (hu : u < B) (hp : p < B) (hw : w < B) (hs : s < B) (hq' : h.next ≤ q) (hu' : h.next ≤ u) (hp' : h.next ≤ p) (hw' : h.next ≤ w) (hs' : h.next ≤ s) (h0 : 0 < h.next) (hB : B ≤ g.next)
    (H : AlAt g q u p w s a) (hA : Kp a.ar N []) (ht : Tab0 g) (hS : Same [] h g) :
    Ok (k_law5_AllocKeeps_L0 x1 x2 (.ptr (some (q, 0))) (.ptr (some (p, 0))) (.sl none 0 (.ex 0)) (.int .i64 0) g) fun r => r.1 = .exit 0 ∧ ∃ v b K a', r.2.1 = [v, .int .i64 l.length] ∧ K.length ≤ 60 ∧ SlB r.2.2 b 1 v (wsC (K.map En.ad)) K.length ∧ (∀ j, b = some j → B ≤ j) ∧ AlAt r.2.2 q u p w s a' ∧ Kp a'.ar N K ∧ Tab0 r.2.2 ∧ Same [] h r.2.2 := by
  refine ok_loop (fun m vs g => ∃ (i : Nat) (v : AV) (b : Option Nat) (K : List En) (a' : PAl), vs = [v, .int .i64 i] ∧ m + i = l.length ∧ K.length ≤ i ∧ SlB g b 1 v (wsC (K.map En.ad)) K.length ∧ (∀ j, b = some j → B ≤ j) ∧ AlAt g q u p w s a' ∧ Kp a'.ar N K ∧ Tab0 g ∧ Same [] h g ∧ B ≤ g.next) ?_ (n := l.length) (by omega)
    ⟨0, _, none, [], a, rfl, rfl, Nat.le_refl _, SlB.mt, (fun j hj => by cases hj), H, hA, ht, hS, hB⟩
  rintro m vs g ⟨i, v, b, K, a', rfl, hm, hKi, hv, hb, H, hA, ht, hS, hB⟩
  rw [gd0, gd1]
  by_cases hi : i < l.length
  · have hlt : (i : Int) < l.length := by omega
    have hsc := suc64 i (by omega)
    obtain ⟨b1, hbn, hbg, hix⟩ := hx.ix hi
    have hld : ldS g (.ptr (some (b1, i))) = some (.int .i64 l[i]) := by
      rw [ldS_at ((hS.get b1 hbn (by simp)).trans hbg)]; simp [hi]
    generalize l[i] = x at hld
    rw [Nat.mul_one] at hix
    refine Ok.eq ?_ (by simp -implicitDefEqProofs only [k_law5_AllocKeeps_b0, hx.lnL, Option.bind_some, bin_lss, hlt, decide_true, condE_true, hix, hld]; rfl)
    refine ok_cl (atake_ok H ht (by omega) (by omega) (by omega) x) ?_
    rintro _ g1 ⟨rfl, H1, s1⟩
    simp only at H1 s1
    have ht1 := ht.same s1 (by simp; omega)
    have hS1 := hS.old s1 (by simp; omega)
    have hv1 := hv.same s1 (fun j hj => by have := hb j hj; simp; omega)
    have hB1 := Nat.le_trans hB s1.next
    obtain ⟨k1, k2⟩ := kp_atake hA x
    have skip : Ok (k_law5_AllocKeeps_j0 (.int .i64 (i : Int)) v g1) fun r => (r.1 = .normal ∧ ∃ m', m' < m ∧ (∃ (i : Nat) (v : AV) (b : Option Nat) (K : List En) (a' : PAl), r.2.1 = [v, .int .i64 i] ∧ m' + i = l.length ∧ K.length ≤ i ∧ SlB r.2.2 b 1 v (wsC (K.map En.ad)) K.length ∧ (∀ j, b = some j → B ≤ j) ∧ AlAt r.2.2 q u p w s a' ∧ Kp a'.ar N K ∧ Tab0 r.2.2 ∧ Same [] h r.2.2 ∧ B ≤ r.2.2.next)) ∨ (r.1 ≠ .normal ∧ r.1 = .exit 0 ∧ ∃ v b K a', r.2.1 = [v, .int .i64 l.length] ∧ K.length ≤ 60 ∧ SlB r.2.2 b 1 v (wsC (K.map En.ad)) K.length ∧ (∀ j, b = some j → B ≤ j) ∧ AlAt r.2.2 q u p w s a' ∧ Kp a'.ar N K ∧ Tab0 r.2.2 ∧ Same [] h r.2.2) := by
      refine (Ok.of (r := (.normal, [v, .int .i64 ((i + 1 : Nat) : Int)], g1)) ?_).eq (by simp -implicitDefEqProofs only [k_law5_AllocKeeps_j0, bin_add, hsc, Option.bind_some])
      exact .inl ⟨rfl, m - 1, by omega, i + 1, v, b, K, _, rfl, by omega, by omega, hv1, hb, H1, k1, ht1, hS1, hB1⟩
    by_cases he : (a'.take x).1.2 = 0
    · obtain ⟨e, e1, e2, e3⟩ := k2 he
      by_cases hib : i < bs.length
      · have hltb : (i : Int) < bs.length := by omega
        obtain ⟨b2, hbn2, hbg2, hix2⟩ := hy.ix hib
        have hld2 : ldS g1 (.ptr (some (b2, i))) = some (.bool bs[i]) := by
          rw [ldS_at ((hS1.get b2 hbn2 (by simp)).trans hbg2)]; simp [hib]
        rw [Nat.mul_one] at hix2
        cases hbi : bs[i] with
        | false =>
          rw [hbi] at hld2
          refine Ok.eq skip (by simp -implicitDefEqProofs only [extractV_tup, List.getElem?_cons_zero, List.getElem?_cons_succ, Option.bind_some, eql_int, he, decide_true, gdW_tt, gQ_true, cl_some, hy.lnL, bin_lss, hltb, pickP_bool, if_true, hix2, hld2, Bool.false_eq_true, if_false, condE_false])
        | true =>
          rw [hbi] at hld2
          have hr := placed_room k1.len e2
          have hNN := k1.hN
          have hw1000 : IntKind.i64.wrap (1000 + e.ad) = 1000 + e.ad := wrap_i64 (by omega) (by omega)
          refine Ok.eq ?_ (by simp -implicitDefEqProofs only [extractV_tup, List.getElem?_cons_zero, List.getElem?_cons_succ, Option.bind_some, eql_int, he, decide_true, gdW_tt, gQ_true, cl_some, hy.lnL, bin_lss, hltb, pickP_bool, if_true, hix2, hld2, condE_true]; rfl)
          rw [e1]
          refine ok_cl (mark_ok H1.ar e.ad) ?_
          rintro _ g2 ⟨-, H2, s2⟩
          simp only at H2 s2
          have hml : ((a'.take x).2.ar.mark e.ad).2.sp.length = (a'.take x).2.ar.sp.length := by
            unfold PAr.mark; split
            · rfl
            · split
              · rfl
              · exact PAr.setS_len _ _ _
          have H2' := H1.arena (s2.sub (by simp)) H2 hml
          refine Ok.eq ?_ (by simp -implicitDefEqProofs only [bin_add, hw1000, Option.bind_some]; rfl)
          refine ok_cl (write_ok H2 e.ad 0 (1000 + e.ad)) ?_
          rintro _ g3 ⟨-, H3, s3⟩
          simp only at H3 s3
          have hwl : (((a'.take x).2.ar.mark e.ad).2.write e.ad 0 (1000 + e.ad)).2.sp.length = ((a'.take x).2.ar.mark e.ad).2.sp.length := by unfold PAr.write; split <;> rfl
          have H3' := H2'.arena (s3.sub (by simp)) H3 hwl
          have s23 : Same [w, s] g1 g3 := (s2.sub (by simp)).trans (s3.sub (by simp))
          have ht3 := ht1.same s23 (by simp; omega)
          have hS3 := hS1.old s23 (by simp; omega)
          have hv3 := hv1.same s23 (fun j hj => by have := hb j hj; simp; omega)
          have hB3 := Nat.le_trans hB1 s23.next
          have ins : ∀ {x : Nat}, x < B → x ∉ b.toList := fun {x} hx hm => by
            cases b with
            | none => simp at hm
            | some y => have := hb y rfl; simp at hm; omega
          refine app1 hv3 rfl rfl rfl (by decide) (by omega) fun v' g4 hv4 s4 n4 => ?_
          refine (Ok.of (r := (.normal, [v', .int .i64 ((i + 1 : Nat) : Int)], g4)) ?_).eq (by simp -implicitDefEqProofs only [k_law5_AllocKeeps_j0, bin_add, hsc, Option.bind_some])
          left
          have ee : wsC (K.map En.ad) ++ (AV.int .i64 e.ad).cells = wsC ((K ++ [e]).map En.ad) := by simp [wsC, AV.cells]
          rw [ee] at hv4
          have kk := kp_more k1 e2 e3
          refine ⟨rfl, m - 1, by omega, i + 1, v', _, K ++ [e], _, rfl, by omega, by simp; omega, by simpa using hv4, (fun j hj => by cases hj; omega), H3'.same s4 (ins hq) (ins hu) (ins hp) (ins hw) (ins hs), kk, ht3.same s4 (ins (by omega)), hS3.old s4 (fun j hj => ?_), by show B ≤ g4.next; omega⟩
          cases b with
          | none => simp at hj
          | some y => have := hb y rfl; simp at hj; right; omega
      · have hltb : ¬ (i : Int) < bs.length := by omega
        refine Ok.eq skip (by simp -implicitDefEqProofs only [extractV_tup, List.getElem?_cons_zero, List.getElem?_cons_succ, Option.bind_some, eql_int, he, decide_true, decide_false, gdW_tt, gQ_true, cl_some, hy.lnL, bin_lss, hltb, pickP_bool, if_true, gdW_ft, gdW_tup, gQ_false, Bool.false_eq_true, if_false, condE_false])
    · refine Ok.eq skip (by simp -implicitDefEqProofs only [extractV_tup, List.getElem?_cons_zero, List.getElem?_cons_succ, Option.bind_some, eql_int, he, decide_false, gdW_ft, gdW_tup, gQ_false, pickP_bool, Bool.false_eq_true, if_false, condE_false])
  · have hlt : ¬ (i : Int) < l.length := by omega
    refine (Ok.of (r := (.exit 0, [v, .int .i64 (i : Int)], g)) ?_).eq (by simp -implicitDefEqProofs only [k_law5_AllocKeeps_b0, hx.lnL, Option.bind_some, bin_lss, hlt, decide_false, condE_false])
    have hi' : i = l.length := by omega
    exact .inr ⟨by simp, rfl, v, b, K, a', by rw [hi'], by omega, hv, hb, H, hA, ht, hS⟩
/-- None that is kept is given out again. -/
theorem keeps_L1 {g : Heap} {v : AV} {b : Option Nat} {K : List En} {x e : Int} (rest : List AV) (hv : SlB g b 1 v (wsC (K.map En.ad)) K.length) (hK : K.length ≤ 60) (hx : e = 0 → ∀ f, f ∈ K → f.ad ≠ x) :
    Ok (k_law5_AllocKeeps_L1 (v :: rest) (.int .i64 x) (.int .i64 e) (.bool false) (.int .i64 0) g) fun r => ∃ y, r = (.exit 4, [.bool false, y], g) := by
  refine ok_loop (fun m vs g' => ∃ (k : Nat), vs = [.bool false, .int .i64 k] ∧ m + k = K.length ∧ g = g') ?_ (n := K.length) (by omega) ⟨0, rfl, rfl, rfl⟩
  rintro m vs _ ⟨k, rfl, hm, rfl⟩
  rw [gd0, gd1]
  by_cases hk : k < K.length
  · have hlt : (k : Int) < K.length := by omega
    by_cases he : e = 0
    · obtain ⟨f, hf⟩ : ∃ f, K[k]? = some f := ⟨_, List.getElem?_eq_getElem hk⟩
      obtain ⟨j, rfl, hix⟩ := hv.ix hk
      have hld := hv.ld (o := k) rfl
      rw [Ads_at hf] at hld
      rw [Nat.mul_one] at hix
      have hne : ¬ f.ad = x := hx he f (List.mem_of_getElem? hf)
      refine (Ok.of (r := (.normal, [.bool false, .int .i64 ((k + 1 : Nat) : Int)], g)) ?_).eq (by
        simp -implicitDefEqProofs only [k_law5_AllocKeeps_b1, gd0, hv.lnL, Option.bind_some, bin_lss, hlt, decide_true, gdW_tt, gQ_true, eql_int, he, cl_some, pickP_bool, if_true, condE_true, hix, hld, hne, decide_false, condE_false, bin_add, suc64 k (by omega)])
      exact .inl ⟨rfl, m - 1, by omega, k + 1, rfl, by omega, rfl⟩
    · refine (Ok.of (r := (.exit 4, [.bool false, .int .i64 (k : Int)], g)) ?_).eq (by
        simp -implicitDefEqProofs only [k_law5_AllocKeeps_b1, gd0, hv.lnL, Option.bind_some, bin_lss, hlt, decide_true, gdW_tt, gQ_true, eql_int, he, decide_false, cl_some, pickP_bool, if_true, condE_false])
      exact .inr ⟨by simp, _, rfl⟩
  · have hlt : ¬ (k : Int) < K.length := by omega
    refine (Ok.of (r := (.exit 4, [.bool false, .int .i64 (k : Int)], g)) ?_).eq (by
      simp -implicitDefEqProofs only [k_law5_AllocKeeps_b1, gd0, hv.lnL, Option.bind_some, bin_lss, hlt, decide_false, gdW_ft, gdW_tup, gQ_false, pickP_bool, Bool.false_eq_true, if_false, condE_false])
    exact .inr ⟨by simp, _, rfl⟩
theorem keeps_L2 {h g : Heap} {x3 v : AV} {b : Option Nat} {l : List Int} {a : PAl} {B N : Nat} {K : List En} (rest : List AV) (hx : RdC h 1 x3 (l.map fun n => .int .i64 n) l.length) (hN : l.length ≤ 60) (hK : K.length ≤ 60)
    (hq : q < B) (hu : u < B) (hp : p < B) (hw : w < B) (hs : s < B) (hq' : h.next ≤ q) (hu' : h.next ≤ u) (hp' : h.next ≤ p) (hw' : h.next ≤ w) (hs' : h.next ≤ s) (h0 : 0 < h.next)
    (hv : SlB g b 1 v (wsC (K.map En.ad)) K.length) (hb : ∀ j, b = some j → B ≤ j) (H : AlAt g q u p w s a) (hA : Kp a.ar N K) (ht : Tab0 g) (hS : Same [] h g) :
    Ok (k_law5_AllocKeeps_L2 x3 (.ptr (some (q, 0))) (v :: rest) (.bool false) (.int .i64 0) g) fun r => r.1 = .exit 2 ∧ ∃ a' y, r.2.1 = [.bool false, y] ∧ SlB r.2.2 b 1 v (wsC (K.map En.ad)) K.length ∧ AlAt r.2.2 q u p w s a' ∧ Kp a'.ar N K ∧ Tab0 r.2.2 := by
  refine ok_loop (fun m vs g => ∃ (i : Nat) (a' : PAl), vs = [.bool false, .int .i64 i] ∧ m + i = l.length ∧ SlB g b 1 v (wsC (K.map En.ad)) K.length ∧ AlAt g q u p w s a' ∧ Kp a'.ar N K ∧ Tab0 g ∧ Same [] h g) ?_ (n := l.length) (by omega)
    ⟨0, a, rfl, rfl, hv, H, hA, ht, hS⟩
  rintro m vs g ⟨i, a', rfl, hm, hv, H, hA, ht, hS⟩
  rw [gd0, gd1]
  by_cases hi : i < l.length
  · have hlt : (i : Int) < l.length := by omega
    have hsc := suc64 i (by omega)
    obtain ⟨b1, hbn, hbg, hix⟩ := hx.ix hi
    have hld : ldS g (.ptr (some (b1, i))) = some (.int .i64 l[i]) := by
      rw [ldS_at ((hS.get b1 hbn (by simp)).trans hbg)]; simp [hi]
    generalize l[i] = x at hld
    rw [Nat.mul_one] at hix
    refine Ok.eq ?_ (by simp -implicitDefEqProofs only [k_law5_AllocKeeps_b2, hx.lnL, Option.bind_some, bin_lss, hlt, decide_true, condE_true, hix, hld]; rfl)
    refine ok_cl (atake_ok H ht (by omega) (by omega) (by omega) x) ?_
    rintro _ g1 ⟨rfl, H1, s1⟩
    simp only at H1 s1
    have ht1 := ht.same s1 (by simp; omega)
    have hS1 := hS.old s1 (by simp; omega)
    have hv1 := hv.same s1 (fun j hj => by have := hb j hj; simp; omega)
    obtain ⟨k1, k2⟩ := kp_atake hA x
    refine Ok.eq ?_ (by simp -implicitDefEqProofs only [extractV_tup, List.getElem?_cons_zero, List.getElem?_cons_succ, Option.bind_some]; rfl)
    refine ok_lp (keeps_L1 rest hv1 hK (fun he f hf => by
      obtain ⟨e, e1, e2, e3⟩ := k2 he
      rw [e1]; exact e3 f hf)) ?_
    rintro _ _ _ ⟨y, he⟩
    cases he
    refine (Ok.of (r := (.normal, [.bool false, .int .i64 ((i + 1 : Nat) : Int)], g1)) ?_).eq (by simp -implicitDefEqProofs [bin_add, hsc])
    exact .inl ⟨rfl, m - 1, by omega, i + 1, _, rfl, by omega, hv1, H1, k1, ht1, hS1⟩
  · have hlt : ¬ (i : Int) < l.length := by omega
    refine (Ok.of (r := (.exit 2, [.bool false, .int .i64 (i : Int)], g)) ?_).eq (by simp -implicitDefEqProofs only [k_law5_AllocKeeps_b2, hx.lnL, Option.bind_some, bin_lss, hlt, decide_false, condE_false])
    exact .inr ⟨by simp, rfl, a', _, rfl, hv, H, hA, ht⟩
/-- All is swept. -/
theorem keeps_L3 {g : Heap} {v : AV} {b : Option Nat} {a : PAl} {N B : Nat} {K : List En} (hu : u < B) (hs : s < B) (hu0 : u ≠ 0) (hs0 : s ≠ 0) (hv : SlB g b 1 v (wsC (K.map En.ad)) K.length) (hb : ∀ j, b = some j → B ≤ j) (H : AlAt g q u p w s a) (hA : Kp a.ar N K) (ht : Tab0 g) :
    Ok (k_law5_AllocKeeps_L3 (.ptr (some (q, 0))) g) fun r => r.1 = .exit 6 ∧ ∃ a', SlB r.2.2 b 1 v (wsC (K.map En.ad)) K.length ∧ AlAt r.2.2 q u p w s a' ∧ Kp a'.ar N K ∧ a'.left = 0 := by
  have hleft : a.left ≤ 512 := by
    unfold PAl.left
    have := cnt_le (fun i => (a.un[i]?).getD false) a.un.length
    have h2 := H.ar.hi
    rw [← H.len] at h2
    omega
  refine ok_loop (fun m vs g => vs = [] ∧ ∃ (a' : PAl), a'.left = m ∧ SlB g b 1 v (wsC (K.map En.ad)) K.length ∧ AlAt g q u p w s a' ∧ Kp a'.ar N K) ?_ (n := a.left) (by omega) ⟨rfl, a, rfl, hv, H, hA⟩
  rintro m vs g ⟨rfl, a', hm, hv, H, hA⟩
  refine Ok.eq ?_ (by unfold k_law5_AllocKeeps_b3; rfl)
  refine ok_cl (sweepOne_ok H) ?_
  rintro _ g1 ⟨rfl, H1, s1⟩
  simp only at H1 s1
  have hv1 := hv.same s1 (fun j hj => by have := hb j hj; simp; omega)
  rcases opt_cases (a'.one a'.un.length 0) with e | ⟨n, e⟩
  · have es : a'.sweepOne = (false, a') := by unfold PAl.sweepOne; rw [e]
    rw [es] at H1 ⊢
    refine Ok.of (r := (Ex.exit 6, [], g1)) (.inr ⟨by simp, rfl, a', hv1, H1, hA, ?_⟩)
    unfold PAl.left
    exact cnt_zero.2 fun j hj => one_none e j (Nat.zero_le _) (by omega)
  · obtain ⟨_, n2, n3⟩ := one_some e
    have es : a'.sweepOne = (true, a'.sweepU n) := by unfold PAl.sweepOne; rw [e]
    rw [es] at H1 ⊢
    have hl := left_less (l := a') (m := n) (by omega) n3
    exact Ok.of (r := (Ex.normal, [], g1)) (.inl ⟨rfl, (a'.sweepU n).left, by omega, rfl, a'.sweepU n, rfl, hv1, H1, kp_sweep hA n⟩)
theorem keeps_L4 {g : Heap} {v y : AV} {b : Option Nat} {a : PAr} {N : Nat} {K : List En} (rest : List AV) (hK : K.length ≤ 60) (hv : SlB g b 1 v (wsC (K.map En.ad)) K.length) (H : ArAt g p w s a) (hA : Kp a N K) :
    Ok (k_law5_AllocKeeps_L4 (.ptr (some (p, 0))) (v :: rest) y (.int .i64 0) g) fun r => r.1 = .exit 8 ∧ r.2.2 = g := by
  refine ok_loop (fun m vs g' => ∃ (k : Nat), vs = [y, .int .i64 k] ∧ m + k = K.length ∧ g = g') ?_ (n := K.length) (by omega) ⟨0, rfl, rfl, rfl⟩
  rintro m vs _ ⟨k, rfl, hm, rfl⟩
  rw [gd0, gd1]
  by_cases hk : k < K.length
  · have hlt : (k : Int) < K.length := by omega
    obtain ⟨f, hf⟩ : ∃ f, K[k]? = some f := ⟨_, List.getElem?_eq_getElem hk⟩
    obtain ⟨j, rfl, hix⟩ := hv.ix hk
    have hld := hv.ld (o := k) rfl
    rw [Ads_at hf] at hld
    rw [Nat.mul_one] at hix
    have hrd := kp_read hA (List.mem_of_getElem? hf)
    have hr := placed_room hA.len (hA.ent f (List.mem_of_getElem? hf)).1
    have hNN := hA.hN
    have hw1000 : IntKind.i64.wrap (1000 + f.ad) = 1000 + f.ad := wrap_i64 (by omega) (by omega)
    refine (Ok.of (r := (.normal, [y, .int .i64 ((k + 1 : Nat) : Int)], g)) ?_).eq (by
      simp -implicitDefEqProofs only [k_law5_AllocKeeps_b4, gd0, hv.lnL, Option.bind_some, bin_lss, hlt, decide_true, condE_true, hix, hld, read_eq H, hrd, cl_some, extractV_tup, List.getElem?_cons_zero, List.getElem?_cons_succ, neq_int, Bool.not_true, gdW_ff, gQ_true, bin_add, hw1000, pickP_bool, Bool.false_eq_true, if_false, condE_false, suc64 k (by omega)])
    exact .inl ⟨rfl, m - 1, by omega, k + 1, rfl, by omega, rfl⟩
  · have hlt : ¬ (k : Int) < K.length := by omega
    refine (Ok.of (r := (.exit 8, [y, .int .i64 (k : Int)], g)) ?_).eq (by
      simp -implicitDefEqProofs only [k_law5_AllocKeeps_b4, gd0, hv.lnL, Option.bind_some, bin_lss, hlt, decide_false, condE_false])
    exact .inr ⟨by simp, rfl, rfl⟩
end
theorem keeps_true {h : Heap} (hsub : Sub hQ1 h) (hn1 : 1 ≤ h.next) {x1 x2 x3 : AV} {l1 l3 : List Int} {bs : List Bool} (hx1 : RdC h 1 x1 (l1.map fun n => .int .i64 n) l1.length) (hx2 : RdC h 1 x2 (bs.map .bool) bs.length) (hx3 : RdC h 1 x3 (l3.map fun n => .int .i64 n) l3.length) (sp : Int) :
    Ok (k_law5_AllocKeeps (.int .i64 sp) x1 x2 x3 h) fun r => r.1 = .bool true := by
  have ht := tab0_sub hsub hn1
  have haw : k_law5_awake h = some (.bool true, h) := quiet_pos hsub
  have base : ∀ (P : Prop) [Decidable P], (P → k_law5_AllocKeeps (.int .i64 sp) x1 x2 x3 h = some (.bool true, h)) → (¬ P → Ok (k_law5_AllocKeeps (.int .i64 sp) x1 x2 x3 h) fun r => r.1 = .bool true) → Ok (k_law5_AllocKeeps (.int .i64 sp) x1 x2 x3 h) fun r => r.1 = .bool true := fun P _ h1 h2 => by
    by_cases hP : P
    · exact ok_val (h1 hP) rfl
    · exact h2 hP
  refine base (sp < 8) (fun h1 => by simp -implicitDefEqProofs only [k_law5_AllocKeeps, haw, cl_some, un_not, Bool.not_true, Option.bind_some, condE_false, bin_lss, h1, decide_true, gdW_tf, gdW_tup, gQ_false, pickP_bool, if_true, condE_true]) fun h1 => ?_
  refine base (16 < sp) (fun h2 => by simp -implicitDefEqProofs only [k_law5_AllocKeeps, haw, cl_some, un_not, Bool.not_true, Option.bind_some, condE_false, bin_lss, bin_gtr, h1, h2, decide_true, decide_false, gdW_ff, gQ_true, gdW_tf, gdW_tup, gQ_false, pickP_bool, if_true, Bool.false_eq_true, if_false, condE_true]) fun h2 => ?_
  refine base ((60 : Int) < l1.length) (fun h3 => by simp -implicitDefEqProofs only [k_law5_AllocKeeps, haw, cl_some, un_not, Bool.not_true, Option.bind_some, condE_false, bin_lss, bin_gtr, h1, h2, hx1.lnL, h3, decide_true, decide_false, gdW_ff, gQ_true, gdW_tf, gdW_tup, gQ_false, pickP_bool, if_true, Bool.false_eq_true, if_false, condE_true]) fun h3 => ?_
  refine base ((60 : Int) < l3.length) (fun h4 => by simp -implicitDefEqProofs only [k_law5_AllocKeeps, haw, cl_some, un_not, Bool.not_true, Option.bind_some, condE_false, bin_lss, bin_gtr, h1, h2, hx1.lnL, hx3.lnL, h3, h4, decide_true, decide_false, gdW_ff, gQ_true, gdW_tf, gdW_tup, gQ_false, pickP_bool, if_true, Bool.false_eq_true, if_false, condE_true]) fun h4 => ?_
  refine base ((100 : Int) < bs.length) (fun h5 => by simp -implicitDefEqProofs only [k_law5_AllocKeeps, haw, cl_some, un_not, Bool.not_true, Option.bind_some, condE_false, bin_lss, bin_gtr, h1, h2, hx1.lnL, hx3.lnL, hx2.lnL, h3, h4, h5, decide_true, decide_false, gdW_ff, gQ_true, pickP_bool, if_true, Bool.false_eq_true, if_false, condE_true]) fun h5 => ?_
  obtain ⟨N, rfl⟩ : ∃ N : Nat, sp = N := ⟨sp.toNat, by omega⟩
  have hpos := ht.pos
  refine Ok.eq ?_ (by simp -implicitDefEqProofs only [k_law5_AllocKeeps, haw, cl_some, un_not, Bool.not_true, Option.bind_some, condE_false, bin_lss, bin_gtr, h1, h2, hx1.lnL, hx3.lnL, hx2.lnL, h3, h4, h5, decide_false, gdW_ff, gQ_true, pickP_bool, Bool.false_eq_true, if_false]; rfl)
  refine ok_cl (made_ok N (by omega) (by omega)) ?_
  rintro _ g1 ⟨q, u, p, w, s, x, rfl, H, s1, b1, b2, b3, b4, b5⟩
  simp only at H s1
  have ht1 := ht.same s1 (by simp)
  have hnew : Kp (newA N) N [] := ⟨by show (List.replicate N _).length = N; simp, by show (List.replicate (N * 64) _).length = N * 64; simp, by omega, fun e he => by cases he⟩
  have lq := H.lq
  have lu := H.lu
  have lp := H.ar.lp
  have lw := H.ar.lw
  have ls := H.ar.ls
  refine Ok.eq ?_ (by simp -implicitDefEqProofs only [extractV_tup, List.getElem?_cons_zero, List.getElem?_cons_succ, Option.bind_some, eql_ptr_nil, condE_false]; rfl)
  refine ok_lp (keeps_L0 (B := g1.next) hx1 hx2 (by omega) lq lu lp lw ls b1 b2 b3 b4 b5 hpos (Nat.le_refl _) H hnew ht1 s1) ?_
  rintro _ _ g2 ⟨rfl, v, b, K, a2, rfl, hK, hv2, hb, H2, A2, ht2, hS2⟩
  simp only at hv2 H2 ht2 hS2
  refine Ok.eq ?_ (by simp -implicitDefEqProofs only [if_true, thenK_normal]; rfl)
  refine ok_cl (stale_ok H2) ?_
  rintro _ g3 ⟨-, H3, s3⟩
  simp only at H3 s3
  have ht3 := ht2.same s3 (by simp; omega)
  have hS3 := hS2.old s3 (by simp; omega)
  have hv3 := hv2.same s3 (fun j hj => by have := hb j hj; simp; omega)
  refine ok_lp (keeps_L2 (B := g1.next) [.int .i64 l1.length] hx3 (by omega) hK lq lu lp lw ls b1 b2 b3 b4 b5 hpos hv3 hb H3 A2 ht3 hS3) ?_
  rintro _ _ g4 ⟨rfl, a4, y, rfl, hv4, H4, A4, ht4⟩
  simp only at hv4 H4 ht4
  refine Ok.eq ?_ (by simp -implicitDefEqProofs only [if_true, thenK_normal, gd0]; rfl)
  refine ok_lp (keeps_L3 (B := g1.next) lu ls (by omega) (by omega) hv4 hb H4 A4 ht4) ?_
  rintro _ vs g5 ⟨rfl, a5, hv5, H5, A5, l5⟩
  simp only at hv5 H5
  refine Ok.eq ?_ (by simp -implicitDefEqProofs only [if_true, thenK_normal]; rfl)
  refine ok_lp (keeps_L4 [.int .i64 l1.length] hK hv5 H5.ar A5) ?_
  rintro _ vs6 g6 ⟨rfl, e6⟩
  simp only at e6
  subst e6
  obtain ⟨rl, el, ql⟩ := left_eq H5
  rw [ql, l5] at el
  have el : k_alloc_Alloc_Left (.ptr (some (q, 0))) g6 = some (.int .i64 0, g6) := el
  exact ok_val (v := .bool true) (g := g6) (by simp -implicitDefEqProofs only [if_true, thenK_normal, el, cl_some, eql_int, decide_true, Option.bind_some]) rfl
end Go.Ab.F
