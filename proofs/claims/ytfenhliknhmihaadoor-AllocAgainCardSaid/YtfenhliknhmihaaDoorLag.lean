import Derived.Test.YtfenhliknhmihaaDoorAlc

namespace Go.Ab.F
open Go Go.Ab
set_option linter.all false
attribute [local congr] c_bind c_cl c_mk c_lp c_clC c_gQ c_gV c_condE c_thenK

/-! AllocFull: the plain law. -/
/-- Classes may be; no place beyond a span's own is taken. -/
def ArFi (a : PAr) : Prop := ∀ n, a.has n → (a.at n).cls = -1 ∨ (0 ≤ (a.at n).cls ∧ (a.at n).cls ≤ 5 ∧ ∀ j, pls (a.at n).cls ≤ j → (a.at n).tk.getLsbD j = false)
structure Fi (l : PAl) : Prop where
  un : ∀ i : Nat, (l.un[i]?).getD false = false
  ar : ArFi l.ar
  len : l.un.length = l.ar.sp.length
theorem take_err {a : PAr} {n : Int} (hn : a.has n) {c : Int} (hc : 0 ≤ c ∧ c ≤ 5) (ha : (a.at n).cls = c) {j : Nat} (hj : j < pls c) (hb : (a.at n).tk.getLsbD j = false) (hbd : ∀ j, pls c ≤ j → (a.at n).tk.getLsbD j = false) (hfi : ArFi a) :
    (a.take n).2.1 = 0 ∧ ArFi (a.take n).2.2 ∧ (a.take n).2.2.sp.length = a.sp.length := by
  obtain ⟨P0, P1, P2, W1, W2, _⟩ := pls_eq hc
  have hf := first0_lt (b := (a.at n).tk) (q := j) (by omega) hb
  unfold PAr.take
  rw [if_neg (by rw [cls_at hn, ha]; omega), ha, if_neg (by omega)]
  refine ⟨rfl, fun m hm => ?_, a.setS_len _ _⟩
  have hm' : a.has m := (a.setS_has n m _).1 hm
  by_cases e : m = n
  · subst e
    right
    show 0 ≤ ((a.setS m _).at m).cls ∧ ((a.setS m _).at m).cls ≤ 5 ∧ ∀ j, pls ((a.setS m _).at m).cls ≤ j → ((a.setS m _).at m).tk.getLsbD j = false
    rw [PAr.setS_at _ hn]
    refine ⟨hc.1, hc.2, fun k hk => ?_⟩
    have hk' : pls c ≤ k := hk
    have hne : ¬ k = first0 (a.at m).tk := by omega
    show ((a.at m).tk ||| bitOf (first0 (a.at m).tk)).getLsbD k = false
    rw [BitVec.getLsbD_or, hbd k hk', bit_get _ k (by omega)]; simp [hne]
  · show ((a.setS n _).at m).cls = -1 ∨ (0 ≤ ((a.setS n _).at m).cls ∧ ((a.setS n _).at m).cls ≤ 5 ∧ ∀ j, pls ((a.setS n _).at m).cls ≤ j → ((a.setS n _).at m).tk.getLsbD j = false)
    rw [PAr.setS_ne _ hn hm' e]
    exact hfi m hm'
/-- A span of this class has room. -/
def roomAt (a : PAr) (c n : Int) : Prop := a.cls n = c ∧ a.taken n ≠ fullB c
instance (a : PAr) (c n : Int) : Decidable (roomAt a c n) := by unfold roomAt; infer_instance
theorem roomAt_bit {a : PAr} {c n : Int} (hc : 0 ≤ c ∧ c ≤ 5) (h : roomAt a c n) (hfi : ArFi a) : a.has n ∧ (a.at n).cls = c ∧ (∃ j, j < pls c ∧ (a.at n).tk.getLsbD j = false) ∧ ∀ j, pls c ≤ j → (a.at n).tk.getLsbD j = false := by
  obtain ⟨P0, P1, P2, W1, W2, _⟩ := pls_eq hc
  obtain ⟨h1, h2⟩ := h
  obtain ⟨hn, he⟩ := cls_has (a := a) (n := n) (by omega)
  have hcl : (a.at n).cls = c := by rw [← he, h1]
  have ht : a.taken n = (a.at n).tk := by unfold PAr.taken; rw [if_neg (by omega)]
  rw [ht] at h2
  have hbd : ∀ j, pls c ≤ j → (a.at n).tk.getLsbD j = false := by
    rcases hfi n hn with h | h
    · omega
    · rw [hcl] at h; exact h.2.2
  refine ⟨hn, hcl, ?_, hbd⟩
  apply Classical.byContradiction
  intro hno
  apply h2
  apply BitVec.eq_of_getLsbD_eq
  intro j hj
  rw [full_bits hc j hj]
  by_cases hjp : j < pls c
  · cases hb : (a.at n).tk.getLsbD j with
    | true => simp [hjp]
    | false => exact absurd ⟨j, hjp, hb⟩ hno
  · rw [hbd j (by omega)]; simp [hjp]
theorem ones_room {a : PAr} {c n : Int} (hc : 0 ≤ c ∧ c ≤ 5) (h1 : a.cls n = c) (hfi : ArFi a) : (ones (a.taken n) : Int) < placesOf c ↔ a.taken n ≠ fullB c := by
  obtain ⟨P0, P1, P2, W1, W2, _⟩ := pls_eq hc
  have hfull : ones (fullB c) = pls c := by
    unfold ones
    have e : ∀ j, j < 64 → (fullB c).getLsbD j = (decide (j < pls c) && true) := fun j hj => by rw [full_bits hc j hj]; simp
    rw [cnt_congr e, cnt_and, Nat.min_eq_left (by omega)]
    have : ∀ k, cnt (fun _ => true) k = k := fun k => by
      induction k with
      | zero => rfl
      | succ k ih => rw [cnt, ih]; rfl
    exact this _
  constructor
  · intro h e; rw [e, hfull] at h; omega
  · intro h
    obtain ⟨hn, hcl, ⟨j, hj, hb⟩, hbd⟩ := roomAt_bit hc ⟨h1, h⟩ hfi
    have ht : a.taken n = (a.at n).tk := by unfold PAr.taken; rw [if_neg (by omega)]
    rw [ht]
    have e : ∀ j, j < 64 → (a.at n).tk.getLsbD j = (decide (j < pls c) && (a.at n).tk.getLsbD j) := fun j _ => by
      by_cases hjp : j < pls c
      · simp [hjp]
      · simp [hjp, hbd j (by omega)]
    have : ones (a.at n).tk = cnt (a.at n).tk.getLsbD (pls c) := by
      unfold ones; rw [cnt_congr e, cnt_and, Nat.min_eq_left (by omega)]
    rw [this]
    have hz : cnt (fun j => !(a.at n).tk.getLsbD j) (pls c) ≠ 0 := fun hz => by
      have := cnt_zero.1 hz j hj
      rw [hb] at this; cases this
    have := cnt_not (a.at n).tk.getLsbD (pls c)
    omega
theorem scan1_fi {l : PAl} (H : Fi l) {c : Int} (hc : 0 ≤ c ∧ c ≤ 5) : ∀ (k n : Nat),
    ((∀ m : Nat, n ≤ m → m < n + k → ¬ roomAt l.ar c m) ∧ PAl.scan1 c k n l = (none, l)) ∨
    (∃ m : Nat, n ≤ m ∧ m < n + k ∧ roomAt l.ar c m ∧ PAl.scan1 c k n l = (some ((l.ar.take m).1, (l.ar.take m).2.1), ⟨(l.ar.take m).2.2, l.un⟩))
  | 0, n => .inl ⟨fun m h1 h2 => by omega, rfl⟩
  | k + 1, n => by
    have hat : l.at1 c n = l := by unfold PAl.at1; rw [if_neg (by rw [H.un n]; decide)]
    have rest : ¬ roomAt l.ar c n → PAl.scan1 c (k + 1) n l = PAl.scan1 c k (n + 1) l := by
      intro hr
      rw [PAl.scan1]
      by_cases h1 : l.ar.cls n ≠ c
      · rw [if_pos h1]
      · rw [if_neg h1, hat, if_neg (show ¬ (l.ar.cls n = c ∧ l.ar.taken n ≠ fullB c) from hr)]
    by_cases hr : roomAt l.ar c n
    · right
      refine ⟨n, Nat.le_refl _, by omega, hr, ?_⟩
      rw [PAl.scan1, if_neg (fun h => h hr.1), hat, if_pos (show l.ar.cls n = c ∧ l.ar.taken n ≠ fullB c from hr)]
    · rw [rest hr]
      rcases scan1_fi H hc k (n + 1) with ⟨h1, h2⟩ | ⟨m, h1, h2, h3, h4⟩
      · refine .inl ⟨fun m hm hm' => ?_, h2⟩
        by_cases e : m = n
        · subst e; exact hr
        · exact h1 m (by omega) (by omega)
      · exact .inr ⟨m, by omega, by omega, h3, h4⟩
theorem scan2_fi {l : PAl} (c : Int) : ∀ (k n : Nat),
    ((∀ m : Nat, n ≤ m → m < n + k → ¬ l.ar.cls m = -1) ∧ PAl.scan2 c k n l = (none, l)) ∨
    (∃ m : Nat, n ≤ m ∧ m < n + k ∧ l.ar.cls m = -1 ∧ PAl.scan2 c k n l = (some (l.beginU m c).1, (l.beginU m c).2))
  | 0, n => .inl ⟨fun m h1 h2 => by omega, rfl⟩
  | k + 1, n => by
    by_cases hr : l.ar.cls n = -1
    · exact .inr ⟨n, Nat.le_refl _, by omega, hr, by rw [PAl.scan2, if_pos hr]⟩
    · rw [PAl.scan2, if_neg hr]
      rcases scan2_fi c k (n + 1) with ⟨h1, h2⟩ | ⟨m, h1, h2, h3, h4⟩
      · refine .inl ⟨fun m hm hm' => ?_, h2⟩
        by_cases e : m = n
        · subst e; exact hr
        · exact h1 m (by omega) (by omega)
      · exact .inr ⟨m, by omega, by omega, h3, h4⟩
theorem scan3_fi {l : PAl} (H : Fi l) (c : Int) : ∀ (k n : Nat), PAl.scan3 c k n l = (none, l)
  | 0, n => rfl
  | k + 1, n => by rw [PAl.scan3, if_neg (by rw [H.un n]; decide)]; exact scan3_fi H c k (n + 1)
theorem begin_fi {l : PAl} (H : Fi l) {c : Int} (hc : 0 ≤ c ∧ c ≤ 5) {m : Nat} (hm : l.ar.has m) (h1 : l.ar.cls m = -1) : (l.beginU m c).1.2 = 0 ∧ Fi (l.beginU m c).2 ∧ (l.beginU m c).2.ar.sp.length = l.ar.sp.length := by
  obtain ⟨P0, P1, P2, W1, W2, _⟩ := pls_eq hc
  have hcl : (l.ar.at m).cls = -1 := by rw [← cls_at hm]; exact h1
  have hset : l.ar.set m c = (0, l.ar.setS m ⟨c, 0, 0⟩) := by
    unfold PAr.set
    rw [if_neg (fun h => h.elim (fun h => h hm) (fun h => by omega)), if_neg (fun h => h hcl)]
  have hat := PAr.setS_at ⟨c, 0, 0⟩ hm
  have hfi : ArFi (l.ar.setS m ⟨c, 0, 0⟩) := fun n hn => by
    have hn' := (l.ar.setS_has m n _).1 hn
    by_cases e : n = m
    · subst e; rw [hat]; right; exact ⟨hc.1, hc.2, fun j _ => by simp⟩
    · rw [PAr.setS_ne _ hm hn' e]; exact H.ar n hn'
  obtain ⟨t1, t2, t3⟩ := take_err (a := l.ar.setS m ⟨c, 0, 0⟩) ((l.ar.setS_has m m _).2 hm) hc (by rw [hat]) (j := 0) (by omega) (by rw [hat]; simp) (fun j _ => by rw [hat]; simp) hfi
  have e1 : (l.beginU m c).1.2 = ((l.ar.setS m ⟨c, 0, 0⟩).take m).2.1 := by unfold PAl.beginU; rw [hset]
  have e2 : (l.beginU m c).2 = ⟨((l.ar.setS m ⟨c, 0, 0⟩).take m).2.2, l.un.set m false⟩ := by unfold PAl.beginU; rw [hset]
  rw [e1, e2]
  refine ⟨t1, ⟨fun i => ?_, t2, ?_⟩, by rw [t3, l.ar.setS_len]⟩
  · show ((l.un.set m false)[i]?).getD false = false
    by_cases e : m = i
    · subst e
      by_cases hl : m < l.un.length
      · rw [List.getElem?_set_self hl]; rfl
      · rw [List.getElem?_eq_none (by simp; omega)]; rfl
    · rw [List.getElem?_set_ne e]; exact H.un i
  · show (l.un.set m false).length = _
    rw [List.length_set, t3, l.ar.setS_len]; exact H.len
/-- Is there room for a place of a class? -/
def room (l : PAl) (c : Int) : Prop := ∃ s : Nat, 1 ≤ s ∧ s < l.un.length ∧ (l.ar.cls s = -1 ∨ roomAt l.ar c s)
theorem take_fi {l : PAl} (H : Fi l) (n : Int) : Fi (l.take n).2 ∧ (l.take n).2.ar.sp.length = l.ar.sp.length ∧ (classOf n = -1 → (l.take n).1.2 = 1) ∧ (classOf n ≠ -1 → ((l.take n).1.2 = 0 ↔ room l (classOf n))) := by
  unfold PAl.take
  by_cases h1 : classOf n = -1
  · rw [if_pos h1]; exact ⟨H, rfl, fun _ => rfl, fun h => absurd h1 h⟩
  rw [if_neg h1]
  have hc : 0 ≤ classOf n ∧ classOf n ≤ 5 := by
    rcases classOf_range n with h | h
    · exact absurd h h1
    · exact ⟨h.1, h.2.1⟩
  generalize classOf n = c at *
  have hlen := H.len
  rcases scan1_fi H hc l.un.length 0 with ⟨a1, a2⟩ | ⟨m, b1, b2, b3, b4⟩
  · rw [a2]
    simp only
    unfold PAl.more
    rcases scan2_fi (l := l) c (l.un.length - 1) 1 with ⟨c1, c2⟩ | ⟨m, d1, d2, d3, d4⟩
    · rw [c2]
      simp only
      unfold PAl.more2
      rw [scan3_fi H]
      refine ⟨H, rfl, fun h => absurd h h1, fun _ => ⟨fun h => by simp at h, fun ⟨s, s1, s2, s3⟩ => ?_⟩⟩
      rcases s3 with s3 | s3
      · exact absurd s3 (c1 s s1 (by omega))
      · exact absurd s3 (a1 s (by omega) (by omega))
    · rw [d4]
      simp only
      have hm : l.ar.has m := ⟨by omega, by omega⟩
      obtain ⟨e1, e2, e3⟩ := begin_fi H hc hm d3
      exact ⟨e2, e3, fun h => absurd h h1, fun _ => ⟨fun _ => ⟨m, by omega, by omega, .inl d3⟩, fun _ => e1⟩⟩
  · rw [b4]
    simp only
    obtain ⟨hn, hcl, ⟨j, hj, hb⟩, hbd⟩ := roomAt_bit hc b3 H.ar
    obtain ⟨t1, t2, t3⟩ := take_err hn hc hcl hj hb hbd H.ar
    refine ⟨⟨H.un, t2, by show l.un.length = _; rw [t3]; exact hlen⟩, t3, fun h => absurd h h1, fun _ => ⟨fun _ => ⟨m, ?_, by omega, .inr b3⟩, fun _ => t1⟩⟩
    have := hn.1; omega
theorem fi_new (N : Nat) : Fi ⟨newA N, List.replicate N false⟩ := by
  refine ⟨fun i => ?_, fun n hn => ?_, by show (List.replicate N false).length = (List.replicate N _).length; simp⟩
  · by_cases h : i < N
    · simp [h]
    · simp [h]
  · left
    have h2 := hn.2
    have : (newA N).sp.length = N := by show (List.replicate N _).length = N; simp
    rw [this] at h2
    have h1 := hn.1
    unfold PAr.at newA
    simp only
    rw [List.getElem?_replicate, if_pos (by omega)]; rfl
theorem rones_eq (b : BitVec 64) (h : Heap) : k_ref1_Ones (.int .u64 b.toNat) h = some (.int .i64 (ones b), h) := by
  obtain ⟨r, e, q⟩ := rones_ok b h
  rw [e, q]

/-! The walk. -/
section
variable {q u p w s : Nat}
theorem full_L0 {h g : Heap} {x1 : AV} {l : List Int} {a : PAl} (hx : RdC h 1 x1 (l.map fun n => .int .i64 n) l.length) (hN : l.length ≤ 120) (hq : h.next ≤ q) (hu : h.next ≤ u) (hp : h.next ≤ p) (hw : h.next ≤ w) (hs : h.next ≤ s) (h0 : 0 < h.next)
    (H : AlAt g q u p w s a) (hA : Fi a) (ht : Tab0 g) (hS : Same [] h g) :
    Ok (k_law5_AllocFull_L0 x1 (.ptr (some (q, 0))) (.int .i64 0) g) fun r => r.1 = .exit 0 ∧ ∃ a', AlAt r.2.2 q u p w s a' ∧ Fi a' ∧ a'.un.length = a.un.length ∧ Tab0 r.2.2 := by
  refine ok_loop (fun m vs g => ∃ (i : Nat) (a' : PAl), vs = [.int .i64 i] ∧ m + i = l.length ∧ AlAt g q u p w s a' ∧ Fi a' ∧ a'.un.length = a.un.length ∧ Tab0 g ∧ Same [] h g) ?_ (n := l.length) (by omega) ⟨0, a, rfl, rfl, H, hA, rfl, ht, hS⟩
  rintro m vs g ⟨i, a', rfl, hm, H, hA, hl, ht, hS⟩
  rw [gd0]
  by_cases hi : i < l.length
  · have hlt : (i : Int) < l.length := by omega
    obtain ⟨b, hbn, hbg, hix⟩ := hx.ix hi
    have hld : ldS g (.ptr (some (b, i))) = some (.int .i64 l[i]) := by
      rw [ldS_at ((hS.get b hbn (by simp)).trans hbg)]; simp [hi]
    generalize l[i] = x at hld
    rw [Nat.mul_one] at hix
    refine Ok.eq ?_ (by simp -implicitDefEqProofs only [k_law5_AllocFull_b0, hx.lnL, Option.bind_some, bin_lss, hlt, decide_true, condE_true, hix, hld]; rfl)
    refine ok_cl (atake_ok H ht (by omega) (by omega) (by omega) x) ?_
    rintro _ g1 ⟨-, H1, s1⟩
    simp only at H1 s1
    obtain ⟨f1, f2, _⟩ := take_fi hA x
    refine (Ok.of (r := (.normal, [.int .i64 ((i + 1 : Nat) : Int)], g1)) ?_).eq (by simp -implicitDefEqProofs only [bin_add, suc64 i (by omega), Option.bind_some])
    refine .inl ⟨rfl, m - 1, by omega, i + 1, _, rfl, by omega, H1, f1, ?_, ht.same s1 (by simp; omega), hS.old s1 (by simp; omega)⟩
    rw [f1.len, f2, ← hA.len]; exact hl
  · have hlt : ¬ (i : Int) < l.length := by omega
    refine (Ok.of (r := (.exit 0, [.int .i64 (i : Int)], g)) ?_).eq (by simp -implicitDefEqProofs only [k_law5_AllocFull_b0, hx.lnL, Option.bind_some, bin_lss, hlt, decide_false, condE_false])
    exact .inr ⟨by simp, rfl, a', H, hA, hl, ht⟩
/-- Whether there is room, as the statement asks it. -/
def roomB (a : PAl) (c : Int) : Nat → Bool
  | 0 => false
  | s + 1 => roomB a c s || (decide (1 ≤ s) && (decide (a.ar.cls s < 0) || (decide (a.ar.cls s = c) && decide ((ones (a.ar.taken s) : Int) < placesOf c))))
theorem roomB_room {a : PAl} (hA : Fi a) {c : Int} (hc : 0 ≤ c ∧ c ≤ 5) : roomB a c a.un.length = true ↔ room a c := by
  have key : ∀ k, roomB a c k = true ↔ ∃ s : Nat, 1 ≤ s ∧ s < k ∧ (a.ar.cls s = -1 ∨ roomAt a.ar c s) := by
    intro k
    induction k with
    | zero => simp [roomB]
    | succ k ih =>
      simp only [roomB, Bool.or_eq_true, Bool.and_eq_true, decide_eq_true_eq, ih]
      have neg : a.ar.cls k < 0 ↔ a.ar.cls k = -1 := by
        constructor
        · intro h
          unfold PAr.cls at h ⊢
          split at h
          · rename_i hn
            rw [if_pos hn]
            rcases hA.ar k hn with h' | h'
            · exact h'
            · omega
          · rename_i hn; rw [if_neg hn]
        · intro h; omega
      have rm : (a.ar.cls k = c ∧ (ones (a.ar.taken k) : Int) < placesOf c) ↔ roomAt a.ar c k := by
        constructor
        · rintro ⟨h1, h2⟩; exact ⟨h1, (ones_room hc h1 hA.ar).1 h2⟩
        · rintro ⟨h1, h2⟩; exact ⟨h1, (ones_room hc h1 hA.ar).2 h2⟩
      rw [neg, rm]
      constructor
      · rintro (⟨s, h1, h2, h3⟩ | ⟨h1, h2⟩)
        · exact ⟨s, h1, by omega, h3⟩
        · exact ⟨k, h1, by omega, h2⟩
      · rintro ⟨s, h1, h2, h3⟩
        by_cases e : s = k
        · subst e; exact .inr ⟨h1, h3⟩
        · exact .inl ⟨s, h1, by omega, h3⟩
  exact key _
theorem full_L1 {g : Heap} {a : PAl} (H : AlAt g q u p w s a) (ht : Tab0 g) (hA : Fi a) {c : Int} (hc : 0 ≤ c ∧ c ≤ 5) {N : Nat} (hN : a.un.length = N) (h8 : 8 ≤ N ∧ N ≤ 12) :
    Ok (k_law5_AllocFull_L1 (.int .i64 N) (.ptr (some (p, 0))) (.int .i64 c) (.bool false) (.int .i64 1) g) fun r => r.1 = .exit 2 ∧ r.2.1.getD 0 .bot = .bool (roomB a c N) ∧ AlAt r.2.2 q u p w s a ∧ Tab0 r.2.2 := by
  refine ok_loop (fun m vs g => ∃ (i : Nat), vs = [.bool (roomB a c i), .int .i64 i] ∧ m + i = N ∧ 1 ≤ i ∧ AlAt g q u p w s a ∧ Tab0 g) ?_ (n := N - 1) (by omega) ⟨1, by simp [roomB], by omega, Nat.le_refl _, H, ht⟩
  rintro m vs g ⟨i, rfl, hm, h1, H, ht⟩
  rw [gd0, gd1]
  have hc0 : (0 : Int) ≤ c := hc.1
  by_cases hi : i < N
  · have hlt : (i : Int) < N := by omega
    have hsc := suc64 i (by omega)
    have e0 : roomB a c (i + 1) = (roomB a c i || (decide (a.ar.cls i < 0) || (decide (a.ar.cls i = c) && decide ((ones (a.ar.taken i) : Int) < placesOf c)))) := by
      rw [roomB]; simp [h1]
    have fin : ∀ (b : Bool) (g' : Heap), AlAt g' q u p w s a → Tab0 g' → roomB a c (i + 1) = b →
        Ok (some ((Ex.normal, [AV.bool b, AV.int .i64 ((i + 1 : Nat) : Int)], g') : Ex × List AV × Heap)) fun r => (r.1 = .normal ∧ ∃ m', m' < m ∧ (∃ (i : Nat), r.2.1 = [.bool (roomB a c i), .int .i64 i] ∧ m' + i = N ∧ 1 ≤ i ∧ AlAt r.2.2 q u p w s a ∧ Tab0 r.2.2)) ∨ (r.1 ≠ .normal ∧ r.1 = .exit 2 ∧ r.2.1.getD 0 .bot = .bool (roomB a c N) ∧ AlAt r.2.2 q u p w s a ∧ Tab0 r.2.2) := by
      intro b g' H' ht' hb
      exact Ok.of (.inl ⟨rfl, m - 1, by omega, i + 1, by rw [hb], by omega, by omega, H', ht'⟩)
    rcases bool_cases (roomB a c i) with hr | hr
    · refine Ok.eq (fin true g H ht (by rw [e0, hr]; rfl)) (by
        rw [hr]
        simp -implicitDefEqProofs only [k_law5_AllocFull_b1, bin_lss, hlt, decide_true, Option.bind_some, gdW_tt, gQ_true, bin_geq, hc0, cl_some, pickP_bool, if_true, condE_true, gdW_tf, gdW_tup, gQ_false, bin_add, hsc])
    · by_cases hk : a.ar.cls i < 0
      · refine Ok.eq (fin true g H ht (by rw [e0, hr]; simp [hk])) (by
          rw [hr]
          simp -implicitDefEqProofs only [k_law5_AllocFull_b1, bin_lss, hlt, decide_true, Option.bind_some, gdW_tt, gQ_true, bin_geq, hc0, cl_some, pickP_bool, if_true, condE_true, gdW_ff, class_eq H.ar, hk, gdW_tf, gdW_tup, gQ_false, Bool.false_eq_true, if_false, bin_add, hsc])
      · by_cases hk2 : a.ar.cls i = c
        · have hk' : ¬ c < 0 := by omega
          rw [hr]
          refine Ok.eq ?_ (by
            simp -implicitDefEqProofs only [k_law5_AllocFull_b1, bin_lss, hlt, decide_true, Option.bind_some, gdW_tt, gQ_true, bin_geq, hc0, cl_some, pickP_bool, if_true, condE_true, gdW_ff, class_eq H.ar, hk2, hk', decide_false, Bool.false_eq_true, if_false, eql_int, taken_eq H.ar, rones_eq, cl_id]
            rfl)
          refine ok_cl (rplaces_ok c g) ?_
          rintro _ g2 ⟨rfl, s2⟩
          simp only at s2
          have H2 := H.same s2 (by simp) (by simp) (by simp) (by simp) (by simp)
          refine Ok.eq (fin (decide ((ones (a.ar.taken i) : Int) < placesOf c)) g2 H2 (ht.same s2 (by simp)) (by rw [e0, hr]; simp [hk, hk2]; intro h; rw [hk2] at hk; exact absurd h hk)) (by
            simp -implicitDefEqProofs only [bin_lss, Option.bind_some, gdW_ff, gQ_true, cl_some, pickP_bool, if_true, Bool.false_eq_true, if_false, bin_add, hsc])
        · refine Ok.eq (fin false g H ht (by rw [e0, hr]; simp [hk, hk2])) (by
            rw [hr]
            simp -implicitDefEqProofs only [k_law5_AllocFull_b1, bin_lss, hlt, decide_true, Option.bind_some, gdW_tt, gQ_true, bin_geq, hc0, cl_some, pickP_bool, if_true, condE_true, gdW_ff, class_eq H.ar, hk, decide_false, Bool.false_eq_true, if_false, hk2, eql_int, gdW_ft, gdW_tup, gQ_false, bin_add, hsc])
  · have hlt : ¬ (i : Int) < N := by omega
    obtain rfl : i = N := by omega
    refine (Ok.of (r := (.exit 2, [.bool (roomB a c i), .int .i64 (i : Int)], g)) ?_).eq (by simp -implicitDefEqProofs only [k_law5_AllocFull_b1, bin_lss, hlt, decide_false, Option.bind_some, gdW_ft, gdW_tup, gQ_false, pickP_bool, Bool.false_eq_true, if_false, condE_false])
    exact .inr ⟨by simp, rfl, rfl, H, ht⟩
end
end Go.Ab.F

namespace Go.Ab.F
open Go Go.Ab
set_option linter.all false
attribute [local congr] c_bind c_cl c_mk c_lp c_clC c_gQ c_gV c_condE c_thenK

theorem full_true {h : Heap} (hsub : Sub hQ1 h) (hn1 : 1 ≤ h.next) {x1 : AV} {l : List Int} (hx : RdC h 1 x1 (l.map fun n => .int .i64 n) l.length) (sp n : Int) :
    Ok (k_law5_AllocFull (.int .i64 sp) x1 (.int .i64 n) h) fun r => r.1 = .bool true := by
  have ht := tab0_sub hsub hn1
  have haw : k_law5_awake h = some (.bool true, h) := quiet_pos hsub
  by_cases h1 : sp < 8
  · exact ok_val (v := .bool true) (g := h) (by simp -implicitDefEqProofs only [k_law5_AllocFull, haw, cl_some, un_not, Bool.not_true, Option.bind_some, condE_false, bin_lss, h1, decide_true, gdW_tf, gdW_tup, gQ_false, pickP_bool, if_true, condE_true]) rfl
  by_cases h2 : 12 < sp
  · exact ok_val (v := .bool true) (g := h) (by simp -implicitDefEqProofs only [k_law5_AllocFull, haw, cl_some, un_not, Bool.not_true, Option.bind_some, condE_false, bin_lss, bin_gtr, h1, h2, decide_true, decide_false, gdW_ff, gQ_true, gdW_tf, gdW_tup, gQ_false, pickP_bool, if_true, Bool.false_eq_true, if_false, condE_true]) rfl
  by_cases h3 : (120 : Int) < l.length
  · exact ok_val (v := .bool true) (g := h) (by simp -implicitDefEqProofs only [k_law5_AllocFull, haw, cl_some, un_not, Bool.not_true, Option.bind_some, condE_false, bin_lss, bin_gtr, h1, h2, hx.lnL, h3, decide_true, decide_false, gdW_ff, gQ_true, pickP_bool, if_true, Bool.false_eq_true, if_false, condE_true]) rfl
  obtain ⟨N, rfl⟩ : ∃ N : Nat, sp = N := ⟨sp.toNat, by omega⟩
  refine Ok.eq ?_ (by simp -implicitDefEqProofs only [k_law5_AllocFull, haw, cl_some, un_not, Bool.not_true, Option.bind_some, condE_false, bin_lss, bin_gtr, h1, h2, hx.lnL, h3, decide_false, gdW_ff, gQ_true, pickP_bool, Bool.false_eq_true, if_false]; rfl)
  refine ok_cl (made_ok N (by omega) (by omega)) ?_
  rintro _ g1 ⟨q, u, p, w, s, x, rfl, H, s1, b1, b2, b3, b4, b5⟩
  simp only at H s1
  have ht1 := ht.same s1 (by simp)
  refine Ok.eq ?_ (by simp -implicitDefEqProofs only [extractV_tup, List.getElem?_cons_zero, List.getElem?_cons_succ, Option.bind_some, eql_ptr_nil, condE_false]; rfl)
  refine ok_lp (full_L0 hx (by omega) b1 b2 b3 b4 b5 (by omega) H (fi_new N) ht1 s1) ?_
  rintro _ vs g2 ⟨rfl, a2, H2, hA2, hl2, ht2⟩
  simp only at H2 ht2
  have hl2' : a2.un.length = N := by rw [hl2]; simp
  refine Ok.eq ?_ (by simp -implicitDefEqProofs only [if_true, thenK_normal]; rfl)
  refine ok_cl (rclass_ok n g2) ?_
  rintro _ g3 ⟨rfl, s3⟩
  simp only at s3
  have H3 := H2.same s3 (by simp) (by simp) (by simp) (by simp) (by simp)
  have ht3 := ht2.same s3 (by simp)
  have hp := ht.pos
  by_cases hc : classOf n = -1
  · have lp0 : k_law5_AllocFull_L1 (.int .i64 N) (.ptr (some (p, 0))) (.int .i64 (classOf n)) (.bool false) (.int .i64 1) g3 = some (.exit 2, [.bool false, .int .i64 1], g3) := by
      have hlt : (1 : Int) < N := by omega
      have hge : ¬ (0 : Int) ≤ -1 := by decide
      obtain ⟨r, e, q⟩ := ok_loop (F := fun us g => k_law5_AllocFull_b1 (.int .i64 N) (.ptr (some (p, 0))) (.int .i64 (classOf n)) (us.getD 0 .bot) (us.getD 1 .bot) g) (Q := fun r => r = (.exit 2, [.bool false, .int .i64 1], g3)) (fun m vs g => vs = [.bool false, .int .i64 1] ∧ g3 = g) (by
        rintro m vs _ ⟨rfl, rfl⟩
        rw [gd0, gd1, hc]
        exact ⟨(.exit 2, [.bool false, .int .i64 1], g3), by simp -implicitDefEqProofs only [k_law5_AllocFull_b1, bin_lss, hlt, decide_true, Option.bind_some, gdW_tt, gQ_true, bin_geq, hge, decide_false, cl_some, pickP_bool, if_true, condE_false], .inr ⟨by simp, rfl⟩⟩) (n := 0) (by omega) ⟨rfl, rfl⟩
      rw [q] at e; exact e
    rw [lp0]
    refine Ok.eq ?_ (by simp -implicitDefEqProofs only [lp_some, if_true, thenK_normal]; rfl)
    refine ok_cl (atake_ok H3 ht3 (by omega) (by omega) (by omega) n) ?_
    rintro _ g4 ⟨rfl, H4, s4⟩
    have e := (take_fi hA2 n).2.2.1 hc
    have hlt : (-1 : Int) < 0 := by decide
    exact ok_val (v := .bool true) (g := g4) (by simp -implicitDefEqProofs only [extractV_tup, List.getElem?_cons_zero, List.getElem?_cons_succ, Option.bind_some, hc, bin_lss, hlt, decide_true, gdW_tt, gQ_true, cl_some, eql_int, e, pickP_bool, if_true, gdW_tf, gdW_tup, gQ_false]) rfl
  · have hr : 0 ≤ classOf n ∧ classOf n ≤ 5 := by
      rcases classOf_range n with h | h
      · exact absurd h hc
      · exact ⟨h.1, h.2.1⟩
    refine ok_lp (full_L1 H3 ht3 hA2 hr hl2' (by omega)) ?_
    rintro _ vs g4 ⟨rfl, hv, H4, ht4⟩
    simp only at hv H4 ht4
    refine Ok.eq ?_ (by simp -implicitDefEqProofs only [if_true, thenK_normal]; rfl)
    refine ok_cl (atake_ok H4 ht4 (by omega) (by omega) (by omega) n) ?_
    rintro _ g5 ⟨rfl, H5, s5⟩
    have e := (take_fi hA2 n).2.2.2 hc
    rw [← roomB_room hA2 hr, hl2'] at e
    have hlt : ¬ classOf n < 0 := by omega
    have hge : 0 ≤ classOf n := hr.1
    have hd : decide ((a2.take n).1.2 = 0) = roomB a2 (classOf n) N := by
      cases hb : roomB a2 (classOf n) N with
      | true => rw [hb] at e; simpa using e.2 rfl
      | false => rw [hb] at e; simp at e; simpa using e
    have hself : ∀ b : Bool, (b == b) = true := by decide
    exact ok_val (v := .bool true) (g := g5) (by simp -implicitDefEqProofs only [extractV_tup, List.getElem?_cons_zero, List.getElem?_cons_succ, Option.bind_some, bin_lss, hlt, decide_false, gdW_ft, gdW_tup, gQ_false, pickP_bool, Bool.false_eq_true, if_false, gdW_ff, gQ_true, cl_some, bin_geq, hge, decide_true, gdW_tt, eql_int, hd, hv, eql_bool, hself, if_true]) rfl
end Go.Ab.F

namespace Go.Ab.F
open Go Go.Ab
set_option linter.all false
attribute [local congr] c_bind c_cl c_mk c_lp c_clC c_gQ c_gV c_condE c_thenK

/-! AllocAgain: the plain law. -/
theorem cnt_set (f : Nat → Bool) (q : Nat) (hf : f q = false) : ∀ n, q < n → cnt (fun j => f j || decide (j = q)) n = cnt f n + 1
  | 0, h => by omega
  | n + 1, h => by
    rw [cnt, cnt]
    by_cases e : q = n
    · subst e
      have : cnt (fun j => f j || decide (j = q)) q = cnt f q := cnt_congr fun j hj => by
        have : ¬ j = q := by omega
        simp [this]
      rw [this, hf]; simp
    · rw [cnt_set f q hf n (by omega)]
      have : ¬ n = q := fun h => e h.symm
      simp [this]; omega
theorem ones_set {b : BitVec 64} {q : Nat} (hq : q < 64) (hb : b.getLsbD q = false) : ones (b ||| bitOf q) = ones b + 1 := by
  unfold ones
  rw [← cnt_set b.getLsbD q hb 64 hq]
  exact cnt_congr fun j hj => by rw [BitVec.getLsbD_or, bit_get q j hq]
/-- How many places a span has still. -/
def frAt (a : PAr) (c : Int) (s : Nat) : Nat := if s = 0 then 0 else if a.cls s = -1 then pls c else pls c - ones (a.taken s)
def fr (a : PAr) (c : Int) : Nat → Nat
  | 0 => 0
  | k + 1 => fr a c k + frAt a c k
theorem fr_same {a a' : PAr} {c : Int} : ∀ {k : Nat}, (∀ s, s < k → frAt a' c s = frAt a c s) → fr a' c k = fr a c k
  | 0, _ => rfl
  | k + 1, h => by rw [fr, fr, fr_same fun s hs => h s (by omega), h k (by omega)]
theorem fr_less {a a' : PAr} {c : Int} {m : Nat} (hm : frAt a' c m + 1 = frAt a c m) : ∀ {k : Nat}, m < k → (∀ s, s < k → s ≠ m → frAt a' c s = frAt a c s) → fr a' c k + 1 = fr a c k
  | 0, h, _ => by omega
  | k + 1, h, hs => by
    rw [fr, fr]
    by_cases e : m = k
    · subst e
      rw [fr_same fun s h' => hs s (by omega) (by omega)]; omega
    · have := fr_less hm (k := k) (by omega) fun s h' => hs s (by omega)
      rw [hs k (by omega) (fun h' => e h'.symm)]; omega
theorem fr_zero {a : PAr} {c : Int} : ∀ {k : Nat}, fr a c k = 0 ↔ ∀ s, s < k → frAt a c s = 0
  | 0 => by simp [fr]
  | k + 1 => by
    rw [fr]
    constructor
    · intro h s hs
      by_cases e : s = k
      · subst e; omega
      · exact (fr_zero (k := k)).1 (by omega) s (by omega)
    · intro h
      rw [fr_zero.2 fun s hs => h s (by omega), h k (by omega)]
structure Gd (l : PAl) (c : Int) (N f : Nat) : Prop where
  fi : Fi l
  len : l.un.length = N
  uni : ∀ s : Int, l.ar.has s → (l.ar.at s).cls = -1 ∨ (l.ar.at s).cls = c
  md : ∀ s : Int, l.ar.has s → (l.ar.at s).md = 0
  free : fr l.ar c N = f
/-- What a taking changes: one span. -/
theorem gd_take {a : PAr} {n : Int} (hn : a.has n) {c : Int} (hc : 0 ≤ c ∧ c ≤ 5) (ha : (a.at n).cls = c) (hroom : first0 (a.at n).tk < pls c) :
    (a.take n).2.1 = 0 ∧ (a.take n).2.2.at n = ⟨c, (a.at n).tk ||| bitOf (first0 (a.at n).tk), (a.at n).md &&& ~~~ bitOf (first0 (a.at n).tk)⟩ ∧ (∀ m, a.has m → m ≠ n → (a.take n).2.2.at m = a.at m) ∧ (∀ m, (a.take n).2.2.has m ↔ a.has m) := by
  obtain ⟨P0, P1, P2, W1, W2, _⟩ := pls_eq hc
  unfold PAr.take
  rw [if_neg (by rw [cls_at hn, ha]; omega), ha, if_neg (by omega)]
  exact ⟨rfl, PAr.setS_at _ hn, fun m hm hne => PAr.setS_ne _ hn hm hne, fun m => a.setS_has n m _⟩
theorem frAt_at {a : PAr} {c : Int} {s : Nat} (hs : a.has s) : frAt a c s = if (a.at s).cls = -1 then pls c else pls c - ones (a.at s).tk := by
  unfold frAt
  have h1 := hs.1
  rw [if_neg (by omega), cls_at hs]
  unfold PAr.taken
  rw [cls_at hs]
  by_cases h : (a.at s).cls = -1
  · rw [if_pos h, if_pos h]
  · rw [if_neg h, if_neg h, if_neg h]
theorem gd_of {l l' : PAl} {c : Int} {N f : Nat} (hc : 0 ≤ c ∧ c ≤ 5) (H : Gd l c N f) (hfi : Fi l') (hl : l'.un.length = N) {m : Nat} (hm : l.ar.has m) (hw : (l.ar.at m).cls = -1 ∧ 0 < pls c ∨ (l.ar.at m).cls = c ∧ ones (l.ar.at m).tk < pls c)
    {q : Nat} (hq : q < 64) (hat : l'.ar.at m = ⟨c, (if (l.ar.at m).cls = -1 then 0 else (l.ar.at m).tk) ||| bitOf q, (if (l.ar.at m).cls = -1 then 0 else (l.ar.at m).md) &&& ~~~ bitOf q⟩) (hb : (if (l.ar.at m).cls = -1 then 0 else (l.ar.at m).tk).getLsbD q = false)
    (hne : ∀ n, l.ar.has n → n ≠ m → l'.ar.at n = l.ar.at n) (hh : ∀ n, l'.ar.has n ↔ l.ar.has n) : Gd l' c N (f - 1) ∧ 1 ≤ f := by
  have hlen : m < N := by have := hm.2; rw [← H.fi.len, H.len] at this; omega
  have key : fr l'.ar c N + 1 = fr l.ar c N := by
    refine fr_less ?_ hlen fun s hs hsm => ?_
    · rw [frAt_at hm, frAt_at ((hh m).2 hm), hat]
      have hcn : ¬ c = -1 := by omega
      simp only
      rw [if_neg hcn, ones_set hq hb]
      rcases hw with ⟨h1, h2⟩ | ⟨h1, h2⟩
      · rw [if_pos h1, if_pos h1]
        have : ones (0 : BitVec 64) = 0 := by decide
        rw [this]; omega
      · have : ¬ (l.ar.at m).cls = -1 := by omega
        rw [if_neg this, if_neg this]; omega
    · by_cases h0 : l.ar.has s
      · rw [frAt_at h0, frAt_at ((hh s).2 h0), hne s h0 (by omega)]
      · have e : s = 0 := by
          apply Classical.byContradiction
          intro hs0
          exact h0 ⟨by omega, by rw [← H.fi.len, H.len]; omega⟩
        subst e; rfl
  have hfr := H.free
  refine ⟨⟨hfi, hl, fun s hs => ?_, fun s hs => ?_, by omega⟩, by omega⟩
  · have hs' := (hh s).1 hs
    by_cases e : s = m
    · rw [e, hat]; exact .inr rfl
    · rw [hne s hs' e]; exact H.uni s hs'
  · have hs' := (hh s).1 hs
    by_cases e : s = m
    · rw [e, hat]
      show (if (l.ar.at m).cls = -1 then 0 else (l.ar.at m).md) &&& _ = 0
      rw [H.md m hm]; simp
    · rw [hne s hs' e]; exact H.md s hs'
theorem take_gd {l : PAl} {words : Int} {N f : Nat} (h1 : classOf words ≠ -1) (H : Gd l (classOf words) N f) :
    (f = 0 → (l.take words).1.2 = 5 ∧ (l.take words).2 = l) ∧ (f ≠ 0 → (l.take words).1.2 = 0 ∧ Gd (l.take words).2 (classOf words) N (f - 1)) := by
  have hc : 0 ≤ classOf words ∧ classOf words ≤ 5 := by
    rcases classOf_range words with h | h
    · exact absurd h h1
    · exact ⟨h.1, h.2.1⟩
  unfold PAl.take
  rw [if_neg h1]
  generalize classOf words = c at *
  obtain ⟨P0, P1, P2, W1, W2, _⟩ := pls_eq hc
  have hlen := H.len
  have hsl := H.fi.len
  have hcn : ¬ c = -1 := by omega
  rcases scan1_fi H.fi hc l.un.length 0 with ⟨a1, a2⟩ | ⟨m, b1, b2, b3, b4⟩
  · rw [a2]
    simp only
    unfold PAl.more
    rcases scan2_fi (l := l) c (l.un.length - 1) 1 with ⟨c1, c2⟩ | ⟨m, d1, d2, d3, d4⟩
    · rw [c2]
      simp only
      unfold PAl.more2
      rw [scan3_fi H.fi]
      refine ⟨fun _ => ⟨rfl, rfl⟩, fun hf => absurd ?_ hf⟩
      rw [← H.free, fr_zero]
      intro s hs
      by_cases h0 : s = 0
      · subst h0; rfl
      · have hh : l.ar.has s := ⟨by omega, by omega⟩
        have hcs := c1 s (by omega) (by omega)
        have hu := H.uni s hh
        rw [cls_at hh] at hcs
        have hcl : l.ar.cls s = c := by rw [cls_at hh]; rcases hu with h | h; exact absurd h hcs; exact h
        have hnr := a1 s (by omega) (by omega)
        have hfull : l.ar.taken s = fullB c := Classical.byContradiction fun h => hnr ⟨hcl, h⟩
        have : ¬ (ones (l.ar.taken s) : Int) < placesOf c := fun h => (ones_room hc hcl H.fi.ar).1 h hfull
        unfold frAt
        rw [if_neg h0, if_neg (by omega)]; omega
    · rw [d4]
      simp only
      have hm : l.ar.has m := ⟨by omega, by omega⟩
      obtain ⟨e1, e2, e3⟩ := begin_fi H.fi hc hm d3
      have hcl : (l.ar.at m).cls = -1 := by rw [← cls_at hm]; exact d3
      have hset : l.ar.set m c = (0, l.ar.setS m ⟨c, 0, 0⟩) := by
        unfold PAr.set
        rw [if_neg (fun h => h.elim (fun h => h hm) (fun h => by omega)), if_neg (fun h => h hcl)]
      have hat := PAr.setS_at ⟨c, 0, 0⟩ hm
      have hm2 := (l.ar.setS_has m m ⟨c, 0, 0⟩).2 hm
      have f0 : first0 (0 : BitVec 64) = 0 := by decide
      obtain ⟨t1, t2, t3, t4⟩ := gd_take (a := l.ar.setS m ⟨c, 0, 0⟩) hm2 hc (by rw [hat]) (by rw [hat]; show first0 0 < _; rw [f0]; omega)
      rw [hat] at t2
      simp only [f0] at t2
      have hbu : (l.beginU m c).2.ar = ((l.ar.setS m ⟨c, 0, 0⟩).take m).2.2 := by unfold PAl.beginU; rw [hset]
      have hg := gd_of (l' := (l.beginU m c).2) hc H e2 (by rw [e2.len, e3, ← hsl]; exact hlen) hm (.inl ⟨hcl, by omega⟩) (q := 0) (by decide) (by rw [hbu, t2, if_pos hcl, if_pos hcl]) (by rw [if_pos hcl]; rfl)
        (fun n hn hne => by rw [hbu, t3 n ((l.ar.setS_has m n _).2 hn) hne, PAr.setS_ne _ hm hn hne]) (fun n => by rw [hbu, t4, l.ar.setS_has])
      exact ⟨fun hf => by omega, fun _ => ⟨e1, hg.1⟩⟩
  · rw [b4]
    simp only
    obtain ⟨hn, hcl, ⟨j, hj, hb⟩, hbd⟩ := roomAt_bit hc b3 H.fi.ar
    obtain ⟨u1, u2, u3⟩ := take_err hn hc hcl hj hb hbd H.fi.ar
    have hfl := first0_lt (b := (l.ar.at m).tk) (q := j) (by omega) hb
    obtain ⟨t1, t2, t3, t4⟩ := gd_take hn hc hcl (by omega)
    have hones := (ones_room hc b3.1 H.fi.ar).2 b3.2
    have htk : l.ar.taken m = (l.ar.at m).tk := by unfold PAr.taken; rw [if_neg (by rw [b3.1]; omega)]
    rw [htk] at hones
    have hcn' : ¬ (l.ar.at m).cls = -1 := by omega
    have hg := gd_of (l' := ⟨(l.ar.take m).2.2, l.un⟩) hc H ⟨H.fi.un, u2, by show l.un.length = _; rw [u3]; exact hsl⟩ hlen hn (.inr ⟨hcl, by omega⟩) (q := first0 (l.ar.at m).tk) (by omega) (by rw [if_neg hcn', if_neg hcn']; exact t2) (by rw [if_neg hcn']; exact hfl.2) t3 t4
    exact ⟨fun hf => by omega, fun _ => ⟨t1, hg.1⟩⟩
/-- A full heap's sweeps, as a place is asked for. -/
structure Sw2 (l0 l : PAl) (c : Int) (N n : Nat) : Prop where
  len : l.un.length = N
  sl : l.ar.sp.length = N
  old : ∀ s : Nat, s < n → (l.un[s]?).getD false = false ∧ (1 ≤ s → l.ar.at s = ⟨-1, 0, 0⟩)
  new : ∀ s : Nat, n ≤ s → (1 ≤ s → s < N → (l.un[s]?).getD false = true ∧ (l.ar.at s).cls = c ∧ (l.ar.at s).md = 0)
theorem scan1_sweeps {l0 : PAl} {c : Int} (hc : 0 ≤ c ∧ c ≤ 5) {N : Nat} : ∀ (k n : Nat) (l : PAl), n + k = N → Sw2 l0 l c N n → ((l.un[0]?).getD false = false) → ∃ l', PAl.scan1 c k n l = (none, l') ∧ Sw2 l0 l' c N N
  | 0, n, l, hk, H, _ => by
    have e : n = N := by omega
    subst e
    exact ⟨l, rfl, H⟩
  | k + 1, n, l, hk, H, hz => by
    rw [PAl.scan1]
    by_cases h0 : n = 0
    · subst h0
      have : l.ar.cls (0 : Nat) ≠ c := by
        unfold PAr.cls
        rw [if_neg (fun h => by have := h.1; omega)]; omega
      rw [if_pos this]
      refine scan1_sweeps hc k 1 l (by omega) ⟨H.len, H.sl, fun s hs => ?_, fun s hs => H.new s (by omega)⟩ hz
      obtain rfl : s = 0 := by omega
      exact ⟨hz, fun h => by omega⟩
    · have hh : l.ar.has n := ⟨by omega, by rw [H.sl]; omega⟩
      obtain ⟨n1, n2, n3⟩ := H.new n (Nat.le_refl _) (by omega) (by omega)
      have hcl : l.ar.cls n = c := by rw [cls_at hh]; exact n2
      have hat : l.at1 c n = l.sweepU n := by unfold PAl.at1; rw [if_pos n1]
      have hsw : (l.ar.sweep n).2 = l.ar.setS n ⟨-1, 0, 0⟩ := by
        unfold PAr.sweep
        rw [if_neg (by omega), if_pos (by rw [n3]; simp)]
      have hcl2 : (l.sweepU n).ar.cls n ≠ c := by
        show (l.ar.sweep n).2.cls n ≠ c
        rw [hsw, PAr.setS_cls _ hh, if_pos rfl]
        show (-1 : Int) ≠ c
        omega
      rw [if_neg (fun h => h hcl), hat, if_neg (fun h => hcl2 h.1)]
      have hsl := sweepL_len l n
      refine scan1_sweeps hc k (n + 1) (l.sweepU n) (by omega) ⟨hsl.1.trans H.len, hsl.2.trans H.sl, fun s hs => ?_, fun s hs h1 h2 => ?_⟩ ?_
      · show ((l.un.set n false)[s]?).getD false = false ∧ (1 ≤ s → (l.ar.sweep n).2.at s = _)
        rw [hsw]
        by_cases e : s = n
        · subst e
          refine ⟨by rw [List.getElem?_set_self (by rw [H.len]; omega)]; rfl, fun _ => PAr.setS_at _ hh⟩
        · rw [List.getElem?_set_ne (fun h => e h.symm)]
          obtain ⟨o1, o2⟩ := H.old s (by omega)
          refine ⟨o1, fun h1 => ?_⟩
          rw [PAr.setS_ne _ hh ⟨by omega, by rw [H.sl]; omega⟩ (by omega)]; exact o2 h1
      · show ((l.un.set n false)[s]?).getD false = true ∧ ((l.ar.sweep n).2.at s).cls = c ∧ ((l.ar.sweep n).2.at s).md = 0
        rw [hsw, List.getElem?_set_ne (by omega), PAr.setS_ne _ hh ⟨by omega, by rw [H.sl]; omega⟩ (by omega)]
        exact H.new s (by omega) h1 h2
      · show ((l.un.set n false)[0]?).getD false = false
        rw [List.getElem?_set_ne h0]; exact hz
theorem fr_none {a : PAr} {c : Int} {N : Nat} (h : ∀ s : Nat, 1 ≤ s → s < N → a.cls s = -1) : ∀ k, k ≤ N → fr a c k = (k - 1) * pls c
  | 0, _ => by simp [fr]
  | k + 1, hk => by
    rw [fr, fr_none h k (by omega)]
    unfold frAt
    by_cases e : k = 0
    · subst e; simp
    · rw [if_neg e, if_pos (h k (by omega) (by omega))]
      have : k + 1 - 1 = (k - 1) + 1 := by omega
      rw [this, Nat.succ_mul]
theorem gd_new (N : Nat) (c : Int) (hN : 8 ≤ N) : Gd ⟨newA N, List.replicate N false⟩ c N ((N - 1) * pls c) := by
  have hl : (newA N).sp.length = N := by show (List.replicate N _).length = N; simp
  have hat : ∀ s : Int, (newA N).has s → (newA N).at s = ⟨-1, 0, 0⟩ := fun s hs => by
    have h1 := hs.1
    have h2 := hs.2
    rw [hl] at h2
    unfold PAr.at newA
    simp only
    rw [List.getElem?_replicate, if_pos (by omega)]; rfl
  refine ⟨fi_new N, by simp, fun s hs => ?_, fun s hs => ?_, ?_⟩
  · left; show ((newA N).at s).cls = -1; rw [hat s hs]
  · show ((newA N).at s).md = 0; rw [hat s hs]
  · refine fr_none (fun s h1 h2 => ?_) N (Nat.le_refl _)
    have hh : (newA N).has s := ⟨by omega, by rw [hl]; omega⟩
    show (newA N).cls s = -1
    rw [cls_at hh, hat s hh]
/-- Behind Stale, a full heap takes as a new one does. -/
theorem stale_take {l : PAl} {words : Int} {N : Nat} (hN : 8 ≤ N) (h1 : classOf words ≠ -1) (H : Gd l (classOf words) N 0) :
    ∃ l0, Gd l0 (classOf words) N ((N - 1) * pls (classOf words)) ∧ l.stale.take words = l0.take words := by
  have hc : 0 ≤ classOf words ∧ classOf words ≤ 5 := by
    rcases classOf_range words with h | h
    · exact absurd h h1
    · exact ⟨h.1, h.2.1⟩
  obtain ⟨P0, P1, P2, W1, W2, _⟩ := pls_eq hc
  have hz := fr_zero.1 H.free
  have hsl : l.ar.sp.length = N := by rw [← H.fi.len]; exact H.len
  have hcls : ∀ s : Nat, 1 ≤ s → s < N → (l.ar.at s).cls = classOf words := fun s hs1 hs2 => by
    have hh : l.ar.has s := ⟨by omega, by omega⟩
    have := hz s hs2
    rw [frAt_at hh] at this
    rcases H.uni s hh with h | h
    · rw [if_pos h] at this; omega
    · exact h
  have hst : Sw2 l l.stale (classOf words) N 0 := by
    refine ⟨by simp [PAl.stale, H.len], hsl, fun s hs => by omega, fun s _ hs1 hs2 => ?_⟩
    have hh : l.ar.has s := ⟨by omega, by omega⟩
    refine ⟨?_, hcls s hs1 hs2, H.md s hh⟩
    have : l.ar.cls s ≠ -1 := by rw [cls_at hh, hcls s hs1 hs2]; exact h1
    have hsN : s < l.un.length := by rw [H.len]; exact hs2
    simp [PAl.stale, hsN, this]
  have h00 : (l.stale.un[0]?).getD false = false := by
    have : l.ar.cls (0 : Nat) = -1 := by unfold PAr.cls; rw [if_neg (fun h => by have := h.1; omega)]
    have hsN : 0 < l.un.length := by rw [H.len]; omega
    have this : l.ar.cls 0 = -1 := this
    simp [PAl.stale, hsN, this]
  have hslen : l.stale.un.length = N := hst.len
  obtain ⟨l', e1, e2⟩ := scan1_sweeps hc N 0 l.stale (by omega) hst h00
  have hatl : ∀ s : Int, l'.ar.has s → l'.ar.at s = ⟨-1, 0, 0⟩ := fun s hs => by
    have g1 := hs.1
    have g2 := hs.2
    rw [e2.sl] at g2
    have := (e2.old s.toNat (by omega)).2 (by omega)
    rwa [show ((s.toNat : Nat) : Int) = s by omega] at this
  have hfi : Fi l' := by
    refine ⟨fun i => ?_, fun s hs => .inl (by rw [hatl s hs]), by rw [e2.len, e2.sl]⟩
    by_cases hi : i < N
    · exact (e2.old i hi).1
    · rw [List.getElem?_eq_none (by rw [e2.len]; omega)]; rfl
  have hgd : Gd l' (classOf words) N ((N - 1) * pls (classOf words)) := by
    refine ⟨hfi, e2.len, fun s hs => .inl (by rw [hatl s hs]), fun s hs => by rw [hatl s hs], fr_none (fun s hs1 hs2 => ?_) N (Nat.le_refl _)⟩
    have hh : l'.ar.has s := ⟨by omega, by rw [e2.sl]; omega⟩
    rw [cls_at hh, hatl s hh]
  refine ⟨l', hgd, ?_⟩
  unfold PAl.take
  rw [if_neg h1, if_neg h1, hslen, e1, e2.len]
  rcases scan1_fi hfi hc N 0 with ⟨a1, a2⟩ | ⟨m, b1, b2, b3, b4⟩
  · rw [a2]
  · have hmN : m < N := by omega
    exfalso
    obtain ⟨hn, _⟩ := roomAt_bit hc b3 hfi.ar
    have := b3.1
    rw [cls_at hn, hatl m hn] at this
    simp at this; omega
end Go.Ab.F

namespace Go.Ab.F
open Go Go.Ab
set_option linter.all false
attribute [local congr] c_bind c_cl c_mk c_lp c_clC c_gQ c_gV c_condE c_thenK

section
variable {q u p w s : Nat}
/-- A taking that goes as a good one's. -/
def Like (l : PAl) (words : Int) (N f : Nat) : Prop := ∃ l0, Gd l0 (classOf words) N f ∧ l.take words = l0.take words
theorem like_step {l : PAl} {words : Int} {N f : Nat} (h1 : classOf words ≠ -1) (H : Like l words N f) :
    (f = 0 → (l.take words).1.2 = 5 ∧ Gd (l.take words).2 (classOf words) N 0) ∧ (f ≠ 0 → (l.take words).1.2 = 0 ∧ Like (l.take words).2 words N (f - 1)) := by
  obtain ⟨l0, hg, he⟩ := H
  rw [he]
  have := take_gd h1 hg
  exact ⟨fun hf => by rw [(this.1 hf).2]; exact ⟨(this.1 hf).1, hf ▸ hg⟩, fun hf => ⟨(this.2 hf).1, _, (this.2 hf).2, rfl⟩⟩
theorem again_L0 {g : Heap} {l : PAl} {words : Int} {N F : Nat} (h1 : classOf words ≠ -1) (hF : F ≤ 1000) (H : AlAt g q u p w s l) (ht : Tab0 g) (hs0 : s ≠ 0) (hu0 : u ≠ 0) (hw0 : w ≠ 0) (hL : Like l words N F) :
    Ok (k_law5_AllocAgain_L0 (.int .i64 words) (.ptr (some (q, 0))) (.bool false) (.int .i64 0) g) fun r => r.1 = .exit 0 ∧ r.2.1 = [.bool false, .int .i64 F] ∧ ∃ l', AlAt r.2.2 q u p w s l' ∧ Gd l' (classOf words) N 0 ∧ Tab0 r.2.2 := by
  refine ok_loop (fun m vs g => ∃ (i : Nat) (l' : PAl), vs = [.bool false, .int .i64 i] ∧ m + i = F ∧ AlAt g q u p w s l' ∧ Tab0 g ∧ Like l' words N m) ?_ (n := F) (by omega) ⟨0, l, rfl, rfl, H, ht, hL⟩
  rintro m vs g ⟨i, l', rfl, hm, H, ht, hL⟩
  rw [gd0, gd1]
  refine Ok.eq ?_ (by unfold k_law5_AllocAgain_b0; rfl)
  refine ok_cl (atake_ok H ht hs0 hu0 hw0 words) ?_
  rintro _ g1 ⟨rfl, H1, s1⟩
  simp only at H1 s1
  have ht1 := ht.same s1 (by simp; omega)
  have st := like_step h1 hL
  by_cases hf : m = 0
  · obtain ⟨e1, e2⟩ := st.1 hf
    have n5 : ¬ (5 : Int) = 0 := by decide
    refine (Ok.of (r := (.exit 0, [.bool false, .int .i64 (i : Int)], g1)) ?_).eq (by
      simp -implicitDefEqProofs only [extractV_tup, List.getElem?_cons_zero, List.getElem?_cons_succ, Option.bind_some, e1, neq_int, n5, decide_false, Bool.not_false, condE_true])
    exact .inr ⟨by simp, rfl, by rw [show i = F by omega], _, H1, e2, ht1⟩
  · obtain ⟨e1, e2⟩ := st.2 hf
    have hle : ¬ (1000 : Int) < ((i + 1 : Nat) : Int) := by omega
    refine (Ok.of (r := (.normal, [.bool false, .int .i64 ((i + 1 : Nat) : Int)], g1)) ?_).eq (by
      simp -implicitDefEqProofs only [extractV_tup, List.getElem?_cons_zero, List.getElem?_cons_succ, Option.bind_some, e1, neq_int, decide_true, Bool.not_true, condE_false, bin_add, suc64 i (by omega), bin_gtr, hle, decide_false])
    exact .inl ⟨rfl, m - 1, by omega, i + 1, _, rfl, by omega, H1, ht1, e2⟩
theorem again_L1 {g : Heap} {l : PAl} {words : Int} {N F : Nat} (h1 : classOf words ≠ -1) (hF : F ≤ 1000) (H : AlAt g q u p w s l) (ht : Tab0 g) (hs0 : s ≠ 0) (hu0 : u ≠ 0) (hw0 : w ≠ 0) (hL : Like l words N F) :
    Ok (k_law5_AllocAgain_L1 (.int .i64 words) (.ptr (some (q, 0))) (.bool false) (.int .i64 0) g) fun r => r.1 = .exit 2 ∧ r.2.1 = [.bool false, .int .i64 F] ∧ ∃ l', AlAt r.2.2 q u p w s l' ∧ Gd l' (classOf words) N 0 ∧ Tab0 r.2.2 := by
  refine ok_loop (fun m vs g => ∃ (i : Nat) (l' : PAl), vs = [.bool false, .int .i64 i] ∧ m + i = F ∧ AlAt g q u p w s l' ∧ Tab0 g ∧ Like l' words N m) ?_ (n := F) (by omega) ⟨0, l, rfl, rfl, H, ht, hL⟩
  rintro m vs g ⟨i, l', rfl, hm, H, ht, hL⟩
  rw [gd0, gd1]
  refine Ok.eq ?_ (by unfold k_law5_AllocAgain_b1; rfl)
  refine ok_cl (atake_ok H ht hs0 hu0 hw0 words) ?_
  rintro _ g1 ⟨rfl, H1, s1⟩
  simp only at H1 s1
  have ht1 := ht.same s1 (by simp; omega)
  have st := like_step h1 hL
  by_cases hf : m = 0
  · obtain ⟨e1, e2⟩ := st.1 hf
    have n5 : ¬ (5 : Int) = 0 := by decide
    refine (Ok.of (r := (.exit 2, [.bool false, .int .i64 (i : Int)], g1)) ?_).eq (by
      simp -implicitDefEqProofs only [extractV_tup, List.getElem?_cons_zero, List.getElem?_cons_succ, Option.bind_some, e1, neq_int, n5, decide_false, Bool.not_false, condE_true])
    exact .inr ⟨by simp, rfl, by rw [show i = F by omega], _, H1, e2, ht1⟩
  · obtain ⟨e1, e2⟩ := st.2 hf
    have hle : ¬ (1000 : Int) < ((i + 1 : Nat) : Int) := by omega
    refine (Ok.of (r := (.normal, [.bool false, .int .i64 ((i + 1 : Nat) : Int)], g1)) ?_).eq (by
      simp -implicitDefEqProofs only [extractV_tup, List.getElem?_cons_zero, List.getElem?_cons_succ, Option.bind_some, e1, neq_int, decide_true, Bool.not_true, condE_false, bin_add, suc64 i (by omega), bin_gtr, hle, decide_false])
    exact .inl ⟨rfl, m - 1, by omega, i + 1, _, rfl, by omega, H1, ht1, e2⟩
end
theorem gd_is {l : PAl} {c : Int} {N : Nat} (hc : 0 ≤ c ∧ c ≤ 5) (hN : 8 ≤ N ∧ N ≤ 512) (H : Gd l c N 0) : l.ar.is 64 = true := by
  obtain ⟨P0, P1, P2, W1, W2, _⟩ := pls_eq hc
  have hz := fr_zero.1 H.free 1 (by omega)
  have hsl : l.ar.sp.length = N := by rw [← H.fi.len]; exact H.len
  have hh : l.ar.has 1 := ⟨by omega, by omega⟩
  have hz : frAt l.ar c 1 = 0 := hz
  rw [frAt_at hh] at hz
  have hcl : (l.ar.at (1 : Nat)).cls = c := by
    rcases H.uni 1 hh with h | h
    · have h : (l.ar.at (1 : Nat)).cls = -1 := h
      rw [if_pos h] at hz; omega
    · exact h
  have hne : ¬ (l.ar.at (1 : Nat)).cls = -1 := by omega
  rw [if_neg hne] at hz
  have hcl' : (l.ar.at 1).cls = c := hcl
  have htk : (l.ar.at 1).tk.getLsbD 0 = true := by
    have hb := H.fi.ar 1 hh
    rw [hcl'] at hb
    have hbd : ∀ j, pls c ≤ j → (l.ar.at 1).tk.getLsbD j = false := by
      rcases hb with h | h
      · omega
      · exact h.2.2
    cases hb0 : (l.ar.at 1).tk.getLsbD 0 with
    | true => rfl
    | false =>
      exfalso
      have e : ∀ j, j < 64 → (l.ar.at 1).tk.getLsbD j = (decide (j < pls c) && (l.ar.at 1).tk.getLsbD j) := fun j _ => by
        by_cases hjp : j < pls c
        · simp [hjp]
        · simp [hjp, hbd j (by omega)]
      have h1 : ones (l.ar.at 1).tk = cnt (l.ar.at 1).tk.getLsbD (pls c) := by
        unfold ones; rw [cnt_congr e, cnt_and, Nat.min_eq_left (by omega)]
      have hnz : cnt (fun j => !(l.ar.at 1).tk.getLsbD j) (pls c) ≠ 0 := fun hz' => by
        have := cnt_zero.1 hz' 0 (by omega)
        rw [hb0] at this; cases this
      have := cnt_not (l.ar.at 1).tk.getLsbD (pls c)
      have hz' : pls c - ones (l.ar.at 1).tk = 0 := hz
      omega
  have hf := find_at (a := l.ar) (n := 1) (by omega) hh (q := 0) (by rw [hcl']; omega)
  rw [htk] at hf
  simp only [Int.one_mul, if_true] at hf
  have e64 : (64 : Int) + ((0 : Nat) : Int) * wordsOf (l.ar.at 1).cls = 64 := by simp
  rw [e64] at hf
  unfold PAr.is
  rw [hf]; rfl
theorem gd_left {l : PAl} {c : Int} {N f : Nat} (H : Gd l c N f) : l.left = 0 := by
  unfold PAl.left
  exact cnt_zero.2 fun j _ => H.fi.un j
theorem again_true {h : Heap} (hsub : Sub hQ1 h) (hn1 : 1 ≤ h.next) (sp words : Int) : Ok (k_law5_AllocAgain (.int .i64 sp) (.int .i64 words) h) fun r => r.1 = .bool true := by
  have ht := tab0_sub hsub hn1
  have haw : k_law5_awake h = some (.bool true, h) := quiet_pos hsub
  by_cases h1 : sp < 8
  · exact ok_val (v := .bool true) (g := h) (by simp -implicitDefEqProofs only [k_law5_AllocAgain, haw, cl_some, un_not, Bool.not_true, Option.bind_some, condE_false, bin_lss, h1, decide_true, gdW_tf, gdW_tup, gQ_false, pickP_bool, if_true, condE_true]) rfl
  by_cases h2 : 16 < sp
  · exact ok_val (v := .bool true) (g := h) (by simp -implicitDefEqProofs only [k_law5_AllocAgain, haw, cl_some, un_not, Bool.not_true, Option.bind_some, condE_false, bin_lss, bin_gtr, h1, h2, decide_true, decide_false, gdW_ff, gQ_true, gdW_tf, gdW_tup, gQ_false, pickP_bool, if_true, Bool.false_eq_true, if_false, condE_true]) rfl
  by_cases h3 : words < 1
  · exact ok_val (v := .bool true) (g := h) (by simp -implicitDefEqProofs only [k_law5_AllocAgain, haw, cl_some, un_not, Bool.not_true, Option.bind_some, condE_false, bin_lss, bin_gtr, h1, h2, h3, decide_true, decide_false, gdW_ff, gQ_true, gdW_tf, gdW_tup, gQ_false, pickP_bool, if_true, Bool.false_eq_true, if_false, condE_true]) rfl
  by_cases h4 : 64 < words
  · exact ok_val (v := .bool true) (g := h) (by simp -implicitDefEqProofs only [k_law5_AllocAgain, haw, cl_some, un_not, Bool.not_true, Option.bind_some, condE_false, bin_lss, bin_gtr, h1, h2, h3, h4, decide_true, decide_false, gdW_ff, gQ_true, pickP_bool, if_true, Bool.false_eq_true, if_false, condE_true]) rfl
  obtain ⟨N, rfl⟩ : ∃ N : Nat, sp = N := ⟨sp.toNat, by omega⟩
  have hcw : classOf words ≠ -1 := by
    unfold classOf
    repeat' split
    all_goals omega
  have hc : 0 ≤ classOf words ∧ classOf words ≤ 5 := by
    rcases classOf_range words with h | h
    · exact absurd h hcw
    · exact ⟨h.1, h.2.1⟩
  obtain ⟨P0, P1, P2, W1, W2, _⟩ := pls_eq hc
  have hF : (N - 1) * pls (classOf words) ≤ 1000 := by
    have := Nat.mul_le_mul (show N - 1 ≤ 15 by omega) P2
    omega
  have hF1 : 1 ≤ (N - 1) * pls (classOf words) := Nat.mul_pos (by omega) P1
  refine Ok.eq ?_ (by simp -implicitDefEqProofs only [k_law5_AllocAgain, haw, cl_some, un_not, Bool.not_true, Option.bind_some, condE_false, bin_lss, bin_gtr, h1, h2, h3, h4, decide_false, gdW_ff, gQ_true, pickP_bool, Bool.false_eq_true, if_false]; rfl)
  refine ok_cl (made_ok N (by omega) (by omega)) ?_
  rintro _ g1 ⟨q, u, p, w, s, x, rfl, H, s1, b1, b2, b3, b4, b5⟩
  simp only at H s1
  have ht1 := ht.same s1 (by simp)
  refine Ok.eq ?_ (by simp -implicitDefEqProofs only [extractV_tup, List.getElem?_cons_zero, List.getElem?_cons_succ, Option.bind_some, eql_ptr_nil, condE_false]; rfl)
  refine ok_lp (again_L0 hcw hF H ht1 (by omega) (by omega) (by omega) ⟨_, gd_new N (classOf words) (by omega), rfl⟩) ?_
  rintro _ _ g2 ⟨rfl, rfl, l2, H2, G2, ht2⟩
  simp only at H2 ht2
  refine Ok.eq ?_ (by simp -implicitDefEqProofs only [if_true, thenK_normal, gd0, gd1]; rfl)
  refine ok_cl (stale_ok H2) ?_
  rintro _ g3 ⟨-, H3, s3⟩
  simp only at H3 s3
  have ht3 := ht2.same s3 (by simp; omega)
  refine ok_lp (again_L1 hcw hF H3 ht3 (by omega) (by omega) (by omega) (stale_take (by omega) hcw G2)) ?_
  rintro _ _ g4 ⟨rfl, rfl, l4, H4, G4, ht4⟩
  simp only at H4 ht4
  have hpos : (0 : Int) < (((N - 1) * pls (classOf words) : Nat) : Int) := by omega
  obtain ⟨rl, el, ql⟩ := left_eq H4
  rw [ql] at el
  rw [gd_left G4] at el
  have el : k_alloc_Alloc_Left (.ptr (some (q, 0))) g4 = some (.int .i64 0, g4) := el
  exact ok_val (v := .bool true) (g := g4) (by
    simp -implicitDefEqProofs only [if_true, thenK_normal, gd1, eql_int, decide_true, Option.bind_some, gdW_tt, gQ_true, cl_some, bin_gtr, hpos, pickP_bool, el, is_eq H4.ar, gd_is hc ⟨by omega, by omega⟩ G4]) rfl
end Go.Ab.F
