import Derived.Test.YtfenhliknhmihaaDoorB3
namespace Go.Ab.F
open Go Go.Ab
set_option linter.all false
attribute [local congr] c_bind c_cl c_mk c_lp c_clC c_gQ c_gV c_condE c_thenK

/-! AllocFull: the plain law. -/
/-- Classes may be; no place beyond a span's own is taken. -/
def ArFi (a : PAr) : Prop := ∀ n, a.has n → (a.at n).cls = -1 ∨ (0 ≤ (a.at n).cls ∧ (a.at n).cls ≤ 5 ∧ ∀ j, pls (a.at n).cls ≤ j → (a.at n).tk.getLsbD j = false)
structure Fi (l : PAl) : Prop where
  un : ∀ i : Nat, (l.un[i]?).getD false = false
  ar : ArFi l.ar
  len : l.un.length = l.ar.sp.length
theorem take_err {a : PAr} {n : Int} (hn : a.has n) {c : Int} (hc : 0 ≤ c ∧ c ≤ 5) (ha : (a.at n).cls = c) {j : Nat} (hj : j < pls c) (hb : (a.at n).tk.getLsbD j = false) (hbd : ∀ j, pls c ≤ j → (a.at n).tk.getLsbD j = false) (hfi : ArFi a) :
    (a.take n).2.1 = 0 ∧ ArFi (a.take n).2.2 ∧ (a.take n).2.2.sp.length = a.sp.length := by
  obtain ⟨P0, P1, P2, W1, W2, _⟩ := pls_eq hc
  have hf := first0_lt (b := (a.at n).tk) (q := j) (by omega) hb
  unfold PAr.take
  rw [if_neg (by rw [cls_at hn, ha]; omega), ha, if_neg (by omega)]
  refine ⟨rfl, fun m hm => ?_, a.setS_len _ _⟩
  have hm' : a.has m := (a.setS_has n m _).1 hm
  by_cases e : m = n
  · subst e
    right
    show 0 ≤ ((a.setS m _).at m).cls ∧ ((a.setS m _).at m).cls ≤ 5 ∧ ∀ j, pls ((a.setS m _).at m).cls ≤ j → ((a.setS m _).at m).tk.getLsbD j = false
    rw [PAr.setS_at _ hn]
    refine ⟨hc.1, hc.2, fun k hk => ?_⟩
    have hk' : pls c ≤ k := hk
    have hne : ¬ k = first0 (a.at m).tk := by omega
    show ((a.at m).tk ||| bitOf (first0 (a.at m).tk)).getLsbD k = false
    rw [BitVec.getLsbD_or, hbd k hk', bit_get _ k (by omega)]; simp [hne]
  · show ((a.setS n _).at m).cls = -1 ∨ (0 ≤ ((a.setS n _).at m).cls ∧ ((a.setS n _).at m).cls ≤ 5 ∧ ∀ j, pls ((a.setS n _).at m).cls ≤ j → ((a.setS n _).at m).tk.getLsbD j = false)
    rw [PAr.setS_ne _ hn hm' e]
    exact hfi m hm'
/-- A span of this class has room. -/
def roomAt (a : PAr) (c n : Int) : Prop := a.cls n = c ∧ a.taken n ≠ fullB c
instance (a : PAr) (c n : Int) : Decidable (roomAt a c n) := by unfold roomAt; infer_instance
theorem roomAt_bit {a : PAr} {c n : Int} (hc : 0 ≤ c ∧ c ≤ 5) (h : roomAt a c n) (hfi : ArFi a) : a.has n ∧ (a.at n).cls = c ∧ (∃ j, j < pls c ∧ (a.at n).tk.getLsbD j = false) ∧ ∀ j, pls c ≤ j → (a.at n).tk.getLsbD j = false := by
  obtain ⟨P0, P1, P2, W1, W2, _⟩ := pls_eq hc
  obtain ⟨h1, h2⟩ := h
  obtain ⟨hn, he⟩ := cls_has (a := a) (n := n) (by omega)
  have hcl : (a.at n).cls = c := by rw [← he, h1]
  have ht : a.taken n = (a.at n).tk := by unfold PAr.taken; rw [if_neg (by omega)]
  rw [ht] at h2
  have hbd : ∀ j, pls c ≤ j → (a.at n).tk.getLsbD j = false := by
    rcases hfi n hn with h | h
    · omega
    · rw [hcl] at h; exact h.2.2
  refine ⟨hn, hcl, ?_, hbd⟩
  apply Classical.byContradiction
  intro hno
  apply h2
  apply BitVec.eq_of_getLsbD_eq
  intro j hj
  rw [full_bits hc j hj]
  by_cases hjp : j < pls c
  · cases hb : (a.at n).tk.getLsbD j with
    | true => simp [hjp]
    | false => exact absurd ⟨j, hjp, hb⟩ hno
  · rw [hbd j (by omega)]; simp [hjp]
theorem ones_room {a : PAr} {c n : Int} (hc : 0 ≤ c ∧ c ≤ 5) (h1 : a.cls n = c) (hfi : ArFi a) : (ones (a.taken n) : Int) < placesOf c ↔ a.taken n ≠ fullB c := by
  obtain ⟨P0, P1, P2, W1, W2, _⟩ := pls_eq hc
  have hfull : ones (fullB c) = pls c := by
    unfold ones
    have e : ∀ j, j < 64 → (fullB c).getLsbD j = (decide (j < pls c) && true) := fun j hj => by rw [full_bits hc j hj]; simp
    rw [cnt_congr e, cnt_and, Nat.min_eq_left (by omega)]
    have : ∀ k, cnt (fun _ => true) k = k := fun k => by
      induction k with
      | zero => rfl
      | succ k ih => rw [cnt, ih]; rfl
    exact this _
  constructor
  · intro h e; rw [e, hfull] at h; omega
  · intro h
    obtain ⟨hn, hcl, ⟨j, hj, hb⟩, hbd⟩ := roomAt_bit hc ⟨h1, h⟩ hfi
    have ht : a.taken n = (a.at n).tk := by unfold PAr.taken; rw [if_neg (by omega)]
    rw [ht]
    have e : ∀ j, j < 64 → (a.at n).tk.getLsbD j = (decide (j < pls c) && (a.at n).tk.getLsbD j) := fun j _ => by
      by_cases hjp : j < pls c
      · simp [hjp]
      · simp [hjp, hbd j (by omega)]
    have : ones (a.at n).tk = cnt (a.at n).tk.getLsbD (pls c) := by
      unfold ones; rw [cnt_congr e, cnt_and, Nat.min_eq_left (by omega)]
    rw [this]
    have hz : cnt (fun j => !(a.at n).tk.getLsbD j) (pls c) ≠ 0 := fun hz => by
      have := cnt_zero.1 hz j hj
      rw [hb] at this; cases this
    have := cnt_not (a.at n).tk.getLsbD (pls c)
    omega
theorem scan1_fi {l : PAl} (H : Fi l) {c : Int} (hc : 0 ≤ c ∧ c ≤ 5) : ∀ (k n : Nat),
    ((∀ m : Nat, n ≤ m → m < n + k → ¬ roomAt l.ar c m) ∧ PAl.scan1 c k n l = (none, l)) ∨
    (∃ m : Nat, n ≤ m ∧ m < n + k ∧ roomAt l.ar c m ∧ PAl.scan1 c k n l = (some ((l.ar.take m).1, (l.ar.take m).2.1), ⟨(l.ar.take m).2.2, l.un⟩))
  | 0, n => .inl ⟨fun m h1 h2 => by omega, rfl⟩
  | k + 1, n => by
    have hat : l.at1 c n = l := by unfold PAl.at1; rw [if_neg (by rw [H.un n]; decide)]
    have rest : ¬ roomAt l.ar c n → PAl.scan1 c (k + 1) n l = PAl.scan1 c k (n + 1) l := by
      intro hr
      rw [PAl.scan1]
      by_cases h1 : l.ar.cls n ≠ c
      · rw [if_pos h1]
      · rw [if_neg h1, hat, if_neg (show ¬ (l.ar.cls n = c ∧ l.ar.taken n ≠ fullB c) from hr)]
    by_cases hr : roomAt l.ar c n
    · right
      refine ⟨n, Nat.le_refl _, by omega, hr, ?_⟩
      rw [PAl.scan1, if_neg (fun h => h hr.1), hat, if_pos (show l.ar.cls n = c ∧ l.ar.taken n ≠ fullB c from hr)]
    · rw [rest hr]
      rcases scan1_fi H hc k (n + 1) with ⟨h1, h2⟩ | ⟨m, h1, h2, h3, h4⟩
      · refine .inl ⟨fun m hm hm' => ?_, h2⟩
        by_cases e : m = n
        · subst e; exact hr
        · exact h1 m (by omega) (by omega)
      · exact .inr ⟨m, by omega, by omega, h3, h4⟩
theorem scan2_fi {l : PAl} (c : Int) : ∀ (k n : Nat),
    ((∀ m : Nat, n ≤ m → m < n + k → ¬ l.ar.cls m = -1) ∧ PAl.scan2 c k n l = (none, l)) ∨
    (∃ m : Nat, n ≤ m ∧ m < n + k ∧ l.ar.cls m = -1 ∧ PAl.scan2 c k n l = (some (l.beginU m c).1, (l.beginU m c).2))
  | 0, n => .inl ⟨fun m h1 h2 => by omega, rfl⟩
  | k + 1, n => by
    by_cases hr : l.ar.cls n = -1
    · exact .inr ⟨n, Nat.le_refl _, by omega, hr, by rw [PAl.scan2, if_pos hr]⟩
    · rw [PAl.scan2, if_neg hr]
      rcases scan2_fi c k (n + 1) with ⟨h1, h2⟩ | ⟨m, h1, h2, h3, h4⟩
      · refine .inl ⟨fun m hm hm' => ?_, h2⟩
        by_cases e : m = n
        · subst e; exact hr
        · exact h1 m (by omega) (by omega)
      · exact .inr ⟨m, by omega, by omega, h3, h4⟩
theorem scan3_fi {l : PAl} (H : Fi l) (c : Int) : ∀ (k n : Nat), PAl.scan3 c k n l = (none, l)
  | 0, n => rfl
  | k + 1, n => by rw [PAl.scan3, if_neg (by rw [H.un n]; decide)]; exact scan3_fi H c k (n + 1)
theorem begin_fi {l : PAl} (H : Fi l) {c : Int} (hc : 0 ≤ c ∧ c ≤ 5) {m : Nat} (hm : l.ar.has m) (h1 : l.ar.cls m = -1) : (l.beginU m c).1.2 = 0 ∧ Fi (l.beginU m c).2 ∧ (l.beginU m c).2.ar.sp.length = l.ar.sp.length := by
  obtain ⟨P0, P1, P2, W1, W2, _⟩ := pls_eq hc
  have hcl : (l.ar.at m).cls = -1 := by rw [← cls_at hm]; exact h1
  have hset : l.ar.set m c = (0, l.ar.setS m ⟨c, 0, 0⟩) := by
    unfold PAr.set
    rw [if_neg (fun h => h.elim (fun h => h hm) (fun h => by omega)), if_neg (fun h => h hcl)]
  have hat := PAr.setS_at ⟨c, 0, 0⟩ hm
  have hfi : ArFi (l.ar.setS m ⟨c, 0, 0⟩) := fun n hn => by
    have hn' := (l.ar.setS_has m n _).1 hn
    by_cases e : n = m
    · subst e; rw [hat]; right; exact ⟨hc.1, hc.2, fun j _ => by simp⟩
    · rw [PAr.setS_ne _ hm hn' e]; exact H.ar n hn'
  obtain ⟨t1, t2, t3⟩ := take_err (a := l.ar.setS m ⟨c, 0, 0⟩) ((l.ar.setS_has m m _).2 hm) hc (by rw [hat]) (j := 0) (by omega) (by rw [hat]; simp) (fun j _ => by rw [hat]; simp) hfi
  have e1 : (l.beginU m c).1.2 = ((l.ar.setS m ⟨c, 0, 0⟩).take m).2.1 := by unfold PAl.beginU; rw [hset]
  have e2 : (l.beginU m c).2 = ⟨((l.ar.setS m ⟨c, 0, 0⟩).take m).2.2, l.un.set m false⟩ := by unfold PAl.beginU; rw [hset]
  rw [e1, e2]
  refine ⟨t1, ⟨fun i => ?_, t2, ?_⟩, by rw [t3, l.ar.setS_len]⟩
  · show ((l.un.set m false)[i]?).getD false = false
    by_cases e : m = i
    · subst e
      by_cases hl : m < l.un.length
      · rw [List.getElem?_set_self hl]; rfl
      · rw [List.getElem?_eq_none (by simp; omega)]; rfl
    · rw [List.getElem?_set_ne e]; exact H.un i
  · show (l.un.set m false).length = _
    rw [List.length_set, t3, l.ar.setS_len]; exact H.len
/-- Is there room for a place of a class? -/
def room (l : PAl) (c : Int) : Prop := ∃ s : Nat, 1 ≤ s ∧ s < l.un.length ∧ (l.ar.cls s = -1 ∨ roomAt l.ar c s)
theorem take_fi {l : PAl} (H : Fi l) (n : Int) : Fi (l.take n).2 ∧ (l.take n).2.ar.sp.length = l.ar.sp.length ∧ (classOf n = -1 → (l.take n).1.2 = 1) ∧ (classOf n ≠ -1 → ((l.take n).1.2 = 0 ↔ room l (classOf n))) := by
  unfold PAl.take
  by_cases h1 : classOf n = -1
  · rw [if_pos h1]; exact ⟨H, rfl, fun _ => rfl, fun h => absurd h1 h⟩
  rw [if_neg h1]
  have hc : 0 ≤ classOf n ∧ classOf n ≤ 5 := by
    rcases classOf_range n with h | h
    · exact absurd h h1
    · exact ⟨h.1, h.2.1⟩
  generalize classOf n = c at *
  have hlen := H.len
  rcases scan1_fi H hc l.un.length 0 with ⟨a1, a2⟩ | ⟨m, b1, b2, b3, b4⟩
  · rw [a2]
    simp only
    unfold PAl.more
    rcases scan2_fi (l := l) c (l.un.length - 1) 1 with ⟨c1, c2⟩ | ⟨m, d1, d2, d3, d4⟩
    · rw [c2]
      simp only
      unfold PAl.more2
      rw [scan3_fi H]
      refine ⟨H, rfl, fun h => absurd h h1, fun _ => ⟨fun h => by simp at h, fun ⟨s, s1, s2, s3⟩ => ?_⟩⟩
      rcases s3 with s3 | s3
      · exact absurd s3 (c1 s s1 (by omega))
      · exact absurd s3 (a1 s (by omega) (by omega))
    · rw [d4]
      simp only
      have hm : l.ar.has m := ⟨by omega, by omega⟩
      obtain ⟨e1, e2, e3⟩ := begin_fi H hc hm d3
      exact ⟨e2, e3, fun h => absurd h h1, fun _ => ⟨fun _ => ⟨m, by omega, by omega, .inl d3⟩, fun _ => e1⟩⟩
  · rw [b4]
    simp only
    obtain ⟨hn, hcl, ⟨j, hj, hb⟩, hbd⟩ := roomAt_bit hc b3 H.ar
    obtain ⟨t1, t2, t3⟩ := take_err hn hc hcl hj hb hbd H.ar
    refine ⟨⟨H.un, t2, by show l.un.length = _; rw [t3]; exact hlen⟩, t3, fun h => absurd h h1, fun _ => ⟨fun _ => ⟨m, ?_, by omega, .inr b3⟩, fun _ => t1⟩⟩
    have := hn.1; omega
theorem fi_new (N : Nat) : Fi ⟨newA N, List.replicate N false⟩ := by
  refine ⟨fun i => ?_, fun n hn => ?_, by show (List.replicate N false).length = (List.replicate N _).length; simp⟩
  · by_cases h : i < N
    · simp [h]
    · simp [h]
  · left
    have h2 := hn.2
    have : (newA N).sp.length = N := by show (List.replicate N _).length = N; simp
    rw [this] at h2
    have h1 := hn.1
    unfold PAr.at newA
    simp only
    rw [List.getElem?_replicate, if_pos (by omega)]; rfl
theorem rones_eq (b : BitVec 64) (h : Heap) : k_ref1_Ones (.int .u64 b.toNat) h = some (.int .i64 (ones b), h) := by
  obtain ⟨r, e, q⟩ := rones_ok b h
  rw [e, q]

/-! The walk. -/
section
variable {q u p w s : Nat}
theorem full_L0 {h g : Heap} {x1 : AV} {l : List Int} {a : PAl} (hx : RdC h 1 x1 (l.map fun n => .int .i64 n) l.length) (hN : l.length ≤ 120) (hq : h.next ≤ q) (hu : h.next ≤ u) (hp : h.next ≤ p) (hw : h.next ≤ w) (hs : h.next ≤ s) (h0 : 0 < h.next)
    (H : AlAt g q u p w s a) (hA : Fi a) (ht : Tab0 g) (hS : Same [] h g) :
    Ok (k_law5_AllocFull_L0 x1 (.ptr (some (q, 0))) (.int .i64 0) g) fun r => r.1 = .exit 0 ∧ ∃ a', AlAt r.2.2 q u p w s a' ∧ Fi a' ∧ a'.un.length = a.un.length ∧ Tab0 r.2.2 := by
  refine ok_loop (fun m vs g => ∃ (i : Nat) (a' : PAl), vs = [.int .i64 i] ∧ m + i = l.length ∧ AlAt g q u p w s a' ∧ Fi a' ∧ a'.un.length = a.un.length ∧ Tab0 g ∧ Same [] h g) ?_ (n := l.length) (by omega) ⟨0, a, rfl, rfl, H, hA, rfl, ht, hS⟩
  rintro m vs g ⟨i, a', rfl, hm, H, hA, hl, ht, hS⟩
  rw [gd0]
  by_cases hi : i < l.length
  · have hlt : (i : Int) < l.length := by omega
    obtain ⟨b, hbn, hbg, hix⟩ := hx.ix hi
    have hld : ldS g (.ptr (some (b, i))) = some (.int .i64 l[i]) := by
      rw [ldS_at ((hS.get b hbn (by simp)).trans hbg)]; simp [hi]
    generalize l[i] = x at hld
    rw [Nat.mul_one] at hix
    refine Ok.eq ?_ (by simp -implicitDefEqProofs only [k_law5_AllocFull_b0, hx.lnL, Option.bind_some, bin_lss, hlt, decide_true, condE_true, hix, hld]; rfl)
    refine ok_cl (atake_ok H ht (by omega) (by omega) (by omega) x) ?_
    rintro _ g1 ⟨-, H1, s1⟩
    simp only at H1 s1
    obtain ⟨f1, f2, _⟩ := take_fi hA x
    refine (Ok.of (r := (.normal, [.int .i64 ((i + 1 : Nat) : Int)], g1)) ?_).eq (by simp -implicitDefEqProofs only [bin_add, suc64 i (by omega), Option.bind_some])
    refine .inl ⟨rfl, m - 1, by omega, i + 1, _, rfl, by omega, H1, f1, ?_, ht.same s1 (by simp; omega), hS.old s1 (by simp; omega)⟩
    rw [f1.len, f2, ← hA.len]; exact hl
  · have hlt : ¬ (i : Int) < l.length := by omega
    refine (Ok.of (r := (.exit 0, [.int .i64 (i : Int)], g)) ?_).eq (by simp -implicitDefEqProofs only [k_law5_AllocFull_b0, hx.lnL, Option.bind_some, bin_lss, hlt, decide_false, condE_false])
    exact .inr ⟨by simp, rfl, a', H, hA, hl, ht⟩
/-- Whether there is room, as the statement asks it. -/
def roomB (a : PAl) (c : Int) : Nat → Bool
  | 0 => false
  | s + 1 => roomB a c s || (decide (1 ≤ s) && (decide (a.ar.cls s < 0) || (decide (a.ar.cls s = c) && decide ((ones (a.ar.taken s) : Int) < placesOf c))))
theorem roomB_room {a : PAl} (hA : Fi a) {c : Int} (hc : 0 ≤ c ∧ c ≤ 5) : roomB a c a.un.length = true ↔ room a c := by
  have key : ∀ k, roomB a c k = true ↔ ∃ s : Nat, 1 ≤ s ∧ s < k ∧ (a.ar.cls s = -1 ∨ roomAt a.ar c s) := by
    intro k
    induction k with
    | zero => simp [roomB]
    | succ k ih =>
      simp only [roomB, Bool.or_eq_true, Bool.and_eq_true, decide_eq_true_eq, ih]
      have neg : a.ar.cls k < 0 ↔ a.ar.cls k = -1 := by
        constructor
        · intro h
          unfold PAr.cls at h ⊢
          split at h
          · rename_i hn
            rw [if_pos hn]
            rcases hA.ar k hn with h' | h'
            · exact h'
            · omega
          · rename_i hn; rw [if_neg hn]
        · intro h; omega
      have rm : (a.ar.cls k = c ∧ (ones (a.ar.taken k) : Int) < placesOf c) ↔ roomAt a.ar c k := by
        constructor
        · rintro ⟨h1, h2⟩; exact ⟨h1, (ones_room hc h1 hA.ar).1 h2⟩
        · rintro ⟨h1, h2⟩; exact ⟨h1, (ones_room hc h1 hA.ar).2 h2⟩
      rw [neg, rm]
      constructor
      · rintro (⟨s, h1, h2, h3⟩ | ⟨h1, h2⟩)
        · exact ⟨s, h1, by omega, h3⟩
        · exact ⟨k, h1, by omega, h2⟩
      · rintro ⟨s, h1, h2, h3⟩
        by_cases e : s = k
        · subst e; exact .inr ⟨h1, h3⟩
        · exact .inl ⟨s, h1, by omega, h3⟩
  exact key _
theorem full_L1 {g : Heap} {a : PAl} (H : AlAt g q u p w s a) (ht : Tab0 g) (hA : Fi a) {c : Int} (hc : 0 ≤ c ∧ c ≤ 5) {N : Nat} (hN : a.un.length = N) (h8 : 8 ≤ N ∧ N ≤ 12) :
    Ok (k_law5_AllocFull_L1 (.int .i64 N) (.ptr (some (p, 0))) (.int .i64 c) (.bool false) (.int .i64 1) g) fun r => r.1 = .exit 2 ∧ r.2.1.getD 0 .bot = .bool (roomB a c N) ∧ AlAt r.2.2 q u p w s a ∧ Tab0 r.2.2 := by
  refine ok_loop (fun m vs g => ∃ (i : Nat), vs = [.bool (roomB a c i), .int .i64 i] ∧ m + i = N ∧ 1 ≤ i ∧ AlAt g q u p w s a ∧ Tab0 g) ?_ (n := N - 1) (by omega) ⟨1, by simp [roomB], by omega, Nat.le_refl _, H, ht⟩
  rintro m vs g ⟨i, rfl, hm, h1, H, ht⟩
  rw [gd0, gd1]
  have hc0 : (0 : Int) ≤ c := hc.1
  by_cases hi : i < N
  · have hlt : (i : Int) < N := by omega
    have hsc := suc64 i (by omega)
    have e0 : roomB a c (i + 1) = (roomB a c i || (decide (a.ar.cls i < 0) || (decide (a.ar.cls i = c) && decide ((ones (a.ar.taken i) : Int) < placesOf c)))) := by
      rw [roomB]; simp [h1]
    have fin : ∀ (b : Bool) (g' : Heap), AlAt g' q u p w s a → Tab0 g' → roomB a c (i + 1) = b →
        Ok (some ((Ex.normal, [AV.bool b, AV.int .i64 ((i + 1 : Nat) : Int)], g') : Ex × List AV × Heap)) fun r => (r.1 = .normal ∧ ∃ m', m' < m ∧ (∃ (i : Nat), r.2.1 = [.bool (roomB a c i), .int .i64 i] ∧ m' + i = N ∧ 1 ≤ i ∧ AlAt r.2.2 q u p w s a ∧ Tab0 r.2.2)) ∨ (r.1 ≠ .normal ∧ r.1 = .exit 2 ∧ r.2.1.getD 0 .bot = .bool (roomB a c N) ∧ AlAt r.2.2 q u p w s a ∧ Tab0 r.2.2) := by
      intro b g' H' ht' hb
      exact Ok.of (.inl ⟨rfl, m - 1, by omega, i + 1, by rw [hb], by omega, by omega, H', ht'⟩)
    rcases bool_cases (roomB a c i) with hr | hr
    · refine Ok.eq (fin true g H ht (by rw [e0, hr]; rfl)) (by
        rw [hr]
        simp -implicitDefEqProofs only [k_law5_AllocFull_b1, bin_lss, hlt, decide_true, Option.bind_some, gdW_tt, gQ_true, bin_geq, hc0, cl_some, pickP_bool, if_true, condE_true, gdW_tf, gdW_tup, gQ_false, bin_add, hsc])
    · by_cases hk : a.ar.cls i < 0
      · refine Ok.eq (fin true g H ht (by rw [e0, hr]; simp [hk])) (by
          rw [hr]
          simp -implicitDefEqProofs only [k_law5_AllocFull_b1, bin_lss, hlt, decide_true, Option.bind_some, gdW_tt, gQ_true, bin_geq, hc0, cl_some, pickP_bool, if_true, condE_true, gdW_ff, class_eq H.ar, hk, gdW_tf, gdW_tup, gQ_false, Bool.false_eq_true, if_false, bin_add, hsc])
      · by_cases hk2 : a.ar.cls i = c
        · have hk' : ¬ c < 0 := by omega
          rw [hr]
          refine Ok.eq ?_ (by
            simp -implicitDefEqProofs only [k_law5_AllocFull_b1, bin_lss, hlt, decide_true, Option.bind_some, gdW_tt, gQ_true, bin_geq, hc0, cl_some, pickP_bool, if_true, condE_true, gdW_ff, class_eq H.ar, hk2, hk', decide_false, Bool.false_eq_true, if_false, eql_int, taken_eq H.ar, rones_eq, cl_id]
            rfl)
          refine ok_cl (rplaces_ok c g) ?_
          rintro _ g2 ⟨rfl, s2⟩
          simp only at s2
          have H2 := H.same s2 (by simp) (by simp) (by simp) (by simp) (by simp)
          refine Ok.eq (fin (decide ((ones (a.ar.taken i) : Int) < placesOf c)) g2 H2 (ht.same s2 (by simp)) (by rw [e0, hr]; simp [hk, hk2]; intro h; rw [hk2] at hk; exact absurd h hk)) (by
            simp -implicitDefEqProofs only [bin_lss, Option.bind_some, gdW_ff, gQ_true, cl_some, pickP_bool, if_true, Bool.false_eq_true, if_false, bin_add, hsc])
        · refine Ok.eq (fin false g H ht (by rw [e0, hr]; simp [hk, hk2])) (by
            rw [hr]
            simp -implicitDefEqProofs only [k_law5_AllocFull_b1, bin_lss, hlt, decide_true, Option.bind_some, gdW_tt, gQ_true, bin_geq, hc0, cl_some, pickP_bool, if_true, condE_true, gdW_ff, class_eq H.ar, hk, decide_false, Bool.false_eq_true, if_false, hk2, eql_int, gdW_ft, gdW_tup, gQ_false, bin_add, hsc])
  · have hlt : ¬ (i : Int) < N := by omega
    obtain rfl : i = N := by omega
    refine (Ok.of (r := (.exit 2, [.bool (roomB a c i), .int .i64 (i : Int)], g)) ?_).eq (by simp -implicitDefEqProofs only [k_law5_AllocFull_b1, bin_lss, hlt, decide_false, Option.bind_some, gdW_ft, gdW_tup, gQ_false, pickP_bool, Bool.false_eq_true, if_false, condE_false])
    exact .inr ⟨by simp, rfl, rfl, H, ht⟩
end
end Go.Ab.F
