import Derived.Test.YtmpinijdejafkaaDoorCyl
import Derived.Test.YtmpinijdejafkaaDoorHfo
import Derived.Test.YtmpinijdejafkaaDoorChn

namespace Go.Ab.F
open Go Go.Ab
set_option linter.all false
set_option linter.all false

/-! What a whole collection leaves, where things hold addresses: what can be come to. -/
inductive Rch (T : List Shp) (a : PAr) (G : List Int) : Int → Prop
  | root {x : Int} : x ∈ G → a.find x ≠ none → Rch T a G x
  | step {x y : Int} : Rch T a G x → y ∈ fieldsL T a x → a.find y ≠ none → Rch T a G y
theorem Rch.found {T : List Shp} {a : PAr} {G : List Int} {x : Int} (h : Rch T a G x) : a.find x ≠ none := by
  cases h <;> assumption
theorem shadeL_q : ∀ (L : List Int) {a : PAr} (q : List Int), Wf a → ∀ y, (y ∈ (shadeL a q L).2 → y ∈ q ∨ (y ∈ L ∧ a.find y ≠ none)) ∧ (y ∈ q → y ∈ (shadeL a q L).2) ∧ ((shadeL a q L).1.isM y = true → a.isM y = true ∨ y ∈ (shadeL a q L).2)
  | [], a, q, H, y => ⟨.inl, id, .inl⟩
  | x :: L, a, q, H, y => by
    have S := mark_same a x
    have hm := mark_isM H x
    obtain ⟨h1, h2, h3⟩ := shadeL_q L (if (a.mark x).1 then q ++ [x] else q) (S.wf H) y
    rw [shadeL]
    refine ⟨fun h => ?_, fun h => ?_, fun h => ?_⟩
    · rcases h1 h with h | ⟨h, hf⟩
      · cases hb : (a.mark x).1 with
        | false => rw [hb] at h; exact .inl (by simpa using h)
        | true =>
          rw [hb] at h
          rw [if_pos rfl, List.mem_append, List.mem_singleton] at h
          rcases h with h | rfl
          · exact .inl h
          · exact .inr ⟨List.mem_cons_self .., (hm.1.1 hb).1⟩
      · exact .inr ⟨List.mem_cons_of_mem _ h, by rw [← S.find]; exact hf⟩
    · apply h2
      split
      · exact List.mem_append_left _ h
      · exact h
    · rcases h3 h with h | h
      · rcases (hm.2 y).1 h with h | ⟨rfl, hf⟩
        · exact .inl h
        · cases hi : a.isM y with
          | true => exact .inl rfl
          | false =>
            right
            apply h2
            rw [if_pos (hm.1.2 ⟨hf, hi⟩)]
            simp
      · exact .inr h
/-- While it goes on. -/
structure Mk (T : List Shp) (a0 : PAr) (G : List Int) (a : PAr) (q : List Int) : Prop where
  same : SameTk a0 a
  snd : ∀ x, a.isM x = true → Rch T a0 G x
  root : ∀ x, x ∈ G → a0.find x ≠ none → a.isM x = true
  qm : ∀ x ∈ q, a.isM x = true
  cl : ∀ x, a.isM x = true → x ∈ q ∨ ∀ y ∈ fieldsL T a0 x, a0.find y ≠ none → a.isM y = true
theorem mr_mk {T : List Shp} {a0 : PAr} {G : List Int} (H : Wf a0) {a a' : PAr} {q : List Int} (h : MR T a q a') : Mk T a0 G a q → Mk T a0 G a' [] := by
  induction h with
  | done a => exact id
  | step h ih =>
    rename_i a x q a'
    intro M
    apply ih
    have Wa := M.same.wf H
    have hx := M.qm x (List.mem_cons_self ..)
    have ef : fieldsL T a x = fieldsL T a0 x := M.same.fields T x
    rw [ef]
    have hM := shadeL_isM (fieldsL T a0 x) q Wa
    have hQ := shadeL_q (fieldsL T a0 x) q Wa
    refine ⟨M.same.trans (shadeL_same _ _ _), fun y hy => ?_, fun y h1 h2 => (hM y).2 (.inl (M.root y h1 h2)), fun y hy => ?_, fun y hy => ?_⟩
    · rcases (hM y).1 hy with h | ⟨h1, h2⟩
      · exact M.snd y h
      · exact Rch.step (M.snd x hx) h1 (by rw [← M.same.find]; exact h2)
    · rcases (hQ y).1 hy with h | ⟨h1, h2⟩
      · exact (hM y).2 (.inl (M.qm y (List.mem_cons_of_mem _ h)))
      · exact (hM y).2 (.inr ⟨h1, h2⟩)
    · rcases (hQ y).2.2 hy with h | h
      · rcases M.cl y h with h | h
        · rcases List.mem_cons.1 h with rfl | h
          · exact .inr fun z hz hf => (hM z).2 (.inr ⟨hz, by rw [M.same.find]; exact hf⟩)
          · exact .inl ((hQ y).2.1 h)
        · exact .inr fun z hz hf => (hM z).2 (.inl (h z hz hf))
      · exact .inl h
theorem mk_end {T : List Shp} {a0 : PAr} {G : List Int} {a : PAr} (M : Mk T a0 G a []) (x : Int) : a.isM x = true ↔ Rch T a0 G x := by
  constructor
  · exact M.snd x
  · intro h
    induction h with
    | root h1 h2 => exact M.root _ h1 h2
    | step _ h1 h2 ih =>
      rcases M.cl _ ih with h | h
      · simp at h
      · exact h _ h1 h2
theorem Rch.same {T : List Shp} {a b : PAr} (S : SameTk a b) {G : List Int} {x : Int} (h : Rch T b G x) : Rch T a G x := by
  induction h with
  | root h1 h2 => exact Rch.root h1 (by rw [← S.find]; exact h2)
  | step _ h1 h2 ih => exact Rch.step ih (by rw [← S.fields]; exact h1) (by rw [← S.find]; exact h2)
theorem whole_all {T : List Shp} {l l' : PAl} {G : List Int} (H : Wf l.ar) (hu : l.un.length = l.ar.sp.length) (h : WholeR T l G l') : Whole l.ar l' (fun ad => Rch T l.ar G ad) := by
  obtain ⟨a', h1, h2⟩ := h
  have S1 := clear_same l.ar
  have Wc := S1.wf H
  have hm := shadeL_isM G [] Wc
  have hq := shadeL_q G [] Wc
  have M0 : Mk T l.ar.clear G (shadeL l.ar.clear [] G).1 (shadeL l.ar.clear [] G).2 :=
    { same := shadeL_same _ _ _
      snd := fun x hx => by
        rcases (hm x).1 hx with h | ⟨h3, h4⟩
        · rw [clear_isM] at h; cases h
        · exact Rch.root h3 h4
      root := fun x h3 h4 => (hm x).2 (.inr ⟨h3, h4⟩)
      qm := fun x hx => by
        rcases (hq x).1 hx with h | ⟨h3, h4⟩
        · simp at h
        · exact (hm x).2 (.inr ⟨h3, h4⟩)
      cl := fun x hx => by
        rcases (hq x).2.2 hx with h | h
        · rw [clear_isM] at h; cases h
        · exact .inl h }
  have M := mr_mk Wc h1 M0
  have S := S1.trans M.same
  have hM : ∀ x, a'.isM x = true ↔ Rch T l.ar G x := fun x => (mk_end M x).trans ⟨Rch.same S1, Rch.same S1.cov⟩
  obtain ⟨Sw, un⟩ := sw_swp h2 (swp_stale (S.wf H) (by rw [S.len]; exact hu))
  have hf : ∀ ad, l'.ar.find ad ≠ none ↔ l.ar.find ad ≠ none ∧ Rch T l.ar G ad := fun ad => by
    constructor
    · intro h
      obtain ⟨⟨m, q⟩, h⟩ := Option.ne_none_iff_exists'.1 h
      obtain ⟨h1, h2⟩ := (Sw.find ad m q).1 h
      have := (hM ad).1 (h2 (un _))
      exact ⟨this.found, this⟩
    · rintro ⟨h1, h2⟩
      obtain ⟨⟨m, q⟩, h⟩ := Option.ne_none_iff_exists'.1 h1
      have := (Sw.find ad m q).2 ⟨by rw [S.find]; exact h, fun _ => (hM ad).2 h2⟩
      rw [this]; simp
  refine ⟨Sw.wf, Sw.len.trans S.len, Sw.ul, un, hf, fun ad W hL hK => Sw.lies ad W (S.lies hL) ((hf ad).2 ⟨hK.found, hK⟩), fun m hm => ?_⟩
  by_cases h : 0 ≤ m
  · rcases (Sw.cls m h).2 (un _) with h | ⟨_, ad, q, h⟩
    · exact absurd h hm
    · exact ⟨ad, q, h⟩
  · exfalso
    apply hm
    unfold PAr.cls
    rw [if_neg (fun h' => h (by have := h'.1; omega))]
end Go.Ab.F

namespace Go.Ab.F
open Go Go.Ab
set_option linter.all false
set_option linter.all false

/-! How many places are taken in all. -/
def tot (a : PAr) : Nat → Nat
  | 0 => 0
  | k + 1 => tot a k + ones (a.taken (k : Int))
def numOf (a : PAr) (ad : Int) : Nat := (spanOf ad).toNat * 64 + (placeOf ad (a.cls (spanOf ad))).toNat
theorem find_num {a : PAr} {ad m : Int} {q : Nat} (h : a.find ad = some (m, q)) : a.has m ∧ a.cls m = (a.at m).cls ∧ 0 ≤ a.cls m ∧ a.cls m ≤ 5 ∧ q < 32 ∧ (a.at m).tk.getLsbD q = true ∧ numOf a ad = m.toNat * 64 + q ∧ ad = m * 64 + q * wordsOf (a.cls m) := by
  obtain ⟨f1, f2, f3, f4, f5, f6, f7⟩ := find_some h
  have hc := cls_at f1
  obtain ⟨P0, P1, P2, _⟩ := pls_eq (c := (a.at m).cls) ⟨f6, f7⟩
  have hp : (placeOf ad (a.cls (spanOf ad))).toNat = q := by
    unfold PAr.find at h
    split at h
    · cases h
    · injection h with h
      injection h
  refine ⟨f1, hc, by omega, by omega, by omega, f4, ?_, by rw [hc]; exact f5⟩
  unfold numOf
  rw [hp, ← f2]
theorem tot_cnt {a : PAr} (H : Wf a) {D : List Int} (hf : ∀ ad, a.find ad ≠ none ↔ ad ∈ D) : ∀ k, tot a k = cnt (fun j => D.any fun ad => decide (numOf a ad = j)) (k * 64)
  | 0 => by simp [tot, cnt]
  | k + 1 => by
    rw [tot, tot_cnt H hf k, Nat.succ_mul, cnt_add]
    congr 1
    unfold ones
    apply cnt_congr
    intro i hi
    rw [Bool.eq_iff_iff, List.any_eq_true]
    constructor
    · intro hb
      have hc : a.cls (k : Int) ≠ -1 := fun h => by unfold PAr.taken at hb; rw [if_pos h] at hb; simp at hb
      obtain ⟨hn, he⟩ := cls_has hc
      have hb2 : (a.at (k : Int)).tk.getLsbD i = true := by unfold PAr.taken at hb; rw [if_neg hc] at hb; exact hb
      have hfi := H.fi k hn
      rw [← he] at hfi
      rcases hfi with h | ⟨c0, c5, hbd⟩
      · exact absurd h hc
      obtain ⟨P0, P1, P2, _⟩ := pls_eq (c := a.cls k) ⟨c0, c5⟩
      have hip : i < pls (a.cls k) := by
        apply Classical.byContradiction
        intro h
        rw [hbd i (by omega)] at hb2; cases hb2
      have hfd := find_at (a := a) H.hi hn (q := i) (by rw [← he]; omega)
      rw [hb2, if_pos rfl] at hfd
      exact ⟨_, (hf _).1 (by rw [hfd]; simp), by simp [(find_num hfd).2.2.2.2.2.2.1]⟩
    · rintro ⟨ad, had, e⟩
      have e : numOf a ad = k * 64 + i := by simpa using e
      obtain ⟨⟨m, q⟩, h⟩ := Option.ne_none_iff_exists'.1 ((hf ad).2 had)
      obtain ⟨h1, h2, h3, h4, h5, h6, h7, _⟩ := find_num h
      rw [h7] at e
      have m1 := h1.1
      have em : m = k := by omega
      have eq : q = i := by omega
      subst em; subst eq
      unfold PAr.taken
      rw [if_neg (by omega)]
      exact h6
theorem found_count {a : PAr} (H : Wf a) {D : List Int} (hD : D.Nodup) (hf : ∀ ad, a.find ad ≠ none ↔ ad ∈ D) : tot a a.sp.length = D.length := by
  rw [tot_cnt H hf]
  refine cnt_listI D (fun t ht => ?_) (List.Pairwise.imp_of_mem ?_ hD)
  · obtain ⟨⟨m, q⟩, h⟩ := Option.ne_none_iff_exists'.1 ((hf t).2 ht)
    obtain ⟨h1, h2, h3, h4, h5, h6, h7, _⟩ := find_num h
    have m1 := h1.1
    have m2 := h1.2
    rw [h7]
    omega
  · intro t u ht hu hne e
    obtain ⟨⟨m, q⟩, h⟩ := Option.ne_none_iff_exists'.1 ((hf t).2 ht)
    obtain ⟨⟨m', q'⟩, h'⟩ := Option.ne_none_iff_exists'.1 ((hf u).2 hu)
    obtain ⟨h1, h2, h3, h4, h5, h6, h7, h8⟩ := find_num h
    obtain ⟨g1, g2, g3, g4, g5, g6, g7, g8⟩ := find_num h'
    rw [h7, g7] at e
    have m1 := h1.1
    have m2 := g1.1
    apply hne
    have em : m = m' := by omega
    have eq : q = q' := by omega
    rw [h8, g8, em, eq]
theorem cnt_or (f g : Nat → Bool) : ∀ n, cnt (fun j => f j || g j) n ≤ cnt f n + cnt g n
  | 0 => by simp [cnt]
  | n + 1 => by
    rw [cnt, cnt, cnt]
    have := cnt_or f g n
    cases f n <;> cases g n <;> simp <;> omega
theorem cnt_one (k : Nat) : ∀ n, cnt (fun j => decide (k = j)) n ≤ 1
  | 0 => by simp [cnt]
  | n + 1 => by
    have := cnt_ins k (fun _ => false) rfl (n + 1)
    simp only [Bool.or_false] at this
    rw [this]
    have h0 : cnt (fun _ => false) (n + 1) = 0 := cnt_zero.2 fun j _ => rfl
    rw [h0]
    cases decide (k < n + 1) <;> simp
/-- A list has no more than so many. -/
theorem cnt_any_le {f : Int → Nat} {N : Nat} : ∀ (D : List Int), cnt (fun j => D.any fun t => decide (f t = j)) N ≤ D.length
  | [] => by rw [show cnt (fun j => ([] : List Int).any fun t => decide (f t = j)) N = 0 from cnt_zero.2 fun j _ => rfl]; simp
  | t :: D => by
    simp only [List.any_cons, List.length_cons]
    have h1 := cnt_or (fun j => decide (f t = j)) (fun j => D.any fun u => decide (f u = j)) N
    have h2 := cnt_one (f t) N
    have h3 := cnt_any_le (f := f) (N := N) D
    omega
end Go.Ab.F

namespace Go.Ab.F
open Go Go.Ab
set_option linter.all false
set_option linter.all false

/-! What stands in a channel's slots, and is not nothing, is in its queue. -/
def SlQ (c : Chan) (L : List Int) : Prop := ∀ (k : Nat) y, c.slots[k]? = some y → y ≠ 0 → ∃ i : Nat, L[i]? = some y ∧ ((c.first + i) % c.room).toNat = k
theorem slq_new {room : Int} : SlQ (newC room) [] := fun k y h hy => by
  have h : (List.replicate room.toNat (0 : Int))[k]? = some y := h
  rw [List.getElem?_replicate] at h
  split at h
  · cases h; exact absurd rfl hy
  · cases h
theorem slq_push {c : Chan} {L : List Int} (Q : InQ c L) (S : SlQ c L) (v : Int) : SlQ (c.pushed v) (L ++ [v]) := fun k y h hy => by
  have h : (c.slots.set ((c.first + c.count) % c.room).toNat v)[k]? = some y := h
  by_cases e : ((c.first + c.count) % c.room).toNat = k
  · rw [← e] at h
    by_cases hl : ((c.first + c.count) % c.room).toNat < c.slots.length
    · rw [List.getElem?_set_self hl] at h
      cases h
      refine ⟨L.length, by simp, ?_⟩
      rw [← e, Q.len]; rfl
    · rw [List.getElem?_eq_none (by rw [List.length_set]; omega)] at h; cases h
  · rw [List.getElem?_set_ne e] at h
    obtain ⟨i, h1, h2⟩ := S k y h hy
    exact ⟨i, by rw [List.getElem?_append_left (List.getElem?_eq_some_iff.1 h1).1]; exact h1, h2⟩
theorem slq_pop {c : Chan} {x : Int} {L : List Int} (S : SlQ c (x :: L)) : SlQ c.popped L := fun k y h hy => by
  have h : (c.slots.set (c.first % c.room).toNat 0)[k]? = some y := h
  by_cases e : (c.first % c.room).toNat = k
  · rw [← e] at h
    by_cases hl : (c.first % c.room).toNat < c.slots.length
    · rw [List.getElem?_set_self hl] at h
      cases h; exact absurd rfl hy
    · rw [List.getElem?_eq_none (by rw [List.length_set]; omega)] at h; cases h
  · rw [List.getElem?_set_ne e] at h
    obtain ⟨i, h1, h2⟩ := S k y h hy
    cases i with
    | zero => exact absurd (by simpa using h2) e
    | succ i =>
      refine ⟨i, by simpa using h1, ?_⟩
      show (((c.first + 1) % c.room + i) % c.room).toNat = k
      rw [Int.emod_add_emod, ← h2]
      congr 2
      omega
end Go.Ab.F

namespace Go.Ab.F
open Go Go.Ab
set_option linter.all false
set_option linter.all false

/-! What a channel of addresses, and what a plain thing, holds. -/
def sh15 : List Shp := [⟨3, 0, 0⟩, ⟨3, 0, 1⟩, ⟨0, 0, 0⟩]
theorem cls_lies {a : PAr} (H : Wf a) {ad : Int} {ws : List Int} (L : Lies a ad ws) : wordsOf (a.cls (spanOf ad)) = ws.length := by
  obtain ⟨e, h1, h2, h3⟩ := L.en
  have hf := placed_find' H h2
  rw [h1] at hf
  obtain ⟨p1, _⟩ := find_some hf
  have hs := (find_some hf).2.1
  rw [← hs, cls_at p1, h2.2.1, h3]
theorem chan_fields {a : PAr} (H : Wf a) {ad : Int} {c : Chan} {rest : List Int} (C : ChAt a sh15 ad c true 1 rest) {L : List Int} (Q : InQ c L) (S : SlQ c L) (y : Int) : y ∈ fieldsL sh15 a ad ↔ y ∈ L ∧ y ≠ 0 := by
  have O := C.ok
  have k0 := O.r0; have k1 := O.r1; have k4 := O.f0; have k7 := O.len
  have hp := C.lies.pos H
  have hlen : (cws c (c.room + 5 + 128 * 3 + 1024 * ((1 : Nat) : Int)) rest).length = 5 + c.slots.length + rest.length := by simp [cws]; omega
  have hr : a.read ad 0 = (c.room + 5 + 128 * 3 + 1024 * ((1 : Nat) : Int), 0) := by
    rw [C.lies.read H, if_pos ⟨by omega, by omega⟩]; rfl
  have hu : unp (c.room + 5 + 128 * 3 + 1024 * ((1 : Nat) : Int)) = some (c.room + 5, 3, ((1 : Nat) : Int)) := unp_pack ⟨by omega, by omega, by omega, by omega, by omega, by omega⟩
  have hw : ¬ wordsOf (a.cls (spanOf ad)) < c.room + 5 := by rw [cls_lies H C.lies, hlen]; omega
  have hT : sh15[((1 : Nat) : Int).toNat]? = some ⟨3, 0, 1⟩ := rfl
  unfold fieldsL
  rw [hr]
  simp only [if_true, hu, hw, if_false, hT]
  have hb : ∀ i : Nat, i < (c.room + 5 - 1).toNat → (holdsB ⟨3, 0, 1⟩ (i : Int) (c.room + 5) = true ↔ 4 ≤ i) := fun i hi => by
    unfold holdsB
    rw [if_neg (by omega)]
    simp
    omega
  have hrd : ∀ i : Nat, 4 ≤ i → i < (c.room + 5 - 1).toNat → (a.read ad ((i : Int) + 1)).1 = (c.slots[i - 4]?).getD 0 := fun i h4 hi => by
    rw [C.lies.read H, if_pos ⟨by omega, by omega⟩]
    simp only
    have e : ((i : Int) + 1).toNat = (i - 4) + 5 := by omega
    rw [e]
    unfold cws
    simp only [List.getElem?_cons_succ]
    rw [List.getElem?_append_left (by omega)]
  unfold fieldsUp
  rw [List.mem_filterMap]
  constructor
  · rintro ⟨i, hi, hy⟩
    rw [List.mem_range] at hi
    split at hy
    · rename_i hc
      have h4 := (hb i hi).1 hc.1
      injection hy with hy
      rw [hrd i h4 hi] at hy hc
      have hne : y ≠ 0 := by rw [← hy]; exact hc.2
      obtain ⟨z, hz⟩ : ∃ z, c.slots[i - 4]? = some z := ⟨_, List.getElem?_eq_getElem (by omega)⟩
      rw [hz] at hy
      simp at hy
      subst hy
      obtain ⟨j, hj, _⟩ := S _ _ hz hne
      exact ⟨List.mem_of_getElem? hj, hne⟩
    · cases hy
  · rintro ⟨hL, hne⟩
    obtain ⟨j, hj⟩ := List.getElem?_of_mem hL
    have hs := Q.at_ j y hj
    have hlt := (List.getElem?_eq_some_iff.1 hs).1
    generalize ((c.first + (j : Int)) % c.room).toNat = k at *
    refine ⟨k + 4, by rw [List.mem_range]; omega, ?_⟩
    have hr2 := hrd (k + 4) (by omega) (by omega)
    rw [show k + 4 - 4 = k by omega, hs] at hr2
    rw [if_pos ⟨(hb (k + 4) (by omega)).2 (by omega), by rw [hr2]; exact hne⟩, hr2]
    rfl
theorem thing_fields {a : PAr} (H : Wf a) {ad : Int} {vs : List Int} (L : Lies a ad ((1 + 128 * 0 + 1024 * ((2 : Nat) : Int)) :: vs)) : fieldsL sh15 a ad = [] := by
  have hp := L.pos H
  have hr : a.read ad 0 = (1 + 128 * 0 + 1024 * ((2 : Nat) : Int), 0) := by
    rw [L.read H, if_pos ⟨by omega, by omega⟩]; rfl
  have hu : unp (1 + 128 * 0 + 1024 * ((2 : Nat) : Int)) = some (1, 0, ((2 : Nat) : Int)) := unp_pack ⟨by omega, by omega, by omega, by omega, by omega, by omega⟩
  unfold fieldsL
  rw [hr]
  simp only [if_true, hu]
  split
  · rfl
  · rfl
/-- What is reached from a channel alone. -/
theorem rch_chan {a : PAr} (H : Wf a) {ad : Int} {c : Chan} {rest : List Int} (C : ChAt a sh15 ad c true 1 rest) {L : List Int} (Q : InQ c L) (S : SlQ c L) (hL : ∀ y ∈ L, y ≠ 0 ∧ ∃ vs, Lies a y ((1 + 128 * 0 + 1024 * ((2 : Nat) : Int)) :: vs)) (x : Int) : Rch sh15 a [ad] x ↔ x = ad ∨ x ∈ L := by
  have hf : ∀ {y : Int} {ws : List Int}, Lies a y ws → a.find y ≠ none := fun L => by
    obtain ⟨m, q, h⟩ := L.find H
    rw [h]; simp
  constructor
  · intro h
    induction h with
    | root h1 _ => exact .inl (by simpa using h1)
    | step _ h1 _ ih =>
      rcases ih with rfl | ih
      · exact .inr ((chan_fields H C Q S _).1 h1).1
      · obtain ⟨_, vs, Lv⟩ := hL _ ih
        rw [thing_fields H Lv] at h1; simp at h1
  · rintro (rfl | h)
    · exact Rch.root (by simp) (hf C.lies)
    · obtain ⟨h0, vs, Lv⟩ := hL x h
      exact Rch.step (Rch.root (by simp) (hf C.lies)) ((chan_fields H C Q S x).2 ⟨h, h0⟩) (hf Lv)
end Go.Ab.F

namespace Go.Ab.F
open Go Go.Ab
set_option linter.all false
set_option linter.all false

/-! Bits counted by clearing the lowest; room for small things. -/
theorem low_clear (w : BitVec 64) (h : w ≠ 0) : ones (w &&& (w - 1)) + 1 = ones w := by
  rcases ctz_spec w with ⟨_, h0⟩ | ⟨hk, h1, h2⟩
  · exact absurd h0 h
  generalize ctz w = k at *
  have tb : ∀ j, j < 64 → w.getLsbD j = w.toNat.testBit j := fun j _ => rfl
  have hm : w.toNat % 2 ^ k = 0 := by
    apply Nat.eq_of_testBit_eq
    intro j
    rw [Nat.testBit_mod_two_pow, Nat.zero_testBit]
    by_cases hj : j < k
    · have := h2 j hj
      rw [tb j (by omega)] at this
      simp [this]
    · simp [hj]
  have hodd : w.toNat / 2 ^ k % 2 = 1 := by
    rw [tb k hk, Nat.testBit_eq_decide_div_mod_eq] at h1
    simpa using h1
  have hp := Nat.two_pow_pos k
  obtain ⟨m, hmm⟩ : ∃ m, w.toNat / 2 ^ k = 2 * m + 1 := ⟨w.toNat / 2 ^ k / 2, by omega⟩
  have hw : w.toNat = 2 ^ k * (2 * m + 1) + 0 := by
    have := Nat.div_add_mod w.toNat (2 ^ k)
    rw [hm, hmm] at this
    omega
  have hpos : 1 ≤ w.toNat := by
    have : 2 ^ k * 1 ≤ 2 ^ k * (2 * m + 1) := Nat.mul_le_mul_left _ (by omega)
    omega
  have hw1 : (w - 1).toNat = 2 ^ k * (2 * m) + (2 ^ k - 1) := by
    have e : (w - 1).toNat = w.toNat - 1 := by
      rw [BitVec.toNat_sub]
      have := w.isLt
      simp
      omega
    rw [e, hw, Nat.mul_add]
    omega
  have key : ∀ j, j < 64 → (w &&& (w - 1)).getLsbD j = (w.getLsbD j && !decide (k = j)) := fun j hj => by
    rw [BitVec.getLsbD_and]
    have e1 : w.getLsbD j = w.toNat.testBit j := rfl
    have e2 : (w - 1).getLsbD j = (w - 1).toNat.testBit j := rfl
    rw [e2, hw1]
    rw [Nat.testBit_two_pow_mul_add _ (by omega)]
    by_cases hlt : j < k
    · have := h2 j hlt
      rw [this]; rfl
    · rw [if_neg hlt]
      by_cases ek : k = j
      · subst ek
        simp
      · have e3 : w.getLsbD j = (2 * m + 1).testBit (j - k) := by
          rw [e1, hw, Nat.testBit_two_pow_mul_add _ hp, if_neg hlt]
        rw [e3]
        obtain ⟨d, hd⟩ : ∃ d, j - k = d + 1 := ⟨j - k - 1, by omega⟩
        rw [hd, Nat.testBit_succ, Nat.testBit_succ]
        have a1 : (2 * m + 1) / 2 = m := by omega
        have a2 : 2 * m / 2 = m := by omega
        rw [a1, a2]
        simp [ek]
  have hc := cnt_ins k (fun j => (w &&& (w - 1)).getLsbD j) (by show (w &&& (w - 1)).getLsbD k = false; rw [key k hk]; simp) 64
  simp only [hk, decide_true, Bool.toNat_true] at hc
  unfold ones
  rw [← hc]
  apply cnt_congr
  intro j hj
  rw [key j hj]
  by_cases e : k = j
  · subst e; simp [h1]
  · simp [e]
/-- Where so few are there, there is room. -/
theorem room_few {l2 : PAl} {D : List Int} {ad0 : Int} (H : Wf l2.ar) (hs : l2.ar.sp.length = 20) (hu : l2.un.length = l2.ar.sp.length) (hf : ∀ ad, l2.ar.find ad ≠ none ↔ ad ∈ D) (hD : D.length < 64)
    (h0 : ∀ ad m q, l2.ar.find ad = some (m, q) → ad ≠ ad0 → l2.ar.cls m = 0) (hc : ∀ m : Int, l2.ar.cls m ≠ -1 → ∃ ad q, l2.ar.find ad = some (m, q)) : room l2 0 := by
  apply Classical.byContradiction
  intro hr
  obtain ⟨s1, s2, hs1, hs2, hne, n1, n2⟩ : ∃ s1 s2 : Nat, (1 ≤ s1 ∧ s1 < 20) ∧ (1 ≤ s2 ∧ s2 < 20) ∧ s1 ≠ s2 ∧ (s1 : Int) ≠ spanOf ad0 ∧ (s2 : Int) ≠ spanOf ad0 := by
    by_cases e1 : (1 : Int) = spanOf ad0
    · exact ⟨2, 3, by omega, by omega, by omega, by omega, by omega⟩
    · by_cases e2 : (2 : Int) = spanOf ad0
      · exact ⟨1, 3, by omega, by omega, by omega, by omega, by omega⟩
      · exact ⟨1, 2, by omega, by omega, by omega, by omega, by omega⟩
  have full : ∀ s : Nat, 1 ≤ s → s < 20 → (s : Int) ≠ spanOf ad0 → ∀ q : Nat, q < 32 → (s : Int) * 64 + q * 2 ∈ D := fun s a1 a2 a3 q hq => by
    have hne : l2.ar.cls s ≠ -1 := fun h => hr ⟨s, a1, by omega, .inl h⟩
    obtain ⟨ad, q', h⟩ := hc s hne
    have hsp := (find_some h).2.1
    have c0 := h0 ad s q' h (fun e => a3 (by rw [hsp, e]))
    have ht : l2.ar.taken s = fullB 0 := by
      apply Classical.byContradiction
      intro h2
      exact hr ⟨s, a1, by omega, .inr ⟨c0, h2⟩⟩
    have hhas := cls_has (a := l2.ar) (n := (s : Int)) hne
    have p0 : placesOf 0 = 32 := by decide
    have w0 : wordsOf 0 = 2 := by decide
    have hfd := find_at (a := l2.ar) H.hi hhas.1 (q := q) (by rw [← hhas.2, c0, p0]; omega)
    have htk : (l2.ar.at (s : Int)).tk.getLsbD q = true := by
      have : l2.ar.taken s = (l2.ar.at (s : Int)).tk := by unfold PAr.taken; rw [if_neg hne]
      rw [← this, ht, full_bits ⟨by omega, by omega⟩ _ (by omega)]
      have : pls 0 = 32 := by decide
      rw [this]; simp [hq]
    rw [htk, if_pos rfl, ← hhas.2, c0, w0] at hfd
    exact (hf _).1 (by rw [hfd]; simp)
  let f : Int → Nat := fun ad => if spanOf ad = s1 then (placeOf ad 0).toNat else 32 + (placeOf ad 0).toNat
  have hfa : ∀ s q : Nat, 1 ≤ s → s < 20 → q < 32 → spanOf ((s : Int) * 64 + q * 2) = s ∧ (placeOf ((s : Int) * 64 + q * 2) 0).toNat = q := fun s q a1 a2 hq => by
    have e1 : spanOf ((s : Int) * 64 + q * 2) = s := spanOf_at ⟨by omega, by omega⟩ (by omega) (by omega)
    have p0 : placesOf 0 = 32 := by decide
    have e2 := placeOf_at (n := (s : Int)) (c := 0) (q := q) ⟨by omega, by omega⟩ (by rw [p0]; omega)
    have w0 : wordsOf 0 = 2 := by decide
    rw [w0] at e2
    exact ⟨e1, by rw [e2]; omega⟩
  have h64 : cnt (fun j => D.any fun t => decide (f t = j)) 64 = 64 := by
    rw [← cnt_all 64]
    rw [cnt_all]
    have : cnt (fun j => D.any fun t => decide (f t = j)) 64 = cnt (fun _ => true) 64 := by
      apply cnt_congr
      intro j hj
      rw [List.any_eq_true]
      by_cases h32 : j < 32
      · refine ⟨_, full s1 hs1.1 hs1.2 n1 j h32, ?_⟩
        obtain ⟨e1, e2⟩ := hfa s1 j hs1.1 hs1.2 h32
        show decide ((if spanOf _ = _ then (placeOf _ 0).toNat else 32 + (placeOf _ 0).toNat) = j) = true
        rw [if_pos e1, e2]; simp
      · refine ⟨_, full s2 hs2.1 hs2.2 n2 (j - 32) (by omega), ?_⟩
        obtain ⟨e1, e2⟩ := hfa s2 (j - 32) hs2.1 hs2.2 (by omega)
        show decide ((if spanOf _ = _ then (placeOf _ 0).toNat else 32 + (placeOf _ 0).toNat) = j) = true
        rw [if_neg (by rw [e1]; omega), e2]
        simp; omega
    rw [this, cnt_all]
  have := cnt_any_le (f := f) (N := 64) D
  omega
end Go.Ab.F

namespace Go.Ab.F
open Go Go.Ab
set_option linter.all false
set_option linter.all false
attribute [local congr] c_bind c_cl c_mk c_lp c_clC c_gQ c_gV c_condE c_thenK

/-! ChansHolds: its loops. -/
theorem sub_u64' (a : BitVec 64) : binP .sub (.int .u64 a.toNat) (.int .u64 1) = some (.int .u64 (a - 1).toNat) := by
  rw [bin_sub]
  congr 2
  have h1 := a.isLt
  by_cases h0 : a.toNat = 0
  · rw [h0, BitVec.toNat_sub, h0]; rfl
  · rw [wrap_u64 (by omega) (by omega), BitVec.toNat_sub]
    simp
    omega
theorem pop_loop (w : BitVec 64) (n : Nat) (hn : n ≤ 2 ^ 40) (h : Heap) : Ok (k_law15_ChansHolds_L1 (.int .i64 n) (.int .u64 w.toNat) h) fun r => r.1 = .exit 5 ∧ r.2.1.getD 0 .bot = .int .i64 ((n + ones w : Nat) : Int) ∧ r.2.2 = h := by
  have hw : ones w ≤ 64 := cnt_le _ _
  refine ok_loop (fun m vs g => ∃ (k : Nat) (x : BitVec 64), vs = [.int .i64 k, .int .u64 x.toNat] ∧ m = ones x ∧ k + ones x = n + ones w ∧ g = h) ?_ (n := ones w) (by omega) ⟨n, w, rfl, rfl, rfl, rfl⟩
  rintro m vs g ⟨k, x, rfl, hm, hk, hg⟩
  subst hg
  rw [gd0, gd1]
  by_cases h0 : x = 0
  · subst h0
    have z : ones (0 : BitVec 64) = 0 := by unfold ones; exact cnt_zero.2 fun j _ => by simp
    have e : decide ((((0 : BitVec 64).toNat : Nat) : Int) = 0) = true := rfl
    refine (Ok.of (r := (.exit 5, [.int .i64 k, .int .u64 ((0 : BitVec 64).toNat : Nat)], g)) (.inr ⟨by simp, rfl, ?_, rfl⟩)).eq (by
      simp -implicitDefEqProofs only [k_law15_ChansHolds_b1, neq_int, e, Bool.not_true, Option.bind_some, condE_false])
    rw [z] at hk
    show AV.int .i64 (k : Int) = _
    rw [← hk]; rfl
  · have e : decide (((x.toNat : Nat) : Int) = 0) = false := by
      simp only [decide_eq_false_iff_not]
      exact fun h => h0 ((toNat_zero x).1 h)
    have hl := low_clear x h0
    have hx : ones x ≤ 64 := cnt_le _ _
    have sc := suc64 k (by omega)
    refine (Ok.of (r := (.normal, [.int .i64 ((k + 1 : Nat) : Int), .int .u64 (x &&& (x - 1)).toNat], g)) (.inl ⟨rfl, ones (x &&& (x - 1)), by omega, k + 1, _, rfl, rfl, by omega, rfl⟩)).eq (by
      simp -implicitDefEqProofs only [k_law15_ChansHolds_b1, neq_int, e, Bool.not_false, Option.bind_some, condE_true, bin_add, sc, sub_u64', and_u64, ofInt_toNat])
section
variable {h : Heap} {C : Nat → Nat} {l : PAl} {T : List Shp} {F : Int}
/-- What is taken is counted. -/
theorem sum_loop (H : HpAt h C l T F) (hs : l.ar.sp.length = 20) : Ok (k_law15_ChansHolds_L2 (.ptr (some (C 0, 0))) (.int .i64 0) (.int .i64 1) h) fun r => r.1 = .exit 3 ∧ r.2.1.getD 0 .bot = .int .i64 ((tot l.ar 20 : Nat) : Int) ∧ r.2.2 = h := by
  have t1 : tot l.ar 1 = 0 := by
    show 0 + ones (l.ar.taken ((0 : Nat) : Int)) = 0
    have hc : l.ar.cls ((0 : Nat) : Int) = -1 := by
      unfold PAr.cls
      rw [if_neg (fun h => by have := h.1; omega)]
    have : l.ar.taken ((0 : Nat) : Int) = 0 := by
      unfold PAr.taken
      rw [if_pos hc]
    rw [this]
    unfold ones
    rw [Nat.zero_add]
    exact cnt_zero.2 fun j _ => by simp
  have tl : ∀ k, tot l.ar k ≤ k * 64 := fun k => by
    induction k with
    | zero => simp [tot]
    | succ k ih =>
      have : ones (l.ar.taken (k : Int)) ≤ 64 := cnt_le _ _
      rw [tot]; omega
  refine ok_loop (fun m vs g => ∃ (s : Nat), vs = [.int .i64 (tot l.ar s : Nat), .int .i64 s] ∧ m + s = 20 ∧ 1 ≤ s ∧ g = h) ?_ (n := 19) (by omega) ⟨1, by rw [t1]; rfl, rfl, by omega, rfl⟩
  rintro m vs g ⟨s, rfl, hm, h1, hg⟩
  subst hg
  rw [gd0, gd1]
  by_cases hlt : s < 20
  · have hlt' : (s : Int) < 20 := by omega
    have ts := tl s
    refine Ok.eq ?_ (by simp -implicitDefEqProofs only [k_law15_ChansHolds_b2, bin_lss, hlt', decide_true, Option.bind_some, condE_true, hcycle_eq H, cl_some, carena_eq H, taken_eq H.al.ar] <;> rfl)
    refine ok_lp (pop_loop (l.ar.taken s) (tot l.ar s) (by omega) g) ?_
    rintro _ vs g2 ⟨rfl, hv, hg⟩
    simp only at hv hg
    subst hg
    refine (Ok.of (r := (.normal, [.int .i64 (tot l.ar (s + 1) : Nat), .int .i64 ((s + 1 : Nat) : Int)], g2)) (.inl ⟨rfl, m - 1, by omega, s + 1, rfl, by omega, by omega, rfl⟩)).eq ?_
    rw [hv]
    simp -implicitDefEqProofs [thenK_normal, suc64 s (by omega), tot]
  · have hlt' : ¬ (s : Int) < 20 := by omega
    obtain rfl : s = 20 := by omega
    exact (Ok.of (r := (.exit 3, [.int .i64 (tot l.ar 20 : Nat), .int .i64 ((20 : Nat) : Int)], g)) (.inr ⟨by simp, rfl, rfl, rfl⟩)).eq (by
      simp -implicitDefEqProofs only [k_law15_ChansHolds_b2, bin_lss, hlt', decide_false, Option.bind_some, condE_false])
/-- All that is in is there. -/
theorem isin_loop (H : HpAt h C l T F) {L : List Int} {v : AV} {X : List Nat} (hv : Lrd h v L X) (hl : L.length ≤ 2 ^ 30) (hi : ∀ y ∈ L, l.ar.is y = true) : Ok (k_law15_ChansHolds_L0 (.ptr (some (C 0, 0))) v (.bool false) (.int .i64 0) h) fun r => r.1 = .exit 7 ∧ r.2.1.getD 0 .bot = .bool false ∧ r.2.2 = h := by
  refine ok_loop (fun m vs g => ∃ (i : Nat), vs = [.bool false, .int .i64 i] ∧ m + i = L.length ∧ g = h) ?_ (n := L.length) (by omega) ⟨0, rfl, rfl, rfl⟩
  rintro m vs g ⟨i, rfl, hm, hg⟩
  subst hg
  rw [gd0, gd1]
  by_cases hlt : i < L.length
  · have hlt' : (i : Int) < L.length := by omega
    obtain ⟨x, hx⟩ : ∃ x, L[i]? = some x := ⟨_, List.getElem?_eq_getElem hlt⟩
    obtain ⟨p, hix, hld⟩ := hv.2 i x hx
    have ld := hld g (KpX.refl _ _)
    have his := hi x (List.mem_of_getElem? hx)
    have ck : ∀ y, chk [g, g, g, g] [((fun g => ldS g (.ptr (some p))), .int .i64 x, 0, 2)] y = (y : OutV) := fun y => by
      rw [chk_cons, allFrom_succ, allFrom_succ, allFrom_succ, allFrom_zero]
      simp [ld, same_int]
    exact (Ok.of (r := (.normal, [.bool false, .int .i64 ((i + 1 : Nat) : Int)], g)) (.inl ⟨rfl, m - 1, by omega, i + 1, rfl, by omega, rfl⟩)).eq (by
      simp -implicitDefEqProofs only [k_law15_ChansHolds_b0, hv.1, Option.bind_some, bin_lss, hlt', decide_true, condE_true, hcycle_eq H, cl_some, carena_eq H, hix, rdC, ld, clC_some, is_eq H.al.ar, his, un_not, Bool.not_true, ck, condE_false, bin_add, suc64 i (by omega)])
  · have hlt' : ¬ (i : Int) < L.length := by omega
    exact (Ok.of (r := (.exit 7, [.bool false, .int .i64 (i : Int)], g)) (.inr ⟨by simp, rfl, rfl, rfl⟩)).eq (by
      simp -implicitDefEqProofs only [k_law15_ChansHolds_b0, hv.1, Option.bind_some, bin_lss, hlt', decide_false, condE_false])
end
end Go.Ab.F

namespace Go.Ab.F
open Go Go.Ab
set_option linter.all false
set_option linter.all false
attribute [local congr] c_bind c_cl c_mk c_lp c_clC c_gQ c_gV c_condE c_thenK

/-! ChansHolds: the state. -/
def hd15 : Int := 1 + 128 * 0 + 1024 * ((2 : Nat) : Int)
def Zc (nb bg bx : Nat) (bq : Option Nat) : List Nat := 0 :: nb :: bg :: bx :: bq.toList
def Xc (C : Nat → Nat) (nb bg bx : Nat) (bq : Option Nat) : List Nat := C 0 :: C 10 :: Zc nb bg bx bq
/-- What lies in the heap. -/
structure In15 (R : Nat) (ad : Int) (rest : List Int) (l : PAl) (c : Chan) (L : List Int) : Prop where
  ch : ChAt l.ar sh15 ad c true 1 rest
  cl : c.closed = 0
  rm : c.room = R
  iq : InQ c L
  sq : SlQ c L
  th : ∀ y ∈ L, y ≠ 0 ∧ ∃ vs, Lies l.ar y (hd15 :: vs)
  nd : (ad :: L).Nodup
  all : ∀ x, l.ar.find x ≠ none → x = ad ∨ ∃ z, Lies l.ar x [hd15, z]
  len : l.ar.sp.length = 20
theorem Whole.congr {a : PAr} {l' : PAl} {K K' : Int → Prop} (W : Whole a l' K) (h : ∀ x, K x ↔ K' x) : Whole a l' K' :=
  ⟨W.wf, W.len, W.ul, W.un, fun ad => (W.find ad).trans (and_congr_right fun _ => h ad), fun ad ws L k => W.lies ad ws L ((h ad).2 k), W.cls⟩
theorem In15.whole {R : Nat} {ad : Int} {rest : List Int} {l l2 : PAl} {c : Chan} {L : List Int} (I : In15 R ad rest l c L) (H : Wf l.ar) (hu : l.un.length = l.ar.sp.length) (h : WholeR sh15 l [ad] l2) :
    In15 R ad rest l2 c L ∧ Wf l2.ar ∧ Fi l2 ∧ (∀ x, l2.ar.find x ≠ none ↔ x ∈ ad :: L) ∧ (∀ m : Int, l2.ar.cls m ≠ -1 → ∃ ad q, l2.ar.find ad = some (m, q)) ∧ l2.un.length = l2.ar.sp.length := by
  have W := (whole_all H hu h).congr (K' := fun x => x = ad ∨ x ∈ L) fun x => rch_chan H I.ch I.iq I.sq I.th x
  have hfd : ∀ {y : Int} {ws : List Int}, Lies l.ar y ws → l.ar.find y ≠ none := fun L => by
    obtain ⟨m, q, h⟩ := L.find H
    rw [h]; simp
  have hf : ∀ x, l2.ar.find x ≠ none ↔ x ∈ ad :: L := fun x => by
    rw [W.find, List.mem_cons]
    refine ⟨fun h => h.2, fun h => ⟨?_, h⟩⟩
    rcases h with rfl | h
    · exact hfd I.ch.lies
    · obtain ⟨_, vs, Lv⟩ := I.th x h
      exact hfd Lv
  refine ⟨⟨⟨W.lies ad _ I.ch.lies (.inl rfl), I.ch.ok, I.ch.sh, I.ch.sx⟩, I.cl, I.rm, I.iq, I.sq, fun y hy => ?_, I.nd, fun x hx => ?_, W.len.trans I.len⟩, W.wf, whole_fi W, hf, W.cls, W.ul⟩
  · obtain ⟨h0, vs, Lv⟩ := I.th y hy
    exact ⟨h0, vs, W.lies y _ Lv (.inr hy)⟩
  · have h2 := (W.find x).1 hx
    rcases I.all x h2.1 with e | ⟨z, Lz⟩
    · exact .inl e
    · exact .inr ⟨z, W.lies x _ Lz h2.2⟩
/-- There is room for a small thing. -/
theorem In15.room {R : Nat} {ad : Int} {rest : List Int} {l2 : PAl} {c : Chan} {L : List Int} (I : In15 R ad rest l2 c L) (hR : R ≤ 40) (H : Wf l2.ar) (hu : l2.un.length = l2.ar.sp.length) (hf : ∀ x, l2.ar.find x ≠ none ↔ x ∈ ad :: L) (hc : ∀ m : Int, l2.ar.cls m ≠ -1 → ∃ ad q, l2.ar.find ad = some (m, q)) : room l2 (classOf 1) := by
  have hl : L.length ≤ 40 := by
    have h1 := I.iq.len
    have h2 := I.ch.ok.c1
    have h3 := I.rm
    omega
  have := room_few (D := ad :: L) (ad0 := ad) H I.len hu hf (by simp; omega) (fun x m q h hne => by
    rcases I.all x (by rw [h]; simp) with e | ⟨z, Lz⟩
    · exact absurd e hne
    · obtain ⟨e, h1, h2, h3⟩ := Lz.en
      have hp := placed_find' H h2
      rw [h1, h] at hp
      injection hp with hp
      injection hp with e1 e2
      have r := placed_rm H h2
      have w0 : wordsOf 0 = 2 := by decide
      have : e.c = 0 := words_inj ⟨r.1, r.2.1⟩ ⟨by omega, by omega⟩ (by rw [w0, ← h3]; rfl)
      rw [e1, cls_at h2.1, h2.2.1, this]) hc
  exact this
/-- A small thing was made. -/
theorem In15.made {R : Nat} {ad : Int} {rest : List Int} {l l3 : PAl} {c : Chan} {L : List Int} (I : In15 R ad rest l c L) (H : Wf l.ar) {a : Int} (M : Made l l3 a [hd15, 0]) : In15 R ad rest l3 c L ∧ a ∉ ad :: L ∧ a ≠ 0 ∧ Lies l3.ar a [hd15, 0] := by
  have hne : ∀ {y : Int} {ws : List Int}, Lies l.ar y ws → y ≠ a := fun L e => by
    obtain ⟨m, q, h⟩ := L.find H
    rw [e, M.new] at h; cases h
  refine ⟨⟨⟨M.old ad _ (hne I.ch.lies) I.ch.lies, I.ch.ok, I.ch.sh, I.ch.sx⟩, I.cl, I.rm, I.iq, I.sq, fun y hy => ?_, I.nd, fun x hx => ?_, M.len.trans I.len⟩, ?_, by have := M.lo; omega, M.lies⟩
  · obtain ⟨h0, vs, Lv⟩ := I.th y hy
    exact ⟨h0, vs, M.old y _ (hne Lv) Lv⟩
  · by_cases e : x = a
    · subst e; exact .inr ⟨0, M.lies⟩
    · rw [M.find x e] at hx
      rcases I.all x hx with e' | ⟨z, Lz⟩
      · exact .inl e'
      · exact .inr ⟨z, M.old x _ e Lz⟩
  · rw [List.mem_cons]
    rintro (e | e)
    · exact hne I.ch.lies e.symm
    · obtain ⟨_, vs, Lv⟩ := I.th a e
      exact hne Lv rfl
/-- The channel was written. -/
theorem In15.wrote {R : Nat} {ad : Int} {rest : List Int} {l l4 : PAl} {c c' : Chan} {L L' : List Int} (I : In15 R ad rest l c L) (W : Wrote l l4 ad (cws c' (c.room + 5 + 128 * 3 + 1024 * ((1 : Nat) : Int)) rest)) (hr : c'.room = c.room) (hc : c'.closed = 0) (O : ChOk c') (Q : InQ c' L') (S : SlQ c' L')
    (ht : ∀ y ∈ L', y ≠ ad ∧ y ≠ 0 ∧ ∃ vs, Lies l.ar y (hd15 :: vs)) (nd : (ad :: L').Nodup) : In15 R ad rest l4 c' L' := by
  refine ⟨I.ch.wrote hr O W, hc, hr.trans I.rm, Q, S, fun y hy => ?_, nd, fun x hx => ?_, by rw [W.sp]; exact I.len⟩
  · obtain ⟨h1, h2, vs, Lv⟩ := ht y hy
    exact ⟨h2, vs, W.old y _ h1 Lv⟩
  · rw [find_sp W.sp] at hx
    by_cases e : x = ad
    · exact .inl e
    · rcases I.all x hx with e' | ⟨z, Lz⟩
      · exact .inl e'
      · exact .inr ⟨z, W.old x _ e Lz⟩
end Go.Ab.F

namespace Go.Ab.F
open Go Go.Ab
set_option linter.all false
set_option linter.all false
attribute [local congr] c_bind c_cl c_mk c_lp c_clC c_gQ c_gV c_condE c_thenK

/-! ChansHolds: its acts. -/
structure Cs (R : Nat) (g : Heap) (C : Nat → Nat) (nb bg bx : Nat) (ad : Int) (rest : List Int) (l : PAl) (F dn : Int) (c : Chan) (L : List Int) (bq : Option Nat) (v : AV) (i : Nat) : Prop where
  hp : ∃ qb us, HpC g C l sh15 F qb dn us (Xc C nb bg bx bq)
  box : g.get nb = some (.cells true [.sl (some (bg, 0)) 1 (.ex 1)])
  glb : g.get bg = some (.cells true [.int .i64 ad])
  inn : In15 R ad rest l c L
  qv : QuV g 0 bq v L
  F0 : 0 ≤ F ∧ F ≤ i
  d0 : 0 ≤ dn ∧ dn ≤ 2 * i
  dis : ∀ j, bq = some j → j ≠ C 0 ∧ j ≠ C 10 ∧ j ≠ 0 ∧ j ≠ nb ∧ j ≠ bg ∧ j ≠ bx
  nC : nb ≠ C 0 ∧ bg ≠ C 0 ∧ bx ≠ C 0
section
variable {R : Nat} {g : Heap} {C : Nat → Nat} {nb bg bx : Nat} {ad : Int} {rest : List Int} {l : PAl} {F dn : Int} {c : Chan} {L : List Int} {bq : Option Nat} {v : AV} {i : Nat}
theorem Cs.lts (S : Cs R g C nb bg bx ad rest l F dn c L bq v i) : nb < g.next ∧ bg < g.next ∧ bx < g.next ∧ 0 < g.next := by
  obtain ⟨qb, us, H⟩ := S.hp
  exact ⟨H.cy.xl nb (by simp [Xc, Zc]), H.cy.xl bg (by simp [Xc, Zc]), H.cy.xl bx (by simp [Xc, Zc]), H.cy.xl 0 (by simp [Xc, Zc])⟩
theorem Cs.rt (S : Cs R g C nb bg bx ad rest l F dn c L bq v i) : Rt g (.ifc 66 (.ptr (some (nb, 0)))) [ad] (Zc nb bg bx bq) := by
  obtain ⟨h1, h2, _⟩ := S.lts
  refine ⟨66, nb, .sl (some (bg, 0)) 1 (.ex 1), rfl, .inr rfl, fun g' k => ⟨(k.get nb (by simp [Zc]) h1).trans S.box, ?_⟩, rfl⟩
  have hg := (k.get bg (by simp [Zc]) h2).trans S.glb
  have : loadN g' (bg, 0) (1 * 1) = some [.int .i64 ad] := by simp only [loadN, hg, spanF_eq]; rfl
  simp only [addedA, this]; rfl
theorem Cs.hZ (S : Cs R g C nb bg bx ad rest l F dn c L bq v i) : ∀ j ∈ Zc nb bg bx bq, j ∈ Xc C nb bg bx bq ∧ j ≠ C 0 := fun j hj => by
  obtain ⟨qb, us, H⟩ := S.hp
  refine ⟨List.mem_cons_of_mem _ (List.mem_cons_of_mem _ hj), ?_⟩
  simp only [Zc, List.mem_cons, Option.mem_toList] at hj
  rcases hj with rfl | rfl | rfl | rfl | hj
  · exact fun e => H.cy.pos 0 (by decide) e.symm
  · exact S.nC.1
  · exact S.nC.2.1
  · exact S.nC.2.2
  · exact (S.dis j hj).1
theorem QuV.kp {g g' : Heap} {b : Option Nat} {v : AV} {L : List Int} {Z : List Nat} (H : QuV g 0 b v L) (k : KpX Z g g') (hb : ∀ i, b = some i → i ∈ Z) : QuV g' 0 b v L :=
  ⟨H.nil, fun i hi => by
    obtain ⟨h1, h2, pre, h3, h4⟩ := H.blk i hi
    exact ⟨h1, Nat.lt_of_lt_of_le h2 k.next, pre, (k.get i (hb i hi) h2).trans h3, h4⟩⟩
/-- What others have stays; the heap has turned. -/
theorem Cs.turn (S : Cs R g C nb bg bx ad rest l F dn c L bq v i) {g' : Heap} {l' : PAl} {F' dn' : Int} {c' : Chan} (k : KpX (Zc nb bg bx bq) g g') (H : ∃ qb us, HpC g' C l' sh15 F' qb dn' us (Xc C nb bg bx bq)) (I : In15 R ad rest l' c' L) (hF : 0 ≤ F' ∧ F' ≤ ((i + 1 : Nat) : Int)) (hd : 0 ≤ dn' ∧ dn' ≤ 2 * ((i + 1 : Nat) : Int)) :
    Cs R g' C nb bg bx ad rest l' F' dn' c' L bq v (i + 1) := by
  obtain ⟨h1, h2, _⟩ := S.lts
  exact ⟨H, (k.get nb (by simp [Zc]) h1).trans S.box, (k.get bg (by simp [Zc]) h2).trans S.glb, I, S.qv.kp k (fun j hj => by simp [Zc, hj]), hF, hd, S.dis, S.nC⟩
theorem quLrd {v : AV} {X : List Nat} (H : QuV g 0 bq v L) (hb : ∀ j, bq = some j → j ∈ X) : Lrd g v L X := by
  refine ⟨H.lnL, fun k x hx => ?_⟩
  have hk := (List.getElem?_eq_some_iff.1 hx).1
  cases hbq : bq with
  | none => rw [hbq] at H; obtain ⟨_, rfl⟩ := H.nil rfl; simp at hk
  | some b =>
    obtain ⟨_, h2, pre, h3, rfl⟩ := H.blk b hbq
    refine ⟨(b, pre.length + k), by rw [iaS_sl 1 _ _ _ _ _ ⟨by omega, by omega⟩]; simp, fun g' kk => ?_⟩
    rw [ldS_at ((kk.get b (hb b hbq) h2).trans h3), List.getElem?_append_right (by omega)]
    simp [wsC, hx]
/-- How an act ends. -/
def ActQ (R : Nat) (C : Nat → Nat) (nb bg bx : Nat) (ad : Int) (rest : List Int) (g : Heap) (i : Nat) (r : Ex × List AV × Heap) : Prop :=
  r.1 = .normal ∧ ∃ l' F' dn' c' L' bq' v', r.2.1 = [.bool false, v', .int .i64 ((i + 1 : Nat) : Int)] ∧ Cs R r.2.2 C nb bg bx ad rest l' F' dn' c' L' bq' v' (i + 1) ∧ r.2.2.get bx = g.get bx
theorem act_end {g0 : Heap} (S : Cs R g C nb bg bx ad rest l F dn c L bq v (i + 1)) (hR : R ≤ 40) (hi : i < 2 ^ 40) (hbx : g.get bx = g0.get bx) :
    Ok (k_law15_ChansHolds_j0 (.ptr (some (C 0, 0))) (.int .i64 i) (.bool false) v g) (ActQ R C nb bg bx ad rest g0 i) := by
  obtain ⟨qb, us, H⟩ := S.hp
  have hl : L.length ≤ 40 := by
    have h1 := S.inn.iq.len
    have h2 := S.inn.ch.ok.c1
    have h3 := S.inn.rm
    omega
  have his : ∀ y ∈ L, l.ar.is y = true := fun y hy => by
    obtain ⟨_, vs, Lv⟩ := S.inn.th y hy
    obtain ⟨m, q, h⟩ := Lv.find H.cy.wf
    unfold PAr.is; rw [h]; rfl
  refine Ok.eq ?_ (by unfold k_law15_ChansHolds_j0; rfl)
  refine ok_lp (isin_loop H.hp (quLrd (X := Xc C nb bg bx bq) S.qv (fun j hj => by simp [Xc, Zc, hj])) (by omega) his) ?_
  rintro _ vs g2 ⟨rfl, hv, hg⟩
  simp only at hv hg
  subst hg
  refine (Ok.of (r := (.normal, [.bool false, v, .int .i64 ((i + 1 : Nat) : Int)], g2)) ⟨rfl, l, F, dn, c, L, bq, v, rfl, S, hbx⟩).eq ?_
  rw [hv]
  simp -implicitDefEqProofs [thenK_normal, suc64 i (by omega)]
end
end Go.Ab.F

namespace Go.Ab.F
open Go Go.Ab
set_option linter.all false
set_option linter.all false
attribute [local congr] c_bind c_cl c_mk c_lp c_clC c_gQ c_gV c_condE c_thenK

section
variable {R : Nat} {g : Heap} {C : Nat → Nat} {nb bg bx : Nat} {ad : Int} {rest : List Int} {l : PAl} {F dn : Int} {c : Chan} {L : List Int} {bq : Option Nat} {v : AV} {i : Nat}
theorem act_ok (S : Cs R g C nb bg bx ad rest l F dn c L bq v i) (hR : 1 ≤ R ∧ R ≤ 40) {n : Nat} (hi : i < n) (hn : n ≤ 100) {x1 : AV} (hln : lnL x1 = some (.int .i64 n)) {o : Nat} {op : Int} (hix : iaS 3 x1 (.int .i64 i) = some (.ptr (some (bx, o)))) (hld : ldS g (.ptr (some (bx, o))) = some (.int .i64 op)) :
    Ok (k_law15_ChansHolds_b4 x1 (.ptr (some (C 0, 0))) (.ptr (some (nb, 0))) (.int .i64 ad) (.bool false) v (.int .i64 i) g) (ActQ R C nb bg bx ad rest g i) := by
  obtain ⟨qb, us, H⟩ := S.hp
  obtain ⟨lt1, lt2, lt3, lt4⟩ := S.lts
  have hlt : (i : Int) < n := by omega
  have F0 := S.F0
  have d0 := S.d0
  have inb : ∀ j, bq = some j → j ∈ Zc nb bg bx bq := fun j hj => by simp [Zc, hj]
  have hbx : ∀ {g' : Heap}, KpX (Zc nb bg bx bq) g g' → g'.get bx = g.get bx := fun k => k.get bx (by simp [Zc]) lt3
  have hwh := fun l2 (hw : WholeR sh15 l [ad] l2) => S.inn.whole H.cy.wf H.cy.al.len hw
  have hl : L.length ≤ 40 := by
    have h1 := S.inn.iq.len
    have h2 := S.inn.ch.ok.c1
    have h3 := S.inn.rm
    omega
  by_cases h0 : op = 0
  · subst h0
    refine Ok.eq ?_ (by simp -implicitDefEqProofs only [k_law15_ChansHolds_b4, hln, Option.bind_some, bin_lss, hlt, decide_true, condE_true, hix, faP_ptr, Nat.add_zero, hld, eql_int] <;> rfl)
    refine ok_cl (makef_ok H S.rt S.hZ (by simp) (sx := 2) (s := ⟨0, 0, 0⟩) rfl (n := 1) (by omega) (by omega) (fun l2 hw => (hwh l2 hw).2.2.1) ⟨F0.1, by omega⟩ ⟨d0.1, by omega⟩) ?_
    rintro v1 g1 ⟨kz, hE⟩
    simp only at kz
    have eW : ((1 : Int) + 128 * 0 + 1024 * ((2 : Nat) : Int)) :: List.replicate ((wordsOf (classOf 1)).toNat - 1) 0 = [hd15, 0] := rfl
    have hE' : ∃ a l3 lb F' dn' qb' us', v1 = .tup [.int .i64 a, .int .i64 0] ∧ HpC g1 C l3 sh15 F' qb' dn' us' (Xc C nb bg bx bq) ∧ Made lb l3 a [hd15, 0] ∧ In15 R ad rest lb c L ∧ Wf lb.ar ∧ (0 ≤ F' ∧ F' ≤ ((i + 1 : Nat) : Int)) ∧ (0 ≤ dn' ∧ dn' ≤ 2 * ((i + 1 : Nat) : Int)) := by
      rcases hE with ⟨a, l3, qb', us', h1, h2, h3⟩ | ⟨l2, hr, hw, f2, w2, (⟨a, l3, qb', us', h1, h2, h3⟩ | ⟨qb', us', h1, h2, hr2⟩)⟩
      · exact ⟨a, l3, l, F, dn, qb', us', h1, h2, h3, S.inn, H.cy.wf, ⟨F0.1, by omega⟩, ⟨d0.1, by omega⟩⟩
      · exact ⟨a, l3, l2, F + 1, dn + 1, qb', us', h1, h2, h3, (hwh l2 hw).1, w2, ⟨by omega, by omega⟩, ⟨by omega, by omega⟩⟩
      · obtain ⟨I2, W2, _, hf, hc, hu⟩ := hwh l2 hw
        exact absurd (I2.room hR.2 W2 hu hf hc) hr2
    clear hE
    obtain ⟨a, l3, lb, F', dn', qb', us', rfl, H3, M, Ib, Wb, hF', hd'⟩ := hE'
    obtain ⟨I3, hnew, hz, La⟩ := Ib.made Wb M
    refine Ok.eq ?_ (by simp -implicitDefEqProofs only [extractV_tup, e0, e1, Option.bind_some, neq_int, decide_true, Bool.not_true, condE_false] <;> rfl)
    refine ok_cl (push_ok H3.hp I3.ch a (.int .i64 1)) ?_
    rintro v2 g2 hp
    split at hp
    · rename_i hcc
      obtain ⟨rfl, l4, P4, s4, W4⟩ := hp
      simp only at P4 s4
      obtain ⟨H4, k4⟩ := H3.turn (s4.sub (by simp)) P4
      obtain ⟨Q', O'⟩ := push_q I3.ch.ok I3.iq hcc.2 a
      have I4 := I3.wrote W4 rfl I3.cl O' Q' (slq_push I3.iq I3.sq a) (fun y hy => by
        rw [List.mem_append, List.mem_singleton] at hy
        rcases hy with hy | rfl
        · obtain ⟨h1, h2⟩ := I3.th y hy
          exact ⟨fun e => (List.nodup_cons.1 I3.nd).1 (e ▸ hy), h1, h2⟩
        · exact ⟨fun e => hnew (by rw [e]; exact List.mem_cons_self ..), hz, _, La⟩) (by
        have hnd := I3.nd
        rw [List.nodup_cons] at hnd ⊢
        refine ⟨fun hm => ?_, ?_⟩
        · rw [List.mem_append, List.mem_singleton] at hm
          rcases hm with hm | rfl
          · exact hnd.1 hm
          · exact hnew (List.mem_cons_self ..)
        · rw [List.nodup_append]
          exact ⟨hnd.2, by simp, fun x hx y hy => by simp at hy; subst hy; exact fun e => hnew (by rw [← e]; exact List.mem_cons_of_mem _ hx)⟩)
      have k12 := kz.trans (k4.sub fun j hj => (S.hZ j hj).1)
      have q2 := S.qv.kp k12 inb
      have b1 : bsP 1 [AV.int .i64 0] 1 [(0, .int .i64 a)] = some (.cells true [.int .i64 a], fun i => .sl (some (i, 0)) 1 (.ex 1)) := rfl
      have s5 : Same [] g2 (g2.new (.cells true [.int .i64 a])) := Same.new _ _
      have n5 : (g2.new (.cells true [.int .i64 a])).next = g2.next + 1 := rfl
      have q5 := q2.keep s5 (by simp)
      obtain ⟨v', g6, e6, q6, s6, n6⟩ := q5.appN (c := g2.next) (x := a) get_new_eq (Nat.zero_le _) (by omega)
      have c0 := H4.cy.lt 0 (by decide)
      have c10 := H4.cy.lt 10 (by decide)
      have x1 := H4.cy.xl nb (by simp [Xc, Zc])
      have x2 := H4.cy.xl bg (by simp [Xc, Zc])
      have x3 := H4.cy.xl bx (by simp [Xc, Zc])
      have x4 := H4.cy.xl 0 (by simp [Xc, Zc])
      have s26 : Same bq.toList g2 g6 := (s5.sub (by simp)).trans s6
      rw [n5] at q6 n6
      have H6 : HpC g6 C l4 sh15 F' qb' dn' us' (Xc C nb bg bx (some (g2.next + 1))) := H4.swap s26 (fun j hj => by
          rw [Option.mem_toList] at hj
          obtain ⟨d1, d2, d3, _⟩ := S.dis j hj
          exact ⟨by simp [Xc, Zc, hj], d1, d2, d3⟩) (fun j hj => by
          simp only [Xc, Zc, Option.toList_some, List.mem_cons, List.not_mem_nil, or_false] at hj ⊢
          rcases hj with rfl | rfl | rfl | rfl | rfl | rfl | rfl
          · exact ⟨by simp, by omega⟩
          · exact ⟨by simp, by omega⟩
          · exact ⟨by simp, by omega⟩
          · exact ⟨by simp, by omega⟩
          · exact ⟨by simp, by omega⟩
          · exact ⟨by simp, by omega⟩
          · exact ⟨by right; omega, by omega⟩) (by simp [Xc, Zc]) (by simp [Xc]) (by simp [Xc])
      have nq : ∀ j, (j = nb ∨ j = bg ∨ j = bx) → j ∉ bq.toList := fun j hj hm => by
        rw [Option.mem_toList] at hm
        obtain ⟨_, _, _, d4, d5, d6⟩ := S.dis j hm
        omega
      have gg : ∀ j, (j = nb ∨ j = bg ∨ j = bx) → g6.get j = g.get j := fun j hj => by
        have hjl : j < g2.next := by rcases hj with rfl | rfl | rfl <;> omega
        have hjg : j < g.next := by rcases hj with rfl | rfl | rfl <;> omega
        exact (s26.get j hjl (nq j hj)).trans (k12.get j (by rcases hj with rfl | rfl | rfl <;> simp [Zc]) hjg)
      have S6 : Cs R g6 C nb bg bx ad rest l4 F' dn' (c.pushed a) (L ++ [a]) (some (g2.next + 1)) v' (i + 1) :=
        ⟨⟨_, _, H6⟩, (gg nb (.inl rfl)).trans S.box, (gg bg (.inr (.inl rfl))).trans S.glb, I4, q6, hF', hd', fun j hj => by cases hj; exact ⟨by omega, by omega, by omega, by omega, by omega, by omega⟩, S.nC⟩
      refine Ok.eq ?_ (by simp -implicitDefEqProofs only [condE_true, b1, mk_some, e6, cl_some] <;> rfl)
      exact act_end S6 hR.2 (by omega) (gg bx (.inr (.inr rfl)))
    · obtain ⟨rfl, s4⟩ := hp
      simp only at s4
      have k12 := kz.trans (KpX.same s4)
      refine Ok.eq ?_ (by simp -implicitDefEqProofs only [condE_false] <;> rfl)
      exact act_end (S.turn k12 ⟨_, _, H3.keep s4⟩ I3 hF' hd') hR.2 (by omega) (hbx k12)
  have d0' : decide (op = 0) = false := by simp [h0]
  by_cases h1 : op = 1
  · subst h1
    refine Ok.eq ?_ (by simp -implicitDefEqProofs only [k_law15_ChansHolds_b4, hln, Option.bind_some, bin_lss, hlt, decide_true, decide_false, condE_true, condE_false, hix, faP_ptr, Nat.add_zero, hld, eql_int, show ((1 : Int) = 0) = False by simp] <;> rfl)
    refine ok_cl (pop_ok H.hp S.inn.ch) ?_
    rintro v2 g2 hp
    have ql := S.inn.iq.len
    split at hp
    · rename_i hcc
      obtain ⟨rfl, l4, P4, s4, W4⟩ := hp
      simp only at P4 s4
      obtain ⟨H4, k4⟩ := H.turn (s4.sub (by simp)) P4
      obtain ⟨x, L', rfl, hx, Q', O'⟩ := pop_q S.inn.ch.ok S.inn.iq hcc
      rw [hx]
      have hnd := S.inn.nd
      have I4 := S.inn.wrote W4 rfl S.inn.cl O' Q' (slq_pop S.inn.sq) (fun y hy => by
        obtain ⟨h1, h2⟩ := S.inn.th y (List.mem_cons_of_mem _ hy)
        exact ⟨fun e => (List.nodup_cons.1 hnd).1 (e ▸ List.mem_cons_of_mem _ hy), h1, h2⟩) (by
        rw [List.nodup_cons, List.nodup_cons] at hnd
        rw [List.nodup_cons]
        exact ⟨fun hm => hnd.1 (List.mem_cons_of_mem _ hm), hnd.2.2⟩)
      have k2 := k4.sub fun j hj => (S.hZ j hj).1
      have q2 := S.qv.kp k2 inb
      obtain ⟨j, o2, hb, rfl, hl0, v', hsl, q'⟩ := q2.tail
      have ix0 : iaS 1 (.sl (some (j, o2)) (L'.length + 1) (.un 1)) (.int .i64 0) = some (.ptr (some (j, o2))) := by
        rw [iaS_sl 1 _ _ _ _ _ ⟨by omega, by omega⟩]; simp
      have hgt : (0 : Int) < ((L'.length + 1 : Nat) : Int) := by omega
      have S4 : Cs R g2 C nb bg bx ad rest l4 F dn c.popped L' bq v' (i + 1) :=
        ⟨⟨_, _, H4⟩, (k2.get nb (by simp [Zc]) lt1).trans S.box, (k2.get bg (by simp [Zc]) lt2).trans S.glb, I4, q', ⟨F0.1, by omega⟩, ⟨d0.1, by omega⟩, S.dis, S.nC⟩
      refine Ok.eq ?_ (by simp -implicitDefEqProofs only [extractV_tup, e0, e1, Option.bind_some, lnL_sl, bin_gtr, hgt, decide_true, neq_bool, beq_self_eq_true, Bool.not_true, gdW_ff, gdW_tt, gQ_true, cl_some, ix0, hl0, neq_int, pickP_bool, if_true, Bool.false_eq_true, if_false, condE_false, condE_true, hsl] <;> rfl)
      exact act_end S4 hR.2 (by omega) (hbx k2)
    · rename_i hcc
      obtain ⟨rfl, s4⟩ := hp
      simp only at s4
      have k2 : KpX (Zc nb bg bx bq) g g2 := KpX.same s4
      obtain rfl : L = [] := List.eq_nil_of_length_eq_zero (by have := S.inn.ch.ok.c0; omega)
      have hgt : ¬ (0 : Int) < ((([] : List Int).length : Nat) : Int) := by simp
      have ln := S.qv.lnL
      refine Ok.eq ?_ (by simp -implicitDefEqProofs only [extractV_tup, e0, e1, Option.bind_some, ln, bin_gtr, hgt, decide_false, neq_bool, beq_self_eq_true, Bool.not_true, gdW_ff, gdW_ft, gQ_true, gQ_false, cl_some, pickP_bool, Bool.false_eq_true, if_false, condE_false] <;> rfl)
      exact act_end (S.turn k2 ⟨_, _, H.keep s4⟩ S.inn ⟨F0.1, by omega⟩ ⟨d0.1, by omega⟩) hR.2 (by omega) (hbx k2)
  have d1' : decide (op = 1) = false := by simp [h1]
  refine Ok.eq ?_ (by simp -implicitDefEqProofs only [k_law15_ChansHolds_b4, hln, Option.bind_some, bin_lss, hlt, decide_true, condE_true, condE_false, hix, faP_ptr, Nat.add_zero, hld, eql_int, d0', d1', hcycle_eq H.hp, cl_some] <;> rfl)
  refine ok_cl (whole_ok H.cy (S.rt.up fun j hj => (S.hZ j hj).1) (by simp)) ?_
  rintro _ g2 ⟨rfl, l2, qb', us', C2, k2, hw⟩
  simp only at C2 k2
  obtain ⟨I2, W2, f2, hf, hc, hu⟩ := hwh l2 hw
  have wd : IntKind.i64.wrap (dn + 1) = dn + 1 := wrap_i64 (by omega) (by omega)
  rw [wd] at C2
  have H2 := H.whole C2 k2 f2
  have kz := k2.sub fun j hj => (S.hZ j hj).1
  have htot := found_count W2 I2.nd hf
  rw [I2.len] at htot
  have q2 := S.qv.kp kz inb
  have ln := q2.lnL
  have hsum : binP .add (.int .i64 1) (.int .i64 L.length) = some (.int .i64 ((tot l2.ar 20 : Nat) : Int)) := by
    rw [bin_add, htot, wrap_i64 (by omega) (by omega)]
    simp; omega
  refine ok_lp (sum_loop H2.hp I2.len) ?_
  rintro _ vs g3 ⟨rfl, hv, hg⟩
  simp only at hv hg
  subst hg
  rw [if_pos rfl, thenK_normal, hv]
  refine Ok.eq ?_ (by simp -implicitDefEqProofs only [ln, Option.bind_some, hsum, neq_int, decide_true, Bool.not_true, condE_false] <;> rfl)
  exact act_end (S.turn kz ⟨_, _, H2⟩ I2 ⟨F0.1, by omega⟩ ⟨by omega, by omega⟩) hR.2 (by omega) (hbx kz)
end
end Go.Ab.F

namespace Go.Ab.F
open Go Go.Ab
set_option linter.all false
set_option linter.all false
attribute [local congr] c_bind c_cl c_mk c_lp c_clC c_gQ c_gV c_condE c_thenK

structure A3 where
  op : Int
  k : Int
  v : Int
def A3.row (a : A3) : List AV := [.int .i64 a.op, .int .i64 a.k, .int .i64 a.v]
theorem rep_a3 {h : Heap} {x : D} {r : List AV} (H : Rep h (.st (List.replicate 3 (.int .i64))) x r) : ∃ i : A3, True ∧ r = i.row := by
  cases x <;> simp only [Rep] at H
  obtain ⟨l, hl, rfl, hw⟩ := reps_ints 3 H
  rcases l with _ | ⟨a, _ | ⟨b, _ | ⟨c, _ | ⟨d, l⟩⟩⟩⟩ <;> simp at hl
  exact ⟨⟨a, b, c⟩, trivial, rfl⟩
theorem rd_a3 {h : Heap} {x : D} {vs : List AV} (H : Rep h (.sl (.st (List.replicate 3 (.int .i64)))) x vs) : ∃ rows : List A3, RwC h 3 (argAV (.sl (.st (List.replicate 3 (.int .i64)))) vs) (rows.map A3.row) := by
  obtain ⟨l, h1, h2⟩ := rd_rows H
  obtain ⟨m, _, rfl⟩ := all_rows A3.row (fun _ => True) rep_a3 h2
  exact ⟨m, h1⟩
/-- A list of rows lies in one block. -/
theorem rows_blkF {h : Heap} {sz : Nat} {v : AV} {l : List (List AV)} (hy : RwC h sz v l) (hn : 1 ≤ h.next) : ∃ bx, bx < h.next ∧ ∀ (i : Nat) r, l[i]? = some r → ∃ o, iaS sz v (.int .i64 (i : Int)) = some (.ptr (some (bx, o))) ∧ ∀ (f : Nat) x, r[f]? = some x → ldS h (.ptr (some (bx, o + f))) = some x := by
  cases hl : l with
  | nil => exact ⟨0, by omega, fun i r hr => by simp at hr⟩
  | cons r0 rest =>
    rw [← hl]
    obtain ⟨b, o, hb, hix, hla, _⟩ := hy.at (i := 0) (r := r0) (by rw [hl]; rfl)
    refine ⟨b, hb, fun i r hr => ?_⟩
    obtain ⟨b', o', hb', hix', _, hla'⟩ := hy.at hr
    have : b' = b := by
      obtain ⟨cs, hw, _⟩ := hy
      have hi := (List.getElem?_eq_some_iff.1 hr).1
      rcases hw.eq with ⟨_, e⟩ | ⟨b1, o1, c, e, _⟩
      · omega
      · have h1 := hix .i64
        have h2 := hix' .i64
        rw [e, iaS_sl sz _ _ _ _ _ ⟨by omega, by omega⟩] at h1 h2
        simp only [Option.some.injEq, AV.ptr.injEq, Prod.mk.injEq] at h1 h2
        omega
    subst this
    exact ⟨o', hix' .i64, hla'⟩
theorem ldS_congF {g g' : Heap} {b : Nat} (h : g.get b = g'.get b) (o : Nat) : ldS g (.ptr (some (b, o))) = ldS g' (.ptr (some (b, o))) := by
  simp only [ldS, h]
theorem shapes15F (h : Heap) : k_law15_shapes h = some (.sl (some (h.next, 0)) 3 (.ex 3), h.new (.cells true (shC sh15))) := rfl
theorem HpC.addB {h : Heap} {C : Nat → Nat} {l : PAl} {T : List Shp} {F dn us : Int} {X : List Nat} {b : Nat} (H : HpC h C l T F none dn us X) (hC : ∀ i, i < 14 → C i ≠ b) (hb : b < h.next) : HpC h C l T F none dn us (b :: X) :=
  ⟨{ H.cy with
     xC := fun i hi h0 h10 hm => by
       rw [List.mem_cons] at hm
       exact hm.elim (hC i hi) (H.cy.xC i hi h0 h10)
     xq := fun i hi => by cases hi
     x0 := List.mem_cons_of_mem _ H.cy.x0
     xl := fun j hj => by
       rw [List.mem_cons] at hj
       rcases hj with rfl | hj
       · exact hb
       · exact H.cy.xl j hj }, H.hpb, H.fi, List.mem_cons_of_mem _ H.x0, List.mem_cons_of_mem _ H.x10⟩
theorem holds_true {h : Heap} (hsub : Sub hQ1 h) (hn1 : 1 ≤ h.next) (x : Int) {x1 : AV} {rows : List A3} (hy : RwC h 3 x1 (rows.map A3.row)) : Ok (k_law15_ChansHolds (.int .i64 x) x1 h) fun r => r.1 = .bool true := by
  have ht := tab0_sub hsub hn1
  have haw : k_law15_awake h = some (.bool true, h) := quiet_pos hsub
  have hl1 := hy.lnL
  rw [List.length_map] at hl1
  by_cases b1 : x < 1
  · exact ok_val (v := .bool true) (g := h) (by simp -implicitDefEqProofs only [k_law15_ChansHolds, haw, cl_some, un_not, Bool.not_true, Option.bind_some, condE_false, bin_lss, b1, decide_true, gdW_tf, gQ_false, pickP_bool, if_true, condE_true]) rfl
  by_cases b2 : 40 < x
  · exact ok_val (v := .bool true) (g := h) (by simp -implicitDefEqProofs only [k_law15_ChansHolds, haw, cl_some, un_not, Bool.not_true, Option.bind_some, condE_false, bin_lss, bin_gtr, b1, b2, decide_true, decide_false, gdW_ff, gQ_true, gdW_tf, gQ_false, pickP_bool, Bool.false_eq_true, if_false, if_true, condE_true]) rfl
  by_cases b3 : 100 < rows.length
  · have b3' : (100 : Int) < rows.length := by omega
    exact ok_val (v := .bool true) (g := h) (by simp -implicitDefEqProofs only [k_law15_ChansHolds, haw, cl_some, un_not, Bool.not_true, Option.bind_some, condE_false, bin_lss, bin_gtr, b1, b2, hl1, b3', decide_true, decide_false, gdW_ff, gQ_true, pickP_bool, Bool.false_eq_true, if_false, condE_true]) rfl
  have b3' : ¬ (100 : Int) < rows.length := by omega
  obtain ⟨R, rfl⟩ : ∃ R : Nat, x = R := ⟨x.toNat, by omega⟩
  refine Ok.eq ?_ (by simp -implicitDefEqProofs only [k_law15_ChansHolds, haw, cl_some, un_not, Bool.not_true, Option.bind_some, condE_false, bin_lss, bin_gtr, b1, b2, hl1, b3', decide_false, gdW_ff, gQ_true, pickP_bool, Bool.false_eq_true, if_false, shapes15F] <;> rfl)
  have s0 : Same [] h (h.new (.cells true (shC sh15))) := Same.new _ _
  have n0 : (h.new (.cells true (shC sh15))).next = h.next + 1 := rfl
  refine ok_cl (hnewc_ok (h := h.new (.cells true (shC sh15))) (N := 20) (T := sh15) (by decide) (by decide) (ht.same s0 (by simp)) get_new_eq (Nat.lt_succ_self _) (by decide) (by decide) (by decide) (by decide)) ?_
  rintro _ g1 ⟨C, rfl, H1, s1, hC⟩
  simp only at H1 s1
  have bn : bldS [(0, 1)] [(AV.sl none 0 (.ex 0))] [] = some (.agg [.sl none 0 (.ex 0)]) := rfl
  have xn : bxP (.agg [.sl none 0 (.ex 0)]) = some (.cells true [.sl none 0 (.ex 0)], fun i => .ptr (some (i, 0))) := rfl
  have s2 : Same [] g1 (g1.new (.cells true [.sl none 0 (.ex 0)])) := Same.new _ _
  have p2 : (g1.new (.cells true [.sl none 0 (.ex 0)])).get g1.next = some (.cells true [.sl none 0 (.ex 0)]) := get_new_eq
  have n2 : (g1.new (.cells true [.sl none 0 (.ex 0)])).next = g1.next + 1 := rfl
  refine Ok.eq ?_ (by simp -implicitDefEqProofs only [extractV_tup, e0, e1, Option.bind_some, neq_int, decide_true, Bool.not_true, condE_false, bn, xn, mk_some] <;> rfl)
  generalize g1.new (.cells true [.sl none 0 (.ex 0)]) = g2 at *
  obtain ⟨bx, hbx, hxr⟩ := rows_blkF hy hn1
  have hC0 := hC 0 (by decide)
  have hC10 := hC 10 (by decide)
  rw [n0] at hC0 hC10
  have hl20 : (newA 20).sp.length = 20 := by show (List.replicate 20 _).length = 20; rw [List.length_replicate]
  have hn12 := s1.next
  have H1b := H1.addB (b := bx) (fun i hi e => by have := hC i hi; rw [n0] at this; omega) (by omega)
  have H2 : HpC g2 C ⟨newA 20, List.replicate 20 false⟩ sh15 0 none 0 64 [C 0, C 10, 0, g1.next, bx] := H1b.swap s2 (fun j hj => by simp at hj) (fun j hj => by
      have c0 := H1.cy.lt 0 (by decide)
      have c10 := H1.cy.lt 10 (by decide)
      simp only [List.mem_cons, List.not_mem_nil, or_false] at hj ⊢
      rcases hj with rfl | rfl | rfl | rfl | rfl
      · exact ⟨by simp, by omega⟩
      · exact ⟨by simp, by omega⟩
      · exact ⟨by simp, by omega⟩
      · exact ⟨by right; omega, by omega⟩
      · exact ⟨by simp, by omega⟩) (by simp) (by simp) (by simp)
  refine ok_cl (cmake_ok H2.hp (sx := 1) (s := ⟨3, 0, 1⟩) rfl rfl (room := (R : Int)) (by omega) (by omega) (by show (newA 20).used + 1 < (newA 20).sp.length; rw [used_new, hl20]; omega) _) ?_
  rintro _ g3 ⟨ad, l3, rest, rfl, P3, s3, C3, ws, M⟩
  simp only at P3 s3 C3
  obtain ⟨H3, k3⟩ := H2.turn s3 P3
  have c0 := H1.cy.lt 0 (by decide)
  have c10 := H1.cy.lt 10 (by decide)
  have bs : bsP 1 [AV.int .i64 0] 1 [(0, .int .i64 ad)] = some (.cells true [.int .i64 ad], fun i => .sl (some (i, 0)) 1 (.ex 1)) := rfl
  have hpn : ∀ j, j < 14 → C j ≠ g1.next := fun j hj e => by have := H1.cy.lt j hj; omega
  have p3 : g3.get g1.next = some (.cells true [.sl none 0 (.ex 0)]) := (s3.get _ (by omega) (by
    have h5 := hpn 5 (by decide)
    have h7 := hpn 7 (by decide)
    have h8 := hpn 8 (by decide)
    simp; omega)).trans p2
  have n3 := s3.next
  have s4 : Same [] g3 (g3.new (.cells true [.int .i64 ad])) := Same.new _ _
  have p4 : (g3.new (.cells true [.int .i64 ad])).get g3.next = some (.cells true [.int .i64 ad]) := get_new_eq
  have n4 : (g3.new (.cells true [.int .i64 ad])).next = g3.next + 1 := rfl
  have b4 : (g3.new (.cells true [.int .i64 ad])).get g1.next = some (.cells true [.sl none 0 (.ex 0)]) := (s4.get _ (by omega) (by simp)).trans p3
  have st := stP_one (h := g3.new (.cells true [.int .i64 ad])) (o := 0) (v := .sl (some (g3.next, 0)) 1 (.ex 1)) b4 (by simp) rfl
  refine Ok.eq ?_ (by simp -implicitDefEqProofs only [extractV_tup, e0, e1, e2, Option.bind_some, neq_int, decide_true, Bool.not_true, gdW_ff, gQ_true, cl_some, pickP_bool, Bool.false_eq_true, if_false, condE_false, bs, mk_some, nilV_ptr, faP_ptr, Nat.zero_add, st] <;> rfl)
  generalize g3.new (.cells true [.int .i64 ad]) = g4 at *
  have s5 : Same [g1.next] g4 (g4.put g1.next (some (.cells true ([AV.sl none 0 (.ex 0)].set 0 (.sl (some (g3.next, 0)) 1 (.ex 1)))))) := Same.put _ _ _
  have p5 : (g4.put g1.next (some (.cells true ([AV.sl none 0 (.ex 0)].set 0 (.sl (some (g3.next, 0)) 1 (.ex 1)))))).get g1.next = some (.cells true [.sl (some (g3.next, 0)) 1 (.ex 1)]) := get_put_eq
  have n5 : (g4.put g1.next (some (.cells true ([AV.sl none 0 (.ex 0)].set 0 (.sl (some (g3.next, 0)) 1 (.ex 1)))))).next = g4.next := rfl
  generalize g4.put g1.next (some (.cells true ([AV.sl none 0 (.ex 0)].set 0 (.sl (some (g3.next, 0)) 1 (.ex 1))))) = g5 at *
  have H4 : HpC g4 C l3 sh15 0 none 0 64 (Xc C g1.next g3.next bx none) := H3.swap s4 (fun j hj => by simp at hj) (fun j hj => by
      have c0 := H3.cy.lt 0 (by decide)
      have c10 := H3.cy.lt 10 (by decide)
      simp only [Xc, Zc, Option.toList_none, List.mem_cons, List.not_mem_nil, or_false] at hj ⊢
      rcases hj with rfl | rfl | rfl | rfl | rfl | rfl
      · exact ⟨by simp, by omega⟩
      · exact ⟨by simp, by omega⟩
      · exact ⟨by simp, by omega⟩
      · exact ⟨by simp, by omega⟩
      · exact ⟨by right; omega, by omega⟩
      · exact ⟨by simp, by omega⟩) (by simp [Xc, Zc]) (by simp [Xc]) (by simp [Xc])
  have nb0 : g1.next ≠ C 0 := fun e => hpn 0 (by decide) e.symm
  have nb10 : g1.next ≠ C 10 := fun e => hpn 10 (by decide) e.symm
  have H5 : HpC g5 C l3 sh15 0 none 0 64 (Xc C g1.next g3.next bx none) := H4.swap s5 (fun j hj => by
      simp at hj; subst hj
      exact ⟨by simp [Xc, Zc], nb0, nb10, by omega⟩) (fun j hj => ⟨.inl hj, Nat.lt_of_lt_of_le (H4.cy.xl j hj) s5.next⟩) (by simp [Xc, Zc]) (by simp [Xc]) (by simp [Xc])
  have hz : ad ∉ ([] : List Int) := by simp
  have I : In15 R ad rest l3 (newC R) [] :=
    ⟨C3, rfl, rfl, inQ_new (by omega), slq_new, fun y hy => by simp at hy, by simp, fun y hy => by
      by_cases e : y = ad
      · exact .inl e
      · rw [M.find y e] at hy
        exact absurd (find_new 20 y) hy, M.len.trans hl20⟩
  have g25 : g5.get bx = h.get bx := by
    have a1 : g5.get bx = g4.get bx := s5.get bx (by omega) (by simp; omega)
    have a2 : g4.get bx = g3.get bx := s4.get bx (by omega) (by simp)
    have a3 : g3.get bx = g2.get bx := k3.get bx (by simp) (by omega)
    have a4 : g2.get bx = h.get bx := ((s0.trans s1).trans s2).get bx hbx (by simp)
    rw [a1, a2, a3, a4]
  have S : Cs R g5 C g1.next g3.next bx ad rest l3 0 0 (newC R) [] none (.sl none 0 (.ex 0)) 0 :=
    ⟨⟨none, 64, H5⟩, p5, (s5.get _ (by omega) (by simp; omega)).trans p4, I, QuV.mt, by omega, by omega, (fun j hj => by cases hj), ⟨nb0, by have := H3.cy.lt 0 (by decide); omega, by omega⟩⟩
  have lp : Ok (k_law15_ChansHolds_L4 x1 (.ptr (some (C 0, 0))) (.ptr (some (g1.next, 0))) (.int .i64 ad) (.bool false) (.sl none 0 (.ex 0)) (.int .i64 0) g5) fun r => r.1 = .exit 0 := by
    refine ok_loop (fun m vs g => ∃ (i : Nat) (l' : PAl) (F' dn' : Int) (c' : Chan) (L' : List Int) (bq' : Option Nat) (v' : AV), vs = [.bool false, v', .int .i64 i] ∧ m + i = rows.length ∧ Cs R g C g1.next g3.next bx ad rest l' F' dn' c' L' bq' v' i ∧ g.get bx = h.get bx) ?_ (n := rows.length) (by omega) ⟨0, l3, 0, 0, _, _, none, _, rfl, rfl, S, g25⟩
    rintro m vs g ⟨i, l', F', dn', c', L', bq', v', rfl, hm, S', hg⟩
    rw [gd0, gd1, gd2]
    by_cases hi : i < rows.length
    · obtain ⟨t, ht⟩ : ∃ t, rows[i]? = some t := ⟨_, List.getElem?_eq_getElem hi⟩
      obtain ⟨o, hix, hld⟩ := hxr i t.row (by rw [List.getElem?_map, ht]; rfl)
      have ld := hld 0 _ rfl
      rw [Nat.add_zero] at ld
      refine (act_ok S' ⟨by omega, by omega⟩ hi (by omega) hl1 hix (by rw [← ld]; exact ldS_congF hg o)).mono ?_
      rintro r ⟨h1, l2, F2, dn2, c2, L2, bq2, v2, h2, S2, h3⟩
      exact .inl ⟨h1, m - 1, by omega, i + 1, l2, F2, dn2, c2, L2, bq2, v2, h2, by omega, S2, h3.trans hg⟩
    · have hlt : ¬ (i : Int) < rows.length := by omega
      exact (Ok.of (r := (.exit 0, [.bool false, v', .int .i64 (i : Int)], g)) (.inr ⟨by simp, rfl⟩)).eq (by
        simp -implicitDefEqProofs only [k_law15_ChansHolds_b4, hl1, Option.bind_some, bin_lss, hlt, decide_false, condE_false])
  refine ok_lp lp ?_
  rintro _ vs g6 rfl
  exact ok_val (v := .bool true) (g := g6) rfl rfl
end Go.Ab.F
