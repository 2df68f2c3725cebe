import Derived.Test.YtcekmnclmldmmaaGreatDoorB13
set_option linter.unusedVariables false
set_option linter.unusedSimpArgs false
namespace Go.Proofs.YtcekmnclmldmmaaGreatDoor.Q
open Go.RowKit W1 W2 W3
namespace P
theorem same_iff {u v : ByteArray} : same u v = true ↔ u.toList = v.toList := by simp [same, ByteArray.toList_eq]
def Asc (x : List Entry) (n : Nat) : Prop := ∀ i j : Nat, i < j → j < n → (rdE x i).f0.toList < (rdE x j).f0.toList
theorem rdE_take (t : List Entry) (n j : Nat) (h : j < n) : rdE (t.take n) (j : Int) = rdE t (j : Int) := by
 show (t.take n).getD j zEntry = t.getD j zEntry
 simp [List.getD_eq_getElem?_getD, List.getElem?_take, h]
theorem eFind (x : List Entry) (u : ByteArray) (hl : x.length ≤ 1048576) (ha : Asc x x.length) : ∀ (d lo hi : Nat), hi ≤ lo + d → lo ≤ hi → hi ≤ x.length → (∀ j : Nat, j < lo → (rdE x j).f0.toList < u.toList) → (∀ j : Nat, hi ≤ j → j < x.length → ¬ (rdE x j).f0.toList < u.toList) →
 ∃ r : Int, Ev (fun k => spec_l10Find.l0 k x u (lo : Int) (hi : Int)) r ∧ ((0 ≤ r ∧ r < x.length ∧ (rdE x r).f0.toList = u.toList) ∨ (r = -1 ∧ ∀ j : Nat, j < x.length → (rdE x j).f0.toList ≠ u.toList))
 | d, lo, hi, hd, h1, h2, h3, h4 => by
  by_cases hlt : lo < hi
  ·obtain ⟨d, rfl⟩ : ∃ e, d = e + 1 := ⟨d - 1, by omega⟩
   have hm : wrap64 (Int.tdiv (wrap64 ((lo : Int) + (hi : Int))) 2) = (((lo + hi) / 2 : Nat) : Int) := by
    rw [wrap64_small (n := (lo : Int) + (hi : Int)) (by omega) (by omega), Int.tdiv_eq_ediv_of_nonneg (by omega), wrap64_small (by omega) (by omega)]
    omega
   generalize hM : (lo + hi) / 2 = m at hm
   have hm1 : lo ≤ m := by omega
   have hm2 : m < hi := by omega
   by_cases hc : (rdE x m).f0.toList < u.toList
   ·obtain ⟨r, ih, hr⟩ := eFind x u hl ha d (m + 1) hi (by omega) (by omega) h2 (fun j hj => by
     rcases Nat.lt_or_eq_of_le (Nat.le_of_lt_succ hj) with h | h
     ·exact List.lt_trans (ha j m h (by omega)) hc
     ·subst h; exact hc) h4
    refine ⟨r, Ev.step (fun k => by rw [spec_l10Find.l0]) ?_, hr⟩
    have hb : Op.bytesLess (rdE x (m : Int)).f0.toList u.toList = true := by rw [bl_eq]; exact decide_eq_true hc
    simp only [if_pos (show (lo : Int) < hi by omega), hm, if_pos (show (0 : Int) ≤ m by omega), if_pos (show (m : Int) < x.length by omega), if_pos hb]
    rw [w64n (by omega)]
    exact ih
   ·obtain ⟨r, ih, hr⟩ := eFind x u hl ha d lo m (by omega) hm1 (by omega) h3 (fun j hj hjl => by
     rcases Nat.lt_or_eq_of_le hj with h | h
     ·intro h5; exact hc (List.lt_trans (ha m j h hjl) h5)
     ·subst h; exact hc)
    refine ⟨r, Ev.step (fun k => by rw [spec_l10Find.l0]) ?_, hr⟩
    have hb : ¬ Op.bytesLess (rdE x (m : Int)).f0.toList u.toList = true := by rw [bl_eq]; simpa using hc
    simp only [if_pos (show (lo : Int) < hi by omega), hm, if_pos (show (0 : Int) ≤ m by omega), if_pos (show (m : Int) < x.length by omega), if_neg hb]
    exact ih
  ·obtain rfl : hi = lo := by omega
   by_cases hin : hi < x.length
   ·by_cases he : (rdE x hi).f0.toList = u.toList
    ·refine ⟨hi, Ev.step (fun k => by rw [spec_l10Find.l0]) ?_, Or.inl ⟨by omega, by omega, he⟩⟩
     simp only [if_neg (show ¬ (hi : Int) < hi by omega), if_pos (show (hi : Int) < x.length by omega), if_pos (show (0 : Int) ≤ hi by omega), if_pos he]
     exact Ev.now _
    ·refine ⟨-1, Ev.step (fun k => by rw [spec_l10Find.l0]) ?_, Or.inr ⟨rfl, fun j hj => ?_⟩⟩
     ·simp only [if_neg (show ¬ (hi : Int) < hi by omega), if_pos (show (hi : Int) < x.length by omega), if_pos (show (0 : Int) ≤ hi by omega), if_neg he]
      exact Ev.now _
     ·intro e
      rcases Nat.lt_trichotomy j hi with h | h | h
      ·exact List.lt_irrefl _ (e ▸ h3 j h)
      ·subst h; exact he e
      ·exact h4 hi (Nat.le_refl _) hin (e ▸ ha hi j h hj)
   ·refine ⟨-1, Ev.step (fun k => by rw [spec_l10Find.l0]) ?_, Or.inr ⟨rfl, fun j hj e => ?_⟩⟩
    ·simp only [if_neg (show ¬ (hi : Int) < hi by omega), if_neg (show ¬ (hi : Int) < x.length by omega)]
     exact Ev.now _
    ·exact List.lt_irrefl _ (e ▸ h3 j (by omega))
theorem eDir (x : List Entry) (u : ByteArray) (hl : x.length ≤ 1048576) (ha : Asc x x.length) : Ev (fun k => spec_l10Dir.f k x u) (dirIn x u) := by
 unfold spec_l10Dir.f spec_l10Find.f
 obtain ⟨r, h, hr⟩ := eFind x u hl ha x.length 0 x.length (by omega) (by omega) (Nat.le_refl _) (fun j h => absurd h (Nat.not_lt_zero _)) (fun j h1 h2 => by omega)
 refine Ev.bind h ?_
 rcases hr with ⟨h0, h1, h2⟩ | ⟨h0, h1⟩
 ·simp only [if_pos (show r ≥ 0 from h0), if_pos h0, if_pos h1]
  obtain ⟨n, rfl⟩ := Int.eq_ofNat_of_zero_le h0
  have hn : n < x.length := by omega
  have e : dirIn x u = ((rdE x (n : Int)).f1 == 1) := by
   rw [Bool.eq_iff_iff]
   unfold dirIn
   rw [List.any_eq_true]
   constructor
   ·rintro ⟨e, he, hh⟩
    obtain ⟨j, hj, rfl⟩ := List.mem_iff_getElem.1 he
    rw [Bool.and_eq_true, same_iff, ← rdE_at x j hj] at hh
    have : j = n := by
     rcases Nat.lt_trichotomy j n with h | h | h
     ·exact absurd (ha j n h hn) (by rw [h2, ← hh.2]; exact List.lt_irrefl _)
     ·exact h
     ·exact absurd (ha n j h hj) (by rw [h2, ← hh.2]; exact List.lt_irrefl _)
    subst this
    simpa using hh.1
   ·intro hk
    refine ⟨rdE x (n : Int), by rw [rdE_at x n hn]; exact List.getElem_mem hn, ?_⟩
    rw [Bool.and_eq_true, same_iff]
    exact ⟨by simpa using hk, h2.symm⟩
  rw [e]
  exact Ev.now _
 ·subst h0
  have e : dirIn x u = false := by
   unfold dirIn
   rw [List.any_eq_false]
   intro e he
   obtain ⟨j, hj, rfl⟩ := List.mem_iff_getElem.1 he
   rw [Bool.and_eq_true, same_iff, ← rdE_at x j hj]
   exact fun hh => h1 j hj hh.2.symm
  rw [e]
  simp only [if_neg (show ¬ (-1 : Int) ≥ 0 by decide)]
  exact Ev.now _
theorem pathOk_slash {s : ByteArray} (hp : pathOk s = true) {j : Nat} (hj : lastS s s.size = some j) : j ≠ 0 := by
 rintro rfl
 have h1 := lastS_lt s _ _ hj
 have h2 := lastS_47 s _ _ hj
 unfold pathOk at hp
 obtain ⟨d, hd⟩ : ∃ d, s.size = d + 1 := ⟨s.size - 1, by omega⟩
 rw [hd] at hp
 simp only [segOk, if_pos h2] at hp
 have : nameOk (s.extract 0 0) = false := by simp [nameOk]
 rw [this] at hp
 simp at hp
theorem up_less (s : ByteArray) (j : Nat) (h : j < s.size) : (s.extract 0 j).toList < s.toList := by
 rw [ByteArray.toList_eq, ByteArray.toList_eq, ext_data, List.drop_zero]
 have hl := size_l s
 have : s.data.toList = s.data.toList.take j ++ s.data.toList.drop j := (List.take_append_drop j _).symm
 have hne : s.data.toList.drop j ≠ [] := by
  intro e
  have := congrArg List.length e
  simp at this
  rw [← hl] at h
  simp at h
  omega
 conv => rhs; rw [this]
 generalize s.data.toList.take j = a
 generalize s.data.toList.drop j = b at hne
 clear this
 induction a with
 | nil => cases b with
  | nil => exact absurd rfl hne
  | cons c b => exact List.nil_lt_cons c b
 | cons c a ih => simpa [List.cons_lt_cons_iff] using ih
theorem dir_take (t : List Entry) (i : Nat) (u : ByteArray) (ha : ∀ j : Nat, i ≤ j → j < t.length → u.toList < (rdE t j).f0.toList) : dirIn (t.take i) u = dirIn t u := by
 rw [Bool.eq_iff_iff]
 unfold dirIn
 rw [List.any_eq_true, List.any_eq_true]
 constructor
 ·rintro ⟨e, he, hh⟩
  exact ⟨e, List.mem_of_mem_take he, hh⟩
 ·rintro ⟨e, he, hh⟩
  obtain ⟨j, hj, rfl⟩ := List.mem_iff_getElem.1 he
  refine ⟨_, ?_, hh⟩
  by_cases hji : j < i
  ·have : (t.take i)[j]'(by simp; omega) = t[j] := by simp
   rw [← this]
   exact List.getElem_mem _
  ·rw [Bool.and_eq_true, same_iff, ← rdE_at t j hj] at hh
   exact absurd (ha j (by omega) hj) (by rw [hh.2]; exact List.lt_irrefl _)
theorem asc_chain (t : List Entry) (n : Nat) (h : ∀ i : Nat, i < n → asc t i = true) : Asc t n := by
 intro i j hij hj
 induction j with
 | zero => omega
 | succ j ih =>
  have h1 := h (j + 1) hj
  unfold asc at h1
  rw [decide_eq_false (by omega), Bool.false_or, lessB_iff] at h1
  simp only [Nat.add_sub_cancel] at h1
  rcases Nat.lt_or_eq_of_le (Nat.le_of_lt_succ hij) with h2 | h2
  ·exact List.lt_trans (ih h2 (by omega)) h1
  ·subst h2; exact h1
theorem scan_all (t : List Entry) : ∀ d i, t.length = i + d → scan t d i = true → ∀ j : Nat, i ≤ j → j < t.length → eOk (rdE t j) = true ∧ asc t j = true
 | 0, i, h, hs, j, h1, h2 => by omega
 | d + 1, i, h, hs, j, h1, h2 => by
  simp only [scan, Bool.and_eq_true] at hs
  rcases Nat.lt_or_eq_of_le h1 with h3 | h3
  ·exact scan_all t d (i + 1) (by omega) hs.2 j h3 h2
  ·subst h3; exact hs.1
theorem eScanS (t : List Entry) (ht : tSmall t) (hl : t.length ≤ 500) : ∀ d i, t.length = i + d → (∀ j : Nat, j < i → eOk (rdE t j) = true ∧ asc t j = true) →
 ∃ b, Ev (fun k => spec_TreeOk.l0 k t (i : Int)) b ∧ (scan t d i = false → b = false) ∧ (scan t d i = true → b = ups t d i)
 | 0, i, h, hb => by
  refine ⟨true, Ev.step (fun k => by rw [spec_TreeOk.l0]) ?_, by simp [scan], by simp [ups]⟩
  simp only [if_neg (show ¬ (i : Int) < t.length by omega)]
  exact Ev.now _
 | d + 1, i, h, hb => by
  have hi : i < t.length := by omega
  have hs := tSmall_at ht hi
  cases he : eOk (rdE t i) with
  | false =>
   refine ⟨false, Ev.step (fun k => by rw [spec_TreeOk.l0]) ?_, fun _ => rfl, by simp [scan, he]⟩
   simp only [if_pos (show (i : Int) < t.length by omega), if_pos (show (0 : Int) ≤ i by omega)]
   refine Ev.bind (eEntryS _ hs.1) ?_
   simp only [he, Bool.false_eq_true, if_false]
   refine Ev.step (fun k => by rw [spec_TreeOk.j1]) ?_
   simp only [if_true]
   exact Ev.now _
  | true =>
   have hj : ∀ b, Ev (fun k => spec_TreeOk.j1 k t (i : Int) (!(asc t i))) b → Ev (fun k => spec_TreeOk.l0 k t (i : Int)) b := by
    intro b hb
    refine Ev.step (fun k => by rw [spec_TreeOk.l0]) ?_
    simp only [if_pos (show (i : Int) < t.length by omega), if_pos (show (0 : Int) ≤ i by omega)]
    refine Ev.bind (eEntryS _ hs.1) ?_
    simp only [he, if_true]
    cases i with
    | zero =>
     have : asc t 0 = true := by simp [asc]
     rw [this] at hb
     simp only [if_neg (show ¬ ((0 : Nat) : Int) > 0 by decide)]
     exact hb
    | succ i =>
     have e : asc t (i + 1) = Op.bytesLess (rdE t (i : Int)).f0.toList (rdE t ((i + 1 : Nat) : Int)).f0.toList := by simp [asc, lessB]
     rw [e] at hb
     simp only [w64p (show i < 4611686018427387904 by omega), if_pos (show ((i + 1 : Nat) : Int) > 0 by omega), if_pos (show (0 : Int) ≤ (i : Int) by omega), if_pos (show (i : Int) < t.length by omega)]
     exact hb
   cases hc : asc t i with
   | false =>
    refine ⟨false, hj _ ?_, fun _ => rfl, by simp [scan, hc]⟩
    rw [hc]
    refine Ev.step (fun k => by rw [spec_TreeOk.j1]) ?_
    simp only [Bool.not_false, if_true]
    exact Ev.now _
   | true =>
    obtain ⟨b, ih, h1, h2⟩ := eScanS t ht hl d (i + 1) (by omega) (fun j hj => by
     rcases Nat.lt_or_eq_of_le (Nat.le_of_lt_succ hj) with h | h
     ·exact hb j h
     ·subst h; exact ⟨he, hc⟩)
    have hp : pathOk (rdE t i).f0 = true := by
     unfold eOk at he
     simp only [Bool.and_eq_true] at he
     exact he.1.1
    cases hL : lastS (rdE t i).f0 (rdE t i).f0.size with
    | none =>
     refine ⟨b, hj _ ?_, by simpa [scan, he, hc] using h1, by simpa [scan, ups, upOk, he, hc, hL] using h2⟩
     rw [hc]
     refine Ev.step (fun k => by rw [spec_TreeOk.j1]) ?_
     simp only [Bool.not_true, Bool.false_eq_true, if_false, if_pos (show (i : Int) < t.length by omega), if_pos (show (0 : Int) ≤ i by omega)]
     have hu := eUpS (rdE t i).f0 hs.1
     rw [hL] at hu
     refine Ev.bind hu ?_
     refine Ev.congr (fun k => if_pos (tl_nil.2 rfl)) ?_
     rw [w64n (by omega)]
     exact ih
    | some j =>
     have hj0 := pathOk_slash hp hL
     have hjl := lastS_lt _ _ _ hL
     have hAsc : Asc t i := asc_chain t i fun j hj => (hb j hj).2
     have hAt : Asc (t.take i) (t.take i).length := by
      intro a b hab hbl
      simp at hbl
      rw [rdE_take t i a (by omega), rdE_take t i b (by omega)]
      exact hAsc a b hab (by omega)
     have hdir := eDir (t.take i) ((rdE t i).f0.extract 0 j) (by simp; omega) hAt
     cases hD : dirIn (t.take i) ((rdE t i).f0.extract 0 j) with
     | false =>
      refine ⟨false, hj _ ?_, fun _ => rfl, fun hsc => ?_⟩
      ·rw [hc]
       refine Ev.step (fun k => by rw [spec_TreeOk.j1]) ?_
       simp only [Bool.not_true, Bool.false_eq_true, if_false, if_pos (show (i : Int) < t.length by omega), if_pos (show (0 : Int) ≤ i by omega)]
       have hu := eUpS (rdE t i).f0 hs.1
       rw [hL] at hu
       refine Ev.bind hu ?_
       refine Ev.congr (fun k => if_neg (fun h => by have := tl_nil.1 h; rw [ByteArray.size_extract] at this; omega)) ?_
       refine Ev.congr (fun k => if_pos (show (i : Int) ≤ t.length by omega)) ?_
       refine Ev.bind (by simpa using hdir) ?_
       rw [hD]
       exact Ev.now _
      ·have hall := scan_all t (d + 1) i h hsc
       have hfull : Asc t t.length := asc_chain t _ fun j hj => by
        by_cases h : j < i
        ·exact (hb j h).2
        ·exact (hall j (by omega) hj).2
       have : upOk t (rdE t i) = false := by
        unfold upOk
        rw [hL, ← hD]
        exact (dir_take t i _ fun j' h1 h2 => by
         have := up_less (rdE t i).f0 j hjl
         rcases Nat.lt_or_eq_of_le h1 with h | h
         ·exact List.lt_trans this (hfull i j' h h2)
         ·subst h; exact this).symm
       simp [ups, this]
     | true =>
      refine ⟨b, hj _ ?_, by simpa [scan, he, hc] using h1, fun hsc => ?_⟩
      ·rw [hc]
       refine Ev.step (fun k => by rw [spec_TreeOk.j1]) ?_
       simp only [Bool.not_true, Bool.false_eq_true, if_false, if_pos (show (i : Int) < t.length by omega), if_pos (show (0 : Int) ≤ i by omega)]
       have hu := eUpS (rdE t i).f0 hs.1
       rw [hL] at hu
       refine Ev.bind hu ?_
       refine Ev.congr (fun k => if_neg (fun h => by have := tl_nil.1 h; rw [ByteArray.size_extract] at this; omega)) ?_
       refine Ev.congr (fun k => if_pos (show (i : Int) ≤ t.length by omega)) ?_
       refine Ev.bind (by simpa using hdir) ?_
       rw [hD, w64n (by omega)]
       exact ih
      ·have : upOk t (rdE t i) = true := by
        unfold upOk
        rw [hL]
        show dirIn t _ = true
        unfold dirIn at hD ⊢
        rw [List.any_eq_true] at hD ⊢
        obtain ⟨e, he, hh⟩ := hD
        exact ⟨e, List.mem_of_mem_take he, hh⟩
       simp only [ups, this, Bool.true_and]
       exact h2 (by simpa [scan, he, hc] using hsc)
theorem eTreeS (t : List Entry) (ht : tSmall t) : Ev (fun k => spec_TreeOk.f k t) (treeOk t) := by
 unfold spec_TreeOk.f treeOk
 by_cases hl : (t.length : Int) > 500
 ·simp only [if_pos hl, decide_eq_false (show ¬ t.length ≤ 500 by omega), Bool.false_and]; exact Ev.now _
 ·simp only [if_neg hl, decide_eq_true (show t.length ≤ 500 by omega), Bool.true_and]
  obtain ⟨b, h, h1, h2⟩ := eScanS t ht (by omega) t.length 0 (by omega) (fun j h => absurd h (Nat.not_lt_zero _))
  have e : b = (scan t t.length 0 && ups t t.length 0) := by
   cases hs : scan t t.length 0 with
   | false => rw [h1 hs]; rfl
   | true => rw [h2 hs]; rfl
  rw [← e]
  exact h
end P
end Go.Proofs.YtcekmnclmldmmaaGreatDoor.Q
