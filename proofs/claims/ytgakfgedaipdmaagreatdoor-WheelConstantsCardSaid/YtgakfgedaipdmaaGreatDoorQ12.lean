/- A part of the proof. -/
import Derived.Test.YtgakfgedaipdmaaGreatDoorQ11
import Derived.Deep.RegionHeld3
import Derived.Deep.QuietTactic
import Derived.BigQuiet
namespace Go.Proofs.YtgakfgedaipdmaaGreatDoor.P
open Go.RowKit Go.Proofs.YtgakfgedaipdmaaGreatDoorW.PrintWords Go.Proofs.YtgakfgedaipdmaaGreatDoorW.PrintLast Go.Proofs.YtgakfgedaipdmaaGreatDoorW.PrintMore
attribute [local go_sem] max2_int min2_int max_two min_two max_three min_three max_four min_four
set_option linter.unusedVariables false
set_option linter.unusedSimpArgs false
theorem runs_grow (p : Int → Bool) : ∀ (n : Nat) (lo : Int), (runs p lo n).length ≤ (runs p lo (n + 1)).length ∧ ∀ s r, runs p lo n = s :: r → ∃ s' r', runs p lo (n + 1) = s' :: r' ∧ s'.f0 = s.f0
 |0, lo => ⟨by simp [runs], fun s r h => by simp [runs] at h⟩
 |n + 1, lo => by
  obtain ⟨h1, h2⟩ := runs_grow p n (lo + 1)
  rw [runs, runs.eq_2 p lo (n + 1)]
  cases hp : p lo with
  |false =>
   rw [if_neg (by simp), if_neg (by simp)]
   exact ⟨h1, h2⟩
  |true =>
   rw [if_pos rfl, if_pos rfl]
   cases ha : runs p (lo + 1) n with
   |nil =>
    refine ⟨?_, ?_⟩
    ·have : 1 ≤ (rcons lo (runs p (lo + 1) (n + 1))).length := by
      cases hb : runs p (lo + 1) (n + 1) with
      |nil => simp [rcons]
      |cons t q =>
       have e : rcons lo (t :: q) = if t.f0 = lo + 1 then ⟨lo, t.f1⟩ :: q else ⟨lo, lo⟩ :: t :: q := rfl
       rw [e]
       split <;> simp
     simpa [rcons] using this
    ·intro s r hs
     simp only [rcons, List.cons.injEq] at hs
     obtain ⟨rfl, rfl⟩ := hs
     cases hb : runs p (lo + 1) (n + 1) with
     |nil => exact ⟨⟨lo, lo⟩, [], rfl, rfl⟩
     |cons t q =>
      have e : rcons lo (t :: q) = if t.f0 = lo + 1 then ⟨lo, t.f1⟩ :: q else ⟨lo, lo⟩ :: t :: q := rfl
      rw [e]
      split
      ·exact ⟨_, _, rfl, rfl⟩
      ·exact ⟨_, _, rfl, rfl⟩
   |cons s0 r0 =>
    obtain ⟨s', r', hb, hf⟩ := h2 s0 r0 ha
    rw [hb, ha] at h1
    rw [hb]
    have e : ∀ (t : S59) (q : List S59), rcons lo (t :: q) = if t.f0 = lo + 1 then ⟨lo, t.f1⟩ :: q else ⟨lo, lo⟩ :: t :: q := fun _ _ => rfl
    rw [e, e, hf]
    simp only [List.length_cons] at h1
    by_cases hc : s0.f0 = lo + 1
    ·rw [if_pos hc, if_pos hc]
     refine ⟨by simp; omega, fun s r hs => ?_⟩
     simp only [List.cons.injEq] at hs
     obtain ⟨rfl, rfl⟩ := hs
     exact ⟨_, _, rfl, rfl⟩
    ·rw [if_neg hc, if_neg hc]
     refine ⟨by simp; omega, fun s r hs => ?_⟩
     simp only [List.cons.injEq] at hs
     obtain ⟨rfl, rfl⟩ := hs
     exact ⟨_, _, rfl, rfl⟩
theorem runs_mono (p : Int → Bool) (lo : Int) {m n : Nat} (h : m ≤ n) : (runs p lo m).length ≤ (runs p lo n).length := by
  induction n with
  | zero => obtain rfl : m = 0 := by omega
            exact Nat.le_refl _
  | succ n ih =>
    by_cases e : m = n + 1
    · rw [e]
      exact Nat.le_refl _
    · exact Nat.le_trans (ih (by omega)) (runs_grow p n lo).1
theorem runsIn_mono (p : Int → Bool) (lo : Int) {h1 h2 : Int} (h : h1 ≤ h2) : (runsIn p lo h1).length ≤ (runsIn p lo h2).length := runs_mono p lo (by omega)
def upto (D S : Int) (ds : List Int) (c lo hi n : Int) : List S59 := runsIn (areaCan D S ds c) lo (min hi (n * c - 1))
theorem mn_min (a b : Int) : mn a b = min a b := by
 unfold mn
 split <;> omega
theorem upto_next {D S : Int} {ds : List Int} {c lo hi n r last : Int} (hc : 0 < c) (h0 : 0 ≤ lo) (hlo : lo ≤ hi) (hn : lo / c ≤ n) (hr : n ≤ r) (hrl : r ≤ last) (hrh : r ≤ hi / c) (hno : ∀ x, n ≤ x → x < r → canAll D S ds x = false) (hyes : ∀ x, r ≤ x → x ≤ last → canAll D S ds x = true) :
  upto D S ds c lo hi (last + 1) = (jstep (upto D S ds c lo hi n).reverse ⟨max lo (r * c), min hi (last * c + c - 1)⟩).reverse ∧ max lo (r * c) ≤ min hi (last * c + c - 1) := by
 have hrc : r * c ≤ hi := Int.le_trans (Int.mul_le_mul_of_nonneg_right hrh (by omega)) (Int.ediv_mul_le hi (by omega))
 have hrc2 : r * c ≤ last * c := Int.mul_le_mul_of_nonneg_right hrl (by omega)
 have hnc : n * c ≤ r * c := Int.mul_le_mul_of_nonneg_right hr (by omega)
 have hlo2 : lo < lo / c * c + c := (div_bounds hc).2
 have hlc : lo / c * c ≤ n * c := Int.mul_le_mul_of_nonneg_right hn (by omega)
 have hle : max lo (r * c) ≤ min hi (last * c + c - 1) := by omega
 refine ⟨?_, hle⟩
 have hcan := runsIn_canon (areaCan D S ds c) lo (min hi (n * c - 1))
 have hmem := runsIn_mem (areaCan D S ds c) lo (min hi (n * c - 1))
 obtain ⟨g1, g2, _⟩ := jstep_spec (o := (upto D S ds c lo hi n).reverse) (x := ⟨max lo (r * c), min hi (last * c + c - 1)⟩) (by rw [List.reverse_reverse]; exact hcan) hle (fun s hs => by
  have hs' : s ∈ runsIn (areaCan D S ds c) lo (min hi (n * c - 1)) := List.mem_reverse.1 hs
  have hne := hcan.ne s hs'
  have := (hmem s.f0).1 ⟨s, hs', Int.le_refl _, hne⟩
  show s.f0 ≤ max lo (r * c)
  omega)
 refine runsIn_eq g1 fun x => ?_
 rw [memR_reverse, g2, memR_reverse]
 unfold upto
 rw [hmem]
 show (lo ≤ x ∧ x ≤ min hi (n * c - 1) ∧ _) ∨ (max lo (r * c) ≤ x ∧ x ≤ min hi (last * c + c - 1)) ↔ lo ≤ x ∧ x ≤ min hi ((last + 1) * c - 1) ∧ _
 have e1 : (last + 1) * c = last * c + c := by rw [Int.add_mul, Int.one_mul]
 rw [e1]
 have hx := div_bounds (a := x) hc
 constructor
 ·rintro (⟨k1, k2, k3⟩ | ⟨k1, k2⟩)
  ·exact ⟨k1, by omega, k3⟩
  ·refine ⟨by omega, by omega, hyes _ ?_ ?_⟩
   ·rw [Int.le_ediv_iff_mul_le hc]; omega
   ·have : x / c < last + 1 := by rw [Int.ediv_lt_iff_lt_mul hc, e1]; omega
    omega
 ·rintro ⟨k1, k2, k3⟩
  by_cases h1 : x < n * c
  ·exact .inl ⟨k1, by omega, k3⟩
  ·by_cases h2 : x < r * c
   ·have hx1 : n ≤ x / c := by rw [Int.le_ediv_iff_mul_le hc]; omega
    have hx2 : x / c < r := by rw [Int.ediv_lt_iff_lt_mul hc]; omega
    have := hno _ hx1 hx2
    unfold areaCan at k3
    rw [this] at k3
    cases k3
   ·exact .inr ⟨by omega, by omega⟩
theorem upto_end {D S : Int} {ds : List Int} {c lo hi n : Int} (hc : 0 < c) (hno : ∀ x, n ≤ x → x ≤ hi / c → canAll D S ds x = false) : upto D S ds c lo hi n = runsIn (areaCan D S ds c) lo hi := by
 refine (runsIn_eq (runsIn_canon _ _ _) fun x => ?_).symm
 rw [runsIn_mem]
 constructor
 ·rintro ⟨k1, k2, k3⟩
  exact ⟨k1, by omega, k3⟩
 ·rintro ⟨k1, k2, k3⟩
  refine ⟨k1, ?_, k3⟩
  rcases Int.lt_or_le x (n * c) with h | h
  ·omega
  ·have hx1 : n ≤ x / c := by rw [Int.le_ediv_iff_mul_le hc]; omega
   have := hno _ hx1 (Int.ediv_le_ediv hc k2)
   unfold areaCan at k3
   rw [this] at k3
   cases k3
theorem upto_start {D S : Int} {ds : List Int} {c lo hi : Int} (hc : 0 < c) : upto D S ds c lo hi (lo / c) = [] := by
 unfold upto runsIn
 have := Int.ediv_mul_le lo (by omega : c ≠ 0)
 rw [show (min hi (lo / c * c - 1) - lo + 1).toNat = 0 by omega]
 rfl
theorem common_weak_loop (D S lim : Int) (ds : List Int) (hw : wOk D S) (hds : dsOk D ds) (hlim : lim ≤ 4398046511104) : ∀ (m : Nat) (n : Int), 0 ≤ n → (lim - n + 1).toNat ≤ m →
  ∃ r, Ev (fun k => wheel_dial_common.l0 k ds n lim D S) r ∧ (r.2.2 = true → n ≤ r.1) := by
 intro m
 induction m with
 |zero =>
  intro n hn0 hm
  refine ⟨(0, 0, false), ⟨1, fun k hk => ?_⟩, fun h => by simp at h⟩
  obtain ⟨j, rfl⟩ : ∃ j, k = j + 1 := ⟨k - 1, by omega⟩
  simp only [wheel_dial_common.l0]
  rw [if_neg (by omega)]
 |succ m ih =>
  intro n hn0 hm
  by_cases hnl : n ≤ lim
  ·obtain ⟨A, hA⟩ : ∃ A, foldA D S n ds n = A := ⟨_, rfl⟩
   have hin := common_inner D S n lim ds hw hds hn0 (by omega) ds.length 0 (by omega)
   simp only [List.drop_zero] at hin
   by_cases hAn : A = n
   ·refine ⟨(n, foldB D S n ds 1099511627776, true), ⟨ds.length + 2, fun k hk => ?_⟩, fun _ => Int.le_refl _⟩
    obtain ⟨j, rfl⟩ : ∃ j, k = (j + ds.length + 1) + 1 := ⟨k - ds.length - 2, by omega⟩
    simp only [wheel_dial_common.l0]
    rw [if_pos hnl]
    have := hin j n 1099511627776
    rw [show ((0 : Nat) : Int) = 0 from rfl] at this
    rw [this, hA, if_pos hAn, hAn]
   ·have hge := foldA_le D S n ds n
    obtain ⟨r, hr, hR⟩ := ih A (by omega) (by omega)
    refine ⟨r, ?_, fun h => by have := hR h; omega⟩
    obtain ⟨K, hK⟩ := hr
    refine ⟨K + ds.length + 2, fun k hk => ?_⟩
    obtain ⟨j, rfl⟩ : ∃ j, k = (j + ds.length + 1) + 1 := ⟨k - ds.length - 2, by omega⟩
    simp only [wheel_dial_common.l0]
    rw [if_pos hnl]
    have := hin j n 1099511627776
    rw [show ((0 : Nat) : Int) = 0 from rfl] at this
    rw [this, hA, if_neg hAn]
    exact hK j (by omega)
  ·refine ⟨(0, 0, false), ⟨1, fun k hk => ?_⟩, fun h => by simp at h⟩
   obtain ⟨j, rfl⟩ : ∃ j, k = j + 1 := ⟨k - 1, by omega⟩
   simp only [wheel_dial_common.l0]
   rw [if_neg hnl]
theorem common_weak (D S n : Int) (ds : List Int) (hw : wOk D S) (hds : dsOk D ds) (hn0 : 0 ≤ n) (hn1 : n ≤ 2199023255552) : ∃ r, Ev (fun k => wheel_dial_common.f k D S ds n) r ∧ (r.2.2 = true → n ≤ r.1) := by
 have hD := hw.1
 have hD2 := hw.2.1
 have e1 : wrap64 (2 * D) = 2 * D := wrap64_id (by omega) (by omega)
 have hm1 := le_mx_left n D
 have hm3 : mx n D ≤ 2199023255552 := mx_le (by omega) (by omega)
 have e2 : wrap64 (mx n D + wrap64 (2 * D)) = mx n D + 2 * D := by rw [e1]; exact wrap64_id (by omega) (by omega)
 obtain ⟨r, hr, hR⟩ := common_weak_loop D S (mx n D + 2 * D) ds hw hds (by omega) _ n hn0 (Nat.le_refl _)
 exact ⟨r, Ev.congr (fun k => by unfold wheel_dial_common.f; rw [e2]) hr, hR⟩
theorem fitR_le {o : List S59} (h : o.length ≤ 64) : fitR o = (o, 0) := by
 unfold fitR
 rw [if_neg (by omega)]
theorem fitR_gt {o : List S59} (h : 64 < o.length) : fitR o = ([], 2) := by
 unfold fitR
 rw [if_pos h]
theorem areas_loop (D S c lo hi : Int) (ds : List Int) (hw : wOk D S) (hds : dsOk D ds) (hc : cOk c) (h0 : 0 ≤ lo) (h1 : lo ≤ hi) (h2 : hi ≤ 1073741824) : ∀ (m : Nat) (n : Int), lo / c ≤ n → n ≤ 1099511627777 → (hi / c + 1 - n).toNat ≤ m → (upto D S ds c lo hi n).length ≤ 64 →
  Ev (fun k => wheel_dial_areas.l0 k ds c (upto D S ds c lo hi n) n D S lo hi) (areasR D S ds c lo hi) := by
 obtain ⟨c1, c2⟩ := hc
 have cp : 0 < c := by omega
 have tl : 0 ≤ lo / c := Int.ediv_nonneg h0 (by omega)
 have th : hi / c ≤ hi := Int.ediv_le_self _ (by omega)
 have t2 : wrap64 (hi.tdiv c) = hi / c := by rw [Int.tdiv_eq_ediv_of_nonneg (by omega)]; exact wrap64_id (by have := Int.ediv_nonneg (a := hi) (b := c) (by omega) (by omega); omega) (by omega)
 have hend : ∀ (out : List S59) (x12 x13 : Int), Ev (fun k => wheel_dial_areas.j1 k ds c out x12 x13 true D S lo hi) (out, 0) := fun out x12 x13 => Ev.step (f := fun _ => some (out, 0)) (fun k => by simp only [wheel_dial_areas.j1]; rw [if_pos trivial]) (Ev.now _)
 intro m
 induction m with
 |zero =>
  intro n hn hn2 hm hl
  have hgt : hi / c < n := by omega
  have e : areasR D S ds c lo hi = (upto D S ds c lo hi n, 0) := by
   unfold areasR
   rw [← upto_end cp (n := n) (fun x g1 g2 => by omega), fitR_le hl]
  rw [e]
  obtain ⟨⟨r, l, is⟩, hr, hR⟩ := common_weak D S n ds hw hds (by omega) (by omega)
  refine Ev.step (fun k => by rw [wheel_dial_areas.l0]) (Ev.bind hr ?_)
  cases is with
  |false => exact Ev.congr (fun k => by rw [if_neg (by simp)]) (hend _ _ _)
  |true =>
   have := hR rfl
   simp only at this
   exact Ev.congr (fun k => by rw [if_pos rfl, if_neg (by omega), t2, decide_eq_true (by simp only; omega)]) (hend _ _ _)
 |succ m ih =>
  intro n hn hn2 hm hl
  by_cases hgt : hi / c < n
  ·have e : areasR D S ds c lo hi = (upto D S ds c lo hi n, 0) := by
    unfold areasR
    rw [← upto_end cp (n := n) (fun x g1 g2 => by omega), fitR_le hl]
   rw [e]
   obtain ⟨⟨r, l, is⟩, hr, hR⟩ := common_weak D S n ds hw hds (by omega) (by omega)
   refine Ev.step (fun k => by rw [wheel_dial_areas.l0]) (Ev.bind hr ?_)
   cases is with
   |false => exact Ev.congr (fun k => by rw [if_neg (by simp)]) (hend _ _ _)
   |true =>
    have := hR rfl
    simp only at this
    exact Ev.congr (fun k => by rw [if_pos rfl, if_neg (by omega), t2, decide_eq_true (by simp only; omega)]) (hend _ _ _)
  ·rcases common_spec D S n ds hw hds (by omega) (by omega) with ⟨r, last, hr, q1, q2, q3, q4, q5, q6⟩ | ⟨hr, hno⟩
   ·by_cases hrh : r ≤ hi / c
    ·obtain ⟨hup, hle⟩ := upto_next (lo := lo) (hi := hi) cp h0 h1 hn q1 q4 hrh q3 q6
     have hlc : last * c ≤ 1099511627776 * c := Int.mul_le_mul_of_nonneg_right q5 (by omega)
     have hrc : r * c ≤ last * c := Int.mul_le_mul_of_nonneg_right q4 (by omega)
     have hrc0 : 0 ≤ r * c := Int.mul_nonneg (by omega) (by omega)
     have e1 : mx lo (wrap64 (r * c)) = max lo (r * c) := by rw [mx_max, wrap64_id (by omega) (by omega)]
     have e2 : mn hi (wrap64 (wrap64 (wrap64 (last * c) + c) - 1)) = min hi (last * c + c - 1) := by rw [mn_min, wrap64_id (x := last * c) (by omega) (by omega), wrap64_id (x := last * c + c) (by omega) (by omega), wrap64_id (by omega) (by omega)]
     have e3 : wrap64 (last + 1) = last + 1 := wrap64_id (by omega) (by omega)
     have hbd : ∀ s ∈ upto D S ds c lo hi n, SpIn s := runsIn_in (by omega) (by omega)
     have hcan : Canon (upto D S ds c lo hi n) := runsIn_canon _ _ _
     have hmemu : ∀ x, memR x (upto D S ds c lo hi n) → x ≤ min hi (n * c - 1) := fun x hx => ((runsIn_mem _ _ _ _).1 hx).2.1
     have hnc : n * c ≤ r * c := Int.mul_le_mul_of_nonneg_right q1 (by omega)
     have hrhc : r * c ≤ hi := Int.le_trans (Int.mul_le_mul_of_nonneg_right hrh (by omega)) (Int.ediv_mul_le hi (by omega))
     have hmono : (upto D S ds c lo hi (last + 1)).length ≤ (runsIn (areaCan D S ds c) lo hi).length := runsIn_mono _ _ (by omega)
     refine Ev.step (fun k => by rw [wheel_dial_areas.l0]) (Ev.bind hr ?_)
     refine Ev.congr (fun k => by rw [if_pos rfl, if_neg (by omega), t2, decide_eq_false (by simp only; omega)]) ?_
     simp only
     obtain ⟨o, ho⟩ : ∃ o, o = (upto D S ds c lo hi n).reverse := ⟨_, rfl⟩
     have ho2 : upto D S ds c lo hi n = o.reverse := by rw [ho, List.reverse_reverse]
     rw [← ho] at hup
     rw [ho2] at hl hbd hcan hmemu ⊢
     clear ho ho2
     have rec_ : ∀ (o' : List S59), o' = upto D S ds c lo hi (last + 1) → o'.length ≤ 64 → Ev (fun k => wheel_dial_areas.l0 k ds c o' (last + 1) D S lo hi) (areasR D S ds c lo hi) := fun o' h h64 => by
      rw [h] at h64 ⊢
      exact ih (last + 1) (by omega) (by omega) (by omega) h64
     cases o with
     |nil =>
      refine Ev.step (fun k => by simp only [wheel_dial_areas.j1]; rw [if_neg (by simp), if_neg (by simp)]) ?_
      refine Ev.step (fun k => by simp only [wheel_dial_areas.j2]; rw [if_neg (by simp), if_neg (by simp), if_pos (by simp), e1, e2, e3]) ?_
      refine rec_ _ (by rw [hup]; rfl) (by simp)
     |cons y q =>
      have hy := hbd y (by simp)
      have hq : q.length < 1000000000000000 := by simp at hl; omega
      have hy1 : y.f1 ≤ min hi (n * c - 1) := hmemu _ ⟨y, by simp, hy.2.1, Int.le_refl _⟩
      have e4 : wrap64 (y.f1 + 1) = y.f1 + 1 := wrap64_id (by have := hy.1; have := hy.2.1; omega) (by have := hy.2.2; omega)
      refine Ev.step (fun k => by simp only [wheel_dial_areas.j1]; rw [if_neg (by simp), if_pos (by simp <;> omega), last_idx y q hq, if_pos (by omega), if_pos (by simp; omega), rd_last, e1, e2, e4]) ?_
      rw [jstep_cons] at hup
      by_cases hcc : max lo (r * c) ≤ y.f1 + 1
      ·rw [if_pos hcc] at hup
       refine Ev.step (fun k => by simp only [wheel_dial_areas.j2]; rw [if_pos (decide_eq_true (by omega)), last_idx y q hq, if_pos (by omega), if_pos (by simp; omega), rd_last, set_last, e3]) ?_
       refine rec_ _ ?_ (by simp at hl ⊢; omega)
       rw [hup]
       congr 3
       show min hi (last * c + c - 1) = max y.f1 (min hi (last * c + c - 1))
       omega
      ·rw [if_neg hcc] at hup
       by_cases h64 : ((y :: q).reverse.length : Int) = 64
       ·have : 64 < (runsIn (areaCan D S ds c) lo hi).length := by rw [hup] at hmono; simp at hmono h64; omega
        have e : areasR D S ds c lo hi = ([], 2) := fitR_gt this
        rw [e]
        exact Ev.step (fun k => by simp only [wheel_dial_areas.j2]; rw [if_neg (by simp; omega), if_pos h64]) (Ev.now _)
       ·refine Ev.step (fun k => by simp only [wheel_dial_areas.j2]; rw [if_neg (by simp; omega), if_neg h64, if_pos (by simp at hl ⊢; omega), e3]) ?_
        refine rec_ _ (by rw [hup]; simp) (by simp at hl h64 ⊢; omega)
    ·have e : areasR D S ds c lo hi = (upto D S ds c lo hi n, 0) := by
      unfold areasR
      rw [← upto_end cp (n := n) (fun x g1 g2 => q3 x g1 (by omega)), fitR_le hl]
     rw [e]
     refine Ev.step (fun k => by rw [wheel_dial_areas.l0]) (Ev.bind hr ?_)
     exact Ev.congr (fun k => by rw [if_pos rfl, if_neg (by omega), t2, decide_eq_true (by simp only; omega)]) (hend _ _ _)
   ·have e : areasR D S ds c lo hi = (upto D S ds c lo hi n, 0) := by
     unfold areasR
     rw [← upto_end cp (n := n) (fun x g1 g2 => hno x g1), fitR_le hl]
    rw [e]
    refine Ev.step (fun k => by rw [wheel_dial_areas.l0]) (Ev.bind hr ?_)
    exact Ev.congr (fun k => by rw [if_neg (by simp)]) (hend _ _ _)
theorem wheel_dial_areas.eval (D S c lo hi : Int) (ds : List Int) (hw : wOk D S) (hds : dsOk D ds) (hc : cOk c) (h0 : 0 ≤ lo) (h1 : lo ≤ hi) (h2 : hi ≤ 1073741824) :
  Ev (fun k => wheel_dial_areas.f k D S ds c lo hi) (areasR D S ds c lo hi) := by
 have hcp := hc.1
 have hdn : 0 ≤ lo / c := Int.ediv_nonneg h0 (by omega)
 have hdl : lo / c ≤ lo := Int.ediv_le_self _ h0
 have h := areas_loop D S c lo hi ds hw hds hc h0 h1 h2 _ (lo / c) (Int.le_refl _) (by omega) (Nat.le_refl _) (by rw [upto_start (by omega)]; simp)
 rw [upto_start (by omega)] at h
 refine Ev.congr (fun k => ?_) h
 unfold wheel_dial_areas.f
 rw [if_neg (by omega), Int.tdiv_eq_ediv_of_nonneg h0, wrap64_id (by omega) (by omega)]
def fieldAt (D S c : Int) (l3 : List S59) (dss : List (List Int)) (i : Nat) : List S59 × Int := areasR D S (dss.getD i []) c (l3.getD i z59).f0 (l3.getD i z59).f1
set_option maxHeartbeats 8000000 in
set_option maxRecDepth 100000 in
theorem field_any (D S c : Int) (i : Nat) (A1 : Option Addr) (c1 : Nat) (l1 : List S61) (A3 : Option Addr) (c3 : Nat) (l3 : List S59) (dss : List (List Int)) (qb : Nat) (w : World)
  (hok : InqOk D S l1 l3 dss) (hc : cOk c) (hi : i < l3.length) (hq : Inq w qb D S A1 c1 l1 A3 c3 l3 dss) :
  Calls Tryz.prog 78 #[.pointer (some ⟨qb, 0, none⟩), .int .i64 i, .int .i64 c] w fun e w' => ∃ v0 : Value, e = .returned (.tuple #[v0, .int .i64 (fieldAt D S c l3 dss i).2]) ∧ Kd.R k59 59 w' w.heap.size (fun _ => True) v0 (fieldAt D S c l3 dss i).1 ∧ Below w.heap.size w w' := by
 obtain ⟨⟨dA, dc, hqb, hdc, hds⟩, hr1, hr3⟩ := hq
 have hm3 := hok.n3.2
 have hmd := hok.len
 obtain ⟨ad, e0, hx0, hx1⟩ := at_T59 hr3 (i : Int) (by omega) (by omega)
 cases e0
 obtain ⟨dad, A0, c0, e1, hd0, hdl, hdr⟩ := at_L2 hds (i : Int) (by omega) (by omega)
 cases e1
 simp only [Int.toNat_natCast] at hx0 hx1 hd0
 have hid : rd_T59 l3 (i : Int) = l3.getD i z59 := by unfold rd_T59; rw [Int.toNat_natCast]
 have hid2 : rd_L2 dss (i : Int) = dss.getD i [] := by unfold rd_L2; rw [Int.toNat_natCast]
 rw [hid] at hx0 hx1
 rw [hid2] at hd0 hdl hdr
 have hmem := mem_getD hi z59
 have hdm : dss.getD i [] ∈ dss := mem_getD (by omega) []
 have har : fieldAt D S c l3 dss i = areasR D S (dss.getD i []) c (l3.getD i z59).f0 (l3.getD i z59).f1 := rfl
 generalize hs : l3.getD i z59 = s at hx0 hx1 hmem har
 generalize hd : dss.getD i [] = d at hd0 hdl hdr hdm har
 generalize fieldAt D S c l3 dss i = r at har ⊢
 obtain ⟨g1, g2, g3⟩ := spanOk_iff.1 (hok.sp s hmem)
 obtain ⟨kl, hl⟩ := (wheel_dial_areas.eval D S c s.f0 s.f1 d hok.w (hok.ds d hdm) hc g1 g2 g3).rounds
 rw [← har] at hl
 have hcl := fun W (hr : Kd.C (Kd.int .i64) W A0 d.length d) => wheel_dial_areas.calls kl D S A0 c0 d c s.f0 s.f1 r.1 r.2 W hr hdl hl
 have HDR := Aside0.mk hdr
 have hq0 : w.cell? ⟨qb, 0, none⟩ = some (.int .i64 D) := (blk_cell hqb 0).trans rfl
 have hq1 : w.cell? ⟨qb, 1, none⟩ = some (.int .i64 S) := (blk_cell hqb 1).trans rfl
 have hq3 : w.cell? ⟨qb, 3, none⟩ = some (.slice (some ad) l3.length c3) := (blk_cell hqb 3).trans rfl
 have hq4 : w.cell? ⟨qb, 4, none⟩ = some (.slice (some dad) dss.length dc) := (blk_cell hqb 4).trans rfl
 have hne := blk_ne_new hqb
 have hkd : (i : Int) < (dss.length : Int) := by omega
 have hk3 : (i : Int) < (l3.length : Int) := by omega
 have hu108 := Tryz.underlying108
 have hu111 := Tryz.underlying111
 have HB := Aside0.mk (Below.refl w.heap.size w)
 clear hid hid2 hmem hdm hs hd g1 g2 g3 hl hdr har hok hc hqb hds hr1 hr3 hdl hdc hmd
 go_enter Tryz.func78, Tryz.ntmps78
 go_wp2_with fail
 go_region_held3 (fun W => W.cell? ⟨qb, 0, none⟩ = some (.int .i64 D) ∧ W.cell? ⟨qb, 1, none⟩ = some (.int .i64 S) ∧ W.cell? ⟨qb, 3, none⟩ = some (.slice (some ad) l3.length c3) ∧ W.cell? ⟨qb, 4, none⟩ = some (.slice (some dad) dss.length dc) ∧ W.cell? (dad.add i) = some (.slice A0 d.length c0) ∧ W.cell? (ad.add (i * 2)) = some (.int .i64 s.f0) ∧ W.cell? ⟨(ad.add (i * 2)).block, (ad.add (i * 2)).off + 1, none⟩ = some (.int .i64 s.f1)) (first | go_keep | (go_split_ands; (repeat' apply And.intro) <;> exact pw_cell_below hBt (by assumption)))
  (first | (go_at_call 99; refine (hcl _ (Kd.C_below HDR.out dq)).mono ?_; rintro e W2 ⟨v0, rfl, hR0, hBt⟩))
 rename_i hHeld
 have HB2 := Aside0.mk (below_weaken (below_drew1 HB.out) (by simp) hBt)
 have HR0 := Aside0.mk hR0
 clear hHeld hBt hR0 hcl hq0 hq1 hq3 hq4 hne HB hx0 hx1 hd0
 go_wp2
 go_ret2
 exact ⟨_, rfl, HR0.out, HB2.out⟩
def holdsR (D S c a : Int) (l3 : List S59) (dss : List (List Int)) (i : Nat) : Bool := decide ((l3.getD i z59).f0 ≤ a) && (decide (a ≤ (l3.getD i z59).f1) && areaCan D S (dss.getD i []) c a)
theorem leastA_one (D S c a : Int) (d : List Int) : leastA D S d c a a = if areaCan D S d c a then some a else none := by
 unfold leastA
 rw [show (a - a + 1).toNat = 1 by omega]
 rfl
set_option maxHeartbeats 8000000 in
set_option maxRecDepth 100000 in
theorem holds_any (D S c a : Int) (i : Nat) (A1 : Option Addr) (c1 : Nat) (l1 : List S61) (A3 : Option Addr) (c3 : Nat) (l3 : List S59) (dss : List (List Int)) (qb : Nat) (w : World)
  (hok : InqOk D S l1 l3 dss) (hc : cOk c) (hi : i < l3.length) (hq : Inq w qb D S A1 c1 l1 A3 c3 l3 dss) :
  Calls Tryz.prog 71 #[.pointer (some ⟨qb, 0, none⟩), .int .i64 i, .int .i64 c, .int .i64 a] w fun e w' => e = .returned (.bool (holdsR D S c a l3 dss i)) ∧ Below w.heap.size w w' := by
 obtain ⟨⟨dA, dc, hqb, hdc, hds⟩, hr1, hr3⟩ := hq
 have hm3 := hok.n3.2
 have hmd := hok.len
 obtain ⟨ad, e0, hx0, hx1⟩ := at_T59 hr3 (i : Int) (by omega) (by omega)
 cases e0
 obtain ⟨dad, A0, c0, e1, hd0, hdl, hdr⟩ := at_L2 hds (i : Int) (by omega) (by omega)
 cases e1
 simp only [Int.toNat_natCast] at hx0 hx1 hd0
 have hid : rd_T59 l3 (i : Int) = l3.getD i z59 := by unfold rd_T59; rw [Int.toNat_natCast]
 have hid2 : rd_L2 dss (i : Int) = dss.getD i [] := by unfold rd_L2; rw [Int.toNat_natCast]
 rw [hid] at hx0 hx1
 rw [hid2] at hd0 hdl hdr
 have hmem := mem_getD hi z59
 have hdm : dss.getD i [] ∈ dss := mem_getD (by omega) []
 have har : holdsR D S c a l3 dss i = (decide ((l3.getD i z59).f0 ≤ a) && (decide (a ≤ (l3.getD i z59).f1) && areaCan D S (dss.getD i []) c a)) := rfl
 generalize hs : l3.getD i z59 = s at hx0 hx1 hmem har
 generalize hd : dss.getD i [] = d at hd0 hdl hdr hdm har
 generalize holdsR D S c a l3 dss i = r at har ⊢
 obtain ⟨g1, g2, g3⟩ := spanOk_iff.1 (hok.sp s hmem)
 have hfrom := fun W => (wheel_from.calls a s.f0 s.f1 _ W (wheel_from.eval a s.f0 s.f1)).mono (R' := fun e w' => e = .returned (.bool (decide (s.f0 ≤ a) && decide (a ≤ s.f1))) ∧ Below W.heap.size W w') (fun e w' h => ⟨h.1, h.2.below⟩)
 have hq0 : w.cell? ⟨qb, 0, none⟩ = some (.int .i64 D) := (blk_cell hqb 0).trans rfl
 have hq1 : w.cell? ⟨qb, 1, none⟩ = some (.int .i64 S) := (blk_cell hqb 1).trans rfl
 have hq3 : w.cell? ⟨qb, 3, none⟩ = some (.slice (some ad) l3.length c3) := (blk_cell hqb 3).trans rfl
 have hq4 : w.cell? ⟨qb, 4, none⟩ = some (.slice (some dad) dss.length dc) := (blk_cell hqb 4).trans rfl
 have hne := blk_ne_new hqb
 have hkd : (i : Int) < (dss.length : Int) := by omega
 have hk3 : (i : Int) < (l3.length : Int) := by omega
 have hu108 := Tryz.underlying108
 have hu111 := Tryz.underlying111
 have HQ := Aside0.mk hqb
 have HD0 := Aside0.mk hd0
 have HDR := Aside0.mk hdr
 have HDL := Aside0.mk hdl
 have HK := Aside0.mk hok
 have HC := Aside0.mk hc
 have HDM := Aside0.mk hdm
 have HAR := Aside0.mk har
 have HB := Aside0.mk (Below.refl w.heap.size w)
 clear hid hid2 hmem hdm hs hd har hok hc hqb hds hr1 hr3 hdl hdc hmd hdr
 have hbb : (decide (s.f0 ≤ a) && decide (a ≤ s.f1)) = false → r = false := fun h => by rw [HAR.out, ← Bool.and_assoc, h]; rfl
 have hbt : (decide (s.f0 ≤ a) && decide (a ≤ s.f1)) = true → r = areaCan D S d c a ∧ 0 ≤ a ∧ a ≤ 1073741824 := fun h => by
  refine ⟨by rw [HAR.out, ← Bool.and_assoc, h, Bool.true_and], ?_⟩
  simp only [Bool.and_eq_true, decide_eq_true_eq] at h
  omega
 clear g1 g2 g3
 generalize (decide (s.f0 ≤ a) && decide (a ≤ s.f1)) = bb at hfrom hbb hbt
 cases bb with
 |false =>
  obtain rfl := hbb rfl
  clear hbb hbt
  go_enter Tryz.func71, Tryz.ntmps71
  go_wp2_with (go_at_call 69; refine Calls.mono (hfrom _) ?_; clear hfrom; rintro e W2 ⟨rfl, hBt⟩; have HB2 := Aside0.mk (below_weaken (below_alloc HB.out _) (by simp) hBt); clear hBt)
  go_ret
  exact ⟨rfl, HB2.out⟩
 |true =>
  obtain ⟨h1, h2, h3⟩ := hbt rfl
  have HR := Aside0.mk h1
  obtain ⟨kl, hl⟩ := (wheel_dial_least.eval D S c a a d HK.out.w (HK.out.ds d HDM.out) HC.out h2 (Int.le_refl _) h3).rounds
  rw [leastA_one, ← h1] at hl
  clear hbb hbt h1 h2 h3 HAR
  cases r with
  |false =>
   have hcl := fun W (hr : Kd.C (Kd.int .i64) W A0 d.length d) => wheel_dial_least.calls kl D S A0 c0 d c a a 0 false W hr HDL.out hl
   clear hl
   go_enter Tryz.func71, Tryz.ntmps71
   go_wp2_with (go_at_call 69; refine Calls.mono (hfrom _) ?_; clear hfrom; rintro e W2 ⟨rfl, hBt⟩; have hB2 := below_weaken (below_alloc HB.out _) (by simp) hBt; have HB2 := Aside0.mk hB2; replace hq0 := pw_cell_below hB2 hq0; replace hq1 := pw_cell_below hB2 hq1; replace hq4 := pw_cell_below hB2 hq4; replace hd0 := pw_cell_below hB2 hd0; clear hBt hB2 hq3 hx0 hx1 hne)
   go_region_held3 (fun W => W.cell? ⟨qb, 0, none⟩ = some (.int .i64 D) ∧ W.cell? ⟨qb, 1, none⟩ = some (.int .i64 S) ∧ W.cell? ⟨qb, 4, none⟩ = some (.slice (some dad) dss.length dc) ∧ W.cell? (dad.add i) = some (.slice A0 d.length c0)) (first | go_keep | (go_split_ands; (repeat' apply And.intro) <;> exact pw_cell_below hBt (by assumption)))
    (first | (go_at_call 122; refine (hcl _ (Kd.C_below HDR.out (by repeat (first | exact HB2.out | apply below_alloc | apply below_drew1)))).mono ?_; rintro e W3 ⟨rfl, hBt⟩))
   rename_i hHeld
   have HB3 := Aside0.mk (below_weaken (below_drew1 HB2.out) (by have := HB2.out.size; simpa using this) hBt)
   clear hHeld hBt hcl hq0 hq1 hq4 hd0
   go_wp2
   go_ret
   exact ⟨rfl, HB3.out⟩
  |true =>
   have hcl := fun W (hr : Kd.C (Kd.int .i64) W A0 d.length d) => wheel_dial_least.calls kl D S A0 c0 d c a a a true W hr HDL.out hl
   clear hl
   go_enter Tryz.func71, Tryz.ntmps71
   go_wp2_with (go_at_call 69; refine Calls.mono (hfrom _) ?_; clear hfrom; rintro e W2 ⟨rfl, hBt⟩; have hB2 := below_weaken (below_alloc HB.out _) (by simp) hBt; have HB2 := Aside0.mk hB2; replace hq0 := pw_cell_below hB2 hq0; replace hq1 := pw_cell_below hB2 hq1; replace hq4 := pw_cell_below hB2 hq4; replace hd0 := pw_cell_below hB2 hd0; clear hBt hB2 hq3 hx0 hx1 hne)
   go_region_held3 (fun W => W.cell? ⟨qb, 0, none⟩ = some (.int .i64 D) ∧ W.cell? ⟨qb, 1, none⟩ = some (.int .i64 S) ∧ W.cell? ⟨qb, 4, none⟩ = some (.slice (some dad) dss.length dc) ∧ W.cell? (dad.add i) = some (.slice A0 d.length c0)) (first | go_keep | (go_split_ands; (repeat' apply And.intro) <;> exact pw_cell_below hBt (by assumption)))
    (first | (go_at_call 122; refine (hcl _ (Kd.C_below HDR.out (by repeat (first | exact HB2.out | apply below_alloc | apply below_drew1)))).mono ?_; rintro e W3 ⟨rfl, hBt⟩))
   rename_i hHeld
   have HB3 := Aside0.mk (below_weaken (below_drew1 HB2.out) (by have := HB2.out.size; simpa using this) hBt)
   clear hHeld hBt hcl hq0 hq1 hq4 hd0
   go_wp2
   go_ret
   exact ⟨rfl, HB3.out⟩
def fieldOk (n : Nat) (f : Int) : Bool := decide (0 ≤ f) && decide (f ≤ (n : Int) - 1)
def askErr (D S : Int) (l1 : List S61) (l2 : List S64) (l3 : List S59) (fs : List Int) : Int :=
 if opErr D S l1 l2 l3 = 0 then (if fs.all (fieldOk l3.length) then 0 else 1) else opErr D S l1 l2 l3
def AskPost (D S : Int) (A1 : Option Addr) (c1 : Nat) (l1 : List S61) (l2 : List S64) (A3 : Option Addr) (c3 : Nat) (l3 : List S59) (fs : List Int) (w : World) (e : Ending) (w' : World) : Prop :=
 Below w.heap.size w w' ∧ ((askErr D S l1 l2 l3 fs ≠ 0 ∧ e = .returned (.tuple #[.pointer none, .int .i64 (askErr D S l1 l2 l3 fs)])) ∨
  (askErr D S l1 l2 l3 fs = 0 ∧ ∃ b, w.heap.size ≤ b ∧ e = .returned (.tuple #[.pointer (some ⟨b, 0, none⟩), .int .i64 0]) ∧ Inq w' b D S A1 c1 l1 A3 c3 l3 (dists D l2 l3.length)))
set_option maxHeartbeats 8000000 in
set_option maxRecDepth 100000 in
theorem asked_any (D S : Int) (A1 : Option Addr) (c1 : Nat) (l1 : List S61) (A2 : Option Addr) (c2 : Nat) (l2 : List S64) (A3 : Option Addr) (c3 : Nat) (l3 : List S59) (A4 : Option Addr) (c4 : Nat) (fs : List Int) (w : World)
  (hr1 : Kd.C k61 w A1 l1.length l1) (hc1 : l1.length ≤ c1) (hr2 : Kd.C k64 w A2 l2.length l2) (hc2 : l2.length ≤ c2) (hr3 : Kd.C k59 w A3 l3.length l3) (hc3 : l3.length ≤ c3) (hr4 : Kd.C (Kd.int .i64) w A4 fs.length fs) (hf4 : fs.length ≤ 100) :
  Calls Tryz.prog 77 #[.agg #[.int .i64 D, .int .i64 S], .slice A1 l1.length c1, .slice A2 l2.length c2, .slice A3 l3.length c3, .slice A4 fs.length c4] w (AskPost D S A1 c1 l1 l2 A3 c3 l3 fs w) := by
 have HB := Aside0.mk (Below.refl w.heap.size w)
 by_cases he : opErr D S l1 l2 l3 = 0
 ·have hop := fun W hB => opened_ok hr1 hc1 hr2 hc2 hr3 hc3 he W hB
  have H3 := Aside0.mk (opErr_zero he).2.2.2.2.2.2
  have hl3 : l3.length ≤ 8 := H3.out.1
  have HE := Aside0.mk he
  have HR4 := Aside0.mk hr4
  clear he hr1 hc1 hr2 hc2 hr3 hc3 hr4
  go_enter Tryz.func77, Tryz.ntmps77
  go_wp2_with (go_at_call 68; refine Calls.mono (hop _ (by repeat (first | exact HB.out | apply below_alloc))) ?_; clear hop; rintro e W2 ⟨hb, hbw, qb, hqb, rfl, hq⟩; have HB2 := Aside0.mk hbw; have HQ := Aside0.mk hq; have HQB := Aside0.mk hqb; clear hb hbw hqb hq)
  go_loopw [29, 15] (fun v29 v15 W => ∃ k : Nat, v29 = .int .i64 k ∧ k ≤ fs.length ∧ Aside0 ((fs.take k).all (fieldOk l3.length) = true) ∧ Aside0 (Below W2.heap.size W2 W)) (fun v29 _ _ => fs.length - (intOf v29).toNat)
  case atStart => exact ⟨0, rfl, Nat.zero_le _, ⟨by simp⟩, ⟨Below.refl _ _⟩⟩
  case round =>
   obtain ⟨k, rfl, hk, HT, HW⟩ := hrel
   have HW2 := Aside0.mk (below_weaken HB2.out HB2.out.size HW.out)
   by_cases hlt : k < fs.length
   ·obtain ⟨ad, e0, hx0⟩ := Kd.at_int (Kd.C_below HR4.out HW2.out) (k : Int) (by omega) (by omega)
    cases e0
    have hid : rd fs (k : Int) = fs.getD k 0 := by unfold rd; rw [Int.toNat_natCast]
    rw [hid] at hx0
    simp only [Int.toNat_natCast] at hx0
    have hs := take_succ_getD fs k hlt 0
    have hmem := mem_getD hlt (0 : Int)
    generalize fs.getD k 0 = x at hx0 hs hmem
    have hfr := fun W => (wheel_from.calls x 0 ((l3.length : Int) - 1) _ W (wheel_from.eval x 0 ((l3.length : Int) - 1))).mono (R' := fun e w' => e = .returned (.bool (fieldOk l3.length x)) ∧ Below W.heap.size W w') (fun e w' h => ⟨h.1, h.2.below⟩)
    have hw3 : wrap64 ((l3.length : Int) - 1) = (l3.length : Int) - 1 := wrap64_id (by omega) (by omega)
    have HS := Aside0.mk hs
    have HM := Aside0.mk hmem
    obtain ⟨b, hb⟩ : ∃ b, b = fieldOk l3.length x := ⟨_, rfl⟩
    rw [← hb] at hfr
    have HBB := Aside0.mk hb
    clear hid hs hmem hb hw3
    cases b with
    |false =>
     have HZ := Aside0.mk (show askErr D S l1 l2 l3 fs = 1 by
      unfold askErr
      rw [if_pos HE.out, if_neg]
      rw [List.all_eq_true]
      intro h
      have := h x HM.out
      rw [← HBB.out] at this
      cases this)
     go_wp2_with (go_at_call 69; refine Calls.mono (hfr _) ?_; clear hfr; rintro e W3 ⟨rfl, hb⟩; have HB3 := Aside0.mk (HW.out.trans (hb.mono HW.out.size)); clear hb)
     go_ret2
     exact ⟨below_weaken HB2.out HB2.out.size HB3.out, .inl ⟨by rw [HZ.out]; decide, by rw [HZ.out]; rfl⟩⟩
    |true =>
     have HT2 := Aside0.mk (show (fs.take (k + 1)).all (fieldOk l3.length) = true by rw [HS.out, List.all_append, HT.out]; simp [← HBB.out])
     go_wp2_with (go_at_call 69; refine Calls.mono (hfr _) ?_; clear hfr; rintro e W3 ⟨rfl, hb⟩; have HB3 := Aside0.mk (HW.out.trans (hb.mono HW.out.size)); clear hb)
     go_roundw
     case rel => exact ⟨k + 1, by go_num, by omega, HT2, HB3⟩
     case measure => simp [intOf]; omega
   ·obtain rfl : k = fs.length := by omega
    have ht := HT.out
    rw [List.take_length] at ht
    have HZ := Aside0.mk (show askErr D S l1 l2 l3 fs = 0 by unfold askErr; rw [if_pos HE.out, if_pos ht])
    clear ht HT
    go_wp2
    go_ret2
    exact ⟨HW2.out, .inr ⟨HZ.out, qb, by have := HQB.out; simp at this; omega, rfl, HQ.out.below HW.out⟩⟩
 ·have hop := fun W hB => opened_err hr1 hc1 hr2 hc2 hr3 hc3 he W hB
  have HZ := Aside0.mk (show askErr D S l1 l2 l3 fs = opErr D S l1 l2 l3 by unfold askErr; rw [if_neg he])
  generalize opErr D S l1 l2 l3 = er at hop he HZ
  clear hr1 hc1 hr2 hc2 hr3 hc3 hr4
  go_enter Tryz.func77, Tryz.ntmps77
  go_wp2_with (go_at_call 68; refine Calls.mono (hop _ (by repeat (first | exact HB.out | apply below_alloc))) ?_; clear hop; rintro e W2 ⟨rfl, hb, hbw⟩; have HB2 := Aside0.mk hbw; clear hb hbw)
  go_ret2
  exact ⟨HB2.out, .inl ⟨by rw [HZ.out]; exact he, by rw [HZ.out]; rfl⟩⟩
end Go.Proofs.YtgakfgedaipdmaaGreatDoor.P
namespace Go.Proofs.YtgakfgedaipdmaaGreatDoor.P
open Go.RowKit Go.Shelf Go.Proofs.YtgakfgedaipdmaaGreatDoorW.PrintWords Go.Proofs.YtgakfgedaipdmaaGreatDoorW.PrintLast Go.Proofs.YtgakfgedaipdmaaGreatDoorW.PrintMore
set_option linter.unusedVariables false
set_option linter.unusedSimpArgs false
attribute [local go_sem] Oper.semAt_some
def colR (g : Int → List S59 × Int) (ps : List (Int × List Int)) : List S59 × Int := if ps.any (fun p => decide ((g p.1).2 ≠ 0)) then ([], 2) else joinR (ps.flatMap fun p => (g p.1).1)
def ColG (g : Int → List S59 × Int) : Prop := ∀ c, cOk c → ((g c).2 = 0 ∨ (g c).2 = 2) ∧ (g c).1.length ≤ 64 ∧ ∀ s ∈ (g c).1, SpIn s
def colS (g : Int → List S59 × Int) (D S : Int) (l1 : List S61) (l3 : List S59) (dss : List (List Int)) (c : Int) : List S59 := (leftTo D S l1 l3 dss (c.toNat - 1)).flatMap fun p => (g p.1).1
def colOk (g : Int → List S59 × Int) (D S : Int) (l1 : List S61) (l3 : List S59) (dss : List (List Int)) (c : Int) : Prop := ∀ p ∈ leftTo D S l1 l3 dss (c.toNat - 1), (g p.1).2 = 0
theorem colS_skip {g : Int → List S59 × Int} {D S : Int} {l1 : List S61} {l3 : List S59} {dss : List (List Int)} {c : Int} (h0 : 1 ≤ c) (h : firstP D S c l1 l3 dss = none) : colS g D S l1 l3 dss (c + 1) = colS g D S l1 l3 dss c ∧ (colOk g D S l1 l3 dss c → colOk g D S l1 l3 dss (c + 1)) := by
 unfold colS colOk
 rw [leftTo_skip h0 h]
 exact ⟨rfl, id⟩
theorem colS_step {g : Int → List S59 × Int} {D S : Int} {l1 : List S61} {l3 : List S59} {dss : List (List Int)} {c : Int} {a : List Int} (h0 : 1 ≤ c) (h : firstP D S c l1 l3 dss = some a) : colS g D S l1 l3 dss (c + 1) = colS g D S l1 l3 dss c ++ (g c).1 ∧ (colOk g D S l1 l3 dss c → (g c).2 = 0 → colOk g D S l1 l3 dss (c + 1)) := by
 unfold colS colOk
 rw [leftTo_step h0 h, List.flatMap_append]
 refine ⟨by simp, fun h1 h2 p hp => ?_⟩
 rcases List.mem_append.1 hp with hp | hp
 ·exact h1 p hp
 ·rw [List.mem_singleton.1 hp]
  exact h2
theorem flatMap_len {α β : Type} (f : α → List β) (m : Nat) : ∀ (l : List α), (∀ x ∈ l, (f x).length ≤ m) → (l.flatMap f).length ≤ l.length * m
 |[], _ => by simp
 |x :: l, h => by
  rw [List.flatMap_cons, List.length_append, List.length_cons, Nat.add_mul, Nat.one_mul]
  have := flatMap_len f m l (fun y hy => h y (List.mem_cons_of_mem _ hy))
  have := h x List.mem_cons_self
  omega
theorem colS_len {g : Int → List S59 × Int} (hg : ColG g) (D S : Int) (l1 : List S61) (l3 : List S59) (dss : List (List Int)) (c : Int) (h : c ≤ 1001) : (colS g D S l1 l3 dss c).length ≤ 64000 := by
 unfold colS
 have h1 := leftTo_len D S l1 l3 dss (c.toNat - 1)
 have h2 := flatMap_len (fun p : Int × List Int => (g p.1).1) 64 (leftTo D S l1 l3 dss (c.toNat - 1)) (fun p hp => by
  obtain ⟨k1, k2, _⟩ := leftTo_mem hp
  exact (hg p.1 ⟨k1, by omega⟩).2.1)
 omega
theorem colS_in {g : Int → List S59 × Int} (hg : ColG g) (D S : Int) (l1 : List S61) (l3 : List S59) (dss : List (List Int)) (c : Int) (h : c ≤ 1001) : ∀ s ∈ colS g D S l1 l3 dss c, SpIn s := by
 intro s hs
 unfold colS at hs
 obtain ⟨p, hp, hs⟩ := List.mem_flatMap.1 hs
 obtain ⟨k1, k2, _⟩ := leftTo_mem hp
 exact (hg p.1 ⟨k1, by omega⟩).2.2 s hs
theorem colR_ok {g : Int → List S59 × Int} {D S : Int} {l1 : List S61} {l3 : List S59} {dss : List (List Int)} (h : colOk g D S l1 l3 dss 1001) : colR g (leftTo D S l1 l3 dss 1000) = joinR (colS g D S l1 l3 dss 1001) := by
 unfold colR
 rw [if_neg]
 ·rfl
 ·rw [List.any_eq_true]
  rintro ⟨p, hp, h2⟩
  exact absurd (h p hp) (of_decide_eq_true h2)
theorem colR_err {g : Int → List S59 × Int} {D S : Int} {l1 : List S61} {l3 : List S59} {dss : List (List Int)} {c : Int} {a : List Int} (g1 : 1 ≤ c) (g2 : c ≤ 1000) (hf : firstP D S c l1 l3 dss = some a) (h : (g c).2 ≠ 0) : colR g (leftTo D S l1 l3 dss 1000) = ([], 2) := by
 unfold colR
 rw [if_pos]
 rw [List.any_eq_true]
 obtain ⟨r, hr⟩ := leftTo_pre D S l1 l3 dss (show (c + 1).toNat - 1 ≤ 1000 by omega)
 refine ⟨(c, a), ?_, decide_eq_true h⟩
 rw [hr, leftTo_step g1 hf]
 simp
theorem fitR_spec {o : List S59} (h : ∀ s ∈ o, SpIn s) : ((fitR o).2 = 0 ∨ (fitR o).2 = 2) ∧ (fitR o).1.length ≤ 64 ∧ ∀ s ∈ (fitR o).1, SpIn s := by
 by_cases h64 : 64 < o.length
 ·rw [fitR_gt h64]
  exact ⟨.inr rfl, by simp, by simp⟩
 ·rw [fitR_le (by omega)]
  exact ⟨.inl rfl, by simp; omega, h⟩
theorem fieldAt_colG {D S : Int} {l1 : List S61} {l3 : List S59} {dss : List (List Int)} (hok : InqOk D S l1 l3 dss) {i : Nat} (hi : i < l3.length) : ColG fun c => fieldAt D S c l3 dss i := by
 intro c _
 obtain ⟨h1, h2, h3⟩ := spanOk_iff.1 (hok.sp _ (mem_getD hi z59))
 exact fitR_spec (runsIn_in (by omega) (by omega))
theorem reads_int_one (W : World) (x : Int) : Kd.C (Kd.int .i64) (W.alloc (.cells #[.int .i64 x] 3)) (some ⟨W.heap.size, 0, none⟩) 1 [x] := by
 refine ⟨rfl, by omega, fun _ => ⟨_, rfl, fun j p hj => ?_⟩⟩
 have hj1 : j < 1 := (List.getElem?_eq_some_iff.1 hj).1
 obtain rfl : j = 0 := by omega
 obtain rfl : x = p := Option.some.inj hj
 refine ⟨[.int .i64 x], rfl, rfl, fun i u hi => ?_⟩
 rw [addr_add, blk_cell (blk_new W (.cells #[.int .i64 x] 3)), Nat.zero_mul, Nat.zero_add]
 simpa using hi
def fieldR (D S : Int) (l1 : List S61) (l2 : List S64) (l3 : List S59) (f : Int) : List S59 × Int :=
 if askErr D S l1 l2 l3 [f] = 0 then colR (fun c => fieldAt D S c l3 (dists D l2 l3.length) f.toNat) (leftTo D S l1 l3 (dists D l2 l3.length) 1000) else ([], askErr D S l1 l2 l3 [f])
def wheel_Field.f (D S : Int) (l1 : List S61) (l2 : List S64) (l3 : List S59) (f : Int) : Option (List S59 × Int) := some (fieldR D S l1 l2 l3 f)
theorem asked_ok {D S : Int} {A1 : Option Addr} {c1 : Nat} {l1 : List S61} {A2 : Option Addr} {c2 : Nat} {l2 : List S64} {A3 : Option Addr} {c3 : Nat} {l3 : List S59} {fs : List Int} {w : World} (hr1 : Kd.C k61 w A1 l1.length l1) (hc1 : l1.length ≤ c1) (hr2 : Kd.C k64 w A2 l2.length l2) (hc2 : l2.length ≤ c2) (hr3 : Kd.C k59 w A3 l3.length l3) (hc3 : l3.length ≤ c3) (hf : fs.length ≤ 100) (he : askErr D S l1 l2 l3 fs = 0) (W : World) (hB : Below w.heap.size w W) (A4 : Option Addr) (c4 : Nat) (hr4 : Kd.C (Kd.int .i64) W A4 fs.length fs) :
  Calls Tryz.prog 77 #[.agg #[.int .i64 D, .int .i64 S], .slice A1 l1.length c1, .slice A2 l2.length c2, .slice A3 l3.length c3, .slice A4 fs.length c4] W fun e w' => Below W.heap.size W w' ∧ Below w.heap.size w w' ∧ ∃ b, W.heap.size ≤ b ∧ e = .returned (.tuple #[.pointer (some ⟨b, 0, none⟩), .int .i64 0]) ∧ Inq w' b D S A1 c1 l1 A3 c3 l3 (dists D l2 l3.length) := by
 refine Calls.mono (asked_any D S A1 c1 l1 A2 c2 l2 A3 c3 l3 A4 c4 fs W (Kd.C_below hr1 hB) hc1 (Kd.C_below hr2 hB) hc2 (Kd.C_below hr3 hB) hc3 hr4 hf) ?_
 rintro e w' ⟨hb, (⟨h0, _⟩ | ⟨_, b, h1, h2, h3⟩)⟩
 ·exact absurd he h0
 ·exact ⟨hb, below_weaken hB hB.size hb, b, h1, h2, h3⟩
theorem asked_err {D S : Int} {A1 : Option Addr} {c1 : Nat} {l1 : List S61} {A2 : Option Addr} {c2 : Nat} {l2 : List S64} {A3 : Option Addr} {c3 : Nat} {l3 : List S59} {fs : List Int} {w : World} (hr1 : Kd.C k61 w A1 l1.length l1) (hc1 : l1.length ≤ c1) (hr2 : Kd.C k64 w A2 l2.length l2) (hc2 : l2.length ≤ c2) (hr3 : Kd.C k59 w A3 l3.length l3) (hc3 : l3.length ≤ c3) (hf : fs.length ≤ 100) (he : askErr D S l1 l2 l3 fs ≠ 0) (W : World) (hB : Below w.heap.size w W) (A4 : Option Addr) (c4 : Nat) (hr4 : Kd.C (Kd.int .i64) W A4 fs.length fs) :
  Calls Tryz.prog 77 #[.agg #[.int .i64 D, .int .i64 S], .slice A1 l1.length c1, .slice A2 l2.length c2, .slice A3 l3.length c3, .slice A4 fs.length c4] W fun e w' => e = .returned (.tuple #[.pointer none, .int .i64 (askErr D S l1 l2 l3 fs)]) ∧ Below W.heap.size W w' ∧ Below w.heap.size w w' := by
 refine Calls.mono (asked_any D S A1 c1 l1 A2 c2 l2 A3 c3 l3 A4 c4 fs W (Kd.C_below hr1 hB) hc1 (Kd.C_below hr2 hB) hc2 (Kd.C_below hr3 hB) hc3 hr4 hf) ?_
 rintro e w' ⟨hb, (⟨_, h⟩ | ⟨h0, _⟩)⟩
 ·exact ⟨h, hb, below_weaken hB hB.size hb⟩
 ·exact absurd h0 he
theorem askErr_zero {D S : Int} {l1 : List S61} {l2 : List S64} {l3 : List S59} {fs : List Int} (h : askErr D S l1 l2 l3 fs = 0) : opErr D S l1 l2 l3 = 0 ∧ ∀ f ∈ fs, fieldOk l3.length f = true := by
 unfold askErr at h
 by_cases h0 : opErr D S l1 l2 l3 = 0
 ·rw [if_pos h0] at h
  refine ⟨h0, List.all_eq_true.1 ?_⟩
  cases ha : fs.all (fieldOk l3.length) with
  |true => rfl
  |false => rw [ha] at h; simp at h
 ·rw [if_neg h0] at h
  exact absurd h h0
theorem fieldOk_nat {n : Nat} {f : Int} (h : fieldOk n f = true) : ∃ i : Nat, f = (i : Int) ∧ i < n := by
 unfold fieldOk at h
 simp only [Bool.and_eq_true, decide_eq_true_eq] at h
 exact ⟨f.toNat, by omega, by omega⟩
theorem set2 {W : World} {b0 b1 t0 t1 n : Nat} {u0 u1 : Value} (x0 : Boxed W b0 t0 u0) (x1 : Boxed W b1 t1 u1) (hne : b0 ≠ b1) (h0 : n ≤ b0) (h1 : n ≤ b1) (v0 v1 : Value) :
  Boxed ((W.setCell ⟨b0, 0, none⟩ v0).setCell ⟨b1, 0, none⟩ v1) b0 t0 v0 ∧ Boxed ((W.setCell ⟨b0, 0, none⟩ v0).setCell ⟨b1, 0, none⟩ v1) b1 t1 v1 ∧
  Below n W ((W.setCell ⟨b0, 0, none⟩ v0).setCell ⟨b1, 0, none⟩ v1) ∧ KeepsOthers W ((W.setCell ⟨b0, 0, none⟩ v0).setCell ⟨b1, 0, none⟩ v1) :=
 ⟨(x0.set v0).other hne v1, (x1.other (fun e => hne e.symm) v0).set v1, ((Below.refl n W).setCell (p := ⟨b0, 0, none⟩) h0 v0).setCell (p := ⟨b1, 0, none⟩) h1 v1, (KeepsOthers.setCell _ _ _).trans (KeepsOthers.setCell _ _ _)⟩
theorem R_set2 {α : Type} {d : Kd α} {e B : Nat} {ok : Nat → Prop} {W : World} {v : Value} {xs : List α} {n m : Nat} (h : d.R e W B ok v xs) (hn : n < B) (hm : m < B) (v0 v1 : Value) : d.R e ((W.setCell ⟨n, 0, none⟩ v0).setCell ⟨m, 0, none⟩ v1) B ok v xs := R_low (R_low h hn v0) hm v1
theorem results27 {tmps : Array Value} {W : World} {b10 b11 : Nat} {v10 v11 : Value} (h10 : tmps[10]?.getD undef = .pointer (some ⟨b10, 0, none⟩)) (h11 : tmps[11]?.getD undef = .pointer (some ⟨b11, 0, none⟩))
  (x10 : Boxed W b10 27 v10) (x11 : Boxed W b11 28 v11) : (results Tryz.f27 tmps).run Tryz.prog W = .ok (.tuple #[v10, v11]) W := by
 have c10 := x10.cell
 have c11 := x11.cell
 simp [results, show Tryz.f27.results = #[ResultVar.cell 10 27, ResultVar.cell 11 28] from rfl, go_sem, h10, h11, c10, c11]
set_option maxHeartbeats 8000000 in
set_option maxRecDepth 100000 in
theorem wheel_Field.calls (D S : Int) (A1 : Option Addr) (c1 : Nat) (l1 : List S61) (A2 : Option Addr) (c2 : Nat) (l2 : List S64) (A3 : Option Addr) (c3 : Nat) (l3 : List S59) (f : Int) (r0 : List S59) (r1 : Int) (w : World) (hr1 : Kd.C k61 w A1 l1.length l1) (hc1 : l1.length ≤ c1) (hr2 : Kd.C k64 w A2 l2.length l2) (hc2 : l2.length ≤ c2) (hr3 : Kd.C k59 w A3 l3.length l3) (hc3 : l3.length ≤ c3) (h : wheel_Field.f D S l1 l2 l3 f = some (r0, r1)) :
  Calls Tryz.prog 27 #[.agg #[.int .i64 D, .int .i64 S], .slice A1 l1.length c1, .slice A2 l2.length c2, .slice A3 l3.length c3, .int .i64 f] w fun e w' => ∃ v0_ : Value, e = .returned (.tuple #[v0_, .int .i64 r1]) ∧ Kd.R k59 59 w' w.heap.size (fun _ => True) v0_ r0 ∧ Below w.heap.size w w' := by
 refine (callsIn_wide (n := 5)).1 ?_
 refine callsIn_of_wp_marks Tryz.func27 rfl trivial ?_ rfl
 simp only [Tryz.ntmps27, List.size_toArray, List.length_cons, List.length_nil, Nat.reduceAdd, Nat.reduceSub, Array.replicate_succ, Array.replicate_zero, List.push_toArray, List.append_toArray, List.nil_append, List.cons_append]
 by_cases he : askErr D S l1 l2 l3 [f] = 0
 ·obtain ⟨hop0, hfo⟩ := askErr_zero he
  obtain ⟨i, rfl, hi⟩ := fieldOk_nat (hfo f List.mem_cons_self)
  have hop := fun W hB A4 c4 hr4 => asked_ok hr1 hc1 hr2 hc2 hr3 hc3 (fs := [(i : Int)]) (by simp) he W hB A4 c4 hr4
  obtain ⟨g, hg⟩ : ∃ g : Int → List S59 × Int, g = fun c => fieldAt D S c l3 (dists D l2 l3.length) i := ⟨_, rfl⟩
  have HCG := Aside0.mk (show ColG g by rw [hg]; exact fieldAt_colG (inqOk_of hop0) hi)
  have H := Aside0.mk (show colR g (leftTo D S l1 l3 (dists D l2 l3.length) 1000) = (r0, r1) by
   have h2 := Option.some.inj h
   unfold fieldR at h2
   rw [if_pos he, Int.toNat_natCast, ← hg] at h2
   exact h2)
  have hfa := fun (c : Int) (hc : cOk c) (qb : Nat) (W : World) hq => field_any D S c i A1 c1 l1 A3 c3 l3 (dists D l2 l3.length) qb W (inqOk_of hop0) hc hi hq
  have hge : ∀ c, fieldAt D S c l3 (dists D l2 l3.length) i = g c := fun c => by rw [hg]
  simp only [hge] at hfa
  have HFA := Aside0.mk hfa
  have HOK := Aside0.mk (inqOk_of hop0)
  clear h hr1 hr2 hr3 hc1 hc2 hc3 he hop0 hfo hg hge hfa hi
  gi_wp2_with (first | (refine ⟨trivial, ?_⟩; gi_at_call 77; refine (callsIn_wide.2 (hop _ (by repeat (first | exact Below.refl _ _ | apply below_alloc)) (some ⟨w.heap.size + 1 + 1 + 1 + 1, 0, none⟩) 1 (by have := reads_int_one ((((w.alloc (.cells #[.int .i64 D, .int .i64 S] 23)).alloc (.cells #[.int .i64 (i : Int)] 3)).alloc (.cells #[.slice none 0 0] 27)).alloc (.cells #[.int .i64 0] 28)) (i : Int); simp only [World.size_alloc] at this; exact this))).mono ?_; clear hop; rintro e W2 ⟨hb, hbw, qb, hqb, rfl, hq⟩; have x9 := blk_below (alloc5 w _ _ _ _ _).2.1 hb; have x10 := blk_below (alloc5 w _ _ _ _ _).2.2.1 hb; have x11 := blk_below (alloc5 w _ _ _ _ _).2.2.2.1 hb; have X9 := Aside0.mk x9; have X10 := Aside0.mk x10; have X11 := Aside0.mk x11; have HB2 := Aside0.mk hbw; have HQ := Aside0.mk hq; clear hb hbw hqb hq x9 x10 x11) | (refine ⟨trivial, ?_⟩; gi_at_call 73; refine (left_in 4 qb _).mono ?_; rintro e W3 ⟨rfl, rfl⟩))
  obtain ⟨Wa, hWa⟩ : ∃ Wa, W2.alloc (.cells #[.pointer (some ⟨qb, 0, none⟩)] 102) = Wa := ⟨_, rfl⟩
  have hsa : Wa.heap.size = W2.heap.size + 1 := by rw [← hWa, World.size_alloc]
  have hxq : Boxed Wa W2.heap.size 102 (.pointer (some ⟨qb, 0, none⟩)) := by rw [← hWa]; exact Boxed.new _ _ _
  have hBa : Below W2.heap.size W2 Wa := by rw [← hWa]; exact Below.alloc (Below.refl _ _) (Nat.le_refl _) _
  rw [hWa]
  obtain ⟨hs3, hbo, hbx, hB3⟩ := alloc2 Wa (.cells #[.slice none 0 0] 26) (.cells #[.pointer (some ⟨qb, 0, none⟩)] 102)
  obtain ⟨W3, hW3⟩ : ∃ W3, (Wa.alloc (.cells #[.slice none 0 0] 26)).alloc (.cells #[.pointer (some ⟨qb, 0, none⟩)] 102) = W3 := ⟨_, rfl⟩
  obtain ⟨bq, hbq⟩ : ∃ bq, W2.heap.size = bq := ⟨_, rfl⟩
  have hbc := Boxed.cell (boxed_of_blk hbx)
  have X9a : Boxed Wa (w.heap.size + 1) 3 (.int .i64 (i : Int)) := blk_below X9.out hBa
  have X10a : Boxed Wa (w.heap.size + 1 + 1) 27 (.slice none 0 0) := blk_below X10.out hBa
  have X11a : Boxed Wa (w.heap.size + 1 + 1 + 1) 28 (.int .i64 0) := blk_below X11.out hBa
  have hw2 := HB2.out.size
  have hba2 := HB2.out.trans (hBa.mono hw2)
  have hlt11 := blk_lt X11.out
  rw [hW3] at hs3 hbo hB3 hbc ⊢
  have HIa := Aside0.mk (HQ.out.below hBa)
  rw [hbq] at hsa hxq hBa hw2 hlt11 ⊢
  rw [hsa] at hs3 hbo hbc hB3
  have HB3 := Aside0.mk hB3
  have HBA := Aside0.mk hba2
  have HXQ := Aside0.mk hxq
  have HX9 := Aside0.mk X9a
  have HX10 := Aside0.mk X10a
  have HX11 := Aside0.mk X11a
  have HSA := Aside0.mk hsa
  clear hWa hW3 hbx hbq hB3 hba2 hxq X9a X10a X11a X9 X10 X11 hBa HQ
  refine wpIn_rangeLeft (bq + 1 + 1) qb W3.heap.size (D := D) (S := S) (A1 := A1) (c1 := c1) (l1 := l1) (A3 := A3) (c3 := c3) (l3 := l3) (dss := dists D l2 l3.length) rfl rfl HOK.out
   (fun c W => ColI Wa (bq + 1 + 1) qb (bq + 1) W3.heap.size (colS g D S l1 l3 (dists D l2 l3.length)) c W ∧ colOk g D S l1 l3 (dists D l2 l3.length) c)
   (fun code W => code = .ret ∧ colR g (leftTo D S l1 l3 (dists D l2 l3.length) 1000) = ([], 2) ∧ Boxed W (w.heap.size + 1 + 1) 27 (.slice none 0 0) ∧ Boxed W (w.heap.size + 1 + 1 + 1) 28 (.int .i64 2) ∧ Below w.heap.size w W)
   (OwnFrom.and (ColI.own _ _ _ _ _ _ (by omega)) (ownFrom_pure _ _))
   (fun c => OwnFrom.and (ownFrom_pure _ (fun _ => c = .ret)) (OwnFrom.and (ownFrom_pure _ (fun _ => _)) (OwnFrom.and ((boxed_own _ _ (fun _ => _)).from _) (OwnFrom.and ((boxed_own _ _ (fun _ => _)).from _) (ownFrom_below (Nat.le_refl _) (by omega))))))
   (fun c W h => ⟨h.1.2.2.1, h.1.2.1, HIa.out.below h.1.1⟩)
   (fun c W g1 g2 h hn => ⟨⟨h.1.1, h.1.2.1, h.1.2.2.1, by rw [(colS_skip g1 hn).1]; exact h.1.2.2.2⟩, (colS_skip g1 hn).2 h.2⟩)
   ⟨⟨HB3.out.mono (by omega), hbc, Nat.le_refl _, _, hbo, Kd.R_nil _ _ _ _ _⟩, fun p hp => by simp [leftTo] at hp⟩ ?a1 ?assign ?body ?done ?stop
  case assign =>
   intro l c v W K hK
   gi_wp2
   exact hK
  case body =>
   rintro l c ar v W hl g1 g2 ⟨⟨hB, hcx, hsz, vo, hvo, hRo⟩, hcok⟩ hf hr
   have hcall := HFA.out c ⟨g1, g2⟩ qb W (HIa.out.below hB)
   have x9 := Boxed.below HX9.out hB
   have xq := Boxed.below HXQ.out hB
   have x10 := Boxed.below HX10.out hB
   have x11 := Boxed.below HX11.out hB
   have hc9 := And.intro x9.cell x9.frozen
   have hcq := And.intro xq.cell xq.frozen
   have Y10 := Aside0.mk x10
   have Y11 := Aside0.mk x11
   have HX := Aside0.mk hcx
   have HBW := Aside0.mk hB
   have HVO := Aside0.mk hvo
   have HRO := Aside0.mk hRo
   have HF := Aside0.mk hf
   have HOKC := Aside0.mk hcok
   have hgc := HCG.out c ⟨g1, g2⟩
   have HLEN := Aside0.mk (colS_len HCG.out D S l1 l3 (dists D l2 l3.length) c (by omega))
   obtain ⟨Ao, co, rfl⟩ := Kd.R_slice hRo
   obtain ⟨gs, ge, hgg⟩ : ∃ gs ge, g c = (gs, ge) := ⟨_, _, rfl⟩
   rw [hgg] at hcall hgc
   simp only at hcall hgc
   have HGG := Aside0.mk hgg
   clear x9 xq x10 x11 hcx hB hvo hRo hf hcok hr hbc hbo hgg
   rcases hgc with ⟨rfl | rfl, hg64, hgin⟩
   ·gi_wp2_with (first | (refine ⟨trivial, ?_⟩; gi_at_call 78; refine (CallsIn.inRound l (callsIn_wide.2 hcall)).mono ?_; clear hcall; rintro e W4 ⟨v0, rfl, hR0, hb⟩; obtain ⟨Ar, cr, rfl⟩ := Kd.R_slice hR0; have zb := Boxed.below HVO.out hb; have zr := Kd.R_below HRO.out hb; have ZB := Aside0.mk zb; have ZR := Aside0.mk zr; have R0 := Aside0.mk hR0; have HBb := Aside0.mk hb; have hcb := And.intro zb.cell zb.frozen; have hsz4 := Nat.le_trans hsz hb.size; clear zb zr hR0 hb) | (gi_at_builtin; refine wpListIn_append_R k59 (W := W4) W3.heap.size rfl (.tmp 45) (.tmp 46) 26 27 59 (.agg #[.int .i64 0, .int .i64 0]) 16 rfl Tryz.underlying26 Tryz.underlying27 info59 rfl (by decide) (by omega) (.slice Ao (colS g D S l1 l3 (dists D l2 l3.length) c).length co) (colS g D S l1 l3 (dists D l2 l3.length) c) gs Ar gs.length cr (fun _ => True) (fun _ => False) rfl rfl ZR.out (Kd.R_reads' R0.out).2.2 (fun x cs h => by rw [k59_open h]; exact k59_mkM _ _ _ _) (fun k h => h.elim) (fun _ _ => trivial) hsz4 (by have := HLEN.out; omega) ?_; intro v1 w1 hR1 hg1 hat1; obtain ⟨ys, hys⟩ : ∃ ys, ys = colS g D S l1 l3 (dists D l2 l3.length) c ++ gs := ⟨_, rfl⟩; rw [← hys] at hR1; have HYS := Aside0.mk hys; clear hys; obtain ⟨Av, cv, rfl⟩ := Kd.R_slice hR1; have hq := collect_step ZB.out (by omega) hsz4 ZR.out hR1 hg1; have HC := Aside0.mk hq.2; have hc1 := And.intro hq.1.cell hq.1.frozen; clear hq hR1 hg1 hat1))
    obtain ⟨q2, q3, q4, q5, q6⟩ := HC.out
    have hw4 := HBW.out.trans (HBb.out.mono HBW.out.size)
    refine ⟨((keeps_of_below HBb.out).trans q4).from _, ⟨hw4.trans (q5.mono (by omega)), (World.cell?_of_block (q6 (bq + 1 + 1) (by omega) (by omega))).trans (pw_cell_below HBb.out HX.out), Nat.le_trans hsz4 q4.size, _, q2, ?_⟩, ?_⟩
    ·rw [(colS_step g1 HF.out).1, HGG.out]
     show Kd.R k59 59 _ _ _ _ (colS g D S l1 l3 (dists D l2 l3.length) c ++ gs)
     rw [← HYS.out]
     exact q3
    ·exact (colS_step g1 HF.out).2 HOKC.out (by rw [HGG.out])
   ·gi_wp2_with (refine ⟨trivial, ?_⟩; gi_at_call 78; refine (CallsIn.inRound l (callsIn_wide.2 hcall)).mono ?_; clear hcall; rintro e W4 ⟨v0, rfl, hR0, hb⟩; obtain ⟨Ar, cr, rfl⟩ := Kd.R_slice hR0; have z10 := Boxed.below Y10.out hb; have z11 := Boxed.below Y11.out hb; have Z10 := Aside0.mk z10; have Z11 := Aside0.mk z11; have HBb := Aside0.mk hb; have hc10 := And.intro z10.cell z10.frozen; have hc11 := And.intro z11.cell z11.frozen; clear z10 z11 hR0 hb)
    obtain ⟨q1, q2, q3, q4⟩ := set2 Z10.out Z11.out (by omega) (n := w.heap.size) (by omega) (by omega) (.slice none 0 0) (.int .i64 2)
    exact ⟨((keeps_of_below HBb.out).trans q4).from _, rfl, colR_err g1 g2 HF.out (by rw [HGG.out]; show (2 : Int) ≠ 0; decide), q1, q2, (below_weaken (below_weaken HBA.out HBA.out.size HBW.out) (by have := HBA.out.size; have := HBW.out.size; omega) HBb.out).trans q3⟩
  case done =>
   rintro E W hE ⟨⟨hB, hcx, hsz, vo, hvo, hRo⟩, hcok⟩ hK
   have x10 := Boxed.below HX10.out hB
   have x11 := Boxed.below HX11.out hB
   have Y10 := Aside0.mk x10
   have Y11 := Aside0.mk x11
   have hvc := And.intro hvo.cell hvo.frozen
   have hj := joined_any W3.heap.size _ vo _ W hRo hsz (colS_in HCG.out D S l1 l3 (dists D l2 l3.length) 1001 (by omega)) (Nat.le_trans (colS_len HCG.out D S l1 l3 (dists D l2 l3.length) 1001 (by omega)) (by omega))
   have e1 := H.out
   rw [colR_ok hcok] at e1
   rw [e1] at hj
   obtain ⟨Ao, co, rfl⟩ := Kd.R_slice hRo
   have HBW := Aside0.mk hB
   have HK := Aside0.mk hK
   have HSZ := Aside0.mk hsz
   clear e1 hcx hB hvo hRo hK hbc hbo hcok x10 x11 hsz
   gi_wp2_with (refine ⟨trivial, ?_⟩; gi_at_call 75; refine (callsIn_wide.2 hj).mono ?_; clear hj; rintro e W4 ⟨v0, rfl, h0, hb0, hk0⟩; have H0 := Aside0.mk h0; have HB0 := Aside0.mk hb0; have hK2 := Aside0.mk (hk0.same E _ HK.out rfl); obtain ⟨A0, c0, rfl⟩ := Kd.R_slice h0; have z10 : Boxed _ _ _ _ := (hb0.block _ (by have := blk_lt HX10.out; omega)).trans Y10.out; have z11 : Boxed _ _ _ _ := (hb0.block _ (by have := blk_lt HX11.out; omega)).trans Y11.out; have Z10 := Aside0.mk z10; have Z11 := Aside0.mk z11; have hc10 := And.intro z10.cell z10.frozen; have hc11 := And.intro z11.cell z11.frozen; clear h0 hb0 hk0 z10 z11)
   obtain ⟨q1, q2, q3, q4⟩ := set2 Z10.out Z11.out (by omega) (n := w.heap.size) (by omega) (by omega) (.slice A0 r0.length c0) (.int .i64 r1)
   have hK3 := q4.same E _ hK2.out rfl
   have hww := HBA.out.size
   have hww2 := HBW.out.size
   have hww3 := HB0.out.size
   have hbw := ((below_weaken (below_weaken HBA.out hww HBW.out) (by omega) HB0.out).trans q3)
   have hRs := R_set2 H0.out (n := w.heap.size + 1 + 1) (m := w.heap.size + 1 + 1 + 1) (by have := HSZ.out; omega) (by have := HSZ.out; omega) (.slice A0 r0.length c0) (.int .i64 r1)
   exact ⟨by simp, .inl ⟨_, _, rfl, run_takeDeferred hK3, _, results27 rfl rfl (Boxed.putDef q1 hK3 _) (Boxed.putDef q2 hK3 _), _, rfl, Kd.R_lower (R_putLoop hRs hK3 rfl _) (by omega), below_putDef hbw hbw.size (by omega) _⟩⟩
  case stop =>
   rintro E c W hE ⟨rfl, h1, h2, h3, h4⟩ hK
   have e1 := H.out
   rw [h1] at e1
   simp only [Prod.mk.injEq] at e1
   obtain ⟨rfl, rfl⟩ := e1
   gi_wp2
   exact ⟨by simp, .inl ⟨_, _, rfl, run_takeDeferred hK, _, results27 rfl rfl (Boxed.putDef h2 hK _) (Boxed.putDef h3 hK _), _, rfl, Kd.R_nil _ _ _ _ _, below_putDef h4 h4.size (by omega) _⟩⟩
 ·have hop := fun W hB A4 c4 hr4 => asked_err hr1 hc1 hr2 hc2 hr3 hc3 (fs := [f]) (by simp) he W hB A4 c4 hr4
  unfold wheel_Field.f fieldR at h
  rw [if_neg he] at h
  simp only [Option.some.injEq, Prod.mk.injEq] at h
  obtain ⟨rfl, hr3⟩ := h
  rw [hr3] at hop he
  clear hr3 hr1 hr2 hc1 hc2 hc3
  gi_wp2_with (refine ⟨trivial, ?_⟩; gi_at_call 77; refine (callsIn_wide.2 (hop _ (by repeat (first | exact Below.refl _ _ | apply below_alloc)) (some ⟨w.heap.size + 1 + 1 + 1 + 1, 0, none⟩) 1 (by have := reads_int_one ((((w.alloc (.cells #[.int .i64 D, .int .i64 S] 23)).alloc (.cells #[.int .i64 f] 3)).alloc (.cells #[.slice none 0 0] 27)).alloc (.cells #[.int .i64 0] 28)) f; simp only [World.size_alloc] at this; exact this))).mono ?_; clear hop; rintro e W2 ⟨rfl, hb, hbw⟩; have x10 : Boxed _ _ _ _ := blk_below (alloc5 w _ _ _ _ _).2.2.1 hb; have x11 : Boxed _ _ _ _ := blk_below (alloc5 w _ _ _ _ _).2.2.2.1 hb; have hb2 := hbw; have HB2 := Aside0.mk hbw; have hlt := blk_lt x11; have x10a := Boxed.alloc x10 (.cells #[.pointer none] 102); have x11a := Boxed.alloc x11 (.cells #[.pointer none] 102); have X10 := Aside0.mk x10a; have X11 := Aside0.mk x11a; have hc10 := And.intro x10a.cell x10a.frozen; have hc11 := And.intro x11a.cell x11a.frozen; clear hb hbw x10 x11 hb2 x10a x11a)
  obtain ⟨q1, q2, q3, q4⟩ := set2 X10.out X11.out (by omega) (n := w.heap.size) (by omega) (by omega) (.slice none 0 0) (.int .i64 r1)
  exact ⟨_, results27 rfl rfl q1 q2, _, rfl, Kd.R_nil _ _ _ _ _, (HB2.out.alloc HB2.out.size _).trans q3⟩
end Go.Proofs.YtgakfgedaipdmaaGreatDoor.P
namespace Go.Proofs.YtgakfgedaipdmaaGreatDoor.P
open Go.RowKit Go.Proofs.YtgakfgedaipdmaaGreatDoorW.PrintWords Go.Proofs.YtgakfgedaipdmaaGreatDoorW.PrintLast Go.Proofs.YtgakfgedaipdmaaGreatDoorW.PrintMore
attribute [local go_sem] max2_int min2_int max_two min_two max_three min_three max_four min_four
set_option linter.unusedVariables false
set_option linter.unusedSimpArgs false
def ranges_some.f (a0 : Int) (a1 : Int) : Option ((List (S59))) := if a0 > a1 then (some ([] : List (S59))) else (some (([(⟨a0, a1⟩ : S59)] : List (S59))))
set_option maxHeartbeats 8000000 in
set_option maxRecDepth 100000 in
theorem ranges_some.calls (a0 : Int) (a1 : Int) (r : List (S59)) (w : World) (h : ranges_some.f a0 a1 = some r) :
  Calls Tryz.prog 130 #[.int .i64 a0, .int .i64 a1] w fun e w' => ∃ v0_ : Value, e = .returned (v0_) ∧ Kd.R k59 59 w' w.heap.size (fun _ => True) v0_ r ∧ Below w.heap.size w w' := by
 have hu59 := Tryz.underlying59
 have HB := Aside0.mk (Below.refl w.heap.size w)
 have H : (if a0 > a1 then (some ([] : List (S59))) else (some (([(⟨a0, a1⟩ : S59)] : List (S59))))) = some r := h
 clear h
 by_cases c3 : a0 > a1
 ·rw [if_pos c3] at H
  have c3b0 : decide (a1 < a0) = true := decide_eq_true c3
  clear c3
  obtain rfl := Option.some.inj H
  go_enter Tryz.func130, Tryz.ntmps130
  go_wp2
  go_ret
  exact ⟨_, by first | rfl | (simp [errW_none, errW_some] <;> rfl) | (simp [*, errW_none, errW_some] <;> rfl), by first | exact Kd.R_nil _ _ _ _ _ | exact Kd.N_nil _ _ _ _ _ | exact Kd.V_nil _ _ _ _ _ | exact Kd.Q_nil _ _ _ _ _ | exact Kd.S_nil _ _ _ _ _, by repeat (first | (with_reducible first | exact HB.out | apply below_alloc | apply pw_below_drewN | apply below_drew1) | exact HB.out)⟩
 ·rw [if_neg c3] at H
  have c3b0 : decide (a1 < a0) = false := decide_eq_false c3
  clear c3
  obtain ⟨y189, hy189⟩ : ∃ y_ : List (S59), y_ = (([(⟨a0, a1⟩ : S59)] : List (S59))) := ⟨_, rfl⟩
  replace H : (some y189) = some r := by first | (rw [hy189]; with_reducible exact H) | (have H2_ := (Option.bind_some _ _).symm.trans H; rw [hy189]; with_reducible exact H2_) | (have H2_ := (Option.bind_some _ _).symm.trans H; with_reducible exact H2_) | with_reducible exact H | (rw [hy189]; exact H) | exact H
  have Ny189 := Aside0.mk hy189
  clear hy189
  obtain rfl := Option.some.inj H
  go_enter Tryz.func130, Tryz.ntmps130
  go_wp2_with (first | ((with_reducible refine gate_dst (N := 11) rfl ?_); refine Kd.R_lit k59 _ 59 ?hg (N := 11) ?hd (xs := ([(⟨a0, a1⟩ : S59)] : List (S59))) (inner := [.int .i64 a0, .int .i64 a1]) (ok := fun _ => True) (okp := fun _ => True) ?hr ?hp (fun _ hk => hk) trivial (Below.refl _ _) (Nat.le_refl _) (by simp) ?_; (case hd => rfl); (case hg => rfl); (case hr => first | (go_simp; done) | (go_simp; rfl)); (case hp => exact (Reps.c2 (show Kd.M k59 _ _ _ (⟨a0, a1⟩ : S59) [.int .i64 a0, .int .i64 a1] from (k59_mkM _ _ _ (⟨a0, a1⟩ : S59) )) (Reps.none _ _))); intro v190 w4 ho5 hb hg_ hnew_; clear hg_ hnew_; (first | rw [← Ny189.out] at ho5 | (simp only [Int.reduceToNat] at ho5; rw [← Ny189.out] at ho5)); have n0_ := Aside0.mk (Kd.R_lower ho5 (below_size (bw HB.out))); have n1_ := Aside0.mk (below_step (bw HB.out) hb); clear HB; have HO191 := n0_; have HB := n1_; clear n0_ n1_; clear hb ho5))
  go_ret
  exact ⟨_, by first | rfl | (simp [errW_none, errW_some] <;> rfl) | (simp [*, errW_none, errW_some] <;> rfl), by (with_reducible repeat (first | apply Kd.R_alloc | apply Kd.R_drewN | apply Kd.R_drew)); exact HO191.out, by repeat (first | (with_reducible first | exact HB.out | apply below_alloc | apply pw_below_drewN | apply below_drew1) | exact HB.out)⟩
def ranges_Sum_1.f (a0_0 : Int) (a0_1 : Int) (a1_0 : Int) (a1_1 : Int) : Option ((List (S59)) × Bool) := (ranges_some.f (wrap64 (a0_0 + a1_0)) (wrap64 (a0_1 + a1_1))).bind fun t194 => (some (t194, false))
set_option maxHeartbeats 8000000 in
set_option maxRecDepth 100000 in
theorem ranges_Sum_1.calls (a0_0 : Int) (a0_1 : Int) (a1_0 : Int) (a1_1 : Int) (r1 : List (S59)) (r2 : Bool) (w : World) (h : ranges_Sum_1.f a0_0 a0_1 a1_0 a1_1 = some (r1, r2)) :
  Calls Tryz.prog 129 #[.agg #[.int .i64 a0_0, .int .i64 a0_1], .agg #[.int .i64 a1_0, .int .i64 a1_1]] w fun e w' => ∃ v0_ : Value, e = .returned (.tuple #[v0_, .bool r2]) ∧ Kd.R k59 59 w' w.heap.size (fun _ => True) v0_ r1 ∧ Below w.heap.size w w' := by
 have hu59 := Tryz.underlying59
 have HB := Aside0.mk (Below.refl w.heap.size w)
 have H : ((ranges_some.f (wrap64 (a0_0 + a1_0)) (wrap64 (a0_1 + a1_1))).bind fun t194 => (some (t194, false))) = some (r1, r2) := h
 clear h
 replace H := Option.bind_eq_some_iff.mp H
 obtain ⟨t194, A30, H⟩ := H
 replace H : (some (t194, false)) = some (r1, r2) := H
 have A3 := Aside0.mk A30
 clear A30
 simp only [Option.some.injEq, Prod.mk.injEq] at H
 obtain ⟨rfl, rfl⟩ := H
 go_enter Tryz.func129, Tryz.ntmps129
 go_wp2_with (first | ((with_reducible refine gate_dst (N := 2) rfl ?_); refine box_event ?hg (N := 2) ?hd (cs := #[.int .i64 a0_0, .int .i64 a0_1]) (t := 59) ?hr ?_; (case hd => rfl); (case hg => rfl); (case hr => first | (go_simp; done) | (go_simp; rfl)); intro gb192 hg w4 hbox hb; have n0_ := Aside0.mk (below_step (bw HB.out) hb); have n1_ := Aside0.mk (hbox); have n2_ := Aside0.mk ((by rw [hg]; exact (below_size (bw HB.out)) : w.heap.size ≤ gb192)); have n3_ := Aside0.mk ((by rw [hg]; exact (below_size (bw HB.out)) : w.heap.size ≤ gb192)); clear HB; have HB := n0_; have BK192 := n1_; have GW192 := n2_; have GE192 := n3_; clear n0_ n1_ n2_ n3_; clear hb hbox hg) | ((with_reducible refine gate_dst (N := 3) rfl ?_); refine box_event ?hg (N := 3) ?hd (cs := #[.int .i64 a1_0, .int .i64 a1_1]) (t := 59) ?hr ?_; (case hd => rfl); (case hg => rfl); (case hr => first | (go_simp; done) | (go_simp; rfl)); intro gb193 hg w5 hbox hb; have n0_ := Aside0.mk (blk_below (g := gb192) (o := .cells #[.int .i64 a0_0, .int .i64 a0_1] 59 (0, 0)) (bq BK192.out) hb); have n1_ := Aside0.mk (below_step (by repeat (first | (with_reducible first | exact HB.out | apply below_alloc | apply pw_below_drewN | apply below_drew1 | refine below_set ?_ GE192.out) | exact HB.out)) hb); have n2_ := Aside0.mk (hbox); have n3_ := Aside0.mk ((by rw [hg]; exact (below_size (by repeat (first | (with_reducible first | exact HB.out | apply below_alloc | apply pw_below_drewN | apply below_drew1 | refine below_set ?_ GE192.out) | exact HB.out))) : w.heap.size ≤ gb193)); have n4_ := Aside0.mk ((by rw [hg]; exact (below_size (by repeat (first | (with_reducible first | exact HB.out | apply below_alloc | apply pw_below_drewN | apply below_drew1 | refine below_set ?_ GE192.out) | exact HB.out))) : w.heap.size ≤ gb193)); have n5_ := Aside0.mk ((by rw [hg]; exact Nat.ne_of_lt (blk_lt (g := gb192) (o := .cells #[.int .i64 a0_0, .int .i64 a0_1] 59 (0, 0)) (bq BK192.out)) : gb192 ≠ gb193)); have n6_ := Aside0.mk ((by rw [hg]; exact Nat.ne_of_gt (blk_lt (g := gb192) (o := .cells #[.int .i64 a0_0, .int .i64 a0_1] 59 (0, 0)) (bq BK192.out)) : gb193 ≠ gb192)); clear BK192; clear HB; have BK192 := n0_; have HB := n1_; have BK193 := n2_; have GW193 := n3_; have GE193 := n4_; have NB192_193 := n5_; have NB193_192 := n6_; clear n0_ n1_ n2_ n3_ n4_ n5_ n6_; clear hb hbox hg; have hnb6 := NB192_193.out; have hnc6 := NB193_192.out; have hcz7_0 : w5.cell? ⟨gb192, 0, none⟩ = some (.int .i64 a0_0) := (blk_cell BK192.out 0).trans rfl; have hcz7_1 : w5.cell? ⟨gb192, 1, none⟩ = some (.int .i64 a0_1) := (blk_cell BK192.out 1).trans rfl; have hfz7_0 := blk_frozen BK192.out 0; have hfz7_1 := blk_frozen BK192.out 1; have hcz8_0 : w5.cell? ⟨gb193, 0, none⟩ = some (.int .i64 a1_0) := (blk_cell BK193.out 0).trans rfl; have hcz8_1 : w5.cell? ⟨gb193, 1, none⟩ = some (.int .i64 a1_1) := (blk_cell BK193.out 1).trans rfl; have hfz8_0 := blk_frozen BK193.out 0; have hfz8_1 := blk_frozen BK193.out 1) | ((with_reducible refine gate_callee (f := 130) rfl ?_); refine goesL_ (some 16) rfl rfl Tryz.func130 (by kernel_rfl) rfl #[.int .i64 (wrap64 (a0_0 + a1_0)), .int .i64 (wrap64 (a0_1 + a1_1))] rfl mq ?_; (with_reducible refine (ranges_some.calls (wrap64 (a0_0 + a1_0)) (wrap64 (a0_1 + a1_1)) t194 _ A3.out).mono ?_); rintro e w9 ⟨v195, rfl, ho0, hb⟩; refine ⟨_, rfl, ?_⟩; have n0_ := Aside0.mk (Kd.R_lower (Kd.R_newB (Kd.R_newB ho0 (g := gb192) (o := .cells #[.int .i64 a0_0, .int .i64 a0_1] 59 (0, 0)) (bq BK192.out)) (g := gb193) (o := .cells #[.int .i64 a1_0, .int .i64 a1_1] 59 (0, 0)) (bq BK193.out)) (below_size (by repeat (first | (with_reducible first | exact HB.out | apply below_alloc | apply pw_below_drewN | apply below_drew1 | refine below_set ?_ GE192.out | refine below_set ?_ GE193.out) | exact HB.out)))); have n1_ := Aside0.mk (blk_below (g := gb192) (o := .cells #[.int .i64 a0_0, .int .i64 a0_1] 59 (0, 0)) (bq BK192.out) hb); have n2_ := Aside0.mk (blk_below (g := gb193) (o := .cells #[.int .i64 a1_0, .int .i64 a1_1] 59 (0, 0)) (bq BK193.out) hb); have n3_ := Aside0.mk (below_step (by repeat (first | (with_reducible first | exact HB.out | apply below_alloc | apply pw_below_drewN | apply below_drew1 | refine below_set ?_ GE192.out | refine below_set ?_ GE193.out) | exact HB.out)) hb); clear BK192; clear BK193; clear HB; have HO196 := n0_; have BK192 := n1_; have BK193 := n2_; have HB := n3_; clear n0_ n1_ n2_ n3_; (try clear hb); (try clear hb2); (try clear hk); (try clear hi); (try clear ho0)))
 go_ret2
 exact ⟨_, by first | rfl | (simp [errW_none, errW_some] <;> rfl) | (simp [*, errW_none, errW_some] <;> rfl), by (with_reducible repeat (first | apply Kd.R_alloc | apply Kd.R_drewN | apply Kd.R_drew)); exact Kd.R_mono HO196.out (fun _ hk => trivial), by repeat (first | (with_reducible first | exact HB.out | apply below_alloc | apply pw_below_drewN | apply below_drew1 | refine below_set ?_ GE192.out | refine below_set ?_ GE193.out) | exact HB.out)⟩
def addS (x y : S59) : S59 := ⟨x.f0 + y.f0, x.f1 + y.f1⟩
def sumP (a b : List S59) : List S59 := a.flatMap fun x => b.map (addS x)
theorem sum1_eval {x y : S59} (hx : SpIn x) (hy : SpIn y) : ranges_Sum_1.f x.f0 x.f1 y.f0 y.f1 = some ([addS x y], false) := by
 obtain ⟨a1, a2, a3⟩ := hx
 obtain ⟨b1, b2, b3⟩ := hy
 unfold ranges_Sum_1.f ranges_some.f
 rw [wrap64_id (by omega) (by omega), wrap64_id (by omega) (by omega)]
 rw [if_neg (by omega)]
 rfl
theorem sum1_any {x y : S59} (hx : SpIn x) (hy : SpIn y) (W : World) : Calls Tryz.prog 129 #[.agg #[.int .i64 x.f0, .int .i64 x.f1], .agg #[.int .i64 y.f0, .int .i64 y.f1]] W fun e w' => ∃ v0_ : Value, e = .returned (.tuple #[v0_, .bool false]) ∧ Kd.R k59 59 w' W.heap.size (fun _ => True) v0_ [addS x y] ∧ Below W.heap.size W w' :=
 ranges_Sum_1.calls x.f0 x.f1 y.f0 y.f1 [addS x y] false W (sum1_eval hx hy)
theorem sumP_take (a b : List S59) (i : Nat) (h : i < a.length) : sumP (a.take (i + 1)) b = sumP (a.take i) b ++ b.map (addS (a.getD i z59)) := by
 rw [take_succ_getD a i h z59]
 unfold sumP
 rw [List.flatMap_append]
 simp
theorem sumP_len (a b : List S59) : (sumP a b).length = a.length * b.length := by
 unfold sumP
 induction a with
 |nil => simp
 |cons x a ih => rw [List.flatMap_cons, List.length_append, List.length_map, ih, List.length_cons, Nat.add_mul, Nat.one_mul, Nat.add_comm]
set_option maxHeartbeats 8000000 in
set_option maxRecDepth 100000 in
theorem pairs_any (A : Option Addr) (c : Nat) (a : List S59) (A' : Option Addr) (c' : Nat) (b : List S59) (w : World) (hra : Kd.C k59 w A a.length a) (hrb : Kd.C k59 w A' b.length b) (ha : ∀ s ∈ a, SpIn s) (hb : ∀ s ∈ b, SpIn s) (hla : a.length ≤ 64) (hlb : b.length ≤ 64) :
  Calls Tryz.prog 128 #[.slice A a.length c, .slice A' b.length c', .func (.func 129) #[] #[]] w fun e w' => ∃ v0 : Value, e = .returned v0 ∧ Kd.R k59 59 w' w.heap.size (fun _ => True) v0 (sumP a b) ∧ Below w.heap.size w w' := by
 have HB := Aside0.mk (Below.refl w.heap.size w)
 have HRA := Aside0.mk hra
 have HRB := Aside0.mk hrb
 have HA := Aside0.mk ha
 have HBB := Aside0.mk hb
 have hu59 := Tryz.underlying59
 clear hra hrb ha hb
 go_enter Tryz.func128, Tryz.ntmps128
 go_wp2
 go_step3
 go_wp2
 go_step3
 go_wp2
 go_loopw [16, 7, 9, 11, 12, 13] (fun v16 v7 v9 v11 v12 v13 W => ∃ i : Nat, v16 = .int .i64 i ∧ i ≤ a.length ∧ Aside0 (Kd.R k59 59 W w.heap.size (fun _ => True) v7 (sumP (a.take i) b)) ∧ Aside0 (Below w.heap.size w W)) (fun v16 _ _ _ _ _ _ => a.length - (intOf v16).toNat)
 case atStart => exact ⟨0, rfl, Nat.zero_le _, ⟨Kd.R_nil _ _ _ _ _⟩, HB⟩
 case round =>
  clear HB
  obtain ⟨i, rfl, hi, HO, HB⟩ := hrel
  by_cases hlt : i < a.length
  ·obtain ⟨ad, e0, hx0, hx1⟩ := at_T59 (Kd.C_below HRA.out HB.out) (i : Int) (by omega) (by omega)
   cases e0
   simp only [Int.toNat_natCast] at hx0 hx1
   have hid : rd_T59 a (i : Int) = a.getD i z59 := by unfold rd_T59; rw [Int.toNat_natCast]
   rw [hid] at hx0 hx1
   have HMEM := Aside0.mk (HA.out _ (mem_getD hlt z59))
   have HT := Aside0.mk (sumP_take a b i hlt)
   generalize a.getD i z59 = x at hx0 hx1 HMEM HT
   have HN := Aside0.mk (blk_new wr (.cells #[.int .i64 x.f0, .int .i64 x.f1] 59))
   have HB2 := Aside0.mk (below_alloc HB.out (.cells #[.int .i64 x.f0, .int .i64 x.f1] 59))
   have HO2 := Aside0.mk (Kd.R_alloc (Kd.R_mono (Kd.R_bound HO.out) (ok' := fun k => k ≠ wr.heap.size) (fun k hk => by have := hk.2.2.1; omega)) (.cells #[.int .i64 x.f0, .int .i64 x.f1] 59))
   have HSZ := Aside0.mk (show w.heap.size ≤ wr.heap.size from HB.out.size)
   clear hid HO HB
   go_wp2
   obtain ⟨bx, hbx⟩ : ∃ bx, wr.heap.size = bx := ⟨_, rfl⟩
   rw [hbx] at HN HO2 HSZ ⊢
   have HBX := Aside0.mk hbx
   clear hbx hx0 hx1
   generalize wr.alloc (.cells #[.int .i64 x.f0, .int .i64 x.f1] 59) = wx at HN HB2 HO2 ⊢
   go_loopw [22, 7, 11, 12, 13] (fun v22 v7 v11 v12 v13 W => ∃ j : Nat, v22 = .int .i64 j ∧ j ≤ b.length ∧ Aside0 (Kd.R k59 59 W w.heap.size (fun k => k ≠ bx) v7 (sumP (a.take i) b ++ (b.take j).map (addS x))) ∧ Aside0 (Below w.heap.size w W) ∧ Aside0 (W.heap[bx]? = some (.cells #[.int .i64 x.f0, .int .i64 x.f1] 59 (0, 0)))) (fun v22 _ _ _ _ _ => b.length - (intOf v22).toNat)
   case atStart => exact ⟨0, rfl, Nat.zero_le _, ⟨by simpa using HO2.out⟩, HB2, HN⟩
   case round =>
    clear HB2 HO2 HN
    obtain ⟨j, rfl, hj, HO, HB, HN⟩ := hrel
    by_cases hjt : j < b.length
    ·obtain ⟨ad2, e2, hy0, hy1⟩ := at_T59 (Kd.C_below HRB.out HB.out) (j : Int) (by omega) (by omega)
     cases e2
     simp only [Int.toNat_natCast] at hy0 hy1
     have hid : rd_T59 b (j : Int) = b.getD j z59 := by unfold rd_T59; rw [Int.toNat_natCast]
     rw [hid] at hy0 hy1
     have HMY := Aside0.mk (HBB.out _ (mem_getD hjt z59))
     have HTY := Aside0.mk (take_succ_getD b j hjt z59)
     generalize b.getD j z59 = y at hy0 hy1 HMY HTY
     have hlen : (sumP (a.take i) b ++ (b.take j).map (addS x)).length ≤ 8192 := by
      rw [List.length_append, sumP_len, List.length_map, List.length_take, List.length_take]
      have : min i a.length * b.length ≤ 64 * 64 := Nat.mul_le_mul (by omega) hlb
      omega
     obtain ⟨ls, hls⟩ : ∃ ls, ls = sumP (a.take i) b ++ (b.take j).map (addS x) := ⟨_, rfl⟩
     rw [← hls] at HO hlen
     have HLS := Aside0.mk hls
     have ho := HO.out
     obtain ⟨Ao, co, rfl⟩ := Kd.R_slice ho
     have HLN := Aside0.mk hlen
     have hb0 : World.cell? _ ⟨bx, 0, none⟩ = some (Value.int .i64 x.f0) := (blk_cell (blk_alloc HN.out (.cells #[.int .i64 y.f0, .int .i64 y.f1] 59)) 0).trans rfl
     have hb1 : World.cell? _ ⟨bx, 1, none⟩ = some (Value.int .i64 x.f1) := (blk_cell (blk_alloc HN.out (.cells #[.int .i64 y.f0, .int .i64 y.f1] 59)) 1).trans rfl
     have hlt2 := blk_lt HN.out
     have hne : bx ≠ wr.heap.size := by omega
     clear hid hls hlen ho hlt2
     go_wp2_with (first | (go_at_call 129; refine Calls.mono (sum1_any HMEM.out HMY.out _) ?_; rintro e W4 ⟨v0, rfl, hR0, hbt⟩; obtain ⟨Ar, cr, rfl⟩ := Kd.R_slice hR0; have R0 := Aside0.mk hR0; have HB4 := Aside0.mk (below_weaken (below_alloc HB.out _) (by simp; have := HB.out.size; omega) hbt); have HO4 := Aside0.mk (Kd.R_below (Kd.R_alloc HO.out (.cells #[.int .i64 y.f0, .int .i64 y.f1] 59)) hbt); have HN4 := Aside0.mk (blk_below (blk_alloc HN.out (.cells #[.int .i64 y.f0, .int .i64 y.f1] 59)) hbt); clear hR0 hbt hb0 hb1 hne) | (at_builtin; refine Kd.R_append_rows2 k59 (w0 := w) w.heap.size rfl (.tmp 33) (.tmp 34) 26 26 59 (.agg #[.int .i64 0, .int .i64 0]) 16 rfl Tryz.underlying26 Tryz.underlying26 info59 rfl (by decide) (by omega) (.slice Ao ls.length co) ls [addS x y] Ar 1 cr (fun k => k ≠ bx) (fun _ => False) rfl rfl HO4.out (Kd.R_reads' R0.out).2.2 (fun x cs h => by rw [k59_open h]; exact k59_mkM _ _ _ _) (fun k h => h.elim) (fun k hk => (by have := blk_lt HN4.out; omega)) HB4.out HB4.out.size (by have := HLN.out; omega) ?_; intro v1 w1 hR1 hB1 hg1 hat1; have HR1 := Aside0.mk hR1; have HB5 := Aside0.mk hB1; have HN5 := Aside0.mk (blk_grown HN4.out hg1 (fun e => HO4.out.1 bx e.symm rfl)); clear hR1 hB1 hg1 hat1))
     go_roundw
     case rel =>
      refine ⟨j + 1, by go_num, by omega, ⟨?_⟩, HB5, HN5⟩
      rw [HTY.out, List.map_append, ← List.append_assoc, ← HLS.out]
      exact HR1.out
     case measure => simp [intOf]; omega
    ·obtain rfl : j = b.length := by omega
     have ho := HO.out
     rw [List.take_length, ← HT.out] at ho
     have HO1 := Aside0.mk (Kd.R_mono ho (fun _ _ => trivial))
     clear ho HO
     go_wp2
     go_roundw
     case rel => exact ⟨i + 1, by go_num, by omega, HO1, HB⟩
     case measure => simp [intOf]; omega
  ·obtain rfl : i = a.length := by omega
   have ho := HO.out
   rw [List.take_length] at ho
   have HO1 := Aside0.mk ho
   clear ho HO
   go_wp2
   (try rw [Exit.noGoto_ret])
   go_ret
   exact ⟨_, rfl, HO1.out, HB.out⟩
structure RangeOk (l : List S59) : Prop where
 canon : Canon l
 inn : ∀ s ∈ l, SpIn s
 len : l.length ≤ 64
theorem area_any (a : Int) (h : -1099511627776 ≤ a ∧ a ≤ 1099511627776) (W : World) : Calls Tryz.prog 132 #[.int .i64 a] W fun e w' => e = .returned (.bool true) ∧ Below W.heap.size W w' :=
 (ranges_area.calls a true W (area_ok h)).mono fun e w' h => ⟨h.1, h.2.below⟩
theorem area_q (a : Int) (h : -1099511627776 ≤ a ∧ a ≤ 1099511627776) (W : World) (n : Nat) : Calls Tryz.prog 132 #[.int .i64 a] (W.drewN n) fun e w' => e = .returned (.bool true) ∧ ∃ m, w' = W.drewN m :=
 (ranges_area.calls a true (W.drewN n) (area_ok h)).mono fun e w' h => ⟨h.1, by obtain ⟨m, hm⟩ := h.2.out; exact ⟨n + m, by rw [hm, World.drewN_drewN]⟩⟩
set_option maxHeartbeats 8000000 in
set_option maxRecDepth 100000 in
theorem rcheck_any (A : Option Addr) (c : Nat) (a : List S59) (w : World) (hra : Kd.C k59 w A a.length a) (ha : RangeOk a) :
  Calls Tryz.prog 89 #[.slice A a.length c] w fun e w' => e = .returned (.int .i64 0) ∧ Below w.heap.size w w' := by
 have HB := Aside0.mk (Below.refl w.heap.size w)
 have HRA := Aside0.mk hra
 have HA := Aside0.mk ha
 have hu59 := Tryz.underlying59
 have hlen := ha.len
 clear hra ha
 go_enter Tryz.func89, Tryz.ntmps89
 go_wp2
 go_loopw [10, 3, 4] (fun v10 v3 v4 W => ∃ i : Nat, v10 = .int .i64 i ∧ i ≤ a.length ∧ Aside0 (Below w.heap.size w W)) (fun v10 _ _ _ => a.length - (intOf v10).toNat)
 case atStart => exact ⟨0, rfl, Nat.zero_le _, HB⟩
 case round =>
  clear HB
  obtain ⟨i, rfl, hi, HB⟩ := hrel
  by_cases hlt : i < a.length
  ·obtain ⟨ad, e0, hx0, hx1⟩ := at_T59 (Kd.C_below HRA.out HB.out) (i : Int) (by omega) (by omega)
   cases e0
   simp only [Int.toNat_natCast] at hx0 hx1
   have hid : rd_T59 a (i : Int) = a.getD i z59 := by unfold rd_T59; rw [Int.toNat_natCast]
   rw [hid] at hx0 hx1
   have hmem := HA.out.inn _ (mem_getD hlt z59)
   have HG := Aside0.mk (fun (hp : 0 < i) => (List.pairwise_iff_getElem.1 HA.out.canon.gap (i - 1) i (by omega) hlt (by omega)))
   have hgx : a.getD i z59 = a[i] := by rw [List.getD_eq_getElem?_getD, List.getElem?_eq_getElem hlt]; rfl
   obtain ⟨x, hx⟩ : ∃ x, x = a.getD i z59 := ⟨_, rfl⟩
   rw [← hx] at hx0 hx1 hmem
   rw [← hgx, ← hx] at HG
   obtain ⟨hm1, hm2, hm3⟩ := hmem
   have c1 := fun W => area_any x.f0 ⟨hm1, by omega⟩ W
   have c2 := fun W => area_any x.f1 ⟨by omega, hm3⟩ W
   have hB2 := below_alloc HB.out (.cells #[.int .i64 x.f0, .int .i64 x.f1] 59)
   have HB2 := Aside0.mk hB2
   have hn := blk_new wr (.cells #[.int .i64 x.f0, .int .i64 x.f1] 59)
   by_cases hp : 0 < i
   ·have hg := HG.out hp
    obtain ⟨ad', e1, hy0, hy1⟩ := at_T59 (Kd.C_below HRA.out hB2) ((i - 1 : Nat) : Int) (by omega) (by omega)
    cases e1
    simp only [Int.toNat_natCast] at hy0 hy1
    have hid' : rd_T59 a ((i - 1 : Nat) : Int) = a[i - 1] := by unfold rd_T59; rw [Int.toNat_natCast, List.getD_eq_getElem?_getD, List.getElem?_eq_getElem (by omega)]; rfl
    rw [hid'] at hy0 hy1
    have hmy := HA.out.inn _ (List.getElem_mem (show i - 1 < a.length by omega))
    obtain ⟨y, hy⟩ : ∃ y, y = a[i - 1] := ⟨_, rfl⟩
    rw [← hy] at hy1 hg hmy
    obtain ⟨j, hj⟩ : ∃ j : Int, j = (i : Int) - 1 := ⟨_, rfl⟩
    obtain ⟨n, hn'⟩ : ∃ n : Nat, n = i - 1 := ⟨_, rfl⟩
    have hw1 : wrap64 ((i : Int) - 1) = j := by rw [wrap64_id (by omega) (by omega)]; omega
    have htn : j.toNat = n := by omega
    have f1 : 0 ≤ j := by omega
    have f2 : j < (a.length : Int) := by omega
    have f7 : n < a.length := by omega
    have f3 : (j < 0) = False := eq_false (by omega)
    have f4 : ((a.length : Int) ≤ j) = False := eq_false (by omega)
    have f5 : decide (0 ≤ j) = true := decide_eq_true f1
    have f6 : decide (j < (a.length : Int)) = true := decide_eq_true f2
    rw [← hn'] at hy1
    have hw2 : wrap64 (y.f1 + 1) = y.f1 + 1 := wrap64_id (by have := hmy.1; have := hmy.2.1; omega) (by have := hmy.2.2; omega)
    have d1 : decide (x.f1 < x.f0) = false := decide_eq_false (by omega)
    have d1' : (x.f1 < x.f0) = False := eq_false (by omega)
    have d2 : decide (x.f0 ≤ y.f1 + 1) = false := decide_eq_false (by omega)
    have d2' : (x.f0 ≤ y.f1 + 1) = False := eq_false (by omega)
    obtain ⟨I, hI⟩ : ∃ I : Int, (i : Int) = I := ⟨_, rfl⟩
    have g1 : 0 ≤ I := by omega
    have g2 : I < (a.length : Int) := by omega
    have g3 : I.toNat = i := by omega
    have g4 : 0 < I := by omega
    have HI := Aside0.mk hI
    have HP := Aside0.mk hp
    have HLT := Aside0.mk hlt
    rw [hI] at hw1 ⊢
    have hw1k : IntKind.i64.wrap (I - 1) = j := by have h := hw1; unfold wrap64 at h; rw [IntKind.wrap_i64]; exact h
    have hw2k : IntKind.i64.wrap (y.f1 + 1) = y.f1 + 1 := by have h := hw2; unfold wrap64 at h; rw [IntKind.wrap_i64]; exact h
    clear hy0
    clear hid hid' hx hy HG hgx hmy
    clear hj hn' hI hp hlt hi
    go_wp2
    obtain ⟨W2, hW2⟩ : ∃ W2, wr.alloc (.cells #[.int .i64 x.f0, .int .i64 x.f1] 59) = W2 := ⟨_, rfl⟩
    obtain ⟨bx, hbx⟩ : ∃ bx, wr.heap.size = bx := ⟨_, rfl⟩
    rw [hW2] at hn hy1 HB2 ⊢
    rw [hbx] at hn ⊢
    have z0 : W2.cell? ⟨bx, 0, none⟩ = some (.int .i64 x.f0) := (blk_cell hn 0).trans rfl
    have z1 : W2.cell? ⟨bx, 1, none⟩ = some (.int .i64 x.f1) := (blk_cell hn 1).trans rfl
    clear hx0 hx1 hn hW2 hbx hB2
    go_region_held3 (fun W => W.cell? ⟨bx, 0, none⟩ = some (.int .i64 x.f0) ∧ W.cell? ⟨bx, 1, none⟩ = some (.int .i64 x.f1) ∧ W.cell? ⟨(ad.add (n * 2)).block, (ad.add (n * 2)).off + 1, none⟩ = some (.int .i64 y.f1)) (first | go_keep | (go_split_ands; (repeat' apply And.intro) <;> exact pw_cell_below hBt (by assumption)) | (go_split_ands; (repeat' apply And.intro) <;> exact pw_cell_below hBu (by assumption)))
     (first | (go_at_call 132; refine (c1 _).mono ?_; clear c1; rintro e W3 ⟨rfl, hBt⟩; have HB3 := Aside0.mk (below_weaken (show Below w.heap.size w _ from (by repeat (first | exact HB2.out | apply below_alloc | apply below_drew1))) (by have := HB2.out.size; simpa using this) hBt)) | (go_at_call 132; refine (c2 _).mono ?_; clear c2; rintro e W4 ⟨rfl, hBu⟩; have HB4 := Aside0.mk (below_weaken HB3.out HB3.out.size hBu)))
    rename_i hHeld
    clear hHeld z0 z1 hy1
    have hlt := HLT.out
    have hw3 : wrap64 (I + 1) = ((i + 1 : Nat) : Int) := by have := HI.out; rw [wrap64_id (by omega) (by omega)]; omega
    go_wp2
    go_roundw
    case rel => exact ⟨i + 1, by first | rfl | go_num | (rw [hw3]), by omega, ⟨HB4.out⟩⟩
    case measure => have := HI.out; simp [intOf, hw3]; omega
   ·obtain rfl : i = 0 := by omega
    replace hx0 : wr.cell? ad = some (.int .i64 x.f0) := hx0
    replace hx1 : wr.cell? ⟨ad.block, ad.off + 1, none⟩ = some (.int .i64 x.f1) := hx1
    have d1 : decide (x.f1 < x.f0) = false := decide_eq_false (by omega)
    have d1' : (x.f1 < x.f0) = False := eq_false (by omega)
    have HLT := Aside0.mk hlt
    obtain ⟨I, hI⟩ : ∃ I : Int, ((0 : Nat) : Int) = I := ⟨_, rfl⟩
    have g1 : 0 ≤ I := by omega
    have g2 : I < (a.length : Int) := by omega
    have g3 : I.toNat = 0 := by omega
    have g4 : (0 < I) = False := eq_false (by omega)
    have g5 : decide (0 < I) = false := decide_eq_false (by omega)
    have hw3 : wrap64 (I + 1) = ((1 : Nat) : Int) := by rw [wrap64_id (by omega) (by omega)]; omega
    have HW3 := Aside0.mk hw3
    have HI := Aside0.mk hI
    rw [hI]
    clear hid hx HG hgx hI hlt hi hw3 hp
    go_wp2
    obtain ⟨W2, hW2⟩ : ∃ W2, wr.alloc (.cells #[.int .i64 x.f0, .int .i64 x.f1] 59) = W2 := ⟨_, rfl⟩
    obtain ⟨bx, hbx⟩ : ∃ bx, wr.heap.size = bx := ⟨_, rfl⟩
    rw [hW2] at hn HB2 ⊢
    rw [hbx] at hn ⊢
    have z0 : W2.cell? ⟨bx, 0, none⟩ = some (.int .i64 x.f0) := (blk_cell hn 0).trans rfl
    have z1 : W2.cell? ⟨bx, 1, none⟩ = some (.int .i64 x.f1) := (blk_cell hn 1).trans rfl
    clear hx0 hx1 hn hW2 hbx hB2
    have q1 := fun W n => area_q x.f0 ⟨hm1, by omega⟩ W n
    have q2 := fun W n => area_q x.f1 ⟨by omega, hm3⟩ W n
    go_quiet (first | exact q1 _ _ | exact q2 _ _)
    have HB4 := Aside0.mk (pw_below_drewN HB2.out nq)
    clear z0 z1 q1 q2
    have hlt := HLT.out
    have hw3 := HW3.out
    go_wp2
    go_roundw
    case rel => exact ⟨1, by first | rfl | go_num | (rw [hw3]), by omega, ⟨HB4.out⟩⟩
    case measure => have := HI.out; simp [intOf, hw3]; omega
  ·obtain rfl : i = a.length := by omega
   go_wp2
   go_ret
   exact ⟨rfl, HB.out⟩
set_option maxHeartbeats 8000000 in
set_option maxRecDepth 100000 in
theorem rcheck_all (A : Option Addr) (c : Nat) (ls : List (List S59)) (w : World) (hr : Kd.C (Kd.slice 59 k59) w A ls.length ls) (hls : ∀ l ∈ ls, RangeOk l) (hlen : ls.length ≤ 100) :
  Calls Tryz.prog 115 #[.slice A ls.length c] w fun e w' => e = .returned (.int .i64 0) ∧ Below w.heap.size w w' := by
 have HB := Aside0.mk (Below.refl w.heap.size w)
 have HR := Aside0.mk hr
 have HL := Aside0.mk hls
 clear hr hls
 go_enter Tryz.func115, Tryz.ntmps115
 go_wp2
 go_loopw [8, 4, 5] (fun v8 v4 v5 W => ∃ i : Nat, v8 = .int .i64 i ∧ i ≤ ls.length ∧ Aside0 (Below w.heap.size w W)) (fun v8 _ _ _ => ls.length - (intOf v8).toNat)
 case atStart => exact ⟨0, rfl, Nat.zero_le _, HB⟩
 case round =>
  clear HB
  obtain ⟨i, rfl, hi, HB⟩ := hrel
  by_cases hlt : i < ls.length
  ·obtain ⟨ad, A0, c0, e0, hx0, hxl, hxr⟩ := at_L4 (Kd.C_below HR.out HB.out) (i : Int) (by omega) (by omega)
   cases e0
   simp only [Int.toNat_natCast] at hx0
   have hid : rd_L4 ls (i : Int) = ls.getD i [] := by unfold rd_L4; rw [Int.toNat_natCast]
   rw [hid] at hx0 hxl hxr
   have hmem := HL.out _ (mem_getD hlt [])
   generalize ls.getD i [] = x at hx0 hxl hxr hmem
   have hck := rcheck_any A0 c0 x wr hxr hmem
   clear hid hxl hxr hmem
   go_wp2_with (go_at_call 89; refine Calls.mono hck ?_; clear hck; rintro e W2 ⟨rfl, hb⟩; have HB2 := Aside0.mk (below_weaken HB.out HB.out.size hb); clear hb)
   go_roundw
   case rel => exact ⟨i + 1, by go_num, by omega, HB2⟩
   case measure => simp [intOf]; omega
  ·obtain rfl : i = ls.length := by omega
   go_wp2
   go_ret
   exact ⟨rfl, HB.out⟩
theorem addS_in {x y : S59} (hx : SpIn x) (hy : SpIn y) (h0 : 0 ≤ x.f0) (h1 : 0 ≤ y.f0) (h2 : x.f1 ≤ 549755813888) (h3 : y.f1 ≤ 549755813888) : SpIn (addS x y) := ⟨by show _ ≤ x.f0 + y.f0; omega, by have := hx.2.1; have := hy.2.1; show x.f0 + y.f0 ≤ x.f1 + y.f1; omega, by show x.f1 + y.f1 ≤ _; omega⟩
def sumR (a b : List S59) : List S59 × Int := joinR (sumP a b)
theorem reads_two (W : World) (A A' : Option Addr) (c c' : Nat) (a b : List S59) (hc : a.length ≤ c) (hc' : b.length ≤ c') (ha : Kd.C k59 W A a.length a) (hb : Kd.C k59 W A' b.length b) :
  Kd.C (Kd.slice 59 k59) (W.alloc (.cells #[.slice A a.length c, .slice A' b.length c'] 27)) (some ⟨W.heap.size, 0, none⟩) 2 [a, b] := by
 refine ⟨rfl, by omega, fun _ => ⟨_, rfl, fun j p hj => ?_⟩⟩
 have hj1 : j < 2 := (List.getElem?_eq_some_iff.1 hj).1
 have hB := Below.alloc (Below.refl W.heap.size W) (Nat.le_refl _) (.cells #[.slice A a.length c, .slice A' b.length c'] 27)
 rcases (by omega : j = 0 ∨ j = 1) with rfl | rfl
 ·obtain rfl : a = p := Option.some.inj hj
  refine ⟨[.slice A a.length c], rfl, ⟨A, c, rfl, hc, Kd.C_below ha hB⟩, fun i u hi => ?_⟩
  rw [addr_add, blk_cell (blk_new W _)]
  have : i = 0 := by have := (List.getElem?_eq_some_iff.1 hi).1; simp at this; omega
  subst this
  simpa using hi
 ·obtain rfl : b = p := Option.some.inj hj
  refine ⟨[.slice A' b.length c'], rfl, ⟨A', c', rfl, hc', Kd.C_below hb hB⟩, fun i u hi => ?_⟩
  rw [addr_add, blk_cell (blk_new W _)]
  have : i = 0 := by have := (List.getElem?_eq_some_iff.1 hi).1; simp at this; omega
  subst this
  have e : (Kd.slice 59 k59).sz = 1 := rfl
  rw [e]
  simpa using hi
set_option maxHeartbeats 8000000 in
set_option maxRecDepth 100000 in
theorem sum_any (A : Option Addr) (c : Nat) (a : List S59) (A' : Option Addr) (c' : Nat) (b : List S59) (w : World) (hra : Kd.C k59 w A a.length a) (hc : a.length ≤ c) (hrb : Kd.C k59 w A' b.length b) (hc' : b.length ≤ c') (ha : RangeOk a) (hb : RangeOk b) (hs : ∀ s ∈ sumP a b, SpIn s) :
  Calls Tryz.prog 83 #[.slice A a.length c, .slice A' b.length c'] w fun e w' => ∃ v0 : Value, e = .returned (.tuple #[v0, .int .i64 (sumR a b).2]) ∧ Kd.R k59 59 w' w.heap.size (fun _ => True) v0 (sumR a b).1 ∧ Below w.heap.size w w' := by
 have hck := rcheck_all (some ⟨w.heap.size, 0, none⟩) 2 [a, b] _ (reads_two w A A' c c' a b hc hc' hra hrb) (fun l hl => by rcases List.mem_cons.1 hl with rfl | hl; exact ha; rw [List.mem_singleton.1 hl]; exact hb) (by simp)
 have hlen : (sumP a b).length ≤ 4096 := by rw [sumP_len]; exact Nat.le_trans (Nat.mul_le_mul ha.len hb.len) (by decide)
 have hpr := fun W (hB : Below w.heap.size w W) => pairs_any A c a A' c' b W (Kd.C_below hra hB) (Kd.C_below hrb hB) ha.inn hb.inn ha.len hb.len
 have hga := fun B v W hR hB => gathered_any B (fun _ => True) v (sumP a b) W hR hB hs (by omega)
 have HB := Aside0.mk (Below.refl w.heap.size w)
 have HRa := Aside0.mk hra
 obtain ⟨r, hr⟩ : ∃ r, sumR a b = r := ⟨_, rfl⟩
 have hr' : joinR (sumP a b) = r := hr
 rw [hr'] at hga
 rw [hr]
 clear hr hr' hra hrb ha hb hs hc hc'
 go_enter Tryz.func83, Tryz.ntmps83
 go_wp2_with (first | (go_at_call 115; refine Calls.mono hck ?_; clear hck; rintro e W2 ⟨rfl, hbt⟩; have HB2 := Aside0.mk (below_weaken (below_alloc HB.out _) (by simp) hbt); clear hbt) | (go_at_call 128; refine Calls.mono (hpr _ HB2.out) ?_; clear hpr; rintro e W3 ⟨v0, rfl, hR0, hbt⟩; have HB3 := Aside0.mk (below_weaken HB2.out HB2.out.size hbt); have R0 := Aside0.mk (Kd.R_lower hR0 HB2.out.size); clear hR0 hbt) | (go_at_call 116; refine Calls.mono (hga w.heap.size _ _ R0.out HB3.out.size) ?_; clear hga; rintro e W4 ⟨v1, rfl, hR1, hbt, _⟩; have HB4 := Aside0.mk (HB3.out.trans hbt); have R1 := Aside0.mk (Kd.R_lower hR1 HB3.out.size); clear hR1 hbt))
 go_ret2
 exact ⟨_, rfl, R1.out, HB4.out⟩
end Go.Proofs.YtgakfgedaipdmaaGreatDoor.P
namespace Go.Proofs.YtgakfgedaipdmaaGreatDoor.P
open Go.RowKit Go.Shelf Go.Proofs.YtgakfgedaipdmaaGreatDoorW.PrintWords Go.Proofs.YtgakfgedaipdmaaGreatDoorW.PrintLast Go.Proofs.YtgakfgedaipdmaaGreatDoorW.PrintMore
set_option linter.unusedVariables false
set_option linter.unusedSimpArgs false
attribute [local go_sem] Oper.semAt_some
theorem canonOf_in {l : List S59} (h : ∀ s ∈ l, SpIn s) : ∀ s ∈ canonOf l, SpIn s := by
 obtain ⟨g1, g2⟩ := canonOf_spec (fun s hs => (h s hs).2.1)
 intro s hs
 have hne := g1.ne s hs
 obtain ⟨t, ht, h1, h2⟩ := (g2 s.f0).1 ⟨s, hs, Int.le_refl _, hne⟩
 obtain ⟨t', ht', h3, h4⟩ := (g2 s.f1).1 ⟨s, hs, hne, Int.le_refl _⟩
 have := (h t ht).1
 have := (h t' ht').2.2
 exact ⟨by omega, hne, by omega⟩
theorem fitR_canon {o : List S59} (h : Canon o) : Canon (fitR o).1 := by
 unfold fitR
 split
 ·exact Canon.nil
 ·exact h
theorem fieldAt_ok {D S : Int} {l1 : List S61} {l3 : List S59} {dss : List (List Int)} (hok : InqOk D S l1 l3 dss) {i : Nat} (hi : i < l3.length) (c : Int) : RangeOk (fieldAt D S c l3 dss i).1 ∧ ∀ s ∈ (fieldAt D S c l3 dss i).1, 0 ≤ s.f0 ∧ s.f1 ≤ 1073741824 := by
 obtain ⟨h1, h2, h3⟩ := spanOk_iff.1 (hok.sp _ (mem_getD hi z59))
 have hin : ∀ s ∈ runsIn (areaCan D S (dss.getD i []) c) (l3.getD i z59).f0 (l3.getD i z59).f1, SpIn s ∧ 0 ≤ s.f0 ∧ s.f1 ≤ 1073741824 := fun s hs => by
  have hsp := runsIn_in (p := areaCan D S (dss.getD i []) c) (by omega) (by omega) s hs
  have g1 := ((runsIn_mem _ _ _ s.f0).1 ⟨s, hs, Int.le_refl _, hsp.2.1⟩).1
  have g2 := ((runsIn_mem _ _ _ s.f1).1 ⟨s, hs, hsp.2.1, Int.le_refl _⟩).2.1
  exact ⟨hsp, by omega, by omega⟩
 have hsub : ∀ s ∈ (fieldAt D S c l3 dss i).1, s ∈ runsIn (areaCan D S (dss.getD i []) c) (l3.getD i z59).f0 (l3.getD i z59).f1 := fun s hs => by
  unfold fieldAt areasR fitR at hs
  split at hs
  ·simp at hs
  ·exact hs
 exact ⟨⟨fitR_canon (runsIn_canon _ _ _), fun s hs => (hin s (hsub s hs)).1, (fitR_spec (fun s hs => (hin s hs).1)).2.1⟩, fun s hs => (hin s (hsub s hs)).2⟩
theorem sumP_in {a b : List S59} (ha : ∀ s ∈ a, SpIn s) (hb : ∀ s ∈ b, SpIn s) (ha' : ∀ s ∈ a, 0 ≤ s.f0 ∧ s.f1 ≤ 1073741824) (hb' : ∀ s ∈ b, 0 ≤ s.f0 ∧ s.f1 ≤ 1073741824) : ∀ s ∈ sumP a b, SpIn s := by
 intro s hs
 obtain ⟨x, hx, hs⟩ := List.mem_flatMap.1 hs
 obtain ⟨y, hy, rfl⟩ := List.mem_map.1 hs
 have := ha' x hx
 have := hb' y hy
 exact addS_in (ha x hx) (hb y hy) (by omega) (by omega) (by omega) (by omega)
def togAt (D S c : Int) (l3 : List S59) (dss : List (List Int)) (i j : Nat) : List S59 × Int :=
 if (fieldAt D S c l3 dss i).2 = 0 then (if (fieldAt D S c l3 dss j).2 = 0 then sumR (fieldAt D S c l3 dss i).1 (fieldAt D S c l3 dss j).1 else ([], 2)) else ([], 2)
theorem togAt_colG {D S : Int} {l1 : List S61} {l3 : List S59} {dss : List (List Int)} (hok : InqOk D S l1 l3 dss) {i j : Nat} (hi : i < l3.length) (hj : j < l3.length) : ColG fun c => togAt D S c l3 dss i j := by
 intro c _
 obtain ⟨a1, a2⟩ := fieldAt_ok hok hi c
 obtain ⟨b1, b2⟩ := fieldAt_ok hok hj c
 show ((togAt D S c l3 dss i j).2 = 0 ∨ (togAt D S c l3 dss i j).2 = 2) ∧ (togAt D S c l3 dss i j).1.length ≤ 64 ∧ ∀ s ∈ (togAt D S c l3 dss i j).1, SpIn s
 unfold togAt
 split
 ·split
  ·exact fitR_spec (canonOf_in (sumP_in a1.inn b1.inn a2 b2))
  ·exact ⟨.inr rfl, by simp, by simp⟩
 ·exact ⟨.inr rfl, by simp, by simp⟩
theorem fitR_cases (D S c : Int) (l3 : List S59) (dss : List (List Int)) (i : Nat) : (fieldAt D S c l3 dss i).2 = 0 ∨ (fieldAt D S c l3 dss i).2 = 2 := by
 unfold fieldAt areasR fitR
 split
 ·exact .inr rfl
 ·exact .inl rfl
def togR (D S : Int) (l1 : List S61) (l2 : List S64) (l3 : List S59) (a b : Int) : List S59 × Int :=
 if askErr D S l1 l2 l3 [a, b] = 0 then (if a = b then ([], 1) else colR (fun c => togAt D S c l3 (dists D l2 l3.length) a.toNat b.toNat) (leftTo D S l1 l3 (dists D l2 l3.length) 1000)) else ([], askErr D S l1 l2 l3 [a, b])
def wheel_Together.f (D S : Int) (l1 : List S61) (l2 : List S64) (l3 : List S59) (a b : Int) : Option (List S59 × Int) := some (togR D S l1 l2 l3 a b)
theorem reads_int_two (W : World) (x y : Int) : Kd.C (Kd.int .i64) (W.alloc (.cells #[.int .i64 x, .int .i64 y] 3)) (some ⟨W.heap.size, 0, none⟩) 2 [x, y] := by
 refine ⟨rfl, by omega, fun _ => ⟨_, rfl, fun j p hj => ?_⟩⟩
 have hj1 : j < 2 := (List.getElem?_eq_some_iff.1 hj).1
 rcases (by omega : j = 0 ∨ j = 1) with rfl | rfl
 ·obtain rfl : x = p := Option.some.inj hj
  refine ⟨[.int .i64 x], rfl, rfl, fun i u hi => ?_⟩
  rw [addr_add, blk_cell (blk_new W (.cells #[.int .i64 x, .int .i64 y] 3))]
  have : i = 0 := by have := (List.getElem?_eq_some_iff.1 hi).1; simp at this; omega
  subst this
  simpa using hi
 ·obtain rfl : y = p := Option.some.inj hj
  refine ⟨[.int .i64 y], rfl, rfl, fun i u hi => ?_⟩
  rw [addr_add, blk_cell (blk_new W (.cells #[.int .i64 x, .int .i64 y] 3))]
  have : i = 0 := by have := (List.getElem?_eq_some_iff.1 hi).1; simp at this; omega
  subst this
  have e : (Kd.int .i64).sz = 1 := rfl
  rw [e]
  simpa using hi
theorem alloc6 (w : World) (o0 o1 o2 o3 o4 o5 : Obj) : ((((((w.alloc o0).alloc o1).alloc o2).alloc o3).alloc o4).alloc o5).heap.size = w.heap.size + 6 ∧
  ((((((w.alloc o0).alloc o1).alloc o2).alloc o3).alloc o4).alloc o5).heap[w.heap.size + 1]? = some o1 ∧ ((((((w.alloc o0).alloc o1).alloc o2).alloc o3).alloc o4).alloc o5).heap[w.heap.size + 1 + 1]? = some o2 ∧
  ((((((w.alloc o0).alloc o1).alloc o2).alloc o3).alloc o4).alloc o5).heap[w.heap.size + 1 + 1 + 1]? = some o3 ∧ ((((((w.alloc o0).alloc o1).alloc o2).alloc o3).alloc o4).alloc o5).heap[w.heap.size + 1 + 1 + 1 + 1]? = some o4 := by
 obtain ⟨h0, h1, h2, h3, h4⟩ := alloc5 w o0 o1 o2 o3 o4
 have hb := fun (W : World) (o : Obj) => Below.alloc (Below.refl W.heap.size W) (Nat.le_refl _) o
 exact ⟨by simp only [World.size_alloc], blk_below h1 (hb _ _), blk_below h2 (hb _ _), blk_below h3 (hb _ _), blk_below h4 (hb _ _)⟩
theorem results32 {tmps : Array Value} {W : World} {b12 b13 : Nat} {v12 v13 : Value} (h12 : tmps[12]?.getD undef = .pointer (some ⟨b12, 0, none⟩)) (h13 : tmps[13]?.getD undef = .pointer (some ⟨b13, 0, none⟩))
  (x12 : Boxed W b12 27 v12) (x13 : Boxed W b13 28 v13) : (results Tryz.f32 tmps).run Tryz.prog W = .ok (.tuple #[v12, v13]) W := by
 have c12 := x12.cell
 have c13 := x13.cell
 simp [results, show Tryz.f32.results = #[ResultVar.cell 12 27, ResultVar.cell 13 28] from rfl, go_sem, h12, h13, c12, c13]
set_option maxHeartbeats 8000000 in
set_option maxRecDepth 100000 in
theorem wheel_Together.calls (D S : Int) (A1 : Option Addr) (c1 : Nat) (l1 : List S61) (A2 : Option Addr) (c2 : Nat) (l2 : List S64) (A3 : Option Addr) (c3 : Nat) (l3 : List S59) (a b : Int) (r0 : List S59) (r1 : Int) (w : World) (hr1 : Kd.C k61 w A1 l1.length l1) (hc1 : l1.length ≤ c1) (hr2 : Kd.C k64 w A2 l2.length l2) (hc2 : l2.length ≤ c2) (hr3 : Kd.C k59 w A3 l3.length l3) (hc3 : l3.length ≤ c3) (h : wheel_Together.f D S l1 l2 l3 a b = some (r0, r1)) :
  Calls Tryz.prog 32 #[.agg #[.int .i64 D, .int .i64 S], .slice A1 l1.length c1, .slice A2 l2.length c2, .slice A3 l3.length c3, .int .i64 a, .int .i64 b] w fun e w' => ∃ v0_ : Value, e = .returned (.tuple #[v0_, .int .i64 r1]) ∧ Kd.R k59 59 w' w.heap.size (fun _ => True) v0_ r0 ∧ Below w.heap.size w w' := by
 refine (callsIn_wide (n := 5)).1 ?_
 refine callsIn_of_wp_marks Tryz.func32 rfl trivial ?_ rfl
 simp only [Tryz.ntmps32, List.size_toArray, List.length_cons, List.length_nil, Nat.reduceAdd, Nat.reduceSub, Array.replicate_succ, Array.replicate_zero, List.push_toArray, List.append_toArray, List.nil_append, List.cons_append]
 by_cases he : askErr D S l1 l2 l3 [a, b] = 0
 ·by_cases hab : a = b
  ·subst hab
   have hop := fun W hB A4 c4 hr4 => asked_ok hr1 hc1 hr2 hc2 hr3 hc3 (fs := [a, a]) (by simp) he W hB A4 c4 hr4
   unfold wheel_Together.f togR at h
   rw [if_pos he, if_pos rfl] at h
   simp only [Option.some.injEq, Prod.mk.injEq] at h
   obtain ⟨rfl, rfl⟩ := h
   clear hr1 hr2 hc1 hc2 hc3 he
   gi_wp2_with (refine ⟨trivial, ?_⟩; gi_at_call 77; refine (callsIn_wide.2 (hop _ (by repeat (first | exact Below.refl _ _ | apply below_alloc)) (some ⟨w.heap.size + 1 + 1 + 1 + 1 + 1, 0, none⟩) 2 (by have := reads_int_two (((((w.alloc (.cells #[.int .i64 D, .int .i64 S] 23)).alloc (.cells #[.int .i64 a] 3)).alloc (.cells #[.int .i64 a] 3)).alloc (.cells #[.slice none 0 0] 27)).alloc (.cells #[.int .i64 0] 28)) a a; simp only [World.size_alloc] at this; exact this))).mono ?_; clear hop; rintro e W2 ⟨hb, hbw, qb, hqb, rfl, hq⟩; have x10 : Boxed _ _ _ _ := blk_below (alloc6 w _ _ _ _ _ _).2.1 hb; have x11 : Boxed _ _ _ _ := blk_below (alloc6 w _ _ _ _ _ _).2.2.1 hb; have x12 : Boxed _ _ _ _ := blk_below (alloc6 w _ _ _ _ _ _).2.2.2.1 hb; have x13 : Boxed _ _ _ _ := blk_below (alloc6 w _ _ _ _ _ _).2.2.2.2 hb; have HB2 := Aside0.mk hbw; have x10a := Boxed.alloc x10 (.cells #[.pointer (some ⟨qb, 0, none⟩)] 102); have x11a := Boxed.alloc x11 (.cells #[.pointer (some ⟨qb, 0, none⟩)] 102); have x12a := Boxed.alloc x12 (.cells #[.pointer (some ⟨qb, 0, none⟩)] 102); have x13a := Boxed.alloc x13 (.cells #[.pointer (some ⟨qb, 0, none⟩)] 102); have X12 := Aside0.mk x12a; have X13 := Aside0.mk x13a; have hc10 := And.intro x10a.cell x10a.frozen; have hc11 := And.intro x11a.cell x11a.frozen; have hc12 := And.intro x12a.cell x12a.frozen; have hc13 := And.intro x13a.cell x13a.frozen; clear hb hbw hq hqb x10 x11 x12 x13 x10a x11a x12a x13a)
   obtain ⟨q1, q2, q3, q4⟩ := set2 X12.out X13.out (by omega) (n := w.heap.size) (by omega) (by omega) (.slice none 0 0) (.int .i64 1)
   exact ⟨_, results32 rfl rfl q1 q2, _, rfl, Kd.R_nil _ _ _ _ _, (HB2.out.alloc HB2.out.size _).trans q3⟩
  ·obtain ⟨hop0, hfo⟩ := askErr_zero he
   obtain ⟨i, hia, hi⟩ := fieldOk_nat (hfo a List.mem_cons_self)
   obtain ⟨j, hjb, hj⟩ := fieldOk_nat (hfo b (List.mem_cons_of_mem _ List.mem_cons_self))
   have hop := fun W hB A4 c4 hr4 => asked_ok hr1 hc1 hr2 hc2 hr3 hc3 (fs := [a, b]) (by simp) he W hB A4 c4 hr4
   have hok := inqOk_of hop0
   obtain ⟨dss, hdss⟩ : ∃ dss, dists D l2 l3.length = dss := ⟨_, rfl⟩
   rw [hdss] at hop hok
   obtain ⟨g, hg⟩ : ∃ g : Int → List S59 × Int, g = fun c => togAt D S c l3 dss i j := ⟨_, rfl⟩
   have HCG := Aside0.mk (show ColG g by rw [hg]; exact togAt_colG hok hi hj)
   have H := Aside0.mk (show colR g (leftTo D S l1 l3 dss 1000) = (r0, r1) by
    have h2 := Option.some.inj h
    unfold togR at h2
    rw [if_pos he, if_neg hab, hdss, hia, hjb, Int.toNat_natCast, Int.toNat_natCast, ← hg] at h2
    exact h2)
   have hfa := fun (c : Int) (hc : cOk c) (qb : Nat) (W : World) hq => field_any D S c i A1 c1 l1 A3 c3 l3 dss qb W hok hc hi hq
   have hfb := fun (c : Int) (hc : cOk c) (qb : Nat) (W : World) hq => field_any D S c j A1 c1 l1 A3 c3 l3 dss qb W hok hc hj hq
   rw [← hia] at hfa
   rw [← hjb] at hfb
   have hOA := fieldAt_ok hok hi
   have hOB := fieldAt_ok hok hj
   have hge : ∀ c, g c = togAt D S c l3 dss i j := fun c => by rw [hg]
   have HGE := Aside0.mk hge
   have HFA := Aside0.mk hfa
   have HFB := Aside0.mk hfb
   have HOA := Aside0.mk hOA
   have HOB := Aside0.mk hOB
   have HOK := Aside0.mk hok
   have hab2 : (a == b) = false := by simpa using hab
   clear h hr1 hr2 hr3 hc1 hc2 hc3 he hop0 hfo hg hge hfa hfb hOA hOB hok hi hj hia hjb hdss hab
   gi_wp2_with (first | (refine ⟨trivial, ?_⟩; gi_at_call 77; refine (callsIn_wide.2 (hop _ (by repeat (first | exact Below.refl _ _ | apply below_alloc)) (some ⟨w.heap.size + 1 + 1 + 1 + 1 + 1, 0, none⟩) 2 (by have := reads_int_two (((((w.alloc (.cells #[.int .i64 D, .int .i64 S] 23)).alloc (.cells #[.int .i64 a] 3)).alloc (.cells #[.int .i64 b] 3)).alloc (.cells #[.slice none 0 0] 27)).alloc (.cells #[.int .i64 0] 28)) a b; simp only [World.size_alloc] at this; exact this))).mono ?_; clear hop; rintro e W2 ⟨hb, hbw, qb, hqb, rfl, hq⟩; have x10 : Boxed _ _ _ _ := blk_below (alloc6 w _ _ _ _ _ _).2.1 hb; have x11 : Boxed _ _ _ _ := blk_below (alloc6 w _ _ _ _ _ _).2.2.1 hb; have x12 : Boxed _ _ _ _ := blk_below (alloc6 w _ _ _ _ _ _).2.2.2.1 hb; have x13 : Boxed _ _ _ _ := blk_below (alloc6 w _ _ _ _ _ _).2.2.2.2 hb; have x10a := Boxed.alloc x10 (.cells #[.pointer (some ⟨qb, 0, none⟩)] 102); have x11a := Boxed.alloc x11 (.cells #[.pointer (some ⟨qb, 0, none⟩)] 102); have X10 := Aside0.mk x10; have X11 := Aside0.mk x11; have X12 := Aside0.mk x12; have X13 := Aside0.mk x13; have HB2 := Aside0.mk hbw; have HQ := Aside0.mk hq; have hc10 := And.intro x10a.cell x10a.frozen; have hc11 := And.intro x11a.cell x11a.frozen; clear hb hbw hqb hq x10 x11 x12 x13 x10a x11a) | (refine ⟨trivial, ?_⟩; gi_at_call 73; refine (left_in 4 qb _).mono ?_; rintro e W3 ⟨rfl, rfl⟩))
   clear hc10 hc11
   obtain ⟨Wa, hWa⟩ : ∃ Wa, W2.alloc (.cells #[.pointer (some ⟨qb, 0, none⟩)] 102) = Wa := ⟨_, rfl⟩
   have hsa : Wa.heap.size = W2.heap.size + 1 := by rw [← hWa, World.size_alloc]
   have hxq : Boxed Wa W2.heap.size 102 (.pointer (some ⟨qb, 0, none⟩)) := by rw [← hWa]; exact Boxed.new _ _ _
   have hBa : Below W2.heap.size W2 Wa := by rw [← hWa]; exact Below.alloc (Below.refl _ _) (Nat.le_refl _) _
   rw [hWa]
   obtain ⟨hs3, hbo, hbx, hB3⟩ := alloc2 Wa (.cells #[.slice none 0 0] 26) (.cells #[.pointer (some ⟨qb, 0, none⟩)] 102)
   obtain ⟨W3, hW3⟩ : ∃ W3, (Wa.alloc (.cells #[.slice none 0 0] 26)).alloc (.cells #[.pointer (some ⟨qb, 0, none⟩)] 102) = W3 := ⟨_, rfl⟩
   obtain ⟨bq, hbq⟩ : ∃ bq, W2.heap.size = bq := ⟨_, rfl⟩
   have hbc := Boxed.cell (boxed_of_blk hbx)
   have X10a : Boxed Wa (w.heap.size + 1) 3 (.int .i64 a) := blk_below X10.out hBa
   have X11a : Boxed Wa (w.heap.size + 1 + 1) 3 (.int .i64 b) := blk_below X11.out hBa
   have X12a : Boxed Wa (w.heap.size + 1 + 1 + 1) 27 (.slice none 0 0) := blk_below X12.out hBa
   have X13a : Boxed Wa (w.heap.size + 1 + 1 + 1 + 1) 28 (.int .i64 0) := blk_below X13.out hBa
   have hw2 := HB2.out.size
   have hba2 := HB2.out.trans (hBa.mono hw2)
   have hlt13 := blk_lt X13.out
   rw [hW3] at hs3 hbo hB3 hbc ⊢
   have HIa := Aside0.mk (HQ.out.below hBa)
   rw [hbq] at hsa hxq hBa hw2 hlt13 ⊢
   rw [hsa] at hs3 hbo hbc hB3
   have HB3 := Aside0.mk hB3
   have HBA := Aside0.mk hba2
   have HXQ := Aside0.mk hxq
   have HX10 := Aside0.mk X10a
   have HX11 := Aside0.mk X11a
   have HX12 := Aside0.mk X12a
   have HX13 := Aside0.mk X13a
   have HSA := Aside0.mk hsa
   clear hWa hW3 hbx hbq hB3 hba2 hxq X10a X11a X12a X13a X10 X11 X12 X13 hBa HQ
   refine wpIn_rangeLeft (bq + 1 + 1) qb W3.heap.size (D := D) (S := S) (A1 := A1) (c1 := c1) (l1 := l1) (A3 := A3) (c3 := c3) (l3 := l3) (dss := dss) rfl rfl HOK.out
    (fun c W => ColI Wa (bq + 1 + 1) qb (bq + 1) W3.heap.size (colS g D S l1 l3 dss) c W ∧ colOk g D S l1 l3 dss c)
    (fun code W => code = .ret ∧ colR g (leftTo D S l1 l3 dss 1000) = ([], 2) ∧ Boxed W (w.heap.size + 1 + 1 + 1) 27 (.slice none 0 0) ∧ Boxed W (w.heap.size + 1 + 1 + 1 + 1) 28 (.int .i64 2) ∧ Below w.heap.size w W)
    (OwnFrom.and (ColI.own _ _ _ _ _ _ (by omega)) (ownFrom_pure _ _))
    (fun c => OwnFrom.and (ownFrom_pure _ (fun _ => c = .ret)) (OwnFrom.and (ownFrom_pure _ (fun _ => _)) (OwnFrom.and ((boxed_own _ _ (fun _ => _)).from _) (OwnFrom.and ((boxed_own _ _ (fun _ => _)).from _) (ownFrom_below (Nat.le_refl _) (by omega))))))
    (fun c W h => ⟨h.1.2.2.1, h.1.2.1, HIa.out.below h.1.1⟩)
    (fun c W g1 g2 h hn => ⟨⟨h.1.1, h.1.2.1, h.1.2.2.1, by rw [(colS_skip g1 hn).1]; exact h.1.2.2.2⟩, (colS_skip g1 hn).2 h.2⟩)
    ⟨⟨HB3.out.mono (by omega), hbc, Nat.le_refl _, _, hbo, Kd.R_nil _ _ _ _ _⟩, fun p hp => by simp [leftTo] at hp⟩ ?a1 ?assign ?body ?done ?stop
   case assign =>
    intro l c v W K hK
    gi_wp2
    exact hK
   case body =>
    rintro l c ar v W hl g1 g2 ⟨⟨hB, hcx, hsz, vo, hvo, hRo⟩, hcok⟩ hf hr
    have hcallA := HFA.out c ⟨g1, g2⟩ qb W (HIa.out.below hB)
    have x10 := Boxed.below HX10.out hB
    have x11 := Boxed.below HX11.out hB
    have xq := Boxed.below HXQ.out hB
    have x12 := Boxed.below HX12.out hB
    have x13 := Boxed.below HX13.out hB
    have hc10 := And.intro x10.cell x10.frozen
    have hcq := And.intro xq.cell xq.frozen
    have Y11 := Aside0.mk x11
    have YQ := Aside0.mk xq
    have Y12 := Aside0.mk x12
    have Y13 := Aside0.mk x13
    have HX := Aside0.mk hcx
    have HBW := Aside0.mk hB
    have HVO := Aside0.mk hvo
    have HRO := Aside0.mk hRo
    have HF := Aside0.mk hf
    have HOKC := Aside0.mk hcok
    have HIW := Aside0.mk (fun (W4 : World) (hb : Below W.heap.size W W4) => HFB.out c ⟨g1, g2⟩ qb W4 ((HIa.out.below hB).below hb))
    have HLEN := Aside0.mk (colS_len HCG.out D S l1 l3 dss c (by omega))
    obtain ⟨Ao, co, rfl⟩ := Kd.R_slice hRo
    have hgc := HGE.out c
    have hgb := HCG.out c ⟨g1, g2⟩
    unfold togAt at hgc
    have hoa := HOA.out c
    have hob := HOB.out c
    have hsA := fitR_cases D S c l3 dss i
    have hsB := fitR_cases D S c l3 dss j
    obtain ⟨ga, ea, hga⟩ : ∃ ga ea, fieldAt D S c l3 dss i = (ga, ea) := ⟨_, _, rfl⟩
    obtain ⟨gb, eb, hgb2⟩ : ∃ gb eb, fieldAt D S c l3 dss j = (gb, eb) := ⟨_, _, rfl⟩
    have HIW2 := Aside0.mk (show ∀ (W4 : World), Below W.heap.size W W4 → Calls Tryz.prog 78 #[.pointer (some ⟨qb, 0, none⟩), .int .i64 b, .int .i64 c] W4 fun e w' => ∃ v0 : Value, e = .returned (.tuple #[v0, .int .i64 eb]) ∧ Kd.R k59 59 w' W4.heap.size (fun _ => True) v0 gb ∧ Below W4.heap.size W4 w' by
     have h0 := HIW.out
     rw [hgb2] at h0
     exact h0)
    rw [hga] at hcallA hoa hsA hgc
    rw [hgb2] at hob hsB hgc
    simp only at hcallA hoa hob hsA hsB hgc
    have HOAc := Aside0.mk hoa
    have HOBc := Aside0.mk hob
    have HGC := Aside0.mk hgc
    clear x10 x11 xq x12 x13 hcx hB hvo hRo hf hcok hr hbc hbo hga hgb2 hgc hoa hob HIW
    rcases hsA with rfl | rfl
    ·rcases hsB with rfl | rfl
     ·have HSUM := Aside0.mk (fun (W5 : World) Ar cr (h1 : Kd.C k59 W5 Ar ga.length ga) (h2 : ga.length ≤ cr) As cs (h3 : Kd.C k59 W5 As gb.length gb) (h4 : gb.length ≤ cs) => sum_any Ar cr ga As cs gb W5 h1 h2 h3 h4 HOAc.out.1 HOBc.out.1 (sumP_in HOAc.out.1.inn HOBc.out.1.inn HOAc.out.2 HOBc.out.2))
      have hgc := HGC.out
      rw [if_pos rfl, if_pos rfl] at hgc
      obtain ⟨gs, ge, hgs⟩ : ∃ gs ge, sumR ga gb = (gs, ge) := ⟨_, _, rfl⟩
      rw [hgs] at hgc
      have hge := hgb
      rw [hgc] at hge
      simp only at hge
      have HSUM2 := Aside0.mk (show ∀ (W5 : World) (Ar : Option Addr) (cr : Nat), Kd.C k59 W5 Ar ga.length ga → ga.length ≤ cr → ∀ (As : Option Addr) (cs : Nat), Kd.C k59 W5 As gb.length gb → gb.length ≤ cs → Calls Tryz.prog 83 #[.slice Ar ga.length cr, .slice As gb.length cs] W5 fun e w' => ∃ v0 : Value, e = .returned (.tuple #[v0, .int .i64 ge]) ∧ Kd.R k59 59 w' W5.heap.size (fun _ => True) v0 gs ∧ Below W5.heap.size W5 w' by
       have h0 := HSUM.out
       rw [hgs] at h0
       exact h0)
      have HGG := Aside0.mk hgc
      clear HSUM hgs hgc hgb HGC
      rcases hge with ⟨rfl | rfl, hg64, hgin⟩
      ·gi_wp2_with (first | (refine ⟨trivial, ?_⟩; gi_at_call 78; refine (CallsIn.inRound l (callsIn_wide.2 hcallA)).mono ?_; clear hcallA; rintro e W4 ⟨v0, rfl, hR0, hb⟩; obtain ⟨Ar, cr, rfl⟩ := Kd.R_slice hR0; have hcallB := HIW2.out W4 hb; have z11 := Boxed.below Y11.out hb; have zq := Boxed.below YQ.out hb; have RA := Aside0.mk hR0; have HBb4 := Aside0.mk hb; have hc11 := And.intro z11.cell z11.frozen; have hcq4 := And.intro zq.cell zq.frozen; clear z11 zq hR0 hb) | (refine ⟨trivial, ?_⟩; gi_at_call 78; refine (CallsIn.inRound l (callsIn_wide.2 hcallB)).mono ?_; clear hcallB; rintro e W5 ⟨v1, rfl, hR1, hb⟩; obtain ⟨As, cs, rfl⟩ := Kd.R_slice hR1; have hcallS := HSUM2.out W5 Ar cr (Kd.C_below (Kd.R_reads' RA.out).2.2 hb) (Kd.R_reads' RA.out).2.1 As cs (Kd.R_reads' hR1).2.2 (Kd.R_reads' hR1).2.1; have HBb5 := Aside0.mk (below_weaken HBb4.out HBb4.out.size hb); clear hR1 hb) | (refine ⟨trivial, ?_⟩; gi_at_call 83; refine (CallsIn.inRound l (callsIn_wide.2 hcallS)).mono ?_; clear hcallS; rintro e W6 ⟨v2, rfl, hR2, hb6⟩; obtain ⟨A2s, c2s, rfl⟩ := Kd.R_slice hR2; have hb := below_weaken HBb5.out HBb5.out.size hb6; have zb := Boxed.below HVO.out hb; have zr := Kd.R_below HRO.out hb; have ZB := Aside0.mk zb; have ZR := Aside0.mk zr; have R0 := Aside0.mk hR2; have HBb := Aside0.mk hb; have hcb := And.intro zb.cell zb.frozen; have hsz6 := Nat.le_trans hsz hb.size; clear zb zr hR2 hb hb6) | (gi_at_builtin; refine wpListIn_append_R k59 (W := W6) W3.heap.size rfl (.tmp 72) (.tmp 73) 26 27 59 (.agg #[.int .i64 0, .int .i64 0]) 16 rfl Tryz.underlying26 Tryz.underlying27 info59 rfl (by decide) (by omega) (.slice Ao (colS g D S l1 l3 dss c).length co) (colS g D S l1 l3 dss c) gs A2s gs.length c2s (fun _ => True) (fun _ => False) rfl rfl ZR.out (Kd.R_reads' R0.out).2.2 (fun x cs h => by rw [k59_open h]; exact k59_mkM _ _ _ _) (fun k h => h.elim) (fun _ _ => trivial) hsz6 (by have := HLEN.out; omega) ?_; intro v1 w1 hR1 hg1 hat1; obtain ⟨ys, hys⟩ : ∃ ys, ys = colS g D S l1 l3 dss c ++ gs := ⟨_, rfl⟩; rw [← hys] at hR1; have HYS := Aside0.mk hys; clear hys; obtain ⟨Av, cv, rfl⟩ := Kd.R_slice hR1; have hq := collect_step ZB.out (by omega) hsz6 ZR.out hR1 hg1; have HC := Aside0.mk hq.2; have hc1 := And.intro hq.1.cell hq.1.frozen; clear hq hR1 hg1 hat1))
       obtain ⟨q2, q3, q4, q5, q6⟩ := HC.out
       have hw4 := HBW.out.trans (HBb.out.mono HBW.out.size)
       refine ⟨((keeps_of_below HBb.out).trans q4).from _, ⟨hw4.trans (q5.mono (by omega)), (World.cell?_of_block (q6 (bq + 1 + 1) (by omega) (by omega))).trans (pw_cell_below HBb.out HX.out), Nat.le_trans hsz6 q4.size, _, q2, ?_⟩, ?_⟩
       ·rw [(colS_step g1 HF.out).1, HGG.out]
        show Kd.R k59 59 _ _ _ _ (colS g D S l1 l3 dss c ++ gs)
        rw [← HYS.out]
        exact q3
       ·exact (colS_step g1 HF.out).2 HOKC.out (by rw [HGG.out])
      ·gi_wp2_with (first | (refine ⟨trivial, ?_⟩; gi_at_call 78; refine (CallsIn.inRound l (callsIn_wide.2 hcallA)).mono ?_; clear hcallA; rintro e W4 ⟨v0, rfl, hR0, hb⟩; obtain ⟨Ar, cr, rfl⟩ := Kd.R_slice hR0; have hcallB := HIW2.out W4 hb; have z11 := Boxed.below Y11.out hb; have zq := Boxed.below YQ.out hb; have RA := Aside0.mk hR0; have HBb4 := Aside0.mk hb; have hc11 := And.intro z11.cell z11.frozen; have hcq4 := And.intro zq.cell zq.frozen; clear z11 zq hR0 hb) | (refine ⟨trivial, ?_⟩; gi_at_call 78; refine (CallsIn.inRound l (callsIn_wide.2 hcallB)).mono ?_; clear hcallB; rintro e W5 ⟨v1, rfl, hR1, hb⟩; obtain ⟨As, cs, rfl⟩ := Kd.R_slice hR1; have hcallS := HSUM2.out W5 Ar cr (Kd.C_below (Kd.R_reads' RA.out).2.2 hb) (Kd.R_reads' RA.out).2.1 As cs (Kd.R_reads' hR1).2.2 (Kd.R_reads' hR1).2.1; have HBb5 := Aside0.mk (below_weaken HBb4.out HBb4.out.size hb); clear hR1 hb) | (refine ⟨trivial, ?_⟩; gi_at_call 83; refine (CallsIn.inRound l (callsIn_wide.2 hcallS)).mono ?_; clear hcallS; rintro e W6 ⟨v2, rfl, hR2, hb6⟩; obtain ⟨A2s, c2s, rfl⟩ := Kd.R_slice hR2; have hb := below_weaken HBb5.out HBb5.out.size hb6; have z12 := Boxed.below Y12.out hb; have z13 := Boxed.below Y13.out hb; have Z12 := Aside0.mk z12; have Z13 := Aside0.mk z13; have HBb := Aside0.mk hb; have hc12 := And.intro z12.cell z12.frozen; have hc13 := And.intro z13.cell z13.frozen; clear z12 z13 hR2 hb hb6))
       obtain ⟨q1, q2, q3, q4⟩ := set2 Z12.out Z13.out (by omega) (n := w.heap.size) (by omega) (by omega) (.slice none 0 0) (.int .i64 2)
       exact ⟨((keeps_of_below HBb.out).trans q4).from _, rfl, colR_err g1 g2 HF.out (by rw [HGG.out]; show (2 : Int) ≠ 0; decide), q1, q2, (below_weaken (below_weaken HBA.out HBA.out.size HBW.out) (by have := HBA.out.size; have := HBW.out.size; omega) HBb.out).trans q3⟩
     ·have HGG := Aside0.mk (show (g c).2 ≠ 0 by rw [HGC.out, if_pos rfl, if_neg (by decide)]; show (2 : Int) ≠ 0; decide)
      clear HGC hgb
      gi_wp2_with (first | (refine ⟨trivial, ?_⟩; gi_at_call 78; refine (CallsIn.inRound l (callsIn_wide.2 hcallA)).mono ?_; clear hcallA; rintro e W4 ⟨v0, rfl, hR0, hb⟩; obtain ⟨Ar, cr, rfl⟩ := Kd.R_slice hR0; have hcallB := HIW2.out W4 hb; have z11 := Boxed.below Y11.out hb; have zq := Boxed.below YQ.out hb; have HBb4 := Aside0.mk hb; have hc11 := And.intro z11.cell z11.frozen; have hcq4 := And.intro zq.cell zq.frozen; clear z11 zq hR0 hb) | (refine ⟨trivial, ?_⟩; gi_at_call 78; refine (CallsIn.inRound l (callsIn_wide.2 hcallB)).mono ?_; clear hcallB; rintro e W6 ⟨v1, rfl, hR1, hb5⟩; obtain ⟨As, cs, rfl⟩ := Kd.R_slice hR1; have hb := below_weaken HBb4.out HBb4.out.size hb5; have z12 := Boxed.below Y12.out hb; have z13 := Boxed.below Y13.out hb; have Z12 := Aside0.mk z12; have Z13 := Aside0.mk z13; have HBb := Aside0.mk hb; have hc12 := And.intro z12.cell z12.frozen; have hc13 := And.intro z13.cell z13.frozen; clear z12 z13 hR1 hb hb5))
      obtain ⟨q1, q2, q3, q4⟩ := set2 Z12.out Z13.out (by omega) (n := w.heap.size) (by omega) (by omega) (.slice none 0 0) (.int .i64 2)
      exact ⟨((keeps_of_below HBb.out).trans q4).from _, rfl, colR_err g1 g2 HF.out HGG.out, q1, q2, (below_weaken (below_weaken HBA.out HBA.out.size HBW.out) (by have := HBA.out.size; have := HBW.out.size; omega) HBb.out).trans q3⟩
    ·have HGG := Aside0.mk (show (g c).2 ≠ 0 by rw [HGC.out, if_neg (by decide)]; show (2 : Int) ≠ 0; decide)
     clear HGC hgb hsB
     gi_wp2_with (refine ⟨trivial, ?_⟩; gi_at_call 78; refine (CallsIn.inRound l (callsIn_wide.2 hcallA)).mono ?_; clear hcallA; rintro e W4 ⟨v0, rfl, hR0, hb⟩; obtain ⟨Ar, cr, rfl⟩ := Kd.R_slice hR0; have z12 := Boxed.below Y12.out hb; have z13 := Boxed.below Y13.out hb; have Z12 := Aside0.mk z12; have Z13 := Aside0.mk z13; have HBb := Aside0.mk hb; have hc12 := And.intro z12.cell z12.frozen; have hc13 := And.intro z13.cell z13.frozen; clear z12 z13 hR0 hb)
     obtain ⟨q1, q2, q3, q4⟩ := set2 Z12.out Z13.out (by omega) (n := w.heap.size) (by omega) (by omega) (.slice none 0 0) (.int .i64 2)
     exact ⟨((keeps_of_below HBb.out).trans q4).from _, rfl, colR_err g1 g2 HF.out HGG.out, q1, q2, (below_weaken (below_weaken HBA.out HBA.out.size HBW.out) (by have := HBA.out.size; have := HBW.out.size; omega) HBb.out).trans q3⟩
   case done =>
    rintro E W hE ⟨⟨hB, hcx, hsz, vo, hvo, hRo⟩, hcok⟩ hK
    have x12 := Boxed.below HX12.out hB
    have x13 := Boxed.below HX13.out hB
    have Y12 := Aside0.mk x12
    have Y13 := Aside0.mk x13
    have hvc := And.intro hvo.cell hvo.frozen
    have hj := joined_any W3.heap.size _ vo _ W hRo hsz (colS_in HCG.out D S l1 l3 dss 1001 (by omega)) (Nat.le_trans (colS_len HCG.out D S l1 l3 dss 1001 (by omega)) (by omega))
    have e1 := H.out
    rw [colR_ok hcok] at e1
    rw [e1] at hj
    obtain ⟨Ao, co, rfl⟩ := Kd.R_slice hRo
    have HBW := Aside0.mk hB
    have HK := Aside0.mk hK
    have HSZ := Aside0.mk hsz
    clear e1 hcx hB hvo hRo hK hbc hbo hcok x12 x13 hsz
    gi_wp2_with (refine ⟨trivial, ?_⟩; gi_at_call 75; refine (callsIn_wide.2 hj).mono ?_; clear hj; rintro e W4 ⟨v0, rfl, h0, hb0, hk0⟩; have H0 := Aside0.mk h0; have HB0 := Aside0.mk hb0; have hK2 := Aside0.mk (hk0.same E _ HK.out rfl); obtain ⟨A0, c0, rfl⟩ := Kd.R_slice h0; have z12 : Boxed _ _ _ _ := (hb0.block _ (by have := blk_lt HX12.out; omega)).trans Y12.out; have z13 : Boxed _ _ _ _ := (hb0.block _ (by have := blk_lt HX13.out; omega)).trans Y13.out; have Z12 := Aside0.mk z12; have Z13 := Aside0.mk z13; have hc12 := And.intro z12.cell z12.frozen; have hc13 := And.intro z13.cell z13.frozen; clear h0 hb0 hk0 z12 z13)
    obtain ⟨q1, q2, q3, q4⟩ := set2 Z12.out Z13.out (by omega) (n := w.heap.size) (by omega) (by omega) (.slice A0 r0.length c0) (.int .i64 r1)
    have hK3 := q4.same E _ hK2.out rfl
    have hww := HBA.out.size
    have hww2 := HBW.out.size
    have hww3 := HB0.out.size
    have hbw := ((below_weaken (below_weaken HBA.out hww HBW.out) (by omega) HB0.out).trans q3)
    have hRs := R_set2 H0.out (n := w.heap.size + 1 + 1 + 1) (m := w.heap.size + 1 + 1 + 1 + 1) (by have := HSZ.out; omega) (by have := HSZ.out; omega) (.slice A0 r0.length c0) (.int .i64 r1)
    exact ⟨by simp, .inl ⟨_, _, rfl, run_takeDeferred hK3, _, results32 rfl rfl (Boxed.putDef q1 hK3 _) (Boxed.putDef q2 hK3 _), _, rfl, Kd.R_lower (R_putLoop hRs hK3 rfl _) (by omega), below_putDef hbw hbw.size (by omega) _⟩⟩
   case stop =>
    rintro E c W hE ⟨rfl, h1, h2, h3, h4⟩ hK
    have e1 := H.out
    rw [h1] at e1
    simp only [Prod.mk.injEq] at e1
    obtain ⟨rfl, rfl⟩ := e1
    gi_wp2
    exact ⟨by simp, .inl ⟨_, _, rfl, run_takeDeferred hK, _, results32 rfl rfl (Boxed.putDef h2 hK _) (Boxed.putDef h3 hK _), _, rfl, Kd.R_nil _ _ _ _ _, below_putDef h4 h4.size (by omega) _⟩⟩
 ·have hop := fun W hB A4 c4 hr4 => asked_err hr1 hc1 hr2 hc2 hr3 hc3 (fs := [a, b]) (by simp) he W hB A4 c4 hr4
  unfold wheel_Together.f togR at h
  rw [if_neg he] at h
  simp only [Option.some.injEq, Prod.mk.injEq] at h
  obtain ⟨rfl, hr3⟩ := h
  rw [hr3] at hop he
  clear hr3 hr1 hr2 hc1 hc2 hc3
  gi_wp2_with (refine ⟨trivial, ?_⟩; gi_at_call 77; refine (callsIn_wide.2 (hop _ (by repeat (first | exact Below.refl _ _ | apply below_alloc)) (some ⟨w.heap.size + 1 + 1 + 1 + 1 + 1, 0, none⟩) 2 (by have := reads_int_two (((((w.alloc (.cells #[.int .i64 D, .int .i64 S] 23)).alloc (.cells #[.int .i64 a] 3)).alloc (.cells #[.int .i64 b] 3)).alloc (.cells #[.slice none 0 0] 27)).alloc (.cells #[.int .i64 0] 28)) a b; simp only [World.size_alloc] at this; exact this))).mono ?_; clear hop; rintro e W2 ⟨rfl, hb, hbw⟩; have x12 : Boxed _ _ _ _ := blk_below (alloc6 w _ _ _ _ _ _).2.2.2.1 hb; have x13 : Boxed _ _ _ _ := blk_below (alloc6 w _ _ _ _ _ _).2.2.2.2 hb; have HB2 := Aside0.mk hbw; have x12a := Boxed.alloc x12 (.cells #[.pointer none] 102); have x13a := Boxed.alloc x13 (.cells #[.pointer none] 102); have X12 := Aside0.mk x12a; have X13 := Aside0.mk x13a; have hc12 := And.intro x12a.cell x12a.frozen; have hc13 := And.intro x13a.cell x13a.frozen; clear hb hbw x12 x13 x12a x13a)
  obtain ⟨q1, q2, q3, q4⟩ := set2 X12.out X13.out (by omega) (n := w.heap.size) (by omega) (by omega) (.slice none 0 0) (.int .i64 r1)
  exact ⟨_, results32 rfl rfl q1 q2, _, rfl, Kd.R_nil _ _ _ _ _, (HB2.out.alloc HB2.out.size _).trans q3⟩
end Go.Proofs.YtgakfgedaipdmaaGreatDoor.P
