/- A part of the proof. -/
import Derived.Test.YtgakfgedaipdmaaGreatDoorQ06
import Derived.Deep.RegionHeld3
namespace Go.Proofs.YtgakfgedaipdmaaGreatDoor.P
open Go.RowKit Go.Shelf Go.Proofs.YtgakfgedaipdmaaGreatDoorW.PrintWords Go.Proofs.YtgakfgedaipdmaaGreatDoorW.PrintLast Go.Proofs.YtgakfgedaipdmaaGreatDoorW.PrintMore
attribute [local go_sem] max2_int min2_int max_two min_two max_three min_three max_four min_four
set_option linter.unusedVariables false
set_option linter.unusedSimpArgs false
end Go.Proofs.YtgakfgedaipdmaaGreatDoor.P
namespace Go.Proofs.YtgakfgedaipdmaaGreatDoor.P
open Go.RowKit Go.Proofs.YtgakfgedaipdmaaGreatDoorW.PrintWords Go.Proofs.YtgakfgedaipdmaaGreatDoorW.PrintLast Go.Proofs.YtgakfgedaipdmaaGreatDoorW.PrintMore
set_option linter.unusedVariables false
set_option linter.unusedSimpArgs false
def SpIn (s : S59) : Prop := -1099511627776 ≤ s.f0 ∧ s.f0 ≤ s.f1 ∧ s.f1 ≤ 1099511627776
theorem SpIn.b {s : S59} (h : SpIn s) : SpB s := by
 obtain ⟨h1, h2, h3⟩ := h
 exact ⟨by omega, by omega⟩
def fitR (o : List S59) : List S59 × Int := if 64 < o.length then ([], 2) else (o, 0)
def joinR (l : List S59) : List S59 × Int := fitR (canonOf l)
theorem last_idx (y : S59) (r : List S59) (h : r.length < 1000000000000000) : wrap64 ((((y :: r).reverse).length : Int) - 1) = (r.length : Int) := by
 rw [List.length_reverse, List.length_cons, wrap64_id (by omega) (by omega)]
 omega
theorem rd_last (y : S59) (r : List S59) : rd_T59 ((y :: r).reverse) (r.length : Int) = y := by
 unfold rd_T59
 rw [Int.toNat_natCast, List.reverse_cons, List.getD_eq_getElem?_getD, List.getElem?_append_right (by simp), List.length_reverse, Nat.sub_self]
 rfl
theorem set_last (y v : S59) (r : List S59) : ((y :: r).reverse).set ((r.length : Int)).toNat v = (v :: r).reverse := by
 rw [Int.toNat_natCast, List.reverse_cons, List.reverse_cons, List.set_append_right _ _ (by simp), List.length_reverse, Nat.sub_self]
 rfl
theorem mx_max (a b : Int) : mx a b = max a b := by
 unfold mx
 split <;> omega
theorem jstep_nil (x : S59) : jstep [] x = [x] := rfl
theorem jstep_cons (y : S59) (r : List S59) (x : S59) : jstep (y :: r) x = if x.f0 ≤ y.f1 + 1 then ⟨y.f0, max y.f1 x.f1⟩ :: r else x :: y :: r := rfl
theorem jstep_len (o : List S59) (x : S59) : (jstep o x).length ≤ o.length + 1 := by
 cases o with
 |nil => simp [jstep]
 |cons y r => rw [jstep_cons]; split <;> simp
theorem jstep_bd {o : List S59} {x : S59} (ho : ∀ s ∈ o, SpIn s) (hx : SpIn x) : ∀ s ∈ jstep o x, SpIn s := by
 cases o with
 |nil => intro s hs; rw [jstep_nil] at hs; rw [List.mem_singleton.1 hs]; exact hx
 |cons y r =>
  intro s hs
  rw [jstep_cons] at hs
  have hy := ho y List.mem_cons_self
  split at hs
  ·rcases List.mem_cons.1 hs with rfl | hs
   ·obtain ⟨h1, h2, h3⟩ := hy
    obtain ⟨g1, g2, g3⟩ := hx
    exact ⟨h1, by show y.f0 ≤ max y.f1 x.f1; omega, by show max y.f1 x.f1 ≤ _; omega⟩
   ·exact ho s (List.mem_cons_of_mem _ hs)
  ·rcases List.mem_cons.1 hs with rfl | hs
   ·exact hx
   ·exact ho s hs
theorem drop_getD {α : Type} (l : List α) (i : Nat) (h : i < l.length) (d : α) : l.drop i = l.getD i d :: l.drop (i + 1) := by
 rw [List.drop_eq_getElem_cons h, List.getD_eq_getElem?_getD, List.getElem?_eq_getElem h]
 rfl
theorem joined_step (k : Nat) (l o : List S59) (i : Nat) (hi : i < l.length) (hlen : l.length ≤ 1000000000) (hl : ∀ s ∈ l, SpIn s) (ho : ∀ s ∈ o, SpIn s) (hol : o.length ≤ i) :
  wheel_joined.l0 (k + 1) o.reverse l (l.length : Int) (i : Int) = wheel_joined.l0 k (jstep o (l.getD i z59)).reverse l (l.length : Int) ((i + 1 : Nat) : Int) := by
 have hx : rd_T59 l (i : Int) = l.getD i z59 := by unfold rd_T59; rw [Int.toNat_natCast]
 have hw : wrap64 ((i : Int) + 1) = ((i + 1 : Nat) : Int) := by rw [wrap64_id (by omega) (by omega)]; omega
 have hmem : l.getD i z59 ∈ l := by rw [List.getD_eq_getElem?_getD, List.getElem?_eq_getElem hi]; exact List.getElem_mem hi
 have hxb := hl _ hmem
 generalize hxx : l.getD i z59 = x at hx hxb
 rw [wheel_joined.l0]
 rw [if_pos (by omega), if_pos (by omega), if_pos (by omega), hx, hw]
 cases o with
 |nil =>
  rw [if_neg (by simp), if_pos (by simp)]
  rfl
 |cons y r =>
  have hy := ho y List.mem_cons_self
  have hr : r.length < 1000000000000000 := by simp at hol; omega
  rw [if_pos (by simp <;> omega), last_idx y r hr, if_pos (by omega), if_pos (by simp; omega), rd_last, set_last, jstep_cons, mx_max, wrap64_id (by have := hy.1; have := hy.2.1; omega) (by have := hy.2.2; omega)]
  by_cases hc : x.f0 ≤ y.f1 + 1
  ·rw [if_pos hc, if_pos hc]
  ·rw [if_neg (by omega), if_neg hc, if_pos (by simp; simp at hol; omega)]
   congr 1
   simp
theorem joined_end (k : Nat) (l o : List S59) : wheel_joined.l0 (k + 1) o.reverse l (l.length : Int) (l.length : Int) = some (fitR o.reverse) := by
 rw [wheel_joined.l0, if_neg (by omega)]
 unfold fitR
 by_cases h : 64 < o.reverse.length
 ·rw [if_pos (by omega), if_pos h]
 ·rw [if_neg (by omega), if_neg h]
theorem joined_loop (l : List S59) (hlen : l.length ≤ 1000000000) (hl : ∀ s ∈ l, SpIn s) : ∀ (m i k : Nat) (o : List S59), i + m = l.length → (∀ s ∈ o, SpIn s) → o.length ≤ i →
  wheel_joined.l0 (k + m + 1) o.reverse l (l.length : Int) (i : Int) = some (fitR ((l.drop i).foldl jstep o).reverse)
 |0, i, k, o, hi, ho, hol => by
  obtain rfl : i = l.length := by omega
  rw [List.drop_length]
  exact joined_end _ _ _
 |m + 1, i, k, o, hi, ho, hol => by
  have hil : i < l.length := by omega
  rw [show k + (m + 1) + 1 = (k + m + 1) + 1 by omega, joined_step _ _ _ _ hil hlen hl ho hol, joined_loop l hlen hl m (i + 1) k _ (by omega) (jstep_bd ho (hl _ (by rw [List.getD_eq_getElem?_getD, List.getElem?_eq_getElem hil]; exact List.getElem_mem hil))) (by have := jstep_len o (l.getD i z59); omega), drop_getD l i hil z59]
  rfl
theorem wheel_joined.eval {l l' : List S59} (hlen : l.length ≤ 1000000000) (hl : ∀ s ∈ l, SpIn s) (hp : l'.Perm l) (hby : ByLo l') : wheel_joined.f (l.length + 1) l' = some (joinR l) := by
 have hll : l'.length = l.length := hp.length_eq
 have h := joined_loop l' (by omega) (fun s hs => hl s (hp.mem_iff.1 hs)) l'.length 0 0 [] (by omega) (by simp) (by simp)
 unfold wheel_joined.f joinR
 rw [← jfold_eq (fun s hs => (hl s hs).2.1) hp hby, ← hll]
 simpa [jfold] using h
theorem area_ok {a : Int} (h : -1099511627776 ≤ a ∧ a ≤ 1099511627776) : ranges_area.f a = some true := by
 unfold ranges_area.f ranges_in.f
 rw [if_pos h.1]
 simp [h.2]
theorem gathered_step (k : Nat) (l o : List S59) (i : Nat) (hi : i < l.length) (hlen : l.length ≤ 1000000000) (hl : ∀ s ∈ l, SpIn s) (ho : ∀ s ∈ o, SpIn s) (hol : o.length ≤ i) :
  ranges_gathered.l0 (k + 1 + 1) o.reverse l (l.length : Int) (i : Int) = ranges_gathered.l0 k (jstep o (l.getD i z59)).reverse l (l.length : Int) ((i + 1 : Nat) : Int) := by
 have hx : rd_T59 l (i : Int) = l.getD i z59 := by unfold rd_T59; rw [Int.toNat_natCast]
 have hw : wrap64 ((i : Int) + 1) = ((i + 1 : Nat) : Int) := by rw [wrap64_id (by omega) (by omega)]; omega
 have hmem : l.getD i z59 ∈ l := by rw [List.getD_eq_getElem?_getD, List.getElem?_eq_getElem hi]; exact List.getElem_mem hi
 have hxb := hl _ hmem
 generalize hxx : l.getD i z59 = x at hx hxb
 rw [ranges_gathered.l0]
 rw [if_pos (by omega), if_pos (by omega), if_pos (by omega), hx, area_ok ⟨hxb.1, by have := hxb.2; omega⟩, Option.bind_some, if_pos rfl, area_ok ⟨by have := hxb.1; have := hxb.2.1; omega, hxb.2.2⟩, Option.bind_some, ranges_gathered.j1, hw, if_neg (by simp)]
 cases o with
 |nil =>
  rw [if_neg (by simp), if_pos (by simp)]
  rfl
 |cons y r =>
  have hy := ho y List.mem_cons_self
  have hr : r.length < 1000000000000000 := by simp at hol; omega
  rw [if_pos (by simp <;> omega), last_idx y r hr, if_pos (by omega), if_pos (by simp; omega), rd_last, set_last, jstep_cons, mx_max, wrap64_id (by have := hy.1; have := hy.2.1; omega) (by have := hy.2.2; omega)]
  by_cases hc : x.f0 ≤ y.f1 + 1
  ·rw [if_pos hc, if_pos hc]
  ·rw [if_neg (by omega), if_neg hc, if_pos (by simp; simp at hol; omega)]
   congr 1
   simp
theorem gathered_end (k : Nat) (l o : List S59) : ranges_gathered.l0 (k + 1) o.reverse l (l.length : Int) (l.length : Int) = some (fitR o.reverse) := by
 rw [ranges_gathered.l0, if_neg (by omega)]
 unfold fitR
 by_cases h : 64 < o.reverse.length
 ·rw [if_pos (by omega), if_pos h]
 ·rw [if_neg (by omega), if_neg h]
theorem gathered_loop (l : List S59) (hlen : l.length ≤ 1000000000) (hl : ∀ s ∈ l, SpIn s) : ∀ (m i k : Nat) (o : List S59), i + m = l.length → (∀ s ∈ o, SpIn s) → o.length ≤ i →
  ranges_gathered.l0 (k + 2 * m + 1) o.reverse l (l.length : Int) (i : Int) = some (fitR ((l.drop i).foldl jstep o).reverse)
 |0, i, k, o, hi, ho, hol => by
  obtain rfl : i = l.length := by omega
  rw [List.drop_length]
  exact gathered_end _ _ _
 |m + 1, i, k, o, hi, ho, hol => by
  have hil : i < l.length := by omega
  rw [show k + 2 * (m + 1) + 1 = (k + 2 * m + 1) + 1 + 1 by omega, gathered_step _ _ _ _ hil hlen hl ho hol, gathered_loop l hlen hl m (i + 1) k _ (by omega) (jstep_bd ho (hl _ (by rw [List.getD_eq_getElem?_getD, List.getElem?_eq_getElem hil]; exact List.getElem_mem hil))) (by have := jstep_len o (l.getD i z59); omega), drop_getD l i hil z59]
  rfl
theorem ranges_gathered.eval {l l' : List S59} (hlen : l.length ≤ 1000000000) (hl : ∀ s ∈ l, SpIn s) (hp : l'.Perm l) (hby : ByLo l') : ranges_gathered.f (2 * l.length + 1) l' = some (joinR l) := by
 have hll : l'.length = l.length := hp.length_eq
 have h := gathered_loop l' (by omega) (fun s hs => hl s (hp.mem_iff.1 hs)) l'.length 0 0 [] (by omega) (by simp) (by simp)
 unfold ranges_gathered.f joinR
 rw [← jfold_eq (fun s hs => (hl s hs).2.1) hp hby, ← hll]
 simpa [jfold] using h
attribute [local go_sem] max2_int min2_int max_two min_two max_three min_three max_four min_four
mutual
def wheel_dial_areas.l0 : Nat → List Int → Int → List (S59) → Int → Int → Int → Int → Int → Option ((List (S59)) × Int)
  | 0, _, _, _, _, _, _, _, _ => none
  | k + 1, x1, x2, x10, x11, x161000, x161001, x162000, x162001 => (wheel_dial_common.f k x161000 x161001 x1 x11).bind fun bt162 => (if bt162.2.2 = true then (if x2 = 0 then (none) else (wheel_dial_areas.j1 k x1 x2 x10 bt162.1 bt162.2.1 (decide (bt162.1 > (wrap64 (Int.tdiv x162001 x2)))) x161000 x161001 x162000 x162001)) else (wheel_dial_areas.j1 k x1 x2 x10 bt162.1 bt162.2.1 true x161000 x161001 x162000 x162001))
def wheel_dial_areas.j1 : Nat → List Int → Int → List (S59) → Int → Int → Bool → Int → Int → Int → Int → Option ((List (S59)) × Int)
  | 0, _, _, _, _, _, _, _, _, _, _ => none
  | k + 1, x1, x2, x10, x12, x13, x38, x161000, x161001, x162000, x162001 => if x38 = true then (some (x10, 0)) else (if (x10.length : Int) > 0 then (if 0 ≤ (wrap64 ((x10.length : Int) - 1)) then (if (wrap64 ((x10.length : Int) - 1)) < (x10.length : Int) then (wheel_dial_areas.j2 k x1 x2 x10 x13 (x10.length : Int) (decide ((wrap64 (((rd_T59 x10 (wrap64 ((x10.length : Int) - 1))).f1) + 1)) ≥ (mx x162000 (wrap64 (x12 * x2))))) x161000 x161001 x162000 x162001 (mx x162000 (wrap64 (x12 * x2))) (mn x162001 (wrap64 ((wrap64 ((wrap64 (x13 * x2)) + x2)) - 1)))) else (none)) else (none)) else (wheel_dial_areas.j2 k x1 x2 x10 x13 (x10.length : Int) false x161000 x161001 x162000 x162001 (mx x162000 (wrap64 (x12 * x2))) (mn x162001 (wrap64 ((wrap64 ((wrap64 (x13 * x2)) + x2)) - 1)))))
def wheel_dial_areas.j2 : Nat → List Int → Int → List (S59) → Int → Int → Bool → Int → Int → Int → Int → Int → Int → Option ((List (S59)) × Int)
  | 0, _, _, _, _, _, _, _, _, _, _, _, _ => none
  | k + 1, x1, x2, x10, x13, x16, x71, x161000, x161001, x162000, x162001, x166000, x166001 => if x71 = true then (if 0 ≤ (wrap64 (x16 - 1)) then (if (wrap64 (x16 - 1)) < (x10.length : Int) then (wheel_dial_areas.l0 k x1 x2 (x10.set ((wrap64 (x16 - 1)) : Int).toNat (⟨(rd_T59 x10 (wrap64 (x16 - 1))).f0, x166001⟩ : S59)) (wrap64 (x13 + 1)) x161000 x161001 x162000 x162001) else (none)) else (none)) else (if x16 = 64 then (some (([] : List (S59)), 2)) else (if x10.length < 8796093022208 then (wheel_dial_areas.l0 k x1 x2 (x10 ++ [(⟨x166000, x166001⟩ : S59)]) (wrap64 (x13 + 1)) x161000 x161001 x162000 x162001) else (none)))
end
def wheel_dial_areas.f (k : Nat) (a0_0 : Int) (a0_1 : Int) (l1 : List Int) (a2 : Int) (a3_0 : Int) (a3_1 : Int) : Option ((List (S59)) × Int) := if a2 = 0 then (none) else (wheel_dial_areas.l0 k l1 a2 ([] : List (S59)) (wrap64 (Int.tdiv a3_0 a2)) a0_0 a0_1 a3_0 a3_1)
theorem wheel_dial_areas.mono_l : ∀ k, (∀ y0 y1 y2 y3 y4 y5 y6 y7, LeO (wheel_dial_areas.l0 k y0 y1 y2 y3 y4 y5 y6 y7) (wheel_dial_areas.l0 (k + 1) y0 y1 y2 y3 y4 y5 y6 y7)) ∧ (∀ y0 y1 y2 y3 y4 y5 y6 y7 y8 y9, LeO (wheel_dial_areas.j1 k y0 y1 y2 y3 y4 y5 y6 y7 y8 y9) (wheel_dial_areas.j1 (k + 1) y0 y1 y2 y3 y4 y5 y6 y7 y8 y9)) ∧ (∀ y0 y1 y2 y3 y4 y5 y6 y7 y8 y9 y10 y11, LeO (wheel_dial_areas.j2 k y0 y1 y2 y3 y4 y5 y6 y7 y8 y9 y10 y11) (wheel_dial_areas.j2 (k + 1) y0 y1 y2 y3 y4 y5 y6 y7 y8 y9 y10 y11))
 |0 => ⟨fun _ _ _ _ _ _ _ _ r h => by simp [wheel_dial_areas.l0] at h, fun _ _ _ _ _ _ _ _ _ _ r h => by simp [wheel_dial_areas.j1] at h, fun _ _ _ _ _ _ _ _ _ _ _ _ r h => by simp [wheel_dial_areas.j2] at h⟩
 |k + 1 => by
  obtain ⟨ih0, ih1, ih2⟩ := wheel_dial_areas.mono_l k
  refine ⟨?_, ?_, ?_⟩
  ·intro y0 y1 y2 y3 y4 y5 y6 y7
   unfold wheel_dial_areas.l0
   repeat' first
   |(with_reducible exact ih0 _ _ _ _ _ _ _ _)
   |(with_reducible exact ih1 _ _ _ _ _ _ _ _ _ _)
   |(with_reducible exact ih2 _ _ _ _ _ _ _ _ _ _ _ _)
   |(with_reducible exact wheel_dial_common.mono _ _ _ _ _)
   |(with_reducible exact LeO.refl _)
   |(with_reducible exact LeO.none _)
   |(with_reducible refine LeO.ite ?_ ?_)
   |(with_reducible refine LeO.bind ?_ (fun _ => ?_))
   |exact ih0 _ _ _ _ _ _ _ _
   |exact ih1 _ _ _ _ _ _ _ _ _ _
   |exact ih2 _ _ _ _ _ _ _ _ _ _ _ _
   |exact wheel_dial_common.mono _ _ _ _ _
   |exact LeO.none _
   |refine LeO.ite ?_ ?_
   |refine LeO.bind ?_ (fun _ => ?_)
  ·intro y0 y1 y2 y3 y4 y5 y6 y7 y8 y9
   unfold wheel_dial_areas.j1
   repeat' first
   |(with_reducible exact ih0 _ _ _ _ _ _ _ _)
   |(with_reducible exact ih1 _ _ _ _ _ _ _ _ _ _)
   |(with_reducible exact ih2 _ _ _ _ _ _ _ _ _ _ _ _)
   |(with_reducible exact wheel_dial_common.mono _ _ _ _ _)
   |(with_reducible exact LeO.refl _)
   |(with_reducible exact LeO.none _)
   |(with_reducible refine LeO.ite ?_ ?_)
   |(with_reducible refine LeO.bind ?_ (fun _ => ?_))
   |exact ih0 _ _ _ _ _ _ _ _
   |exact ih1 _ _ _ _ _ _ _ _ _ _
   |exact ih2 _ _ _ _ _ _ _ _ _ _ _ _
   |exact wheel_dial_common.mono _ _ _ _ _
   |exact LeO.none _
   |refine LeO.ite ?_ ?_
   |refine LeO.bind ?_ (fun _ => ?_)
  ·intro y0 y1 y2 y3 y4 y5 y6 y7 y8 y9 y10 y11
   unfold wheel_dial_areas.j2
   repeat' first
   |(with_reducible exact ih0 _ _ _ _ _ _ _ _)
   |(with_reducible exact ih1 _ _ _ _ _ _ _ _ _ _)
   |(with_reducible exact ih2 _ _ _ _ _ _ _ _ _ _ _ _)
   |(with_reducible exact wheel_dial_common.mono _ _ _ _ _)
   |(with_reducible exact LeO.refl _)
   |(with_reducible exact LeO.none _)
   |(with_reducible refine LeO.ite ?_ ?_)
   |(with_reducible refine LeO.bind ?_ (fun _ => ?_))
   |exact ih0 _ _ _ _ _ _ _ _
   |exact ih1 _ _ _ _ _ _ _ _ _ _
   |exact ih2 _ _ _ _ _ _ _ _ _ _ _ _
   |exact wheel_dial_common.mono _ _ _ _ _
   |exact LeO.none _
   |refine LeO.ite ?_ ?_
   |refine LeO.bind ?_ (fun _ => ?_)
theorem wheel_dial_areas.mono : ∀ a0 a1 a2 a3 a4 a5 k, LeO (wheel_dial_areas.f k a0 a1 a2 a3 a4 a5) (wheel_dial_areas.f (k + 1) a0 a1 a2 a3 a4 a5) := by
 intro a0 a1 a2 a3 a4 a5 k
 obtain ⟨ih0, ih1, ih2⟩ := wheel_dial_areas.mono_l k
 unfold wheel_dial_areas.f
 repeat' first
   |(with_reducible exact ih0 _ _ _ _ _ _ _ _)
   |(with_reducible exact ih1 _ _ _ _ _ _ _ _ _ _)
   |(with_reducible exact ih2 _ _ _ _ _ _ _ _ _ _ _ _)
   |(with_reducible exact wheel_dial_common.mono _ _ _ _ _)
   |(with_reducible exact LeO.refl _)
   |(with_reducible exact LeO.none _)
   |(with_reducible refine LeO.ite ?_ ?_)
   |(with_reducible refine LeO.bind ?_ (fun _ => ?_))
   |exact ih0 _ _ _ _ _ _ _ _
   |exact ih1 _ _ _ _ _ _ _ _ _ _
   |exact ih2 _ _ _ _ _ _ _ _ _ _ _ _
   |exact wheel_dial_common.mono _ _ _ _ _
   |exact LeO.none _
   |refine LeO.ite ?_ ?_
   |refine LeO.bind ?_ (fun _ => ?_)
set_option maxHeartbeats 8000000 in
set_option maxRecDepth 100000 in
theorem wheel_dial_areas.calls (k : Nat) (a0_0 : Int) (a0_1 : Int) (A1 : Option Addr) (c1 : Nat) (l1 : List Int) (a2 : Int) (a3_0 : Int) (a3_1 : Int) (r1 : List (S59)) (r2 : Int) (w : World) (hr1 : Kd.C (Kd.int .i64) w A1 l1.length l1) (hc1 : l1.length ≤ c1) (h : wheel_dial_areas.f k a0_0 a0_1 l1 a2 a3_0 a3_1 = some (r1, r2)) :
  Calls Tryz.prog 99 #[.agg #[.int .i64 a0_0, .int .i64 a0_1], .slice A1 l1.length c1, .int .i64 a2, .agg #[.int .i64 a3_0, .int .i64 a3_1]] w fun e w' => ∃ v0_ : Value, e = .returned (.tuple #[v0_, .int .i64 r2]) ∧ Kd.R k59 59 w' w.heap.size (fun _ => True) v0_ r1 ∧ Below w.heap.size w w' := by
 have hu108 := Tryz.underlying108
 have hu59 := Tryz.underlying59
 have HR1 := Aside0.mk hr1
 have HC1 := Aside0.mk hc1
 clear hr1 hc1
 have HB := Aside0.mk (Below.refl w.heap.size w)
 have H : (if a2 = 0 then (none) else (wheel_dial_areas.l0 k l1 a2 ([] : List (S59)) (wrap64 (Int.tdiv a3_0 a2)) a0_0 a0_1 a3_0 a3_1)) = some (r1, r2) := h
 clear h
 by_cases c5 : a2 = 0
 ·rw [if_pos c5] at H
  exact absurd H (by simp)
 ·rw [if_neg c5] at H
  have c5b0 : (a2 == 0) = false := beq_eq_false_iff_ne.mpr c5
  have c5b1 : (a2 != 0) = true := bne_iff_ne.mpr c5
  have H' := Aside0.mk H
  clear H
  go_enter Tryz.func99, Tryz.ntmps99
  go_wp2_with (first | ((with_reducible refine gate_dst (N := 4) rfl ?_); refine box_event ?hg (N := 4) ?hd (cs := #[.int .i64 a0_0, .int .i64 a0_1]) (t := 108) ?hr ?_; (case hd => rfl); (case hg => rfl); (case hr => first | (go_simp; done) | (go_simp; rfl)); intro gb160 hg w6 hbox hb; have n0_ := Aside0.mk (below_step (bw HB.out) hb); have n1_ := Aside0.mk (hbox); have n2_ := Aside0.mk ((by rw [hg]; exact (below_size (bw HB.out)) : w.heap.size ≤ gb160)); have n3_ := Aside0.mk ((by rw [hg]; exact (below_size (bw HB.out)) : w.heap.size ≤ gb160)); clear HB; have HB := n0_; have BK160 := n1_; have GW160 := n2_; have GE160 := n3_; clear n0_ n1_ n2_ n3_; clear hb hbox hg) | ((with_reducible refine gate_dst (N := 7) rfl ?_); refine box_event ?hg (N := 7) ?hd (cs := #[.int .i64 a3_0, .int .i64 a3_1]) (t := 59) ?hr ?_; (case hd => rfl); (case hg => rfl); (case hr => first | (go_simp; done) | (go_simp; rfl)); intro gb161 hg w7 hbox hb; have n0_ := Aside0.mk (blk_below (g := gb160) (o := .cells #[.int .i64 a0_0, .int .i64 a0_1] 108 (0, 0)) (bq BK160.out) hb); have n1_ := Aside0.mk (below_step (by repeat (first | (with_reducible first | exact HB.out | apply below_alloc | apply pw_below_drewN | apply below_drew1 | refine below_set ?_ GE160.out) | exact HB.out)) hb); have n2_ := Aside0.mk (hbox); have n3_ := Aside0.mk ((by rw [hg]; exact (below_size (by repeat (first | (with_reducible first | exact HB.out | apply below_alloc | apply pw_below_drewN | apply below_drew1 | refine below_set ?_ GE160.out) | exact HB.out))) : w.heap.size ≤ gb161)); have n4_ := Aside0.mk ((by rw [hg]; exact (below_size (by repeat (first | (with_reducible first | exact HB.out | apply below_alloc | apply pw_below_drewN | apply below_drew1 | refine below_set ?_ GE160.out) | exact HB.out))) : w.heap.size ≤ gb161)); have n5_ := Aside0.mk ((by rw [hg]; exact Nat.ne_of_lt (blk_lt (g := gb160) (o := .cells #[.int .i64 a0_0, .int .i64 a0_1] 108 (0, 0)) (bq BK160.out)) : gb160 ≠ gb161)); have n6_ := Aside0.mk ((by rw [hg]; exact Nat.ne_of_gt (blk_lt (g := gb160) (o := .cells #[.int .i64 a0_0, .int .i64 a0_1] 108 (0, 0)) (bq BK160.out)) : gb161 ≠ gb160)); clear BK160; clear HB; have BK160 := n0_; have HB := n1_; have BK161 := n2_; have GW161 := n3_; have GE161 := n4_; have NB160_161 := n5_; have NB161_160 := n6_; clear n0_ n1_ n2_ n3_ n4_ n5_ n6_; clear hb hbox hg; have hnb8 := NB161_160.out; have hnc8 := NB160_161.out; have hcz9_0 : w7.cell? ⟨gb161, 0, none⟩ = some (.int .i64 a3_0) := (blk_cell BK161.out 0).trans rfl; have hcz9_1 : w7.cell? ⟨gb161, 1, none⟩ = some (.int .i64 a3_1) := (blk_cell BK161.out 1).trans rfl; have hfz9_0 := blk_frozen BK161.out 0; have hfz9_1 := blk_frozen BK161.out 1))
  repeat (go_quiet (first | ((with_reducible refine gate_dst (N := 4) rfl ?_); refine box_event ?hg (N := 4) ?hd (cs := #[.int .i64 a0_0, .int .i64 a0_1]) (t := 108) ?hr ?_; (case hd => rfl); (case hg => rfl); (case hr => first | (go_simp; done) | (go_simp; rfl)); intro gb160 hg w6 hbox hb; have n0_ := Aside0.mk (below_step (bw HB.out) hb); have n1_ := Aside0.mk (hbox); have n2_ := Aside0.mk ((by rw [hg]; exact (below_size (bw HB.out)) : w.heap.size ≤ gb160)); have n3_ := Aside0.mk ((by rw [hg]; exact (below_size (bw HB.out)) : w.heap.size ≤ gb160)); clear HB; have HB := n0_; have BK160 := n1_; have GW160 := n2_; have GE160 := n3_; clear n0_ n1_ n2_ n3_; clear hb hbox hg) | ((with_reducible refine gate_dst (N := 7) rfl ?_); refine box_event ?hg (N := 7) ?hd (cs := #[.int .i64 a3_0, .int .i64 a3_1]) (t := 59) ?hr ?_; (case hd => rfl); (case hg => rfl); (case hr => first | (go_simp; done) | (go_simp; rfl)); intro gb161 hg w7 hbox hb; have n0_ := Aside0.mk (blk_below (g := gb160) (o := .cells #[.int .i64 a0_0, .int .i64 a0_1] 108 (0, 0)) (bq BK160.out) hb); have n1_ := Aside0.mk (below_step (by repeat (first | (with_reducible first | exact HB.out | apply below_alloc | apply pw_below_drewN | apply below_drew1 | refine below_set ?_ GE160.out) | exact HB.out)) hb); have n2_ := Aside0.mk (hbox); have n3_ := Aside0.mk ((by rw [hg]; exact (below_size (by repeat (first | (with_reducible first | exact HB.out | apply below_alloc | apply pw_below_drewN | apply below_drew1 | refine below_set ?_ GE160.out) | exact HB.out))) : w.heap.size ≤ gb161)); have n4_ := Aside0.mk ((by rw [hg]; exact (below_size (by repeat (first | (with_reducible first | exact HB.out | apply below_alloc | apply pw_below_drewN | apply below_drew1 | refine below_set ?_ GE160.out) | exact HB.out))) : w.heap.size ≤ gb161)); have n5_ := Aside0.mk ((by rw [hg]; exact Nat.ne_of_lt (blk_lt (g := gb160) (o := .cells #[.int .i64 a0_0, .int .i64 a0_1] 108 (0, 0)) (bq BK160.out)) : gb160 ≠ gb161)); have n6_ := Aside0.mk ((by rw [hg]; exact Nat.ne_of_gt (blk_lt (g := gb160) (o := .cells #[.int .i64 a0_0, .int .i64 a0_1] 108 (0, 0)) (bq BK160.out)) : gb161 ≠ gb160)); clear BK160; clear HB; have BK160 := n0_; have HB := n1_; have BK161 := n2_; have GW161 := n3_; have GE161 := n4_; have NB160_161 := n5_; have NB161_160 := n6_; clear n0_ n1_ n2_ n3_ n4_ n5_ n6_; clear hb hbox hg; have hnb8 := NB161_160.out; have hnc8 := NB160_161.out; have hcz9_0 : w7.cell? ⟨gb161, 0, none⟩ = some (.int .i64 a3_0) := (blk_cell BK161.out 0).trans rfl; have hcz9_1 : w7.cell? ⟨gb161, 1, none⟩ = some (.int .i64 a3_1) := (blk_cell BK161.out 1).trans rfl; have hfz9_0 := blk_frozen BK161.out 0; have hfz9_1 := blk_frozen BK161.out 1)); try go_wp2_with (first | ((with_reducible refine gate_dst (N := 4) rfl ?_); refine box_event ?hg (N := 4) ?hd (cs := #[.int .i64 a0_0, .int .i64 a0_1]) (t := 108) ?hr ?_; (case hd => rfl); (case hg => rfl); (case hr => first | (go_simp; done) | (go_simp; rfl)); intro gb160 hg w6 hbox hb; have n0_ := Aside0.mk (below_step (bw HB.out) hb); have n1_ := Aside0.mk (hbox); have n2_ := Aside0.mk ((by rw [hg]; exact (below_size (bw HB.out)) : w.heap.size ≤ gb160)); have n3_ := Aside0.mk ((by rw [hg]; exact (below_size (bw HB.out)) : w.heap.size ≤ gb160)); clear HB; have HB := n0_; have BK160 := n1_; have GW160 := n2_; have GE160 := n3_; clear n0_ n1_ n2_ n3_; clear hb hbox hg) | ((with_reducible refine gate_dst (N := 7) rfl ?_); refine box_event ?hg (N := 7) ?hd (cs := #[.int .i64 a3_0, .int .i64 a3_1]) (t := 59) ?hr ?_; (case hd => rfl); (case hg => rfl); (case hr => first | (go_simp; done) | (go_simp; rfl)); intro gb161 hg w7 hbox hb; have n0_ := Aside0.mk (blk_below (g := gb160) (o := .cells #[.int .i64 a0_0, .int .i64 a0_1] 108 (0, 0)) (bq BK160.out) hb); have n1_ := Aside0.mk (below_step (by repeat (first | (with_reducible first | exact HB.out | apply below_alloc | apply pw_below_drewN | apply below_drew1 | refine below_set ?_ GE160.out) | exact HB.out)) hb); have n2_ := Aside0.mk (hbox); have n3_ := Aside0.mk ((by rw [hg]; exact (below_size (by repeat (first | (with_reducible first | exact HB.out | apply below_alloc | apply pw_below_drewN | apply below_drew1 | refine below_set ?_ GE160.out) | exact HB.out))) : w.heap.size ≤ gb161)); have n4_ := Aside0.mk ((by rw [hg]; exact (below_size (by repeat (first | (with_reducible first | exact HB.out | apply below_alloc | apply pw_below_drewN | apply below_drew1 | refine below_set ?_ GE160.out) | exact HB.out))) : w.heap.size ≤ gb161)); have n5_ := Aside0.mk ((by rw [hg]; exact Nat.ne_of_lt (blk_lt (g := gb160) (o := .cells #[.int .i64 a0_0, .int .i64 a0_1] 108 (0, 0)) (bq BK160.out)) : gb160 ≠ gb161)); have n6_ := Aside0.mk ((by rw [hg]; exact Nat.ne_of_gt (blk_lt (g := gb160) (o := .cells #[.int .i64 a0_0, .int .i64 a0_1] 108 (0, 0)) (bq BK160.out)) : gb161 ≠ gb160)); clear BK160; clear HB; have BK160 := n0_; have HB := n1_; have BK161 := n2_; have GW161 := n3_; have GE161 := n4_; have NB160_161 := n5_; have NB161_160 := n6_; clear n0_ n1_ n2_ n3_ n4_ n5_ n6_; clear hb hbox hg; have hnb8 := NB161_160.out; have hnc8 := NB160_161.out; have hcz9_0 : w7.cell? ⟨gb161, 0, none⟩ = some (.int .i64 a3_0) := (blk_cell BK161.out 0).trans rfl; have hcz9_1 : w7.cell? ⟨gb161, 1, none⟩ = some (.int .i64 a3_1) := (blk_cell BK161.out 1).trans rfl; have hfz9_0 := blk_frozen BK161.out 0; have hfz9_1 := blk_frozen BK161.out 1)))
  go_loopg [10, 11] k (fun kq v10 v11 w' => ∃ (x10_1 : List (S59)) (x11_1 : Int) (x162001_1 : Int), v11 = .int .i64 x11_1 ∧ Aside0 (wheel_dial_areas.l0 kq l1 a2 x10_1 x11_1 a0_0 a0_1 a3_0 x162001_1 = some (r1, r2)) ∧ Aside0 (kq ≤ k) ∧ Aside0 (Kd.R k59 59 w' w.heap.size (fun k_ => k_ ≠ gb161) v10 x10_1) ∧ Aside0 (w'.heap[gb160]? = some (.cells #[.int .i64 a0_0, .int .i64 a0_1] 108 (0, 0))) ∧ Aside0 (w'.heap[gb161]? = some (.cells #[.int .i64 a3_0, .int .i64 x162001_1] 59 (0, 0))) ∧ Aside0 (Below w.heap.size w w'))
  case atStart => exact ⟨(([] : List (S59))), (wrap64 (Int.tdiv a3_0 a2)), (a3_1), (by first | rfl | (simp; done) | (simp [*]; done)), H', ⟨Nat.le_refl _⟩, ⟨by first | exact Kd.R_nil _ _ _ _ _ | exact Kd.N_nil _ _ _ _ _ | exact Kd.V_nil _ _ _ _ _ | exact Kd.Q_nil _ _ _ _ _ | exact Kd.S_nil _ _ _ _ _⟩, ⟨bq BK160.out⟩, ⟨bq BK161.out⟩, ⟨by repeat (first | (with_reducible first | exact HB.out | apply below_alloc | apply pw_below_drewN | apply below_drew1 | refine below_set ?_ GE160.out | refine below_set ?_ GE161.out) | exact HB.out)⟩⟩
  case round =>
   clear H'
   try clear c1
   try clear p2
   try clear c5
   try clear c5b0
   try clear c5b1
   try clear p6
   try clear c8
   try clear c9
   try clear hcz9_0
   try clear hcz9_1
   try clear hfz9_0
   try clear hfz9_1
   obtain ⟨x10_1, x11_1, x162001_1, rfl, HA, HK1, HO_10, BK160, BK161, HB⟩ := hrel
   cases gk with
   |zero => exact absurd HA.out (by simp [wheel_dial_areas.l0])
   |succ k1 =>
    have H := HA.out
    clear HA
    simp only [wheel_dial_areas.l0] at H
    replace H := Option.bind_eq_some_iff.mp H
    obtain ⟨⟨t162, t163, t164⟩, A100, H⟩ := H
    replace H : (if t164 = true then (if a2 = 0 then (none) else (wheel_dial_areas.j1 k1 l1 a2 x10_1 t162 t163 (decide (t162 > (wrap64 (Int.tdiv x162001_1 a2)))) a0_0 a0_1 a3_0 x162001_1)) else (wheel_dial_areas.j1 k1 l1 a2 x10_1 t162 t163 true a0_0 a0_1 a3_0 x162001_1)) = some (r1, r2) := H
    have A10 := Aside0.mk A100
    clear A100
    have HC11 := Aside0.mk H
    clear H
    have hnb12 := NB160_161.out
    have hnc12 := NB161_160.out
    have hcz13_0 : wr.cell? ⟨gb160, 0, none⟩ = some (.int .i64 a0_0) := (blk_cell BK160.out 0).trans rfl
    have hcz13_1 : wr.cell? ⟨gb160, 1, none⟩ = some (.int .i64 a0_1) := (blk_cell BK160.out 1).trans rfl
    have hfz13_0 := blk_frozen BK160.out 0
    have hfz13_1 := blk_frozen BK160.out 1
    go_upto_region 4 with (first | (go_at_call 134; (with_reducible refine (wheel_dial_common.calls k1 a0_0 a0_1 _ _ l1 x11_1 t162 t163 t164 _ ?side1 ?side2 A10.out).mono ?_); (case side1 => repeat (first | exact (Kd.C_below HR1.out HB.out) | (with_reducible refine Kd.C_alloc ?_ _) | (with_reducible refine Kd.C_drewN ?_ _) | (with_reducible refine Kd.C_drew ?_))); (case side2 => exact HC1.out); rintro e w14 ⟨rfl, hb⟩; have n0_ := Aside0.mk (Kd.R_below (rq HO_10.out) hb); have n1_ := Aside0.mk (blk_below (g := gb160) (o := .cells #[.int .i64 a0_0, .int .i64 a0_1] 108 (0, 0)) (bq BK160.out) hb); have n2_ := Aside0.mk (blk_below (g := gb161) (o := .cells #[.int .i64 a3_0, .int .i64 x162001_1] 59 (0, 0)) (bq BK161.out) hb); have n3_ := Aside0.mk (below_step (by repeat (first | (with_reducible first | exact HB.out | apply below_alloc | apply pw_below_drewN | apply below_drew1 | refine below_set ?_ GE160.out | refine below_set ?_ GE161.out) | exact HB.out)) hb); clear HO_10; clear BK160; clear BK161; clear HB; have HO_10 := n0_; have BK160 := n1_; have BK161 := n2_; have HB := n3_; clear n0_ n1_ n2_ n3_; (try clear hb); (try clear hb2); (try clear hk); (try clear hi)))
    repeat (go_quiet (first | (go_at_call 134; (with_reducible refine (wheel_dial_common.calls k1 a0_0 a0_1 _ _ l1 x11_1 t162 t163 t164 _ ?side1 ?side2 A10.out).mono ?_); (case side1 => repeat (first | exact (Kd.C_below HR1.out HB.out) | (with_reducible refine Kd.C_alloc ?_ _) | (with_reducible refine Kd.C_drewN ?_ _) | (with_reducible refine Kd.C_drew ?_))); (case side2 => exact HC1.out); rintro e w14 ⟨rfl, hb⟩; have n0_ := Aside0.mk (Kd.R_below (rq HO_10.out) hb); have n1_ := Aside0.mk (blk_below (g := gb160) (o := .cells #[.int .i64 a0_0, .int .i64 a0_1] 108 (0, 0)) (bq BK160.out) hb); have n2_ := Aside0.mk (blk_below (g := gb161) (o := .cells #[.int .i64 a3_0, .int .i64 x162001_1] 59 (0, 0)) (bq BK161.out) hb); have n3_ := Aside0.mk (below_step (by repeat (first | (with_reducible first | exact HB.out | apply below_alloc | apply pw_below_drewN | apply below_drew1 | refine below_set ?_ GE160.out | refine below_set ?_ GE161.out) | exact HB.out)) hb); clear HO_10; clear BK160; clear BK161; clear HB; have HO_10 := n0_; have BK160 := n1_; have BK161 := n2_; have HB := n3_; clear n0_ n1_ n2_ n3_; (try clear hb); (try clear hb2); (try clear hk); (try clear hi))); go_upto_region 4 with (first | (go_at_call 134; (with_reducible refine (wheel_dial_common.calls k1 a0_0 a0_1 _ _ l1 x11_1 t162 t163 t164 _ ?side1 ?side2 A10.out).mono ?_); (case side1 => repeat (first | exact (Kd.C_below HR1.out HB.out) | (with_reducible refine Kd.C_alloc ?_ _) | (with_reducible refine Kd.C_drewN ?_ _) | (with_reducible refine Kd.C_drew ?_))); (case side2 => exact HC1.out); rintro e w14 ⟨rfl, hb⟩; have n0_ := Aside0.mk (Kd.R_below (rq HO_10.out) hb); have n1_ := Aside0.mk (blk_below (g := gb160) (o := .cells #[.int .i64 a0_0, .int .i64 a0_1] 108 (0, 0)) (bq BK160.out) hb); have n2_ := Aside0.mk (blk_below (g := gb161) (o := .cells #[.int .i64 a3_0, .int .i64 x162001_1] 59 (0, 0)) (bq BK161.out) hb); have n3_ := Aside0.mk (below_step (by repeat (first | (with_reducible first | exact HB.out | apply below_alloc | apply pw_below_drewN | apply below_drew1 | refine below_set ?_ GE160.out | refine below_set ?_ GE161.out) | exact HB.out)) hb); clear HO_10; clear BK160; clear BK161; clear HB; have HO_10 := n0_; have BK160 := n1_; have BK161 := n2_; have HB := n3_; clear n0_ n1_ n2_ n3_; (try clear hb); (try clear hb2); (try clear hk); (try clear hi))))
    (try simp only [Act.put, List.setIfInBounds_toArray, List.set_cons_zero, List.set_cons_succ])
    go_cut [38] (fun v38 wc => ∃ (kq : Nat) (x38_10 : Bool), v38 = .bool x38_10 ∧ Aside0 (wheel_dial_areas.j1 kq l1 a2 x10_1 t162 t163 x38_10 a0_0 a0_1 a3_0 x162001_1 = some (r1, r2)) ∧ Aside0 (kq ≤ k1) ∧ Aside0 (Kd.R k59 59 wc w.heap.size (fun k_ => k_ ≠ gb161) u10 x10_1) ∧ Aside0 (wc.heap[gb160]? = some (.cells #[.int .i64 a0_0, .int .i64 a0_1] 108 (0, 0))) ∧ Aside0 (wc.heap[gb161]? = some (.cells #[.int .i64 a3_0, .int .i64 x162001_1] 59 (0, 0))) ∧ Aside0 (Below w.heap.size w wc))
    case first =>
     have H := HC11.out
     clear HC11
     by_cases c15 : t164 = true
     ·subst c15
      have H1 : (if a2 = 0 then (none) else (wheel_dial_areas.j1 k1 l1 a2 x10_1 t162 t163 (decide (t162 > (wrap64 (Int.tdiv x162001_1 a2)))) a0_0 a0_1 a3_0 x162001_1)) = some (r1, r2) := by rw [if_pos rfl] at H; exact H
      clear H
      have H := H1
      clear H1
      by_cases c16 : a2 = 0
      ·rw [if_pos c16] at H
       exact absurd H (by simp)
      ·rw [if_neg c16] at H
       have c16b0 : (a2 == 0) = false := beq_eq_false_iff_ne.mpr c16
       have c16b1 : (a2 != 0) = true := bne_iff_ne.mpr c16
       (first | rw [c16b0] | (simp only [i64_w, i32_w]; rw [c16b0]) | skip)
       have H' := Aside0.mk H
       clear H
       have hnb17 := NB161_160.out
       have hnc17 := NB160_161.out
       have hcz18_0 : w14.cell? ⟨gb161, 0, none⟩ = some (.int .i64 a3_0) := (blk_cell BK161.out 0).trans rfl
       have hcz18_1 : w14.cell? ⟨gb161, 1, none⟩ = some (.int .i64 x162001_1) := (blk_cell BK161.out 1).trans rfl
       have hfz18_0 := blk_frozen BK161.out 0
       have hfz18_1 := blk_frozen BK161.out 1
       go_wp2
       repeat (go_quiet (fail); try go_wp2)
       go_meet
       case rel => exact ⟨_, (decide (t162 > (wrap64 (Int.tdiv x162001_1 a2)))), (by first | rfl | (simp; done) | (simp [*]; done)), H', ⟨by have := HK1.out; first | omega | exact Nat.le_refl _⟩, ⟨rq HO_10.out⟩, ⟨bq BK160.out⟩, ⟨bq BK161.out⟩, ⟨by repeat (first | (with_reducible first | exact HB.out | apply below_alloc | apply pw_below_drewN | apply below_drew1 | refine below_set ?_ GE160.out | refine below_set ?_ GE161.out) | exact HB.out)⟩⟩
     ·replace c15 := Bool.eq_false_iff.mpr c15
      subst c15
      have H1 : (wheel_dial_areas.j1 k1 l1 a2 x10_1 t162 t163 true a0_0 a0_1 a3_0 x162001_1) = some (r1, r2) := by rw [if_neg (show ¬ (false = true) by decide)] at H; exact H
      clear H
      have H := H1
      clear H1
      have H' := Aside0.mk H
      clear H
      go_wp2
      repeat (go_quiet (fail); try go_wp2)
      go_meet
      case rel => exact ⟨_, (true), (by first | rfl | (simp; done) | (simp [*]; done)), H', ⟨by have := HK1.out; first | omega | exact Nat.le_refl _⟩, ⟨rq HO_10.out⟩, ⟨bq BK160.out⟩, ⟨bq BK161.out⟩, ⟨by repeat (first | (with_reducible first | exact HB.out | apply below_alloc | apply pw_below_drewN | apply below_drew1 | refine below_set ?_ GE160.out | refine below_set ?_ GE161.out) | exact HB.out)⟩⟩
    case rest =>
     clear HC11
     try clear c1
     try clear p2
     try clear c5
     try clear c5b0
     try clear c5b1
     try clear p6
     try clear c8
     try clear c9
     try clear c12
     try clear c15
     try clear c16
     try clear c16b0
     try clear c16b1
     try clear c17
     try clear hcz13_0
     try clear hcz13_1
     try clear hcz18_0
     try clear hcz18_1
     try clear hcz9_0
     try clear hcz9_1
     try clear hfz13_0
     try clear hfz13_1
     try clear hfz18_0
     try clear hfz18_1
     try clear hfz9_0
     try clear hfz9_1
     try clear p2
     try clear p6
     obtain ⟨kq, x38_10, rfl, HA, HJ10, HO_10, BK160, BK161, HB⟩ := hcut
     cases kq with
     |zero => exact absurd HA.out (by simp [wheel_dial_areas.j1])
     |succ kj10 =>
      have H := HA.out
      clear HA
      simp only [wheel_dial_areas.j1] at H
      by_cases c19 : x38_10 = true
      ·subst c19
       have H1 : (some (x10_1, 0)) = some (r1, r2) := by rw [if_pos rfl] at H; exact H
       clear H
       have H := H1
       clear H1
       simp only [Option.some.injEq, Prod.mk.injEq] at H
       obtain ⟨rfl, rfl⟩ := H
       go_wp2
       repeat (go_quiet (fail); try go_wp2)
       go_ret2
       exact ⟨_, by first | rfl | (simp [errW_none, errW_some] <;> rfl) | (simp [*, errW_none, errW_some] <;> rfl), by (with_reducible repeat (first | apply Kd.R_alloc | apply Kd.R_drewN | apply Kd.R_drew)); exact Kd.R_mono HO_10.out (fun _ hk => trivial), by repeat (first | (with_reducible first | exact HB.out | apply below_alloc | apply pw_below_drewN | apply below_drew1 | refine below_set ?_ GE160.out | refine below_set ?_ GE161.out) | exact HB.out)⟩
      ·replace c19 := Bool.eq_false_iff.mpr c19
       subst c19
       have H1 : (if (x10_1.length : Int) > 0 then (if 0 ≤ (wrap64 ((x10_1.length : Int) - 1)) then (if (wrap64 ((x10_1.length : Int) - 1)) < (x10_1.length : Int) then (wheel_dial_areas.j2 kj10 l1 a2 x10_1 t163 (x10_1.length : Int) (decide ((wrap64 (((rd_T59 x10_1 (wrap64 ((x10_1.length : Int) - 1))).f1) + 1)) ≥ (mx a3_0 (wrap64 (t162 * a2))))) a0_0 a0_1 a3_0 x162001_1 (mx a3_0 (wrap64 (t162 * a2))) (mn x162001_1 (wrap64 ((wrap64 ((wrap64 (t163 * a2)) + a2)) - 1)))) else (none)) else (none)) else (wheel_dial_areas.j2 kj10 l1 a2 x10_1 t163 (x10_1.length : Int) false a0_0 a0_1 a3_0 x162001_1 (mx a3_0 (wrap64 (t162 * a2))) (mn x162001_1 (wrap64 ((wrap64 ((wrap64 (t163 * a2)) + a2)) - 1))))) = some (r1, r2) := by rw [if_neg (show ¬ (false = true) by decide)] at H; exact H
       clear H
       have H := H1
       clear H1
       obtain ⟨ji20, hji20⟩ : ∃ j_ : Int, (mx a3_0 (wrap64 (t162 * a2))) = j_ := ⟨_, rfl⟩
       replace H : (if (x10_1.length : Int) > 0 then (if 0 ≤ (wrap64 ((x10_1.length : Int) - 1)) then (if (wrap64 ((x10_1.length : Int) - 1)) < (x10_1.length : Int) then (wheel_dial_areas.j2 kj10 l1 a2 x10_1 t163 (x10_1.length : Int) (decide ((wrap64 (((rd_T59 x10_1 (wrap64 ((x10_1.length : Int) - 1))).f1) + 1)) ≥ (ji20))) a0_0 a0_1 a3_0 x162001_1 ji20 (mn x162001_1 (wrap64 ((wrap64 ((wrap64 (t163 * a2)) + a2)) - 1)))) else (none)) else (none)) else (wheel_dial_areas.j2 kj10 l1 a2 x10_1 t163 (x10_1.length : Int) false a0_0 a0_1 a3_0 x162001_1 ji20 (mn x162001_1 (wrap64 ((wrap64 ((wrap64 (t163 * a2)) + a2)) - 1))))) = some (r1, r2) := by first | (rw [hji20] at H; exact H) | (simp only [hji20] at H ⊢; exact H)
       have hji20_ : (if a3_0 < (wrap64 (t162 * a2)) then (wrap64 (t162 * a2)) else a3_0) = ji20 := hji20
       obtain ⟨ji21, hji21⟩ : ∃ j_ : Int, (mn x162001_1 (wrap64 ((wrap64 ((wrap64 (t163 * a2)) + a2)) - 1))) = j_ := ⟨_, rfl⟩
       replace H : (if (x10_1.length : Int) > 0 then (if 0 ≤ (wrap64 ((x10_1.length : Int) - 1)) then (if (wrap64 ((x10_1.length : Int) - 1)) < (x10_1.length : Int) then (wheel_dial_areas.j2 kj10 l1 a2 x10_1 t163 (x10_1.length : Int) (decide ((wrap64 (((rd_T59 x10_1 (wrap64 ((x10_1.length : Int) - 1))).f1) + 1)) ≥ (ji20))) a0_0 a0_1 a3_0 x162001_1 ji20 ji21) else (none)) else (none)) else (wheel_dial_areas.j2 kj10 l1 a2 x10_1 t163 (x10_1.length : Int) false a0_0 a0_1 a3_0 x162001_1 ji20 ji21)) = some (r1, r2) := by first | (rw [hji21] at H; exact H) | (simp only [hji21] at H ⊢; exact H)
       have hji21_ : (if (wrap64 ((wrap64 ((wrap64 (t163 * a2)) + a2)) - 1)) < x162001_1 then (wrap64 ((wrap64 ((wrap64 (t163 * a2)) + a2)) - 1)) else x162001_1) = ji21 := hji21
       have HC22 := Aside0.mk H
       clear H
       have hnb23 := NB161_160.out
       have hnc23 := NB160_161.out
       have hcz24_0 : wc.cell? ⟨gb161, 0, none⟩ = some (.int .i64 a3_0) := (blk_cell BK161.out 0).trans rfl
       have hcz24_1 : wc.cell? ⟨gb161, 1, none⟩ = some (.int .i64 x162001_1) := (blk_cell BK161.out 1).trans rfl
       have hfz24_0 := blk_frozen BK161.out 0
       have hfz24_1 := blk_frozen BK161.out 1
       go_upto_region 8 with (first | ((with_reducible refine gate_dst (N := 15) rfl ?_); refine box_event ?hg (N := 15) ?hd (cs := #[.int .i64 0, .int .i64 0]) (t := 59) ?hr ?_; (case hd => rfl); (case hg => rfl); (case hr => first | (go_simp; done) | (go_simp; rfl)); intro gb165 hg w25 hbox hb; have n0_ := Aside0.mk (Kd.R_below (Kd.R_elderB (rq HO_10.out) gb165 (Nat.le_of_eq hg.symm)) hb); have n1_ := Aside0.mk (blk_below (g := gb160) (o := .cells #[.int .i64 a0_0, .int .i64 a0_1] 108 (0, 0)) (bq BK160.out) hb); have n2_ := Aside0.mk (blk_below (g := gb161) (o := .cells #[.int .i64 a3_0, .int .i64 x162001_1] 59 (0, 0)) (bq BK161.out) hb); have n3_ := Aside0.mk (below_step (by repeat (first | (with_reducible first | exact HB.out | apply below_alloc | apply pw_below_drewN | apply below_drew1 | refine below_set ?_ GE160.out | refine below_set ?_ GE161.out) | exact HB.out)) hb); have n4_ := Aside0.mk (hbox); have n5_ := Aside0.mk ((by rw [hg]; exact (below_size (by repeat (first | (with_reducible first | exact HB.out | apply below_alloc | apply pw_below_drewN | apply below_drew1 | refine below_set ?_ GE160.out | refine below_set ?_ GE161.out) | exact HB.out))) : w.heap.size ≤ gb165)); have n6_ := Aside0.mk ((by rw [hg]; exact (below_size (by repeat (first | (with_reducible first | exact HB.out | apply below_alloc | apply pw_below_drewN | apply below_drew1 | refine below_set ?_ GE160.out | refine below_set ?_ GE161.out) | exact HB.out))) : w.heap.size ≤ gb165)); have n7_ := Aside0.mk ((by rw [hg]; exact Nat.ne_of_lt (blk_lt (g := gb160) (o := .cells #[.int .i64 a0_0, .int .i64 a0_1] 108 (0, 0)) (bq BK160.out)) : gb160 ≠ gb165)); have n8_ := Aside0.mk ((by rw [hg]; exact Nat.ne_of_gt (blk_lt (g := gb160) (o := .cells #[.int .i64 a0_0, .int .i64 a0_1] 108 (0, 0)) (bq BK160.out)) : gb165 ≠ gb160)); have n9_ := Aside0.mk ((by rw [hg]; exact Nat.ne_of_lt (blk_lt (g := gb161) (o := .cells #[.int .i64 a3_0, .int .i64 x162001_1] 59 (0, 0)) (bq BK161.out)) : gb161 ≠ gb165)); have n10_ := Aside0.mk ((by rw [hg]; exact Nat.ne_of_gt (blk_lt (g := gb161) (o := .cells #[.int .i64 a3_0, .int .i64 x162001_1] 59 (0, 0)) (bq BK161.out)) : gb165 ≠ gb161)); clear HO_10; clear BK160; clear BK161; clear HB; have HO_10 := n0_; have BK160 := n1_; have BK161 := n2_; have HB := n3_; have BK165 := n4_; have GW165 := n5_; have GE165 := n6_; have NB160_165 := n7_; have NB165_160 := n8_; have NB161_165 := n9_; have NB165_161 := n10_; clear n0_ n1_ n2_ n3_ n4_ n5_ n6_ n7_ n8_ n9_ n10_; clear hb hbox hg; have hnb26 := NB165_160.out; have hnc26 := NB160_165.out; have hnb27 := NB165_161.out; have hnc27 := NB161_165.out; have hcz28_0 : w25.cell? ⟨gb165, 0, none⟩ = some (.int .i64 0) := (blk_cell BK165.out 0).trans rfl; have hcz28_1 : w25.cell? ⟨gb165, 1, none⟩ = some (.int .i64 0) := (blk_cell BK165.out 1).trans rfl; have hfz28_0 := blk_frozen BK165.out 0; have hfz28_1 := blk_frozen BK165.out 1; obtain ⟨Ao29, co29, eo29⟩ := Kd.R_slice HO_10.out; subst eo29))
       repeat (go_quiet (first | ((with_reducible refine gate_dst (N := 15) rfl ?_); refine box_event ?hg (N := 15) ?hd (cs := #[.int .i64 0, .int .i64 0]) (t := 59) ?hr ?_; (case hd => rfl); (case hg => rfl); (case hr => first | (go_simp; done) | (go_simp; rfl)); intro gb165 hg w25 hbox hb; have n0_ := Aside0.mk (Kd.R_below (Kd.R_elderB (rq HO_10.out) gb165 (Nat.le_of_eq hg.symm)) hb); have n1_ := Aside0.mk (blk_below (g := gb160) (o := .cells #[.int .i64 a0_0, .int .i64 a0_1] 108 (0, 0)) (bq BK160.out) hb); have n2_ := Aside0.mk (blk_below (g := gb161) (o := .cells #[.int .i64 a3_0, .int .i64 x162001_1] 59 (0, 0)) (bq BK161.out) hb); have n3_ := Aside0.mk (below_step (by repeat (first | (with_reducible first | exact HB.out | apply below_alloc | apply pw_below_drewN | apply below_drew1 | refine below_set ?_ GE160.out | refine below_set ?_ GE161.out) | exact HB.out)) hb); have n4_ := Aside0.mk (hbox); have n5_ := Aside0.mk ((by rw [hg]; exact (below_size (by repeat (first | (with_reducible first | exact HB.out | apply below_alloc | apply pw_below_drewN | apply below_drew1 | refine below_set ?_ GE160.out | refine below_set ?_ GE161.out) | exact HB.out))) : w.heap.size ≤ gb165)); have n6_ := Aside0.mk ((by rw [hg]; exact (below_size (by repeat (first | (with_reducible first | exact HB.out | apply below_alloc | apply pw_below_drewN | apply below_drew1 | refine below_set ?_ GE160.out | refine below_set ?_ GE161.out) | exact HB.out))) : w.heap.size ≤ gb165)); have n7_ := Aside0.mk ((by rw [hg]; exact Nat.ne_of_lt (blk_lt (g := gb160) (o := .cells #[.int .i64 a0_0, .int .i64 a0_1] 108 (0, 0)) (bq BK160.out)) : gb160 ≠ gb165)); have n8_ := Aside0.mk ((by rw [hg]; exact Nat.ne_of_gt (blk_lt (g := gb160) (o := .cells #[.int .i64 a0_0, .int .i64 a0_1] 108 (0, 0)) (bq BK160.out)) : gb165 ≠ gb160)); have n9_ := Aside0.mk ((by rw [hg]; exact Nat.ne_of_lt (blk_lt (g := gb161) (o := .cells #[.int .i64 a3_0, .int .i64 x162001_1] 59 (0, 0)) (bq BK161.out)) : gb161 ≠ gb165)); have n10_ := Aside0.mk ((by rw [hg]; exact Nat.ne_of_gt (blk_lt (g := gb161) (o := .cells #[.int .i64 a3_0, .int .i64 x162001_1] 59 (0, 0)) (bq BK161.out)) : gb165 ≠ gb161)); clear HO_10; clear BK160; clear BK161; clear HB; have HO_10 := n0_; have BK160 := n1_; have BK161 := n2_; have HB := n3_; have BK165 := n4_; have GW165 := n5_; have GE165 := n6_; have NB160_165 := n7_; have NB165_160 := n8_; have NB161_165 := n9_; have NB165_161 := n10_; clear n0_ n1_ n2_ n3_ n4_ n5_ n6_ n7_ n8_ n9_ n10_; clear hb hbox hg; have hnb26 := NB165_160.out; have hnc26 := NB160_165.out; have hnb27 := NB165_161.out; have hnc27 := NB161_165.out; have hcz28_0 : w25.cell? ⟨gb165, 0, none⟩ = some (.int .i64 0) := (blk_cell BK165.out 0).trans rfl; have hcz28_1 : w25.cell? ⟨gb165, 1, none⟩ = some (.int .i64 0) := (blk_cell BK165.out 1).trans rfl; have hfz28_0 := blk_frozen BK165.out 0; have hfz28_1 := blk_frozen BK165.out 1; obtain ⟨Ao29, co29, eo29⟩ := Kd.R_slice HO_10.out; subst eo29)); go_upto_region 8 with (first | ((with_reducible refine gate_dst (N := 15) rfl ?_); refine box_event ?hg (N := 15) ?hd (cs := #[.int .i64 0, .int .i64 0]) (t := 59) ?hr ?_; (case hd => rfl); (case hg => rfl); (case hr => first | (go_simp; done) | (go_simp; rfl)); intro gb165 hg w25 hbox hb; have n0_ := Aside0.mk (Kd.R_below (Kd.R_elderB (rq HO_10.out) gb165 (Nat.le_of_eq hg.symm)) hb); have n1_ := Aside0.mk (blk_below (g := gb160) (o := .cells #[.int .i64 a0_0, .int .i64 a0_1] 108 (0, 0)) (bq BK160.out) hb); have n2_ := Aside0.mk (blk_below (g := gb161) (o := .cells #[.int .i64 a3_0, .int .i64 x162001_1] 59 (0, 0)) (bq BK161.out) hb); have n3_ := Aside0.mk (below_step (by repeat (first | (with_reducible first | exact HB.out | apply below_alloc | apply pw_below_drewN | apply below_drew1 | refine below_set ?_ GE160.out | refine below_set ?_ GE161.out) | exact HB.out)) hb); have n4_ := Aside0.mk (hbox); have n5_ := Aside0.mk ((by rw [hg]; exact (below_size (by repeat (first | (with_reducible first | exact HB.out | apply below_alloc | apply pw_below_drewN | apply below_drew1 | refine below_set ?_ GE160.out | refine below_set ?_ GE161.out) | exact HB.out))) : w.heap.size ≤ gb165)); have n6_ := Aside0.mk ((by rw [hg]; exact (below_size (by repeat (first | (with_reducible first | exact HB.out | apply below_alloc | apply pw_below_drewN | apply below_drew1 | refine below_set ?_ GE160.out | refine below_set ?_ GE161.out) | exact HB.out))) : w.heap.size ≤ gb165)); have n7_ := Aside0.mk ((by rw [hg]; exact Nat.ne_of_lt (blk_lt (g := gb160) (o := .cells #[.int .i64 a0_0, .int .i64 a0_1] 108 (0, 0)) (bq BK160.out)) : gb160 ≠ gb165)); have n8_ := Aside0.mk ((by rw [hg]; exact Nat.ne_of_gt (blk_lt (g := gb160) (o := .cells #[.int .i64 a0_0, .int .i64 a0_1] 108 (0, 0)) (bq BK160.out)) : gb165 ≠ gb160)); have n9_ := Aside0.mk ((by rw [hg]; exact Nat.ne_of_lt (blk_lt (g := gb161) (o := .cells #[.int .i64 a3_0, .int .i64 x162001_1] 59 (0, 0)) (bq BK161.out)) : gb161 ≠ gb165)); have n10_ := Aside0.mk ((by rw [hg]; exact Nat.ne_of_gt (blk_lt (g := gb161) (o := .cells #[.int .i64 a3_0, .int .i64 x162001_1] 59 (0, 0)) (bq BK161.out)) : gb165 ≠ gb161)); clear HO_10; clear BK160; clear BK161; clear HB; have HO_10 := n0_; have BK160 := n1_; have BK161 := n2_; have HB := n3_; have BK165 := n4_; have GW165 := n5_; have GE165 := n6_; have NB160_165 := n7_; have NB165_160 := n8_; have NB161_165 := n9_; have NB165_161 := n10_; clear n0_ n1_ n2_ n3_ n4_ n5_ n6_ n7_ n8_ n9_ n10_; clear hb hbox hg; have hnb26 := NB165_160.out; have hnc26 := NB160_165.out; have hnb27 := NB165_161.out; have hnc27 := NB161_165.out; have hcz28_0 : w25.cell? ⟨gb165, 0, none⟩ = some (.int .i64 0) := (blk_cell BK165.out 0).trans rfl; have hcz28_1 : w25.cell? ⟨gb165, 1, none⟩ = some (.int .i64 0) := (blk_cell BK165.out 1).trans rfl; have hfz28_0 := blk_frozen BK165.out 0; have hfz28_1 := blk_frozen BK165.out 1; obtain ⟨Ao29, co29, eo29⟩ := Kd.R_slice HO_10.out; subst eo29)))
       (try simp only [Act.put, List.setIfInBounds_toArray, List.set_cons_zero, List.set_cons_succ])
       go_cut [71] (fun v71 wc => ∃ (kq : Nat) (x71_21 : Bool), v71 = .bool x71_21 ∧ Aside0 (wheel_dial_areas.j2 kq l1 a2 x10_1 t163 (x10_1.length : Int) x71_21 a0_0 a0_1 a3_0 x162001_1 ji20 ji21 = some (r1, r2)) ∧ Aside0 (kq ≤ kj10) ∧ Aside0 (Kd.R k59 59 wc w.heap.size (fun k_ => k_ ≠ gb161 ∧ k_ ≠ gb165) (.slice Ao29 x10_1.length co29) x10_1) ∧ Aside0 (wc.heap[gb160]? = some (.cells #[.int .i64 a0_0, .int .i64 a0_1] 108 (0, 0))) ∧ Aside0 (wc.heap[gb161]? = some (.cells #[.int .i64 a3_0, .int .i64 x162001_1] 59 (0, 0))) ∧ Aside0 (wc.heap[gb165]? = some (.cells #[.int .i64 ji20, .int .i64 ji21] 59 (0, 0))) ∧ Aside0 (Below w.heap.size w wc))
       case first =>
        have H := HC22.out
        clear HC22
        by_cases c30 : (x10_1.length : Int) > 0
        ·rw [if_pos c30] at H
         have c30b0 : decide (0 < (x10_1.length : Int)) = true := decide_eq_true c30
         have c30b1 : decide (0 < x10_1.length) = true := decide_eq_true (by omega)
         clear c30
         (first | rw [c30b0] | (simp only [i64_w, i32_w]; rw [c30b0]) | skip)
         obtain ⟨ji31, hji31⟩ : ∃ j_ : Int, (wrap64 ((x10_1.length : Int) - 1)) = j_ := ⟨_, rfl⟩
         replace H : (if 0 ≤ (ji31) then (if (ji31) < (x10_1.length : Int) then (wheel_dial_areas.j2 kj10 l1 a2 x10_1 t163 (x10_1.length : Int) (decide ((wrap64 (((rd_T59 x10_1 (ji31)).f1) + 1)) ≥ (ji20))) a0_0 a0_1 a3_0 x162001_1 ji20 ji21) else (none)) else (none)) = some (r1, r2) := by first | (rw [hji31] at H; exact H) | (simp only [hji31] at H ⊢; exact H)
         have hji31w : (IntKind.i64.wrap ((x10_1.length : Int) - 1)) = ji31 := (i64_w _).trans hji31
         by_cases c32 : 0 ≤ (ji31)
         ·rw [if_pos c32] at H
          have c32b0 : decide (0 ≤ (ji31)) = true := decide_eq_true c32
          clear c32
          by_cases c33 : (ji31) < (x10_1.length : Int)
          ·rw [if_pos c33] at H
           have c33b0 : decide ((ji31) < (x10_1.length : Int)) = true := decide_eq_true c33
           clear c33
           have H' := Aside0.mk H
           clear H
           have p166 : 0 ≤ ((ji31) : Int) := of_decide_eq_true aq
           have q166 : (ji31) < (x10_1.length : Int) := of_decide_eq_true aq
           obtain ⟨ad166, e166, hx166_0, hx166_1⟩ := at_T59 (Kd.R_reads' HO_10.out).2.2 (ji31) p166 q166
           cases e166
           have hn166_0 : ad166.block ≠ gb165 := Kd.own_blk (by first | exact Kd.R_ne HO_10.out BK165.out (by decide) | exact fun e_ => absurd rfl (HO_10.out.1 _ e_.symm).2 | exact fun e_ => absurd rfl (HO_10.out.1 _ e_.symm).1.2)
           have hn166_1 : ad166.block ≠ gb165 := Kd.own_blk (by first | exact Kd.R_ne HO_10.out BK165.out (by decide) | exact fun e_ => absurd rfl (HO_10.out.1 _ e_.symm).2 | exact fun e_ => absurd rfl (HO_10.out.1 _ e_.symm).1.2)
           replace hx166_0 := (cell_far (p := ⟨gb165, 0, none⟩) (by first | (rw [add_block]; exact hn166_0) | (show (Addr.add _ _).block ≠ _; rw [add_block]; exact hn166_0) | exact hn166_0) (.int .i64 ji20)).trans hx166_0
           replace hx166_1 := (cell_far (p := ⟨gb165, 0, none⟩) (by first | (rw [add_block]; exact hn166_0) | (show (Addr.add _ _).block ≠ _; rw [add_block]; exact hn166_0) | exact hn166_0) (.int .i64 ji20)).trans hx166_1
           replace hx166_0 := (cell_far (p := ⟨gb165, 1, none⟩) (by first | (rw [add_block]; exact hn166_1) | (show (Addr.add _ _).block ≠ _; rw [add_block]; exact hn166_1) | exact hn166_1) (.int .i64 ji21)).trans hx166_0
           replace hx166_1 := (cell_far (p := ⟨gb165, 1, none⟩) (by first | (rw [add_block]; exact hn166_1) | (show (Addr.add _ _).block ≠ _; rw [add_block]; exact hn166_1) | exact hn166_1) (.int .i64 ji21)).trans hx166_1
           (try have hy166_0 := fun (n_ : Nat) => (show ((((w25.drewN n_).setCell ⟨gb165, 0, none⟩ (.int .i64 ji20)).setCell ⟨gb165, 1, none⟩ (.int .i64 ji21))).cell? _ = some _ from hx166_0))
           (try have hy166_1 := fun (n_ : Nat) => (show ((((w25.drewN n_).setCell ⟨gb165, 0, none⟩ (.int .i64 ji20)).setCell ⟨gb165, 1, none⟩ (.int .i64 ji21))).cell? _ = some _ from hx166_1))
           clear hn166_0
           clear hn166_1
           replace p166 := eq_true p166
           replace q166 := eq_true q166
           have hnb34 := NB165_160.out
           have hnc34 := NB160_165.out
           have hnb35 := NB165_161.out
           have hnc35 := NB161_165.out
           have hcz36_0 : w25.cell? ⟨gb165, 0, none⟩ = some (.int .i64 0) := (blk_cell BK165.out 0).trans rfl
           have hcz36_1 : w25.cell? ⟨gb165, 1, none⟩ = some (.int .i64 0) := (blk_cell BK165.out 1).trans rfl
           have hfz36_0 := blk_frozen BK165.out 0
           have hfz36_1 := blk_frozen BK165.out 1
           go_wp2
           repeat (go_quiet (fail); try go_wp2)
           go_meet
           case rel => exact ⟨_, (decide ((wrap64 (((rd_T59 x10_1 (ji31)).f1) + 1)) ≥ (ji20))), (by first | rfl | (simp; done) | (simp only [← hji20, ← hji31] <;> (first | rfl | simp)) | (simp [*]; done)), H', ⟨by have := HK1.out; have := HJ10.out; first | omega | exact Nat.le_refl _⟩, ⟨by (with_reducible repeat (first | apply Kd.R_alloc | apply Kd.R_drewN | apply Kd.R_drew)); exact Kd.R_mono (Kd.R_far (p := ⟨gb165, 1, none⟩) (Kd.R_far (p := ⟨gb165, 0, none⟩) (Kd.R_mono HO_10.out (fun k_ hk => (⟨hk, hk.2⟩ : _ ∧ k_ ≠ gb165))) (fun _ hk => hk.2) (.int .i64 ji20)) (fun _ hk => hk.2) (.int .i64 ji21)) (fun _ hk => ⟨hk.1.1, hk.1.2⟩)⟩, ⟨by (with_reducible repeat (first | refine blk_drewN ?_ _ | refine blk_drew ?_ | refine blk_alloc ?_ _)); refine blk_far ?_ NB160_165.out _; (with_reducible repeat (first | refine blk_drewN ?_ _ | refine blk_drew ?_ | refine blk_alloc ?_ _)); refine blk_far ?_ NB160_165.out _; (with_reducible repeat (first | refine blk_drewN ?_ _ | refine blk_drew ?_ | refine blk_alloc ?_ _)); exact BK160.out⟩, ⟨by (with_reducible repeat (first | refine blk_drewN ?_ _ | refine blk_drew ?_ | refine blk_alloc ?_ _)); refine blk_far ?_ NB161_165.out _; (with_reducible repeat (first | refine blk_drewN ?_ _ | refine blk_drew ?_ | refine blk_alloc ?_ _)); refine blk_far ?_ NB161_165.out _; (with_reducible repeat (first | refine blk_drewN ?_ _ | refine blk_drew ?_ | refine blk_alloc ?_ _)); exact BK161.out⟩, ⟨by (with_reducible repeat (first | refine blk_drewN ?_ _ | refine blk_drew ?_ | refine blk_alloc ?_ _)); refine blk_put (cs := #[.int .i64 ji20, .int .i64 0]) ?_ 1 _ rfl; (with_reducible repeat (first | refine blk_drewN ?_ _ | refine blk_drew ?_ | refine blk_alloc ?_ _)); refine blk_put (cs := #[.int .i64 0, .int .i64 0]) ?_ 0 _ rfl; (with_reducible repeat (first | refine blk_drewN ?_ _ | refine blk_drew ?_ | refine blk_alloc ?_ _)); exact BK165.out⟩, ⟨by repeat (first | (with_reducible first | exact HB.out | apply below_alloc | apply pw_below_drewN | apply below_drew1 | refine below_set ?_ GE160.out | refine below_set ?_ GE161.out | refine below_set ?_ GE165.out) | exact HB.out)⟩⟩
          ·rw [if_neg c33] at H
           exact absurd H (by simp)
         ·rw [if_neg c32] at H
          exact absurd H (by simp)
        ·rw [if_neg c30] at H
         have c30b0 : decide (0 < (x10_1.length : Int)) = false := decide_eq_false c30
         have c30b1 : decide (0 < x10_1.length) = false := decide_eq_false (by omega)
         clear c30
         (first | rw [c30b0] | (simp only [i64_w, i32_w]; rw [c30b0]) | skip)
         have H' := Aside0.mk H
         clear H
         go_wp2
         repeat (go_quiet (fail); try go_wp2)
         go_meet
         case rel => exact ⟨_, (false), (by first | rfl | (simp; done) | (simp [*]; done)), H', ⟨by have := HK1.out; have := HJ10.out; first | omega | exact Nat.le_refl _⟩, ⟨by (with_reducible repeat (first | apply Kd.R_alloc | apply Kd.R_drewN | apply Kd.R_drew)); exact Kd.R_mono (Kd.R_far (p := ⟨gb165, 1, none⟩) (Kd.R_far (p := ⟨gb165, 0, none⟩) (Kd.R_mono HO_10.out (fun k_ hk => (⟨hk, hk.2⟩ : _ ∧ k_ ≠ gb165))) (fun _ hk => hk.2) (.int .i64 ji20)) (fun _ hk => hk.2) (.int .i64 ji21)) (fun _ hk => ⟨hk.1.1, hk.1.2⟩)⟩, ⟨by (with_reducible repeat (first | refine blk_drewN ?_ _ | refine blk_drew ?_ | refine blk_alloc ?_ _)); refine blk_far ?_ NB160_165.out _; (with_reducible repeat (first | refine blk_drewN ?_ _ | refine blk_drew ?_ | refine blk_alloc ?_ _)); refine blk_far ?_ NB160_165.out _; (with_reducible repeat (first | refine blk_drewN ?_ _ | refine blk_drew ?_ | refine blk_alloc ?_ _)); exact BK160.out⟩, ⟨by (with_reducible repeat (first | refine blk_drewN ?_ _ | refine blk_drew ?_ | refine blk_alloc ?_ _)); refine blk_far ?_ NB161_165.out _; (with_reducible repeat (first | refine blk_drewN ?_ _ | refine blk_drew ?_ | refine blk_alloc ?_ _)); refine blk_far ?_ NB161_165.out _; (with_reducible repeat (first | refine blk_drewN ?_ _ | refine blk_drew ?_ | refine blk_alloc ?_ _)); exact BK161.out⟩, ⟨by (with_reducible repeat (first | refine blk_drewN ?_ _ | refine blk_drew ?_ | refine blk_alloc ?_ _)); refine blk_put (cs := #[.int .i64 ji20, .int .i64 0]) ?_ 1 _ rfl; (with_reducible repeat (first | refine blk_drewN ?_ _ | refine blk_drew ?_ | refine blk_alloc ?_ _)); refine blk_put (cs := #[.int .i64 0, .int .i64 0]) ?_ 0 _ rfl; (with_reducible repeat (first | refine blk_drewN ?_ _ | refine blk_drew ?_ | refine blk_alloc ?_ _)); exact BK165.out⟩, ⟨by repeat (first | (with_reducible first | exact HB.out | apply below_alloc | apply pw_below_drewN | apply below_drew1 | refine below_set ?_ GE160.out | refine below_set ?_ GE161.out | refine below_set ?_ GE165.out) | exact HB.out)⟩⟩
       case rest =>
        clear HC22
        try clear c1
        try clear p1
        try clear q1
        try clear hx1
        try clear c2
        try clear p2
        try clear c3
        try clear c5
        try clear c5b0
        try clear c5b1
        try clear p6
        try clear c8
        try clear c9
        try clear c12
        try clear c15
        try clear c16
        try clear c16b0
        try clear c16b1
        try clear p16
        try clear q16
        try clear hx16
        try clear c17
        try clear c19
        try clear c23
        try clear c26
        try clear c27
        try clear c30
        try clear c30b0
        try clear c30b1
        try clear c32
        try clear c32b0
        try clear c33
        try clear c33b0
        try clear c34
        try clear c35
        try clear hcz13_0
        try clear hcz13_1
        try clear hcz18_0
        try clear hcz18_1
        try clear hcz24_0
        try clear hcz24_1
        try clear hcz28_0
        try clear hcz28_1
        try clear hcz36_0
        try clear hcz36_1
        try clear hcz9_0
        try clear hcz9_1
        try clear hfz13_0
        try clear hfz13_1
        try clear hfz18_0
        try clear hfz18_1
        try clear hfz24_0
        try clear hfz24_1
        try clear hfz28_0
        try clear hfz28_1
        try clear hfz36_0
        try clear hfz36_1
        try clear hfz9_0
        try clear hfz9_1
        try clear hx166_0
        try clear hx166_1
        try clear p166
        try clear p2
        try clear p6
        try clear q166
        obtain ⟨kq, x71_21, rfl, HA, HJ21, HO_10, BK160, BK161, BK165, HB⟩ := hcut
        cases kq with
        |zero => exact absurd HA.out (by simp [wheel_dial_areas.j2])
        |succ kj21 =>
         have H := HA.out
         clear HA
         simp only [wheel_dial_areas.j2] at H
         by_cases c37 : x71_21 = true
         ·subst c37
          have H1 : (if 0 ≤ (wrap64 ((x10_1.length : Int) - 1)) then (if (wrap64 ((x10_1.length : Int) - 1)) < (x10_1.length : Int) then (wheel_dial_areas.l0 kj21 l1 a2 (x10_1.set ((wrap64 ((x10_1.length : Int) - 1)) : Int).toNat (⟨(rd_T59 x10_1 (wrap64 ((x10_1.length : Int) - 1))).f0, ji21⟩ : S59)) (wrap64 (t163 + 1)) a0_0 a0_1 a3_0 x162001_1) else (none)) else (none)) = some (r1, r2) := by rw [if_pos rfl] at H; exact H
          clear H
          have H := H1
          clear H1
          obtain ⟨ji38, hji38⟩ : ∃ j_ : Int, (wrap64 ((x10_1.length : Int) - 1)) = j_ := ⟨_, rfl⟩
          replace H : (if 0 ≤ (ji38) then (if (ji38) < (x10_1.length : Int) then (wheel_dial_areas.l0 kj21 l1 a2 (x10_1.set ((ji38) : Int).toNat (⟨(rd_T59 x10_1 (ji38)).f0, ji21⟩ : S59)) (wrap64 (t163 + 1)) a0_0 a0_1 a3_0 x162001_1) else (none)) else (none)) = some (r1, r2) := by first | (rw [hji38] at H; exact H) | (simp only [hji38] at H ⊢; exact H)
          have hji38w : (IntKind.i64.wrap ((x10_1.length : Int) - 1)) = ji38 := (i64_w _).trans hji38
          by_cases c39 : 0 ≤ (ji38)
          ·rw [if_pos c39] at H
           have c39b0 : decide (0 ≤ (ji38)) = true := decide_eq_true c39
           clear c39
           by_cases c40 : (ji38) < (x10_1.length : Int)
           ·rw [if_pos c40] at H
            have c40b0 : decide ((ji38) < (x10_1.length : Int)) = true := decide_eq_true c40
            clear c40
            obtain ⟨y167, hy167⟩ : ∃ y_ : List (S59), y_ = (x10_1.set ((ji38) : Int).toNat (⟨(rd_T59 x10_1 (ji38)).f0, ji21⟩ : S59)) := ⟨_, rfl⟩
            replace H : (wheel_dial_areas.l0 kj21 l1 a2 y167 (wrap64 (t163 + 1)) a0_0 a0_1 a3_0 x162001_1) = some (r1, r2) := by first | (rw [hy167]; with_reducible exact H) | (have H2_ := (Option.bind_some _ _).symm.trans H; rw [hy167]; with_reducible exact H2_) | (have H2_ := (Option.bind_some _ _).symm.trans H; with_reducible exact H2_) | with_reducible exact H | (rw [hy167]; exact H) | exact H
            have Ny167 := Aside0.mk hy167
            clear hy167
            have H' := Aside0.mk H
            clear H
            have hnb42 := NB165_160.out
            have hnc42 := NB160_165.out
            have hnb43 := NB165_161.out
            have hnc43 := NB161_165.out
            have hcz44_0 : wc.cell? ⟨gb165, 0, none⟩ = some (.int .i64 ji20) := (blk_cell BK165.out 0).trans rfl
            have hcz44_1 : wc.cell? ⟨gb165, 1, none⟩ = some (.int .i64 ji21) := (blk_cell BK165.out 1).trans rfl
            have hfz44_0 := blk_frozen BK165.out 0
            have hfz44_1 := blk_frozen BK165.out 1
            have p41 : 0 ≤ ((ji38) : Int) := of_decide_eq_true aq
            have q41 : ((ji38) : Int) < ((x10_1.length : Int) : Int) := of_decide_eq_true aq
            obtain ⟨go41, co41, eo41, gb41, gl41, cl41, HG41⟩ := Kd.R_form HO_10.out (by omega)
            (first | cases eo41 | (injection eo41 with ea_ en_ ec_; (first | subst ea_ | (injection ea_ with ea_; subst ea_)); subst ec_; clear en_))
            have GB41 := Aside0.mk gb41
            have GG41 := Aside0.mk HG41
            clear gb41 gl41 HG41
            obtain ⟨ce41, hcl41, hM41, hcc41, hfr41⟩ := Kd.R_elem HO_10.out z59 ((ji38) : Int) p41 q41
            obtain rfl := k59_openM hM41
            have hx41_0 : wc.cell? ⟨go41, ((ji38) : Int).toNat * 2, none⟩ = some (.int .i64 ((rd_T59 x10_1 (ji38)).f0)) := hcc41 0 _ rfl
            have hx41_1 : wc.cell? ⟨go41, ((ji38) : Int).toNat * 2 + 1, none⟩ = some (.int .i64 ((rd_T59 x10_1 (ji38)).f1)) := hcc41 1 _ rfl
            have hf41_0 : wc.frozen? ⟨go41, ((ji38) : Int).toNat * 2, none⟩ = false := hfr41 0
            have hf41_1 : wc.frozen? ⟨go41, ((ji38) : Int).toNat * 2 + 1, none⟩ = false := hfr41 1
            clear hcl41 hcc41 hfr41 hM41
            replace p41 := eq_true p41
            replace q41 := eq_true q41
            have HX45 := Aside0.mk (show Kd.R k59 59 wc w.heap.size (fun k_ => k_ ≠ gb161 ∧ k_ ≠ gb165) (.slice (some ⟨go41, 0, none⟩) x10_1.length co29) x10_1 from (rq HO_10.out))
            obtain ⟨ce45, hcl45, hM45, hcc45, hfr45⟩ := Kd.R_elem HX45.out z59 ((ji38) : Int) (of_decide_eq_true aq) (by have h_ : ((ji38) : Int) < ((x10_1.length : Int) : Int) := of_decide_eq_true aq; first | exact h_ | (have e_ := (Kd.R_reads' HO_10.out).1; omega) | simpa using h_)
            obtain rfl := k59_openM hM45
            have HP45 := Kd.R_seg HX45.out ((ji38) : Int) (of_decide_eq_true aq) (by have h_ : ((ji38) : Int) < ((x10_1.length : Int) : Int) := of_decide_eq_true aq; first | exact h_ | (have e_ := (Kd.R_reads' HO_10.out).1; omega) | simpa using h_) (seg := [.int .i64 ji21]) (j := 1) hcl45 hcc45 (show 2 ≤ 2 from by decide) (x' := (⟨(rd_T59 x10_1 (ji38)).f0, ji21⟩ : S59)) (k59_mkM _ _ _ (⟨(rd_T59 x10_1 (ji38)).f0, ji21⟩ : S59) ) (fun _ hk => hk)
            have hx45_1 := hcc45 1 _ rfl
            (try simp only [show (k59).sz = 2 from rfl, Nat.mul_one, Nat.add_zero] at hx45_1)
            have hf45_1 := hfr45 1
            (try simp only [show (k59).sz = 2 from rfl, Nat.mul_one, Nat.add_zero] at hf45_1)
            clear hcl45 hcc45 hfr45 hM45
            go_wp2_with (first | ((with_reducible refine gate_store (t := 3) (p := 78) rfl ?_); (try (rw [drewN_self wc]; generalize hq_ : World.drewN wc _ = wc; have n0_ := Aside0.mk (Kd.R_at hq_ HO_10.out); have n1_ := Aside0.mk (blk_at hq_ BK160.out); have n2_ := Aside0.mk (blk_at hq_ BK161.out); have n3_ := Aside0.mk (blk_at hq_ BK165.out); have n4_ := Aside0.mk (below_at hq_ HB.out); clear hq_ HO_10 BK160 BK161 BK165 HB; have HO_10 := n0_; have BK160 := n1_; have BK161 := n2_; have BK165 := n3_; have HB := n4_; clear n0_ n1_ n2_ n3_ n4_; (try (have HX45 := Aside0.mk (show Kd.R k59 59 wc w.heap.size (fun k_ => k_ ≠ gb161 ∧ k_ ≠ gb165) (.slice (some ⟨go41, 0, none⟩) x10_1.length co29) x10_1 from (rq HO_10.out)))); (try (obtain ⟨ce45, hcl45, hM45, hcc45, hfr45⟩ := Kd.R_elem HX45.out z59 ((ji38) : Int) (of_decide_eq_true aq) (by have h_ : ((ji38) : Int) < ((x10_1.length : Int) : Int) := of_decide_eq_true aq; first | exact h_ | (have e_ := (Kd.R_reads' HO_10.out).1; omega) | simpa using h_))); (try (obtain rfl := k59_openM hM45)); (try (have HP45 := Kd.R_seg HX45.out ((ji38) : Int) (of_decide_eq_true aq) (by have h_ : ((ji38) : Int) < ((x10_1.length : Int) : Int) := of_decide_eq_true aq; first | exact h_ | (have e_ := (Kd.R_reads' HO_10.out).1; omega) | simpa using h_) (seg := [.int .i64 ji21]) (j := 1) hcl45 hcc45 (show 2 ≤ 2 from by decide) (x' := (⟨(rd_T59 x10_1 (ji38)).f0, ji21⟩ : S59)) (k59_mkM _ _ _ (⟨(rd_T59 x10_1 (ji38)).f0, ji21⟩ : S59) ) (fun _ hk => hk))); (try (have hx45_1 := hcc45 1 _ rfl)); (try (try simp only [show (k59).sz = 2 from rfl, Nat.mul_one, Nat.add_zero] at hx45_1)); (try (have hf45_1 := hfr45 1)); (try (try simp only [show (k59).sz = 2 from rfl, Nat.mul_one, Nat.add_zero] at hf45_1)); (try (clear hcl45 hcc45 hfr45 hM45)))); refine store_event (t := 3) (p := 78) (v := ?vo_w46) (w1 := (wc.setCell ⟨go41, ((ji38) : Int).toNat * 2 + 1, none⟩ (.int .i64 ji21))) ?hg ?ho ?hn ?hr ?_; (case ho => rfl); (case hg => rfl); (case hn => rfl); (case hr => first | (go_simp; done) | (go_simp; rfl)); intro w46 hw; have hg : wc.grownBy w46 (some go41) := (by rw [hw]; exact HP45.2); have hp_ : Kd.R k59 59 w46 w.heap.size (fun k_ => k_ ≠ gb161 ∧ k_ ≠ gb165) (.slice (some ⟨go41, 0, none⟩) x10_1.length co29) y167 := (by rw [hw, Ny167.out]; exact HP45.1); clear HP45; have n0_ := Aside0.mk (hp_); have n1_ := Aside0.mk (blk_grown (g := gb160) (o := .cells #[.int .i64 a0_0, .int .i64 a0_1] 108 (0, 0)) (bq BK160.out) hg (by first | exact Kd.R_ne HO_10.out BK160.out (by decide) | exact fun e_ => absurd rfl (HO_10.out.1 _ e_.symm).2 | exact fun e_ => absurd rfl (HO_10.out.1 _ e_.symm).1.2)); have n2_ := Aside0.mk (blk_grown (g := gb161) (o := .cells #[.int .i64 a3_0, .int .i64 x162001_1] 59 (0, 0)) (bq BK161.out) hg (Kd.R_away HO_10.out (fun _ hk => hk.1))); have n3_ := Aside0.mk (blk_grown (g := gb165) (o := .cells #[.int .i64 ji20, .int .i64 ji21] 59 (0, 0)) (bq BK165.out) hg (Kd.R_away HO_10.out (fun _ hk => hk.2))); have n4_ := Aside0.mk ((by rw [hw]; exact below_set (HB.out) GB41.out : Below w.heap.size w w46)); clear HO_10; clear BK160; clear BK161; clear BK165; clear HB; have HO_10 := n0_; have BK160 := n1_; have BK161 := n2_; have BK165 := n3_; have HB := n4_; clear n0_ n1_ n2_ n3_ n4_; clear hg hw hp_))
            repeat (go_quiet (first | ((with_reducible refine gate_store (t := 3) (p := 78) rfl ?_); (try (rw [drewN_self wc]; generalize hq_ : World.drewN wc _ = wc; have n0_ := Aside0.mk (Kd.R_at hq_ HO_10.out); have n1_ := Aside0.mk (blk_at hq_ BK160.out); have n2_ := Aside0.mk (blk_at hq_ BK161.out); have n3_ := Aside0.mk (blk_at hq_ BK165.out); have n4_ := Aside0.mk (below_at hq_ HB.out); clear hq_ HO_10 BK160 BK161 BK165 HB; have HO_10 := n0_; have BK160 := n1_; have BK161 := n2_; have BK165 := n3_; have HB := n4_; clear n0_ n1_ n2_ n3_ n4_; (try (have HX45 := Aside0.mk (show Kd.R k59 59 wc w.heap.size (fun k_ => k_ ≠ gb161 ∧ k_ ≠ gb165) (.slice (some ⟨go41, 0, none⟩) x10_1.length co29) x10_1 from (rq HO_10.out)))); (try (obtain ⟨ce45, hcl45, hM45, hcc45, hfr45⟩ := Kd.R_elem HX45.out z59 ((ji38) : Int) (of_decide_eq_true aq) (by have h_ : ((ji38) : Int) < ((x10_1.length : Int) : Int) := of_decide_eq_true aq; first | exact h_ | (have e_ := (Kd.R_reads' HO_10.out).1; omega) | simpa using h_))); (try (obtain rfl := k59_openM hM45)); (try (have HP45 := Kd.R_seg HX45.out ((ji38) : Int) (of_decide_eq_true aq) (by have h_ : ((ji38) : Int) < ((x10_1.length : Int) : Int) := of_decide_eq_true aq; first | exact h_ | (have e_ := (Kd.R_reads' HO_10.out).1; omega) | simpa using h_) (seg := [.int .i64 ji21]) (j := 1) hcl45 hcc45 (show 2 ≤ 2 from by decide) (x' := (⟨(rd_T59 x10_1 (ji38)).f0, ji21⟩ : S59)) (k59_mkM _ _ _ (⟨(rd_T59 x10_1 (ji38)).f0, ji21⟩ : S59) ) (fun _ hk => hk))); (try (have hx45_1 := hcc45 1 _ rfl)); (try (try simp only [show (k59).sz = 2 from rfl, Nat.mul_one, Nat.add_zero] at hx45_1)); (try (have hf45_1 := hfr45 1)); (try (try simp only [show (k59).sz = 2 from rfl, Nat.mul_one, Nat.add_zero] at hf45_1)); (try (clear hcl45 hcc45 hfr45 hM45)))); refine store_event (t := 3) (p := 78) (v := ?vo_w46) (w1 := (wc.setCell ⟨go41, ((ji38) : Int).toNat * 2 + 1, none⟩ (.int .i64 ji21))) ?hg ?ho ?hn ?hr ?_; (case ho => rfl); (case hg => rfl); (case hn => rfl); (case hr => first | (go_simp; done) | (go_simp; rfl)); intro w46 hw; have hg : wc.grownBy w46 (some go41) := (by rw [hw]; exact HP45.2); have hp_ : Kd.R k59 59 w46 w.heap.size (fun k_ => k_ ≠ gb161 ∧ k_ ≠ gb165) (.slice (some ⟨go41, 0, none⟩) x10_1.length co29) y167 := (by rw [hw, Ny167.out]; exact HP45.1); clear HP45; have n0_ := Aside0.mk (hp_); have n1_ := Aside0.mk (blk_grown (g := gb160) (o := .cells #[.int .i64 a0_0, .int .i64 a0_1] 108 (0, 0)) (bq BK160.out) hg (by first | exact Kd.R_ne HO_10.out BK160.out (by decide) | exact fun e_ => absurd rfl (HO_10.out.1 _ e_.symm).2 | exact fun e_ => absurd rfl (HO_10.out.1 _ e_.symm).1.2)); have n2_ := Aside0.mk (blk_grown (g := gb161) (o := .cells #[.int .i64 a3_0, .int .i64 x162001_1] 59 (0, 0)) (bq BK161.out) hg (Kd.R_away HO_10.out (fun _ hk => hk.1))); have n3_ := Aside0.mk (blk_grown (g := gb165) (o := .cells #[.int .i64 ji20, .int .i64 ji21] 59 (0, 0)) (bq BK165.out) hg (Kd.R_away HO_10.out (fun _ hk => hk.2))); have n4_ := Aside0.mk ((by rw [hw]; exact below_set (HB.out) GB41.out : Below w.heap.size w w46)); clear HO_10; clear BK160; clear BK161; clear BK165; clear HB; have HO_10 := n0_; have BK160 := n1_; have BK161 := n2_; have BK165 := n3_; have HB := n4_; clear n0_ n1_ n2_ n3_ n4_; clear hg hw hp_)); try go_wp2_with (first | ((with_reducible refine gate_store (t := 3) (p := 78) rfl ?_); (try (rw [drewN_self wc]; generalize hq_ : World.drewN wc _ = wc; have n0_ := Aside0.mk (Kd.R_at hq_ HO_10.out); have n1_ := Aside0.mk (blk_at hq_ BK160.out); have n2_ := Aside0.mk (blk_at hq_ BK161.out); have n3_ := Aside0.mk (blk_at hq_ BK165.out); have n4_ := Aside0.mk (below_at hq_ HB.out); clear hq_ HO_10 BK160 BK161 BK165 HB; have HO_10 := n0_; have BK160 := n1_; have BK161 := n2_; have BK165 := n3_; have HB := n4_; clear n0_ n1_ n2_ n3_ n4_; (try (have HX45 := Aside0.mk (show Kd.R k59 59 wc w.heap.size (fun k_ => k_ ≠ gb161 ∧ k_ ≠ gb165) (.slice (some ⟨go41, 0, none⟩) x10_1.length co29) x10_1 from (rq HO_10.out)))); (try (obtain ⟨ce45, hcl45, hM45, hcc45, hfr45⟩ := Kd.R_elem HX45.out z59 ((ji38) : Int) (of_decide_eq_true aq) (by have h_ : ((ji38) : Int) < ((x10_1.length : Int) : Int) := of_decide_eq_true aq; first | exact h_ | (have e_ := (Kd.R_reads' HO_10.out).1; omega) | simpa using h_))); (try (obtain rfl := k59_openM hM45)); (try (have HP45 := Kd.R_seg HX45.out ((ji38) : Int) (of_decide_eq_true aq) (by have h_ : ((ji38) : Int) < ((x10_1.length : Int) : Int) := of_decide_eq_true aq; first | exact h_ | (have e_ := (Kd.R_reads' HO_10.out).1; omega) | simpa using h_) (seg := [.int .i64 ji21]) (j := 1) hcl45 hcc45 (show 2 ≤ 2 from by decide) (x' := (⟨(rd_T59 x10_1 (ji38)).f0, ji21⟩ : S59)) (k59_mkM _ _ _ (⟨(rd_T59 x10_1 (ji38)).f0, ji21⟩ : S59) ) (fun _ hk => hk))); (try (have hx45_1 := hcc45 1 _ rfl)); (try (try simp only [show (k59).sz = 2 from rfl, Nat.mul_one, Nat.add_zero] at hx45_1)); (try (have hf45_1 := hfr45 1)); (try (try simp only [show (k59).sz = 2 from rfl, Nat.mul_one, Nat.add_zero] at hf45_1)); (try (clear hcl45 hcc45 hfr45 hM45)))); refine store_event (t := 3) (p := 78) (v := ?vo_w46) (w1 := (wc.setCell ⟨go41, ((ji38) : Int).toNat * 2 + 1, none⟩ (.int .i64 ji21))) ?hg ?ho ?hn ?hr ?_; (case ho => rfl); (case hg => rfl); (case hn => rfl); (case hr => first | (go_simp; done) | (go_simp; rfl)); intro w46 hw; have hg : wc.grownBy w46 (some go41) := (by rw [hw]; exact HP45.2); have hp_ : Kd.R k59 59 w46 w.heap.size (fun k_ => k_ ≠ gb161 ∧ k_ ≠ gb165) (.slice (some ⟨go41, 0, none⟩) x10_1.length co29) y167 := (by rw [hw, Ny167.out]; exact HP45.1); clear HP45; have n0_ := Aside0.mk (hp_); have n1_ := Aside0.mk (blk_grown (g := gb160) (o := .cells #[.int .i64 a0_0, .int .i64 a0_1] 108 (0, 0)) (bq BK160.out) hg (by first | exact Kd.R_ne HO_10.out BK160.out (by decide) | exact fun e_ => absurd rfl (HO_10.out.1 _ e_.symm).2 | exact fun e_ => absurd rfl (HO_10.out.1 _ e_.symm).1.2)); have n2_ := Aside0.mk (blk_grown (g := gb161) (o := .cells #[.int .i64 a3_0, .int .i64 x162001_1] 59 (0, 0)) (bq BK161.out) hg (Kd.R_away HO_10.out (fun _ hk => hk.1))); have n3_ := Aside0.mk (blk_grown (g := gb165) (o := .cells #[.int .i64 ji20, .int .i64 ji21] 59 (0, 0)) (bq BK165.out) hg (Kd.R_away HO_10.out (fun _ hk => hk.2))); have n4_ := Aside0.mk ((by rw [hw]; exact below_set (HB.out) GB41.out : Below w.heap.size w w46)); clear HO_10; clear BK160; clear BK161; clear BK165; clear HB; have HO_10 := n0_; have BK160 := n1_; have BK161 := n2_; have BK165 := n3_; have HB := n4_; clear n0_ n1_ n2_ n3_ n4_; clear hg hw hp_)))
            go_roundg kj21
            case measure => have := HK1.out; have := HJ10.out; have := HJ21.out; omega
            case rel => exact ⟨(y167), (wrap64 (t163 + 1)), (x162001_1), (by first | rfl | (simp; done) | (simp [*]; done)), H', ⟨by have := HK1.out; have := HJ10.out; have := HJ21.out; omega⟩, ⟨by (with_reducible repeat (first | apply Kd.R_alloc | apply Kd.R_drewN | apply Kd.R_drew)); exact Kd.R_mono HO_10.out (fun _ hk => hk.1)⟩, ⟨bq BK160.out⟩, ⟨bq BK161.out⟩, ⟨by repeat (first | (with_reducible first | exact HB.out | apply below_alloc | apply pw_below_drewN | apply below_drew1 | refine below_set ?_ GE160.out | refine below_set ?_ GE161.out | refine below_set ?_ GE165.out) | exact HB.out)⟩⟩
           ·rw [if_neg c40] at H
            exact absurd H (by simp)
          ·rw [if_neg c39] at H
           exact absurd H (by simp)
         ·replace c37 := Bool.eq_false_iff.mpr c37
          subst c37
          have H1 : (if (x10_1.length : Int) = 64 then (some (([] : List (S59)), 2)) else (if x10_1.length < 8796093022208 then (wheel_dial_areas.l0 kj21 l1 a2 (x10_1 ++ [(⟨ji20, ji21⟩ : S59)]) (wrap64 (t163 + 1)) a0_0 a0_1 a3_0 x162001_1) else (none))) = some (r1, r2) := by rw [if_neg (show ¬ (false = true) by decide)] at H; exact H
          clear H
          have H := H1
          clear H1
          by_cases c47 : (x10_1.length : Int) = 64
          ·rw [if_pos c47] at H
           have c47b0 : ((x10_1.length : Int) == 64) = true := beq_iff_eq.mpr c47
           have c47b1 : ((x10_1.length : Int) != 64) = false := bne_eq_false_iff_eq.mpr c47
           clear c47
           simp only [Option.some.injEq, Prod.mk.injEq] at H
           obtain ⟨rfl, rfl⟩ := H
           go_wp2
           repeat (go_quiet (fail); try go_wp2)
           go_ret2
           exact ⟨_, by first | rfl | (simp [errW_none, errW_some] <;> rfl) | (simp only [← hji20, ← hji21]; first | rfl | (simp [errW_none, errW_some] <;> rfl)) | (simp [*, errW_none, errW_some] <;> rfl), by first | exact Kd.R_nil _ _ _ _ _ | exact Kd.N_nil _ _ _ _ _ | exact Kd.V_nil _ _ _ _ _ | exact Kd.Q_nil _ _ _ _ _ | exact Kd.S_nil _ _ _ _ _, by repeat (first | (with_reducible first | exact HB.out | apply below_alloc | apply pw_below_drewN | apply below_drew1 | refine below_set ?_ GE160.out | refine below_set ?_ GE161.out | refine below_set ?_ GE165.out) | exact HB.out)⟩
          ·rw [if_neg c47] at H
           have c47b0 : ((x10_1.length : Int) == 64) = false := beq_eq_false_iff_ne.mpr c47
           have c47b1 : ((x10_1.length : Int) != 64) = true := bne_iff_ne.mpr c47
           by_cases c48 : x10_1.length < 8796093022208
           ·rw [if_pos c48] at H
            have LMc48 := Aside0.mk c48
            clear c48
            obtain ⟨y168, hy168⟩ : ∃ y_ : List (S59), y_ = (x10_1 ++ [(⟨ji20, ji21⟩ : S59)]) := ⟨_, rfl⟩
            replace H : (wheel_dial_areas.l0 kj21 l1 a2 y168 (wrap64 (t163 + 1)) a0_0 a0_1 a3_0 x162001_1) = some (r1, r2) := by first | (rw [hy168]; with_reducible exact H) | (have H2_ := (Option.bind_some _ _).symm.trans H; rw [hy168]; with_reducible exact H2_) | (have H2_ := (Option.bind_some _ _).symm.trans H; with_reducible exact H2_) | with_reducible exact H | (rw [hy168]; exact H) | exact H
            have Ny168 := Aside0.mk hy168
            clear hy168
            have H' := Aside0.mk H
            clear H
            have hnb49 := NB165_160.out
            have hnc49 := NB160_165.out
            have hnb50 := NB165_161.out
            have hnc50 := NB161_165.out
            have hcz51_0 : wc.cell? ⟨gb165, 0, none⟩ = some (.int .i64 ji20) := (blk_cell BK165.out 0).trans rfl
            have hcz51_1 : wc.cell? ⟨gb165, 1, none⟩ = some (.int .i64 ji21) := (blk_cell BK165.out 1).trans rfl
            have hfz51_0 := blk_frozen BK165.out 0
            have hfz51_1 := blk_frozen BK165.out 1
            go_wp2_with (first | ((with_reducible refine gate_builtin (b := .append) (xs := #[.tmp 81, .tmp 83]) rfl ?_); at_builtin; refine Kd.R_append k59 (w0 := w) w.heap.size rfl (.tmp 81) (.tmp 83) 27 59 (.agg #[(.int .i64 0), (.int .i64 0)]) 16 rfl Tryz.underlying27 info59 rfl (by decide) (by omega) (.slice Ao29 x10_1.length co29) x10_1 (⟨ji20, ji21⟩ : S59) [.int .i64 ji20, .int .i64 ji21] (fun k_ => k_ ≠ gb161 ∧ k_ ≠ gb165) (fun _ => False) rfl rfl ?aP (fun _ hk => hk.elim) ?aF ?aO ?aB ?aS ?aL ?_; (case aP => exact k59_mkM _ _ _ (⟨ji20, ji21⟩ : S59)); (case aB => exact (by repeat (first | (with_reducible first | exact HB.out | apply below_alloc | apply pw_below_drewN | apply below_drew1 | refine below_set ?_ GE160.out | refine below_set ?_ GE161.out | refine below_set ?_ GE165.out) | exact HB.out))); (case aF => exact (fun k_ hk => ⟨Kd.freshB (g := gb161) (o := .cells #[.int .i64 a3_0, .int .i64 x162001_1] 59 (0, 0)) (bq BK161.out) k_ hk, Kd.freshB (g := gb165) (o := .cells #[.int .i64 ji20, .int .i64 ji21] 59 (0, 0)) (bq BK165.out) k_ hk⟩)); (case aO => exact (rq HO_10.out)); (case aS => exact (below_size (by repeat (first | (with_reducible first | exact HB.out | apply below_alloc | apply pw_below_drewN | apply below_drew1 | refine below_set ?_ GE160.out | refine below_set ?_ GE161.out | refine below_set ?_ GE165.out) | exact HB.out)))); (case aL => have := LMc48.out; omega); intro v169 w52 ho hb hg hat; rw [← Ny168.out] at ho; have n0_ := Aside0.mk (blk_grown (g := gb160) (o := .cells #[.int .i64 a0_0, .int .i64 a0_1] 108 (0, 0)) (bq BK160.out) hg (by first | exact Kd.R_ne HO_10.out BK160.out (by decide) | exact fun e_ => absurd rfl (HO_10.out.1 _ e_.symm).2 | exact fun e_ => absurd rfl (HO_10.out.1 _ e_.symm).1.2)); have n1_ := Aside0.mk (blk_grown (g := gb161) (o := .cells #[.int .i64 a3_0, .int .i64 x162001_1] 59 (0, 0)) (bq BK161.out) hg (Kd.R_away HO_10.out (fun _ hk => hk.1))); have n2_ := Aside0.mk (blk_grown (g := gb165) (o := .cells #[.int .i64 ji20, .int .i64 ji21] 59 (0, 0)) (bq BK165.out) hg (Kd.R_away HO_10.out (fun _ hk => hk.2))); have n3_ := Aside0.mk (hb); have n4_ := Aside0.mk (ho); clear BK160; clear BK161; clear BK165; clear HB; clear HO_10; have BK160 := n0_; have BK161 := n1_; have BK165 := n2_; have HB := n3_; have HO170 := n4_; clear n0_ n1_ n2_ n3_ n4_; clear ho hb hg hat))
            repeat (go_quiet (first | ((with_reducible refine gate_builtin (b := .append) (xs := #[.tmp 81, .tmp 83]) rfl ?_); at_builtin; refine Kd.R_append k59 (w0 := w) w.heap.size rfl (.tmp 81) (.tmp 83) 27 59 (.agg #[(.int .i64 0), (.int .i64 0)]) 16 rfl Tryz.underlying27 info59 rfl (by decide) (by omega) (.slice Ao29 x10_1.length co29) x10_1 (⟨ji20, ji21⟩ : S59) [.int .i64 ji20, .int .i64 ji21] (fun k_ => k_ ≠ gb161 ∧ k_ ≠ gb165) (fun _ => False) rfl rfl ?aP (fun _ hk => hk.elim) ?aF ?aO ?aB ?aS ?aL ?_; (case aP => exact k59_mkM _ _ _ (⟨ji20, ji21⟩ : S59)); (case aB => exact (by repeat (first | (with_reducible first | exact HB.out | apply below_alloc | apply pw_below_drewN | apply below_drew1 | refine below_set ?_ GE160.out | refine below_set ?_ GE161.out | refine below_set ?_ GE165.out) | exact HB.out))); (case aF => exact (fun k_ hk => ⟨Kd.freshB (g := gb161) (o := .cells #[.int .i64 a3_0, .int .i64 x162001_1] 59 (0, 0)) (bq BK161.out) k_ hk, Kd.freshB (g := gb165) (o := .cells #[.int .i64 ji20, .int .i64 ji21] 59 (0, 0)) (bq BK165.out) k_ hk⟩)); (case aO => exact (rq HO_10.out)); (case aS => exact (below_size (by repeat (first | (with_reducible first | exact HB.out | apply below_alloc | apply pw_below_drewN | apply below_drew1 | refine below_set ?_ GE160.out | refine below_set ?_ GE161.out | refine below_set ?_ GE165.out) | exact HB.out)))); (case aL => have := LMc48.out; omega); intro v169 w52 ho hb hg hat; rw [← Ny168.out] at ho; have n0_ := Aside0.mk (blk_grown (g := gb160) (o := .cells #[.int .i64 a0_0, .int .i64 a0_1] 108 (0, 0)) (bq BK160.out) hg (by first | exact Kd.R_ne HO_10.out BK160.out (by decide) | exact fun e_ => absurd rfl (HO_10.out.1 _ e_.symm).2 | exact fun e_ => absurd rfl (HO_10.out.1 _ e_.symm).1.2)); have n1_ := Aside0.mk (blk_grown (g := gb161) (o := .cells #[.int .i64 a3_0, .int .i64 x162001_1] 59 (0, 0)) (bq BK161.out) hg (Kd.R_away HO_10.out (fun _ hk => hk.1))); have n2_ := Aside0.mk (blk_grown (g := gb165) (o := .cells #[.int .i64 ji20, .int .i64 ji21] 59 (0, 0)) (bq BK165.out) hg (Kd.R_away HO_10.out (fun _ hk => hk.2))); have n3_ := Aside0.mk (hb); have n4_ := Aside0.mk (ho); clear BK160; clear BK161; clear BK165; clear HB; clear HO_10; have BK160 := n0_; have BK161 := n1_; have BK165 := n2_; have HB := n3_; have HO170 := n4_; clear n0_ n1_ n2_ n3_ n4_; clear ho hb hg hat)); try go_wp2_with (first | ((with_reducible refine gate_builtin (b := .append) (xs := #[.tmp 81, .tmp 83]) rfl ?_); at_builtin; refine Kd.R_append k59 (w0 := w) w.heap.size rfl (.tmp 81) (.tmp 83) 27 59 (.agg #[(.int .i64 0), (.int .i64 0)]) 16 rfl Tryz.underlying27 info59 rfl (by decide) (by omega) (.slice Ao29 x10_1.length co29) x10_1 (⟨ji20, ji21⟩ : S59) [.int .i64 ji20, .int .i64 ji21] (fun k_ => k_ ≠ gb161 ∧ k_ ≠ gb165) (fun _ => False) rfl rfl ?aP (fun _ hk => hk.elim) ?aF ?aO ?aB ?aS ?aL ?_; (case aP => exact k59_mkM _ _ _ (⟨ji20, ji21⟩ : S59)); (case aB => exact (by repeat (first | (with_reducible first | exact HB.out | apply below_alloc | apply pw_below_drewN | apply below_drew1 | refine below_set ?_ GE160.out | refine below_set ?_ GE161.out | refine below_set ?_ GE165.out) | exact HB.out))); (case aF => exact (fun k_ hk => ⟨Kd.freshB (g := gb161) (o := .cells #[.int .i64 a3_0, .int .i64 x162001_1] 59 (0, 0)) (bq BK161.out) k_ hk, Kd.freshB (g := gb165) (o := .cells #[.int .i64 ji20, .int .i64 ji21] 59 (0, 0)) (bq BK165.out) k_ hk⟩)); (case aO => exact (rq HO_10.out)); (case aS => exact (below_size (by repeat (first | (with_reducible first | exact HB.out | apply below_alloc | apply pw_below_drewN | apply below_drew1 | refine below_set ?_ GE160.out | refine below_set ?_ GE161.out | refine below_set ?_ GE165.out) | exact HB.out)))); (case aL => have := LMc48.out; omega); intro v169 w52 ho hb hg hat; rw [← Ny168.out] at ho; have n0_ := Aside0.mk (blk_grown (g := gb160) (o := .cells #[.int .i64 a0_0, .int .i64 a0_1] 108 (0, 0)) (bq BK160.out) hg (by first | exact Kd.R_ne HO_10.out BK160.out (by decide) | exact fun e_ => absurd rfl (HO_10.out.1 _ e_.symm).2 | exact fun e_ => absurd rfl (HO_10.out.1 _ e_.symm).1.2)); have n1_ := Aside0.mk (blk_grown (g := gb161) (o := .cells #[.int .i64 a3_0, .int .i64 x162001_1] 59 (0, 0)) (bq BK161.out) hg (Kd.R_away HO_10.out (fun _ hk => hk.1))); have n2_ := Aside0.mk (blk_grown (g := gb165) (o := .cells #[.int .i64 ji20, .int .i64 ji21] 59 (0, 0)) (bq BK165.out) hg (Kd.R_away HO_10.out (fun _ hk => hk.2))); have n3_ := Aside0.mk (hb); have n4_ := Aside0.mk (ho); clear BK160; clear BK161; clear BK165; clear HB; clear HO_10; have BK160 := n0_; have BK161 := n1_; have BK165 := n2_; have HB := n3_; have HO170 := n4_; clear n0_ n1_ n2_ n3_ n4_; clear ho hb hg hat)))
            go_roundg kj21
            case measure => have := HK1.out; have := HJ10.out; have := HJ21.out; omega
            case rel => exact ⟨(y168), (wrap64 (t163 + 1)), (x162001_1), (by first | rfl | (simp; done) | (simp [*]; done)), H', ⟨by have := HK1.out; have := HJ10.out; have := HJ21.out; omega⟩, ⟨by (with_reducible repeat (first | apply Kd.R_alloc | apply Kd.R_drewN | apply Kd.R_drew)); exact Kd.R_mono HO170.out (fun _ hk => hk.1)⟩, ⟨bq BK160.out⟩, ⟨bq BK161.out⟩, ⟨by repeat (first | (with_reducible first | exact HB.out | apply below_alloc | apply pw_below_drewN | apply below_drew1 | refine below_set ?_ GE160.out | refine below_set ?_ GE161.out | refine below_set ?_ GE165.out) | exact HB.out)⟩⟩
           ·rw [if_neg c48] at H
            exact absurd H (by simp)
def rcons (lo : Int) : List S59 → List S59
 |[] => [⟨lo, lo⟩]
 |s :: r => if s.f0 = lo + 1 then ⟨lo, s.f1⟩ :: r else ⟨lo, lo⟩ :: s :: r
def runs (p : Int → Bool) (lo : Int) : Nat → List S59
 |0 => []
 |n + 1 => if p lo then rcons lo (runs p (lo + 1) n) else runs p (lo + 1) n
theorem rcons_spec {lo : Int} {l : List S59} (h : Canon l) (hlo : ∀ s ∈ l, lo + 1 ≤ s.f0) : Canon (rcons lo l) ∧ (∀ n, memR n (rcons lo l) ↔ n = lo ∨ memR n l) ∧ ∀ s ∈ rcons lo l, lo ≤ s.f0 := by
 cases l with
 |nil =>
  refine ⟨⟨by simp [rcons], by simp [rcons]⟩, fun n => ?_, by simp [rcons]⟩
  show memR n [⟨lo, lo⟩] ↔ _
  rw [memR_cons]
  show (lo ≤ n ∧ n ≤ lo) ∨ _ ↔ _
  constructor
  ·rintro (h | h)
   ·exact .inl (by omega)
   ·exact .inr h
  ·rintro (h | h)
   ·exact .inl ⟨by omega, by omega⟩
   ·exact .inr h
 |cons s r =>
  have hs := hlo s List.mem_cons_self
  have hne := h.ne s List.mem_cons_self
  have hg := List.pairwise_cons.1 h.gap
  have e : rcons lo (s :: r) = if s.f0 = lo + 1 then ⟨lo, s.f1⟩ :: r else ⟨lo, lo⟩ :: s :: r := rfl
  by_cases hc : s.f0 = lo + 1
  ·rw [e, if_pos hc]
   refine ⟨⟨fun t ht => ?_, List.pairwise_cons.2 ⟨fun t ht => hg.1 t ht, hg.2⟩⟩, fun n => ?_, fun t ht => ?_⟩
   ·rcases List.mem_cons.1 ht with rfl | ht
    ·show lo ≤ s.f1; omega
    ·exact h.ne t (List.mem_cons_of_mem _ ht)
   ·rw [memR_cons, memR_cons]
    show (lo ≤ n ∧ n ≤ s.f1) ∨ memR n r ↔ n = lo ∨ (s.f0 ≤ n ∧ n ≤ s.f1) ∨ memR n r
    constructor
    ·rintro (h | h)
     ·by_cases hn : n = lo
      ·exact .inl hn
      ·exact .inr (.inl ⟨by omega, by omega⟩)
     ·exact .inr (.inr h)
    ·rintro (h | h | h)
     ·exact .inl ⟨by omega, by omega⟩
     ·exact .inl ⟨by omega, by omega⟩
     ·exact .inr h
   ·rcases List.mem_cons.1 ht with rfl | ht
    ·exact Int.le_refl _
    ·have := hlo t (List.mem_cons_of_mem _ ht); omega
  ·rw [e, if_neg hc]
   refine ⟨⟨fun t ht => ?_, List.pairwise_cons.2 ⟨fun t ht => ?_, h.gap⟩⟩, fun n => ?_, fun t ht => ?_⟩
   ·rcases List.mem_cons.1 ht with rfl | ht
    ·exact Int.le_refl _
    ·exact h.ne t ht
   ·rcases List.mem_cons.1 ht with rfl | ht
    ·show lo + 1 < t.f0; omega
    ·have := hg.1 t ht
     show lo + 1 < t.f0; omega
   ·rw [memR_cons]
    show (lo ≤ n ∧ n ≤ lo) ∨ _ ↔ _
    constructor
    ·rintro (h | h)
     ·exact .inl (by omega)
     ·exact .inr h
    ·rintro (h | h)
     ·exact .inl ⟨by omega, by omega⟩
     ·exact .inr h
   ·rcases List.mem_cons.1 ht with rfl | ht
    ·exact Int.le_refl _
    ·have := hlo t ht; omega
theorem runs_spec (p : Int → Bool) : ∀ (n : Nat) (lo : Int), Canon (runs p lo n) ∧ (∀ x, memR x (runs p lo n) ↔ lo ≤ x ∧ x < lo + n ∧ p x = true) ∧ ∀ s ∈ runs p lo n, lo ≤ s.f0
 |0, lo => ⟨Canon.nil, fun x => ⟨fun h => absurd h memR_nil, fun h => by omega⟩, by simp [runs]⟩
 |n + 1, lo => by
  obtain ⟨h1, h2, h3⟩ := runs_spec p n (lo + 1)
  unfold runs
  cases hp : p lo with
  |true =>
   rw [if_pos rfl]
   obtain ⟨g1, g2, g3⟩ := rcons_spec h1 h3
   refine ⟨g1, fun x => ?_, g3⟩
   rw [g2, h2]
   constructor
   ·rintro (rfl | ⟨k1, k2, k3⟩)
    ·exact ⟨by omega, by omega, hp⟩
    ·exact ⟨by omega, by omega, k3⟩
   ·rintro ⟨k1, k2, k3⟩
    by_cases hx : x = lo
    ·exact .inl hx
    ·exact .inr ⟨by omega, by omega, k3⟩
  |false =>
   rw [if_neg (by simp)]
   refine ⟨h1, fun x => ?_, fun s hs => by have := h3 s hs; omega⟩
   rw [h2]
   constructor
   ·rintro ⟨k1, k2, k3⟩
    exact ⟨by omega, by omega, k3⟩
   ·rintro ⟨k1, k2, k3⟩
    by_cases hx : x = lo
    ·subst hx; rw [hp] at k3; cases k3
    ·exact ⟨by omega, by omega, k3⟩
def runsIn (p : Int → Bool) (lo hi : Int) : List S59 := runs p lo (hi - lo + 1).toNat
theorem runsIn_canon (p : Int → Bool) (lo hi : Int) : Canon (runsIn p lo hi) := (runs_spec p _ lo).1
theorem runsIn_mem (p : Int → Bool) (lo hi : Int) (x : Int) : memR x (runsIn p lo hi) ↔ lo ≤ x ∧ x ≤ hi ∧ p x = true := by
 unfold runsIn
 rw [(runs_spec p _ lo).2.1]
 constructor
 ·rintro ⟨h1, h2, h3⟩
  exact ⟨h1, by omega, h3⟩
 ·rintro ⟨h1, h2, h3⟩
  exact ⟨h1, by omega, h3⟩
theorem runsIn_eq {p : Int → Bool} {lo hi : Int} {o : List S59} (h : Canon o) (hm : ∀ x, memR x o ↔ lo ≤ x ∧ x ≤ hi ∧ p x = true) : runsIn p lo hi = o :=
 canon_unique (runsIn_canon _ _ _) h fun x => (runsIn_mem p lo hi x).trans (hm x).symm
theorem runsIn_in {p : Int → Bool} {lo hi : Int} (h0 : -1099511627776 ≤ lo) (h1 : hi ≤ 1099511627776) : ∀ s ∈ runsIn p lo hi, SpIn s := by
 intro s hs
 have hne := (runsIn_canon p lo hi).ne s hs
 have g1 := ((runsIn_mem p lo hi s.f0).1 ⟨s, hs, Int.le_refl _, hne⟩).1
 have g2 := ((runsIn_mem p lo hi s.f1).1 ⟨s, hs, hne, Int.le_refl _⟩).2.1
 exact ⟨by omega, hne, by omega⟩
def areasR (D S : Int) (ds : List Int) (c lo hi : Int) : List S59 × Int := fitR (runsIn (areaCan D S ds c) lo hi)
end Go.Proofs.YtgakfgedaipdmaaGreatDoor.P
namespace Go.Proofs.YtgakfgedaipdmaaGreatDoor.P
open Go.RowKit Go.Proofs.YtgakfgedaipdmaaGreatDoorW.PrintWords Go.Proofs.YtgakfgedaipdmaaGreatDoorW.PrintLast Go.Proofs.YtgakfgedaipdmaaGreatDoorW.PrintMore
set_option linter.unusedVariables false
set_option linter.unusedSimpArgs false
set_option linter.unusedSectionVars false
theorem info36 : (Tryz.prog.info? 36).map (fun i => (i.zero, i.size, i.bytes)) = some (some (.slice none 0 0), 1, 24) := by kernel_rfl
theorem blk_ne_new {W : World} {g : Nat} {o : Obj} (h : W.heap[g]? = some o) : g ≠ W.heap.size := by have := (Array.getElem?_eq_some_iff.1 h).1; omega
def badRead (D : Int) (n : Nat) (y : S64) : Bool := !readOk D y || decide ((n : Int) ≤ y.f0)
def fewOk (l3 : List S59) : Bool := decide (1 ≤ l3.length) && decide (l3.length ≤ 8)
def opErr (D S : Int) (l1 : List S61) (l2 : List S64) (l3 : List S59) : Int :=
 if wOkB D S then
  if !fewOk l3 || l3.any (fun s => !spanOk s) then 1
  else if decide (16 < l1.length) || decide (16 < l2.length) then 51
  else if l1.any (fun x => !trialOk D x) then 51
  else if l2.any (badRead D l3.length) then 51
  else 0
 else 50
def distOf (D : Int) (l2 : List S64) (i : Nat) : List Int := (l2.filter fun y => decide (y.f0 = (i : Int))).map fun y => wDist D y.f1 y.f2
def dists (D : Int) (l2 : List S64) (n : Nat) : List (List Int) := (List.range n).map (distOf D l2)
def InqAt (W : World) (b : Nat) (D S : Int) (A1 : Option Addr) (n1 c1 : Nat) (A3 : Option Addr) (n3 c3 : Nat) (ds : List (List Int)) : Prop :=
 ∃ dA dc, W.heap[b]? = some (.cells #[.int .i64 D, .int .i64 S, .slice A1 n1 c1, .slice A3 n3 c3, .slice dA ds.length dc] 111 (0, 0)) ∧ ds.length ≤ dc ∧ Kd.C (Kd.slice 3 (Kd.int .i64)) W dA ds.length ds
def OpenPost (D S : Int) (A1 : Option Addr) (c1 : Nat) (l1 : List S61) (l2 : List S64) (A3 : Option Addr) (c3 : Nat) (l3 : List S59) (w : World) (e : Ending) (w' : World) : Prop :=
 Below w.heap.size w w' ∧ ((opErr D S l1 l2 l3 ≠ 0 ∧ e = .returned (.tuple #[.pointer none, .int .i64 (opErr D S l1 l2 l3)])) ∨
  (opErr D S l1 l2 l3 = 0 ∧ ∃ b, w.heap.size ≤ b ∧ e = .returned (.tuple #[.pointer (some ⟨b, 0, none⟩), .int .i64 0]) ∧ InqAt w' b D S A1 l1.length c1 A3 l3.length c3 (dists D l2 l3.length)))
theorem opened_check (D S : Int) (h : wOkB D S = true) (W : World) : Calls Tryz.prog 38 #[.agg #[.int .i64 D, .int .i64 S]] W fun e w' => e = .returned (.int .i64 0) ∧ Below W.heap.size W w' := by
 have hck := wheel_Check.calls D S _ W (wheel_Check.eval D S)
 rw [h] at hck
 simpa using hck
theorem opened_from (l3 : List S59) (h1 : fewOk l3 = true) (W : World) : Calls Tryz.prog 69 #[.int .i64 (l3.length : Int), .int .i64 1, .int .i64 8] W fun e w' => e = .returned (.bool true) ∧ Drawn0 W w' := by
 have hfr := wheel_from.calls (l3.length : Int) 1 8 _ W (wheel_from.eval _ _ _)
 have hf : (decide ((1 : Int) ≤ (l3.length : Int)) && decide ((l3.length : Int) ≤ 8)) = true := by
  rw [← h1]; unfold fewOk; congr 1 <;> (apply decide_eq_decide.2; omega)
 rw [hf] at hfr
 exact hfr
def DistsOwn (W : World) (base ob n : Nat) (ds : List (List Int)) : Prop :=
 ∃ vs : List Value, W.heap[ob]? = some (.cells vs.toArray 36 (0, 0)) ∧ vs.length = n ∧ ds.length = n ∧ base ≤ ob ∧
  (∀ (i : Nat) (v : Value), vs[i]? = some v → ∃ d, ds[i]? = some d ∧ W.ownsRow base 3 1 v d.length (nums .i64 d)) ∧
  (∀ (i j : Nat) (v u : Value), i ≠ j → vs[i]? = some v → vs[j]? = some u → Value.ownBlock v = none ∨ Value.ownBlock v ≠ Value.ownBlock u)
theorem dists_length (D : Int) (l2 : List S64) (n : Nat) : (dists D l2 n).length = n := by simp [dists]
theorem dists_len (D : Int) (l2 : List S64) (n i : Nat) (d : List Int) (h : (dists D l2 n)[i]? = some d) : d.length ≤ l2.length := by
 unfold dists at h
 rw [List.getElem?_map] at h
 obtain ⟨j, _, rfl⟩ := Option.map_eq_some_iff.1 h
 unfold distOf
 rw [List.length_map]
 exact List.length_filter_le _ _
theorem dists_nil (D : Int) (n i : Nat) (h : i < n) : (dists D [] n)[i]? = some [] := by simp [dists, distOf, h]
theorem take_succ_getD {α : Type} (l : List α) (k : Nat) (h : k < l.length) (d : α) : l.take (k + 1) = l.take k ++ [l.getD k d] := by
 rw [List.take_succ_eq_append_getElem h]
 simp [List.getD_eq_getElem?_getD, h]
theorem distOf_snoc (D : Int) (l : List S64) (y : S64) (i : Nat) : distOf D (l ++ [y]) i = distOf D l i ++ if y.f0 = (i : Int) then [wDist D y.f1 y.f2] else [] := by
 unfold distOf
 rw [List.filter_append, List.map_append]
 by_cases h : y.f0 = (i : Int)
 ·simp [h]
 ·simp [h]
theorem dists_succ (D : Int) (l2 : List S64) (n k : Nat) (h : k < l2.length) (h0 : 0 ≤ (l2.getD k z64).f0) (h1 : (l2.getD k z64).f0 < (n : Int)) :
  dists D (l2.take (k + 1)) n = (dists D (l2.take k) n).set (l2.getD k z64).f0.toNat ((dists D (l2.take k) n).getD (l2.getD k z64).f0.toNat [] ++ [wDist D (l2.getD k z64).f1 (l2.getD k z64).f2]) := by
 rw [take_succ_getD l2 k h z64]
 generalize l2.getD k z64 = y at *
 obtain ⟨f, hf⟩ : ∃ f : Nat, y.f0 = (f : Int) := ⟨y.f0.toNat, by omega⟩
 apply List.ext_getElem?
 intro i
 unfold dists
 rw [hf, Int.toNat_natCast]
 have hfn : f < n := by omega
 by_cases hi : i < n
 ·by_cases e : i = f
  ·subst e
   rw [List.getElem?_set_self (by simpa using hi)]
   simp [hi, distOf_snoc, hf]
  ·rw [List.getElem?_set_ne (Ne.symm e)]
   have : ¬ ((f : Int) = (i : Int)) := by omega
   simp [hi, distOf_snoc, hf, this]
 ·rw [List.getElem?_eq_none (by simp; omega), List.getElem?_eq_none (by simp; omega)]
theorem DistsOwn.start {W : World} {base ob n : Nat} {D : Int} {l2 : List S64} (h : W.heap[ob]? = some (.cells (madeCells #[.slice none 0 0] n) 36 (0, 0))) (hb : base ≤ ob) : DistsOwn W base ob n (dists D (l2.take 0) n) := by
 have hc : ∀ (i : Nat) (v : Value), (madeCells #[Value.slice none 0 0] n).toList[i]? = some v → v = .slice none 0 0 := by
  intro i v hi
  have := List.mem_of_getElem? hi
  simp [madeCells] at this
  obtain ⟨_, _, rfl⟩ := this
  simp [Nat.mod_one]
 refine ⟨(madeCells #[.slice none 0 0] n).toList, by simpa using h, by simp [size_madeCells], dists_length _ _ _, hb, ?_, ?_⟩
 ·intro i v hi
  have hlt := (List.getElem?_eq_some_iff.1 hi).1
  simp [size_madeCells] at hlt
  obtain rfl := hc i v hi
  exact ⟨[], by rw [List.take_zero]; exact dists_nil D n i hlt, own_nil _ _ _ _⟩
 ·intro i j v u _ hi _
  obtain rfl := hc i v hi
  exact .inl rfl
theorem DistsOwn.below {W W1 : World} {base ob n : Nat} {ds : List (List Int)} (h : DistsOwn W base ob n ds) (hB : Below W.heap.size W W1) : DistsOwn W1 base ob n ds := by
 obtain ⟨vs, hv, hvl, hdl, hb, hrow, hap⟩ := h
 exact ⟨vs, blk_below hv hB, hvl, hdl, hb, fun i v hi => by obtain ⟨d, hd, ho⟩ := hrow i v hi; exact ⟨d, hd, pw_own_below ho hB⟩, hap⟩
theorem DistsOwn.drew {W : World} {base ob n : Nat} {ds : List (List Int)} (h : DistsOwn W base ob n ds) : DistsOwn W.drew base ob n ds := by
 obtain ⟨vs, hv, hvl, hdl, hb, hrow, hap⟩ := h
 exact ⟨vs, blk_drew hv, hvl, hdl, hb, fun i v hi => by obtain ⟨d, hd, ho⟩ := hrow i v hi; exact ⟨d, hd, own_drew ho⟩, hap⟩
theorem DistsOwn.step {W3 W4 : World} {base ob n fn : Nat} {ds : List (List Int)} {vs : List Value} {vf v4 : Value} {df : List Int} {x : Int}
  (hv : W3.heap[ob]? = some (.cells vs.toArray 36 (0, 0))) (hvl : vs.length = n) (hdl : ds.length = n) (hb : base ≤ ob)
  (hrow : ∀ (i : Nat) (v : Value), vs[i]? = some v → ∃ d, ds[i]? = some d ∧ W3.ownsRow base 3 1 v d.length (nums .i64 d))
  (hap : ∀ (i j : Nat) (v u : Value), i ≠ j → vs[i]? = some v → vs[j]? = some u → Value.ownBlock v = none ∨ Value.ownBlock v ≠ Value.ownBlock u)
  (hvf : vs[fn]? = some vf) (hdf : ds[fn]? = some df) (hg : W3.grownBy W4 vf.ownBlock) (hown : W4.ownsRow base 3 1 v4 (df.length + 1) (nums .i64 df ++ [.int .i64 x]))
  (hat : v4.ownBlock = vf.ownBlock ∨ ∃ b, v4.ownBlock = some b ∧ W3.heap.size ≤ b) : DistsOwn (W4.setCell ⟨ob, fn, none⟩ v4) base ob n (ds.set fn (df ++ [x])) := by
 have hlt : fn < vs.length := (List.getElem?_eq_some_iff.1 hvf).1
 obtain ⟨df', hdf', hof⟩ := hrow fn vf hvf
 have hv4 := blk_grown hv hg (own_ne hof hv (by decide))
 have hother : ∀ (i : Nat) (v : Value), i ≠ fn → vs[i]? = some v → Value.ownBlock v = none ∨ Value.ownBlock v ≠ v4.ownBlock := by
  intro i v hi hvi
  rcases hat with h | ⟨b, h, hle⟩
  ·rw [h]; exact hap i fn v vf hi hvi hvf
  ·rw [h]
   obtain ⟨d, _, ho⟩ := hrow i v hvi
   cases hq : Value.ownBlock v with
   |none => exact .inl rfl
   |some q =>
    have := own_lt ho q hq
    exact .inr (by intro e; injection e; omega)
 refine ⟨vs.set fn v4, ?_, by rw [List.length_set]; exact hvl, by rw [List.length_set]; exact hdl, hb, ?_, ?_⟩
 ·have := blk_set hv4 fn v4
  rw [this]
  simp
 ·intro i v hi
  by_cases h : i = fn
  ·subst h
   rw [List.getElem?_set_self hlt] at hi
   obtain rfl := Option.some.inj hi
   refine ⟨df ++ [x], by rw [List.getElem?_set_self (by omega)], ?_⟩
   have hne := own_ne hown hv4 (by decide)
   have := own_setCell (p := ⟨ob, i, none⟩) hown hne v4
   simpa [nums] using this
  ·rw [List.getElem?_set_ne (Ne.symm h)] at hi
   obtain ⟨d, hd, ho⟩ := hrow i v hi
   refine ⟨d, by rw [List.getElem?_set_ne (Ne.symm h)]; exact hd, ?_⟩
   have ho4 := own_other ho hg (hap i fn v vf h hi hvf)
   exact own_setCell (p := ⟨ob, fn, none⟩) ho4 (own_ne ho4 hv4 (by decide)) v4
 ·intro i j v u hij hi hj
  by_cases h : i = fn
  ·subst h
   rw [List.getElem?_set_self hlt] at hi
   obtain rfl := Option.some.inj hi
   rw [List.getElem?_set_ne hij] at hj
   rcases hother j u (Ne.symm hij) hj with h1 | h1
   ·cases hq : Value.ownBlock v4 with
    |none => exact .inl rfl
    |some q => rw [h1]; exact .inr (by simp)
   ·exact .inr (Ne.symm h1)
  ·rw [List.getElem?_set_ne (Ne.symm h)] at hi
   by_cases h2 : j = fn
   ·subst h2
    rw [List.getElem?_set_self hlt] at hj
    obtain rfl := Option.some.inj hj
    exact hother i v h hi
   ·rw [List.getElem?_set_ne (Ne.symm h2)] at hj
    exact hap i j v u hij hi hj
theorem DistsOwn.inq {W : World} {base ob n qb : Nat} {ds : List (List Int)} {D S : Int} {A1 A3 : Option Addr} {n1 c1 n3 c3 : Nat} (h : DistsOwn W base ob n ds)
  (hq : W.heap[qb]? = some (.cells #[.int .i64 D, .int .i64 S, .slice A1 n1 c1, .slice A3 n3 c3, .slice (some ⟨ob, 0, none⟩) n n] 111 (0, 0))) (hl : ds.length = n) (hn : n ≤ 9223372036854775807) : InqAt W qb D S A1 n1 c1 A3 n3 c3 ds := by
 obtain ⟨vs, hv, hvl, hdl, hb, hrow, hap⟩ := h
 refine ⟨some ⟨ob, 0, none⟩, n, by rw [hl]; exact hq, by omega, ?_⟩
 refine ⟨rfl, by omega, fun hp => ⟨_, rfl, fun j p hj => ?_⟩⟩
 have hjl : j < vs.length := by have := (List.getElem?_eq_some_iff.1 hj).1; omega
 obtain ⟨d, hd, ho⟩ := hrow j vs[j] (List.getElem?_eq_getElem hjl)
 rw [hj] at hd
 obtain rfl := Option.some.inj hd
 obtain ⟨A, c, he, hr⟩ := own_reads ho
 refine ⟨[vs[j]], rfl, ⟨A, c, by rw [he], ?_, Kd.C_of_reads (d := (0 : Int)) (h1 := fun _ => rfl) hr⟩, fun i u hi => ?_⟩
 ·rw [he] at ho
  exact own_cap ho
 ·have hi0 : i = 0 := by
   have := (List.getElem?_eq_some_iff.1 hi).1
   simpa using this
  subst hi0
  rw [add_plain]
  have := blk_cell hv j
  simp at hi
  subst hi
  show W.cell? ⟨ob, j * 1 + 0, none⟩ = _
  rw [Nat.mul_one, Nat.add_zero, this]
  simp [hjl]
section
variable (D S : Int) (A1 : Option Addr) (c1 : Nat) (l1 : List S61) (A2 : Option Addr) (c2 : Nat) (l2 : List S64) (A3 : Option Addr) (c3 : Nat) (l3 : List S59) (w : World)
  (hr1 : Kd.C k61 w A1 l1.length l1) (hc1 : l1.length ≤ c1) (hr2 : Kd.C k64 w A2 l2.length l2) (hc2 : l2.length ≤ c2) (hr3 : Kd.C k59 w A3 l3.length l3) (hc3 : l3.length ≤ c3)
include hr1 hc1 hr2 hc2 hr3 hc3
set_option maxHeartbeats 4000000 in
set_option maxRecDepth 100000 in
theorem opened_50 (h : wOkB D S = false) :
  Calls Tryz.prog 68 #[.agg #[.int .i64 D, .int .i64 S], .slice A1 l1.length c1, .slice A2 l2.length c2, .slice A3 l3.length c3] w (OpenPost D S A1 c1 l1 l2 A3 c3 l3 w) := by
 have he : opErr D S l1 l2 l3 = 50 := by unfold opErr; rw [h]; rfl
 have HE := Aside0.mk he
 have hck := fun W => wheel_Check.calls D S _ W (wheel_Check.eval D S)
 rw [h] at hck
 simp only [Bool.false_eq_true, if_false] at hck
 clear hr1 hc1 hr2 hc2 hr3 hc3 he h
 have hu23 := Tryz.underlying23
 go_enter Tryz.func68, Tryz.ntmps68
 go_wp2_with (go_at_call 38; refine (hck _).mono ?_; rintro e w' ⟨rfl, hB⟩)
 go_ret2
 refine ⟨below_weaken (by repeat (first | exact Below.refl _ _ | apply below_alloc)) (by simp) hB, .inl ⟨by rw [HE.out]; decide, by rw [HE.out]; rfl⟩⟩
set_option maxHeartbeats 4000000 in
set_option maxRecDepth 100000 in
theorem opened_1a (h : wOkB D S = true) (h1 : fewOk l3 = false) :
  Calls Tryz.prog 68 #[.agg #[.int .i64 D, .int .i64 S], .slice A1 l1.length c1, .slice A2 l2.length c2, .slice A3 l3.length c3] w (OpenPost D S A1 c1 l1 l2 A3 c3 l3 w) := by
 have he : opErr D S l1 l2 l3 = 1 := by unfold opErr; rw [h, h1]; rfl
 have HE := Aside0.mk he
 have hck := opened_check D S h
 have hfr := fun W => wheel_from.calls (l3.length : Int) 1 8 _ W (wheel_from.eval _ _ _)
 have hf : (decide ((1 : Int) ≤ (l3.length : Int)) && decide ((l3.length : Int) ≤ 8)) = false := by
  rw [← h1]; unfold fewOk; congr 1 <;> (apply decide_eq_decide.2; omega)
 rw [hf] at hfr
 have hm3 := Kd.C_max hr3
 clear hr1 hc1 hr2 hc2 hr3 hc3 he h h1 hf
 have hu23 := Tryz.underlying23
 go_enter Tryz.func68, Tryz.ntmps68
 go_wp2_with (first | (go_at_call 38; refine (hck _).mono ?_; rintro e w' ⟨rfl, hB⟩) | (go_at_call 69; refine (hfr _).mono ?_; rintro e w' ⟨rfl, ⟨nd, rfl⟩⟩))
 go_ret2
 refine ⟨below_weaken (by repeat (first | exact Below.refl _ _ | apply below_alloc)) (by simp) (pw_below_drewN hB _), .inl ⟨by rw [HE.out]; decide, by rw [HE.out]; rfl⟩⟩
set_option maxHeartbeats 4000000 in
set_option maxRecDepth 100000 in
theorem opened_1b (h : wOkB D S = true) (h1 : fewOk l3 = true) (h2 : (l3.any fun s => !spanOk s) = true) :
  Calls Tryz.prog 68 #[.agg #[.int .i64 D, .int .i64 S], .slice A1 l1.length c1, .slice A2 l2.length c2, .slice A3 l3.length c3] w (OpenPost D S A1 c1 l1 l2 A3 c3 l3 w) := by
 have he : opErr D S l1 l2 l3 = 1 := by unfold opErr; rw [h, h1, h2]; rfl
 have HE := Aside0.mk he
 have hck := opened_check D S h
 have hfr := opened_from l3 h1
 have hm3 := Kd.C_max hr3
 have hcn := fun W (hr : Kd.C k59 W A3 l3.length l3) => anyBad.calls A3 c3 l3 true W hr hc3 (by unfold anyBad.f; rw [h2])
 have HR3 := Aside0.mk hr3
 clear hr1 hc1 hr2 hc2 hr3 hc3 he h h1 h2
 have hu23 := Tryz.underlying23
 go_enter Tryz.func68, Tryz.ntmps68
 go_wp2_with (first | (go_at_call 38; refine (hck _).mono ?_; rintro e w' ⟨rfl, hB⟩; have HB := Aside0.mk (below_weaken (by repeat (first | exact Below.refl _ _ | apply below_alloc)) (by simp) hB : Below w.heap.size w w'); clear hB) | (go_at_call 69; refine (hfr _).mono ?_; rintro e w' ⟨rfl, ⟨nd, rfl⟩⟩) | (go_at_call 120; refine (hcn _ (Kd.C_below HR3.out (pw_below_drewN HB.out _))).mono ?_; rintro e w' ⟨rfl, hB3⟩))
 go_ret2
 refine ⟨below_weaken (pw_below_drewN HB.out _) HB.out.size hB3, .inl ⟨by rw [HE.out]; decide, by rw [HE.out]; rfl⟩⟩
set_option maxHeartbeats 8000000 in
set_option maxRecDepth 100000 in
theorem opened_main (h : wOkB D S = true) (h1 : fewOk l3 = true) (h2 : (l3.any fun s => !spanOk s) = false) :
  Calls Tryz.prog 68 #[.agg #[.int .i64 D, .int .i64 S], .slice A1 l1.length c1, .slice A2 l2.length c2, .slice A3 l3.length c3] w (OpenPost D S A1 c1 l1 l2 A3 c3 l3 w) := by
 have hck := opened_check D S h
 have hfr := opened_from l3 h1
 have hm1 := Kd.C_max hr1
 have hm2 := Kd.C_max hr2
 have hm3 := Kd.C_max hr3
 have hcn := fun W (hr : Kd.C k59 W A3 l3.length l3) => anyBad.calls A3 c3 l3 false W hr hc3 (by unfold anyBad.f; rw [h2])
 have HR1 := Aside0.mk hr1
 have HR2 := Aside0.mk hr2
 have HR3 := Aside0.mk hr3
 have hn3 : l3.length ≤ 8 := by unfold fewOk at h1; simp at h1; exact h1.2
 have H0 := Aside0.mk (And.intro h (And.intro h1 h2))
 have HD := Aside0.mk (show 10 ≤ D ∧ D ≤ 10000 by have := of_decide_eq_true h; exact ⟨this.1, this.2.1⟩)
 clear hr1 hc1 hr2 hc2 hr3 hc3 h h1 h2
 have hu23 := Tryz.underlying23
 have hu108 := Tryz.underlying108
 have hu111 := Tryz.underlying111
 have hmk := print_make_of (P := Tryz.prog) 109 36 (.slice none 0 0) 24 Tryz.underlying109 info36 rfl (by omega) l3.length (by omega)
 go_enter Tryz.func68, Tryz.ntmps68
 go_wp2_with (first | (go_at_call 38; refine (hck _).mono ?_; rintro e w1 ⟨rfl, hB⟩; have HX := Aside0.mk ((hB.block w.heap.size (by simp)).trans (blk_new w _)); have HB := Aside0.mk (below_weaken (by repeat (first | exact Below.refl _ _ | apply below_alloc)) (by simp) hB : Below w.heap.size w w1); clear hB) | (go_at_call 69; refine (hfr _).mono ?_; rintro e w' ⟨rfl, ⟨nd, rfl⟩⟩) | (go_at_call 120; refine (hcn _ (Kd.C_below HR3.out (pw_below_drewN HB.out _))).mono ?_; rintro e w2 ⟨rfl, hB3⟩; have HX2 := Aside0.mk (blk_below (g := w.heap.size) (blk_drewN HX.out _) hB3); have HB2 := Aside0.mk (below_weaken (pw_below_drewN HB.out _) HB.out.size hB3); clear hB3 HX HB))
 have hy0 : w2.cell? ⟨w.heap.size, 0, none⟩ = some (.int .i64 D) := (blk_cell HX2.out 0).trans rfl
 have hy1 : w2.cell? ⟨w.heap.size, 1, none⟩ = some (.int .i64 S) := (blk_cell HX2.out 1).trans rfl
 go_region_held3 (fun W => W.cell? ⟨w.heap.size, 0, none⟩ = some (.int .i64 D) ∧ W.cell? ⟨w.heap.size, 1, none⟩ = some (.int .i64 S)) (go_keep) (fail)
 rename_i hHeld
 clear hy0 hy1 hHeld HX2 hmk hck hfr hcn
 obtain ⟨qb, hqb⟩ : ∃ qb, qb = w2.heap.size + 1 := ⟨_, rfl⟩
 obtain ⟨ob, hob⟩ : ∃ ob, ob = w2.heap.size := ⟨_, rfl⟩
 rw [← hqb, ← hob]
 generalize hg : World.drew _ = W6
 have HB := Aside0.mk (show Below w.heap.size w W6 by rw [← hg]; exact below_drew1 (below_alloc (below_alloc HB2.out _) _))
 have HQ := Aside0.mk (show W6.heap[qb]? = some (.cells #[.int .i64 D, .int .i64 S, .slice A1 l1.length c1, .slice A3 l3.length c3, .slice (some ⟨ob, 0, none⟩) l3.length l3.length] 111 (0, 0)) by
  rw [← hg, hqb]; refine blk_drew ?_; have := blk_new (w2.alloc (.cells (madeCells #[.slice none 0 0] l3.length) 36)) (.cells #[.int .i64 D, .int .i64 S, .slice A1 l1.length c1, .slice A3 l3.length c3, .slice (some ⟨ob, 0, none⟩) l3.length l3.length] 111); rwa [World.size_alloc] at this)
 have HO := Aside0.mk (show W6.heap[ob]? = some (.cells (madeCells #[.slice none 0 0] l3.length) 36 (0, 0)) by rw [← hg, hob]; exact blk_drew (blk_alloc (blk_new _ _) _))
 have HQB := Aside0.mk (show w.heap.size ≤ ob ∧ ob < qb by have := HB2.out.size; omega)
 clear hg hqb hob HB2
 by_cases hA : 16 < l1.length
 ·have HE := Aside0.mk (show opErr D S l1 l2 l3 = 51 by unfold opErr; rw [H0.out.1, H0.out.2.1, H0.out.2.2]; simp [hA])
  go_wp2
  go_ret2
  exact ⟨HB.out, .inl ⟨by rw [HE.out]; decide, by rw [HE.out]; rfl⟩⟩
 by_cases hA2 : 16 < l2.length
 ·have HE := Aside0.mk (show opErr D S l1 l2 l3 = 51 by unfold opErr; rw [H0.out.1, H0.out.2.1, H0.out.2.2]; simp [hA, hA2])
  go_wp2
  go_ret2
  exact ⟨HB.out, .inl ⟨by rw [HE.out]; decide, by rw [HE.out]; rfl⟩⟩
 have HA := Aside0.mk (And.intro hA hA2)
 go_wp2
 clear hA hA2
 go_loopw [48, 13] (fun v48 v13 W => ∃ k : Nat, v48 = .int .i64 k ∧ k ≤ l1.length ∧ Aside0 ((l1.take k).any (fun x => !trialOk D x) = false) ∧ Aside0 (Below w.heap.size w W) ∧ Aside0 (W.heap[qb]? = some (.cells #[.int .i64 D, .int .i64 S, .slice A1 l1.length c1, .slice A3 l3.length c3, .slice (some ⟨ob, 0, none⟩) l3.length l3.length] 111 (0, 0))) ∧ Aside0 (W.heap[ob]? = some (.cells (madeCells #[.slice none 0 0] l3.length) 36 (0, 0)))) (fun v48 _ _ => l1.length - (intOf v48).toNat)
 case atStart => exact ⟨0, rfl, Nat.zero_le _, ⟨by simp⟩, HB, HQ, HO⟩
 case round =>
  clear HB HQ HO
  obtain ⟨k, rfl, hk, HT, HB, HQ, HO⟩ := hrel
  by_cases hlt : k < l1.length
  ·obtain ⟨ad, e0, hx0, hx1, hx2, hx3⟩ := at_T61 (Kd.C_below HR1.out HB.out) (k : Int) (by omega) (by omega)
   cases e0
   simp only [Int.toNat_natCast] at hx0 hx1 hx2 hx3
   have hct := fun W => wheel_dial_trial.calls 3 D S (rd_T61 l1 k).f0.f0 (rd_T61 l1 k).f0.f1 (rd_T61 l1 k).f1 (rd_T61 l1 k).f2 _ W (wheel_dial_trial.eval _ _ _ _ _ _ HD.out.1 HD.out.2)
   have hid : (⟨⟨(rd_T61 l1 k).f0.f0, (rd_T61 l1 k).f0.f1⟩, (rd_T61 l1 k).f1, (rd_T61 l1 k).f2⟩ : S61) = l1.getD k z61 := by unfold rd_T61; rw [Int.toNat_natCast]
   rw [hid] at hct
   have hs := any_take_succ (fun x => !trialOk D x) l1 k hlt z61
   rw [HT.out] at hs
   have HS := Aside0.mk hs
   clear hs hid HT
   have hq0 : wr.cell? ⟨qb, 0, none⟩ = some (.int .i64 D) := (blk_cell HQ.out 0).trans rfl
   have hq1 : wr.cell? ⟨qb, 1, none⟩ = some (.int .i64 S) := (blk_cell HQ.out 1).trans rfl
   have hne := blk_ne_new HQ.out
   generalize hb : trialOk D (l1.getD k z61) = b at hct HS
   go_wp2_with fail
   go_region_held3 (fun W => W.cell? ⟨qb, 0, none⟩ = some (.int .i64 D) ∧ W.cell? ⟨qb, 1, none⟩ = some (.int .i64 S) ∧ W.cell? ⟨wr.heap.size, 0, none⟩ = some (.int .i64 (rd_T61 l1 k).f0.f0) ∧ W.cell? ⟨wr.heap.size, 1, none⟩ = some (.int .i64 (rd_T61 l1 k).f0.f1) ∧ W.cell? ⟨wr.heap.size, 2, none⟩ = some (.int .i64 (rd_T61 l1 k).f1) ∧ W.cell? ⟨wr.heap.size, 3, none⟩ = some (.int .i64 (rd_T61 l1 k).f2)) (first | go_keep | (go_split_ands; (repeat' apply And.intro) <;> exact pw_cell_below hBt (by assumption)))
    (first | (go_at_call 94; refine (hct _).mono ?_; rintro e W2 ⟨rfl, hBt⟩))
   rename_i hHeld
   have HB2 := Aside0.mk (below_weaken (below_drew1 (below_alloc HB.out _)) (by simp; have := HB.out.size; omega) hBt)
   have HQ2 := Aside0.mk (blk_below (blk_drew (blk_alloc HQ.out _)) hBt)
   have HO2 := Aside0.mk (blk_below (blk_drew (blk_alloc HO.out _)) hBt)
   clear hHeld hBt hct hq0 hq1 hne HB HQ HO hx0 hx1 hx2 hx3
   cases b with
   |false =>
    have HE := Aside0.mk (show opErr D S l1 l2 l3 = 51 by
     unfold opErr; rw [H0.out.1, H0.out.2.1, H0.out.2.2, any_of_take (fun x => !trialOk D x) l1 k hlt z61 (by simp only [hb]; rfl)]; simp [HA.out.1, HA.out.2])
    clear hb
    go_wp2
    go_ret2
    exact ⟨HB2.out, .inl ⟨by rw [HE.out]; decide, by rw [HE.out]; rfl⟩⟩
   |true =>
    clear hb
    go_wp2
    go_roundw
    case rel => exact ⟨k + 1, by go_num, by omega, ⟨by rw [HS.out]; rfl⟩, HB2, HQ2, HO2⟩
    case measure => simp [intOf]; omega
  ·obtain rfl : k = l1.length := by omega
   have ht := HT.out
   rw [List.take_length] at ht
   have HT1 := Aside0.mk ht
   clear ht HT
   go_wp2
   go_loopw [62, 15] (fun v62 v15 W => ∃ k : Nat, v62 = .int .i64 k ∧ k ≤ l2.length ∧ Aside0 ((l2.take k).any (badRead D l3.length) = false) ∧ Aside0 (Below w.heap.size w W) ∧ Aside0 (W.heap[qb]? = some (.cells #[.int .i64 D, .int .i64 S, .slice A1 l1.length c1, .slice A3 l3.length c3, .slice (some ⟨ob, 0, none⟩) l3.length l3.length] 111 (0, 0))) ∧ Aside0 (DistsOwn W w.heap.size ob l3.length (dists D (l2.take k) l3.length))) (fun v62 _ _ => l2.length - (intOf v62).toNat)
   case atStart => exact ⟨0, rfl, Nat.zero_le _, ⟨by simp⟩, HB, HQ, ⟨DistsOwn.start HO.out HQB.out.1⟩⟩
   case round =>
    clear HB HQ HO
    obtain ⟨k, rfl, hk, HT, HB, HQ, HO⟩ := hrel
    by_cases hlt : k < l2.length
    ·obtain ⟨ad, e0, hx0, hx1, hx2⟩ := at_T64 (Kd.C_below HR2.out HB.out) (k : Int) (by omega) (by omega)
     cases e0
     simp only [Int.toNat_natCast] at hx0 hx1 hx2
     have hid : rd_T64 l2 (k : Int) = l2.getD k z64 := by unfold rd_T64; rw [Int.toNat_natCast]
     rw [hid] at hx0 hx1 hx2
     have hs := any_take_succ (badRead D l3.length) l2 k hlt z64
     have hds := dists_succ D l2 l3.length k hlt
     have hany := any_of_take (badRead D l3.length) l2 k hlt z64
     rw [HT.out] at hs
     clear hid HT
     generalize hy : l2.getD k z64 = y at hx0 hx1 hx2 hs hds hany
     obtain ⟨f, s, e⟩ := y
     simp only at hx0 hx1 hx2 hds
     have HS := Aside0.mk hs
     have HDS := Aside0.mk hds
     have HAN := Aside0.mk hany
     clear hs hds hany hy
     have hct := fun W => wheel_dial_reading.calls 3 D S f s e _ W (wheel_dial_reading.eval _ _ _ _ _ HD.out.1 HD.out.2)
     have hq0 : wr.cell? ⟨qb, 0, none⟩ = some (.int .i64 D) := (blk_cell HQ.out 0).trans rfl
     have hq1 : wr.cell? ⟨qb, 1, none⟩ = some (.int .i64 S) := (blk_cell HQ.out 1).trans rfl
     have hne := blk_ne_new HQ.out
     generalize hb : readOk D ⟨f, s, e⟩ = b at hct
     cases b with
     |false =>
      have HE := Aside0.mk (show opErr D S l1 l2 l3 = 51 by
       unfold opErr; rw [H0.out.1, H0.out.2.1, H0.out.2.2, HAN.out (by unfold badRead; rw [hb]; rfl), HT1.out]; simp [HA.out.1, HA.out.2])
      clear hb
      go_wp2_with fail
      refine start_ (n := 14) (S := fun w' => w'.cell? ⟨qb, 0, none⟩ = some (.int .i64 D) ∧ w'.cell? ⟨qb, 1, none⟩ = some (.int .i64 S) ∧ w'.cell? ⟨wr.heap.size, 0, none⟩ = some (.int .i64 f) ∧ w'.cell? ⟨wr.heap.size, 1, none⟩ = some (.int .i64 s) ∧ w'.cell? ⟨wr.heap.size, 2, none⟩ = some (.int .i64 e)) (ds := []) #[false, false, false, false, false, false, false, false, false, false, false, false, false, false] (by kernel_rfl) rfl rfl ⟨(blk_cell (blk_alloc HQ.out _) 0).trans rfl, (blk_cell (blk_alloc HQ.out _) 1).trans rfl, (blk_cell (blk_new wr _) 0).trans rfl, (blk_cell (blk_new wr _) 1).trans rfl, (blk_cell (blk_new wr _) 2).trans rfl⟩ (fun hHeld => ?_)
      refine pure_ (i := 0) (N := some 66) (v := ?_) (a' := ?_) #[true, false, false, false, false, false, false, false, false, false, false, false, false, false] rfl rfl (by kernel_rfl) (fun _ _ _ h => h) (Or.inl ⟨by rfl, ?_⟩) ?_ ?_
      rotate_left
      ·intro w'
       go_simp
       with_reducible rfl
      rotate_left
      ·simp only [pq]
       rfl
      refine pure_ (i := 1) (N := some 67) (v := ?_) (a' := ?_) #[true, true, false, false, false, false, false, false, false, false, false, false, false, false] rfl rfl (by kernel_rfl) (fun _ _ _ h => h) (Or.inl ⟨by rfl, ?_⟩) ?_ ?_
      rotate_left
      ·intro w'
       go_simp
       with_reducible rfl
      rotate_left
      ·simp only [pq]
       rfl
      refine pure_ (i := 2) (N := some 68) (v := ?_) (a' := ?_) #[true, true, true, false, false, false, false, false, false, false, false, false, false, false] rfl rfl (by kernel_rfl) (fun _ _ _ h => h) (Or.inl ⟨by rfl, ?_⟩) ?_ ?_
      rotate_left
      ·intro w'
       go_simp
       with_reducible rfl
      rotate_left
      ·simp only [pq]
       rfl
      refine take_ (i := 3) (N := some 69) (v := ?_) (a' := ?_) #[true, true, true, true, false, false, false, false, false, false, false, false, false, false] rfl rfl (by kernel_rfl) (fun _ _ _ h => h) (Or.inl ⟨by rfl, ?_⟩) hHeld ?_ ?_
      rotate_left
      ·rintro w' ⟨s0, s1, s2, s3, s4⟩
       go_simp
       with_reducible rfl
      rotate_left
      ·simp only [pq]
       rfl
      refine take_ (i := 4) (N := some 70) (v := ?_) (a' := ?_) #[true, true, true, true, true, false, false, false, false, false, false, false, false, false] rfl rfl (by kernel_rfl) (fun _ _ _ h => h) (Or.inl ⟨by rfl, ?_⟩) hHeld ?_ ?_
      rotate_left
      ·rintro w' ⟨s0, s1, s2, s3, s4⟩
       go_simp
       with_reducible rfl
      rotate_left
      ·simp only [pq]
       rfl
      refine one_ (i := 5) (N := some 71) #[true, true, true, true, true, true, false, false, false, false, false, false, false, false] rfl rfl (by kernel_rfl) (by decide) (fun K hK => ?_)
      refine goes_ Tryz.func96 (by kernel_rfl) rfl #[.agg #[.int .i64 D, .int .i64 S], .agg #[.int .i64 f, .int .i64 s, .int .i64 e]] (by rfl) rfl rfl (by simp only [List.map_toArray, List.map_cons, List.map_nil]; rfl) ?_
      with_reducible refine (hct _).mono ?_
      rintro e_ W2 ⟨rfl, hBt⟩
      refine ⟨_, rfl, ?_⟩
      refine hK.out _ _ ⟨pw_cell_below hBt (hHeld.1), pw_cell_below hBt (hHeld.2.1), pw_cell_below hBt (hHeld.2.2.1), pw_cell_below hBt (hHeld.2.2.2.1), pw_cell_below hBt (hHeld.2.2.2.2)⟩ (fun hHeld => ?_)
      clear hK K
      refine norm_ (a' := ?_) ?_ ?_
      rotate_left
      ·show Act.put _ (some 71) _ = _
       simp only [pq]
       rfl
      refine pure_ (i := 6) (N := some 72) (v := ?_) (a' := ?_) #[true, true, true, true, true, true, true, false, false, false, false, false, false, false] rfl rfl (by kernel_rfl) (fun _ _ _ h => h) (Or.inl ⟨by rfl, ?_⟩) ?_ ?_
      rotate_left
      ·intro w'
       go_simp
       with_reducible rfl
      rotate_left
      ·simp only [pq]
       rfl
      refine pure_ (i := 7) (N := some 73) (v := ?_) (a' := ?_) #[true, true, true, true, true, true, true, true, false, false, false, false, false, false] rfl rfl (by kernel_rfl) (fun _ _ _ h => h) (Or.inl ⟨by rfl, ?_⟩) ?_ ?_
      rotate_left
      ·intro w'
       go_simp
       with_reducible rfl
      rotate_left
      ·simp only [pq]
       rfl
      refine pure_ (i := 8) (N := some 74) (v := undef) (a' := ?_) #[true, true, true, true, true, true, true, true, true, false, false, false, false, false] rfl rfl (by kernel_rfl) (fun _ _ _ h => h) (Or.inr ⟨by rfl, rfl⟩) ?_ ?_
      rotate_left
      ·simp only [pq]
       rfl
      refine pure_ (i := 9) (N := some 75) (v := undef) (a' := ?_) #[true, true, true, true, true, true, true, true, true, true, false, false, false, false] rfl rfl (by kernel_rfl) (fun _ _ _ h => h) (Or.inr ⟨by rfl, rfl⟩) ?_ ?_
      rotate_left
      ·simp only [pq]
       rfl
      refine pure_ (i := 10) (N := some 76) (v := undef) (a' := ?_) #[true, true, true, true, true, true, true, true, true, true, true, false, false, false] rfl rfl (by kernel_rfl) (fun _ _ _ h => h) (Or.inr ⟨by rfl, rfl⟩) ?_ ?_
      rotate_left
      ·simp only [pq]
       rfl
      refine pure_ (i := 11) (N := some 77) (v := undef) (a' := ?_) #[true, true, true, true, true, true, true, true, true, true, true, true, false, false] rfl rfl (by kernel_rfl) (fun _ _ _ h => h) (Or.inr ⟨by rfl, rfl⟩) ?_ ?_
      rotate_left
      ·simp only [pq]
       rfl
      refine pure_ (i := 12) (N := some 78) (v := undef) (a' := ?_) #[true, true, true, true, true, true, true, true, true, true, true, true, true, false] rfl rfl (by kernel_rfl) (fun _ _ _ h => h) (Or.inr ⟨by rfl, rfl⟩) ?_ ?_
      rotate_left
      ·simp only [pq]
       rfl
      refine pure_ (i := 13) (N := some 79) (v := ?_) (a' := ?_) #[true, true, true, true, true, true, true, true, true, true, true, true, true, true] rfl rfl (by kernel_rfl) (fun _ _ _ h => h) (Or.inl ⟨by rfl, ?_⟩) ?_ ?_
      rotate_left
      ·intro w'
       go_simp
       with_reducible rfl
      rotate_left
      ·simp only [pq]
       rfl
      refine done_ (by kernel_rfl) ?_
      have HB2 := Aside0.mk (below_weaken (below_drew1 (below_alloc HB.out _)) (by simp; have := HB.out.size; omega) hBt)
      clear hHeld hBt hct hq0 hq1 hne HB HQ HO hx0 hx1 hx2
      go_wp2
      go_ret2
      exact ⟨HB2.out, .inl ⟨by rw [HE.out]; decide, by rw [HE.out]; rfl⟩⟩
     |true =>
      have hBR : badRead D l3.length ⟨f, s, e⟩ = decide ((l3.length : Int) ≤ f) := by unfold badRead; rw [hb]; rfl
      have hf0 : 0 ≤ f := by unfold readOk at hb; simp at hb; exact hb.1.1
      have hpl : (0 ≤ s ∧ s < D) ∧ (0 ≤ e ∧ e < D) := by
       unfold readOk placeOk at hb
       simp at hb
       obtain ⟨_, ⟨a1, a2⟩, a3, a4⟩ := hb
       omega
      have HPL := Aside0.mk hpl
      rw [hBR] at HAN HS
      clear hb hBR hpl
      by_cases hf : (l3.length : Int) ≤ f
      ·have hf' : decide ((l3.length : Int) ≤ f) = true := decide_eq_true hf
       have HE := Aside0.mk (show opErr D S l1 l2 l3 = 51 by
        unfold opErr; rw [H0.out.1, H0.out.2.1, H0.out.2.2, HAN.out hf', HT1.out]; simp [HA.out.1, HA.out.2])
       clear hf
       go_wp2_with fail
       refine start_ (n := 14) (S := fun w' => w'.cell? ⟨qb, 0, none⟩ = some (.int .i64 D) ∧ w'.cell? ⟨qb, 1, none⟩ = some (.int .i64 S) ∧ w'.cell? ⟨wr.heap.size, 0, none⟩ = some (.int .i64 f) ∧ w'.cell? ⟨wr.heap.size, 1, none⟩ = some (.int .i64 s) ∧ w'.cell? ⟨wr.heap.size, 2, none⟩ = some (.int .i64 e)) (ds := []) #[false, false, false, false, false, false, false, false, false, false, false, false, false, false] (by kernel_rfl) rfl rfl ⟨(blk_cell (blk_alloc HQ.out _) 0).trans rfl, (blk_cell (blk_alloc HQ.out _) 1).trans rfl, (blk_cell (blk_new wr _) 0).trans rfl, (blk_cell (blk_new wr _) 1).trans rfl, (blk_cell (blk_new wr _) 2).trans rfl⟩ (fun hHeld => ?_)
       refine pure_ (i := 0) (N := some 66) (v := ?_) (a' := ?_) #[true, false, false, false, false, false, false, false, false, false, false, false, false, false] rfl rfl (by kernel_rfl) (fun _ _ _ h => h) (Or.inl ⟨by rfl, ?_⟩) ?_ ?_
       rotate_left
       ·intro w'
        go_simp
        with_reducible rfl
       rotate_left
       ·simp only [pq]
        rfl
       refine pure_ (i := 1) (N := some 67) (v := ?_) (a' := ?_) #[true, true, false, false, false, false, false, false, false, false, false, false, false, false] rfl rfl (by kernel_rfl) (fun _ _ _ h => h) (Or.inl ⟨by rfl, ?_⟩) ?_ ?_
       rotate_left
       ·intro w'
        go_simp
        with_reducible rfl
       rotate_left
       ·simp only [pq]
        rfl
       refine pure_ (i := 2) (N := some 68) (v := ?_) (a' := ?_) #[true, true, true, false, false, false, false, false, false, false, false, false, false, false] rfl rfl (by kernel_rfl) (fun _ _ _ h => h) (Or.inl ⟨by rfl, ?_⟩) ?_ ?_
       rotate_left
       ·intro w'
        go_simp
        with_reducible rfl
       rotate_left
       ·simp only [pq]
        rfl
       refine take_ (i := 3) (N := some 69) (v := ?_) (a' := ?_) #[true, true, true, true, false, false, false, false, false, false, false, false, false, false] rfl rfl (by kernel_rfl) (fun _ _ _ h => h) (Or.inl ⟨by rfl, ?_⟩) hHeld ?_ ?_
       rotate_left
       ·rintro w' ⟨s0, s1, s2, s3, s4⟩
        go_simp
        with_reducible rfl
       rotate_left
       ·simp only [pq]
        rfl
       refine take_ (i := 4) (N := some 70) (v := ?_) (a' := ?_) #[true, true, true, true, true, false, false, false, false, false, false, false, false, false] rfl rfl (by kernel_rfl) (fun _ _ _ h => h) (Or.inl ⟨by rfl, ?_⟩) hHeld ?_ ?_
       rotate_left
       ·rintro w' ⟨s0, s1, s2, s3, s4⟩
        go_simp
        with_reducible rfl
       rotate_left
       ·simp only [pq]
        rfl
       refine one_ (i := 5) (N := some 71) #[true, true, true, true, true, true, false, false, false, false, false, false, false, false] rfl rfl (by kernel_rfl) (by decide) (fun K hK => ?_)
       refine goes_ Tryz.func96 (by kernel_rfl) rfl #[.agg #[.int .i64 D, .int .i64 S], .agg #[.int .i64 f, .int .i64 s, .int .i64 e]] (by rfl) rfl rfl (by simp only [List.map_toArray, List.map_cons, List.map_nil]; rfl) ?_
       with_reducible refine (hct _).mono ?_
       rintro e_ W2 ⟨rfl, hBt⟩
       refine ⟨_, rfl, ?_⟩
       refine hK.out _ _ ⟨pw_cell_below hBt (hHeld.1), pw_cell_below hBt (hHeld.2.1), pw_cell_below hBt (hHeld.2.2.1), pw_cell_below hBt (hHeld.2.2.2.1), pw_cell_below hBt (hHeld.2.2.2.2)⟩ (fun hHeld => ?_)
       clear hK K
       refine norm_ (a' := ?_) ?_ ?_
       rotate_left
       ·show Act.put _ (some 71) _ = _
        simp only [pq]
        rfl
       refine pure_ (i := 6) (N := some 72) (v := ?_) (a' := ?_) #[true, true, true, true, true, true, true, false, false, false, false, false, false, false] rfl rfl (by kernel_rfl) (fun _ _ _ h => h) (Or.inl ⟨by rfl, ?_⟩) ?_ ?_
       rotate_left
       ·intro w'
        go_simp
        with_reducible rfl
       rotate_left
       ·simp only [pq]
        rfl
       refine pure_ (i := 7) (N := some 73) (v := ?_) (a' := ?_) #[true, true, true, true, true, true, true, true, false, false, false, false, false, false] rfl rfl (by kernel_rfl) (fun _ _ _ h => h) (Or.inl ⟨by rfl, ?_⟩) ?_ ?_
       rotate_left
       ·intro w'
        go_simp
        with_reducible rfl
       rotate_left
       ·simp only [pq]
        rfl
       refine pure_ (i := 8) (N := some 74) (v := ?_) (a' := ?_) #[true, true, true, true, true, true, true, true, true, false, false, false, false, false] rfl rfl (by kernel_rfl) (fun _ _ _ h => h) (Or.inl ⟨by rfl, ?_⟩) ?_ ?_
       rotate_left
       ·intro w'
        go_simp
        with_reducible rfl
       rotate_left
       ·simp only [pq]
        rfl
       refine pure_ (i := 10) (N := some 76) (v := ?_) (a' := ?_) #[true, true, true, true, true, true, true, true, true, false, true, false, false, false] rfl rfl (by kernel_rfl) (fun _ _ _ h => h) (Or.inl ⟨by rfl, ?_⟩) ?_ ?_
       rotate_left
       ·intro w'
        go_simp
        with_reducible rfl
       rotate_left
       ·simp only [pq]
        rfl
       refine pure_ (i := 11) (N := some 77) (v := ?_) (a' := ?_) #[true, true, true, true, true, true, true, true, true, false, true, true, false, false] rfl rfl (by kernel_rfl) (fun _ _ _ h => h) (Or.inl ⟨by rfl, ?_⟩) ?_ ?_
       rotate_left
       ·intro w'
        go_simp
        with_reducible rfl
       rotate_left
       ·simp only [pq]
        rfl
       refine take_ (i := 9) (N := some 75) (v := ?_) (a' := ?_) #[true, true, true, true, true, true, true, true, true, true, true, true, false, false] rfl rfl (by kernel_rfl) (fun _ _ _ h => h) (Or.inl ⟨by rfl, ?_⟩) hHeld ?_ ?_
       rotate_left
       ·rintro w' ⟨s0, s1, s2, s3, s4⟩
        go_simp
        with_reducible rfl
       rotate_left
       ·simp only [pq]
        rfl
       refine pure_ (i := 12) (N := some 78) (v := ?_) (a' := ?_) #[true, true, true, true, true, true, true, true, true, true, true, true, true, false] rfl rfl (by kernel_rfl) (fun _ _ _ h => h) (Or.inl ⟨by rfl, ?_⟩) ?_ ?_
       rotate_left
       ·intro w'
        go_simp
        with_reducible rfl
       rotate_left
       ·simp only [pq]
        rfl
       refine pure_ (i := 13) (N := some 79) (v := ?_) (a' := ?_) #[true, true, true, true, true, true, true, true, true, true, true, true, true, true] rfl rfl (by kernel_rfl) (fun _ _ _ h => h) (Or.inl ⟨by rfl, ?_⟩) ?_ ?_
       rotate_left
       ·intro w'
        go_simp
        with_reducible rfl
       rotate_left
       ·simp only [pq]
        rfl
       refine done_ (by kernel_rfl) ?_
       have HB2 := Aside0.mk (below_weaken (below_drew1 (below_alloc HB.out _)) (by simp; have := HB.out.size; omega) hBt)
       clear hHeld hBt hct hq0 hq1 hne HB HQ HO hx0 hx1 hx2
       go_wp2
       go_ret2
       exact ⟨HB2.out, .inl ⟨by rw [HE.out]; decide, by rw [HE.out]; rfl⟩⟩
      ·have hf' : decide ((l3.length : Int) ≤ f) = false := decide_eq_false hf
       have hf1 : f < (l3.length : Int) := by omega
       clear hf
       go_wp2_with fail
       refine start_ (n := 14) (S := fun w' => w'.cell? ⟨qb, 0, none⟩ = some (.int .i64 D) ∧ w'.cell? ⟨qb, 1, none⟩ = some (.int .i64 S) ∧ w'.cell? ⟨wr.heap.size, 0, none⟩ = some (.int .i64 f) ∧ w'.cell? ⟨wr.heap.size, 1, none⟩ = some (.int .i64 s) ∧ w'.cell? ⟨wr.heap.size, 2, none⟩ = some (.int .i64 e)) (ds := []) #[false, false, false, false, false, false, false, false, false, false, false, false, false, false] (by kernel_rfl) rfl rfl ⟨(blk_cell (blk_alloc HQ.out _) 0).trans rfl, (blk_cell (blk_alloc HQ.out _) 1).trans rfl, (blk_cell (blk_new wr _) 0).trans rfl, (blk_cell (blk_new wr _) 1).trans rfl, (blk_cell (blk_new wr _) 2).trans rfl⟩ (fun hHeld => ?_)
       refine pure_ (i := 0) (N := some 66) (v := ?_) (a' := ?_) #[true, false, false, false, false, false, false, false, false, false, false, false, false, false] rfl rfl (by kernel_rfl) (fun _ _ _ h => h) (Or.inl ⟨by rfl, ?_⟩) ?_ ?_
       rotate_left
       ·intro w'
        go_simp
        with_reducible rfl
       rotate_left
       ·simp only [pq]
        rfl
       refine pure_ (i := 1) (N := some 67) (v := ?_) (a' := ?_) #[true, true, false, false, false, false, false, false, false, false, false, false, false, false] rfl rfl (by kernel_rfl) (fun _ _ _ h => h) (Or.inl ⟨by rfl, ?_⟩) ?_ ?_
       rotate_left
       ·intro w'
        go_simp
        with_reducible rfl
       rotate_left
       ·simp only [pq]
        rfl
       refine pure_ (i := 2) (N := some 68) (v := ?_) (a' := ?_) #[true, true, true, false, false, false, false, false, false, false, false, false, false, false] rfl rfl (by kernel_rfl) (fun _ _ _ h => h) (Or.inl ⟨by rfl, ?_⟩) ?_ ?_
       rotate_left
       ·intro w'
        go_simp
        with_reducible rfl
       rotate_left
       ·simp only [pq]
        rfl
       refine take_ (i := 3) (N := some 69) (v := ?_) (a' := ?_) #[true, true, true, true, false, false, false, false, false, false, false, false, false, false] rfl rfl (by kernel_rfl) (fun _ _ _ h => h) (Or.inl ⟨by rfl, ?_⟩) hHeld ?_ ?_
       rotate_left
       ·rintro w' ⟨s0, s1, s2, s3, s4⟩
        go_simp
        with_reducible rfl
       rotate_left
       ·simp only [pq]
        rfl
       refine take_ (i := 4) (N := some 70) (v := ?_) (a' := ?_) #[true, true, true, true, true, false, false, false, false, false, false, false, false, false] rfl rfl (by kernel_rfl) (fun _ _ _ h => h) (Or.inl ⟨by rfl, ?_⟩) hHeld ?_ ?_
       rotate_left
       ·rintro w' ⟨s0, s1, s2, s3, s4⟩
        go_simp
        with_reducible rfl
       rotate_left
       ·simp only [pq]
        rfl
       refine one_ (i := 5) (N := some 71) #[true, true, true, true, true, true, false, false, false, false, false, false, false, false] rfl rfl (by kernel_rfl) (by decide) (fun K hK => ?_)
       refine goes_ Tryz.func96 (by kernel_rfl) rfl #[.agg #[.int .i64 D, .int .i64 S], .agg #[.int .i64 f, .int .i64 s, .int .i64 e]] (by rfl) rfl rfl (by simp only [List.map_toArray, List.map_cons, List.map_nil]; rfl) ?_
       with_reducible refine (hct _).mono ?_
       rintro e_ W2 ⟨rfl, hBt⟩
       refine ⟨_, rfl, ?_⟩
       refine hK.out _ _ ⟨pw_cell_below hBt (hHeld.1), pw_cell_below hBt (hHeld.2.1), pw_cell_below hBt (hHeld.2.2.1), pw_cell_below hBt (hHeld.2.2.2.1), pw_cell_below hBt (hHeld.2.2.2.2)⟩ (fun hHeld => ?_)
       clear hK K
       refine norm_ (a' := ?_) ?_ ?_
       rotate_left
       ·show Act.put _ (some 71) _ = _
        simp only [pq]
        rfl
       refine pure_ (i := 6) (N := some 72) (v := ?_) (a' := ?_) #[true, true, true, true, true, true, true, false, false, false, false, false, false, false] rfl rfl (by kernel_rfl) (fun _ _ _ h => h) (Or.inl ⟨by rfl, ?_⟩) ?_ ?_
       rotate_left
       ·intro w'
        go_simp
        with_reducible rfl
       rotate_left
       ·simp only [pq]
        rfl
       refine pure_ (i := 7) (N := some 73) (v := ?_) (a' := ?_) #[true, true, true, true, true, true, true, true, false, false, false, false, false, false] rfl rfl (by kernel_rfl) (fun _ _ _ h => h) (Or.inl ⟨by rfl, ?_⟩) ?_ ?_
       rotate_left
       ·intro w'
        go_simp
        with_reducible rfl
       rotate_left
       ·simp only [pq]
        rfl
       refine pure_ (i := 8) (N := some 74) (v := ?_) (a' := ?_) #[true, true, true, true, true, true, true, true, true, false, false, false, false, false] rfl rfl (by kernel_rfl) (fun _ _ _ h => h) (Or.inl ⟨by rfl, ?_⟩) ?_ ?_
       rotate_left
       ·intro w'
        go_simp
        with_reducible rfl
       rotate_left
       ·simp only [pq]
        rfl
       refine pure_ (i := 10) (N := some 76) (v := ?_) (a' := ?_) #[true, true, true, true, true, true, true, true, true, false, true, false, false, false] rfl rfl (by kernel_rfl) (fun _ _ _ h => h) (Or.inl ⟨by rfl, ?_⟩) ?_ ?_
       rotate_left
       ·intro w'
        go_simp
        with_reducible rfl
       rotate_left
       ·simp only [pq]
        rfl
       refine pure_ (i := 11) (N := some 77) (v := ?_) (a' := ?_) #[true, true, true, true, true, true, true, true, true, false, true, true, false, false] rfl rfl (by kernel_rfl) (fun _ _ _ h => h) (Or.inl ⟨by rfl, ?_⟩) ?_ ?_
       rotate_left
       ·intro w'
        go_simp
        with_reducible rfl
       rotate_left
       ·simp only [pq]
        rfl
       refine take_ (i := 9) (N := some 75) (v := ?_) (a' := ?_) #[true, true, true, true, true, true, true, true, true, true, true, true, false, false] rfl rfl (by kernel_rfl) (fun _ _ _ h => h) (Or.inl ⟨by rfl, ?_⟩) hHeld ?_ ?_
       rotate_left
       ·rintro w' ⟨s0, s1, s2, s3, s4⟩
        go_simp
        with_reducible rfl
       rotate_left
       ·simp only [pq]
        rfl
       refine pure_ (i := 12) (N := some 78) (v := ?_) (a' := ?_) #[true, true, true, true, true, true, true, true, true, true, true, true, true, false] rfl rfl (by kernel_rfl) (fun _ _ _ h => h) (Or.inl ⟨by rfl, ?_⟩) ?_ ?_
       rotate_left
       ·intro w'
        go_simp
        with_reducible rfl
       rotate_left
       ·simp only [pq]
        rfl
       refine pure_ (i := 13) (N := some 79) (v := ?_) (a' := ?_) #[true, true, true, true, true, true, true, true, true, true, true, true, true, true] rfl rfl (by kernel_rfl) (fun _ _ _ h => h) (Or.inl ⟨by rfl, ?_⟩) ?_ ?_
       rotate_left
       ·intro w'
        go_simp
        with_reducible rfl
       rotate_left
       ·simp only [pq]
        rfl
       refine done_ (by kernel_rfl) ?_
       have HB2 := Aside0.mk (below_weaken (below_drew1 (below_alloc HB.out _)) (by simp; have := HB.out.size; omega) hBt)
       have HQ2 := Aside0.mk (blk_below (blk_drew (blk_alloc HQ.out _)) hBt)
       have HO2 := Aside0.mk (DistsOwn.below (DistsOwn.drew (DistsOwn.below HO.out (below_alloc (Below.refl _ _) _))) hBt)
       have HX2 := Aside0.mk (blk_below (blk_drew (blk_new wr (.cells #[.int .i64 f, .int .i64 s, .int .i64 e] 64))) hBt)
       obtain ⟨bx, hbx⟩ : ∃ bx, wr.heap.size = bx := ⟨_, rfl⟩
       rw [hbx] at HX2 ⊢
       clear hHeld hBt hct hq0 hq1 hne HB HQ HO hx0 hx1 hx2 hbx
       obtain ⟨fn, rfl⟩ := Int.eq_ofNat_of_zero_le hf0
       have hfn : fn < l3.length := by omega
       obtain ⟨vs, hv, hvl, hdl, hbo, hrow, hap⟩ := HO2.out
       obtain ⟨vf, hvf⟩ : ∃ vf, vs[fn]? = some vf := ⟨_, List.getElem?_eq_getElem (by omega)⟩
       obtain ⟨df, hdf, hown⟩ := hrow fn vf hvf
       have HV := Aside0.mk hv
       have HVF := Aside0.mk hvf
       have HDF := Aside0.mk hdf
       have HOW := Aside0.mk hown
       have HAP := Aside0.mk hap
       have HVL := Aside0.mk (And.intro hvl (And.intro hdl hbo))
       have HROW := Aside0.mk hrow
       clear hv hvl hdl hbo hrow hap hvf hdf hown HO2
       have hdd := fun W => wheel_dial_distance.calls D S s e _ W (wheel_dial_distance.eval D S s e HD.out.1 HD.out.2 HPL.out.1.1 HPL.out.1.2 HPL.out.2.1 HPL.out.2.2)
       have hlf : df.length ≤ 16 := by
        have := dists_len D (l2.take k) l3.length fn df HDF.out
        have h2 := List.length_take_le k l2
        have := HA.out.2
        rw [List.length_take] at *
        omega
       go_wp2_with fail
       refine start_ (n := 27) (S := fun w' => w'.cell? ⟨qb, 0, none⟩ = some (.int .i64 D) ∧ w'.cell? ⟨qb, 1, none⟩ = some (.int .i64 S) ∧ w'.cell? ⟨qb, 4, none⟩ = some (.slice (some ⟨ob, 0, none⟩) l3.length l3.length) ∧ w'.cell? ⟨bx, 0, none⟩ = some (.int .i64 (fn : Int)) ∧ w'.cell? ⟨bx, 1, none⟩ = some (.int .i64 s) ∧ w'.cell? ⟨bx, 2, none⟩ = some (.int .i64 e) ∧ w'.cell? ⟨ob, fn, none⟩ = some vf) (ds := [26]) #[false, false, false, false, false, false, false, false, false, false, false, false, false, false, false, false, false, false, false, false, false, false, false, false, false, false, false] (by kernel_rfl) rfl rfl ⟨(blk_cell (blk_drew HQ2.out) 0).trans rfl, (blk_cell (blk_drew HQ2.out) 1).trans rfl, (blk_cell (blk_drew HQ2.out) 4).trans rfl, (blk_cell (blk_drew HX2.out) 0).trans rfl, (blk_cell (blk_drew HX2.out) 1).trans rfl, (blk_cell (blk_drew HX2.out) 2).trans rfl, (blk_cell (blk_drew HV.out) fn).trans ((List.getElem?_toArray).trans HVF.out)⟩ (fun hHeld => ?_)
       refine pure_ (i := 0) (N := some 80) (v := ?_) (a' := ?_) #[true, false, false, false, false, false, false, false, false, false, false, false, false, false, false, false, false, false, false, false, false, false, false, false, false, false, false] rfl rfl (by kernel_rfl) (fun _ _ _ h => h) (Or.inl ⟨by rfl, ?_⟩) ?_ ?_
       rotate_left
       ·intro w'
        go_simp
        with_reducible rfl
       rotate_left
       ·simp only [pq]
        rfl
       refine pure_ (i := 1) (N := some 81) (v := ?_) (a' := ?_) #[true, true, false, false, false, false, false, false, false, false, false, false, false, false, false, false, false, false, false, false, false, false, false, false, false, false, false] rfl rfl (by kernel_rfl) (fun _ _ _ h => h) (Or.inl ⟨by rfl, ?_⟩) ?_ ?_
       rotate_left
       ·intro w'
        go_simp
        with_reducible rfl
       rotate_left
       ·simp only [pq]
        rfl
       refine pure_ (i := 2) (N := some 82) (v := ?_) (a' := ?_) #[true, true, true, false, false, false, false, false, false, false, false, false, false, false, false, false, false, false, false, false, false, false, false, false, false, false, false] rfl rfl (by kernel_rfl) (fun _ _ _ h => h) (Or.inl ⟨by rfl, ?_⟩) ?_ ?_
       rotate_left
       ·intro w'
        go_simp
        with_reducible rfl
       rotate_left
       ·simp only [pq]
        rfl
       refine pure_ (i := 4) (N := some 84) (v := ?_) (a' := ?_) #[true, true, true, false, true, false, false, false, false, false, false, false, false, false, false, false, false, false, false, false, false, false, false, false, false, false, false] rfl rfl (by kernel_rfl) (fun _ _ _ h => h) (Or.inl ⟨by rfl, ?_⟩) ?_ ?_
       rotate_left
       ·intro w'
        go_simp
        with_reducible rfl
       rotate_left
       ·simp only [pq]
        rfl
       refine pure_ (i := 6) (N := some 86) (v := ?_) (a' := ?_) #[true, true, true, false, true, false, true, false, false, false, false, false, false, false, false, false, false, false, false, false, false, false, false, false, false, false, false] rfl rfl (by kernel_rfl) (fun _ _ _ h => h) (Or.inl ⟨by rfl, ?_⟩) ?_ ?_
       rotate_left
       ·intro w'
        go_simp
        with_reducible rfl
       rotate_left
       ·simp only [pq]
        rfl
       refine pure_ (i := 7) (N := some 87) (v := ?_) (a' := ?_) #[true, true, true, false, true, false, true, true, false, false, false, false, false, false, false, false, false, false, false, false, false, false, false, false, false, false, false] rfl rfl (by kernel_rfl) (fun _ _ _ h => h) (Or.inl ⟨by rfl, ?_⟩) ?_ ?_
       rotate_left
       ·intro w'
        go_simp
        with_reducible rfl
       rotate_left
       ·simp only [pq]
        rfl
       refine pure_ (i := 8) (N := some 88) (v := ?_) (a' := ?_) #[true, true, true, false, true, false, true, true, true, false, false, false, false, false, false, false, false, false, false, false, false, false, false, false, false, false, false] rfl rfl (by kernel_rfl) (fun _ _ _ h => h) (Or.inl ⟨by rfl, ?_⟩) ?_ ?_
       rotate_left
       ·intro w'
        go_simp
        with_reducible rfl
       rotate_left
       ·simp only [pq]
        rfl
       refine pure_ (i := 10) (N := some 90) (v := ?_) (a' := ?_) #[true, true, true, false, true, false, true, true, true, false, true, false, false, false, false, false, false, false, false, false, false, false, false, false, false, false, false] rfl rfl (by kernel_rfl) (fun _ _ _ h => h) (Or.inl ⟨by rfl, ?_⟩) ?_ ?_
       rotate_left
       ·intro w'
        go_simp
        with_reducible rfl
       rotate_left
       ·simp only [pq]
        rfl
       refine pure_ (i := 14) (N := some 94) (v := ?_) (a' := ?_) #[true, true, true, false, true, false, true, true, true, false, true, false, false, false, true, false, false, false, false, false, false, false, false, false, false, false, false] rfl rfl (by kernel_rfl) (fun _ _ _ h => h) (Or.inl ⟨by rfl, ?_⟩) ?_ ?_
       rotate_left
       ·intro w'
        go_simp
        with_reducible rfl
       rotate_left
       ·simp only [pq]
        rfl
       refine pure_ (i := 15) (N := some 95) (v := ?_) (a' := ?_) #[true, true, true, false, true, false, true, true, true, false, true, false, false, false, true, true, false, false, false, false, false, false, false, false, false, false, false] rfl rfl (by kernel_rfl) (fun _ _ _ h => h) (Or.inl ⟨by rfl, ?_⟩) ?_ ?_
       rotate_left
       ·intro w'
        go_simp
        with_reducible rfl
       rotate_left
       ·simp only [pq]
        rfl
       refine pure_ (i := 16) (N := some 96) (v := ?_) (a' := ?_) #[true, true, true, false, true, false, true, true, true, false, true, false, false, false, true, true, true, false, false, false, false, false, false, false, false, false, false] rfl rfl (by kernel_rfl) (fun _ _ _ h => h) (Or.inl ⟨by rfl, ?_⟩) ?_ ?_
       rotate_left
       ·intro w'
        go_simp
        with_reducible rfl
       rotate_left
       ·simp only [pq]
        rfl
       refine pure_ (i := 18) (N := some 98) (v := ?_) (a' := ?_) #[true, true, true, false, true, false, true, true, true, false, true, false, false, false, true, true, true, false, true, false, false, false, false, false, false, false, false] rfl rfl (by kernel_rfl) (fun _ _ _ h => h) (Or.inl ⟨by rfl, ?_⟩) ?_ ?_
       rotate_left
       ·intro w'
        go_simp
        with_reducible rfl
       rotate_left
       ·simp only [pq]
        rfl
       refine pure_ (i := 20) (N := some 100) (v := ?_) (a' := ?_) #[true, true, true, false, true, false, true, true, true, false, true, false, false, false, true, true, true, false, true, false, true, false, false, false, false, false, false] rfl rfl (by kernel_rfl) (fun _ _ _ h => h) (Or.inl ⟨by rfl, ?_⟩) ?_ ?_
       rotate_left
       ·intro w'
        go_simp
        with_reducible rfl
       rotate_left
       ·simp only [pq]
        rfl
       refine take_ (i := 3) (N := some 83) (v := ?_) (a' := ?_) #[true, true, true, true, true, false, true, true, true, false, true, false, false, false, true, true, true, false, true, false, true, false, false, false, false, false, false] rfl rfl (by kernel_rfl) (fun _ _ _ h => h) (Or.inl ⟨by rfl, ?_⟩) hHeld ?_ ?_
       rotate_left
       ·rintro w' ⟨s0, s1, s2, s3, s4, s5, s6⟩
        go_simp
        with_reducible rfl
       rotate_left
       ·simp only [pq]
        rfl
       refine take_ (i := 5) (N := some 85) (v := ?_) (a' := ?_) #[true, true, true, true, true, true, true, true, true, false, true, false, false, false, true, true, true, false, true, false, true, false, false, false, false, false, false] rfl rfl (by kernel_rfl) (fun _ _ _ h => h) (Or.inl ⟨by rfl, ?_⟩) hHeld ?_ ?_
       rotate_left
       ·rintro w' ⟨s0, s1, s2, s3, s4, s5, s6⟩
        go_simp
        with_reducible rfl
       rotate_left
       ·simp only [pq]
        rfl
       refine take_ (i := 9) (N := some 89) (v := ?_) (a' := ?_) #[true, true, true, true, true, true, true, true, true, true, true, false, false, false, true, true, true, false, true, false, true, false, false, false, false, false, false] rfl rfl (by kernel_rfl) (fun _ _ _ h => h) (Or.inl ⟨by rfl, ?_⟩) hHeld ?_ ?_
       rotate_left
       ·rintro w' ⟨s0, s1, s2, s3, s4, s5, s6⟩
        go_simp
        with_reducible rfl
       rotate_left
       ·simp only [pq]
        rfl
       refine take_ (i := 11) (N := some 91) (v := ?_) (a' := ?_) #[true, true, true, true, true, true, true, true, true, true, true, true, false, false, true, true, true, false, true, false, true, false, false, false, false, false, false] rfl rfl (by kernel_rfl) (fun _ _ _ h => h) (Or.inl ⟨by rfl, ?_⟩) hHeld ?_ ?_
       rotate_left
       ·rintro w' ⟨s0, s1, s2, s3, s4, s5, s6⟩
        go_simp
        with_reducible rfl
       rotate_left
       ·simp only [pq]
        rfl
       refine pure_ (i := 12) (N := some 92) (v := ?_) (a' := ?_) #[true, true, true, true, true, true, true, true, true, true, true, true, true, false, true, true, true, false, true, false, true, false, false, false, false, false, false] rfl rfl (by kernel_rfl) (fun _ _ _ h => h) (Or.inl ⟨by rfl, ?_⟩) ?_ ?_
       rotate_left
       ·intro w'
        go_simp
        with_reducible rfl
       rotate_left
       ·simp only [pq]
        rfl
       refine take_ (i := 13) (N := some 93) (v := ?_) (a' := ?_) #[true, true, true, true, true, true, true, true, true, true, true, true, true, true, true, true, true, false, true, false, true, false, false, false, false, false, false] rfl rfl (by kernel_rfl) (fun _ _ _ h => h) (Or.inl ⟨by rfl, ?_⟩) hHeld ?_ ?_
       rotate_left
       ·rintro w' ⟨s0, s1, s2, s3, s4, s5, s6⟩
        go_simp
        with_reducible rfl
       rotate_left
       ·simp only [pq]
        rfl
       refine take_ (i := 17) (N := some 97) (v := ?_) (a' := ?_) #[true, true, true, true, true, true, true, true, true, true, true, true, true, true, true, true, true, true, true, false, true, false, false, false, false, false, false] rfl rfl (by kernel_rfl) (fun _ _ _ h => h) (Or.inl ⟨by rfl, ?_⟩) hHeld ?_ ?_
       rotate_left
       ·rintro w' ⟨s0, s1, s2, s3, s4, s5, s6⟩
        go_simp
        with_reducible rfl
       rotate_left
       ·simp only [pq]
        rfl
       refine take_ (i := 19) (N := some 99) (v := ?_) (a' := ?_) #[true, true, true, true, true, true, true, true, true, true, true, true, true, true, true, true, true, true, true, true, true, false, false, false, false, false, false] rfl rfl (by kernel_rfl) (fun _ _ _ h => h) (Or.inl ⟨by rfl, ?_⟩) hHeld ?_ ?_
       rotate_left
       ·rintro w' ⟨s0, s1, s2, s3, s4, s5, s6⟩
        go_simp
        with_reducible rfl
       rotate_left
       ·simp only [pq]
        rfl
       refine take_ (i := 21) (N := some 101) (v := ?_) (a' := ?_) #[true, true, true, true, true, true, true, true, true, true, true, true, true, true, true, true, true, true, true, true, true, true, false, false, false, false, false] rfl rfl (by kernel_rfl) (fun _ _ _ h => h) (Or.inl ⟨by rfl, ?_⟩) hHeld ?_ ?_
       rotate_left
       ·rintro w' ⟨s0, s1, s2, s3, s4, s5, s6⟩
        go_simp
        with_reducible rfl
       rotate_left
       ·simp only [pq]
        rfl
       refine one_ (i := 22) (N := some 102) #[true, true, true, true, true, true, true, true, true, true, true, true, true, true, true, true, true, true, true, true, true, true, true, false, false, false, false] rfl rfl (by kernel_rfl) (by decide) (fun K hK => ?_)
       refine goes_ Tryz.func100 (by kernel_rfl) rfl #[.agg #[.int .i64 D, .int .i64 S], .int .i64 s, .int .i64 e] (by rfl) rfl rfl (by simp only [List.map_toArray, List.map_cons, List.map_nil]; rfl) ?_
       with_reducible refine (hdd _).mono ?_
       rintro e_ W3 ⟨rfl, hB3⟩
       refine ⟨_, rfl, ?_⟩
       have HQ3 := Aside0.mk (blk_below (blk_drew HQ2.out) hB3)
       have HX3 := Aside0.mk (blk_below (blk_drew HX2.out) hB3)
       have HV3 := Aside0.mk (blk_below (blk_drew HV.out) hB3)
       have HOW3 := Aside0.mk (pw_own_below (own_drew HOW.out) hB3)
       have HB3' := Aside0.mk hB3
       have HB3 := Aside0.mk (below_weaken (below_drew1 HB2.out) HB2.out.size hB3)
       refine hK.out _ _ ⟨(blk_cell HQ3.out 0).trans rfl, (blk_cell HQ3.out 1).trans rfl, (blk_cell HQ3.out 4).trans rfl, (blk_cell HX3.out 0).trans rfl, (blk_cell HX3.out 1).trans rfl, (blk_cell HX3.out 2).trans rfl, (blk_cell HV3.out fn).trans ((List.getElem?_toArray).trans HVF.out)⟩ (fun hHeld => ?_)
       clear hK K
       refine norm_ (a' := ?_) ?_ ?_
       rotate_left
       ·show Act.put _ (some 102) _ = _
        simp only [pq]
        rfl
       refine one_ (i := 23) (N := some 103) #[true, true, true, true, true, true, true, true, true, true, true, true, true, true, true, true, true, true, true, true, true, true, true, true, false, false, false] rfl rfl (by kernel_rfl) (by decide) (fun K hK => ?_)
       refine value_ (w1 := ?_) (v := ?_) (by rfl) rfl ?_ ?_
       rotate_left 2
       ·go_simp
        constructor
        ·rfl
        ·rfl
       refine hK.out _ _ ⟨(blk_cell (blk_alloc HQ3.out _) 0).trans rfl, (blk_cell (blk_alloc HQ3.out _) 1).trans rfl, (blk_cell (blk_alloc HQ3.out _) 4).trans rfl, (blk_cell (blk_alloc HX3.out _) 0).trans rfl, (blk_cell (blk_alloc HX3.out _) 1).trans rfl, (blk_cell (blk_alloc HX3.out _) 2).trans rfl, (blk_cell (blk_alloc HV3.out _) fn).trans ((List.getElem?_toArray).trans HVF.out)⟩ (fun hHeld => ?_)
       clear hK K
       refine norm_ (a' := ?_) ?_ ?_
       rotate_left
       ·show Act.put _ (some 103) _ = _
        simp only [pq]
        rfl
       refine one_ (i := 24) (N := some 104) #[true, true, true, true, true, true, true, true, true, true, true, true, true, true, true, true, true, true, true, true, true, true, true, true, true, false, false] rfl rfl (by kernel_rfl) (by decide) (fun K hK => ?_)
       refine step_append_cells (w0 := w) w.heap.size (by rfl) (.tmp 93) (.tmp 103) 36 3 (.int .i64 0) 1 8 rfl Tryz.underlying36 info3 rfl (by omega) (by omega) vf df.length (nums .i64 df) [.int .i64 (wDist D s e)] rfl rfl rfl (by simp [Value.oneCell']) HOW3.out HB3.out HB3.out.size (by omega) ?_
       intro v4 W4 hown4 hB4 hg4 hat4
       obtain ⟨A4, c4, rfl⟩ := own_slice hown4
       have HQ4 := Aside0.mk (blk_grown HQ3.out hg4 (own_ne HOW3.out HQ3.out (by decide)))
       have HX4 := Aside0.mk (blk_grown HX3.out hg4 (own_ne HOW3.out HX3.out (by decide)))
       have HV4 := Aside0.mk (blk_grown HV3.out hg4 (own_ne HOW3.out HV3.out (by decide)))
       refine hK.out _ _ ⟨(blk_cell HQ4.out 0).trans rfl, (blk_cell HQ4.out 1).trans rfl, (blk_cell HQ4.out 4).trans rfl, (blk_cell HX4.out 0).trans rfl, (blk_cell HX4.out 1).trans rfl, (blk_cell HX4.out 2).trans rfl, (blk_cell HV4.out fn).trans ((List.getElem?_toArray).trans HVF.out)⟩ (fun hHeld => ?_)
       clear hK K
       refine norm_ (a' := ?_) ?_ ?_
       rotate_left
       ·show Act.put _ (some 104) _ = _
        simp only [pq]
        rfl
       refine pure_ (i := 25) (N := some 105) (v := ?_) (a' := ?_) #[true, true, true, true, true, true, true, true, true, true, true, true, true, true, true, true, true, true, true, true, true, true, true, true, true, true, false] rfl rfl (by kernel_rfl) (fun _ _ _ h => h) (Or.inl ⟨by rfl, ?_⟩) ?_ ?_
       rotate_left
       ·intro w'
        go_simp
        with_reducible rfl
       rotate_left
       ·simp only [pq]
        rfl
       refine last_ (i := 26) (N := none) #[true, true, true, true, true, true, true, true, true, true, true, true, true, true, true, true, true, true, true, true, true, true, true, true, true, true, true] rfl rfl (by kernel_rfl) (by decide) (fun K hK => ?_)
       have hcs := (blk_cell HV4.out fn).trans ((List.getElem?_toArray).trans HVF.out)
       have hfs := blk_frozen HV4.out fn
       refine skip_ (w1 := ?_) (by rfl) rfl ?_ ?_
       rotate_left
       ·go_simp
        rfl
       refine hK.out _ _ ?_
       clear hK K
       refine done_ (by kernel_rfl) ?_
       have hob : qb ≠ ob := by have := HQB.out; omega
       have HB5 := Aside0.mk (below_set (v := .slice A4 (df.length + 1) c4) (j := fn) hB4 HVL.out.2.2)
       have HQ5 := Aside0.mk (blk_far (p := ⟨ob, fn, none⟩) HQ4.out hob (.slice A4 (df.length + 1) c4))
       have HO5 := DistsOwn.step HV3.out HVL.out.1 HVL.out.2.1 HVL.out.2.2 (fun i v hi => by obtain ⟨d, hd, ho⟩ := HROW.out i v hi; exact ⟨d, hd, pw_own_below (own_drew ho) HB3'.out⟩) HAP.out HVF.out HDF.out hg4 hown4 hat4
       have hdd2 := HDS.out (by omega) (by omega)
       simp only [Int.toNat_natCast] at hdd2
       rw [List.getD_eq_getElem?_getD, HDF.out, Option.getD_some] at hdd2
       rw [← hdd2] at HO5
       have HO6 := Aside0.mk HO5
       clear hdd2 HO5 hob hg4 hown4 hat4 hB4 hcs hfs
       go_wp2
       go_roundw
       case rel => exact ⟨k + 1, by go_num, by omega, ⟨by rw [HS.out, hf']; rfl⟩, HB5, HQ5, HO6⟩
       case measure => simp [intOf]; omega
    ·obtain rfl : k = l2.length := by omega
     have ht := HT.out
     rw [List.take_length] at ht
     have HE := Aside0.mk (show opErr D S l1 l2 l3 = 0 by
      unfold opErr; rw [H0.out.1, H0.out.2.1, H0.out.2.2, ht, HT1.out]; simp [HA.out.1, HA.out.2])
     have HO2 := HO.out
     rw [List.take_length] at HO2
     have HO3 := Aside0.mk HO2
     clear ht HT HO HO2
     go_wp2
     go_ret2
     exact ⟨HB.out, .inr ⟨HE.out, qb, by have := HQB.out; omega, rfl, HO3.out.inq HQ.out (dists_length _ _ _) (by omega)⟩⟩
theorem opened_any : Calls Tryz.prog 68 #[.agg #[.int .i64 D, .int .i64 S], .slice A1 l1.length c1, .slice A2 l2.length c2, .slice A3 l3.length c3] w (OpenPost D S A1 c1 l1 l2 A3 c3 l3 w) := by
 cases h : wOkB D S with
 |false => exact opened_50 D S A1 c1 l1 A2 c2 l2 A3 c3 l3 w hr1 hc1 hr2 hc2 hr3 hc3 h
 |true =>
  cases h1 : fewOk l3 with
  |false => exact opened_1a D S A1 c1 l1 A2 c2 l2 A3 c3 l3 w hr1 hc1 hr2 hc2 hr3 hc3 h h1
  |true =>
   cases h2 : l3.any fun s => !spanOk s with
   |true => exact opened_1b D S A1 c1 l1 A2 c2 l2 A3 c3 l3 w hr1 hc1 hr2 hc2 hr3 hc3 h h1 h2
   |false => exact opened_main D S A1 c1 l1 A2 c2 l2 A3 c3 l3 w hr1 hc1 hr2 hc2 hr3 hc3 h h1 h2
end
end Go.Proofs.YtgakfgedaipdmaaGreatDoor.P
