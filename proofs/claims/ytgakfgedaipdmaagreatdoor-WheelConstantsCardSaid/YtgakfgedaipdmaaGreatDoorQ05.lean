/- A part of the proof. -/
import Derived.Test.YtgakfgedaipdmaaGreatDoorQ04
namespace Go.Proofs.YtgakfgedaipdmaaGreatDoor.P
open Go.RowKit Go.Proofs.YtgakfgedaipdmaaGreatDoorW.PrintWords Go.Proofs.YtgakfgedaipdmaaGreatDoorW.PrintLast Go.Proofs.YtgakfgedaipdmaaGreatDoorW.PrintMore
attribute [local go_sem] max2_int min2_int max_two min_two max_three min_three max_four min_four
set_option linter.unusedVariables false
set_option linter.unusedSimpArgs false
def acreageref05_least.f (k : Nat) (a0_0 : Int) (a0_1 : Int) (l1 : List (S114)) (a2 : Int) (a3_0 : Int) (a3_1 : Int) : Option (Int × Bool) := if a2 = 0 then (none) else ((acreageref05_run.f k a0_0 a0_1 l1 (wrap64 (Int.tdiv a3_0 a2)) (wrap64 (Int.tdiv a3_1 a2))).bind fun bt327 => (some (mx (wrap64 (a2 * bt327.1)) a3_0, bt327.2.2)))
theorem acreageref05_least.mono : ∀ a0 a1 a2 a3 a4 a5 k, LeO (acreageref05_least.f k a0 a1 a2 a3 a4 a5) (acreageref05_least.f (k + 1) a0 a1 a2 a3 a4 a5) := by
 intro a0 a1 a2 a3 a4 a5 k
 unfold acreageref05_least.f
 repeat' first
   |(with_reducible exact acreageref05_run.mono _ _ _ _ _ _)
   |(with_reducible exact LeO.refl _)
   |(with_reducible exact LeO.none _)
   |(with_reducible refine LeO.ite ?_ ?_)
   |(with_reducible refine LeO.bind ?_ (fun _ => ?_))
   |exact acreageref05_run.mono _ _ _ _ _ _
   |exact LeO.none _
   |refine LeO.ite ?_ ?_
   |refine LeO.bind ?_ (fun _ => ?_)
def acreageref05_least.T1 : Bool × List (List Nat × List Nat) := (true, [([], []), ([], []), ([], []), ([2], [2]), ([], []), ([3, 4], [3, 4]), ([], []), ([6], [6]), ([], []), ([7, 8], [7, 8]), ([0, 1, 5, 9], [0, 1, 5, 9]), ([10], [10]), ([11], [11]), ([11], [11]), ([], []), ([14, 12, 10, 0, 1, 2, 3, 4, 5, 6, 7, 8, 9, 10, 11, 12, 14], [12, 14]), ([13, 15, 0, 1, 2, 3, 4, 5, 6, 7, 8, 9, 10, 11, 12, 13, 14, 15], [13])])
def acreageref05_least.B1 : List Nat := [0, 0, 0, 4, 0, 28, 0, 64, 0, 448, 1023, 2047, 4095, 4095, 0, 24575, 65535]
theorem acreageref05_least.tab1 : rtab .any (opsOf Tryz.f119 1) = acreageref05_least.T1 := by kernel_rfl
theorem acreageref05_least.bits1 : waitsOk acreageref05_least.T1.2 acreageref05_least.B1 = true := by kernel_rfl
set_option maxHeartbeats 8000000 in
set_option maxRecDepth 100000 in
theorem acreageref05_least.calls (k : Nat) (a0_0 : Int) (a0_1 : Int) (A1 : Option Addr) (c1 : Nat) (l1 : List (S114)) (a2 : Int) (a3_0 : Int) (a3_1 : Int) (r1 : Int) (r2 : Bool) (w : World) (hr1 : Kd.C k114 w A1 l1.length l1) (hc1 : l1.length ≤ c1) (h : acreageref05_least.f k a0_0 a0_1 l1 a2 a3_0 a3_1 = some (r1, r2)) :
  Calls Tryz.prog 119 #[.agg #[.int .i64 a0_0, .int .i64 a0_1], .slice A1 l1.length c1, .int .i64 a2, .agg #[.int .i64 a3_0, .int .i64 a3_1]] w fun e w' => e = .returned (.tuple #[.int .i64 r1, .bool r2]) ∧ Below w.heap.size w w' := by
 have hu23 := Tryz.underlying23
 have hu59 := Tryz.underlying59
 have HR1 := Aside0.mk hr1
 have HC1 := Aside0.mk hc1
 clear hr1 hc1
 have HB := Aside0.mk (Below.refl w.heap.size w)
 have H : (if a2 = 0 then (none) else ((acreageref05_run.f k a0_0 a0_1 l1 (wrap64 (Int.tdiv a3_0 a2)) (wrap64 (Int.tdiv a3_1 a2))).bind fun bt327 => (some (mx (wrap64 (a2 * bt327.1)) a3_0, bt327.2.2)))) = some (r1, r2) := h
 clear h
 by_cases c5 : a2 = 0
 ·rw [if_pos c5] at H
  exact absurd H (by simp)
 ·rw [if_neg c5] at H
  have c5b0 : (a2 == 0) = false := beq_eq_false_iff_ne.mpr c5
  have c5b1 : (a2 != 0) = true := bne_iff_ne.mpr c5
  replace H := Option.bind_eq_some_iff.mp H
  obtain ⟨⟨t327, t328, t329⟩, A60, H⟩ := H
  replace H : (some (mx (wrap64 (a2 * t327)) a3_0, t329)) = some (r1, r2) := H
  have A6 := Aside0.mk A60
  clear A60
  obtain ⟨ji7, hji7⟩ : ∃ j_ : Int, (mx (wrap64 (a2 * t327)) a3_0) = j_ := ⟨_, rfl⟩
  replace H : (some (ji7, t329)) = some (r1, r2) := by first | (rw [hji7] at H; exact H) | (simp only [hji7] at H ⊢; exact H)
  (try rw [hji7] at A6)
  have hji7_ : (if (wrap64 (a2 * t327)) < a3_0 then a3_0 else (wrap64 (a2 * t327))) = ji7 := hji7
  simp only [Option.some.injEq, Prod.mk.injEq] at H
  obtain ⟨rfl, rfl⟩ := H
  go_enter Tryz.func119, Tryz.ntmps119
  try go_wp2_with (first | ((with_reducible refine gate_dst (N := 4) rfl ?_); refine box_event ?hg (N := 4) ?hd (cs := #[.int .i64 a0_0, .int .i64 a0_1]) (t := 23) ?hr ?_; (case hd => rfl); (case hg => rfl); (case hr => first | (go_simp; done) | (go_simp; rfl)); intro gb325 hg w8 hbox hb; have n0_ := Aside0.mk (below_step (bw HB.out) hb); have n1_ := Aside0.mk (hbox); have n2_ := Aside0.mk ((by rw [hg]; exact (below_size (bw HB.out)) : w.heap.size ≤ gb325)); have n3_ := Aside0.mk ((by rw [hg]; exact (below_size (bw HB.out)) : w.heap.size ≤ gb325)); clear HB; have HB := n0_; have BK325 := n1_; have GW325 := n2_; have GE325 := n3_; clear n0_ n1_ n2_ n3_; clear hb hbox hg) | ((with_reducible refine gate_dst (N := 7) rfl ?_); refine box_event ?hg (N := 7) ?hd (cs := #[.int .i64 a3_0, .int .i64 a3_1]) (t := 59) ?hr ?_; (case hd => rfl); (case hg => rfl); (case hr => first | (go_simp; done) | (go_simp; rfl)); intro gb326 hg w9 hbox hb; have n0_ := Aside0.mk (blk_below (g := gb325) (o := .cells #[.int .i64 a0_0, .int .i64 a0_1] 23 (0, 0)) (bq BK325.out) hb); have n1_ := Aside0.mk (below_step (by repeat (first | (with_reducible first | exact HB.out | apply below_alloc | apply pw_below_drewN | apply below_drew1 | refine below_set ?_ GE325.out) | exact HB.out)) hb); have n2_ := Aside0.mk (hbox); have n3_ := Aside0.mk ((by rw [hg]; exact (below_size (by repeat (first | (with_reducible first | exact HB.out | apply below_alloc | apply pw_below_drewN | apply below_drew1 | refine below_set ?_ GE325.out) | exact HB.out))) : w.heap.size ≤ gb326)); have n4_ := Aside0.mk ((by rw [hg]; exact (below_size (by repeat (first | (with_reducible first | exact HB.out | apply below_alloc | apply pw_below_drewN | apply below_drew1 | refine below_set ?_ GE325.out) | exact HB.out))) : w.heap.size ≤ gb326)); have n5_ := Aside0.mk ((by rw [hg]; exact Nat.ne_of_lt (blk_lt (g := gb325) (o := .cells #[.int .i64 a0_0, .int .i64 a0_1] 23 (0, 0)) (bq BK325.out)) : gb325 ≠ gb326)); have n6_ := Aside0.mk ((by rw [hg]; exact Nat.ne_of_gt (blk_lt (g := gb325) (o := .cells #[.int .i64 a0_0, .int .i64 a0_1] 23 (0, 0)) (bq BK325.out)) : gb326 ≠ gb325)); clear BK325; clear HB; have BK325 := n0_; have HB := n1_; have BK326 := n2_; have GW326 := n3_; have GE326 := n4_; have NB325_326 := n5_; have NB326_325 := n6_; clear n0_ n1_ n2_ n3_ n4_ n5_ n6_; clear hb hbox hg))
  have n0_ := Aside0.mk (blk_drew BK325.out)
  have n1_ := Aside0.mk (blk_drew BK326.out)
  have n2_ := Aside0.mk (below_drew1 HB.out)
  clear BK325
  clear BK326
  clear HB
  have BK325 := n0_
  have BK326 := n1_
  have HB := n2_
  clear n0_ n1_ n2_
  refine start_ (n := 17) (S := fun w' => w'.cell? ⟨gb325, 0, none⟩ = some (.int .i64 a0_0) ∧ w'.cell? ⟨gb325, 1, none⟩ = some (.int .i64 a0_1) ∧ w'.cell? ⟨gb326, 0, none⟩ = some (.int .i64 a3_0) ∧ w'.cell? ⟨gb326, 1, none⟩ = some (.int .i64 a3_1)) (ds := []) #[false, false, false, false, false, false, false, false, false, false, false, false, false, false, false, false, false] (by kernel_rfl) rfl rfl ⟨(blk_cell BK325.out 0).trans rfl, (blk_cell BK325.out 1).trans rfl, (blk_cell BK326.out 0).trans rfl, (blk_cell BK326.out 1).trans rfl⟩ (fun hHeld => ?_); refine with_tabW acreageref05_least.tab1 acreageref05_least.bits1 (fun HT_ HW_ => ?_)
  generalize w9.drew = w10 at BK325 BK326 HB hHeld ⊢
  refine pure_ (i := 1) (N := some 14) (v := ?_) (a' := ?_) #[false, true, false, false, false, false, false, false, false, false, false, false, false, false, false, false, false] rfl rfl (any_of HT_.out (by kernel_rfl)) (fun _ _ _ h => h) (Or.inl ⟨by rfl, ?_⟩) ?_ ?_
  rotate_left
  ·intro w'
   go_simp
   with_reducible rfl
  rotate_left
  ·simp only [pq]
   rfl
  refine pure_ (i := 2) (N := some 15) (v := ?_) (a' := ?_) #[false, true, true, false, false, false, false, false, false, false, false, false, false, false, false, false, false] rfl rfl (any_of HT_.out (by kernel_rfl)) (fun _ _ _ h => h) (Or.inl ⟨by rfl, ?_⟩) ?_ ?_
  rotate_left
  ·intro w'
   go_simp
   with_reducible rfl
  rotate_left
  ·simp only [pq]
   rfl
  refine pure_ (i := 4) (N := some 17) (v := ?_) (a' := ?_) #[false, true, true, false, true, false, false, false, false, false, false, false, false, false, false, false, false] rfl rfl (any_of HT_.out (by kernel_rfl)) (fun _ _ _ h => h) (Or.inl ⟨by rfl, ?_⟩) ?_ ?_
  rotate_left
  ·intro w'
   go_simp
   with_reducible rfl
  rotate_left
  ·simp only [pq]
   rfl
  refine pure_ (i := 6) (N := some 19) (v := ?_) (a' := ?_) #[false, true, true, false, true, false, true, false, false, false, false, false, false, false, false, false, false] rfl rfl (any_of HT_.out (by kernel_rfl)) (fun _ _ _ h => h) (Or.inl ⟨by rfl, ?_⟩) ?_ ?_
  rotate_left
  ·intro w'
   go_simp
   with_reducible rfl
  rotate_left
  ·simp only [pq]
   rfl
  refine pure_ (i := 8) (N := some 21) (v := ?_) (a' := ?_) #[false, true, true, false, true, false, true, false, true, false, false, false, false, false, false, false, false] rfl rfl (any_of HT_.out (by kernel_rfl)) (fun _ _ _ h => h) (Or.inl ⟨by rfl, ?_⟩) ?_ ?_
  rotate_left
  ·intro w'
   go_simp
   with_reducible rfl
  rotate_left
  ·simp only [pq]
   rfl
  refine take_ (i := 0) (N := some 13) (v := ?_) (a' := ?_) #[true, true, true, false, true, false, true, false, true, false, false, false, false, false, false, false, false] rfl rfl (take_ofW HT_.out HW_.out (by kernel_rfl)) (fun _ _ _ h => h) (Or.inl ⟨by rfl, ?_⟩) hHeld ?_ ?_
  rotate_left
  ·rintro w' ⟨s0, s1, s2, s3⟩
   go_simp
   with_reducible rfl
  rotate_left
  ·simp only [pq]
   rfl
  refine take_ (i := 3) (N := some 16) (v := ?_) (a' := ?_) #[true, true, true, true, true, false, true, false, true, false, false, false, false, false, false, false, false] rfl rfl (take_ofW HT_.out HW_.out (by kernel_rfl)) (fun _ _ _ h => h) (Or.inl ⟨by rfl, ?_⟩) hHeld ?_ ?_
  rotate_left
  ·rintro w' ⟨s0, s1, s2, s3⟩
   go_simp
   with_reducible rfl
  rotate_left
  ·simp only [pq]
   rfl
  refine pure_ (i := 5) (N := some 18) (v := ?_) (a' := ?_) #[true, true, true, true, true, true, true, false, true, false, false, false, false, false, false, false, false] rfl rfl (any_of HT_.out (by kernel_rfl)) (fun _ _ _ h => h) (Or.inl ⟨by rfl, ?_⟩) ?_ ?_
  rotate_left
  ·intro w'
   go_simp
   with_reducible rfl
  rotate_left
  ·simp only [pq]
   rfl
  refine take_ (i := 7) (N := some 20) (v := ?_) (a' := ?_) #[true, true, true, true, true, true, true, true, true, false, false, false, false, false, false, false, false] rfl rfl (take_ofW HT_.out HW_.out (by kernel_rfl)) (fun _ _ _ h => h) (Or.inl ⟨by rfl, ?_⟩) hHeld ?_ ?_
  rotate_left
  ·rintro w' ⟨s0, s1, s2, s3⟩
   go_simp
   with_reducible rfl
  rotate_left
  ·simp only [pq]
   rfl
  refine pure_ (i := 9) (N := some 22) (v := ?_) (a' := ?_) #[true, true, true, true, true, true, true, true, true, true, false, false, false, false, false, false, false] rfl rfl (any_of HT_.out (by kernel_rfl)) (fun _ _ _ h => h) (Or.inl ⟨by rfl, ?_⟩) ?_ ?_
  rotate_left
  ·intro w'
   go_simp
   with_reducible rfl
  rotate_left
  ·simp only [pq]
   rfl
  refine join_ (σ := Nat) 2 #[true, true, true, true, true, true, true, true, true, true, true, true, true, true, true, false, false] (fun s_ => [(23, .tuple #[.agg #[.int .i64 t327, .int .i64 t328], .bool t329]), (10, .pointer (some ⟨s_, 0, none⟩)), (12, .tuple #[.agg #[.int .i64 t327, .int .i64 t328], .bool t329]), (24, .agg #[.int .i64 t327, .int .i64 t328]), (25, .bool t329)]) (fun s_ w' => (w'.cell? ⟨gb325, 0, none⟩ = some (.int .i64 a0_0) ∧ w'.cell? ⟨gb325, 1, none⟩ = some (.int .i64 a0_1) ∧ w'.cell? ⟨gb326, 0, none⟩ = some (.int .i64 a3_0) ∧ w'.cell? ⟨gb326, 1, none⟩ = some (.int .i64 a3_1)) ∧ (w'.heap[gb325]? = some (.cells #[.int .i64 a0_0, .int .i64 a0_1] 23 (0, 0))) ∧ (w'.heap[gb326]? = some (.cells #[.int .i64 a3_0, .int .i64 a3_1] 59 (0, 0))) ∧ (w'.heap[s_]? = some (.cells #[.int .i64 0, .int .i64 0] 59 (0, 0))) ∧ (w.heap.size ≤ s_) ∧ (w.heap.size ≤ s_) ∧ (gb325 ≠ s_) ∧ (s_ ≠ gb325) ∧ (gb326 ≠ s_) ∧ (s_ ≠ gb326) ∧ (Below w.heap.size w w')) ?_ ?_
  rotate_left
  ·intro hCont
   refine two_ (i := 10) (j := 14) (Ni := some 23) (Nj := some 10) #[true, true, true, true, true, true, true, true, true, true, true, false, false, false, false, false, false] #[true, true, true, true, true, true, true, true, true, true, false, false, false, false, true, false, false] rfl rfl rfl rfl (two_of HT_.out (by kernel_rfl)) (by decide) (by decide) (fun K hK => ?_) (fun K hK => ?_)
   ·skip
    refine goes_ Tryz.func136 (by kernel_rfl) rfl #[.agg #[.int .i64 a0_0, .int .i64 a0_1], .slice A1 l1.length c1, .int .i64 (wrap64 (Int.tdiv a3_0 a2)), .int .i64 (wrap64 (Int.tdiv a3_1 a2))] (by rfl) rfl rfl mq ?_
    with_reducible refine (acreageref05_run.calls k a0_0 a0_1 _ _ l1 (wrap64 (Int.tdiv a3_0 a2)) (wrap64 (Int.tdiv a3_1 a2)) t327 t328 t329 _ ?side1 ?side2 A6.out).mono ?_
    (case side1 => repeat (first | exact (Kd.C_below HR1.out HB.out) | (with_reducible refine Kd.C_alloc ?_ _) | (with_reducible refine Kd.C_drewN ?_ _) | (with_reducible refine Kd.C_drew ?_)))
    (case side2 => exact HC1.out)
    rintro e w11 ⟨rfl, hb⟩
    refine ⟨_, rfl, ?_⟩
    have n0_ := Aside0.mk (blk_below (g := gb325) (o := .cells #[.int .i64 a0_0, .int .i64 a0_1] 23 (0, 0)) (bq BK325.out) hb)
    have n1_ := Aside0.mk (blk_below (g := gb326) (o := .cells #[.int .i64 a3_0, .int .i64 a3_1] 59 (0, 0)) (bq BK326.out) hb)
    have n2_ := Aside0.mk (below_step (by repeat (first | (with_reducible first | exact HB.out | apply below_alloc | apply pw_below_drewN | apply below_drew1 | refine below_set ?_ GE325.out | refine below_set ?_ GE326.out) | exact HB.out)) hb)
    clear BK325
    clear BK326
    clear HB
    have BK325 := n0_
    have BK326 := n1_
    have HB := n2_
    clear n0_ n1_ n2_
    (try clear hb)
    (try clear hb2)
    (try clear hk)
    (try clear hi)
    refine hK.out _ _ ⟨(blk_cell BK325.out 0).trans rfl, (blk_cell BK325.out 1).trans rfl, (blk_cell BK326.out 0).trans rfl, (blk_cell BK326.out 1).trans rfl⟩ (fun hHeld => ?_)
    clear hK K
    refine norm_ (a' := ?_) ?_ ?_
    rotate_left
    ·show Act.put _ (some 23) _ = _
     simp only [pq]
     rfl
    refine pure_ (i := 11) (N := some 12) (v := ?_) (a' := ?_) #[true, true, true, true, true, true, true, true, true, true, true, true, false, false, false, false, false] rfl rfl (any_of HT_.out (by kernel_rfl)) (fun _ _ _ h => h) (Or.inl ⟨by rfl, ?_⟩) ?_ ?_
    rotate_left
    ·intro w'
     go_simp
     with_reducible rfl
    rotate_left
    ·simp only [pq]
     rfl
    refine pure_ (i := 12) (N := some 24) (v := ?_) (a' := ?_) #[true, true, true, true, true, true, true, true, true, true, true, true, true, false, false, false, false] rfl rfl (any_of HT_.out (by kernel_rfl)) (fun _ _ _ h => h) (Or.inl ⟨by rfl, ?_⟩) ?_ ?_
    rotate_left
    ·intro w'
     go_simp
     with_reducible rfl
    rotate_left
    ·simp only [pq]
     rfl
    refine pure_ (i := 13) (N := some 25) (v := ?_) (a' := ?_) #[true, true, true, true, true, true, true, true, true, true, true, true, true, true, false, false, false] rfl rfl (any_of HT_.out (by kernel_rfl)) (fun _ _ _ h => h) (Or.inl ⟨by rfl, ?_⟩) ?_ ?_
    rotate_left
    ·intro w'
     go_simp
     with_reducible rfl
    rotate_left
    ·simp only [pq]
     rfl
    refine one_ (i := 14) (N := some 10) #[true, true, true, true, true, true, true, true, true, true, true, true, true, true, true, false, false] rfl rfl (one_of HT_.out (by kernel_rfl)) (by decide) (fun K hK => ?_)
    refine box_step ?hg (N := 10) ?hd (cs := #[.int .i64 0, .int .i64 0]) (t := 59) ?hr ?_; (case hd => rfl); (case hg => rfl); (case hr => first | (go_simp; done) | (go_simp; rfl))
    intro gb330 hg w12 hbox hb
    have n0_ := Aside0.mk (blk_below (g := gb325) (o := .cells #[.int .i64 a0_0, .int .i64 a0_1] 23 (0, 0)) (bq BK325.out) hb)
    have n1_ := Aside0.mk (blk_below (g := gb326) (o := .cells #[.int .i64 a3_0, .int .i64 a3_1] 59 (0, 0)) (bq BK326.out) hb)
    have n2_ := Aside0.mk (below_step (by repeat (first | (with_reducible first | exact HB.out | apply below_alloc | apply pw_below_drewN | apply below_drew1 | refine below_set ?_ GE325.out | refine below_set ?_ GE326.out) | exact HB.out)) hb)
    have n3_ := Aside0.mk (hbox)
    have n4_ := Aside0.mk ((by rw [hg]; exact (below_size (by repeat (first | (with_reducible first | exact HB.out | apply below_alloc | apply pw_below_drewN | apply below_drew1 | refine below_set ?_ GE325.out | refine below_set ?_ GE326.out) | exact HB.out))) : w.heap.size ≤ gb330))
    have n5_ := Aside0.mk ((by rw [hg]; exact (below_size (by repeat (first | (with_reducible first | exact HB.out | apply below_alloc | apply pw_below_drewN | apply below_drew1 | refine below_set ?_ GE325.out | refine below_set ?_ GE326.out) | exact HB.out))) : w.heap.size ≤ gb330))
    have n6_ := Aside0.mk ((by rw [hg]; exact Nat.ne_of_lt (blk_lt (g := gb325) (o := .cells #[.int .i64 a0_0, .int .i64 a0_1] 23 (0, 0)) (bq BK325.out)) : gb325 ≠ gb330))
    have n7_ := Aside0.mk ((by rw [hg]; exact Nat.ne_of_gt (blk_lt (g := gb325) (o := .cells #[.int .i64 a0_0, .int .i64 a0_1] 23 (0, 0)) (bq BK325.out)) : gb330 ≠ gb325))
    have n8_ := Aside0.mk ((by rw [hg]; exact Nat.ne_of_lt (blk_lt (g := gb326) (o := .cells #[.int .i64 a3_0, .int .i64 a3_1] 59 (0, 0)) (bq BK326.out)) : gb326 ≠ gb330))
    have n9_ := Aside0.mk ((by rw [hg]; exact Nat.ne_of_gt (blk_lt (g := gb326) (o := .cells #[.int .i64 a3_0, .int .i64 a3_1] 59 (0, 0)) (bq BK326.out)) : gb330 ≠ gb326))
    clear BK325
    clear BK326
    clear HB
    have BK325 := n0_
    have BK326 := n1_
    have HB := n2_
    have BK330 := n3_
    have GW330 := n4_
    have GE330 := n5_
    have NB325_330 := n6_
    have NB330_325 := n7_
    have NB326_330 := n8_
    have NB330_326 := n9_
    clear n0_ n1_ n2_ n3_ n4_ n5_ n6_ n7_ n8_ n9_
    clear hb hbox hg
    refine hK.out _ _ ⟨(blk_cell BK325.out 0).trans rfl, (blk_cell BK325.out 1).trans rfl, (blk_cell BK326.out 0).trans rfl, (blk_cell BK326.out 1).trans rfl⟩ (fun hHeld => ?_)
    clear hK K
    refine norm_ (a' := ?_) ?_ ?_
    rotate_left
    ·show Act.put _ (some 10) _ = _
     simp only [pq]
     rfl
    exact norm_ (by simp only [putAll, Act.put, List.setIfInBounds_toArray, List.set_cons_zero, List.set_cons_succ]) (hCont (gb330) _ ⟨hHeld, (bq BK325.out), (bq BK326.out), (bq BK330.out), GW330.out, GE330.out, NB325_330.out, NB330_325.out, NB326_330.out, NB330_326.out, (by repeat (first | (with_reducible first | exact HB.out | apply below_alloc | apply pw_below_drewN | apply below_drew1 | refine below_set ?_ GE325.out | refine below_set ?_ GE326.out | refine below_set ?_ GE330.out) | exact HB.out))⟩)
   ·skip
    refine box_step ?hg (N := 10) ?hd (cs := #[.int .i64 0, .int .i64 0]) (t := 59) ?hr ?_; (case hd => rfl); (case hg => rfl); (case hr => first | (go_simp; done) | (go_simp; rfl))
    intro gb330 hg w11 hbox hb
    have n0_ := Aside0.mk (blk_below (g := gb325) (o := .cells #[.int .i64 a0_0, .int .i64 a0_1] 23 (0, 0)) (bq BK325.out) hb)
    have n1_ := Aside0.mk (blk_below (g := gb326) (o := .cells #[.int .i64 a3_0, .int .i64 a3_1] 59 (0, 0)) (bq BK326.out) hb)
    have n2_ := Aside0.mk (below_step (by repeat (first | (with_reducible first | exact HB.out | apply below_alloc | apply pw_below_drewN | apply below_drew1 | refine below_set ?_ GE325.out | refine below_set ?_ GE326.out) | exact HB.out)) hb)
    have n3_ := Aside0.mk (hbox)
    have n4_ := Aside0.mk ((by rw [hg]; exact (below_size (by repeat (first | (with_reducible first | exact HB.out | apply below_alloc | apply pw_below_drewN | apply below_drew1 | refine below_set ?_ GE325.out | refine below_set ?_ GE326.out) | exact HB.out))) : w.heap.size ≤ gb330))
    have n5_ := Aside0.mk ((by rw [hg]; exact (below_size (by repeat (first | (with_reducible first | exact HB.out | apply below_alloc | apply pw_below_drewN | apply below_drew1 | refine below_set ?_ GE325.out | refine below_set ?_ GE326.out) | exact HB.out))) : w.heap.size ≤ gb330))
    have n6_ := Aside0.mk ((by rw [hg]; exact Nat.ne_of_lt (blk_lt (g := gb325) (o := .cells #[.int .i64 a0_0, .int .i64 a0_1] 23 (0, 0)) (bq BK325.out)) : gb325 ≠ gb330))
    have n7_ := Aside0.mk ((by rw [hg]; exact Nat.ne_of_gt (blk_lt (g := gb325) (o := .cells #[.int .i64 a0_0, .int .i64 a0_1] 23 (0, 0)) (bq BK325.out)) : gb330 ≠ gb325))
    have n8_ := Aside0.mk ((by rw [hg]; exact Nat.ne_of_lt (blk_lt (g := gb326) (o := .cells #[.int .i64 a3_0, .int .i64 a3_1] 59 (0, 0)) (bq BK326.out)) : gb326 ≠ gb330))
    have n9_ := Aside0.mk ((by rw [hg]; exact Nat.ne_of_gt (blk_lt (g := gb326) (o := .cells #[.int .i64 a3_0, .int .i64 a3_1] 59 (0, 0)) (bq BK326.out)) : gb330 ≠ gb326))
    clear BK325
    clear BK326
    clear HB
    have BK325 := n0_
    have BK326 := n1_
    have HB := n2_
    have BK330 := n3_
    have GW330 := n4_
    have GE330 := n5_
    have NB325_330 := n6_
    have NB330_325 := n7_
    have NB326_330 := n8_
    have NB330_326 := n9_
    clear n0_ n1_ n2_ n3_ n4_ n5_ n6_ n7_ n8_ n9_
    clear hb hbox hg
    refine hK.out _ _ ⟨(blk_cell BK325.out 0).trans rfl, (blk_cell BK325.out 1).trans rfl, (blk_cell BK326.out 0).trans rfl, (blk_cell BK326.out 1).trans rfl⟩ (fun hHeld => ?_)
    clear hK K
    refine norm_ (a' := ?_) ?_ ?_
    rotate_left
    ·show Act.put _ (some 10) _ = _
     simp only [pq]
     rfl
    refine one_ (i := 10) (N := some 23) #[true, true, true, true, true, true, true, true, true, true, true, false, false, false, true, false, false] rfl rfl (one_of HT_.out (by kernel_rfl)) (by decide) (fun K hK => ?_)
    refine goes_ Tryz.func136 (by kernel_rfl) rfl #[.agg #[.int .i64 a0_0, .int .i64 a0_1], .slice A1 l1.length c1, .int .i64 (wrap64 (Int.tdiv a3_0 a2)), .int .i64 (wrap64 (Int.tdiv a3_1 a2))] (by rfl) rfl rfl mq ?_
    with_reducible refine (acreageref05_run.calls k a0_0 a0_1 _ _ l1 (wrap64 (Int.tdiv a3_0 a2)) (wrap64 (Int.tdiv a3_1 a2)) t327 t328 t329 _ ?side1 ?side2 A6.out).mono ?_
    (case side1 => repeat (first | exact (Kd.C_below HR1.out HB.out) | (with_reducible refine Kd.C_alloc ?_ _) | (with_reducible refine Kd.C_drewN ?_ _) | (with_reducible refine Kd.C_drew ?_)))
    (case side2 => exact HC1.out)
    rintro e w12 ⟨rfl, hb⟩
    refine ⟨_, rfl, ?_⟩
    have n0_ := Aside0.mk (blk_below (g := gb325) (o := .cells #[.int .i64 a0_0, .int .i64 a0_1] 23 (0, 0)) (bq BK325.out) hb)
    have n1_ := Aside0.mk (blk_below (g := gb326) (o := .cells #[.int .i64 a3_0, .int .i64 a3_1] 59 (0, 0)) (bq BK326.out) hb)
    have n2_ := Aside0.mk (blk_below (g := gb330) (o := .cells #[.int .i64 0, .int .i64 0] 59 (0, 0)) (bq BK330.out) hb)
    have n3_ := Aside0.mk (below_step (by repeat (first | (with_reducible first | exact HB.out | apply below_alloc | apply pw_below_drewN | apply below_drew1 | refine below_set ?_ GE325.out | refine below_set ?_ GE326.out | refine below_set ?_ GE330.out) | exact HB.out)) hb)
    clear BK325
    clear BK326
    clear BK330
    clear HB
    have BK325 := n0_
    have BK326 := n1_
    have BK330 := n2_
    have HB := n3_
    clear n0_ n1_ n2_ n3_
    (try clear hb)
    (try clear hb2)
    (try clear hk)
    (try clear hi)
    refine hK.out _ _ ⟨(blk_cell BK325.out 0).trans rfl, (blk_cell BK325.out 1).trans rfl, (blk_cell BK326.out 0).trans rfl, (blk_cell BK326.out 1).trans rfl⟩ (fun hHeld => ?_)
    clear hK K
    refine norm_ (a' := ?_) ?_ ?_
    rotate_left
    ·show Act.put _ (some 23) _ = _
     simp only [pq]
     rfl
    refine pure_ (i := 11) (N := some 12) (v := ?_) (a' := ?_) #[true, true, true, true, true, true, true, true, true, true, true, true, false, false, true, false, false] rfl rfl (any_of HT_.out (by kernel_rfl)) (fun _ _ _ h => h) (Or.inl ⟨by rfl, ?_⟩) ?_ ?_
    rotate_left
    ·intro w'
     go_simp
     with_reducible rfl
    rotate_left
    ·simp only [pq]
     rfl
    refine pure_ (i := 12) (N := some 24) (v := ?_) (a' := ?_) #[true, true, true, true, true, true, true, true, true, true, true, true, true, false, true, false, false] rfl rfl (any_of HT_.out (by kernel_rfl)) (fun _ _ _ h => h) (Or.inl ⟨by rfl, ?_⟩) ?_ ?_
    rotate_left
    ·intro w'
     go_simp
     with_reducible rfl
    rotate_left
    ·simp only [pq]
     rfl
    refine pure_ (i := 13) (N := some 25) (v := ?_) (a' := ?_) #[true, true, true, true, true, true, true, true, true, true, true, true, true, true, true, false, false] rfl rfl (any_of HT_.out (by kernel_rfl)) (fun _ _ _ h => h) (Or.inl ⟨by rfl, ?_⟩) ?_ ?_
    rotate_left
    ·intro w'
     go_simp
     with_reducible rfl
    rotate_left
    ·simp only [pq]
     rfl
    exact norm_ (by simp only [putAll, Act.put, List.setIfInBounds_toArray, List.set_cons_zero, List.set_cons_succ]) (hCont (gb330) _ ⟨hHeld, (bq BK325.out), (bq BK326.out), (bq BK330.out), GW330.out, GE330.out, NB325_330.out, NB330_325.out, NB326_330.out, NB330_326.out, (by repeat (first | (with_reducible first | exact HB.out | apply below_alloc | apply pw_below_drewN | apply below_drew1 | refine below_set ?_ GE325.out | refine below_set ?_ GE326.out | refine below_set ?_ GE330.out) | exact HB.out))⟩)
  rintro gb330 w13 ⟨hS_, h0_, h1_, h2_, h3_, h4_, h5_, h6_, h7_, h8_, h9_⟩
  have n0_ : Aside0 (w13.heap[gb325]? = some (.cells #[.int .i64 a0_0, .int .i64 a0_1] 23 (0, 0))) := ⟨h0_⟩
  have n1_ : Aside0 (w13.heap[gb326]? = some (.cells #[.int .i64 a3_0, .int .i64 a3_1] 59 (0, 0))) := ⟨h1_⟩
  have n2_ : Aside0 (w13.heap[gb330]? = some (.cells #[.int .i64 0, .int .i64 0] 59 (0, 0))) := ⟨h2_⟩
  have n3_ : Aside0 (w.heap.size ≤ gb330) := ⟨h3_⟩
  have n4_ : Aside0 (w.heap.size ≤ gb330) := ⟨h4_⟩
  have n5_ : Aside0 (gb325 ≠ gb330) := ⟨h5_⟩
  have n6_ : Aside0 (gb330 ≠ gb325) := ⟨h6_⟩
  have n7_ : Aside0 (gb326 ≠ gb330) := ⟨h7_⟩
  have n8_ : Aside0 (gb330 ≠ gb326) := ⟨h8_⟩
  have n9_ : Aside0 (Below w.heap.size w w13) := ⟨h9_⟩
  clear BK325
  clear BK326
  clear HB
  clear h0_ h1_ h2_ h3_ h4_ h5_ h6_ h7_ h8_ h9_
  have BK325 := n0_
  have BK326 := n1_
  have BK330 := n2_
  have GW330 := n3_
  have GE330 := n4_
  have NB325_330 := n5_
  have NB330_325 := n6_
  have NB326_330 := n7_
  have NB330_326 := n8_
  have HB := n9_
  clear n0_ n1_ n2_ n3_ n4_ n5_ n6_ n7_ n8_ n9_
  have hHeld : w13.cell? ⟨gb325, 0, none⟩ = some (.int .i64 a0_0) ∧ w13.cell? ⟨gb325, 1, none⟩ = some (.int .i64 a0_1) ∧ w13.cell? ⟨gb326, 0, none⟩ = some (.int .i64 a3_0) ∧ w13.cell? ⟨gb326, 1, none⟩ = some (.int .i64 a3_1) := hS_
  refine norm_ (a' := ?_) ?_ ?_
  rotate_left
  ·simp only [putAll, Act.put, List.setIfInBounds_toArray, List.set_cons_zero, List.set_cons_succ]
   rfl
  refine one_ (i := 15) (N := none) #[true, true, true, true, true, true, true, true, true, true, true, true, true, true, true, true, false] rfl rfl (one_of HT_.out (by kernel_rfl)) (by decide) (fun K hK => ?_)
  have hs14 : w13.cell? ⟨gb330, 0, none⟩ = some (.int .i64 0) := (blk_cell BK330.out 0).trans rfl
  have hfs14 := blk_frozen BK330.out 0
  have hns14_0 := NB325_330.out
  have hns14_1 := NB326_330.out
  have hms14_0 := NB330_325.out
  have hms14_1 := NB330_326.out
  have hs15 : w13.cell? ⟨gb330, 1, none⟩ = some (.int .i64 0) := (blk_cell BK330.out 1).trans rfl
  have hfs15 := blk_frozen BK330.out 1
  have hns15_0 := NB325_330.out
  have hns15_1 := NB326_330.out
  have hms15_0 := NB330_325.out
  have hms15_1 := NB330_326.out
  refine skip_ (w1 := ?_) (by rfl) rfl ?_ ?_
  rotate_left
  ·go_simp
   rfl
  refine hK.out _ _ ⟨((cell_far (p := ⟨gb330, _, none⟩) NB325_330.out _).trans (((cell_far (p := ⟨gb330, _, none⟩) NB325_330.out _).trans (hHeld.1)))), ((cell_far (p := ⟨gb330, _, none⟩) NB325_330.out _).trans (((cell_far (p := ⟨gb330, _, none⟩) NB325_330.out _).trans (hHeld.2.1)))), ((cell_far (p := ⟨gb330, _, none⟩) NB326_330.out _).trans (((cell_far (p := ⟨gb330, _, none⟩) NB326_330.out _).trans (hHeld.2.2.1)))), ((cell_far (p := ⟨gb330, _, none⟩) NB326_330.out _).trans (((cell_far (p := ⟨gb330, _, none⟩) NB326_330.out _).trans (hHeld.2.2.2))))⟩ (fun hHeld => ?_)
  clear hK K
  refine pure_ (i := 16) (N := some 11) (v := ?_) (a' := ?_) #[true, true, true, true, true, true, true, true, true, true, true, true, true, true, true, true, true] rfl rfl (any_of HT_.out (by kernel_rfl)) (fun _ _ _ h => h) (Or.inl ⟨by rfl, ?_⟩) ?_ ?_
  rotate_left
  ·intro w'
   go_simp
   with_reducible rfl
  rotate_left
  ·simp only [pq]
   rfl
  refine done_ (done_of HT_.out (by kernel_rfl)) ?_
  have hnb16 := NB330_325.out
  have hnc16 := NB325_330.out
  have hnb17 := NB330_326.out
  have hnc17 := NB326_330.out
  have hcz18_0 : w13.cell? ⟨gb330, 0, none⟩ = some (.int .i64 0) := (blk_cell BK330.out 0).trans rfl
  have hcz18_1 : w13.cell? ⟨gb330, 1, none⟩ = some (.int .i64 0) := (blk_cell BK330.out 1).trans rfl
  have hfz18_0 := blk_frozen BK330.out 0
  have hfz18_1 := blk_frozen BK330.out 1
  have hnb19 := NB326_325.out
  have hnc19 := NB325_326.out
  have hcz20_0 : w13.cell? ⟨gb326, 0, none⟩ = some (.int .i64 a3_0) := (blk_cell BK326.out 0).trans rfl
  have hcz20_1 : w13.cell? ⟨gb326, 1, none⟩ = some (.int .i64 a3_1) := (blk_cell BK326.out 1).trans rfl
  have hfz20_0 := blk_frozen BK326.out 0
  have hfz20_1 := blk_frozen BK326.out 1
  try go_wp2
  go_ret2
  exact ⟨by first | rfl | (simp [errW_none, errW_some] <;> rfl) | (simp only [← hji7]; first | rfl | (simp [errW_none, errW_some] <;> rfl)) | (simp [*, errW_none, errW_some] <;> rfl), by repeat (first | (with_reducible first | exact HB.out | apply below_alloc | apply pw_below_drewN | apply below_drew1 | refine below_set ?_ GE325.out | refine below_set ?_ GE326.out | refine below_set ?_ GE330.out) | exact HB.out)⟩
def acreageref05_fits.f (k : Nat) (a0_0 : Int) (a0_1 : Int) (a1_0 : Int) (a1_1 : Int) (a1_2 : Int) (a1_3 : Int) (a2 : Int) : Option (Bool) := (acreageref05_least.f k a0_0 a0_1 (([(⟨a1_2, a1_3⟩ : S114)] : List (S114))) a2 a1_0 a1_1).bind fun bt336 => (some bt336.2)
theorem acreageref05_fits.mono : ∀ a0 a1 a2 a3 a4 a5 a6 k, LeO (acreageref05_fits.f k a0 a1 a2 a3 a4 a5 a6) (acreageref05_fits.f (k + 1) a0 a1 a2 a3 a4 a5 a6) := by
 intro a0 a1 a2 a3 a4 a5 a6 k
 unfold acreageref05_fits.f
 repeat' first
   |(with_reducible exact acreageref05_least.mono _ _ _ _ _ _ _)
   |(with_reducible exact LeO.refl _)
   |(with_reducible exact LeO.none _)
   |(with_reducible refine LeO.ite ?_ ?_)
   |(with_reducible refine LeO.bind ?_ (fun _ => ?_))
   |exact acreageref05_least.mono _ _ _ _ _ _ _
   |exact LeO.none _
   |refine LeO.ite ?_ ?_
   |refine LeO.bind ?_ (fun _ => ?_)
set_option maxHeartbeats 8000000 in
set_option maxRecDepth 100000 in
theorem acreageref05_fits.calls (k : Nat) (a0_0 : Int) (a0_1 : Int) (a1_0 : Int) (a1_1 : Int) (a1_2 : Int) (a1_3 : Int) (a2 : Int) (r : Bool) (w : World) (h : acreageref05_fits.f k a0_0 a0_1 a1_0 a1_1 a1_2 a1_3 a2 = some r) :
  Calls Tryz.prog 66 #[.agg #[.int .i64 a0_0, .int .i64 a0_1], .agg #[.int .i64 a1_0, .int .i64 a1_1, .int .i64 a1_2, .int .i64 a1_3], .int .i64 a2] w fun e w' => e = .returned (.bool r) ∧ Below w.heap.size w w' := by
 have hu23 := Tryz.underlying23
 have hu61 := Tryz.underlying61
 have hu114 := Tryz.underlying114
 have hu59 := Tryz.underlying59
 have HB := Aside0.mk (Below.refl w.heap.size w)
 have H : ((acreageref05_least.f k a0_0 a0_1 (([(⟨a1_2, a1_3⟩ : S114)] : List (S114))) a2 a1_0 a1_1).bind fun bt336 => (some bt336.2)) = some r := h
 clear h
 obtain ⟨y333, hy333⟩ : ∃ y_ : List (S114), y_ = (([(⟨a1_2, a1_3⟩ : S114)] : List (S114))) := ⟨_, rfl⟩
 replace H : ((acreageref05_least.f k a0_0 a0_1 y333 a2 a1_0 a1_1).bind fun bt336 => (some bt336.2)) = some r := by first | (rw [hy333]; with_reducible exact H) | (have H2_ := (Option.bind_some _ _).symm.trans H; rw [hy333]; with_reducible exact H2_) | (have H2_ := (Option.bind_some _ _).symm.trans H; with_reducible exact H2_) | with_reducible exact H | (rw [hy333]; exact H) | exact H
 have Ny333 := Aside0.mk hy333
 clear hy333
 replace H := Option.bind_eq_some_iff.mp H
 obtain ⟨⟨t336, t337⟩, A40, H⟩ := H
 replace H : (some t337) = some r := H
 have A4 := Aside0.mk A40
 clear A40
 obtain rfl := Option.some.inj H
 go_enter Tryz.func66, Tryz.ntmps66
 go_wp2_with (first | ((with_reducible refine gate_dst (N := 3) rfl ?_); refine box_event ?hg (N := 3) ?hd (cs := #[.int .i64 a0_0, .int .i64 a0_1]) (t := 23) ?hr ?_; (case hd => rfl); (case hg => rfl); (case hr => first | (go_simp; done) | (go_simp; rfl)); intro gb331 hg w5 hbox hb; have n0_ := Aside0.mk (below_step (bw HB.out) hb); have n1_ := Aside0.mk (hbox); have n2_ := Aside0.mk ((by rw [hg]; exact (below_size (bw HB.out)) : w.heap.size ≤ gb331)); have n3_ := Aside0.mk ((by rw [hg]; exact (below_size (bw HB.out)) : w.heap.size ≤ gb331)); clear HB; have HB := n0_; have BK331 := n1_; have GW331 := n2_; have GE331 := n3_; clear n0_ n1_ n2_ n3_; clear hb hbox hg) | ((with_reducible refine gate_dst (N := 4) rfl ?_); refine box_event ?hg (N := 4) ?hd (cs := #[.int .i64 a1_0, .int .i64 a1_1, .int .i64 a1_2, .int .i64 a1_3]) (t := 61) ?hr ?_; (case hd => rfl); (case hg => rfl); (case hr => first | (go_simp; done) | (go_simp; rfl)); intro gb332 hg w6 hbox hb; have n0_ := Aside0.mk (blk_below (g := gb331) (o := .cells #[.int .i64 a0_0, .int .i64 a0_1] 23 (0, 0)) (bq BK331.out) hb); have n1_ := Aside0.mk (below_step (by repeat (first | (with_reducible first | exact HB.out | apply below_alloc | apply pw_below_drewN | apply below_drew1 | refine below_set ?_ GE331.out) | exact HB.out)) hb); have n2_ := Aside0.mk (hbox); have n3_ := Aside0.mk ((by rw [hg]; exact (below_size (by repeat (first | (with_reducible first | exact HB.out | apply below_alloc | apply pw_below_drewN | apply below_drew1 | refine below_set ?_ GE331.out) | exact HB.out))) : w.heap.size ≤ gb332)); have n4_ := Aside0.mk ((by rw [hg]; exact (below_size (by repeat (first | (with_reducible first | exact HB.out | apply below_alloc | apply pw_below_drewN | apply below_drew1 | refine below_set ?_ GE331.out) | exact HB.out))) : w.heap.size ≤ gb332)); have n5_ := Aside0.mk ((by rw [hg]; exact Nat.ne_of_lt (blk_lt (g := gb331) (o := .cells #[.int .i64 a0_0, .int .i64 a0_1] 23 (0, 0)) (bq BK331.out)) : gb331 ≠ gb332)); have n6_ := Aside0.mk ((by rw [hg]; exact Nat.ne_of_gt (blk_lt (g := gb331) (o := .cells #[.int .i64 a0_0, .int .i64 a0_1] 23 (0, 0)) (bq BK331.out)) : gb332 ≠ gb331)); clear BK331; clear HB; have BK331 := n0_; have HB := n1_; have BK332 := n2_; have GW332 := n3_; have GE332 := n4_; have NB331_332 := n5_; have NB332_331 := n6_; clear n0_ n1_ n2_ n3_ n4_ n5_ n6_; clear hb hbox hg; have hnb7 := NB331_332.out; have hnc7 := NB332_331.out; have hcz8_0 : w6.cell? ⟨gb331, 0, none⟩ = some (.int .i64 a0_0) := (blk_cell BK331.out 0).trans rfl; have hcz8_1 : w6.cell? ⟨gb331, 1, none⟩ = some (.int .i64 a0_1) := (blk_cell BK331.out 1).trans rfl; have hfz8_0 := blk_frozen BK331.out 0; have hfz8_1 := blk_frozen BK331.out 1; have hcz9_0 : w6.cell? ⟨gb332, 0, none⟩ = some (.int .i64 a1_0) := (blk_cell BK332.out 0).trans rfl; have hcz9_1 : w6.cell? ⟨gb332, 1, none⟩ = some (.int .i64 a1_1) := (blk_cell BK332.out 1).trans rfl; have hcz9_2 : w6.cell? ⟨gb332, 2, none⟩ = some (.int .i64 a1_2) := (blk_cell BK332.out 2).trans rfl; have hcz9_3 : w6.cell? ⟨gb332, 3, none⟩ = some (.int .i64 a1_3) := (blk_cell BK332.out 3).trans rfl; have hfz9_0 := blk_frozen BK332.out 0; have hfz9_1 := blk_frozen BK332.out 1; have hfz9_2 := blk_frozen BK332.out 2; have hfz9_3 := blk_frozen BK332.out 3) | ((with_reducible refine gate_dst (N := 16) rfl ?_); refine Kd.R_lit k114 _ 114 ?hg (N := 16) ?hd (xs := ([(⟨a1_2, a1_3⟩ : S114)] : List (S114))) (inner := [.int .i64 a1_2, .int .i64 a1_3]) (ok := fun _ => True) (okp := fun _ => True) ?hr ?hp (fun _ hk => hk) trivial (Below.refl _ _) (Nat.le_refl _) (by simp) ?_; (case hd => rfl); (case hg => rfl); (case hr => first | (go_simp; done) | (go_simp; rfl)); (case hp => exact (Reps.c2 (show Kd.M k114 _ _ _ (⟨a1_2, a1_3⟩ : S114) [.int .i64 a1_2, .int .i64 a1_3] from (k114_mkM _ _ _ (⟨a1_2, a1_3⟩ : S114) )) (Reps.none _ _))); intro v334 w10 ho11 hb hg_ hnew_; clear hg_ hnew_; (first | rw [← Ny333.out] at ho11 | (simp only [Int.reduceToNat] at ho11; rw [← Ny333.out] at ho11)); have n0_ := Aside0.mk (Kd.R_lower ho11 (below_size (by repeat (first | (with_reducible first | exact HB.out | apply below_alloc | apply pw_below_drewN | apply below_drew1 | refine below_set ?_ GE331.out | refine below_set ?_ GE332.out) | exact HB.out)))); have n1_ := Aside0.mk (blk_below (g := gb331) (o := .cells #[.int .i64 a0_0, .int .i64 a0_1] 23 (0, 0)) (bq BK331.out) hb); have n2_ := Aside0.mk (blk_below (g := gb332) (o := .cells #[.int .i64 a1_0, .int .i64 a1_1, .int .i64 a1_2, .int .i64 a1_3] 61 (0, 0)) (bq BK332.out) hb); have n3_ := Aside0.mk (below_step (by repeat (first | (with_reducible first | exact HB.out | apply below_alloc | apply pw_below_drewN | apply below_drew1 | refine below_set ?_ GE331.out | refine below_set ?_ GE332.out) | exact HB.out)) hb); clear BK331; clear BK332; clear HB; have HO335 := n0_; have BK331 := n1_; have BK332 := n2_; have HB := n3_; clear n0_ n1_ n2_ n3_; clear hb ho11; have hcz12_0 : w10.cell? ⟨gb332, 0, none⟩ = some (.int .i64 a1_0) := (blk_cell BK332.out 0).trans rfl; have hcz12_1 : w10.cell? ⟨gb332, 1, none⟩ = some (.int .i64 a1_1) := (blk_cell BK332.out 1).trans rfl; have hcz12_2 : w10.cell? ⟨gb332, 2, none⟩ = some (.int .i64 a1_2) := (blk_cell BK332.out 2).trans rfl; have hcz12_3 : w10.cell? ⟨gb332, 3, none⟩ = some (.int .i64 a1_3) := (blk_cell BK332.out 3).trans rfl; have hfz12_0 := blk_frozen BK332.out 0; have hfz12_1 := blk_frozen BK332.out 1; have hfz12_2 := blk_frozen BK332.out 2; have hfz12_3 := blk_frozen BK332.out 3; obtain ⟨Ao13, co13, eo13⟩ := Kd.R_slice HO335.out; subst eo13) | ((with_reducible refine gate_callee (f := 119) rfl ?_); refine goesL_ (some 20) rfl rfl Tryz.func119 (by kernel_rfl) rfl #[.agg #[.int .i64 a0_0, .int .i64 a0_1], .slice Ao13 y333.length co13, .int .i64 a2, .agg #[.int .i64 a1_0, .int .i64 a1_1]] rfl mq ?_; (with_reducible refine (acreageref05_least.calls k a0_0 a0_1 _ _ y333 a2 a1_0 a1_1 t336 t337 _ ?side1 ?side2 A4.out).mono ?_); (case side1 => repeat (first | exact (Kd.R_reads' HO335.out).2.2 | (with_reducible refine Kd.C_alloc ?_ _) | (with_reducible refine Kd.C_drewN ?_ _) | (with_reducible refine Kd.C_drew ?_))); (case side2 => exact (Kd.R_reads' HO335.out).2.1); rintro e w14 ⟨rfl, hb⟩; refine ⟨_, rfl, ?_⟩; have n0_ := Aside0.mk (Kd.R_below (rq HO335.out) hb); have n1_ := Aside0.mk (blk_below (g := gb331) (o := .cells #[.int .i64 a0_0, .int .i64 a0_1] 23 (0, 0)) (bq BK331.out) hb); have n2_ := Aside0.mk (blk_below (g := gb332) (o := .cells #[.int .i64 a1_0, .int .i64 a1_1, .int .i64 a1_2, .int .i64 a1_3] 61 (0, 0)) (bq BK332.out) hb); have n3_ := Aside0.mk (below_step (by repeat (first | (with_reducible first | exact HB.out | apply below_alloc | apply pw_below_drewN | apply below_drew1 | refine below_set ?_ GE331.out | refine below_set ?_ GE332.out) | exact HB.out)) hb); clear HO335; clear BK331; clear BK332; clear HB; have HO335 := n0_; have BK331 := n1_; have BK332 := n2_; have HB := n3_; clear n0_ n1_ n2_ n3_; (try clear hb); (try clear hb2); (try clear hk); (try clear hi)))
 go_ret
 exact ⟨by first | rfl | (simp [errW_none, errW_some] <;> rfl) | (simp [*, errW_none, errW_some] <;> rfl), by repeat (first | (with_reducible first | exact HB.out | apply below_alloc | apply pw_below_drewN | apply below_drew1 | refine below_set ?_ GE331.out | refine below_set ?_ GE332.out) | exact HB.out)⟩
def cds (D : Int) (l : List S114) : List Int := l.map fun x => wDist D x.f0 x.f1
def circOk (D : Int) (l : List S114) : Prop := l.length ≤ 1000 ∧ ∀ x ∈ l, 0 ≤ x.f0 ∧ x.f0 < D ∧ 0 ≤ x.f1 ∧ x.f1 < D
theorem cds_ok {D : Int} {l : List S114} (hD : 0 < D) (h : circOk D l) : dsOk D (cds D l) := by
 refine ⟨by unfold cds; rw [List.length_map]; exact h.1, fun d hd => ?_⟩
 obtain ⟨x, _, rfl⟩ := List.mem_map.1 hd
 exact wDist_bd hD
def foldC (D S n : Int) (l : List Int) (b : Int) : Int := l.foldl (fun b d => mn b (wMid D S d n + S)) b
theorem foldC_le (D S n : Int) : ∀ (l : List Int) (b : Int), foldC D S n l b ≤ b
 |[], b => Int.le_refl _
 |d :: l, b => Int.le_trans (foldC_le D S n l _) (mn_le_left _ _)
theorem foldC_mem (D S n : Int) : ∀ (l : List Int) (b d : Int), d ∈ l → foldC D S n l b ≤ wMid D S d n + S
 |d' :: l, b, d, h => by
  rcases List.mem_cons.1 h with rfl | h
  ·exact Int.le_trans (foldC_le D S n l _) (mn_le_right _ _)
  ·exact foldC_mem D S n l _ d h
theorem le_foldC (D S n c : Int) : ∀ (l : List Int) (b : Int), c ≤ b → (∀ d ∈ l, c ≤ wMid D S d n + S) → c ≤ foldC D S n l b
 |[], b, h, _ => h
 |d :: l, b, h, h' => le_foldC D S n c l _ (le_mn h (h' d List.mem_cons_self)) (fun x hx => h' x (List.mem_cons_of_mem _ hx))
theorem run_inner (D S n last lim : Int) (l : List S114) (hw : wOk D S) (hl : circOk D l) (hn0 : 0 ≤ n) (hn1 : n ≤ 4398046511104) : ∀ (m i : Nat), i + m = l.length → ∀ (k : Nat) (a b : Int),
  acreageref05_run.l1 (k + m + 1) l last lim n (i : Int) D S a b =
   if foldA D S n ((cds D l).drop i) a = n then some (foldA D S n ((cds D l).drop i) a, foldC D S n ((cds D l).drop i) b, true) else acreageref05_run.l0 k l last lim (foldA D S n ((cds D l).drop i) a) D S := by
 intro m
 induction m with
 |zero =>
  intro i hi k a b
  have hi' : i = l.length := by omega
  subst hi'
  rw [show (cds D l).drop l.length = [] by rw [List.drop_eq_nil_iff]; unfold cds; simp]
  simp only [acreageref05_run.l1, Nat.add_zero]
  rw [if_neg (by omega)]
  rfl
 |succ m ih =>
  intro i hi k a b
  have hlt : i < l.length := by omega
  have hll := hl.1
  have hd := hl.2 l[i] (List.getElem_mem hlt)
  have hrd : rd_T114 l (i : Int) = l[i] := by unfold rd_T114; rw [Int.toNat_natCast, List.getD_eq_getElem?_getD, List.getElem?_eq_getElem hlt, Option.getD_some]
  have hrun : acreageref05_next.f D S l[i].f0 l[i].f1 n = some (wFirst D S (wDist D l[i].f0 l[i].f1) n, wMid D S (wDist D l[i].f0 l[i].f1) n + S) := by unfold acreageref05_next.f; rw [if_pos ⟨hw, hd.1, hd.2.1, hd.2.2.1, hd.2.2.2, hn0, hn1⟩]
  obtain ⟨K, hK⟩ : ∃ K, K = k + m + 1 := ⟨_, rfl⟩
  rw [show k + (m + 1) + 1 = K + 1 by omega]
  simp only [acreageref05_run.l1]
  rw [if_pos (by omega), if_pos (by omega), hrd, hrun]
  simp only [Option.bind_some]
  have hltc : i < (cds D l).length := by unfold cds; simpa using hlt
  rw [wrap64_id (x := (i : Int) + 1) (by omega) (by omega), show (i : Int) + 1 = ((i + 1 : Nat) : Int) by omega, hK, ih (i + 1) (by omega) k]
  rw [List.drop_eq_getElem_cons hltc]
  have : (cds D l)[i] = wDist D l[i].f0 l[i].f1 := by simp [cds]
  rw [this]
  rfl
def RunRes (D S : Int) (ds : List Int) (n last lim : Int) (r : Int × Int × Bool) : Prop :=
 (r.2.2 = true → n ≤ r.1 ∧ r.1 ≤ last ∧ canAll D S ds r.1 = true ∧ (∀ x, n ≤ x → x < r.1 → canAll D S ds x = false) ∧ r.1 ≤ r.2.1 ∧ r.2.1 ≤ last ∧ ∀ x, r.1 ≤ x → x ≤ r.2.1 → canAll D S ds x = true) ∧
 (r.2.2 = false → r.1 = 0 ∧ r.2.1 = 0 ∧ ∀ x, n ≤ x → x ≤ last → x ≤ lim → canAll D S ds x = false)
theorem run_stop (D S n last lim : Int) (l : List S114) (h : ¬ (n ≤ last ∧ n ≤ lim)) : Ev (fun k => acreageref05_run.l0 k l last lim n D S) (0, 0, false) := by
 refine ⟨2, fun k hk => ?_⟩
 obtain ⟨j, rfl⟩ : ∃ j, k = j + 1 + 1 := ⟨k - 2, by omega⟩
 simp only [acreageref05_run.l0, acreageref05_run.j1]
 by_cases h1 : n ≤ last
 ·rw [if_pos h1, if_neg]
  simp only [decide_eq_true_eq]
  exact fun h2 => h ⟨h1, h2⟩
 ·rw [if_neg h1, if_neg (by simp)]
theorem run_loop (D S last lim : Int) (l : List S114) (hw : wOk D S) (hl : circOk D l) (hlim : lim ≤ 4398046411104) : ∀ (m : Nat) (n : Int), 0 ≤ n → (lim - n + 1).toNat ≤ m →
  ∃ r, Ev (fun k => acreageref05_run.l0 k l last lim n D S) r ∧ RunRes D S (cds D l) n last lim r := by
 intro m
 induction m with
 |zero =>
  intro n hn0 hm
  exact ⟨(0, 0, false), run_stop D S n last lim l (by omega), fun h => by simp at h, fun _ => ⟨rfl, rfl, fun x h1 h2 h3 => by omega⟩⟩
 |succ m ih =>
  intro n hn0 hm
  by_cases hnl : n ≤ last ∧ n ≤ lim
  ·obtain ⟨A, hA⟩ : ∃ A, foldA D S n (cds D l) n = A := ⟨_, rfl⟩
   have hds := cds_ok (by have := hw.1; omega) hl
   have hin := run_inner D S n last lim l hw hl hn0 (by omega) l.length 0 (by omega)
   simp only [List.drop_zero] at hin
   by_cases hAn : A = n
   ·have hfe : ∀ d ∈ cds D l, wFirst D S d n = n := fun d hd => by
     have h1 := foldA_mem D S n (cds D l) n d hd
     have h2 := (wFirst_ge (D := D) (S := S) (d := d) (n := n)).1
     omega
    refine ⟨(n, foldC D S n (cds D l) last, true), ⟨l.length + 3, fun k hk => ?_⟩, fun _ => ⟨Int.le_refl _, hnl.1, ?_, fun x h1 h2 => by simp only at h2; omega, ?_, foldC_le _ _ _ _ _, ?_⟩, fun h => by simp at h⟩
    ·obtain ⟨j, rfl⟩ : ∃ j, k = (j + l.length + 1) + 1 + 1 := ⟨k - l.length - 3, by omega⟩
     simp only [acreageref05_run.l0, acreageref05_run.j1]
     rw [if_pos hnl.1, if_pos (by simpa using hnl.2)]
     have := hin j n last
     rw [show ((0 : Nat) : Int) = 0 from rfl] at this
     rw [this, hA, if_pos hAn, hAn]
    ·rw [canAll_iff]
     intro d hd
     have hdd := hds.2 d hd
     have h3 := wFirst_le hw hdd.1 hdd.2 hn0
     have h4 := hfe d hd
     exact wFirst_yes hw hdd.1 hdd.2 hn0 (by simp only; omega) (by simp only; omega)
    ·refine le_foldC _ _ _ _ _ _ hnl.1 (fun d hd => ?_)
     have hdd := hds.2 d hd
     have h3 := wFirst_le hw hdd.1 hdd.2 hn0
     have h4 := hfe d hd
     simp only
     omega
    ·intro x h1 h2
     rw [canAll_iff]
     intro d hd
     have h4 := foldC_mem D S n (cds D l) last d hd
     have hdd := hds.2 d hd
     have h5 := hfe d hd
     simp only at h1 h2
     exact wFirst_yes hw hdd.1 hdd.2 hn0 (by omega) (by omega)
   ·have hge := foldA_le D S n (cds D l) n
    obtain ⟨r, hr, hR⟩ := ih A (by omega) (by omega)
    obtain ⟨d, hd, hAd⟩ : ∃ d ∈ cds D l, A = wFirst D S d n := by
     rcases foldA_is D S n (cds D l) n with h | ⟨d, hd, h⟩
     ·omega
     ·exact ⟨d, hd, by omega⟩
    have hdd := hds.2 d hd
    have hno : ∀ x, n ≤ x → x < A → canAll D S (cds D l) x = false := fun x h1 h2 => canAll_no hd (wFirst_no hw hdd.1 hdd.2 hn0 h1 (by omega))
    refine ⟨r, ?_, fun h => ?_, fun h => ?_⟩
    ·obtain ⟨K, hK⟩ := hr
     refine ⟨K + l.length + 3, fun k hk => ?_⟩
     obtain ⟨j, rfl⟩ : ∃ j, k = (j + l.length + 1) + 1 + 1 := ⟨k - l.length - 3, by omega⟩
     simp only [acreageref05_run.l0, acreageref05_run.j1]
     rw [if_pos hnl.1, if_pos (by simpa using hnl.2)]
     have := hin j n last
     rw [show ((0 : Nat) : Int) = 0 from rfl] at this
     rw [this, hA, if_neg hAn]
     exact hK j (by omega)
    ·obtain ⟨h1, h2, h3, h4, h5⟩ := hR.1 h
     exact ⟨by omega, h2, h3, fun x g1 g2 => by
      rcases Int.lt_or_le x A with g | g
      ·exact hno x g1 g
      ·exact h4 x g g2, h5⟩
    ·obtain ⟨h1, h2, h3⟩ := hR.2 h
     exact ⟨h1, h2, fun x g1 g2 g3 => by
      rcases Int.lt_or_le x A with g | g
      ·exact hno x g1 g
      ·exact h3 x g g2 g3⟩
  ·exact ⟨(0, 0, false), run_stop D S n last lim l hnl, fun h => by simp at h, fun _ => ⟨rfl, rfl, fun x h1 h2 h3 => by omega⟩⟩
theorem run_spec (D S n last : Int) (l : List S114) (hw : wOk D S) (hl : circOk D l) (hn0 : 0 ≤ n) (hn1 : n ≤ 1099511567776) :
  (∃ r s, Ev (fun k => acreageref05_run.f k D S l n last) (r, s, true) ∧ n ≤ r ∧ r ≤ last ∧ canAll D S (cds D l) r = true ∧ (∀ x, n ≤ x → x < r → canAll D S (cds D l) x = false) ∧ r ≤ s ∧ s ≤ last ∧ ∀ x, r ≤ x → x ≤ s → canAll D S (cds D l) x = true) ∨
  (Ev (fun k => acreageref05_run.f k D S l n last) (0, 0, false) ∧ ∀ x, n ≤ x → x ≤ last → canAll D S (cds D l) x = false) := by
 have hD := hw.1
 have hD2 := hw.2.1
 have hm1 := le_mx_left n D
 have hm2 := le_mx_right n D
 have hm3 : mx n D ≤ 1099511577776 := mx_le (by omega) (by omega)
 have e2 : wrap64 (mx n D + D) = mx n D + D := wrap64_id (by omega) (by omega)
 have hds := cds_ok (by omega) hl
 obtain ⟨⟨r, s, is⟩, hr, hR1, hR2⟩ := run_loop D S last (mx n D + D) l hw hl (by omega) _ n hn0 (Nat.le_refl _)
 have hf : ∀ k, acreageref05_run.f k D S l n last = acreageref05_run.l0 k l last (mx n D + D) n D S := fun k => by unfold acreageref05_run.f; rw [e2]
 cases is with
 |true =>
  obtain ⟨h1, h2, h3, h4, h5, h6, h7⟩ := hR1 rfl
  exact .inl ⟨r, s, Ev.congr hf hr, h1, h2, h3, h4, h5, h6, h7⟩
 |false =>
  obtain ⟨h1, h2, h3⟩ := hR2 rfl
  simp only at h1 h2
  subst h1; subst h2
  refine .inr ⟨Ev.congr hf hr, fun x hx hxl => ?_⟩
  by_cases hlast : last ≤ mx n D + D
  ·exact h3 x hx hxl (by omega)
  ·exact canAll_turns hw hds hn0 (lim := mx n D + D) ⟨by omega, by omega⟩ (fun y g1 g2 => h3 y g1 (by omega) g2) _ x (Nat.le_refl _) hx
theorem leastA_at {D S : Int} {ds : List Int} {c lo hi r : Int} (cp : 0 < c) (h0 : 0 ≤ lo) (h1 : lo ≤ hi) (g1 : lo / c ≤ r) (hr : r ≤ hi / c) (g2 : canAll D S ds r = true) (g3 : ∀ x, lo / c ≤ x → x < r → canAll D S ds x = false) : leastA D S ds c lo hi = some (mx lo (r * c)) := by
 have e1 : r * c ≤ hi := (le_div cp).1 (by omega)
 have hle1 := le_mx_left lo (r * c)
 have hq : (mx lo (r * c)) / c = r := by
  unfold mx
  split
  ·exact mul_div_self cp
  ·have h3 : r ≤ lo / c := (le_div cp).2 (by omega)
   omega
 refine findI_eq hle1 (by have : mx lo (r * c) ≤ hi := mx_le h1 e1; omega) (by unfold areaCan; rw [hq]; exact g2) fun b b1 b2 => ?_
 have e2 := div_le_div cp b1
 refine g3 (b / c) e2 ?_
 rcases mx_cases lo (r * c) with e | e
 ·omega
 ·rw [e] at b2; exact (div_lt cp).2 b2
theorem leastA_no {D S : Int} {ds : List Int} {c lo hi : Int} (cp : 0 < c) (g3 : ∀ x, lo / c ≤ x → x ≤ hi / c → canAll D S ds x = false) : leastA D S ds c lo hi = none :=
 findI_eq_none fun b b1 b2 => g3 (b / c) (div_le_div cp b1) (div_le_div cp (by omega))
def leastQ (lo : Int) : Option Int → Int × Bool
 |some a => (a, true)
 |none => (lo, false)
theorem ref_least.eval (D S c lo hi : Int) (l : List S114) (hw : wOk D S) (hl : circOk D l) (hc : cOk c) (h0 : 0 ≤ lo) (h1 : lo ≤ hi) (h2 : hi ≤ 1073741824) :
  Ev (fun k => acreageref05_least.f k D S l c lo hi) (leastQ lo (leastA D S (cds D l) c lo hi)) := by
 obtain ⟨c1, c2⟩ := hc
 have cp : 0 < c := by omega
 have t1 : lo.tdiv c = lo / c := Int.tdiv_eq_ediv_of_nonneg h0
 have t2 : hi.tdiv c = hi / c := Int.tdiv_eq_ediv_of_nonneg (by omega)
 have l0 : 0 ≤ lo / c := Int.ediv_nonneg h0 (by omega)
 have l1 : lo / c ≤ lo := Int.ediv_le_self _ h0
 have u0 : 0 ≤ hi / c := Int.ediv_nonneg (by omega) (by omega)
 have u1 : hi / c ≤ hi := Int.ediv_le_self _ (by omega)
 have w1 : wrap64 (lo.tdiv c) = lo / c := by rw [t1]; exact wrap64_id (by omega) (by omega)
 have w2 : wrap64 (hi.tdiv c) = hi / c := by rw [t2]; exact wrap64_id (by omega) (by omega)
 have hdef : ∀ k, acreageref05_least.f k D S l c lo hi = (acreageref05_run.f k D S l (lo / c) (hi / c)).bind fun bt => some (mx (wrap64 (c * bt.1)) lo, bt.2.2) := by
  intro k
  unfold acreageref05_least.f
  rw [if_neg (by omega), w1, w2]
 rcases run_spec D S (lo / c) (hi / c) l hw hl l0 (by omega) with ⟨r, s, hev, g1, hr, g2, g3, g4, g5, g6⟩ | ⟨hev, hno⟩
 ·have e1 : r * c ≤ hi := (le_div cp).1 (by omega)
  have e0 : 0 ≤ r * c := Int.mul_nonneg (by omega) (by omega)
  rw [leastA_at cp h0 h1 g1 hr g2 g3]
  refine Ev.congr hdef ?_
  refine Ev.bind hev ?_
  simp only
  rw [Int.mul_comm c r, wrap64_id (x := r * c) (by omega) (by omega), show mx (r * c) lo = mx lo (r * c) by unfold mx; repeat' split <;> omega]
  exact Ev.now _
 ·rw [leastA_no cp hno]
  refine Ev.congr hdef ?_
  refine Ev.bind hev ?_
  simp only
  rw [show mx (wrap64 (c * 0)) lo = lo by rw [Int.mul_zero, wrap64_id (by omega) (by omega)]; unfold mx; split <;> omega]
  exact Ev.now _
theorem ref_fits.eval (D S c : Int) (x : S61) (hw : wOk D S) (hc : cOk c) (hx : trialOk D x = true) :
  Ev (fun k => acreageref05_fits.f k D S x.f0.f0 x.f0.f1 x.f1 x.f2 c) (fitB D S c x) := by
 obtain ⟨⟨a1, a2, a3⟩, ⟨a4, a5⟩, a6, a7⟩ := trialOk_iff.1 hx
 have hl : circOk D [(⟨x.f1, x.f2⟩ : S114)] := ⟨by simp, fun y hy => by
  rw [List.mem_singleton.1 hy]
  exact ⟨a4, a5, a6, a7⟩⟩
 have h := ref_least.eval D S c x.f0.f0 x.f0.f1 _ hw hl hc a1 a2 a3
 unfold acreageref05_fits.f
 refine Ev.bind h ?_
 unfold fitB
 have : cds D [(⟨x.f1, x.f2⟩ : S114)] = [wDist D x.f1 x.f2] := rfl
 rw [this]
 cases leastA D S [wDist D x.f1 x.f2] c x.f0.f0 x.f0.f1 <;> exact Ev.now _
end Go.Proofs.YtgakfgedaipdmaaGreatDoor.P
