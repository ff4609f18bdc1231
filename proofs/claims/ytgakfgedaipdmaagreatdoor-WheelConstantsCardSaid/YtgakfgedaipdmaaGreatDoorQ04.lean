/- A part of the proof. -/
import Derived.Test.YtgakfgedaipdmaaGreatDoorQ03
namespace Go.Proofs.YtgakfgedaipdmaaGreatDoor.P
open Go.RowKit Go.Proofs.YtgakfgedaipdmaaGreatDoorW.PrintWords Go.Proofs.YtgakfgedaipdmaaGreatDoorW.PrintLast Go.Proofs.YtgakfgedaipdmaaGreatDoorW.PrintMore
attribute [local go_sem] max2_int min2_int max_two min_two max_three min_three max_four min_four
set_option linter.unusedVariables false
set_option linter.unusedSimpArgs false
mutual
def wheel_dial_common.l0 : Nat → List Int → Int → Int → Int → Int → Option (Int × Int × Bool)
  | 0, _, _, _, _, _ => none
  | k + 1, x1, x2, x9, x135000, x135001 => if x2 ≤ x9 then (wheel_dial_common.l1 k x1 x2 x9 x2 1099511627776 x1 (x1.length : Int) 0 x135000 x135001) else (some (0, 0, false))
def wheel_dial_common.l1 : Nat → List Int → Int → Int → Int → Int → List Int → Int → Int → Int → Int → Option (Int × Int × Bool)
  | 0, _, _, _, _, _, _, _, _, _, _ => none
  | k + 1, x1, x2, x9, x10, x11, x30, x31, x32, x135000, x135001 => if x32 < x31 then (if 0 ≤ x32 then (if x32 < (x30.length : Int) then ((wheel_dial_run.f x135000 x135001 (rd x30 x32) x2).bind fun bt136 => (wheel_dial_common.l1 k x1 x2 x9 (mx x10 bt136.1) (mn x11 bt136.2) x30 x31 (wrap64 (x32 + 1)) x135000 x135001)) else (none)) else (none)) else (if x10 = x2 then (some (x10, x11, true)) else (wheel_dial_common.l0 k x1 x10 x9 x135000 x135001))
end
def wheel_dial_common.f (k : Nat) (a0_0 : Int) (a0_1 : Int) (l1 : List Int) (a2 : Int) : Option (Int × Int × Bool) := wheel_dial_common.l0 k l1 a2 (wrap64 ((mx a2 a0_0) + (wrap64 (2 * a0_0)))) a0_0 a0_1
theorem wheel_dial_common.mono_l : ∀ k, (∀ y0 y1 y2 y3 y4, LeO (wheel_dial_common.l0 k y0 y1 y2 y3 y4) (wheel_dial_common.l0 (k + 1) y0 y1 y2 y3 y4)) ∧ (∀ y0 y1 y2 y3 y4 y5 y6 y7 y8 y9, LeO (wheel_dial_common.l1 k y0 y1 y2 y3 y4 y5 y6 y7 y8 y9) (wheel_dial_common.l1 (k + 1) y0 y1 y2 y3 y4 y5 y6 y7 y8 y9))
 |0 => ⟨fun _ _ _ _ _ r h => by simp [wheel_dial_common.l0] at h, fun _ _ _ _ _ _ _ _ _ _ r h => by simp [wheel_dial_common.l1] at h⟩
 |k + 1 => by
  obtain ⟨ih0, ih1⟩ := wheel_dial_common.mono_l k
  refine ⟨?_, ?_⟩
  ·intro y0 y1 y2 y3 y4
   unfold wheel_dial_common.l0
   repeat' first
   |(with_reducible exact ih0 _ _ _ _ _)
   |(with_reducible exact ih1 _ _ _ _ _ _ _ _ _ _)
   |(with_reducible exact LeO.refl _)
   |(with_reducible exact LeO.none _)
   |(with_reducible refine LeO.ite ?_ ?_)
   |(with_reducible refine LeO.bind ?_ (fun _ => ?_))
   |exact ih0 _ _ _ _ _
   |exact ih1 _ _ _ _ _ _ _ _ _ _
   |exact LeO.none _
   |refine LeO.ite ?_ ?_
   |refine LeO.bind ?_ (fun _ => ?_)
  ·intro y0 y1 y2 y3 y4 y5 y6 y7 y8 y9
   unfold wheel_dial_common.l1
   repeat' first
   |(with_reducible exact ih0 _ _ _ _ _)
   |(with_reducible exact ih1 _ _ _ _ _ _ _ _ _ _)
   |(with_reducible exact LeO.refl _)
   |(with_reducible exact LeO.none _)
   |(with_reducible refine LeO.ite ?_ ?_)
   |(with_reducible refine LeO.bind ?_ (fun _ => ?_))
   |exact ih0 _ _ _ _ _
   |exact ih1 _ _ _ _ _ _ _ _ _ _
   |exact LeO.none _
   |refine LeO.ite ?_ ?_
   |refine LeO.bind ?_ (fun _ => ?_)
theorem wheel_dial_common.mono : ∀ a0 a1 a2 a3 k, LeO (wheel_dial_common.f k a0 a1 a2 a3) (wheel_dial_common.f (k + 1) a0 a1 a2 a3) := by
 intro a0 a1 a2 a3 k
 obtain ⟨ih0, ih1⟩ := wheel_dial_common.mono_l k
 unfold wheel_dial_common.f
 repeat' first
   |(with_reducible exact ih0 _ _ _ _ _)
   |(with_reducible exact ih1 _ _ _ _ _ _ _ _ _ _)
   |(with_reducible exact LeO.refl _)
   |(with_reducible exact LeO.none _)
   |(with_reducible refine LeO.ite ?_ ?_)
   |(with_reducible refine LeO.bind ?_ (fun _ => ?_))
   |exact ih0 _ _ _ _ _
   |exact ih1 _ _ _ _ _ _ _ _ _ _
   |exact LeO.none _
   |refine LeO.ite ?_ ?_
   |refine LeO.bind ?_ (fun _ => ?_)
set_option maxHeartbeats 8000000 in
set_option maxRecDepth 100000 in
theorem wheel_dial_common.calls (k : Nat) (a0_0 : Int) (a0_1 : Int) (A1 : Option Addr) (c1 : Nat) (l1 : List Int) (a2 : Int) (r1 : Int) (r2 : Int) (r3 : Bool) (w : World) (hr1 : Kd.C (Kd.int .i64) w A1 l1.length l1) (hc1 : l1.length ≤ c1) (h : wheel_dial_common.f k a0_0 a0_1 l1 a2 = some (r1, r2, r3)) :
  Calls Tryz.prog 134 #[.agg #[.int .i64 a0_0, .int .i64 a0_1], .slice A1 l1.length c1, .int .i64 a2] w fun e w' => e = .returned (.tuple #[.int .i64 r1, .int .i64 r2, .bool r3]) ∧ Below w.heap.size w w' := by
 have hu108 := Tryz.underlying108
 have HR1 := Aside0.mk hr1
 have HC1 := Aside0.mk hc1
 clear hr1 hc1
 have HB := Aside0.mk (Below.refl w.heap.size w)
 have H : (wheel_dial_common.l0 k l1 a2 (wrap64 ((mx a2 a0_0) + (wrap64 (2 * a0_0)))) a0_0 a0_1) = some (r1, r2, r3) := h
 clear h
 obtain ⟨ji4, hji4⟩ : ∃ j_ : Int, (mx a2 a0_0) = j_ := ⟨_, rfl⟩
 replace H : (wheel_dial_common.l0 k l1 a2 (wrap64 ((ji4) + (wrap64 (2 * a0_0)))) a0_0 a0_1) = some (r1, r2, r3) := by first | (rw [hji4] at H; exact H) | (simp only [hji4] at H ⊢; exact H)
 have hji4_ : (if a2 < a0_0 then a0_0 else a2) = ji4 := hji4
 have H' := Aside0.mk H
 clear H
 go_enter Tryz.func134, Tryz.ntmps134
 go_wp2_with (first | ((with_reducible refine gate_dst (N := 3) rfl ?_); refine box_event ?hg (N := 3) ?hd (cs := #[.int .i64 a0_0, .int .i64 a0_1]) (t := 108) ?hr ?_; (case hd => rfl); (case hg => rfl); (case hr => first | (go_simp; done) | (go_simp; rfl)); intro gb134 hg w5 hbox hb; have n0_ := Aside0.mk (below_step (bw HB.out) hb); have n1_ := Aside0.mk (hbox); have n2_ := Aside0.mk ((by rw [hg]; exact (below_size (bw HB.out)) : w.heap.size ≤ gb134)); have n3_ := Aside0.mk ((by rw [hg]; exact (below_size (bw HB.out)) : w.heap.size ≤ gb134)); clear HB; have HB := n0_; have BK134 := n1_; have GW134 := n2_; have GE134 := n3_; clear n0_ n1_ n2_ n3_; clear hb hbox hg; have hcz6_0 : w5.cell? ⟨gb134, 0, none⟩ = some (.int .i64 a0_0) := (blk_cell BK134.out 0).trans rfl; have hcz6_1 : w5.cell? ⟨gb134, 1, none⟩ = some (.int .i64 a0_1) := (blk_cell BK134.out 1).trans rfl; have hfz6_0 := blk_frozen BK134.out 0; have hfz6_1 := blk_frozen BK134.out 1))
 go_loopg [2] k (fun kq v2 w' => ∃ (x2_1 : Int), v2 = .int .i64 x2_1 ∧ Aside0 (wheel_dial_common.l0 kq l1 x2_1 (wrap64 ((ji4) + (wrap64 (2 * a0_0)))) a0_0 a0_1 = some (r1, r2, r3)) ∧ Aside0 (kq ≤ k) ∧ Aside0 (w'.heap[gb134]? = some (.cells #[.int .i64 a0_0, .int .i64 a0_1] 108 (0, 0))) ∧ Aside0 (Below w.heap.size w w'))
 case atStart => exact ⟨(a2), (by first | rfl | (simp; done) | (simp [*]; done)), H', ⟨Nat.le_refl _⟩, ⟨bq BK134.out⟩, ⟨by repeat (first | (with_reducible first | exact HB.out | apply below_alloc | apply pw_below_drewN | apply below_drew1 | refine below_set ?_ GE134.out) | exact HB.out)⟩⟩
 case round =>
  clear H'
  try clear c1
  try clear p2
  try clear p6
  try clear hcz6_0
  try clear hcz6_1
  try clear hfz6_0
  try clear hfz6_1
  obtain ⟨x2_1, rfl, HA, HK1, BK134, HB⟩ := hrel
  cases gk with
  |zero => exact absurd HA.out (by simp [wheel_dial_common.l0])
  |succ k1 =>
   have H := HA.out
   clear HA
   simp only [wheel_dial_common.l0] at H
   by_cases c7 : x2_1 ≤ (wrap64 ((ji4) + (wrap64 (2 * a0_0))))
   ·rw [if_pos c7] at H
    have c7b0 : decide (x2_1 ≤ (wrap64 ((ji4) + (wrap64 (2 * a0_0))))) = true := decide_eq_true c7
    clear c7
    have H' := Aside0.mk H
    clear H
    go_wp2
    go_loopg [10, 11, 32] k1 (fun kq v10 v11 v32 w' => ∃ (x10_2 : Int) (x11_2 : Int) (x32_2 : Int), v10 = .int .i64 x10_2 ∧ v11 = .int .i64 x11_2 ∧ v32 = .int .i64 x32_2 ∧ Aside0 (wheel_dial_common.l1 kq l1 x2_1 (wrap64 ((ji4) + (wrap64 (2 * a0_0)))) x10_2 x11_2 l1 (l1.length : Int) x32_2 a0_0 a0_1 = some (r1, r2, r3)) ∧ Aside0 (kq ≤ k1) ∧ Aside0 (w'.heap[gb134]? = some (.cells #[.int .i64 a0_0, .int .i64 a0_1] 108 (0, 0))) ∧ Aside0 (Below w.heap.size w w'))
    case atStart => exact ⟨(x2_1), (1099511627776), (0), (by first | rfl | (simp; done) | (simp [*]; done)), (by first | rfl | (simp; done) | (simp [*]; done)), (by first | rfl | (simp; done) | (simp [*]; done)), H', ⟨Nat.le_refl _⟩, ⟨bq BK134.out⟩, ⟨by repeat (first | (with_reducible first | exact HB.out | apply below_alloc | apply pw_below_drewN | apply below_drew1 | refine below_set ?_ GE134.out) | exact HB.out)⟩⟩
    case round =>
     clear H'
     try clear c1
     try clear p2
     try clear p6
     try clear c7
     try clear c7b0
     try clear hcz6_0
     try clear hcz6_1
     try clear hfz6_0
     try clear hfz6_1
     try clear p2
     try clear p6
     obtain ⟨x10_2, x11_2, x32_2, rfl, rfl, rfl, HA, HK2, BK134, HB⟩ := hrel
     cases gk with
     |zero => exact absurd HA.out (by simp [wheel_dial_common.l1])
     |succ k2 =>
      have H := HA.out
      clear HA
      simp only [wheel_dial_common.l1] at H
      by_cases c8 : x32_2 < (l1.length : Int)
      ·rw [if_pos c8] at H
       have c8b0 : decide (x32_2 < (l1.length : Int)) = true := decide_eq_true c8
       clear c8
       by_cases c9 : 0 ≤ x32_2
       ·rw [if_pos c9] at H
        have c9b0 : decide (0 ≤ x32_2) = true := decide_eq_true c9
        clear c9
        by_cases c10 : x32_2 < (l1.length : Int)
        ·rw [if_pos c10] at H
         have c10b0 : decide (x32_2 < (l1.length : Int)) = true := decide_eq_true c10
         clear c10
         replace H := Option.bind_eq_some_iff.mp H
         obtain ⟨⟨t136, t137⟩, A110, H⟩ := H
         replace H : (wheel_dial_common.l1 k2 l1 x2_1 (wrap64 ((ji4) + (wrap64 (2 * a0_0)))) (mx x10_2 t136) (mn x11_2 t137) l1 (l1.length : Int) (wrap64 (x32_2 + 1)) a0_0 a0_1) = some (r1, r2, r3) := H
         have A11 := Aside0.mk A110
         clear A110
         obtain ⟨ji12, hji12⟩ : ∃ j_ : Int, (mx x10_2 t136) = j_ := ⟨_, rfl⟩
         replace H : (wheel_dial_common.l1 k2 l1 x2_1 (wrap64 ((ji4) + (wrap64 (2 * a0_0)))) ji12 (mn x11_2 t137) l1 (l1.length : Int) (wrap64 (x32_2 + 1)) a0_0 a0_1) = some (r1, r2, r3) := by first | (rw [hji12] at H; exact H) | (simp only [hji12] at H ⊢; exact H)
         (try rw [hji12] at A11)
         have hji12_ : (if x10_2 < t136 then t136 else x10_2) = ji12 := hji12
         obtain ⟨ji13, hji13⟩ : ∃ j_ : Int, (mn x11_2 t137) = j_ := ⟨_, rfl⟩
         replace H : (wheel_dial_common.l1 k2 l1 x2_1 (wrap64 ((ji4) + (wrap64 (2 * a0_0)))) ji12 ji13 l1 (l1.length : Int) (wrap64 (x32_2 + 1)) a0_0 a0_1) = some (r1, r2, r3) := by first | (rw [hji13] at H; exact H) | (simp only [hji13] at H ⊢; exact H)
         (try rw [hji13] at A11)
         have hji13_ : (if t137 < x11_2 then t137 else x11_2) = ji13 := hji13
         have H' := Aside0.mk H
         clear H
         have p135 : 0 ≤ (x32_2 : Int) := of_decide_eq_true aq
         have q135 : x32_2 < (l1.length : Int) := of_decide_eq_true aq
         obtain ⟨ad135, e135, hx135_0⟩ := Kd.at_int HR1.out x32_2 p135 q135
         cases e135
         replace hx135_0 := (HB.out.cell (World.block_lt_of_cell? w _ hx135_0)).trans hx135_0
         replace p135 := eq_true p135
         replace q135 := eq_true q135
         have hcz14_0 : wr.cell? ⟨gb134, 0, none⟩ = some (.int .i64 a0_0) := (blk_cell BK134.out 0).trans rfl
         have hcz14_1 : wr.cell? ⟨gb134, 1, none⟩ = some (.int .i64 a0_1) := (blk_cell BK134.out 1).trans rfl
         have hfz14_0 := blk_frozen BK134.out 0
         have hfz14_1 := blk_frozen BK134.out 1
         go_wp2_with (first | ((with_reducible refine gate_callee (f := 149) rfl ?_); refine goesL_ (some 40) rfl rfl Tryz.func149 (by kernel_rfl) rfl #[.agg #[.int .i64 a0_0, .int .i64 a0_1], .int .i64 (rd l1 x32_2), .int .i64 x2_1] rfl mq ?_; (with_reducible refine (wheel_dial_run.calls a0_0 a0_1 (rd l1 x32_2) x2_1 t136 t137 _ A11.out).mono ?_); rintro e w15 ⟨rfl, hb⟩; refine ⟨_, rfl, ?_⟩; have n0_ := Aside0.mk (blk_below (g := gb134) (o := .cells #[.int .i64 a0_0, .int .i64 a0_1] 108 (0, 0)) (bq BK134.out) hb); have n1_ := Aside0.mk (below_step (by repeat (first | (with_reducible first | exact HB.out | apply below_alloc | apply pw_below_drewN | apply below_drew1 | refine below_set ?_ GE134.out) | exact HB.out)) hb); clear BK134; clear HB; have BK134 := n0_; have HB := n1_; clear n0_ n1_; (try clear hb); (try clear hb2); (try clear hk); (try clear hi)))
         go_roundg k2
         case measure => have := HK1.out; have := HK2.out; omega
         case rel => exact ⟨(ji12), (ji13), (wrap64 (x32_2 + 1)), (by first | rfl | (simp; done) | (simp only [← hji12] <;> (first | rfl | simp)) | (simp [*]; done)), (by first | rfl | (simp; done) | (simp only [← hji13] <;> (first | rfl | simp)) | (simp [*]; done)), (by first | rfl | (simp; done) | (simp [*]; done)), H', ⟨by have := HK1.out; have := HK2.out; omega⟩, ⟨bq BK134.out⟩, ⟨by repeat (first | (with_reducible first | exact HB.out | apply below_alloc | apply pw_below_drewN | apply below_drew1 | refine below_set ?_ GE134.out) | exact HB.out)⟩⟩
        ·rw [if_neg c10] at H
         exact absurd H (by simp)
       ·rw [if_neg c9] at H
        exact absurd H (by simp)
      ·rw [if_neg c8] at H
       have c8b0 : decide (x32_2 < (l1.length : Int)) = false := decide_eq_false c8
       clear c8
       by_cases c16 : x10_2 = x2_1
       ·rw [if_pos c16] at H
        have c16b0 : (x10_2 == x2_1) = true := beq_iff_eq.mpr c16
        have c16b1 : (x10_2 != x2_1) = false := bne_eq_false_iff_eq.mpr c16
        clear c16
        simp only [Option.some.injEq, Prod.mk.injEq] at H
        obtain ⟨rfl, rfl, rfl⟩ := H
        go_wp2
        go_ret3
        exact ⟨by first | rfl | (simp [errW_none, errW_some] <;> rfl) | (simp only [← hji4]; first | rfl | (simp [errW_none, errW_some] <;> rfl)) | (simp [*, errW_none, errW_some] <;> rfl), by repeat (first | (with_reducible first | exact HB.out | apply below_alloc | apply pw_below_drewN | apply below_drew1 | refine below_set ?_ GE134.out) | exact HB.out)⟩
       ·rw [if_neg c16] at H
        have c16b0 : (x10_2 == x2_1) = false := beq_eq_false_iff_ne.mpr c16
        have c16b1 : (x10_2 != x2_1) = true := bne_iff_ne.mpr c16
        have H' := Aside0.mk H
        clear H
        go_wp2
        go_roundg k2
        case measure => have := HK1.out; have := HK2.out; omega
        case rel => exact ⟨(x10_2), (by first | rfl | (simp; done) | (simp [*]; done)), H', ⟨by have := HK1.out; have := HK2.out; omega⟩, ⟨bq BK134.out⟩, ⟨by repeat (first | (with_reducible first | exact HB.out | apply below_alloc | apply pw_below_drewN | apply below_drew1 | refine below_set ?_ GE134.out) | exact HB.out)⟩⟩
   ·rw [if_neg c7] at H
    have c7b0 : decide (x2_1 ≤ (wrap64 ((ji4) + (wrap64 (2 * a0_0))))) = false := decide_eq_false c7
    clear c7
    simp only [Option.some.injEq, Prod.mk.injEq] at H
    obtain ⟨rfl, rfl, rfl⟩ := H
    go_wp2
    go_ret3
    exact ⟨by first | rfl | (simp [errW_none, errW_some] <;> rfl) | (simp only [← hji4]; first | rfl | (simp [errW_none, errW_some] <;> rfl)) | (simp [*, errW_none, errW_some] <;> rfl), by repeat (first | (with_reducible first | exact HB.out | apply below_alloc | apply pw_below_drewN | apply below_drew1 | refine below_set ?_ GE134.out) | exact HB.out)⟩
def dsOk (D : Int) (ds : List Int) : Prop := ds.length ≤ 1000 ∧ ∀ d ∈ ds, 0 ≤ d ∧ d < D
def foldA (D S n : Int) (l : List Int) (a : Int) : Int := l.foldl (fun a d => mx a (wFirst D S d n)) a
def foldB (D S n : Int) (l : List Int) (b : Int) : Int := l.foldl (fun b d => mn b (wLast D S d n)) b
theorem foldA_le (D S n : Int) : ∀ (l : List Int) (a : Int), a ≤ foldA D S n l a
 |[], a => Int.le_refl _
 |d :: l, a => Int.le_trans (le_mx_left _ _) (foldA_le D S n l _)
theorem foldA_mem (D S n : Int) : ∀ (l : List Int) (a d : Int), d ∈ l → wFirst D S d n ≤ foldA D S n l a
 |d' :: l, a, d, h => by
  rcases List.mem_cons.1 h with rfl | h
  ·exact Int.le_trans (le_mx_right _ _) (foldA_le D S n l _)
  ·exact foldA_mem D S n l _ d h
theorem foldA_is (D S n : Int) : ∀ (l : List Int) (a : Int), foldA D S n l a = a ∨ ∃ d ∈ l, foldA D S n l a = wFirst D S d n
 |[], a => .inl rfl
 |d :: l, a => by
  rcases foldA_is D S n l (mx a (wFirst D S d n)) with h | ⟨d', hd, h⟩
  ·rcases mx_cases a (wFirst D S d n) with e | e
   ·exact .inl (by show foldA D S n l _ = _; rw [h, e])
   ·exact .inr ⟨d, List.mem_cons_self, by show foldA D S n l _ = _; rw [h, e]⟩
  ·exact .inr ⟨d', List.mem_cons_of_mem _ hd, h⟩
theorem foldB_le (D S n : Int) : ∀ (l : List Int) (b : Int), foldB D S n l b ≤ b
 |[], b => Int.le_refl _
 |d :: l, b => Int.le_trans (foldB_le D S n l _) (mn_le_left _ _)
theorem foldB_mem (D S n : Int) : ∀ (l : List Int) (b d : Int), d ∈ l → foldB D S n l b ≤ wLast D S d n
 |d' :: l, b, d, h => by
  rcases List.mem_cons.1 h with rfl | h
  ·exact Int.le_trans (foldB_le D S n l _) (mn_le_right _ _)
  ·exact foldB_mem D S n l _ d h
theorem le_foldB (D S n c : Int) : ∀ (l : List Int) (b : Int), c ≤ b → (∀ d ∈ l, c ≤ wLast D S d n) → c ≤ foldB D S n l b
 |[], b, h, _ => h
 |d :: l, b, h, h' => le_foldB D S n c l _ (le_mn h (h' d List.mem_cons_self)) (fun x hx => h' x (List.mem_cons_of_mem _ hx))
theorem canAll_iff {D S : Int} {ds : List Int} {r : Int} : canAll D S ds r = true ↔ ∀ d ∈ ds, can D S d r = true := by simp [canAll]
theorem canAll_no {D S : Int} {ds : List Int} {r d : Int} (hd : d ∈ ds) (h : can D S d r = false) : canAll D S ds r = false := by
 cases hc : canAll D S ds r with
 |false => rfl
 |true => rw [canAll_iff.1 hc d hd] at h; cases h
theorem common_inner (D S n lim : Int) (ds : List Int) (hw : wOk D S) (hds : dsOk D ds) (hn0 : 0 ≤ n) (hn1 : n ≤ 4398046511104) : ∀ (m i : Nat), i + m = ds.length → ∀ (k : Nat) (a b : Int),
  wheel_dial_common.l1 (k + m + 1) ds n lim a b ds (ds.length : Int) (i : Int) D S =
   if foldA D S n (ds.drop i) a = n then some (foldA D S n (ds.drop i) a, foldB D S n (ds.drop i) b, true) else wheel_dial_common.l0 (k) ds (foldA D S n (ds.drop i) a) lim D S := by
 intro m
 induction m with
 |zero =>
  intro i hi k a b
  have hi' : i = ds.length := by omega
  subst hi'
  rw [List.drop_length]
  simp only [wheel_dial_common.l1, Nat.add_zero]
  rw [if_neg (by omega)]
  rfl
 |succ m ih =>
  intro i hi k a b
  have hlt : i < ds.length := by omega
  have hl := hds.1
  have hd := hds.2 ds[i] (List.getElem_mem hlt)
  have hrd : rd ds (i : Int) = ds[i] := by unfold rd; rw [Int.toNat_natCast, List.getD_eq_getElem?_getD, List.getElem?_eq_getElem hlt, Option.getD_some]
  have hrun : wheel_dial_run.f D S ds[i] n = some (wFirst D S ds[i] n, wLast D S ds[i] n) := by unfold wheel_dial_run.f; rw [if_pos ⟨hw, hd.1, hd.2, hn0, hn1⟩]
  obtain ⟨K, hK⟩ : ∃ K, K = k + m + 1 := ⟨_, rfl⟩
  rw [show k + (m + 1) + 1 = K + 1 by omega]
  simp only [wheel_dial_common.l1]
  rw [if_pos (by omega), if_pos (by omega), if_pos (by omega), hrd, hrun]
  simp only [Option.bind_some]
  rw [wrap64_id (x := (i : Int) + 1) (by omega) (by omega), show (i : Int) + 1 = ((i + 1 : Nat) : Int) by omega, hK, ih (i + 1) (by omega) k]
  rw [List.drop_eq_getElem_cons hlt]
  rfl
def ComRes (D S : Int) (ds : List Int) (n lim : Int) (r : Int × Int × Bool) : Prop :=
 (r.2.2 = true → n ≤ r.1 ∧ r.1 ≤ lim ∧ canAll D S ds r.1 = true ∧ (∀ x, n ≤ x → x < r.1 → canAll D S ds x = false) ∧ r.1 ≤ r.2.1 ∧ r.2.1 ≤ 1099511627776 ∧ ∀ x, r.1 ≤ x → x ≤ r.2.1 → canAll D S ds x = true) ∧
 (r.2.2 = false → r.1 = 0 ∧ r.2.1 = 0 ∧ ∀ x, n ≤ x → x ≤ lim → canAll D S ds x = false)
theorem common_loop (D S lim : Int) (ds : List Int) (hw : wOk D S) (hds : dsOk D ds) (hlim : lim ≤ 1099511607776) : ∀ (m : Nat) (n : Int), 0 ≤ n → (lim - n + 1).toNat ≤ m →
  ∃ r, Ev (fun k => wheel_dial_common.l0 k ds n lim D S) r ∧ ComRes D S ds n lim r := by
 intro m
 induction m with
 |zero =>
  intro n hn0 hm
  refine ⟨(0, 0, false), ⟨1, fun k hk => ?_⟩, fun h => by simp at h, fun _ => ⟨rfl, rfl, fun x h1 h2 => by omega⟩⟩
  obtain ⟨j, rfl⟩ : ∃ j, k = j + 1 := ⟨k - 1, by omega⟩
  simp only [wheel_dial_common.l0]
  rw [if_neg (by omega)]
 |succ m ih =>
  intro n hn0 hm
  by_cases hnl : n ≤ lim
  ·obtain ⟨A, hA⟩ : ∃ A, foldA D S n ds n = A := ⟨_, rfl⟩
   have hin := common_inner D S n lim ds hw hds hn0 (by omega) ds.length 0 (by omega)
   simp only [List.drop_zero] at hin
   by_cases hAn : A = n
   ·refine ⟨(n, foldB D S n ds 1099511627776, true), ⟨ds.length + 2, fun k hk => ?_⟩, fun _ => ⟨Int.le_refl _, hnl, ?_, fun x h1 h2 => by simp only at h2; omega, ?_, foldB_le _ _ _ _ _, ?_⟩, fun h => by simp at h⟩
    ·obtain ⟨j, rfl⟩ : ∃ j, k = (j + ds.length + 1) + 1 := ⟨k - ds.length - 2, by omega⟩
     simp only [wheel_dial_common.l0]
     rw [if_pos hnl]
     have := hin j n 1099511627776
     rw [show ((0 : Nat) : Int) = 0 from rfl] at this
     rw [this, hA, if_pos hAn, hAn]
    ·rw [canAll_iff]
     intro d hd
     have h1 := foldA_mem D S n ds n d hd
     have hdd := hds.2 d hd
     have h2 := (wFirst_ge (D := D) (S := S) (d := d) (n := n)).1
     exact wLast_yes hw hdd.1 hdd.2 hn0 (by simp only; omega) (by have := wFirst_le_wLast hw hdd.1 hdd.2 hn0 (by omega); simp only; omega)
    ·refine le_foldB _ _ _ _ _ _ (by simp only; omega) (fun d hd => ?_)
     have h1 := foldA_mem D S n ds n d hd
     have hdd := hds.2 d hd
     have h2 := (wFirst_ge (D := D) (S := S) (d := d) (n := n)).1
     have := wFirst_le_wLast hw hdd.1 hdd.2 hn0 (by omega)
     simp only
     omega
    ·intro x h1 h2
     rw [canAll_iff]
     intro d hd
     have h3 := foldA_mem D S n ds n d hd
     have h4 := foldB_mem D S n ds 1099511627776 d hd
     have hdd := hds.2 d hd
     simp only at h1 h2
     exact wLast_yes hw hdd.1 hdd.2 hn0 (by omega) (by omega)
   ·have hge := foldA_le D S n ds n
    obtain ⟨r, hr, hR⟩ := ih A (by omega) (by omega)
    obtain ⟨d, hd, hAd⟩ : ∃ d ∈ ds, A = wFirst D S d n := by
     rcases foldA_is D S n ds n with h | ⟨d, hd, h⟩
     ·omega
     ·exact ⟨d, hd, by omega⟩
    have hdd := hds.2 d hd
    have hno : ∀ x, n ≤ x → x < A → canAll D S ds x = false := fun x h1 h2 => canAll_no hd (wFirst_no hw hdd.1 hdd.2 hn0 h1 (by omega))
    refine ⟨r, ?_, fun h => ?_, fun h => ?_⟩
    ·obtain ⟨K, hK⟩ := hr
     refine ⟨K + ds.length + 2, fun k hk => ?_⟩
     obtain ⟨j, rfl⟩ : ∃ j, k = (j + ds.length + 1) + 1 := ⟨k - ds.length - 2, by omega⟩
     simp only [wheel_dial_common.l0]
     rw [if_pos hnl]
     have := hin j n 1099511627776
     rw [show ((0 : Nat) : Int) = 0 from rfl] at this
     rw [this, hA, if_neg hAn]
     exact hK j (by omega)
    ·obtain ⟨h1, h2, h3, h4, h5⟩ := hR.1 h
     exact ⟨by omega, h2, h3, fun x g1 g2 => by
      rcases Int.lt_or_le x A with g | g
      ·exact hno x g1 g
      ·exact h4 x g g2, h5⟩
    ·obtain ⟨h1, h2, h3⟩ := hR.2 h
     exact ⟨h1, h2, fun x g1 g2 => by
      rcases Int.lt_or_le x A with g | g
      ·exact hno x g1 g
      ·exact h3 x g g2⟩
  ·refine ⟨(0, 0, false), ⟨1, fun k hk => ?_⟩, fun h => by simp at h, fun _ => ⟨rfl, rfl, fun x h1 h2 => by omega⟩⟩
   obtain ⟨j, rfl⟩ : ∃ j, k = j + 1 := ⟨k - 1, by omega⟩
   simp only [wheel_dial_common.l0]
   rw [if_neg hnl]
theorem canAll_turns {D S n lim : Int} {ds : List Int} (hw : wOk D S) (hds : dsOk D ds) (hn0 : 0 ≤ n) (hlim : n + D ≤ lim ∧ D + D ≤ lim) (h : ∀ x, n ≤ x → x ≤ lim → canAll D S ds x = false) : ∀ (m : Nat) (x : Int), (x - n).toNat ≤ m → n ≤ x → canAll D S ds x = false := by
 intro m
 induction m with
 |zero =>
  intro x hm hx
  exact h x hx (by have := hw.1; omega)
 |succ m ih =>
  intro x hm hx
  have hD := hw.1
  by_cases hxl : x ≤ lim
  ·exact h x hx hxl
  ·cases hc : canAll D S ds x with
   |false => rfl
   |true =>
    have hc' : canAll D S ds (x - D) = true := by
     rw [canAll_iff] at hc ⊢
     intro d hd
     exact can_less hw (hds.2 d hd).1 (hds.2 d hd).2 (hc d hd) (by omega)
    have := ih (x - D) (by omega) (by omega)
    rw [this] at hc'
    exact hc'.symm
theorem common_spec (D S n : Int) (ds : List Int) (hw : wOk D S) (hds : dsOk D ds) (hn0 : 0 ≤ n) (hn1 : n ≤ 1099511567776) :
  (∃ r last, Ev (fun k => wheel_dial_common.f k D S ds n) (r, last, true) ∧ n ≤ r ∧ canAll D S ds r = true ∧ (∀ x, n ≤ x → x < r → canAll D S ds x = false) ∧ r ≤ last ∧ last ≤ 1099511627776 ∧ ∀ x, r ≤ x → x ≤ last → canAll D S ds x = true) ∨
  (Ev (fun k => wheel_dial_common.f k D S ds n) (0, 0, false) ∧ ∀ x, n ≤ x → canAll D S ds x = false) := by
 have hD := hw.1
 have hD2 := hw.2.1
 have e1 : wrap64 (2 * D) = 2 * D := wrap64_id (by omega) (by omega)
 have hm1 := le_mx_left n D
 have hm2 := le_mx_right n D
 have hm3 : mx n D ≤ 1099511577776 := mx_le (by omega) (by omega)
 have e2 : wrap64 (mx n D + wrap64 (2 * D)) = mx n D + 2 * D := by rw [e1]; exact wrap64_id (by omega) (by omega)
 obtain ⟨⟨r, last, is⟩, hr, hR1, hR2⟩ := common_loop D S (mx n D + 2 * D) ds hw hds (by omega) _ n hn0 (Nat.le_refl _)
 have hf : ∀ k, wheel_dial_common.f k D S ds n = wheel_dial_common.l0 k ds n (mx n D + 2 * D) D S := fun k => by unfold wheel_dial_common.f; rw [e2]
 cases is with
 |true =>
  obtain ⟨h1, h2, h3, h4, h5, h6, h7⟩ := hR1 rfl
  exact .inl ⟨r, last, Ev.congr hf hr, h1, h3, h4, h5, h6, h7⟩
 |false =>
  obtain ⟨h1, h2, h3⟩ := hR2 rfl
  simp only at h1 h2
  subst h1; subst h2
  exact .inr ⟨Ev.congr hf hr, fun x hx => canAll_turns hw hds hn0 ⟨by omega, by omega⟩ h3 _ x (Nat.le_refl _) hx⟩
def wheel_dial_least.f (k : Nat) (a0_0 : Int) (a0_1 : Int) (l1 : List Int) (a2 : Int) (a3 : Int) (a4 : Int) : Option (Int × Bool) := if a2 = 0 then (none) else ((wheel_dial_common.f k a0_0 a0_1 l1 (wrap64 (Int.tdiv a3 a2))).bind fun bt139 => (if bt139.2.2 = true then (if bt139.1 > (wrap64 (Int.tdiv a4 a2)) then (some (0, false)) else (some (mx a3 (wrap64 (bt139.1 * a2)), true))) else (some (0, false))))
theorem wheel_dial_least.mono : ∀ a0 a1 a2 a3 a4 a5 k, LeO (wheel_dial_least.f k a0 a1 a2 a3 a4 a5) (wheel_dial_least.f (k + 1) a0 a1 a2 a3 a4 a5) := by
 intro a0 a1 a2 a3 a4 a5 k
 unfold wheel_dial_least.f
 repeat' first
   |(with_reducible exact wheel_dial_common.mono _ _ _ _ _)
   |(with_reducible exact LeO.refl _)
   |(with_reducible exact LeO.none _)
   |(with_reducible refine LeO.ite ?_ ?_)
   |(with_reducible refine LeO.bind ?_ (fun _ => ?_))
   |exact wheel_dial_common.mono _ _ _ _ _
   |exact LeO.none _
   |refine LeO.ite ?_ ?_
   |refine LeO.bind ?_ (fun _ => ?_)
def wheel_dial_least.T1 : Bool × List (List Nat × List Nat) := (true, [([], []), ([], []), ([], []), ([], []), ([2, 3], [2, 3]), ([0, 1, 4], [0, 1, 4]), ([5], [5]), ([6], [6]), ([6], [6]), ([6], [6]), ([7, 5, 0, 1, 2, 3, 4, 5, 6, 7], [7]), ([8, 10, 0, 1, 2, 3, 4, 5, 6, 7, 8, 10], [8]), ([9, 11, 0, 1, 2, 3, 4, 5, 6, 7, 8, 9, 10, 11], [9])])
def wheel_dial_least.B1 : List Nat := [0, 0, 0, 0, 12, 31, 63, 127, 127, 127, 255, 1535, 4095]
theorem wheel_dial_least.tab1 : rtab .any (opsOf Tryz.f122 1) = wheel_dial_least.T1 := by kernel_rfl
theorem wheel_dial_least.bits1 : waitsOk wheel_dial_least.T1.2 wheel_dial_least.B1 = true := by kernel_rfl
set_option maxHeartbeats 8000000 in
set_option maxRecDepth 100000 in
theorem wheel_dial_least.calls (k : Nat) (a0_0 : Int) (a0_1 : Int) (A1 : Option Addr) (c1 : Nat) (l1 : List Int) (a2 : Int) (a3 : Int) (a4 : Int) (r1 : Int) (r2 : Bool) (w : World) (hr1 : Kd.C (Kd.int .i64) w A1 l1.length l1) (hc1 : l1.length ≤ c1) (h : wheel_dial_least.f k a0_0 a0_1 l1 a2 a3 a4 = some (r1, r2)) :
  Calls Tryz.prog 122 #[.agg #[.int .i64 a0_0, .int .i64 a0_1], .slice A1 l1.length c1, .int .i64 a2, .int .i64 a3, .int .i64 a4] w fun e w' => e = .returned (.tuple #[.int .i64 r1, .bool r2]) ∧ Below w.heap.size w w' := by
 have hu108 := Tryz.underlying108
 have HR1 := Aside0.mk hr1
 have HC1 := Aside0.mk hc1
 clear hr1 hc1
 have HB := Aside0.mk (Below.refl w.heap.size w)
 have H : (if a2 = 0 then (none) else ((wheel_dial_common.f k a0_0 a0_1 l1 (wrap64 (Int.tdiv a3 a2))).bind fun bt139 => (if bt139.2.2 = true then (if bt139.1 > (wrap64 (Int.tdiv a4 a2)) then (some (0, false)) else (some (mx a3 (wrap64 (bt139.1 * a2)), true))) else (some (0, false))))) = some (r1, r2) := h
 clear h
 by_cases c6 : a2 = 0
 ·rw [if_pos c6] at H
  exact absurd H (by simp)
 ·rw [if_neg c6] at H
  have c6b0 : (a2 == 0) = false := beq_eq_false_iff_ne.mpr c6
  have c6b1 : (a2 != 0) = true := bne_iff_ne.mpr c6
  replace H := Option.bind_eq_some_iff.mp H
  obtain ⟨⟨t139, t140, t141⟩, A70, H⟩ := H
  replace H : (if t141 = true then (if t139 > (wrap64 (Int.tdiv a4 a2)) then (some (0, false)) else (some (mx a3 (wrap64 (t139 * a2)), true))) else (some (0, false))) = some (r1, r2) := H
  have A7 := Aside0.mk A70
  clear A70
  by_cases c8 : t141 = true
  ·subst c8
   have H1 : (if t139 > (wrap64 (Int.tdiv a4 a2)) then (some (0, false)) else (some (mx a3 (wrap64 (t139 * a2)), true))) = some (r1, r2) := by rw [if_pos rfl] at H; exact H
   clear H
   have H := H1
   clear H1
   by_cases c9 : t139 > (wrap64 (Int.tdiv a4 a2))
   ·rw [if_pos c9] at H
    have c9b0 : decide ((wrap64 (Int.tdiv a4 a2)) < t139) = true := decide_eq_true c9
    clear c9
    simp only [Option.some.injEq, Prod.mk.injEq] at H
    obtain ⟨rfl, rfl⟩ := H
    go_enter Tryz.func122, Tryz.ntmps122
    try go_wp2_with (first | ((with_reducible refine gate_dst (N := 5) rfl ?_); refine box_event ?hg (N := 5) ?hd (cs := #[.int .i64 a0_0, .int .i64 a0_1]) (t := 108) ?hr ?_; (case hd => rfl); (case hg => rfl); (case hr => first | (go_simp; done) | (go_simp; rfl)); intro gb138 hg w10 hbox hb; have n0_ := Aside0.mk (below_step (bw HB.out) hb); have n1_ := Aside0.mk (hbox); have n2_ := Aside0.mk ((by rw [hg]; exact (below_size (bw HB.out)) : w.heap.size ≤ gb138)); have n3_ := Aside0.mk ((by rw [hg]; exact (below_size (bw HB.out)) : w.heap.size ≤ gb138)); clear HB; have HB := n0_; have BK138 := n1_; have GW138 := n2_; have GE138 := n3_; clear n0_ n1_ n2_ n3_; clear hb hbox hg))
    have n0_ := Aside0.mk (blk_drew BK138.out)
    have n1_ := Aside0.mk (below_drew1 HB.out)
    clear BK138
    clear HB
    have BK138 := n0_
    have HB := n1_
    clear n0_ n1_
    refine start_ (n := 13) (S := fun w' => w'.cell? ⟨gb138, 0, none⟩ = some (.int .i64 a0_0) ∧ w'.cell? ⟨gb138, 1, none⟩ = some (.int .i64 a0_1)) (ds := []) #[false, false, false, false, false, false, false, false, false, false, false, false, false] (by kernel_rfl) rfl rfl ⟨(blk_cell BK138.out 0).trans rfl, (blk_cell BK138.out 1).trans rfl⟩ (fun hHeld => ?_); refine with_tabW wheel_dial_least.tab1 wheel_dial_least.bits1 (fun HT_ HW_ => ?_)
    generalize w10.drew = w11 at BK138 HB hHeld ⊢
    refine pure_ (i := 1) (N := some 17) (v := ?_) (a' := ?_) #[false, true, false, false, false, false, false, false, false, false, false, false, false] rfl rfl (any_of HT_.out (by kernel_rfl)) (fun _ _ _ h => h) (Or.inl ⟨by rfl, ?_⟩) ?_ ?_
    rotate_left
    ·intro w'
     go_simp
     with_reducible rfl
    rotate_left
    ·simp only [pq]
     rfl
    refine pure_ (i := 2) (N := some 18) (v := ?_) (a' := ?_) #[false, true, true, false, false, false, false, false, false, false, false, false, false] rfl rfl (any_of HT_.out (by kernel_rfl)) (fun _ _ _ h => h) (Or.inl ⟨by rfl, ?_⟩) ?_ ?_
    rotate_left
    ·intro w'
     go_simp
     with_reducible rfl
    rotate_left
    ·simp only [pq]
     rfl
    refine pure_ (i := 3) (N := some 19) (v := ?_) (a' := ?_) #[false, true, true, true, false, false, false, false, false, false, false, false, false] rfl rfl (any_of HT_.out (by kernel_rfl)) (fun _ _ _ h => h) (Or.inl ⟨by rfl, ?_⟩) ?_ ?_
    rotate_left
    ·intro w'
     go_simp
     with_reducible rfl
    rotate_left
    ·simp only [pq]
     rfl
    refine pure_ (i := 4) (N := some 20) (v := ?_) (a' := ?_) #[false, true, true, true, true, false, false, false, false, false, false, false, false] rfl rfl (any_of HT_.out (by kernel_rfl)) (fun _ _ _ h => h) (Or.inl ⟨by rfl, ?_⟩) ?_ ?_
    rotate_left
    ·intro w'
     go_simp
     with_reducible rfl
    rotate_left
    ·simp only [pq]
     rfl
    refine take_ (i := 0) (N := some 16) (v := ?_) (a' := ?_) #[true, true, true, true, true, false, false, false, false, false, false, false, false] rfl rfl (take_ofW HT_.out HW_.out (by kernel_rfl)) (fun _ _ _ h => h) (Or.inl ⟨by rfl, ?_⟩) hHeld ?_ ?_
    rotate_left
    ·rintro w' ⟨s0, s1⟩
     go_simp
     with_reducible rfl
    rotate_left
    ·simp only [pq]
     rfl
    refine one_ (i := 5) (N := some 21) #[true, true, true, true, true, true, false, false, false, false, false, false, false] rfl rfl (one_of HT_.out (by kernel_rfl)) (by decide) (fun K hK => ?_)
    refine goes_ Tryz.func134 (by kernel_rfl) rfl #[.agg #[.int .i64 a0_0, .int .i64 a0_1], .slice A1 l1.length c1, .int .i64 (wrap64 (Int.tdiv a3 a2))] (by rfl) rfl rfl mq ?_
    with_reducible refine (wheel_dial_common.calls k a0_0 a0_1 _ _ l1 (wrap64 (Int.tdiv a3 a2)) t139 t140 true _ ?side1 ?side2 A7.out).mono ?_
    (case side1 => repeat (first | exact (Kd.C_below HR1.out HB.out) | (with_reducible refine Kd.C_alloc ?_ _) | (with_reducible refine Kd.C_drewN ?_ _) | (with_reducible refine Kd.C_drew ?_)))
    (case side2 => exact HC1.out)
    rintro e w12 ⟨rfl, hb⟩
    refine ⟨_, rfl, ?_⟩
    have n0_ := Aside0.mk (blk_below (g := gb138) (o := .cells #[.int .i64 a0_0, .int .i64 a0_1] 108 (0, 0)) (bq BK138.out) hb)
    have n1_ := Aside0.mk (below_step (by repeat (first | (with_reducible first | exact HB.out | apply below_alloc | apply pw_below_drewN | apply below_drew1 | refine below_set ?_ GE138.out) | exact HB.out)) hb)
    clear BK138
    clear HB
    have BK138 := n0_
    have HB := n1_
    clear n0_ n1_
    (try clear hb)
    (try clear hb2)
    (try clear hk)
    (try clear hi)
    refine hK.out _ _ ⟨(blk_cell BK138.out 0).trans rfl, (blk_cell BK138.out 1).trans rfl⟩ (fun hHeld => ?_)
    clear hK K
    refine norm_ (a' := ?_) ?_ ?_
    rotate_left
    ·show Act.put _ (some 21) _ = _
     simp only [pq]
     rfl
    refine pure_ (i := 6) (N := some 15) (v := ?_) (a' := ?_) #[true, true, true, true, true, true, true, false, false, false, false, false, false] rfl rfl (any_of HT_.out (by kernel_rfl)) (fun _ _ _ h => h) (Or.inl ⟨by rfl, ?_⟩) ?_ ?_
    rotate_left
    ·intro w'
     go_simp
     with_reducible rfl
    rotate_left
    ·simp only [pq]
     rfl
    refine pure_ (i := 7) (N := some 22) (v := ?_) (a' := ?_) #[true, true, true, true, true, true, true, true, false, false, false, false, false] rfl rfl (any_of HT_.out (by kernel_rfl)) (fun _ _ _ h => h) (Or.inl ⟨by rfl, ?_⟩) ?_ ?_
    rotate_left
    ·intro w'
     go_simp
     with_reducible rfl
    rotate_left
    ·simp only [pq]
     rfl
    refine pure_ (i := 8) (N := some 23) (v := ?_) (a' := ?_) #[true, true, true, true, true, true, true, true, true, false, false, false, false] rfl rfl (any_of HT_.out (by kernel_rfl)) (fun _ _ _ h => h) (Or.inl ⟨by rfl, ?_⟩) ?_ ?_
    rotate_left
    ·intro w'
     go_simp
     with_reducible rfl
    rotate_left
    ·simp only [pq]
     rfl
    refine pure_ (i := 9) (N := some 24) (v := ?_) (a' := ?_) #[true, true, true, true, true, true, true, true, true, true, false, false, false] rfl rfl (any_of HT_.out (by kernel_rfl)) (fun _ _ _ h => h) (Or.inl ⟨by rfl, ?_⟩) ?_ ?_
    rotate_left
    ·intro w'
     go_simp
     with_reducible rfl
    rotate_left
    ·simp only [pq]
     rfl
    refine pure_ (i := 10) (N := some 12) (v := ?_) (a' := ?_) #[true, true, true, true, true, true, true, true, true, true, true, false, false] rfl rfl (any_of HT_.out (by kernel_rfl)) (fun _ _ _ h => h) (Or.inl ⟨by rfl, ?_⟩) ?_ ?_
    rotate_left
    ·intro w'
     go_simp
     with_reducible rfl
    rotate_left
    ·simp only [pq]
     rfl
    refine pure_ (i := 11) (N := some 13) (v := ?_) (a' := ?_) #[true, true, true, true, true, true, true, true, true, true, true, true, false] rfl rfl (any_of HT_.out (by kernel_rfl)) (fun _ _ _ h => h) (Or.inl ⟨by rfl, ?_⟩) ?_ ?_
    rotate_left
    ·intro w'
     go_simp
     with_reducible rfl
    rotate_left
    ·simp only [pq]
     rfl
    refine pure_ (i := 12) (N := some 14) (v := ?_) (a' := ?_) #[true, true, true, true, true, true, true, true, true, true, true, true, true] rfl rfl (any_of HT_.out (by kernel_rfl)) (fun _ _ _ h => h) (Or.inl ⟨by rfl, ?_⟩) ?_ ?_
    rotate_left
    ·intro w'
     go_simp
     with_reducible rfl
    rotate_left
    ·simp only [pq]
     rfl
    refine done_ (done_of HT_.out (by kernel_rfl)) ?_
    try go_wp2
    go_ret2
    exact ⟨by first | rfl | (simp [errW_none, errW_some] <;> rfl) | (simp [*, errW_none, errW_some] <;> rfl), by repeat (first | (with_reducible first | exact HB.out | apply below_alloc | apply pw_below_drewN | apply below_drew1 | refine below_set ?_ GE138.out) | exact HB.out)⟩
   ·rw [if_neg c9] at H
    have c9b0 : decide ((wrap64 (Int.tdiv a4 a2)) < t139) = false := decide_eq_false c9
    clear c9
    obtain ⟨ji13, hji13⟩ : ∃ j_ : Int, (mx a3 (wrap64 (t139 * a2))) = j_ := ⟨_, rfl⟩
    replace H : (some (ji13, true)) = some (r1, r2) := by first | (rw [hji13] at H; exact H) | (simp only [hji13] at H ⊢; exact H)
    (try rw [hji13] at A7)
    have hji13_ : (if a3 < (wrap64 (t139 * a2)) then (wrap64 (t139 * a2)) else a3) = ji13 := hji13
    simp only [Option.some.injEq, Prod.mk.injEq] at H
    obtain ⟨rfl, rfl⟩ := H
    go_enter Tryz.func122, Tryz.ntmps122
    try go_wp2_with (first | ((with_reducible refine gate_dst (N := 5) rfl ?_); refine box_event ?hg (N := 5) ?hd (cs := #[.int .i64 a0_0, .int .i64 a0_1]) (t := 108) ?hr ?_; (case hd => rfl); (case hg => rfl); (case hr => first | (go_simp; done) | (go_simp; rfl)); intro gb138 hg w14 hbox hb; have n0_ := Aside0.mk (below_step (bw HB.out) hb); have n1_ := Aside0.mk (hbox); have n2_ := Aside0.mk ((by rw [hg]; exact (below_size (bw HB.out)) : w.heap.size ≤ gb138)); have n3_ := Aside0.mk ((by rw [hg]; exact (below_size (bw HB.out)) : w.heap.size ≤ gb138)); clear HB; have HB := n0_; have BK138 := n1_; have GW138 := n2_; have GE138 := n3_; clear n0_ n1_ n2_ n3_; clear hb hbox hg))
    have n0_ := Aside0.mk (blk_drew BK138.out)
    have n1_ := Aside0.mk (below_drew1 HB.out)
    clear BK138
    clear HB
    have BK138 := n0_
    have HB := n1_
    clear n0_ n1_
    refine start_ (n := 13) (S := fun w' => w'.cell? ⟨gb138, 0, none⟩ = some (.int .i64 a0_0) ∧ w'.cell? ⟨gb138, 1, none⟩ = some (.int .i64 a0_1)) (ds := []) #[false, false, false, false, false, false, false, false, false, false, false, false, false] (by kernel_rfl) rfl rfl ⟨(blk_cell BK138.out 0).trans rfl, (blk_cell BK138.out 1).trans rfl⟩ (fun hHeld => ?_); refine with_tabW wheel_dial_least.tab1 wheel_dial_least.bits1 (fun HT_ HW_ => ?_)
    generalize w14.drew = w15 at BK138 HB hHeld ⊢
    refine pure_ (i := 1) (N := some 17) (v := ?_) (a' := ?_) #[false, true, false, false, false, false, false, false, false, false, false, false, false] rfl rfl (any_of HT_.out (by kernel_rfl)) (fun _ _ _ h => h) (Or.inl ⟨by rfl, ?_⟩) ?_ ?_
    rotate_left
    ·intro w'
     go_simp
     with_reducible rfl
    rotate_left
    ·simp only [pq]
     rfl
    refine pure_ (i := 2) (N := some 18) (v := ?_) (a' := ?_) #[false, true, true, false, false, false, false, false, false, false, false, false, false] rfl rfl (any_of HT_.out (by kernel_rfl)) (fun _ _ _ h => h) (Or.inl ⟨by rfl, ?_⟩) ?_ ?_
    rotate_left
    ·intro w'
     go_simp
     with_reducible rfl
    rotate_left
    ·simp only [pq]
     rfl
    refine pure_ (i := 3) (N := some 19) (v := ?_) (a' := ?_) #[false, true, true, true, false, false, false, false, false, false, false, false, false] rfl rfl (any_of HT_.out (by kernel_rfl)) (fun _ _ _ h => h) (Or.inl ⟨by rfl, ?_⟩) ?_ ?_
    rotate_left
    ·intro w'
     go_simp
     with_reducible rfl
    rotate_left
    ·simp only [pq]
     rfl
    refine pure_ (i := 4) (N := some 20) (v := ?_) (a' := ?_) #[false, true, true, true, true, false, false, false, false, false, false, false, false] rfl rfl (any_of HT_.out (by kernel_rfl)) (fun _ _ _ h => h) (Or.inl ⟨by rfl, ?_⟩) ?_ ?_
    rotate_left
    ·intro w'
     go_simp
     with_reducible rfl
    rotate_left
    ·simp only [pq]
     rfl
    refine take_ (i := 0) (N := some 16) (v := ?_) (a' := ?_) #[true, true, true, true, true, false, false, false, false, false, false, false, false] rfl rfl (take_ofW HT_.out HW_.out (by kernel_rfl)) (fun _ _ _ h => h) (Or.inl ⟨by rfl, ?_⟩) hHeld ?_ ?_
    rotate_left
    ·rintro w' ⟨s0, s1⟩
     go_simp
     with_reducible rfl
    rotate_left
    ·simp only [pq]
     rfl
    refine one_ (i := 5) (N := some 21) #[true, true, true, true, true, true, false, false, false, false, false, false, false] rfl rfl (one_of HT_.out (by kernel_rfl)) (by decide) (fun K hK => ?_)
    refine goes_ Tryz.func134 (by kernel_rfl) rfl #[.agg #[.int .i64 a0_0, .int .i64 a0_1], .slice A1 l1.length c1, .int .i64 (wrap64 (Int.tdiv a3 a2))] (by rfl) rfl rfl mq ?_
    with_reducible refine (wheel_dial_common.calls k a0_0 a0_1 _ _ l1 (wrap64 (Int.tdiv a3 a2)) t139 t140 true _ ?side1 ?side2 A7.out).mono ?_
    (case side1 => repeat (first | exact (Kd.C_below HR1.out HB.out) | (with_reducible refine Kd.C_alloc ?_ _) | (with_reducible refine Kd.C_drewN ?_ _) | (with_reducible refine Kd.C_drew ?_)))
    (case side2 => exact HC1.out)
    rintro e w16 ⟨rfl, hb⟩
    refine ⟨_, rfl, ?_⟩
    have n0_ := Aside0.mk (blk_below (g := gb138) (o := .cells #[.int .i64 a0_0, .int .i64 a0_1] 108 (0, 0)) (bq BK138.out) hb)
    have n1_ := Aside0.mk (below_step (by repeat (first | (with_reducible first | exact HB.out | apply below_alloc | apply pw_below_drewN | apply below_drew1 | refine below_set ?_ GE138.out) | exact HB.out)) hb)
    clear BK138
    clear HB
    have BK138 := n0_
    have HB := n1_
    clear n0_ n1_
    (try clear hb)
    (try clear hb2)
    (try clear hk)
    (try clear hi)
    refine hK.out _ _ ⟨(blk_cell BK138.out 0).trans rfl, (blk_cell BK138.out 1).trans rfl⟩ (fun hHeld => ?_)
    clear hK K
    refine norm_ (a' := ?_) ?_ ?_
    rotate_left
    ·show Act.put _ (some 21) _ = _
     simp only [pq]
     rfl
    refine pure_ (i := 6) (N := some 15) (v := ?_) (a' := ?_) #[true, true, true, true, true, true, true, false, false, false, false, false, false] rfl rfl (any_of HT_.out (by kernel_rfl)) (fun _ _ _ h => h) (Or.inl ⟨by rfl, ?_⟩) ?_ ?_
    rotate_left
    ·intro w'
     go_simp
     with_reducible rfl
    rotate_left
    ·simp only [pq]
     rfl
    refine pure_ (i := 7) (N := some 22) (v := ?_) (a' := ?_) #[true, true, true, true, true, true, true, true, false, false, false, false, false] rfl rfl (any_of HT_.out (by kernel_rfl)) (fun _ _ _ h => h) (Or.inl ⟨by rfl, ?_⟩) ?_ ?_
    rotate_left
    ·intro w'
     go_simp
     with_reducible rfl
    rotate_left
    ·simp only [pq]
     rfl
    refine pure_ (i := 8) (N := some 23) (v := ?_) (a' := ?_) #[true, true, true, true, true, true, true, true, true, false, false, false, false] rfl rfl (any_of HT_.out (by kernel_rfl)) (fun _ _ _ h => h) (Or.inl ⟨by rfl, ?_⟩) ?_ ?_
    rotate_left
    ·intro w'
     go_simp
     with_reducible rfl
    rotate_left
    ·simp only [pq]
     rfl
    refine pure_ (i := 9) (N := some 24) (v := ?_) (a' := ?_) #[true, true, true, true, true, true, true, true, true, true, false, false, false] rfl rfl (any_of HT_.out (by kernel_rfl)) (fun _ _ _ h => h) (Or.inl ⟨by rfl, ?_⟩) ?_ ?_
    rotate_left
    ·intro w'
     go_simp
     with_reducible rfl
    rotate_left
    ·simp only [pq]
     rfl
    refine pure_ (i := 10) (N := some 12) (v := ?_) (a' := ?_) #[true, true, true, true, true, true, true, true, true, true, true, false, false] rfl rfl (any_of HT_.out (by kernel_rfl)) (fun _ _ _ h => h) (Or.inl ⟨by rfl, ?_⟩) ?_ ?_
    rotate_left
    ·intro w'
     go_simp
     with_reducible rfl
    rotate_left
    ·simp only [pq]
     rfl
    refine pure_ (i := 11) (N := some 13) (v := ?_) (a' := ?_) #[true, true, true, true, true, true, true, true, true, true, true, true, false] rfl rfl (any_of HT_.out (by kernel_rfl)) (fun _ _ _ h => h) (Or.inl ⟨by rfl, ?_⟩) ?_ ?_
    rotate_left
    ·intro w'
     go_simp
     with_reducible rfl
    rotate_left
    ·simp only [pq]
     rfl
    refine pure_ (i := 12) (N := some 14) (v := ?_) (a' := ?_) #[true, true, true, true, true, true, true, true, true, true, true, true, true] rfl rfl (any_of HT_.out (by kernel_rfl)) (fun _ _ _ h => h) (Or.inl ⟨by rfl, ?_⟩) ?_ ?_
    rotate_left
    ·intro w'
     go_simp
     with_reducible rfl
    rotate_left
    ·simp only [pq]
     rfl
    refine done_ (done_of HT_.out (by kernel_rfl)) ?_
    try go_wp2
    go_ret2
    exact ⟨by first | rfl | (simp [errW_none, errW_some] <;> rfl) | (simp only [← hji13]; first | rfl | (simp [errW_none, errW_some] <;> rfl)) | (simp [*, errW_none, errW_some] <;> rfl), by repeat (first | (with_reducible first | exact HB.out | apply below_alloc | apply pw_below_drewN | apply below_drew1 | refine below_set ?_ GE138.out) | exact HB.out)⟩
  ·replace c8 := Bool.eq_false_iff.mpr c8
   subst c8
   have H1 : (some (0, false)) = some (r1, r2) := by rw [if_neg (show ¬ (false = true) by decide)] at H; exact H
   clear H
   have H := H1
   clear H1
   simp only [Option.some.injEq, Prod.mk.injEq] at H
   obtain ⟨rfl, rfl⟩ := H
   go_enter Tryz.func122, Tryz.ntmps122
   try go_wp2_with (first | ((with_reducible refine gate_dst (N := 5) rfl ?_); refine box_event ?hg (N := 5) ?hd (cs := #[.int .i64 a0_0, .int .i64 a0_1]) (t := 108) ?hr ?_; (case hd => rfl); (case hg => rfl); (case hr => first | (go_simp; done) | (go_simp; rfl)); intro gb138 hg w17 hbox hb; have n0_ := Aside0.mk (below_step (bw HB.out) hb); have n1_ := Aside0.mk (hbox); have n2_ := Aside0.mk ((by rw [hg]; exact (below_size (bw HB.out)) : w.heap.size ≤ gb138)); have n3_ := Aside0.mk ((by rw [hg]; exact (below_size (bw HB.out)) : w.heap.size ≤ gb138)); clear HB; have HB := n0_; have BK138 := n1_; have GW138 := n2_; have GE138 := n3_; clear n0_ n1_ n2_ n3_; clear hb hbox hg))
   have n0_ := Aside0.mk (blk_drew BK138.out)
   have n1_ := Aside0.mk (below_drew1 HB.out)
   clear BK138
   clear HB
   have BK138 := n0_
   have HB := n1_
   clear n0_ n1_
   refine start_ (n := 13) (S := fun w' => w'.cell? ⟨gb138, 0, none⟩ = some (.int .i64 a0_0) ∧ w'.cell? ⟨gb138, 1, none⟩ = some (.int .i64 a0_1)) (ds := []) #[false, false, false, false, false, false, false, false, false, false, false, false, false] (by kernel_rfl) rfl rfl ⟨(blk_cell BK138.out 0).trans rfl, (blk_cell BK138.out 1).trans rfl⟩ (fun hHeld => ?_); refine with_tabW wheel_dial_least.tab1 wheel_dial_least.bits1 (fun HT_ HW_ => ?_)
   generalize w17.drew = w18 at BK138 HB hHeld ⊢
   refine pure_ (i := 1) (N := some 17) (v := ?_) (a' := ?_) #[false, true, false, false, false, false, false, false, false, false, false, false, false] rfl rfl (any_of HT_.out (by kernel_rfl)) (fun _ _ _ h => h) (Or.inl ⟨by rfl, ?_⟩) ?_ ?_
   rotate_left
   ·intro w'
    go_simp
    with_reducible rfl
   rotate_left
   ·simp only [pq]
    rfl
   refine pure_ (i := 2) (N := some 18) (v := ?_) (a' := ?_) #[false, true, true, false, false, false, false, false, false, false, false, false, false] rfl rfl (any_of HT_.out (by kernel_rfl)) (fun _ _ _ h => h) (Or.inl ⟨by rfl, ?_⟩) ?_ ?_
   rotate_left
   ·intro w'
    go_simp
    with_reducible rfl
   rotate_left
   ·simp only [pq]
    rfl
   refine pure_ (i := 3) (N := some 19) (v := ?_) (a' := ?_) #[false, true, true, true, false, false, false, false, false, false, false, false, false] rfl rfl (any_of HT_.out (by kernel_rfl)) (fun _ _ _ h => h) (Or.inl ⟨by rfl, ?_⟩) ?_ ?_
   rotate_left
   ·intro w'
    go_simp
    with_reducible rfl
   rotate_left
   ·simp only [pq]
    rfl
   refine pure_ (i := 4) (N := some 20) (v := ?_) (a' := ?_) #[false, true, true, true, true, false, false, false, false, false, false, false, false] rfl rfl (any_of HT_.out (by kernel_rfl)) (fun _ _ _ h => h) (Or.inl ⟨by rfl, ?_⟩) ?_ ?_
   rotate_left
   ·intro w'
    go_simp
    with_reducible rfl
   rotate_left
   ·simp only [pq]
    rfl
   refine take_ (i := 0) (N := some 16) (v := ?_) (a' := ?_) #[true, true, true, true, true, false, false, false, false, false, false, false, false] rfl rfl (take_ofW HT_.out HW_.out (by kernel_rfl)) (fun _ _ _ h => h) (Or.inl ⟨by rfl, ?_⟩) hHeld ?_ ?_
   rotate_left
   ·rintro w' ⟨s0, s1⟩
    go_simp
    with_reducible rfl
   rotate_left
   ·simp only [pq]
    rfl
   refine one_ (i := 5) (N := some 21) #[true, true, true, true, true, true, false, false, false, false, false, false, false] rfl rfl (one_of HT_.out (by kernel_rfl)) (by decide) (fun K hK => ?_)
   refine goes_ Tryz.func134 (by kernel_rfl) rfl #[.agg #[.int .i64 a0_0, .int .i64 a0_1], .slice A1 l1.length c1, .int .i64 (wrap64 (Int.tdiv a3 a2))] (by rfl) rfl rfl mq ?_
   with_reducible refine (wheel_dial_common.calls k a0_0 a0_1 _ _ l1 (wrap64 (Int.tdiv a3 a2)) t139 t140 false _ ?side1 ?side2 A7.out).mono ?_
   (case side1 => repeat (first | exact (Kd.C_below HR1.out HB.out) | (with_reducible refine Kd.C_alloc ?_ _) | (with_reducible refine Kd.C_drewN ?_ _) | (with_reducible refine Kd.C_drew ?_)))
   (case side2 => exact HC1.out)
   rintro e w19 ⟨rfl, hb⟩
   refine ⟨_, rfl, ?_⟩
   have n0_ := Aside0.mk (blk_below (g := gb138) (o := .cells #[.int .i64 a0_0, .int .i64 a0_1] 108 (0, 0)) (bq BK138.out) hb)
   have n1_ := Aside0.mk (below_step (by repeat (first | (with_reducible first | exact HB.out | apply below_alloc | apply pw_below_drewN | apply below_drew1 | refine below_set ?_ GE138.out) | exact HB.out)) hb)
   clear BK138
   clear HB
   have BK138 := n0_
   have HB := n1_
   clear n0_ n1_
   (try clear hb)
   (try clear hb2)
   (try clear hk)
   (try clear hi)
   refine hK.out _ _ ⟨(blk_cell BK138.out 0).trans rfl, (blk_cell BK138.out 1).trans rfl⟩ (fun hHeld => ?_)
   clear hK K
   refine norm_ (a' := ?_) ?_ ?_
   rotate_left
   ·show Act.put _ (some 21) _ = _
    simp only [pq]
    rfl
   refine pure_ (i := 6) (N := some 15) (v := ?_) (a' := ?_) #[true, true, true, true, true, true, true, false, false, false, false, false, false] rfl rfl (any_of HT_.out (by kernel_rfl)) (fun _ _ _ h => h) (Or.inl ⟨by rfl, ?_⟩) ?_ ?_
   rotate_left
   ·intro w'
    go_simp
    with_reducible rfl
   rotate_left
   ·simp only [pq]
    rfl
   refine pure_ (i := 7) (N := some 22) (v := ?_) (a' := ?_) #[true, true, true, true, true, true, true, true, false, false, false, false, false] rfl rfl (any_of HT_.out (by kernel_rfl)) (fun _ _ _ h => h) (Or.inl ⟨by rfl, ?_⟩) ?_ ?_
   rotate_left
   ·intro w'
    go_simp
    with_reducible rfl
   rotate_left
   ·simp only [pq]
    rfl
   refine pure_ (i := 8) (N := some 23) (v := ?_) (a' := ?_) #[true, true, true, true, true, true, true, true, true, false, false, false, false] rfl rfl (any_of HT_.out (by kernel_rfl)) (fun _ _ _ h => h) (Or.inl ⟨by rfl, ?_⟩) ?_ ?_
   rotate_left
   ·intro w'
    go_simp
    with_reducible rfl
   rotate_left
   ·simp only [pq]
    rfl
   refine pure_ (i := 9) (N := some 24) (v := ?_) (a' := ?_) #[true, true, true, true, true, true, true, true, true, true, false, false, false] rfl rfl (any_of HT_.out (by kernel_rfl)) (fun _ _ _ h => h) (Or.inl ⟨by rfl, ?_⟩) ?_ ?_
   rotate_left
   ·intro w'
    go_simp
    with_reducible rfl
   rotate_left
   ·simp only [pq]
    rfl
   refine pure_ (i := 10) (N := some 12) (v := ?_) (a' := ?_) #[true, true, true, true, true, true, true, true, true, true, true, false, false] rfl rfl (any_of HT_.out (by kernel_rfl)) (fun _ _ _ h => h) (Or.inl ⟨by rfl, ?_⟩) ?_ ?_
   rotate_left
   ·intro w'
    go_simp
    with_reducible rfl
   rotate_left
   ·simp only [pq]
    rfl
   refine pure_ (i := 11) (N := some 13) (v := ?_) (a' := ?_) #[true, true, true, true, true, true, true, true, true, true, true, true, false] rfl rfl (any_of HT_.out (by kernel_rfl)) (fun _ _ _ h => h) (Or.inl ⟨by rfl, ?_⟩) ?_ ?_
   rotate_left
   ·intro w'
    go_simp
    with_reducible rfl
   rotate_left
   ·simp only [pq]
    rfl
   refine pure_ (i := 12) (N := some 14) (v := ?_) (a' := ?_) #[true, true, true, true, true, true, true, true, true, true, true, true, true] rfl rfl (any_of HT_.out (by kernel_rfl)) (fun _ _ _ h => h) (Or.inl ⟨by rfl, ?_⟩) ?_ ?_
   rotate_left
   ·intro w'
    go_simp
    with_reducible rfl
   rotate_left
   ·simp only [pq]
    rfl
   refine done_ (done_of HT_.out (by kernel_rfl)) ?_
   try go_wp2
   go_ret2
   exact ⟨by first | rfl | (simp [errW_none, errW_some] <;> rfl) | (simp [*, errW_none, errW_some] <;> rfl), by repeat (first | (with_reducible first | exact HB.out | apply below_alloc | apply pw_below_drewN | apply below_drew1 | refine below_set ?_ GE138.out) | exact HB.out)⟩
def wheel_dial_fits.f (k : Nat) (a0_0 : Int) (a0_1 : Int) (a1_0 : Int) (a1_1 : Int) (a1_2 : Int) (a1_3 : Int) (a2 : Int) : Option (Bool) := (wheel_dial_distance.f a0_0 a0_1 a1_2 a1_3).bind fun t144 => ((wheel_dial_least.f k a0_0 a0_1 (([t144] : List Int)) a2 a1_0 a1_1).bind fun bt148 => (some bt148.2))
theorem wheel_dial_fits.mono : ∀ a0 a1 a2 a3 a4 a5 a6 k, LeO (wheel_dial_fits.f k a0 a1 a2 a3 a4 a5 a6) (wheel_dial_fits.f (k + 1) a0 a1 a2 a3 a4 a5 a6) := by
 intro a0 a1 a2 a3 a4 a5 a6 k
 unfold wheel_dial_fits.f
 repeat' first
   |(with_reducible exact wheel_dial_least.mono _ _ _ _ _ _ _)
   |(with_reducible exact LeO.refl _)
   |(with_reducible exact LeO.none _)
   |(with_reducible refine LeO.ite ?_ ?_)
   |(with_reducible refine LeO.bind ?_ (fun _ => ?_))
   |exact wheel_dial_least.mono _ _ _ _ _ _ _
   |exact LeO.none _
   |refine LeO.ite ?_ ?_
   |refine LeO.bind ?_ (fun _ => ?_)
def wheel_dial_fits.T1 : Bool × List (List Nat × List Nat) := (true, [([], []), ([], []), ([], []), ([2], [2]), ([], []), ([4], [4]), ([1, 3, 5], [1, 3, 5]), ([6], [6]), ([], []), ([], []), ([9], [9]), ([10], [10]), ([], []), ([12], [12]), ([13], [13]), ([0, 7, 8, 11, 14, 6], [0, 7, 8, 11, 14]), ([15], [15]), ([16], [16]), ([16], [16]), ([17, 15, 0, 1, 2, 3, 4, 5, 6, 7, 8, 9, 10, 11, 12, 13, 14, 15, 16, 17], [17]), ([18, 19, 0, 1, 2, 3, 4, 5, 6, 7, 8, 9, 10, 11, 12, 13, 14, 15, 16, 17, 18, 19], [18])])
def wheel_dial_fits.B1 : List Nat := [0, 0, 0, 4, 0, 16, 62, 126, 0, 0, 512, 1536, 0, 4096, 12288, 32767, 65535, 131071, 131071, 262143, 1048575]
theorem wheel_dial_fits.tab1 : rtab .any (opsOf Tryz.f70 1) = wheel_dial_fits.T1 := by kernel_rfl
theorem wheel_dial_fits.bits1 : waitsOk wheel_dial_fits.T1.2 wheel_dial_fits.B1 = true := by kernel_rfl
set_option maxHeartbeats 8000000 in
set_option maxRecDepth 100000 in
theorem wheel_dial_fits.calls (k : Nat) (a0_0 : Int) (a0_1 : Int) (a1_0 : Int) (a1_1 : Int) (a1_2 : Int) (a1_3 : Int) (a2 : Int) (r : Bool) (w : World) (h : wheel_dial_fits.f k a0_0 a0_1 a1_0 a1_1 a1_2 a1_3 a2 = some r) :
  Calls Tryz.prog 70 #[.agg #[.int .i64 a0_0, .int .i64 a0_1], .agg #[.int .i64 a1_0, .int .i64 a1_1, .int .i64 a1_2, .int .i64 a1_3], .int .i64 a2] w fun e w' => e = .returned (.bool r) ∧ Below w.heap.size w w' := by
 have hu108 := Tryz.underlying108
 have hu61 := Tryz.underlying61
 have HB := Aside0.mk (Below.refl w.heap.size w)
 have H : ((wheel_dial_distance.f a0_0 a0_1 a1_2 a1_3).bind fun t144 => ((wheel_dial_least.f k a0_0 a0_1 (([t144] : List Int)) a2 a1_0 a1_1).bind fun bt148 => (some bt148.2))) = some r := h
 clear h
 replace H := Option.bind_eq_some_iff.mp H
 obtain ⟨t144, A40, H⟩ := H
 replace H : ((wheel_dial_least.f k a0_0 a0_1 (([t144] : List Int)) a2 a1_0 a1_1).bind fun bt148 => (some bt148.2)) = some r := H
 have A4 := Aside0.mk A40
 clear A40
 obtain ⟨y145, hy145⟩ : ∃ y_ : List Int, y_ = (([t144] : List Int)) := ⟨_, rfl⟩
 replace H : ((wheel_dial_least.f k a0_0 a0_1 y145 a2 a1_0 a1_1).bind fun bt148 => (some bt148.2)) = some r := by first | (rw [hy145]; with_reducible exact H) | (have H2_ := (Option.bind_some _ _).symm.trans H; rw [hy145]; with_reducible exact H2_) | (have H2_ := (Option.bind_some _ _).symm.trans H; with_reducible exact H2_) | with_reducible exact H | (rw [hy145]; exact H) | exact H
 have Ny145 := Aside0.mk hy145
 clear hy145
 replace H := Option.bind_eq_some_iff.mp H
 obtain ⟨⟨t148, t149⟩, A50, H⟩ := H
 replace H : (some t149) = some r := H
 have A5 := Aside0.mk A50
 clear A50
 obtain rfl := Option.some.inj H
 go_enter Tryz.func70, Tryz.ntmps70
 try go_wp2_with (first | ((with_reducible refine gate_dst (N := 3) rfl ?_); refine box_event ?hg (N := 3) ?hd (cs := #[.int .i64 a0_0, .int .i64 a0_1]) (t := 108) ?hr ?_; (case hd => rfl); (case hg => rfl); (case hr => first | (go_simp; done) | (go_simp; rfl)); intro gb142 hg w6 hbox hb; have n0_ := Aside0.mk (below_step (bw HB.out) hb); have n1_ := Aside0.mk (hbox); have n2_ := Aside0.mk ((by rw [hg]; exact (below_size (bw HB.out)) : w.heap.size ≤ gb142)); have n3_ := Aside0.mk ((by rw [hg]; exact (below_size (bw HB.out)) : w.heap.size ≤ gb142)); clear HB; have HB := n0_; have BK142 := n1_; have GW142 := n2_; have GE142 := n3_; clear n0_ n1_ n2_ n3_; clear hb hbox hg) | ((with_reducible refine gate_dst (N := 4) rfl ?_); refine box_event ?hg (N := 4) ?hd (cs := #[.int .i64 a1_0, .int .i64 a1_1, .int .i64 a1_2, .int .i64 a1_3]) (t := 61) ?hr ?_; (case hd => rfl); (case hg => rfl); (case hr => first | (go_simp; done) | (go_simp; rfl)); intro gb143 hg w7 hbox hb; have n0_ := Aside0.mk (blk_below (g := gb142) (o := .cells #[.int .i64 a0_0, .int .i64 a0_1] 108 (0, 0)) (bq BK142.out) hb); have n1_ := Aside0.mk (below_step (by repeat (first | (with_reducible first | exact HB.out | apply below_alloc | apply pw_below_drewN | apply below_drew1 | refine below_set ?_ GE142.out) | exact HB.out)) hb); have n2_ := Aside0.mk (hbox); have n3_ := Aside0.mk ((by rw [hg]; exact (below_size (by repeat (first | (with_reducible first | exact HB.out | apply below_alloc | apply pw_below_drewN | apply below_drew1 | refine below_set ?_ GE142.out) | exact HB.out))) : w.heap.size ≤ gb143)); have n4_ := Aside0.mk ((by rw [hg]; exact (below_size (by repeat (first | (with_reducible first | exact HB.out | apply below_alloc | apply pw_below_drewN | apply below_drew1 | refine below_set ?_ GE142.out) | exact HB.out))) : w.heap.size ≤ gb143)); have n5_ := Aside0.mk ((by rw [hg]; exact Nat.ne_of_lt (blk_lt (g := gb142) (o := .cells #[.int .i64 a0_0, .int .i64 a0_1] 108 (0, 0)) (bq BK142.out)) : gb142 ≠ gb143)); have n6_ := Aside0.mk ((by rw [hg]; exact Nat.ne_of_gt (blk_lt (g := gb142) (o := .cells #[.int .i64 a0_0, .int .i64 a0_1] 108 (0, 0)) (bq BK142.out)) : gb143 ≠ gb142)); clear BK142; clear HB; have BK142 := n0_; have HB := n1_; have BK143 := n2_; have GW143 := n3_; have GE143 := n4_; have NB142_143 := n5_; have NB143_142 := n6_; clear n0_ n1_ n2_ n3_ n4_ n5_ n6_; clear hb hbox hg))
 have n0_ := Aside0.mk (blk_drew BK142.out)
 have n1_ := Aside0.mk (blk_drew BK143.out)
 have n2_ := Aside0.mk (below_drew1 HB.out)
 clear BK142
 clear BK143
 clear HB
 have BK142 := n0_
 have BK143 := n1_
 have HB := n2_
 clear n0_ n1_ n2_
 refine start_ (n := 21) (S := fun w' => w'.cell? ⟨gb142, 0, none⟩ = some (.int .i64 a0_0) ∧ w'.cell? ⟨gb142, 1, none⟩ = some (.int .i64 a0_1) ∧ w'.cell? ⟨gb143, 0, none⟩ = some (.int .i64 a1_0) ∧ w'.cell? ⟨gb143, 1, none⟩ = some (.int .i64 a1_1) ∧ w'.cell? ⟨gb143, 2, none⟩ = some (.int .i64 a1_2) ∧ w'.cell? ⟨gb143, 3, none⟩ = some (.int .i64 a1_3)) (ds := []) #[false, false, false, false, false, false, false, false, false, false, false, false, false, false, false, false, false, false, false, false, false] (by kernel_rfl) rfl rfl ⟨(blk_cell BK142.out 0).trans rfl, (blk_cell BK142.out 1).trans rfl, (blk_cell BK143.out 0).trans rfl, (blk_cell BK143.out 1).trans rfl, (blk_cell BK143.out 2).trans rfl, (blk_cell BK143.out 3).trans rfl⟩ (fun hHeld => ?_); refine with_tabW wheel_dial_fits.tab1 wheel_dial_fits.bits1 (fun HT_ HW_ => ?_)
 generalize w7.drew = w8 at BK142 BK143 HB hHeld ⊢
 refine pure_ (i := 2) (N := some 12) (v := ?_) (a' := ?_) #[false, false, true, false, false, false, false, false, false, false, false, false, false, false, false, false, false, false, false, false, false] rfl rfl (any_of HT_.out (by kernel_rfl)) (fun _ _ _ h => h) (Or.inl ⟨by rfl, ?_⟩) ?_ ?_
 rotate_left
 ·intro w'
  go_simp
  with_reducible rfl
 rotate_left
 ·simp only [pq]
  rfl
 refine pure_ (i := 4) (N := some 14) (v := ?_) (a' := ?_) #[false, false, true, false, true, false, false, false, false, false, false, false, false, false, false, false, false, false, false, false, false] rfl rfl (any_of HT_.out (by kernel_rfl)) (fun _ _ _ h => h) (Or.inl ⟨by rfl, ?_⟩) ?_ ?_
 rotate_left
 ·intro w'
  go_simp
  with_reducible rfl
 rotate_left
 ·simp only [pq]
  rfl
 refine pure_ (i := 8) (N := some 18) (v := ?_) (a' := ?_) #[false, false, true, false, true, false, false, false, true, false, false, false, false, false, false, false, false, false, false, false, false] rfl rfl (any_of HT_.out (by kernel_rfl)) (fun _ _ _ h => h) (Or.inl ⟨by rfl, ?_⟩) ?_ ?_
 rotate_left
 ·intro w'
  go_simp
  with_reducible rfl
 rotate_left
 ·simp only [pq]
  rfl
 refine pure_ (i := 9) (N := some 19) (v := ?_) (a' := ?_) #[false, false, true, false, true, false, false, false, true, true, false, false, false, false, false, false, false, false, false, false, false] rfl rfl (any_of HT_.out (by kernel_rfl)) (fun _ _ _ h => h) (Or.inl ⟨by rfl, ?_⟩) ?_ ?_
 rotate_left
 ·intro w'
  go_simp
  with_reducible rfl
 rotate_left
 ·simp only [pq]
  rfl
 refine pure_ (i := 10) (N := some 20) (v := ?_) (a' := ?_) #[false, false, true, false, true, false, false, false, true, true, true, false, false, false, false, false, false, false, false, false, false] rfl rfl (any_of HT_.out (by kernel_rfl)) (fun _ _ _ h => h) (Or.inl ⟨by rfl, ?_⟩) ?_ ?_
 rotate_left
 ·intro w'
  go_simp
  with_reducible rfl
 rotate_left
 ·simp only [pq]
  rfl
 refine pure_ (i := 12) (N := some 22) (v := ?_) (a' := ?_) #[false, false, true, false, true, false, false, false, true, true, true, false, true, false, false, false, false, false, false, false, false] rfl rfl (any_of HT_.out (by kernel_rfl)) (fun _ _ _ h => h) (Or.inl ⟨by rfl, ?_⟩) ?_ ?_
 rotate_left
 ·intro w'
  go_simp
  with_reducible rfl
 rotate_left
 ·simp only [pq]
  rfl
 refine pure_ (i := 13) (N := some 23) (v := ?_) (a' := ?_) #[false, false, true, false, true, false, false, false, true, true, true, false, true, true, false, false, false, false, false, false, false] rfl rfl (any_of HT_.out (by kernel_rfl)) (fun _ _ _ h => h) (Or.inl ⟨by rfl, ?_⟩) ?_ ?_
 rotate_left
 ·intro w'
  go_simp
  with_reducible rfl
 rotate_left
 ·simp only [pq]
  rfl
 refine take_ (i := 0) (N := some 10) (v := ?_) (a' := ?_) #[true, false, true, false, true, false, false, false, true, true, true, false, true, true, false, false, false, false, false, false, false] rfl rfl (take_ofW HT_.out HW_.out (by kernel_rfl)) (fun _ _ _ h => h) (Or.inl ⟨by rfl, ?_⟩) hHeld ?_ ?_
 rotate_left
 ·rintro w' ⟨s0, s1, s2, s3, s4, s5⟩
  go_simp
  with_reducible rfl
 rotate_left
 ·simp only [pq]
  rfl
 refine take_ (i := 1) (N := some 11) (v := ?_) (a' := ?_) #[true, true, true, false, true, false, false, false, true, true, true, false, true, true, false, false, false, false, false, false, false] rfl rfl (take_ofW HT_.out HW_.out (by kernel_rfl)) (fun _ _ _ h => h) (Or.inl ⟨by rfl, ?_⟩) hHeld ?_ ?_
 rotate_left
 ·rintro w' ⟨s0, s1, s2, s3, s4, s5⟩
  go_simp
  with_reducible rfl
 rotate_left
 ·simp only [pq]
  rfl
 refine take_ (i := 3) (N := some 13) (v := ?_) (a' := ?_) #[true, true, true, true, true, false, false, false, true, true, true, false, true, true, false, false, false, false, false, false, false] rfl rfl (take_ofW HT_.out HW_.out (by kernel_rfl)) (fun _ _ _ h => h) (Or.inl ⟨by rfl, ?_⟩) hHeld ?_ ?_
 rotate_left
 ·rintro w' ⟨s0, s1, s2, s3, s4, s5⟩
  go_simp
  with_reducible rfl
 rotate_left
 ·simp only [pq]
  rfl
 refine take_ (i := 5) (N := some 15) (v := ?_) (a' := ?_) #[true, true, true, true, true, true, false, false, true, true, true, false, true, true, false, false, false, false, false, false, false] rfl rfl (take_ofW HT_.out HW_.out (by kernel_rfl)) (fun _ _ _ h => h) (Or.inl ⟨by rfl, ?_⟩) hHeld ?_ ?_
 rotate_left
 ·rintro w' ⟨s0, s1, s2, s3, s4, s5⟩
  go_simp
  with_reducible rfl
 rotate_left
 ·simp only [pq]
  rfl
 refine take_ (i := 11) (N := some 21) (v := ?_) (a' := ?_) #[true, true, true, true, true, true, false, false, true, true, true, true, true, true, false, false, false, false, false, false, false] rfl rfl (take_ofW HT_.out HW_.out (by kernel_rfl)) (fun _ _ _ h => h) (Or.inl ⟨by rfl, ?_⟩) hHeld ?_ ?_
 rotate_left
 ·rintro w' ⟨s0, s1, s2, s3, s4, s5⟩
  go_simp
  with_reducible rfl
 rotate_left
 ·simp only [pq]
  rfl
 refine take_ (i := 14) (N := some 24) (v := ?_) (a' := ?_) #[true, true, true, true, true, true, false, false, true, true, true, true, true, true, true, false, false, false, false, false, false] rfl rfl (take_ofW HT_.out HW_.out (by kernel_rfl)) (fun _ _ _ h => h) (Or.inl ⟨by rfl, ?_⟩) hHeld ?_ ?_
 rotate_left
 ·rintro w' ⟨s0, s1, s2, s3, s4, s5⟩
  go_simp
  with_reducible rfl
 rotate_left
 ·simp only [pq]
  rfl
 refine one_ (i := 6) (N := some 16) #[true, true, true, true, true, true, true, false, true, true, true, true, true, true, true, false, false, false, false, false, false] rfl rfl (one_of HT_.out (by kernel_rfl)) (by decide) (fun K hK => ?_)
 refine goes_ Tryz.func100 (by kernel_rfl) rfl #[.agg #[.int .i64 a0_0, .int .i64 a0_1], .int .i64 a1_2, .int .i64 a1_3] (by rfl) rfl rfl mq ?_
 with_reducible refine (wheel_dial_distance.calls a0_0 a0_1 a1_2 a1_3 t144 _ A4.out).mono ?_
 rintro e w9 ⟨rfl, hb⟩
 refine ⟨_, rfl, ?_⟩
 have n0_ := Aside0.mk (blk_below (g := gb142) (o := .cells #[.int .i64 a0_0, .int .i64 a0_1] 108 (0, 0)) (bq BK142.out) hb)
 have n1_ := Aside0.mk (blk_below (g := gb143) (o := .cells #[.int .i64 a1_0, .int .i64 a1_1, .int .i64 a1_2, .int .i64 a1_3] 61 (0, 0)) (bq BK143.out) hb)
 have n2_ := Aside0.mk (below_step (by repeat (first | (with_reducible first | exact HB.out | apply below_alloc | apply pw_below_drewN | apply below_drew1 | refine below_set ?_ GE142.out | refine below_set ?_ GE143.out) | exact HB.out)) hb)
 clear BK142
 clear BK143
 clear HB
 have BK142 := n0_
 have BK143 := n1_
 have HB := n2_
 clear n0_ n1_ n2_
 (try clear hb)
 (try clear hb2)
 (try clear hk)
 (try clear hi)
 refine hK.out _ _ ⟨(blk_cell BK142.out 0).trans rfl, (blk_cell BK142.out 1).trans rfl, (blk_cell BK143.out 0).trans rfl, (blk_cell BK143.out 1).trans rfl, (blk_cell BK143.out 2).trans rfl, (blk_cell BK143.out 3).trans rfl⟩ (fun hHeld => ?_)
 clear hK K
 refine norm_ (a' := ?_) ?_ ?_
 rotate_left
 ·show Act.put _ (some 16) _ = _
  simp only [pq]
  rfl
 refine one_ (i := 7) (N := some 17) #[true, true, true, true, true, true, true, true, true, true, true, true, true, true, true, false, false, false, false, false, false] rfl rfl (one_of HT_.out (by kernel_rfl)) (by decide) (fun K hK => ?_)
 refine Kd.R_lit_step (Kd.int .i64) _ 3 ?hg (N := 17) ?hd (xs := ([t144] : List Int)) (inner := [.int .i64 t144]) (ok := fun _ => True) (okp := fun _ => True) ?hr ?hp (fun _ hk => hk) trivial (Below.refl _ _) (Nat.le_refl _) (by simp) ?_; (case hd => rfl); (case hg => rfl); (case hr => first | (go_simp; done) | (go_simp; rfl)); (case hp => exact (Reps.one (show Kd.M (Kd.int .i64) _ _ _ t144 [.int .i64 t144] from rfl) (Reps.none _ _)))
 intro v146 w10 ho11 hb hg_ hnew_
 clear hg_ hnew_
 (first | rw [← Ny145.out] at ho11 | (simp only [Int.reduceToNat] at ho11; rw [← Ny145.out] at ho11))
 have n0_ := Aside0.mk (Kd.R_lower ho11 (below_size (by repeat (first | (with_reducible first | exact HB.out | apply below_alloc | apply pw_below_drewN | apply below_drew1 | refine below_set ?_ GE142.out | refine below_set ?_ GE143.out) | exact HB.out))))
 have n1_ := Aside0.mk (blk_below (g := gb142) (o := .cells #[.int .i64 a0_0, .int .i64 a0_1] 108 (0, 0)) (bq BK142.out) hb)
 have n2_ := Aside0.mk (blk_below (g := gb143) (o := .cells #[.int .i64 a1_0, .int .i64 a1_1, .int .i64 a1_2, .int .i64 a1_3] 61 (0, 0)) (bq BK143.out) hb)
 have n3_ := Aside0.mk (below_step (by repeat (first | (with_reducible first | exact HB.out | apply below_alloc | apply pw_below_drewN | apply below_drew1 | refine below_set ?_ GE142.out | refine below_set ?_ GE143.out) | exact HB.out)) hb)
 clear BK142
 clear BK143
 clear HB
 have HO147 := n0_
 have BK142 := n1_
 have BK143 := n2_
 have HB := n3_
 clear n0_ n1_ n2_ n3_
 clear hb ho11
 obtain ⟨Ao12, co12, eo12⟩ := Kd.R_slice HO147.out
 (first | subst eo12 | (injection eo12 with f1_ f2_ f3_; have f4_ := f1_.symm; have f5_ := f3_.symm; clear f1_ f2_ f3_; subst f4_; subst f5_))
 refine hK.out _ _ ⟨(blk_cell BK142.out 0).trans rfl, (blk_cell BK142.out 1).trans rfl, (blk_cell BK143.out 0).trans rfl, (blk_cell BK143.out 1).trans rfl, (blk_cell BK143.out 2).trans rfl, (blk_cell BK143.out 3).trans rfl⟩ (fun hHeld => ?_)
 clear hK K
 refine norm_ (a' := ?_) ?_ ?_
 rotate_left
 ·show Act.put _ (some 17) _ = _
  simp only [pq]
  rfl
 refine one_ (i := 15) (N := some 25) #[true, true, true, true, true, true, true, true, true, true, true, true, true, true, true, true, false, false, false, false, false] rfl rfl (one_of HT_.out (by kernel_rfl)) (by decide) (fun K hK => ?_)
 refine goes_ Tryz.func122 (by kernel_rfl) rfl #[.agg #[.int .i64 a0_0, .int .i64 a0_1], .slice Ao12 y145.length co12, .int .i64 a2, .int .i64 a1_0, .int .i64 a1_1] (by rfl) rfl rfl mq ?_
 with_reducible refine (wheel_dial_least.calls k a0_0 a0_1 _ _ y145 a2 a1_0 a1_1 t148 t149 _ ?side1 ?side2 A5.out).mono ?_
 (case side1 => repeat (first | exact (Kd.R_reads' HO147.out).2.2 | (with_reducible refine Kd.C_alloc ?_ _) | (with_reducible refine Kd.C_drewN ?_ _) | (with_reducible refine Kd.C_drew ?_)))
 (case side2 => exact (Kd.R_reads' HO147.out).2.1)
 rintro e w13 ⟨rfl, hb⟩
 refine ⟨_, rfl, ?_⟩
 have n0_ := Aside0.mk (Kd.R_below (rq HO147.out) hb)
 have n1_ := Aside0.mk (blk_below (g := gb142) (o := .cells #[.int .i64 a0_0, .int .i64 a0_1] 108 (0, 0)) (bq BK142.out) hb)
 have n2_ := Aside0.mk (blk_below (g := gb143) (o := .cells #[.int .i64 a1_0, .int .i64 a1_1, .int .i64 a1_2, .int .i64 a1_3] 61 (0, 0)) (bq BK143.out) hb)
 have n3_ := Aside0.mk (below_step (by repeat (first | (with_reducible first | exact HB.out | apply below_alloc | apply pw_below_drewN | apply below_drew1 | refine below_set ?_ GE142.out | refine below_set ?_ GE143.out) | exact HB.out)) hb)
 clear HO147
 clear BK142
 clear BK143
 clear HB
 have HO147 := n0_
 have BK142 := n1_
 have BK143 := n2_
 have HB := n3_
 clear n0_ n1_ n2_ n3_
 (try clear hb)
 (try clear hb2)
 (try clear hk)
 (try clear hi)
 refine hK.out _ _ ⟨(blk_cell BK142.out 0).trans rfl, (blk_cell BK142.out 1).trans rfl, (blk_cell BK143.out 0).trans rfl, (blk_cell BK143.out 1).trans rfl, (blk_cell BK143.out 2).trans rfl, (blk_cell BK143.out 3).trans rfl⟩ (fun hHeld => ?_)
 clear hK K
 refine norm_ (a' := ?_) ?_ ?_
 rotate_left
 ·show Act.put _ (some 25) _ = _
  simp only [pq]
  rfl
 refine pure_ (i := 16) (N := some 9) (v := ?_) (a' := ?_) #[true, true, true, true, true, true, true, true, true, true, true, true, true, true, true, true, true, false, false, false, false] rfl rfl (any_of HT_.out (by kernel_rfl)) (fun _ _ _ h => h) (Or.inl ⟨by rfl, ?_⟩) ?_ ?_
 rotate_left
 ·intro w'
  go_simp
  with_reducible rfl
 rotate_left
 ·simp only [pq]
  rfl
 refine pure_ (i := 17) (N := some 26) (v := ?_) (a' := ?_) #[true, true, true, true, true, true, true, true, true, true, true, true, true, true, true, true, true, true, false, false, false] rfl rfl (any_of HT_.out (by kernel_rfl)) (fun _ _ _ h => h) (Or.inl ⟨by rfl, ?_⟩) ?_ ?_
 rotate_left
 ·intro w'
  go_simp
  with_reducible rfl
 rotate_left
 ·simp only [pq]
  rfl
 refine pure_ (i := 18) (N := some 27) (v := ?_) (a' := ?_) #[true, true, true, true, true, true, true, true, true, true, true, true, true, true, true, true, true, true, true, false, false] rfl rfl (any_of HT_.out (by kernel_rfl)) (fun _ _ _ h => h) (Or.inl ⟨by rfl, ?_⟩) ?_ ?_
 rotate_left
 ·intro w'
  go_simp
  with_reducible rfl
 rotate_left
 ·simp only [pq]
  rfl
 refine pure_ (i := 19) (N := some 7) (v := ?_) (a' := ?_) #[true, true, true, true, true, true, true, true, true, true, true, true, true, true, true, true, true, true, true, true, false] rfl rfl (any_of HT_.out (by kernel_rfl)) (fun _ _ _ h => h) (Or.inl ⟨by rfl, ?_⟩) ?_ ?_
 rotate_left
 ·intro w'
  go_simp
  with_reducible rfl
 rotate_left
 ·simp only [pq]
  rfl
 refine pure_ (i := 20) (N := some 8) (v := ?_) (a' := ?_) #[true, true, true, true, true, true, true, true, true, true, true, true, true, true, true, true, true, true, true, true, true] rfl rfl (any_of HT_.out (by kernel_rfl)) (fun _ _ _ h => h) (Or.inl ⟨by rfl, ?_⟩) ?_ ?_
 rotate_left
 ·intro w'
  go_simp
  with_reducible rfl
 rotate_left
 ·simp only [pq]
  rfl
 refine done_ (done_of HT_.out (by kernel_rfl)) ?_
 try go_wp2
 go_ret
 exact ⟨by first | rfl | (simp [errW_none, errW_some] <;> rfl) | (simp [*, errW_none, errW_some] <;> rfl), by repeat (first | (with_reducible first | exact HB.out | apply below_alloc | apply pw_below_drewN | apply below_drew1 | refine below_set ?_ GE142.out | refine below_set ?_ GE143.out) | exact HB.out)⟩
def findI (p : Int → Bool) (lo : Int) : Nat → Option Int
 |0 => none
 |n + 1 => if p lo then some lo else findI p (lo + 1) n
theorem findI_some {p : Int → Bool} : ∀ {n : Nat} {lo a : Int}, findI p lo n = some a → lo ≤ a ∧ a < lo + n ∧ p a = true ∧ ∀ b, lo ≤ b → b < a → p b = false
 |n + 1, lo, a, h => by
  unfold findI at h
  by_cases hp : p lo = true
  ·rw [if_pos hp] at h
   obtain rfl := Option.some.inj h
   exact ⟨by omega, by omega, hp, fun b h1 h2 => by omega⟩
  ·rw [if_neg hp] at h
   obtain ⟨h1, h2, h3, h4⟩ := findI_some h
   refine ⟨by omega, by omega, h3, fun b g1 g2 => ?_⟩
   by_cases e : b = lo
   ·subst e; simpa using hp
   ·exact h4 b (by omega) g2
theorem findI_none {p : Int → Bool} : ∀ {n : Nat} {lo : Int}, findI p lo n = none → ∀ b, lo ≤ b → b < lo + n → p b = false
 |0, lo, h, b, h1, h2 => by omega
 |n + 1, lo, h, b, h1, h2 => by
  unfold findI at h
  by_cases hp : p lo = true
  ·rw [if_pos hp] at h; cases h
  ·rw [if_neg hp] at h
   by_cases e : b = lo
   ·subst e; simpa using hp
   ·exact findI_none h b (by omega) (by omega)
theorem findI_eq {p : Int → Bool} {n : Nat} {lo a : Int} (h1 : lo ≤ a) (h2 : a < lo + n) (h3 : p a = true) (h4 : ∀ b, lo ≤ b → b < a → p b = false) : findI p lo n = some a := by
 cases h : findI p lo n with
 |none => rw [findI_none h a h1 h2] at h3; cases h3
 |some x =>
  obtain ⟨g1, g2, g3, g4⟩ := findI_some h
  rcases Int.lt_trichotomy x a with e | e | e
  ·rw [h4 x g1 e] at g3; cases g3
  ·rw [e]
  ·rw [g4 a h1 e] at h3; cases h3
theorem findI_eq_none {p : Int → Bool} {n : Nat} {lo : Int} (h : ∀ b, lo ≤ b → b < lo + n → p b = false) : findI p lo n = none := by
 cases e : findI p lo n with
 |none => rfl
 |some x =>
  obtain ⟨g1, g2, g3, g4⟩ := findI_some e
  rw [h x g1 g2] at g3; cases g3
def areaCan (D S : Int) (ds : List Int) (c A : Int) : Bool := canAll D S ds (A / c)
def leastA (D S : Int) (ds : List Int) (c lo hi : Int) : Option Int := findI (areaCan D S ds c) lo (hi - lo + 1).toNat
def leastR : Option Int → Int × Bool
 |some a => (a, true)
 |none => (0, false)
def cOk (c : Int) : Prop := 1 ≤ c ∧ c ≤ 1000
theorem div_le_div {a b c : Int} (hc : 0 < c) (h : a ≤ b) : a / c ≤ b / c := Int.ediv_le_ediv hc h
theorem div_bounds {a c : Int} (hc : 0 < c) : a / c * c ≤ a ∧ a < a / c * c + c := by
 have h1 := Int.emod_add_mul_ediv a c
 have h2 := Int.emod_nonneg a (by omega : c ≠ 0)
 have h3 := Int.emod_lt_of_pos a hc
 rw [Int.mul_comm] at h1
 omega
theorem le_div {a b c : Int} (hc : 0 < c) : a ≤ b / c ↔ a * c ≤ b := Int.le_ediv_iff_mul_le hc
theorem div_lt {a b c : Int} (hc : 0 < c) : b / c < a ↔ b < a * c := Int.ediv_lt_iff_lt_mul hc
theorem mul_div_self {a c : Int} (hc : 0 < c) : a * c / c = a := Int.mul_ediv_cancel a (by omega)
theorem wheel_dial_least.eval (D S c lo hi : Int) (ds : List Int) (hw : wOk D S) (hds : dsOk D ds) (hc : cOk c) (h0 : 0 ≤ lo) (h1 : lo ≤ hi) (h2 : hi ≤ 1073741824) :
  Ev (fun k => wheel_dial_least.f k D S ds c lo hi) (leastR (leastA D S ds c lo hi)) := by
 obtain ⟨c1, c2⟩ := hc
 have cp : 0 < c := by omega
 have t1 : lo.tdiv c = lo / c := Int.tdiv_eq_ediv_of_nonneg h0
 have t2 : hi.tdiv c = hi / c := Int.tdiv_eq_ediv_of_nonneg (by omega)
 have l0 : 0 ≤ lo / c := Int.ediv_nonneg h0 (by omega)
 have l1 : lo / c ≤ lo := Int.ediv_le_self _ h0
 have u0 : 0 ≤ hi / c := Int.ediv_nonneg (by omega) (by omega)
 have u1 : hi / c ≤ hi := Int.ediv_le_self _ (by omega)
 have w1 : wrap64 (lo.tdiv c) = lo / c := by rw [t1]; exact wrap64_id (by omega) (by omega)
 have w2 : wrap64 (hi.tdiv c) = hi / c := by rw [t2]; exact wrap64_id (by omega) (by omega)
 have hdef : ∀ k, wheel_dial_least.f k D S ds c lo hi = (wheel_dial_common.f k D S ds (lo / c)).bind fun bt151 => (if bt151.2.2 = true then (if bt151.1 > hi / c then (some (0, false)) else (some (mx lo (wrap64 (bt151.1 * c)), true))) else (some (0, false))) := by
  intro k
  unfold wheel_dial_least.f
  rw [if_neg (by omega), w1, w2]
 rcases common_spec D S (lo / c) ds hw hds l0 (by omega) with ⟨r, last, hev, g1, g2, g3, g4, g5, g6⟩ | ⟨hev, hno⟩
 ·by_cases hr : r > hi / c
  ·have hn : leastA D S ds c lo hi = none := findI_eq_none fun b b1 b2 => by
    have e1 := div_le_div cp b1
    have e2 := div_le_div cp (show b ≤ hi by omega)
    exact g3 (b / c) e1 (by omega)
   rw [hn]
   refine Ev.congr hdef ?_
   refine Ev.bind hev ?_
   simp only [if_true]
   rw [if_pos hr]
   exact Ev.now _
  ·have e1 : r * c ≤ hi := (le_div cp).1 (by omega)
   have e0 : 0 ≤ r * c := Int.mul_nonneg (by omega) (by omega)
   have w3 : wrap64 (r * c) = r * c := wrap64_id (by omega) (by omega)
   have hn : leastA D S ds c lo hi = some (mx lo (r * c)) := by
    have hle1 := le_mx_left lo (r * c)
    have hq : (mx lo (r * c)) / c = r := by
     unfold mx
     split
     ·exact mul_div_self cp
     ·have h3 : r ≤ lo / c := (le_div cp).2 (by omega)
      omega
    refine findI_eq hle1 (by have : mx lo (r * c) ≤ hi := mx_le h1 e1; omega) (by unfold areaCan; rw [hq]; exact g2) fun b b1 b2 => ?_
    have e2 := div_le_div cp b1
    refine g3 (b / c) e2 ?_
    rcases mx_cases lo (r * c) with e | e
    ·omega
    ·rw [e] at b2; exact (div_lt cp).2 b2
   rw [hn]
   refine Ev.congr hdef ?_
   refine Ev.bind hev ?_
   simp only [if_true]
   rw [if_neg hr, w3]
   exact Ev.now _
 ·have hn : leastA D S ds c lo hi = none := findI_eq_none fun b b1 b2 => hno (b / c) (div_le_div cp b1)
  rw [hn]
  refine Ev.congr hdef ?_
  refine Ev.bind hev ?_
  simp only [Bool.false_eq_true, if_false]
  exact Ev.now _
def fitB (D S c : Int) (x : S61) : Bool := (leastA D S [wDist D x.f1 x.f2] c x.f0.f0 x.f0.f1).isSome
theorem trialOk_iff {D : Int} {x : S61} : trialOk D x = true ↔ (0 ≤ x.f0.f0 ∧ x.f0.f0 ≤ x.f0.f1 ∧ x.f0.f1 ≤ 1073741824) ∧ (0 ≤ x.f1 ∧ x.f1 < D) ∧ 0 ≤ x.f2 ∧ x.f2 < D := by
 unfold trialOk spanOk placeOk
 simp only [Bool.and_eq_true, decide_eq_true_eq]
 omega
theorem dsOk_one {D s e : Int} (hD : 0 < D) : dsOk D [wDist D s e] := ⟨by simp, fun d hd => by
 obtain rfl := List.mem_singleton.1 hd
 exact wDist_bd hD⟩
theorem wheel_dial_fits.eval (D S c : Int) (x : S61) (hw : wOk D S) (hc : cOk c) (hx : trialOk D x = true) :
  Ev (fun k => wheel_dial_fits.f k D S x.f0.f0 x.f0.f1 x.f1 x.f2 c) (fitB D S c x) := by
 obtain ⟨⟨a1, a2, a3⟩, ⟨a4, a5⟩, a6, a7⟩ := trialOk_iff.1 hx
 have hD := hw.1
 have h := wheel_dial_least.eval D S c x.f0.f0 x.f0.f1 [wDist D x.f1 x.f2] hw (dsOk_one (by omega)) hc a1 a2 a3
 have hdef : ∀ k, wheel_dial_fits.f k D S x.f0.f0 x.f0.f1 x.f1 x.f2 c = (wheel_dial_least.f k D S [wDist D x.f1 x.f2] c x.f0.f0 x.f0.f1).bind fun t160 => some t160.2 := by
  intro k
  unfold wheel_dial_fits.f
  rw [wheel_dial_distance.eval D S x.f1 x.f2 hD hw.2.1 a4 a5 a6 a7]
  rfl
 refine Ev.congr hdef ?_
 refine Ev.bind h ?_
 unfold fitB
 cases leastA D S [wDist D x.f1 x.f2] c x.f0.f0 x.f0.f1 <;> exact Ev.now _
mutual
def acreageref05_run.l0 : Nat → List (S114) → Int → Int → Int → Int → Int → Option (Int × Int × Bool)
  | 0, _, _, _, _, _, _ => none
  | k + 1, x1, x3, x10, x11, x319000, x319001 => if x11 ≤ x3 then (acreageref05_run.j1 k x1 x3 x10 x11 (decide (x11 ≤ x10)) x319000 x319001) else (acreageref05_run.j1 k x1 x3 x10 x11 false x319000 x319001)
def acreageref05_run.j1 : Nat → List (S114) → Int → Int → Int → Bool → Int → Int → Option (Int × Int × Bool)
  | 0, _, _, _, _, _, _, _ => none
  | k + 1, x1, x3, x10, x11, x30, x319000, x319001 => if x30 = true then (acreageref05_run.l1 k x1 x3 x10 x11 0 x319000 x319001 x11 x3) else (some (0, 0, false))
def acreageref05_run.l1 : Nat → List (S114) → Int → Int → Int → Int → Int → Int → Int → Int → Option (Int × Int × Bool)
  | 0, _, _, _, _, _, _, _, _, _ => none
  | k + 1, x1, x3, x10, x11, x13, x319000, x319001, x321000, x321001 => if x13 < (x1.length : Int) then (if 0 ≤ x13 then ((acreageref05_next.f x319000 x319001 ((rd_T114 x1 x13).f0) ((rd_T114 x1 x13).f1) x11).bind fun bt322 => (acreageref05_run.l1 k x1 x3 x10 x11 (wrap64 (x13 + 1)) x319000 x319001 (mx x321000 bt322.1) (mn x321001 bt322.2))) else (none)) else (if x321000 = x11 then (some (x321000, x321001, true)) else (acreageref05_run.l0 k x1 x3 x10 x321000 x319000 x319001))
end
def acreageref05_run.f (k : Nat) (a0_0 : Int) (a0_1 : Int) (l1 : List (S114)) (a2 : Int) (a3 : Int) : Option (Int × Int × Bool) := acreageref05_run.l0 k l1 a3 (wrap64 ((mx a2 a0_0) + a0_0)) a2 a0_0 a0_1
theorem acreageref05_run.mono_l : ∀ k, (∀ y0 y1 y2 y3 y4 y5, LeO (acreageref05_run.l0 k y0 y1 y2 y3 y4 y5) (acreageref05_run.l0 (k + 1) y0 y1 y2 y3 y4 y5)) ∧ (∀ y0 y1 y2 y3 y4 y5 y6, LeO (acreageref05_run.j1 k y0 y1 y2 y3 y4 y5 y6) (acreageref05_run.j1 (k + 1) y0 y1 y2 y3 y4 y5 y6)) ∧ (∀ y0 y1 y2 y3 y4 y5 y6 y7 y8, LeO (acreageref05_run.l1 k y0 y1 y2 y3 y4 y5 y6 y7 y8) (acreageref05_run.l1 (k + 1) y0 y1 y2 y3 y4 y5 y6 y7 y8))
 |0 => ⟨fun _ _ _ _ _ _ r h => by simp [acreageref05_run.l0] at h, fun _ _ _ _ _ _ _ r h => by simp [acreageref05_run.j1] at h, fun _ _ _ _ _ _ _ _ _ r h => by simp [acreageref05_run.l1] at h⟩
 |k + 1 => by
  obtain ⟨ih0, ih1, ih2⟩ := acreageref05_run.mono_l k
  refine ⟨?_, ?_, ?_⟩
  ·intro y0 y1 y2 y3 y4 y5
   unfold acreageref05_run.l0
   repeat' first
   |(with_reducible exact ih0 _ _ _ _ _ _)
   |(with_reducible exact ih1 _ _ _ _ _ _ _)
   |(with_reducible exact ih2 _ _ _ _ _ _ _ _ _)
   |(with_reducible exact LeO.refl _)
   |(with_reducible exact LeO.none _)
   |(with_reducible refine LeO.ite ?_ ?_)
   |(with_reducible refine LeO.bind ?_ (fun _ => ?_))
   |exact ih0 _ _ _ _ _ _
   |exact ih1 _ _ _ _ _ _ _
   |exact ih2 _ _ _ _ _ _ _ _ _
   |exact LeO.none _
   |refine LeO.ite ?_ ?_
   |refine LeO.bind ?_ (fun _ => ?_)
  ·intro y0 y1 y2 y3 y4 y5 y6
   unfold acreageref05_run.j1
   repeat' first
   |(with_reducible exact ih0 _ _ _ _ _ _)
   |(with_reducible exact ih1 _ _ _ _ _ _ _)
   |(with_reducible exact ih2 _ _ _ _ _ _ _ _ _)
   |(with_reducible exact LeO.refl _)
   |(with_reducible exact LeO.none _)
   |(with_reducible refine LeO.ite ?_ ?_)
   |(with_reducible refine LeO.bind ?_ (fun _ => ?_))
   |exact ih0 _ _ _ _ _ _
   |exact ih1 _ _ _ _ _ _ _
   |exact ih2 _ _ _ _ _ _ _ _ _
   |exact LeO.none _
   |refine LeO.ite ?_ ?_
   |refine LeO.bind ?_ (fun _ => ?_)
  ·intro y0 y1 y2 y3 y4 y5 y6 y7 y8
   unfold acreageref05_run.l1
   repeat' first
   |(with_reducible exact ih0 _ _ _ _ _ _)
   |(with_reducible exact ih1 _ _ _ _ _ _ _)
   |(with_reducible exact ih2 _ _ _ _ _ _ _ _ _)
   |(with_reducible exact LeO.refl _)
   |(with_reducible exact LeO.none _)
   |(with_reducible refine LeO.ite ?_ ?_)
   |(with_reducible refine LeO.bind ?_ (fun _ => ?_))
   |exact ih0 _ _ _ _ _ _
   |exact ih1 _ _ _ _ _ _ _
   |exact ih2 _ _ _ _ _ _ _ _ _
   |exact LeO.none _
   |refine LeO.ite ?_ ?_
   |refine LeO.bind ?_ (fun _ => ?_)
theorem acreageref05_run.mono : ∀ a0 a1 a2 a3 a4 k, LeO (acreageref05_run.f k a0 a1 a2 a3 a4) (acreageref05_run.f (k + 1) a0 a1 a2 a3 a4) := by
 intro a0 a1 a2 a3 a4 k
 obtain ⟨ih0, ih1, ih2⟩ := acreageref05_run.mono_l k
 unfold acreageref05_run.f
 repeat' first
   |(with_reducible exact ih0 _ _ _ _ _ _)
   |(with_reducible exact ih1 _ _ _ _ _ _ _)
   |(with_reducible exact ih2 _ _ _ _ _ _ _ _ _)
   |(with_reducible exact LeO.refl _)
   |(with_reducible exact LeO.none _)
   |(with_reducible refine LeO.ite ?_ ?_)
   |(with_reducible refine LeO.bind ?_ (fun _ => ?_))
   |exact ih0 _ _ _ _ _ _
   |exact ih1 _ _ _ _ _ _ _
   |exact ih2 _ _ _ _ _ _ _ _ _
   |exact LeO.none _
   |refine LeO.ite ?_ ?_
   |refine LeO.bind ?_ (fun _ => ?_)
def acreageref05_run.T8 : Bool × List (List Nat × List Nat) := (true, [([], []), ([], []), ([], []), ([1, 2], [1, 2]), ([3], [3]), ([], []), ([0, 4, 5], [0, 4, 5]), ([], []), ([7, 6, 6, 0, 1, 2, 3, 4, 5, 6, 7], [6, 7])])
def acreageref05_run.B8 : List Nat := [0, 0, 0, 6, 14, 0, 63, 0, 255]
theorem acreageref05_run.tab8 : rtab .any (opsOf Tryz.f136 8) = acreageref05_run.T8 := by kernel_rfl
theorem acreageref05_run.bits8 : waitsOk acreageref05_run.T8.2 acreageref05_run.B8 = true := by kernel_rfl
set_option maxHeartbeats 8000000 in
set_option maxRecDepth 100000 in
theorem acreageref05_run.calls (k : Nat) (a0_0 : Int) (a0_1 : Int) (A1 : Option Addr) (c1 : Nat) (l1 : List (S114)) (a2 : Int) (a3 : Int) (r1 : Int) (r2 : Int) (r3 : Bool) (w : World) (hr1 : Kd.C k114 w A1 l1.length l1) (hc1 : l1.length ≤ c1) (h : acreageref05_run.f k a0_0 a0_1 l1 a2 a3 = some (r1, r2, r3)) :
  Calls Tryz.prog 136 #[.agg #[.int .i64 a0_0, .int .i64 a0_1], .slice A1 l1.length c1, .int .i64 a2, .int .i64 a3] w fun e w' => e = .returned (.tuple #[.agg #[.int .i64 r1, .int .i64 r2], .bool r3]) ∧ Below w.heap.size w w' := by
 have hu23 := Tryz.underlying23
 have hu59 := Tryz.underlying59
 have hu114 := Tryz.underlying114
 have HR1 := Aside0.mk hr1
 have HC1 := Aside0.mk hc1
 clear hr1 hc1
 have HB := Aside0.mk (Below.refl w.heap.size w)
 have H : (acreageref05_run.l0 k l1 a3 (wrap64 ((mx a2 a0_0) + a0_0)) a2 a0_0 a0_1) = some (r1, r2, r3) := h
 clear h
 obtain ⟨ji5, hji5⟩ : ∃ j_ : Int, (mx a2 a0_0) = j_ := ⟨_, rfl⟩
 replace H : (acreageref05_run.l0 k l1 a3 (wrap64 ((ji5) + a0_0)) a2 a0_0 a0_1) = some (r1, r2, r3) := by first | (rw [hji5] at H; exact H) | (simp only [hji5] at H ⊢; exact H)
 have hji5_ : (if a2 < a0_0 then a0_0 else a2) = ji5 := hji5
 have H' := Aside0.mk H
 clear H
 go_enter Tryz.func136, Tryz.ntmps136
 go_wp2_with (first | ((with_reducible refine gate_dst (N := 4) rfl ?_); refine box_event ?hg (N := 4) ?hd (cs := #[.int .i64 a0_0, .int .i64 a0_1]) (t := 23) ?hr ?_; (case hd => rfl); (case hg => rfl); (case hr => first | (go_simp; done) | (go_simp; rfl)); intro gb318 hg w6 hbox hb; have n0_ := Aside0.mk (below_step (bw HB.out) hb); have n1_ := Aside0.mk (hbox); have n2_ := Aside0.mk ((by rw [hg]; exact (below_size (bw HB.out)) : w.heap.size ≤ gb318)); have n3_ := Aside0.mk ((by rw [hg]; exact (below_size (bw HB.out)) : w.heap.size ≤ gb318)); clear HB; have HB := n0_; have BK318 := n1_; have GW318 := n2_; have GE318 := n3_; clear n0_ n1_ n2_ n3_; clear hb hbox hg) | ((with_reducible refine gate_dst (N := 8) rfl ?_); refine box_event ?hg (N := 8) ?hd (cs := #[.int .i64 0, .int .i64 0]) (t := 59) ?hr ?_; (case hd => rfl); (case hg => rfl); (case hr => first | (go_simp; done) | (go_simp; rfl)); intro gb319 hg w7 hbox hb; have n0_ := Aside0.mk (blk_below (g := gb318) (o := .cells #[.int .i64 a0_0, .int .i64 a0_1] 23 (0, 0)) (bq BK318.out) hb); have n1_ := Aside0.mk (below_step (by repeat (first | (with_reducible first | exact HB.out | apply below_alloc | apply pw_below_drewN | apply below_drew1 | refine below_set ?_ GE318.out) | exact HB.out)) hb); have n2_ := Aside0.mk (hbox); have n3_ := Aside0.mk ((by rw [hg]; exact (below_size (by repeat (first | (with_reducible first | exact HB.out | apply below_alloc | apply pw_below_drewN | apply below_drew1 | refine below_set ?_ GE318.out) | exact HB.out))) : w.heap.size ≤ gb319)); have n4_ := Aside0.mk ((by rw [hg]; exact (below_size (by repeat (first | (with_reducible first | exact HB.out | apply below_alloc | apply pw_below_drewN | apply below_drew1 | refine below_set ?_ GE318.out) | exact HB.out))) : w.heap.size ≤ gb319)); have n5_ := Aside0.mk ((by rw [hg]; exact Nat.ne_of_lt (blk_lt (g := gb318) (o := .cells #[.int .i64 a0_0, .int .i64 a0_1] 23 (0, 0)) (bq BK318.out)) : gb318 ≠ gb319)); have n6_ := Aside0.mk ((by rw [hg]; exact Nat.ne_of_gt (blk_lt (g := gb318) (o := .cells #[.int .i64 a0_0, .int .i64 a0_1] 23 (0, 0)) (bq BK318.out)) : gb319 ≠ gb318)); clear BK318; clear HB; have BK318 := n0_; have HB := n1_; have BK319 := n2_; have GW319 := n3_; have GE319 := n4_; have NB318_319 := n5_; have NB319_318 := n6_; clear n0_ n1_ n2_ n3_ n4_ n5_ n6_; clear hb hbox hg; have hnb8 := NB318_319.out; have hnc8 := NB319_318.out; have hcz9_0 : w7.cell? ⟨gb318, 0, none⟩ = some (.int .i64 a0_0) := (blk_cell BK318.out 0).trans rfl; have hcz9_1 : w7.cell? ⟨gb318, 1, none⟩ = some (.int .i64 a0_1) := (blk_cell BK318.out 1).trans rfl; have hfz9_0 := blk_frozen BK318.out 0; have hfz9_1 := blk_frozen BK318.out 1))
 go_loopg [11] k (fun kq v11 w' => ∃ (x11_1 : Int) (x320000_1 : Int) (x320001_1 : Int), v11 = .int .i64 x11_1 ∧ Aside0 (acreageref05_run.l0 kq l1 a3 (wrap64 ((ji5) + a0_0)) x11_1 a0_0 a0_1 = some (r1, r2, r3)) ∧ Aside0 (kq ≤ k) ∧ Aside0 (w'.heap[gb318]? = some (.cells #[.int .i64 a0_0, .int .i64 a0_1] 23 (0, 0))) ∧ Aside0 (w'.heap[gb319]? = some (.cells #[.int .i64 x320000_1, .int .i64 x320001_1] 59 (0, 0))) ∧ Aside0 (Below w.heap.size w w'))
 case atStart => exact ⟨(a2), (0), (0), (by first | rfl | (simp; done) | (simp [*]; done)), H', ⟨Nat.le_refl _⟩, ⟨bq BK318.out⟩, ⟨bq BK319.out⟩, ⟨by repeat (first | (with_reducible first | exact HB.out | apply below_alloc | apply pw_below_drewN | apply below_drew1 | refine below_set ?_ GE318.out | refine below_set ?_ GE319.out) | exact HB.out)⟩⟩
 case round =>
  clear H'
  try clear c1
  try clear p2
  try clear p6
  try clear c8
  try clear hcz9_0
  try clear hcz9_1
  try clear hfz9_0
  try clear hfz9_1
  obtain ⟨x11_1, x320000_1, x320001_1, rfl, HA, HK1, BK318, BK319, HB⟩ := hrel
  cases gk with
  |zero => exact absurd HA.out (by simp [acreageref05_run.l0])
  |succ k1 =>
   have H := HA.out
   clear HA
   simp only [acreageref05_run.l0] at H
   have HC10 := Aside0.mk H
   clear H
   go_upto_region 3 with (fail)
   go_cut [30] (fun v30 wc => ∃ (kq : Nat) (x30_9 : Bool), v30 = .bool x30_9 ∧ Aside0 (acreageref05_run.j1 kq l1 a3 (wrap64 ((ji5) + a0_0)) x11_1 x30_9 a0_0 a0_1 = some (r1, r2, r3)) ∧ Aside0 (kq ≤ k1) ∧ Aside0 (wc.heap[gb318]? = some (.cells #[.int .i64 a0_0, .int .i64 a0_1] 23 (0, 0))) ∧ Aside0 (wc.heap[gb319]? = some (.cells #[.int .i64 x320000_1, .int .i64 x320001_1] 59 (0, 0))) ∧ Aside0 (Below w.heap.size w wc))
   case first =>
    have H := HC10.out
    clear HC10
    by_cases c11 : x11_1 ≤ a3
    ·rw [if_pos c11] at H
     have c11b0 : decide (x11_1 ≤ a3) = true := decide_eq_true c11
     clear c11
     (first | rw [c11b0] | (simp only [i64_w, i32_w]; rw [c11b0]) | skip)
     have H' := Aside0.mk H
     clear H
     go_wp2
     go_meet
     case rel => exact ⟨_, (decide (x11_1 ≤ (wrap64 ((ji5) + a0_0)))), (by first | rfl | (simp; done) | (simp only [← hji5] <;> (first | rfl | simp)) | (simp [*]; done)), H', ⟨by have := HK1.out; first | omega | exact Nat.le_refl _⟩, ⟨bq BK318.out⟩, ⟨bq BK319.out⟩, ⟨by repeat (first | (with_reducible first | exact HB.out | apply below_alloc | apply pw_below_drewN | apply below_drew1 | refine below_set ?_ GE318.out | refine below_set ?_ GE319.out) | exact HB.out)⟩⟩
    ·rw [if_neg c11] at H
     have c11b0 : decide (x11_1 ≤ a3) = false := decide_eq_false c11
     clear c11
     (first | rw [c11b0] | (simp only [i64_w, i32_w]; rw [c11b0]) | skip)
     have H' := Aside0.mk H
     clear H
     go_wp2
     go_meet
     case rel => exact ⟨_, (false), (by first | rfl | (simp; done) | (simp [*]; done)), H', ⟨by have := HK1.out; first | omega | exact Nat.le_refl _⟩, ⟨bq BK318.out⟩, ⟨bq BK319.out⟩, ⟨by repeat (first | (with_reducible first | exact HB.out | apply below_alloc | apply pw_below_drewN | apply below_drew1 | refine below_set ?_ GE318.out | refine below_set ?_ GE319.out) | exact HB.out)⟩⟩
   case rest =>
    clear HC10
    try clear c1
    try clear p2
    try clear p6
    try clear c8
    try clear c11
    try clear c11b0
    try clear hcz9_0
    try clear hcz9_1
    try clear hfz9_0
    try clear hfz9_1
    try clear p2
    try clear p6
    obtain ⟨kq, x30_9, rfl, HA, HJ9, BK318, BK319, HB⟩ := hcut
    cases kq with
    |zero => exact absurd HA.out (by simp [acreageref05_run.j1])
    |succ kj9 =>
     have H := HA.out
     clear HA
     simp only [acreageref05_run.j1] at H
     by_cases c12 : x30_9 = true
     ·subst c12
      have H1 : (acreageref05_run.l1 kj9 l1 a3 (wrap64 ((ji5) + a0_0)) x11_1 0 a0_0 a0_1 x11_1 a3) = some (r1, r2, r3) := by rw [if_pos rfl] at H; exact H
      clear H
      have H := H1
      clear H1
      have H' := Aside0.mk H
      clear H
      go_wp2_with (first | ((with_reducible refine gate_dst (N := 12) rfl ?_); refine box_event ?hg (N := 12) ?hd (cs := #[.int .i64 0, .int .i64 0]) (t := 59) ?hr ?_; (case hd => rfl); (case hg => rfl); (case hr => first | (go_simp; done) | (go_simp; rfl)); intro gb320 hg w13 hbox hb; have n0_ := Aside0.mk (blk_below (g := gb318) (o := .cells #[.int .i64 a0_0, .int .i64 a0_1] 23 (0, 0)) (bq BK318.out) hb); have n1_ := Aside0.mk (blk_below (g := gb319) (o := .cells #[.int .i64 x320000_1, .int .i64 x320001_1] 59 (0, 0)) (bq BK319.out) hb); have n2_ := Aside0.mk (below_step (by repeat (first | (with_reducible first | exact HB.out | apply below_alloc | apply pw_below_drewN | apply below_drew1 | refine below_set ?_ GE318.out | refine below_set ?_ GE319.out) | exact HB.out)) hb); have n3_ := Aside0.mk (hbox); have n4_ := Aside0.mk ((by rw [hg]; exact (below_size (by repeat (first | (with_reducible first | exact HB.out | apply below_alloc | apply pw_below_drewN | apply below_drew1 | refine below_set ?_ GE318.out | refine below_set ?_ GE319.out) | exact HB.out))) : w.heap.size ≤ gb320)); have n5_ := Aside0.mk ((by rw [hg]; exact (below_size (by repeat (first | (with_reducible first | exact HB.out | apply below_alloc | apply pw_below_drewN | apply below_drew1 | refine below_set ?_ GE318.out | refine below_set ?_ GE319.out) | exact HB.out))) : w.heap.size ≤ gb320)); have n6_ := Aside0.mk ((by rw [hg]; exact Nat.ne_of_lt (blk_lt (g := gb318) (o := .cells #[.int .i64 a0_0, .int .i64 a0_1] 23 (0, 0)) (bq BK318.out)) : gb318 ≠ gb320)); have n7_ := Aside0.mk ((by rw [hg]; exact Nat.ne_of_gt (blk_lt (g := gb318) (o := .cells #[.int .i64 a0_0, .int .i64 a0_1] 23 (0, 0)) (bq BK318.out)) : gb320 ≠ gb318)); have n8_ := Aside0.mk ((by rw [hg]; exact Nat.ne_of_lt (blk_lt (g := gb319) (o := .cells #[.int .i64 x320000_1, .int .i64 x320001_1] 59 (0, 0)) (bq BK319.out)) : gb319 ≠ gb320)); have n9_ := Aside0.mk ((by rw [hg]; exact Nat.ne_of_gt (blk_lt (g := gb319) (o := .cells #[.int .i64 x320000_1, .int .i64 x320001_1] 59 (0, 0)) (bq BK319.out)) : gb320 ≠ gb319)); clear BK318; clear BK319; clear HB; have BK318 := n0_; have BK319 := n1_; have HB := n2_; have BK320 := n3_; have GW320 := n4_; have GE320 := n5_; have NB318_320 := n6_; have NB320_318 := n7_; have NB319_320 := n8_; have NB320_319 := n9_; clear n0_ n1_ n2_ n3_ n4_ n5_ n6_ n7_ n8_ n9_; clear hb hbox hg; have hnb14 := NB320_318.out; have hnc14 := NB318_320.out; have hnb15 := NB320_319.out; have hnc15 := NB319_320.out; have hcz16_0 : w13.cell? ⟨gb320, 0, none⟩ = some (.int .i64 0) := (blk_cell BK320.out 0).trans rfl; have hcz16_1 : w13.cell? ⟨gb320, 1, none⟩ = some (.int .i64 0) := (blk_cell BK320.out 1).trans rfl; have hfz16_0 := blk_frozen BK320.out 0; have hfz16_1 := blk_frozen BK320.out 1))
      go_loopg [13] kj9 (fun kq v13 w' => ∃ (x13_3 : Int) (x321000_3 : Int) (x321001_3 : Int), v13 = .int .i64 x13_3 ∧ Aside0 (acreageref05_run.l1 kq l1 a3 (wrap64 ((ji5) + a0_0)) x11_1 x13_3 a0_0 a0_1 x321000_3 x321001_3 = some (r1, r2, r3)) ∧ Aside0 (kq ≤ kj9) ∧ Aside0 (w'.heap[gb318]? = some (.cells #[.int .i64 a0_0, .int .i64 a0_1] 23 (0, 0))) ∧ Aside0 (w'.heap[gb319]? = some (.cells #[.int .i64 x320000_1, .int .i64 x320001_1] 59 (0, 0))) ∧ Aside0 (w'.heap[gb320]? = some (.cells #[.int .i64 x321000_3, .int .i64 x321001_3] 59 (0, 0))) ∧ Aside0 (Below w.heap.size w w'))
      case atStart => exact ⟨(0), (x11_1), (a3), (by first | rfl | (simp; done) | (simp [*]; done)), H', ⟨Nat.le_refl _⟩, ⟨by (with_reducible repeat (first | refine blk_drewN ?_ _ | refine blk_drew ?_ | refine blk_alloc ?_ _)); refine blk_far ?_ NB318_320.out _; (with_reducible repeat (first | refine blk_drewN ?_ _ | refine blk_drew ?_ | refine blk_alloc ?_ _)); refine blk_far ?_ NB318_320.out _; (with_reducible repeat (first | refine blk_drewN ?_ _ | refine blk_drew ?_ | refine blk_alloc ?_ _)); exact BK318.out⟩, ⟨by (with_reducible repeat (first | refine blk_drewN ?_ _ | refine blk_drew ?_ | refine blk_alloc ?_ _)); refine blk_far ?_ NB319_320.out _; (with_reducible repeat (first | refine blk_drewN ?_ _ | refine blk_drew ?_ | refine blk_alloc ?_ _)); refine blk_far ?_ NB319_320.out _; (with_reducible repeat (first | refine blk_drewN ?_ _ | refine blk_drew ?_ | refine blk_alloc ?_ _)); exact BK319.out⟩, ⟨by (with_reducible repeat (first | refine blk_drewN ?_ _ | refine blk_drew ?_ | refine blk_alloc ?_ _)); refine blk_put (cs := #[.int .i64 x11_1, .int .i64 0]) ?_ 1 _ rfl; (with_reducible repeat (first | refine blk_drewN ?_ _ | refine blk_drew ?_ | refine blk_alloc ?_ _)); refine blk_put (cs := #[.int .i64 0, .int .i64 0]) ?_ 0 _ rfl; (with_reducible repeat (first | refine blk_drewN ?_ _ | refine blk_drew ?_ | refine blk_alloc ?_ _)); exact BK320.out⟩, ⟨by repeat (first | (with_reducible first | exact HB.out | apply below_alloc | apply pw_below_drewN | apply below_drew1 | refine below_set ?_ GE318.out | refine below_set ?_ GE319.out | refine below_set ?_ GE320.out) | exact HB.out)⟩⟩
      case round =>
       clear H'
       try clear c1
       try clear p2
       try clear p6
       try clear c8
       try clear c11
       try clear c11b0
       try clear c12
       try clear c13
       try clear c14
       try clear c15
       try clear hcz16_0
       try clear hcz16_1
       try clear hcz9_0
       try clear hcz9_1
       try clear hfz16_0
       try clear hfz16_1
       try clear hfz9_0
       try clear hfz9_1
       try clear p2
       try clear p6
       obtain ⟨x13_3, x321000_3, x321001_3, rfl, HA, HK3, BK318, BK319, BK320, HB⟩ := hrel
       cases gk with
       |zero => exact absurd HA.out (by simp [acreageref05_run.l1])
       |succ k3 =>
        have H := HA.out
        clear HA
        simp only [acreageref05_run.l1] at H
        by_cases c17 : x13_3 < (l1.length : Int)
        ·rw [if_pos c17] at H
         have c17b0 : decide (x13_3 < (l1.length : Int)) = true := decide_eq_true c17
         clear c17
         by_cases c18 : 0 ≤ x13_3
         ·rw [if_pos c18] at H
          have c18b0 : decide (0 ≤ x13_3) = true := decide_eq_true c18
          clear c18
          replace H := Option.bind_eq_some_iff.mp H
          obtain ⟨⟨t322, t323⟩, A190, H⟩ := H
          replace H : (acreageref05_run.l1 k3 l1 a3 (wrap64 ((ji5) + a0_0)) x11_1 (wrap64 (x13_3 + 1)) a0_0 a0_1 (mx x321000_3 t322) (mn x321001_3 t323)) = some (r1, r2, r3) := H
          have A19 := Aside0.mk A190
          clear A190
          obtain ⟨ji20, hji20⟩ : ∃ j_ : Int, (mx x321000_3 t322) = j_ := ⟨_, rfl⟩
          replace H : (acreageref05_run.l1 k3 l1 a3 (wrap64 ((ji5) + a0_0)) x11_1 (wrap64 (x13_3 + 1)) a0_0 a0_1 ji20 (mn x321001_3 t323)) = some (r1, r2, r3) := by first | (rw [hji20] at H; exact H) | (simp only [hji20] at H ⊢; exact H)
          (try rw [hji20] at A19)
          have hji20_ : (if x321000_3 < t322 then t322 else x321000_3) = ji20 := hji20
          obtain ⟨ji21, hji21⟩ : ∃ j_ : Int, (mn x321001_3 t323) = j_ := ⟨_, rfl⟩
          replace H : (acreageref05_run.l1 k3 l1 a3 (wrap64 ((ji5) + a0_0)) x11_1 (wrap64 (x13_3 + 1)) a0_0 a0_1 ji20 ji21) = some (r1, r2, r3) := by first | (rw [hji21] at H; exact H) | (simp only [hji21] at H ⊢; exact H)
          (try rw [hji21] at A19)
          have hji21_ : (if t323 < x321001_3 then t323 else x321001_3) = ji21 := hji21
          have H' := Aside0.mk H
          clear H
          try go_wp2
          have n0_ := Aside0.mk (blk_drew BK318.out)
          have n1_ := Aside0.mk (blk_drew BK319.out)
          have n2_ := Aside0.mk (blk_drew BK320.out)
          have n3_ := Aside0.mk (below_drew1 HB.out)
          clear BK318
          clear BK319
          clear BK320
          clear HB
          have BK318 := n0_
          have BK319 := n1_
          have BK320 := n2_
          have HB := n3_
          clear n0_ n1_ n2_ n3_
          have p321 : 0 ≤ (x13_3 : Int) := of_decide_eq_true aq
          have q321 : x13_3 < (l1.length : Int) := of_decide_eq_true aq
          obtain ⟨ad321, e321, hx321_0, hx321_1⟩ := at_T114 HR1.out x13_3 p321 q321
          have hw321_1 := hx321_1
          have hw321_0 := hx321_0
          cases e321
          replace hx321_0 := (HB.out.cell (World.block_lt_of_cell? w _ hx321_0)).trans hx321_0
          replace hx321_1 := (HB.out.cell (World.block_lt_of_cell? w _ hx321_1)).trans hx321_1
          replace p321 := eq_true p321
          replace q321 := eq_true q321
          refine start_ (n := 9) (S := fun w' => w'.cell? ⟨gb318, 0, none⟩ = some (.int .i64 a0_0) ∧ w'.cell? ⟨gb318, 1, none⟩ = some (.int .i64 a0_1) ∧ w'.cell? (ad321.add ((x13_3).toNat * 2)) = some (.int .i64 ((rd_T114 l1 x13_3).f0)) ∧ w'.cell? ⟨(ad321.add ((x13_3).toNat * 2)).block, (ad321.add ((x13_3).toNat * 2)).off + 1, none⟩ = some (.int .i64 ((rd_T114 l1 x13_3).f1))) (ds := []) #[false, false, false, false, false, false, false, false, false] (by kernel_rfl) rfl rfl ⟨(blk_cell BK318.out 0).trans rfl, (blk_cell BK318.out 1).trans rfl, ((HB.out.cell (World.block_lt_of_cell? w _ hw321_0)).trans hw321_0), ((HB.out.cell (World.block_lt_of_cell? w _ hw321_1)).trans hw321_1)⟩ (fun hHeld => ?_); refine with_tabW acreageref05_run.tab8 acreageref05_run.bits8 (fun HT_ HW_ => ?_)
          generalize wr.drew = w22 at BK318 BK319 BK320 HB hx321_0 hx321_1 hHeld ⊢
          refine pure_ (i := 1) (N := some 41) (v := ?_) (a' := ?_) #[false, true, false, false, false, false, false, false, false] rfl rfl (any_of HT_.out (by kernel_rfl)) (fun _ _ _ h => h) (Or.inl ⟨by rfl, ?_⟩) ?_ ?_
          rotate_left
          ·intro w'
           go_simp
           with_reducible rfl
          rotate_left
          ·simp only [pq]
           rfl
          refine pure_ (i := 2) (N := some 42) (v := ?_) (a' := ?_) #[false, true, true, false, false, false, false, false, false] rfl rfl (any_of HT_.out (by kernel_rfl)) (fun _ _ _ h => h) (Or.inl ⟨by rfl, ?_⟩) ?_ ?_
          rotate_left
          ·intro w'
           go_simp
           with_reducible rfl
          rotate_left
          ·simp only [pq]
           rfl
          refine pure_ (i := 3) (N := some 43) (v := ?_) (a' := ?_) #[false, true, true, true, false, false, false, false, false] rfl rfl (any_of HT_.out (by kernel_rfl)) (fun _ _ _ h => h) (Or.inl ⟨by rfl, ?_⟩) ?_ ?_
          rotate_left
          ·intro w'
           go_simp
           with_reducible rfl
          rotate_left
          ·simp only [pq]
           rfl
          refine pure_ (i := 5) (N := some 45) (v := ?_) (a' := ?_) #[false, true, true, true, false, true, false, false, false] rfl rfl (any_of HT_.out (by kernel_rfl)) (fun _ _ _ h => h) (Or.inl ⟨by rfl, ?_⟩) ?_ ?_
          rotate_left
          ·intro w'
           go_simp
           with_reducible rfl
          rotate_left
          ·simp only [pq]
           rfl
          refine take_ (i := 0) (N := some 40) (v := ?_) (a' := ?_) #[true, true, true, true, false, true, false, false, false] rfl rfl (take_ofW HT_.out HW_.out (by kernel_rfl)) (fun _ _ _ h => h) (Or.inl ⟨by rfl, ?_⟩) hHeld ?_ ?_
          rotate_left
          ·rintro w' ⟨s0, s1, s2, s3⟩
           go_simp
           with_reducible rfl
          rotate_left
          ·simp only [pq]
           rfl
          refine take_ (i := 4) (N := some 44) (v := ?_) (a' := ?_) #[true, true, true, true, true, true, false, false, false] rfl rfl (take_ofW HT_.out HW_.out (by kernel_rfl)) (fun _ _ _ h => h) (Or.inl ⟨by rfl, ?_⟩) hHeld ?_ ?_
          rotate_left
          ·rintro w' ⟨s0, s1, s2, s3⟩
           go_simp
           with_reducible rfl
          rotate_left
          ·simp only [pq]
           rfl
          refine join_ (σ := Nat) 1 #[true, true, true, true, true, true, true, true, false] (fun s_ => [(46, .agg #[.int .i64 t322, .int .i64 t323]), (14, .pointer (some ⟨s_, 0, none⟩))]) (fun s_ w' => (w'.cell? ⟨gb318, 0, none⟩ = some (.int .i64 a0_0) ∧ w'.cell? ⟨gb318, 1, none⟩ = some (.int .i64 a0_1) ∧ w'.cell? (ad321.add ((x13_3).toNat * 2)) = some (.int .i64 ((rd_T114 l1 x13_3).f0)) ∧ w'.cell? ⟨(ad321.add ((x13_3).toNat * 2)).block, (ad321.add ((x13_3).toNat * 2)).off + 1, none⟩ = some (.int .i64 ((rd_T114 l1 x13_3).f1))) ∧ (w'.heap[gb318]? = some (.cells #[.int .i64 a0_0, .int .i64 a0_1] 23 (0, 0))) ∧ (w'.heap[gb319]? = some (.cells #[.int .i64 x320000_1, .int .i64 x320001_1] 59 (0, 0))) ∧ (w'.heap[gb320]? = some (.cells #[.int .i64 x321000_3, .int .i64 x321001_3] 59 (0, 0))) ∧ (w'.heap[s_]? = some (.cells #[.int .i64 0, .int .i64 0] 59 (0, 0))) ∧ (w.heap.size ≤ s_) ∧ (w.heap.size ≤ s_) ∧ (gb318 ≠ s_) ∧ (s_ ≠ gb318) ∧ (gb319 ≠ s_) ∧ (s_ ≠ gb319) ∧ (gb320 ≠ s_) ∧ (s_ ≠ gb320) ∧ (Below w.heap.size w w')) ?_ ?_
          rotate_left
          ·intro hCont
           refine two_ (i := 6) (j := 7) (Ni := some 46) (Nj := some 14) #[true, true, true, true, true, true, true, false, false] #[true, true, true, true, true, true, false, true, false] rfl rfl rfl rfl (two_of HT_.out (by kernel_rfl)) (by decide) (by decide) (fun K hK => ?_) (fun K hK => ?_)
           ·skip
            refine goes_ Tryz.func123 (by kernel_rfl) rfl #[.agg #[.int .i64 a0_0, .int .i64 a0_1], .agg #[.int .i64 ((rd_T114 l1 x13_3).f0), .int .i64 ((rd_T114 l1 x13_3).f1)], .int .i64 x11_1] (by rfl) rfl rfl mq ?_
            with_reducible refine (acreageref05_next.calls a0_0 a0_1 ((rd_T114 l1 x13_3).f0) ((rd_T114 l1 x13_3).f1) x11_1 t322 t323 _ A19.out).mono ?_
            rintro e w23 ⟨rfl, hb⟩
            refine ⟨_, rfl, ?_⟩
            have n0_ := Aside0.mk (blk_below (g := gb318) (o := .cells #[.int .i64 a0_0, .int .i64 a0_1] 23 (0, 0)) (bq BK318.out) hb)
            have n1_ := Aside0.mk (blk_below (g := gb319) (o := .cells #[.int .i64 x320000_1, .int .i64 x320001_1] 59 (0, 0)) (bq BK319.out) hb)
            have n2_ := Aside0.mk (blk_below (g := gb320) (o := .cells #[.int .i64 x321000_3, .int .i64 x321001_3] 59 (0, 0)) (bq BK320.out) hb)
            have n3_ := Aside0.mk (below_step (by repeat (first | (with_reducible first | exact HB.out | apply below_alloc | apply pw_below_drewN | apply below_drew1 | refine below_set ?_ GE318.out | refine below_set ?_ GE319.out | refine below_set ?_ GE320.out) | exact HB.out)) hb)
            clear BK318
            clear BK319
            clear BK320
            clear HB
            have BK318 := n0_
            have BK319 := n1_
            have BK320 := n2_
            have HB := n3_
            clear n0_ n1_ n2_ n3_
            (try clear hb)
            (try clear hb2)
            (try clear hk)
            (try clear hi)
            refine hK.out _ _ ⟨(blk_cell BK318.out 0).trans rfl, (blk_cell BK318.out 1).trans rfl, ((HB.out.cell (World.block_lt_of_cell? w _ hw321_0)).trans hw321_0), ((HB.out.cell (World.block_lt_of_cell? w _ hw321_1)).trans hw321_1)⟩ (fun hHeld => ?_)
            clear hK K
            refine norm_ (a' := ?_) ?_ ?_
            rotate_left
            ·show Act.put _ (some 46) _ = _
             simp only [pq]
             rfl
            refine one_ (i := 7) (N := some 14) #[true, true, true, true, true, true, true, true, false] rfl rfl (one_of HT_.out (by kernel_rfl)) (by decide) (fun K hK => ?_)
            refine box_step ?hg (N := 14) ?hd (cs := #[.int .i64 0, .int .i64 0]) (t := 59) ?hr ?_; (case hd => rfl); (case hg => rfl); (case hr => first | (go_simp; done) | (go_simp; rfl))
            intro gb324 hg w24 hbox hb
            have n0_ := Aside0.mk (blk_below (g := gb318) (o := .cells #[.int .i64 a0_0, .int .i64 a0_1] 23 (0, 0)) (bq BK318.out) hb)
            have n1_ := Aside0.mk (blk_below (g := gb319) (o := .cells #[.int .i64 x320000_1, .int .i64 x320001_1] 59 (0, 0)) (bq BK319.out) hb)
            have n2_ := Aside0.mk (blk_below (g := gb320) (o := .cells #[.int .i64 x321000_3, .int .i64 x321001_3] 59 (0, 0)) (bq BK320.out) hb)
            have n3_ := Aside0.mk (below_step (by repeat (first | (with_reducible first | exact HB.out | apply below_alloc | apply pw_below_drewN | apply below_drew1 | refine below_set ?_ GE318.out | refine below_set ?_ GE319.out | refine below_set ?_ GE320.out) | exact HB.out)) hb)
            have n4_ := Aside0.mk (hbox)
            have n5_ := Aside0.mk ((by rw [hg]; exact (below_size (by repeat (first | (with_reducible first | exact HB.out | apply below_alloc | apply pw_below_drewN | apply below_drew1 | refine below_set ?_ GE318.out | refine below_set ?_ GE319.out | refine below_set ?_ GE320.out) | exact HB.out))) : w.heap.size ≤ gb324))
            have n6_ := Aside0.mk ((by rw [hg]; exact (below_size (by repeat (first | (with_reducible first | exact HB.out | apply below_alloc | apply pw_below_drewN | apply below_drew1 | refine below_set ?_ GE318.out | refine below_set ?_ GE319.out | refine below_set ?_ GE320.out) | exact HB.out))) : w.heap.size ≤ gb324))
            have n7_ := Aside0.mk ((by rw [hg]; exact Nat.ne_of_lt (blk_lt (g := gb318) (o := .cells #[.int .i64 a0_0, .int .i64 a0_1] 23 (0, 0)) (bq BK318.out)) : gb318 ≠ gb324))
            have n8_ := Aside0.mk ((by rw [hg]; exact Nat.ne_of_gt (blk_lt (g := gb318) (o := .cells #[.int .i64 a0_0, .int .i64 a0_1] 23 (0, 0)) (bq BK318.out)) : gb324 ≠ gb318))
            have n9_ := Aside0.mk ((by rw [hg]; exact Nat.ne_of_lt (blk_lt (g := gb319) (o := .cells #[.int .i64 x320000_1, .int .i64 x320001_1] 59 (0, 0)) (bq BK319.out)) : gb319 ≠ gb324))
            have n10_ := Aside0.mk ((by rw [hg]; exact Nat.ne_of_gt (blk_lt (g := gb319) (o := .cells #[.int .i64 x320000_1, .int .i64 x320001_1] 59 (0, 0)) (bq BK319.out)) : gb324 ≠ gb319))
            have n11_ := Aside0.mk ((by rw [hg]; exact Nat.ne_of_lt (blk_lt (g := gb320) (o := .cells #[.int .i64 x321000_3, .int .i64 x321001_3] 59 (0, 0)) (bq BK320.out)) : gb320 ≠ gb324))
            have n12_ := Aside0.mk ((by rw [hg]; exact Nat.ne_of_gt (blk_lt (g := gb320) (o := .cells #[.int .i64 x321000_3, .int .i64 x321001_3] 59 (0, 0)) (bq BK320.out)) : gb324 ≠ gb320))
            clear BK318
            clear BK319
            clear BK320
            clear HB
            have BK318 := n0_
            have BK319 := n1_
            have BK320 := n2_
            have HB := n3_
            have BK324 := n4_
            have GW324 := n5_
            have GE324 := n6_
            have NB318_324 := n7_
            have NB324_318 := n8_
            have NB319_324 := n9_
            have NB324_319 := n10_
            have NB320_324 := n11_
            have NB324_320 := n12_
            clear n0_ n1_ n2_ n3_ n4_ n5_ n6_ n7_ n8_ n9_ n10_ n11_ n12_
            clear hb hbox hg
            refine hK.out _ _ ⟨(blk_cell BK318.out 0).trans rfl, (blk_cell BK318.out 1).trans rfl, ((HB.out.cell (World.block_lt_of_cell? w _ hw321_0)).trans hw321_0), ((HB.out.cell (World.block_lt_of_cell? w _ hw321_1)).trans hw321_1)⟩ (fun hHeld => ?_)
            clear hK K
            refine norm_ (a' := ?_) ?_ ?_
            rotate_left
            ·show Act.put _ (some 14) _ = _
             simp only [pq]
             rfl
            exact norm_ (by simp only [putAll, Act.put, List.setIfInBounds_toArray, List.set_cons_zero, List.set_cons_succ]) (hCont (gb324) _ ⟨hHeld, (bq BK318.out), (bq BK319.out), (bq BK320.out), (bq BK324.out), GW324.out, GE324.out, NB318_324.out, NB324_318.out, NB319_324.out, NB324_319.out, NB320_324.out, NB324_320.out, (by repeat (first | (with_reducible first | exact HB.out | apply below_alloc | apply pw_below_drewN | apply below_drew1 | refine below_set ?_ GE318.out | refine below_set ?_ GE319.out | refine below_set ?_ GE320.out | refine below_set ?_ GE324.out) | exact HB.out))⟩)
           ·skip
            refine box_step ?hg (N := 14) ?hd (cs := #[.int .i64 0, .int .i64 0]) (t := 59) ?hr ?_; (case hd => rfl); (case hg => rfl); (case hr => first | (go_simp; done) | (go_simp; rfl))
            intro gb324 hg w23 hbox hb
            have n0_ := Aside0.mk (blk_below (g := gb318) (o := .cells #[.int .i64 a0_0, .int .i64 a0_1] 23 (0, 0)) (bq BK318.out) hb)
            have n1_ := Aside0.mk (blk_below (g := gb319) (o := .cells #[.int .i64 x320000_1, .int .i64 x320001_1] 59 (0, 0)) (bq BK319.out) hb)
            have n2_ := Aside0.mk (blk_below (g := gb320) (o := .cells #[.int .i64 x321000_3, .int .i64 x321001_3] 59 (0, 0)) (bq BK320.out) hb)
            have n3_ := Aside0.mk (below_step (by repeat (first | (with_reducible first | exact HB.out | apply below_alloc | apply pw_below_drewN | apply below_drew1 | refine below_set ?_ GE318.out | refine below_set ?_ GE319.out | refine below_set ?_ GE320.out) | exact HB.out)) hb)
            have n4_ := Aside0.mk (hbox)
            have n5_ := Aside0.mk ((by rw [hg]; exact (below_size (by repeat (first | (with_reducible first | exact HB.out | apply below_alloc | apply pw_below_drewN | apply below_drew1 | refine below_set ?_ GE318.out | refine below_set ?_ GE319.out | refine below_set ?_ GE320.out) | exact HB.out))) : w.heap.size ≤ gb324))
            have n6_ := Aside0.mk ((by rw [hg]; exact (below_size (by repeat (first | (with_reducible first | exact HB.out | apply below_alloc | apply pw_below_drewN | apply below_drew1 | refine below_set ?_ GE318.out | refine below_set ?_ GE319.out | refine below_set ?_ GE320.out) | exact HB.out))) : w.heap.size ≤ gb324))
            have n7_ := Aside0.mk ((by rw [hg]; exact Nat.ne_of_lt (blk_lt (g := gb318) (o := .cells #[.int .i64 a0_0, .int .i64 a0_1] 23 (0, 0)) (bq BK318.out)) : gb318 ≠ gb324))
            have n8_ := Aside0.mk ((by rw [hg]; exact Nat.ne_of_gt (blk_lt (g := gb318) (o := .cells #[.int .i64 a0_0, .int .i64 a0_1] 23 (0, 0)) (bq BK318.out)) : gb324 ≠ gb318))
            have n9_ := Aside0.mk ((by rw [hg]; exact Nat.ne_of_lt (blk_lt (g := gb319) (o := .cells #[.int .i64 x320000_1, .int .i64 x320001_1] 59 (0, 0)) (bq BK319.out)) : gb319 ≠ gb324))
            have n10_ := Aside0.mk ((by rw [hg]; exact Nat.ne_of_gt (blk_lt (g := gb319) (o := .cells #[.int .i64 x320000_1, .int .i64 x320001_1] 59 (0, 0)) (bq BK319.out)) : gb324 ≠ gb319))
            have n11_ := Aside0.mk ((by rw [hg]; exact Nat.ne_of_lt (blk_lt (g := gb320) (o := .cells #[.int .i64 x321000_3, .int .i64 x321001_3] 59 (0, 0)) (bq BK320.out)) : gb320 ≠ gb324))
            have n12_ := Aside0.mk ((by rw [hg]; exact Nat.ne_of_gt (blk_lt (g := gb320) (o := .cells #[.int .i64 x321000_3, .int .i64 x321001_3] 59 (0, 0)) (bq BK320.out)) : gb324 ≠ gb320))
            clear BK318
            clear BK319
            clear BK320
            clear HB
            have BK318 := n0_
            have BK319 := n1_
            have BK320 := n2_
            have HB := n3_
            have BK324 := n4_
            have GW324 := n5_
            have GE324 := n6_
            have NB318_324 := n7_
            have NB324_318 := n8_
            have NB319_324 := n9_
            have NB324_319 := n10_
            have NB320_324 := n11_
            have NB324_320 := n12_
            clear n0_ n1_ n2_ n3_ n4_ n5_ n6_ n7_ n8_ n9_ n10_ n11_ n12_
            clear hb hbox hg
            refine hK.out _ _ ⟨(blk_cell BK318.out 0).trans rfl, (blk_cell BK318.out 1).trans rfl, ((HB.out.cell (World.block_lt_of_cell? w _ hw321_0)).trans hw321_0), ((HB.out.cell (World.block_lt_of_cell? w _ hw321_1)).trans hw321_1)⟩ (fun hHeld => ?_)
            clear hK K
            refine norm_ (a' := ?_) ?_ ?_
            rotate_left
            ·show Act.put _ (some 14) _ = _
             simp only [pq]
             rfl
            refine one_ (i := 6) (N := some 46) #[true, true, true, true, true, true, true, true, false] rfl rfl (one_of HT_.out (by kernel_rfl)) (by decide) (fun K hK => ?_)
            refine goes_ Tryz.func123 (by kernel_rfl) rfl #[.agg #[.int .i64 a0_0, .int .i64 a0_1], .agg #[.int .i64 ((rd_T114 l1 x13_3).f0), .int .i64 ((rd_T114 l1 x13_3).f1)], .int .i64 x11_1] (by rfl) rfl rfl mq ?_
            with_reducible refine (acreageref05_next.calls a0_0 a0_1 ((rd_T114 l1 x13_3).f0) ((rd_T114 l1 x13_3).f1) x11_1 t322 t323 _ A19.out).mono ?_
            rintro e w24 ⟨rfl, hb⟩
            refine ⟨_, rfl, ?_⟩
            have n0_ := Aside0.mk (blk_below (g := gb318) (o := .cells #[.int .i64 a0_0, .int .i64 a0_1] 23 (0, 0)) (bq BK318.out) hb)
            have n1_ := Aside0.mk (blk_below (g := gb319) (o := .cells #[.int .i64 x320000_1, .int .i64 x320001_1] 59 (0, 0)) (bq BK319.out) hb)
            have n2_ := Aside0.mk (blk_below (g := gb320) (o := .cells #[.int .i64 x321000_3, .int .i64 x321001_3] 59 (0, 0)) (bq BK320.out) hb)
            have n3_ := Aside0.mk (blk_below (g := gb324) (o := .cells #[.int .i64 0, .int .i64 0] 59 (0, 0)) (bq BK324.out) hb)
            have n4_ := Aside0.mk (below_step (by repeat (first | (with_reducible first | exact HB.out | apply below_alloc | apply pw_below_drewN | apply below_drew1 | refine below_set ?_ GE318.out | refine below_set ?_ GE319.out | refine below_set ?_ GE320.out | refine below_set ?_ GE324.out) | exact HB.out)) hb)
            clear BK318
            clear BK319
            clear BK320
            clear BK324
            clear HB
            have BK318 := n0_
            have BK319 := n1_
            have BK320 := n2_
            have BK324 := n3_
            have HB := n4_
            clear n0_ n1_ n2_ n3_ n4_
            (try clear hb)
            (try clear hb2)
            (try clear hk)
            (try clear hi)
            refine hK.out _ _ ⟨(blk_cell BK318.out 0).trans rfl, (blk_cell BK318.out 1).trans rfl, ((HB.out.cell (World.block_lt_of_cell? w _ hw321_0)).trans hw321_0), ((HB.out.cell (World.block_lt_of_cell? w _ hw321_1)).trans hw321_1)⟩ (fun hHeld => ?_)
            clear hK K
            refine norm_ (a' := ?_) ?_ ?_
            rotate_left
            ·show Act.put _ (some 46) _ = _
             simp only [pq]
             rfl
            exact norm_ (by simp only [putAll, Act.put, List.setIfInBounds_toArray, List.set_cons_zero, List.set_cons_succ]) (hCont (gb324) _ ⟨hHeld, (bq BK318.out), (bq BK319.out), (bq BK320.out), (bq BK324.out), GW324.out, GE324.out, NB318_324.out, NB324_318.out, NB319_324.out, NB324_319.out, NB320_324.out, NB324_320.out, (by repeat (first | (with_reducible first | exact HB.out | apply below_alloc | apply pw_below_drewN | apply below_drew1 | refine below_set ?_ GE318.out | refine below_set ?_ GE319.out | refine below_set ?_ GE320.out | refine below_set ?_ GE324.out) | exact HB.out))⟩)
          rintro gb324 w25 ⟨hS_, h0_, h1_, h2_, h3_, h4_, h5_, h6_, h7_, h8_, h9_, h10_, h11_, h12_⟩
          have n0_ : Aside0 (w25.heap[gb318]? = some (.cells #[.int .i64 a0_0, .int .i64 a0_1] 23 (0, 0))) := ⟨h0_⟩
          have n1_ : Aside0 (w25.heap[gb319]? = some (.cells #[.int .i64 x320000_1, .int .i64 x320001_1] 59 (0, 0))) := ⟨h1_⟩
          have n2_ : Aside0 (w25.heap[gb320]? = some (.cells #[.int .i64 x321000_3, .int .i64 x321001_3] 59 (0, 0))) := ⟨h2_⟩
          have n3_ : Aside0 (w25.heap[gb324]? = some (.cells #[.int .i64 0, .int .i64 0] 59 (0, 0))) := ⟨h3_⟩
          have n4_ : Aside0 (w.heap.size ≤ gb324) := ⟨h4_⟩
          have n5_ : Aside0 (w.heap.size ≤ gb324) := ⟨h5_⟩
          have n6_ : Aside0 (gb318 ≠ gb324) := ⟨h6_⟩
          have n7_ : Aside0 (gb324 ≠ gb318) := ⟨h7_⟩
          have n8_ : Aside0 (gb319 ≠ gb324) := ⟨h8_⟩
          have n9_ : Aside0 (gb324 ≠ gb319) := ⟨h9_⟩
          have n10_ : Aside0 (gb320 ≠ gb324) := ⟨h10_⟩
          have n11_ : Aside0 (gb324 ≠ gb320) := ⟨h11_⟩
          have n12_ : Aside0 (Below w.heap.size w w25) := ⟨h12_⟩
          clear BK318
          clear BK319
          clear BK320
          clear HB
          clear h0_ h1_ h2_ h3_ h4_ h5_ h6_ h7_ h8_ h9_ h10_ h11_ h12_
          have BK318 := n0_
          have BK319 := n1_
          have BK320 := n2_
          have BK324 := n3_
          have GW324 := n4_
          have GE324 := n5_
          have NB318_324 := n6_
          have NB324_318 := n7_
          have NB319_324 := n8_
          have NB324_319 := n9_
          have NB320_324 := n10_
          have NB324_320 := n11_
          have HB := n12_
          clear n0_ n1_ n2_ n3_ n4_ n5_ n6_ n7_ n8_ n9_ n10_ n11_ n12_
          have hHeld : w25.cell? ⟨gb318, 0, none⟩ = some (.int .i64 a0_0) ∧ w25.cell? ⟨gb318, 1, none⟩ = some (.int .i64 a0_1) ∧ w25.cell? (ad321.add ((x13_3).toNat * 2)) = some (.int .i64 ((rd_T114 l1 x13_3).f0)) ∧ w25.cell? ⟨(ad321.add ((x13_3).toNat * 2)).block, (ad321.add ((x13_3).toNat * 2)).off + 1, none⟩ = some (.int .i64 ((rd_T114 l1 x13_3).f1)) := hS_
          refine norm_ (a' := ?_) ?_ ?_
          rotate_left
          ·simp only [putAll, Act.put, List.setIfInBounds_toArray, List.set_cons_zero, List.set_cons_succ]
           rfl
          refine one_ (i := 8) (N := none) #[true, true, true, true, true, true, true, true, true] rfl rfl (one_of HT_.out (by kernel_rfl)) (by decide) (fun K hK => ?_)
          have hs26 : w25.cell? ⟨gb324, 0, none⟩ = some (.int .i64 0) := (blk_cell BK324.out 0).trans rfl
          have hfs26 := blk_frozen BK324.out 0
          have hns26_0 := NB318_324.out
          have hns26_1 := NB319_324.out
          have hns26_2 := NB320_324.out
          have hms26_0 := NB324_318.out
          have hms26_1 := NB324_319.out
          have hms26_2 := NB324_320.out
          have hs27 : w25.cell? ⟨gb324, 1, none⟩ = some (.int .i64 0) := (blk_cell BK324.out 1).trans rfl
          have hfs27 := blk_frozen BK324.out 1
          have hns27_0 := NB318_324.out
          have hns27_1 := NB319_324.out
          have hns27_2 := NB320_324.out
          have hms27_0 := NB324_318.out
          have hms27_1 := NB324_319.out
          have hms27_2 := NB324_320.out
          refine skip_ (w1 := ?_) (by rfl) rfl ?_ ?_
          rotate_left
          ·go_simp
           rfl
          refine hK.out _ _ ⟨((cell_far (p := ⟨gb324, _, none⟩) NB318_324.out _).trans (((cell_far (p := ⟨gb324, _, none⟩) NB318_324.out _).trans (hHeld.1)))), ((cell_far (p := ⟨gb324, _, none⟩) NB318_324.out _).trans (((cell_far (p := ⟨gb324, _, none⟩) NB318_324.out _).trans (hHeld.2.1)))), ((cell_far (p := ⟨gb324, _, none⟩) (by first | exact Nat.ne_of_lt (Nat.lt_of_lt_of_le (by have := World.block_lt_of_cell? _ _ hw321_0; first | rwa [add_block] at this | exact this) GW324.out) | (rw [add_block]; exact Nat.ne_of_lt (Nat.lt_of_lt_of_le (by have := World.block_lt_of_cell? _ _ hw321_0; first | rwa [add_block] at this | exact this) GW324.out)) | (show (Addr.add _ _).block ≠ _; rw [add_block]; exact Nat.ne_of_lt (Nat.lt_of_lt_of_le (by have := World.block_lt_of_cell? _ _ hw321_0; first | rwa [add_block] at this | exact this) GW324.out)) | (dsimp only; exact Nat.ne_of_lt (Nat.lt_of_lt_of_le (by have := World.block_lt_of_cell? _ _ hw321_0; first | rwa [add_block] at this | exact this) GW324.out))) _).trans (((cell_far (p := ⟨gb324, _, none⟩) (by first | exact Nat.ne_of_lt (Nat.lt_of_lt_of_le (by have := World.block_lt_of_cell? _ _ hw321_0; first | rwa [add_block] at this | exact this) GW324.out) | (rw [add_block]; exact Nat.ne_of_lt (Nat.lt_of_lt_of_le (by have := World.block_lt_of_cell? _ _ hw321_0; first | rwa [add_block] at this | exact this) GW324.out)) | (show (Addr.add _ _).block ≠ _; rw [add_block]; exact Nat.ne_of_lt (Nat.lt_of_lt_of_le (by have := World.block_lt_of_cell? _ _ hw321_0; first | rwa [add_block] at this | exact this) GW324.out)) | (dsimp only; exact Nat.ne_of_lt (Nat.lt_of_lt_of_le (by have := World.block_lt_of_cell? _ _ hw321_0; first | rwa [add_block] at this | exact this) GW324.out))) _).trans (hHeld.2.2.1)))), ((cell_far (p := ⟨gb324, _, none⟩) (by first | exact Nat.ne_of_lt (Nat.lt_of_lt_of_le (by have := World.block_lt_of_cell? _ _ hw321_1; first | rwa [add_block] at this | exact this) GW324.out) | (rw [add_block]; exact Nat.ne_of_lt (Nat.lt_of_lt_of_le (by have := World.block_lt_of_cell? _ _ hw321_1; first | rwa [add_block] at this | exact this) GW324.out)) | (show (Addr.add _ _).block ≠ _; rw [add_block]; exact Nat.ne_of_lt (Nat.lt_of_lt_of_le (by have := World.block_lt_of_cell? _ _ hw321_1; first | rwa [add_block] at this | exact this) GW324.out)) | (dsimp only; exact Nat.ne_of_lt (Nat.lt_of_lt_of_le (by have := World.block_lt_of_cell? _ _ hw321_1; first | rwa [add_block] at this | exact this) GW324.out))) _).trans (((cell_far (p := ⟨gb324, _, none⟩) (by first | exact Nat.ne_of_lt (Nat.lt_of_lt_of_le (by have := World.block_lt_of_cell? _ _ hw321_1; first | rwa [add_block] at this | exact this) GW324.out) | (rw [add_block]; exact Nat.ne_of_lt (Nat.lt_of_lt_of_le (by have := World.block_lt_of_cell? _ _ hw321_1; first | rwa [add_block] at this | exact this) GW324.out)) | (show (Addr.add _ _).block ≠ _; rw [add_block]; exact Nat.ne_of_lt (Nat.lt_of_lt_of_le (by have := World.block_lt_of_cell? _ _ hw321_1; first | rwa [add_block] at this | exact this) GW324.out)) | (dsimp only; exact Nat.ne_of_lt (Nat.lt_of_lt_of_le (by have := World.block_lt_of_cell? _ _ hw321_1; first | rwa [add_block] at this | exact this) GW324.out))) _).trans (hHeld.2.2.2))))⟩ (fun hHeld => ?_)
          clear hK K
          refine done_ (done_of HT_.out (by kernel_rfl)) ?_
          have hnb28 := NB320_318.out
          have hnc28 := NB318_320.out
          have hnb29 := NB320_319.out
          have hnc29 := NB319_320.out
          have hnb30 := NB320_324.out
          have hnc30 := NB324_320.out
          have hcz31_0 : w25.cell? ⟨gb320, 0, none⟩ = some (.int .i64 x321000_3) := (blk_cell BK320.out 0).trans rfl
          have hcz31_1 : w25.cell? ⟨gb320, 1, none⟩ = some (.int .i64 x321001_3) := (blk_cell BK320.out 1).trans rfl
          have hfz31_0 := blk_frozen BK320.out 0
          have hfz31_1 := blk_frozen BK320.out 1
          have hnb32 := NB324_318.out
          have hnc32 := NB318_324.out
          have hnb33 := NB324_319.out
          have hnc33 := NB319_324.out
          have hcz34_0 : w25.cell? ⟨gb324, 0, none⟩ = some (.int .i64 0) := (blk_cell BK324.out 0).trans rfl
          have hcz34_1 : w25.cell? ⟨gb324, 1, none⟩ = some (.int .i64 0) := (blk_cell BK324.out 1).trans rfl
          have hfz34_0 := blk_frozen BK324.out 0
          have hfz34_1 := blk_frozen BK324.out 1
          try go_wp2
          go_roundg k3
          case measure => have := HK1.out; have := HJ9.out; have := HK3.out; omega
          case rel => exact ⟨(wrap64 (x13_3 + 1)), (ji20), (ji21), (by first | rfl | (simp; done) | (simp [*]; done)), H', ⟨by have := HK1.out; have := HJ9.out; have := HK3.out; omega⟩, ⟨by (with_reducible repeat (first | refine blk_drewN ?_ _ | refine blk_drew ?_ | refine blk_alloc ?_ _)); refine blk_far ?_ NB318_320.out _; (with_reducible repeat (first | refine blk_drewN ?_ _ | refine blk_drew ?_ | refine blk_alloc ?_ _)); refine blk_far ?_ NB318_320.out _; (with_reducible repeat (first | refine blk_drewN ?_ _ | refine blk_drew ?_ | refine blk_alloc ?_ _)); refine blk_far ?_ NB318_324.out _; (with_reducible repeat (first | refine blk_drewN ?_ _ | refine blk_drew ?_ | refine blk_alloc ?_ _)); refine blk_far ?_ NB318_324.out _; (with_reducible repeat (first | refine blk_drewN ?_ _ | refine blk_drew ?_ | refine blk_alloc ?_ _)); exact BK318.out⟩, ⟨by (with_reducible repeat (first | refine blk_drewN ?_ _ | refine blk_drew ?_ | refine blk_alloc ?_ _)); refine blk_far ?_ NB319_320.out _; (with_reducible repeat (first | refine blk_drewN ?_ _ | refine blk_drew ?_ | refine blk_alloc ?_ _)); refine blk_far ?_ NB319_320.out _; (with_reducible repeat (first | refine blk_drewN ?_ _ | refine blk_drew ?_ | refine blk_alloc ?_ _)); refine blk_far ?_ NB319_324.out _; (with_reducible repeat (first | refine blk_drewN ?_ _ | refine blk_drew ?_ | refine blk_alloc ?_ _)); refine blk_far ?_ NB319_324.out _; (with_reducible repeat (first | refine blk_drewN ?_ _ | refine blk_drew ?_ | refine blk_alloc ?_ _)); exact BK319.out⟩, ⟨by (with_reducible repeat (first | refine blk_drewN ?_ _ | refine blk_drew ?_ | refine blk_alloc ?_ _)); refine blk_put (cs := #[.int .i64 ji20, .int .i64 x321001_3]) ?_ 1 _ rfl; (with_reducible repeat (first | refine blk_drewN ?_ _ | refine blk_drew ?_ | refine blk_alloc ?_ _)); refine blk_put (cs := #[.int .i64 x321000_3, .int .i64 x321001_3]) ?_ 0 _ rfl; (with_reducible repeat (first | refine blk_drewN ?_ _ | refine blk_drew ?_ | refine blk_alloc ?_ _)); refine blk_far ?_ NB320_324.out _; (with_reducible repeat (first | refine blk_drewN ?_ _ | refine blk_drew ?_ | refine blk_alloc ?_ _)); refine blk_far ?_ NB320_324.out _; (with_reducible repeat (first | refine blk_drewN ?_ _ | refine blk_drew ?_ | refine blk_alloc ?_ _)); exact BK320.out⟩, ⟨by repeat (first | (with_reducible first | exact HB.out | apply below_alloc | apply pw_below_drewN | apply below_drew1 | refine below_set ?_ GE318.out | refine below_set ?_ GE319.out | refine below_set ?_ GE320.out | refine below_set ?_ GE324.out) | exact HB.out)⟩⟩
         ·rw [if_neg c18] at H
          exact absurd H (by simp)
        ·rw [if_neg c17] at H
         have c17b0 : decide (x13_3 < (l1.length : Int)) = false := decide_eq_false c17
         clear c17
         by_cases c35 : x321000_3 = x11_1
         ·rw [if_pos c35] at H
          have c35b0 : (x321000_3 == x11_1) = true := beq_iff_eq.mpr c35
          have c35b1 : (x321000_3 != x11_1) = false := bne_eq_false_iff_eq.mpr c35
          clear c35
          simp only [Option.some.injEq, Prod.mk.injEq] at H
          obtain ⟨rfl, rfl, rfl⟩ := H
          have hnb36 := NB320_318.out
          have hnc36 := NB318_320.out
          have hnb37 := NB320_319.out
          have hnc37 := NB319_320.out
          have hcz38_0 : wr.cell? ⟨gb320, 0, none⟩ = some (.int .i64 x321000_3) := (blk_cell BK320.out 0).trans rfl
          have hcz38_1 : wr.cell? ⟨gb320, 1, none⟩ = some (.int .i64 x321001_3) := (blk_cell BK320.out 1).trans rfl
          have hfz38_0 := blk_frozen BK320.out 0
          have hfz38_1 := blk_frozen BK320.out 1
          have hnb39 := NB319_318.out
          have hnc39 := NB318_319.out
          have hcz40_0 : wr.cell? ⟨gb319, 0, none⟩ = some (.int .i64 x320000_1) := (blk_cell BK319.out 0).trans rfl
          have hcz40_1 : wr.cell? ⟨gb319, 1, none⟩ = some (.int .i64 x320001_1) := (blk_cell BK319.out 1).trans rfl
          have hfz40_0 := blk_frozen BK319.out 0
          have hfz40_1 := blk_frozen BK319.out 1
          go_wp2
          refine bodyPost_ret (results_ct rfl _ _ gb319 59 #[.int .i64 x321000_3, .int .i64 x321001_3] (0, 0) _ rfl (by (with_reducible repeat (first | refine blk_drewN ?_ _ | refine blk_drew ?_ | refine blk_alloc ?_ _)); refine blk_put (cs := #[.int .i64 x321000_3, .int .i64 x320001_1]) ?_ 1 _ rfl; (with_reducible repeat (first | refine blk_drewN ?_ _ | refine blk_drew ?_ | refine blk_alloc ?_ _)); refine blk_put (cs := #[.int .i64 x320000_1, .int .i64 x320001_1]) ?_ 0 _ rfl; (with_reducible repeat (first | refine blk_drewN ?_ _ | refine blk_drew ?_ | refine blk_alloc ?_ _)); exact BK319.out) Tryz.underlying59 rfl (by kernel_rfl)) rfl ?_
          exact ⟨by first | rfl | (simp [errW_none, errW_some] <;> rfl) | (simp only [← hji5]; first | rfl | (simp [errW_none, errW_some] <;> rfl)) | (simp [*, errW_none, errW_some] <;> rfl), by repeat (first | (with_reducible first | exact HB.out | apply below_alloc | apply pw_below_drewN | apply below_drew1 | refine below_set ?_ GE318.out | refine below_set ?_ GE319.out | refine below_set ?_ GE320.out) | exact HB.out)⟩
         ·rw [if_neg c35] at H
          have c35b0 : (x321000_3 == x11_1) = false := beq_eq_false_iff_ne.mpr c35
          have c35b1 : (x321000_3 != x11_1) = true := bne_iff_ne.mpr c35
          have H' := Aside0.mk H
          clear H
          have hnb41 := NB320_318.out
          have hnc41 := NB318_320.out
          have hnb42 := NB320_319.out
          have hnc42 := NB319_320.out
          have hcz43_0 : wr.cell? ⟨gb320, 0, none⟩ = some (.int .i64 x321000_3) := (blk_cell BK320.out 0).trans rfl
          have hcz43_1 : wr.cell? ⟨gb320, 1, none⟩ = some (.int .i64 x321001_3) := (blk_cell BK320.out 1).trans rfl
          have hfz43_0 := blk_frozen BK320.out 0
          have hfz43_1 := blk_frozen BK320.out 1
          go_wp2
          go_roundg k3
          case measure => have := HK1.out; have := HJ9.out; have := HK3.out; omega
          case rel => exact ⟨(x321000_3), (x320000_1), (x320001_1), (by first | rfl | (simp; done) | (simp [*]; done)), H', ⟨by have := HK1.out; have := HJ9.out; have := HK3.out; omega⟩, ⟨bq BK318.out⟩, ⟨bq BK319.out⟩, ⟨by repeat (first | (with_reducible first | exact HB.out | apply below_alloc | apply pw_below_drewN | apply below_drew1 | refine below_set ?_ GE318.out | refine below_set ?_ GE319.out | refine below_set ?_ GE320.out) | exact HB.out)⟩⟩
     ·replace c12 := Bool.eq_false_iff.mpr c12
      subst c12
      have H1 : (some (0, 0, false)) = some (r1, r2, r3) := by rw [if_neg (show ¬ (false = true) by decide)] at H; exact H
      clear H
      have H := H1
      clear H1
      simp only [Option.some.injEq, Prod.mk.injEq] at H
      obtain ⟨rfl, rfl, rfl⟩ := H
      have hnb44 := NB319_318.out
      have hnc44 := NB318_319.out
      have hcz45_0 : wc.cell? ⟨gb319, 0, none⟩ = some (.int .i64 x320000_1) := (blk_cell BK319.out 0).trans rfl
      have hcz45_1 : wc.cell? ⟨gb319, 1, none⟩ = some (.int .i64 x320001_1) := (blk_cell BK319.out 1).trans rfl
      have hfz45_0 := blk_frozen BK319.out 0
      have hfz45_1 := blk_frozen BK319.out 1
      go_wp2
      refine bodyPost_ret (results_ct rfl _ _ gb319 59 #[.int .i64 0, .int .i64 0] (0, 0) _ rfl (by (with_reducible repeat (first | refine blk_drewN ?_ _ | refine blk_drew ?_ | refine blk_alloc ?_ _)); refine blk_put (cs := #[.int .i64 0, .int .i64 x320001_1]) ?_ 1 _ rfl; (with_reducible repeat (first | refine blk_drewN ?_ _ | refine blk_drew ?_ | refine blk_alloc ?_ _)); refine blk_put (cs := #[.int .i64 x320000_1, .int .i64 x320001_1]) ?_ 0 _ rfl; (with_reducible repeat (first | refine blk_drewN ?_ _ | refine blk_drew ?_ | refine blk_alloc ?_ _)); exact BK319.out) Tryz.underlying59 rfl (by kernel_rfl)) rfl ?_
      exact ⟨by first | rfl | (simp [errW_none, errW_some] <;> rfl) | (simp only [← hji5]; first | rfl | (simp [errW_none, errW_some] <;> rfl)) | (simp [*, errW_none, errW_some] <;> rfl), by repeat (first | (with_reducible first | exact HB.out | apply below_alloc | apply pw_below_drewN | apply below_drew1 | refine below_set ?_ GE318.out | refine below_set ?_ GE319.out) | exact HB.out)⟩
end Go.Proofs.YtgakfgedaipdmaaGreatDoor.P
