/- A part of the proof. -/
import Derived.Test.YtgakfgedaipdmaaGreatDoorQ09
namespace Go.Proofs.YtgakfgedaipdmaaGreatDoor.P
open Go.RowKit Go.Proofs.YtgakfgedaipdmaaGreatDoorW.PrintWords Go.Proofs.YtgakfgedaipdmaaGreatDoorW.PrintLast Go.Proofs.YtgakfgedaipdmaaGreatDoorW.PrintMore
attribute [local go_sem] max2_int min2_int max_two min_two max_three min_three max_four min_four
set_option linter.unusedVariables false
set_option linter.unusedSimpArgs false
def acreageref02_Fit.f (l0 : List (S59)) : Option ((List (S59)) × Int) := if (l0.length : Int) > 64 then (some (([] : List (S59)), 2)) else (if (l0.length : Int) > 0 then (if 0 < (l0.length : Int) then (if ((rd_T59 l0 0).f0) < (-1099511627776) then (some (([] : List (S59)), 2)) else (if 0 ≤ (wrap64 ((l0.length : Int) - 1)) then (if (wrap64 ((l0.length : Int) - 1)) < (l0.length : Int) then (if ((rd_T59 l0 (wrap64 ((l0.length : Int) - 1))).f1) > 1099511627776 then (some (([] : List (S59)), 2)) else (some (l0, 0))) else (none)) else (none))) else (none)) else (some (l0, 0)))
set_option maxHeartbeats 8000000 in
set_option maxRecDepth 100000 in
theorem acreageref02_Fit.calls (P0_ : Nat → Prop) (u9000_ : Value) (l0 : List (S59)) (r1 : List (S59)) (r2 : Int) (w0 w : World) (hB : Below w0.heap.size w0 w) (ho0 : Kd.R k59 59 w w0.heap.size P0_ u9000_ l0) (h : acreageref02_Fit.f l0 = some (r1, r2)) :
  Calls Tryz.prog 81 #[u9000_] w fun e w' => ∃ v0_ : Value, e = .returned (.tuple #[v0_, .int .i64 r2]) ∧ Kd.R k59 59 w' w0.heap.size (fun k_ => (P0_ k_ ∨ w.heap.size ≤ k_)) v0_ r1 ∧ Below w0.heap.size w0 w' ∧ Kept w w' (fun k_ => P0_ k_) := by
 have HO0 := Aside0.mk (show Kd.R k59 59 w w0.heap.size (fun k_ => (P0_ k_ ∨ w.heap.size ≤ k_)) u9000_ l0 from Kd.R_mono ho0 (fun k_ hk => (.inl hk)))
 have HK := Aside0.mk (Kept.refl w (fun k_ => P0_ k_))
 have HW0 := Aside0.mk hB.size
 have HB := Aside0.mk hB
 clear hB
 have H : (if (l0.length : Int) > 64 then (some (([] : List (S59)), 2)) else (if (l0.length : Int) > 0 then (if 0 < (l0.length : Int) then (if ((rd_T59 l0 0).f0) < (-1099511627776) then (some (([] : List (S59)), 2)) else (if 0 ≤ (wrap64 ((l0.length : Int) - 1)) then (if (wrap64 ((l0.length : Int) - 1)) < (l0.length : Int) then (if ((rd_T59 l0 (wrap64 ((l0.length : Int) - 1))).f1) > 1099511627776 then (some (([] : List (S59)), 2)) else (some (l0, 0))) else (none)) else (none))) else (none)) else (some (l0, 0)))) = some (r1, r2) := h
 clear h
 by_cases c2 : (l0.length : Int) > 64
 ·rw [if_pos c2] at H
  have c2b0 : decide (64 < (l0.length : Int)) = true := decide_eq_true c2
  have c2b1 : decide (64 < l0.length) = true := decide_eq_true (by omega)
  clear c2
  simp only [Option.some.injEq, Prod.mk.injEq] at H
  obtain ⟨rfl, rfl⟩ := H
  obtain ⟨Ao3, co3, eo3⟩ := Kd.R_slice HO0.out
  subst eo3
  go_enter Tryz.func81, Tryz.ntmps81
  go_wp2
  go_ret2
  exact ⟨_, by first | rfl | (simp [errW_none, errW_some] <;> rfl) | (simp [*, errW_none, errW_some] <;> rfl), by first | exact Kd.R_nil _ _ _ _ _ | exact Kd.N_nil _ _ _ _ _ | exact Kd.V_nil _ _ _ _ _ | exact Kd.Q_nil _ _ _ _ _ | exact Kd.S_nil _ _ _ _ _, by repeat (first | (with_reducible first | exact HB.out | apply below_alloc | apply pw_below_drewN | apply below_drew1) | exact HB.out), by repeat (first | (with_reducible first | exact HK.out | apply Kept.alloc | apply Kept.drewN | apply Kept.drew) | exact HK.out)⟩
 ·rw [if_neg c2] at H
  have c2b0 : decide (64 < (l0.length : Int)) = false := decide_eq_false c2
  have c2b1 : decide (64 < l0.length) = false := decide_eq_false (by omega)
  clear c2
  by_cases c4 : (l0.length : Int) > 0
  ·rw [if_pos c4] at H
   have c4b0 : decide (0 < (l0.length : Int)) = true := decide_eq_true c4
   have c4b1 : decide (0 < l0.length) = true := decide_eq_true (by omega)
   clear c4
   by_cases c5 : 0 < (l0.length : Int)
   ·rw [if_pos c5] at H
    have c5b0 : decide (0 < (l0.length : Int)) = true := decide_eq_true c5
    have c5b1 : decide (0 < l0.length) = true := decide_eq_true (by omega)
    clear c5
    by_cases c6 : ((rd_T59 l0 0).f0) < (-1099511627776)
    ·rw [if_pos c6] at H
     have c6b0 : decide (((rd_T59 l0 0).f0) < (-1099511627776)) = true := decide_eq_true c6
     clear c6
     simp only [Option.some.injEq, Prod.mk.injEq] at H
     obtain ⟨rfl, rfl⟩ := H
     obtain ⟨Ao7, co7, eo7⟩ := Kd.R_slice HO0.out
     subst eo7
     have p338 : 0 ≤ (0 : Int) := (by omega)
     have q338 : 0 < (l0.length : Int) := of_decide_eq_true aq
     obtain ⟨ad338, e338, hx338_0, hx338_1⟩ := at_T59 (Kd.R_reads' HO0.out).2.2 0 p338 q338
     cases e338
     have qi338 : (0 < l0.length) = True := eq_true (by omega)
     (try rw [show ((0 : Int)).toNat = 0 from rfl] at hx338_0)
     (try rw [show 0 * 2 = 0 from rfl] at hx338_0)
     (try rw [Addr.add_zero'] at hx338_0)
     (try rw [show ((0 : Int)).toNat = 0 from rfl] at hx338_1)
     (try rw [show 0 * 2 = 0 from rfl] at hx338_1)
     (try rw [Addr.add_zero'] at hx338_1)
     replace p338 := eq_true p338
     replace q338 := eq_true q338
     go_enter Tryz.func81, Tryz.ntmps81
     go_wp2
     go_ret2
     exact ⟨_, by first | rfl | (simp [errW_none, errW_some] <;> rfl) | (simp [*, errW_none, errW_some] <;> rfl), by first | exact Kd.R_nil _ _ _ _ _ | exact Kd.N_nil _ _ _ _ _ | exact Kd.V_nil _ _ _ _ _ | exact Kd.Q_nil _ _ _ _ _ | exact Kd.S_nil _ _ _ _ _, by repeat (first | (with_reducible first | exact HB.out | apply below_alloc | apply pw_below_drewN | apply below_drew1) | exact HB.out), by repeat (first | (with_reducible first | exact HK.out | apply Kept.alloc | apply Kept.drewN | apply Kept.drew) | exact HK.out)⟩
    ·rw [if_neg c6] at H
     have c6b0 : decide (((rd_T59 l0 0).f0) < (-1099511627776)) = false := decide_eq_false c6
     clear c6
     obtain ⟨ji8, hji8⟩ : ∃ j_ : Int, (wrap64 ((l0.length : Int) - 1)) = j_ := ⟨_, rfl⟩
     replace H : (if 0 ≤ (ji8) then (if (ji8) < (l0.length : Int) then (if ((rd_T59 l0 (ji8)).f1) > 1099511627776 then (some (([] : List (S59)), 2)) else (some (l0, 0))) else (none)) else (none)) = some (r1, r2) := by first | (rw [hji8] at H; exact H) | (simp only [hji8] at H ⊢; exact H)
     have hji8w : (IntKind.i64.wrap ((l0.length : Int) - 1)) = ji8 := (i64_w _).trans hji8
     by_cases c9 : 0 ≤ (ji8)
     ·rw [if_pos c9] at H
      have c9b0 : decide (0 ≤ (ji8)) = true := decide_eq_true c9
      clear c9
      by_cases c10 : (ji8) < (l0.length : Int)
      ·rw [if_pos c10] at H
       have c10b0 : decide ((ji8) < (l0.length : Int)) = true := decide_eq_true c10
       clear c10
       by_cases c11 : ((rd_T59 l0 (ji8)).f1) > 1099511627776
       ·rw [if_pos c11] at H
        have c11b0 : decide (1099511627776 < ((rd_T59 l0 (ji8)).f1)) = true := decide_eq_true c11
        clear c11
        simp only [Option.some.injEq, Prod.mk.injEq] at H
        obtain ⟨rfl, rfl⟩ := H
        obtain ⟨Ao12, co12, eo12⟩ := Kd.R_slice HO0.out
        subst eo12
        have p338 : 0 ≤ (0 : Int) := (by omega)
        have q338 : 0 < (l0.length : Int) := of_decide_eq_true aq
        obtain ⟨ad338, e338, hx338_0, hx338_1⟩ := at_T59 (Kd.R_reads' HO0.out).2.2 0 p338 q338
        cases e338
        have qi338 : (0 < l0.length) = True := eq_true (by omega)
        (try rw [show ((0 : Int)).toNat = 0 from rfl] at hx338_0)
        (try rw [show 0 * 2 = 0 from rfl] at hx338_0)
        (try rw [Addr.add_zero'] at hx338_0)
        (try rw [show ((0 : Int)).toNat = 0 from rfl] at hx338_1)
        (try rw [show 0 * 2 = 0 from rfl] at hx338_1)
        (try rw [Addr.add_zero'] at hx338_1)
        replace p338 := eq_true p338
        replace q338 := eq_true q338
        have p339 : 0 ≤ ((ji8) : Int) := of_decide_eq_true aq
        have q339 : (ji8) < (l0.length : Int) := of_decide_eq_true aq
        obtain ⟨ad339, e339, hx339_0, hx339_1⟩ := at_T59 (Kd.R_reads' HO0.out).2.2 (ji8) p339 q339
        obtain rfl : ad338 = ad339 := (by injection e339)
        replace p339 := eq_true p339
        replace q339 := eq_true q339
        go_enter Tryz.func81, Tryz.ntmps81
        go_wp2
        go_ret2
        exact ⟨_, by first | rfl | (simp [errW_none, errW_some] <;> rfl) | (simp only [← hji8]; first | rfl | (simp [errW_none, errW_some] <;> rfl)) | (simp [*, errW_none, errW_some] <;> rfl), by first | exact Kd.R_nil _ _ _ _ _ | exact Kd.N_nil _ _ _ _ _ | exact Kd.V_nil _ _ _ _ _ | exact Kd.Q_nil _ _ _ _ _ | exact Kd.S_nil _ _ _ _ _, by repeat (first | (with_reducible first | exact HB.out | apply below_alloc | apply pw_below_drewN | apply below_drew1) | exact HB.out), by repeat (first | (with_reducible first | exact HK.out | apply Kept.alloc | apply Kept.drewN | apply Kept.drew) | exact HK.out)⟩
       ·rw [if_neg c11] at H
        have c11b0 : decide (1099511627776 < ((rd_T59 l0 (ji8)).f1)) = false := decide_eq_false c11
        clear c11
        simp only [Option.some.injEq, Prod.mk.injEq] at H
        obtain ⟨rfl, rfl⟩ := H
        obtain ⟨Ao13, co13, eo13⟩ := Kd.R_slice HO0.out
        subst eo13
        have p338 : 0 ≤ (0 : Int) := (by omega)
        have q338 : 0 < (l0.length : Int) := of_decide_eq_true aq
        obtain ⟨ad338, e338, hx338_0, hx338_1⟩ := at_T59 (Kd.R_reads' HO0.out).2.2 0 p338 q338
        cases e338
        have qi338 : (0 < l0.length) = True := eq_true (by omega)
        (try rw [show ((0 : Int)).toNat = 0 from rfl] at hx338_0)
        (try rw [show 0 * 2 = 0 from rfl] at hx338_0)
        (try rw [Addr.add_zero'] at hx338_0)
        (try rw [show ((0 : Int)).toNat = 0 from rfl] at hx338_1)
        (try rw [show 0 * 2 = 0 from rfl] at hx338_1)
        (try rw [Addr.add_zero'] at hx338_1)
        replace p338 := eq_true p338
        replace q338 := eq_true q338
        have p339 : 0 ≤ ((ji8) : Int) := of_decide_eq_true aq
        have q339 : (ji8) < (l0.length : Int) := of_decide_eq_true aq
        obtain ⟨ad339, e339, hx339_0, hx339_1⟩ := at_T59 (Kd.R_reads' HO0.out).2.2 (ji8) p339 q339
        obtain rfl : ad338 = ad339 := (by injection e339)
        replace p339 := eq_true p339
        replace q339 := eq_true q339
        go_enter Tryz.func81, Tryz.ntmps81
        go_wp2
        go_ret2
        exact ⟨_, by first | rfl | (simp [errW_none, errW_some] <;> rfl) | (simp only [← hji8]; first | rfl | (simp [errW_none, errW_some] <;> rfl)) | (simp [*, errW_none, errW_some] <;> rfl), by (with_reducible repeat (first | apply Kd.R_alloc | apply Kd.R_drewN | apply Kd.R_drew)); exact HO0.out, by repeat (first | (with_reducible first | exact HB.out | apply below_alloc | apply pw_below_drewN | apply below_drew1) | exact HB.out), by repeat (first | (with_reducible first | exact HK.out | apply Kept.alloc | apply Kept.drewN | apply Kept.drew) | exact HK.out)⟩
      ·rw [if_neg c10] at H
       exact absurd H (by simp)
     ·rw [if_neg c9] at H
      exact absurd H (by simp)
   ·rw [if_neg c5] at H
    exact absurd H (by simp)
  ·rw [if_neg c4] at H
   have c4b0 : decide (0 < (l0.length : Int)) = false := decide_eq_false c4
   have c4b1 : decide (0 < l0.length) = false := decide_eq_false (by omega)
   clear c4
   simp only [Option.some.injEq, Prod.mk.injEq] at H
   obtain ⟨rfl, rfl⟩ := H
   obtain ⟨Ao14, co14, eo14⟩ := Kd.R_slice HO0.out
   subst eo14
   go_enter Tryz.func81, Tryz.ntmps81
   go_wp2
   go_ret2
   exact ⟨_, by first | rfl | (simp [errW_none, errW_some] <;> rfl) | (simp [*, errW_none, errW_some] <;> rfl), by (with_reducible repeat (first | apply Kd.R_alloc | apply Kd.R_drewN | apply Kd.R_drew)); exact HO0.out, by repeat (first | (with_reducible first | exact HB.out | apply below_alloc | apply pw_below_drewN | apply below_drew1) | exact HB.out), by repeat (first | (with_reducible first | exact HK.out | apply Kept.alloc | apply Kept.drewN | apply Kept.drew) | exact HK.out)⟩
mutual
def acreageref05_numbers.l0 : Nat → List Bool → List (S59) → Int → Option ((List (S59)) × Int)
  | 0, _, _, _ => none
  | k + 1, x0, x4, x5 => if x5 < (x0.length : Int) then (if 0 ≤ x5 then (if rdOf false x0 x5 = true then (if (x4.length : Int) > 0 then (if 0 ≤ (wrap64 ((x4.length : Int) - 1)) then (if (wrap64 ((x4.length : Int) - 1)) < (x4.length : Int) then (acreageref05_numbers.j1 k x0 x4 x5 (x4.length : Int) (((rd_T59 x4 (wrap64 ((x4.length : Int) - 1))).f1) == (wrap64 (x5 - 1)))) else (none)) else (none)) else (acreageref05_numbers.j1 k x0 x4 x5 (x4.length : Int) false)) else (acreageref05_numbers.j1 k x0 x4 x5 (x4.length : Int) false)) else (none)) else ((acreageref02_Fit.f x4).bind fun bt340 => (some (bt340.1, bt340.2)))
def acreageref05_numbers.j1 : Nat → List Bool → List (S59) → Int → Int → Bool → Option ((List (S59)) × Int)
  | 0, _, _, _, _, _ => none
  | k + 1, x0, x4, x5, x6, x33 => if x33 = true then (if 0 ≤ (wrap64 (x6 - 1)) then (if (wrap64 (x6 - 1)) < (x4.length : Int) then (acreageref05_numbers.l0 k x0 (x4.set ((wrap64 (x6 - 1)) : Int).toNat (⟨(rd_T59 x4 (wrap64 (x6 - 1))).f0, x5⟩ : S59)) (wrap64 (x5 + 1))) else (none)) else (none)) else (if 0 ≤ x5 then (if x5 < (x0.length : Int) then (if rdOf false x0 x5 = true then (if x4.length < 8796093022208 then (acreageref05_numbers.l0 k x0 (x4 ++ [(⟨x5, x5⟩ : S59)]) (wrap64 (x5 + 1))) else (none)) else (acreageref05_numbers.l0 k x0 x4 (wrap64 (x5 + 1)))) else (none)) else (none))
end
def acreageref05_numbers.f (k : Nat) (l0 : List Bool) : Option ((List (S59)) × Int) := acreageref05_numbers.l0 k l0 ([] : List (S59)) 1
theorem acreageref05_numbers.mono_l : ∀ k, (∀ y0 y1 y2, LeO (acreageref05_numbers.l0 k y0 y1 y2) (acreageref05_numbers.l0 (k + 1) y0 y1 y2)) ∧ (∀ y0 y1 y2 y3 y4, LeO (acreageref05_numbers.j1 k y0 y1 y2 y3 y4) (acreageref05_numbers.j1 (k + 1) y0 y1 y2 y3 y4))
 |0 => ⟨fun _ _ _ r h => by simp [acreageref05_numbers.l0] at h, fun _ _ _ _ _ r h => by simp [acreageref05_numbers.j1] at h⟩
 |k + 1 => by
  obtain ⟨ih0, ih1⟩ := acreageref05_numbers.mono_l k
  refine ⟨?_, ?_⟩
  ·intro y0 y1 y2
   unfold acreageref05_numbers.l0
   repeat' first
   |(with_reducible exact ih0 _ _ _)
   |(with_reducible exact ih1 _ _ _ _ _)
   |(with_reducible exact LeO.refl _)
   |(with_reducible exact LeO.none _)
   |(with_reducible refine LeO.ite ?_ ?_)
   |(with_reducible refine LeO.bind ?_ (fun _ => ?_))
   |exact ih0 _ _ _
   |exact ih1 _ _ _ _ _
   |exact LeO.none _
   |refine LeO.ite ?_ ?_
   |refine LeO.bind ?_ (fun _ => ?_)
  ·intro y0 y1 y2 y3 y4
   unfold acreageref05_numbers.j1
   repeat' first
   |(with_reducible exact ih0 _ _ _)
   |(with_reducible exact ih1 _ _ _ _ _)
   |(with_reducible exact LeO.refl _)
   |(with_reducible exact LeO.none _)
   |(with_reducible refine LeO.ite ?_ ?_)
   |(with_reducible refine LeO.bind ?_ (fun _ => ?_))
   |exact ih0 _ _ _
   |exact ih1 _ _ _ _ _
   |exact LeO.none _
   |refine LeO.ite ?_ ?_
   |refine LeO.bind ?_ (fun _ => ?_)
theorem acreageref05_numbers.mono : ∀ a0 k, LeO (acreageref05_numbers.f k a0) (acreageref05_numbers.f (k + 1) a0) := by
 intro a0 k
 obtain ⟨ih0, ih1⟩ := acreageref05_numbers.mono_l k
 unfold acreageref05_numbers.f
 repeat' first
   |(with_reducible exact ih0 _ _ _)
   |(with_reducible exact ih1 _ _ _ _ _)
   |(with_reducible exact LeO.refl _)
   |(with_reducible exact LeO.none _)
   |(with_reducible refine LeO.ite ?_ ?_)
   |(with_reducible refine LeO.bind ?_ (fun _ => ?_))
   |exact ih0 _ _ _
   |exact ih1 _ _ _ _ _
   |exact LeO.none _
   |refine LeO.ite ?_ ?_
   |refine LeO.bind ?_ (fun _ => ?_)
set_option maxHeartbeats 8000000 in
set_option maxRecDepth 100000 in
theorem acreageref05_numbers.calls (k : Nat) (A0 : Option Addr) (c0 : Nat) (l0 : List Bool) (r1 : List (S59)) (r2 : Int) (w : World) (hr0 : Kd.C Kd.bool w A0 l0.length l0) (hc0 : l0.length ≤ c0) (h : acreageref05_numbers.f k l0 = some (r1, r2)) :
  Calls Tryz.prog 67 #[.slice A0 l0.length c0] w fun e w' => ∃ v0_ : Value, e = .returned (.tuple #[v0_, .int .i64 r2]) ∧ Kd.R k59 59 w' w.heap.size (fun _ => True) v0_ r1 ∧ Below w.heap.size w w' := by
 have hu59 := Tryz.underlying59
 have HR0 := Aside0.mk hr0
 have HC0 := Aside0.mk hc0
 clear hr0 hc0
 have HB := Aside0.mk (Below.refl w.heap.size w)
 have H : (acreageref05_numbers.l0 k l0 ([] : List (S59)) 1) = some (r1, r2) := h
 clear h
 have H' := Aside0.mk H
 clear H
 go_enter Tryz.func67, Tryz.ntmps67
 go_wp2
 go_loopg [4, 5] k (fun kq v4 v5 w' => ∃ (x4_1 : List (S59)) (x5_1 : Int), v5 = .int .i64 x5_1 ∧ Aside0 (acreageref05_numbers.l0 kq l0 x4_1 x5_1 = some (r1, r2)) ∧ Aside0 (kq ≤ k) ∧ Aside0 (Kd.R k59 59 w' w.heap.size (fun _ => True) v4 x4_1) ∧ Aside0 (Below w.heap.size w w'))
 case atStart => exact ⟨(([] : List (S59))), (1), (by first | rfl | (simp; done) | (simp [*]; done)), H', ⟨Nat.le_refl _⟩, ⟨by first | exact Kd.R_nil _ _ _ _ _ | exact Kd.N_nil _ _ _ _ _ | exact Kd.V_nil _ _ _ _ _ | exact Kd.Q_nil _ _ _ _ _ | exact Kd.S_nil _ _ _ _ _⟩, ⟨by repeat (first | (with_reducible first | exact HB.out | apply below_alloc | apply pw_below_drewN | apply below_drew1) | exact HB.out)⟩⟩
 case round =>
  clear H'
  obtain ⟨x4_1, x5_1, rfl, HA, HK1, HO_4, HB⟩ := hrel
  cases gk with
  |zero => exact absurd HA.out (by simp [acreageref05_numbers.l0])
  |succ k1 =>
   have H := HA.out
   clear HA
   simp only [acreageref05_numbers.l0] at H
   by_cases c2 : x5_1 < (l0.length : Int)
   ·rw [if_pos c2] at H
    have c2b0 : decide (x5_1 < (l0.length : Int)) = true := decide_eq_true c2
    clear c2
    have HC3 := Aside0.mk H
    clear H
    obtain ⟨Ao4, co4, eo4⟩ := Kd.R_slice HO_4.out
    subst eo4
    go_upto_region 6 with (fail)
    go_cut [33] (fun v33 wc => ∃ (kq : Nat) (x33_2 : Bool), v33 = .bool x33_2 ∧ Aside0 (acreageref05_numbers.j1 kq l0 x4_1 x5_1 (x4_1.length : Int) x33_2 = some (r1, r2)) ∧ Aside0 (kq ≤ k1) ∧ Aside0 (Kd.R k59 59 wc w.heap.size (fun _ => True) (.slice Ao4 x4_1.length co4) x4_1) ∧ Aside0 (Below w.heap.size w wc))
    case first =>
     have H := HC3.out
     clear HC3
     by_cases c5 : 0 ≤ x5_1
     ·rw [if_pos c5] at H
      have c5b0 : decide (0 ≤ x5_1) = true := decide_eq_true c5
      clear c5
      (first | rw [c5b0] | (simp only [i64_w, i32_w]; rw [c5b0]) | skip)
      obtain ⟨bq6, hbq6⟩ : ∃ b_ : Bool, b_ = (rdOf false l0 x5_1) := ⟨_, rfl⟩
      replace H : (if bq6 = true then (if (x4_1.length : Int) > 0 then (if 0 ≤ (wrap64 ((x4_1.length : Int) - 1)) then (if (wrap64 ((x4_1.length : Int) - 1)) < (x4_1.length : Int) then (acreageref05_numbers.j1 k1 l0 x4_1 x5_1 (x4_1.length : Int) (((rd_T59 x4_1 (wrap64 ((x4_1.length : Int) - 1))).f1) == (wrap64 (x5_1 - 1)))) else (none)) else (none)) else (acreageref05_numbers.j1 k1 l0 x4_1 x5_1 (x4_1.length : Int) false)) else (acreageref05_numbers.j1 k1 l0 x4_1 x5_1 (x4_1.length : Int) false)) = some (r1, r2) := by rw [← hbq6] at H; exact H
      have Nbq6 := Aside0.mk hbq6
      clear hbq6
      by_cases c7 : bq6 = true
      ·subst c7
       have H1 : (if (x4_1.length : Int) > 0 then (if 0 ≤ (wrap64 ((x4_1.length : Int) - 1)) then (if (wrap64 ((x4_1.length : Int) - 1)) < (x4_1.length : Int) then (acreageref05_numbers.j1 k1 l0 x4_1 x5_1 (x4_1.length : Int) (((rd_T59 x4_1 (wrap64 ((x4_1.length : Int) - 1))).f1) == (wrap64 (x5_1 - 1)))) else (none)) else (none)) else (acreageref05_numbers.j1 k1 l0 x4_1 x5_1 (x4_1.length : Int) false)) = some (r1, r2) := by rw [if_pos rfl] at H; exact H
       clear H
       have H := H1
       clear H1
       by_cases c8 : (x4_1.length : Int) > 0
       ·rw [if_pos c8] at H
        have c8b0 : decide (0 < (x4_1.length : Int)) = true := decide_eq_true c8
        have c8b1 : decide (0 < x4_1.length) = true := decide_eq_true (by omega)
        clear c8
        obtain ⟨ji9, hji9⟩ : ∃ j_ : Int, (wrap64 ((x4_1.length : Int) - 1)) = j_ := ⟨_, rfl⟩
        replace H : (if 0 ≤ (ji9) then (if (ji9) < (x4_1.length : Int) then (acreageref05_numbers.j1 k1 l0 x4_1 x5_1 (x4_1.length : Int) (((rd_T59 x4_1 (ji9)).f1) == (wrap64 (x5_1 - 1)))) else (none)) else (none)) = some (r1, r2) := by first | (rw [hji9] at H; exact H) | (simp only [hji9] at H ⊢; exact H)
        have hji9w : (IntKind.i64.wrap ((x4_1.length : Int) - 1)) = ji9 := (i64_w _).trans hji9
        by_cases c10 : 0 ≤ (ji9)
        ·rw [if_pos c10] at H
         have c10b0 : decide (0 ≤ (ji9)) = true := decide_eq_true c10
         clear c10
         by_cases c11 : (ji9) < (x4_1.length : Int)
         ·rw [if_pos c11] at H
          have c11b0 : decide ((ji9) < (x4_1.length : Int)) = true := decide_eq_true c11
          clear c11
          have H' := Aside0.mk H
          clear H
          have p344 : 0 ≤ (x5_1 : Int) := of_decide_eq_true aq
          have q344 : x5_1 < (l0.length : Int) := of_decide_eq_true aq
          obtain ⟨ad344, e344, hx344_0⟩ := Kd.at_bool HR0.out x5_1 p344 q344
          (try rw [← Nbq6.out] at hx344_0)
          cases e344
          replace hx344_0 := (HB.out.cell (World.block_lt_of_cell? w _ hx344_0)).trans hx344_0
          replace p344 := eq_true p344
          replace q344 := eq_true q344
          have p345 : 0 ≤ ((ji9) : Int) := of_decide_eq_true aq
          have q345 : (ji9) < (x4_1.length : Int) := of_decide_eq_true aq
          obtain ⟨ad345, e345, hx345_0, hx345_1⟩ := at_T59 (Kd.R_reads' HO_4.out).2.2 (ji9) p345 q345
          cases e345
          replace p345 := eq_true p345
          replace q345 := eq_true q345
          go_wp2
          go_meet
          case rel => exact ⟨_, ((((rd_T59 x4_1 (ji9)).f1) == (wrap64 (x5_1 - 1)))), (by first | rfl | (simp; done) | (simp only [← hji9] <;> (first | rfl | simp)) | (simp [*]; done)), H', ⟨by have := HK1.out; first | omega | exact Nat.le_refl _⟩, ⟨rq HO_4.out⟩, ⟨by repeat (first | (with_reducible first | exact HB.out | apply below_alloc | apply pw_below_drewN | apply below_drew1) | exact HB.out)⟩⟩
         ·rw [if_neg c11] at H
          exact absurd H (by simp)
        ·rw [if_neg c10] at H
         exact absurd H (by simp)
       ·rw [if_neg c8] at H
        have c8b0 : decide (0 < (x4_1.length : Int)) = false := decide_eq_false c8
        have c8b1 : decide (0 < x4_1.length) = false := decide_eq_false (by omega)
        clear c8
        have H' := Aside0.mk H
        clear H
        have p344 : 0 ≤ (x5_1 : Int) := of_decide_eq_true aq
        have q344 : x5_1 < (l0.length : Int) := of_decide_eq_true aq
        obtain ⟨ad344, e344, hx344_0⟩ := Kd.at_bool HR0.out x5_1 p344 q344
        (try rw [← Nbq6.out] at hx344_0)
        cases e344
        replace hx344_0 := (HB.out.cell (World.block_lt_of_cell? w _ hx344_0)).trans hx344_0
        replace p344 := eq_true p344
        replace q344 := eq_true q344
        go_wp2
        go_meet
        case rel => exact ⟨_, (false), (by first | rfl | (simp; done) | (simp [*]; done)), H', ⟨by have := HK1.out; first | omega | exact Nat.le_refl _⟩, ⟨rq HO_4.out⟩, ⟨by repeat (first | (with_reducible first | exact HB.out | apply below_alloc | apply pw_below_drewN | apply below_drew1) | exact HB.out)⟩⟩
      ·replace c7 := Bool.eq_false_iff.mpr c7
       subst c7
       have H1 : (acreageref05_numbers.j1 k1 l0 x4_1 x5_1 (x4_1.length : Int) false) = some (r1, r2) := by rw [if_neg (show ¬ (false = true) by decide)] at H; exact H
       clear H
       have H := H1
       clear H1
       have H' := Aside0.mk H
       clear H
       have p344 : 0 ≤ (x5_1 : Int) := of_decide_eq_true aq
       have q344 : x5_1 < (l0.length : Int) := of_decide_eq_true aq
       obtain ⟨ad344, e344, hx344_0⟩ := Kd.at_bool HR0.out x5_1 p344 q344
       (try rw [← Nbq6.out] at hx344_0)
       cases e344
       replace hx344_0 := (HB.out.cell (World.block_lt_of_cell? w _ hx344_0)).trans hx344_0
       replace p344 := eq_true p344
       replace q344 := eq_true q344
       go_wp2
       go_meet
       case rel => exact ⟨_, (false), (by first | rfl | (simp; done) | (simp [*]; done)), H', ⟨by have := HK1.out; first | omega | exact Nat.le_refl _⟩, ⟨rq HO_4.out⟩, ⟨by repeat (first | (with_reducible first | exact HB.out | apply below_alloc | apply pw_below_drewN | apply below_drew1) | exact HB.out)⟩⟩
     ·rw [if_neg c5] at H
      exact absurd H (by simp)
    case rest =>
     clear HC3
     try clear c1
     try clear c2
     try clear c2b0
     try clear p2
     try clear p3
     try clear q3
     try clear hx3
     try clear c5
     try clear c5b0
     try clear c6
     try clear p6
     try clear q6
     try clear c7
     try clear c8
     try clear c8b0
     try clear c8b1
     try clear c10
     try clear c10b0
     try clear c11
     try clear c11b0
     try clear hx344_0
     try clear hx345_0
     try clear hx345_1
     try clear p344
     try clear p345
     try clear q344
     try clear q345
     obtain ⟨kq, x33_2, rfl, HA, HJ2, HO_4, HB⟩ := hcut
     cases kq with
     |zero => exact absurd HA.out (by simp [acreageref05_numbers.j1])
     |succ kj2 =>
      have H := HA.out
      clear HA
      simp only [acreageref05_numbers.j1] at H
      by_cases c12 : x33_2 = true
      ·subst c12
       have H1 : (if 0 ≤ (wrap64 ((x4_1.length : Int) - 1)) then (if (wrap64 ((x4_1.length : Int) - 1)) < (x4_1.length : Int) then (acreageref05_numbers.l0 kj2 l0 (x4_1.set ((wrap64 ((x4_1.length : Int) - 1)) : Int).toNat (⟨(rd_T59 x4_1 (wrap64 ((x4_1.length : Int) - 1))).f0, x5_1⟩ : S59)) (wrap64 (x5_1 + 1))) else (none)) else (none)) = some (r1, r2) := by rw [if_pos rfl] at H; exact H
       clear H
       have H := H1
       clear H1
       obtain ⟨ji13, hji13⟩ : ∃ j_ : Int, (wrap64 ((x4_1.length : Int) - 1)) = j_ := ⟨_, rfl⟩
       replace H : (if 0 ≤ (ji13) then (if (ji13) < (x4_1.length : Int) then (acreageref05_numbers.l0 kj2 l0 (x4_1.set ((ji13) : Int).toNat (⟨(rd_T59 x4_1 (ji13)).f0, x5_1⟩ : S59)) (wrap64 (x5_1 + 1))) else (none)) else (none)) = some (r1, r2) := by first | (rw [hji13] at H; exact H) | (simp only [hji13] at H ⊢; exact H)
       have hji13w : (IntKind.i64.wrap ((x4_1.length : Int) - 1)) = ji13 := (i64_w _).trans hji13
       by_cases c14 : 0 ≤ (ji13)
       ·rw [if_pos c14] at H
        have c14b0 : decide (0 ≤ (ji13)) = true := decide_eq_true c14
        clear c14
        by_cases c15 : (ji13) < (x4_1.length : Int)
        ·rw [if_pos c15] at H
         have c15b0 : decide ((ji13) < (x4_1.length : Int)) = true := decide_eq_true c15
         clear c15
         obtain ⟨y346, hy346⟩ : ∃ y_ : List (S59), y_ = (x4_1.set ((ji13) : Int).toNat (⟨(rd_T59 x4_1 (ji13)).f0, x5_1⟩ : S59)) := ⟨_, rfl⟩
         replace H : (acreageref05_numbers.l0 kj2 l0 y346 (wrap64 (x5_1 + 1))) = some (r1, r2) := by first | (rw [hy346]; with_reducible exact H) | (have H2_ := (Option.bind_some _ _).symm.trans H; rw [hy346]; with_reducible exact H2_) | (have H2_ := (Option.bind_some _ _).symm.trans H; with_reducible exact H2_) | with_reducible exact H | (rw [hy346]; exact H) | exact H
         have Ny346 := Aside0.mk hy346
         clear hy346
         have H' := Aside0.mk H
         clear H
         have p16 : 0 ≤ ((ji13) : Int) := of_decide_eq_true aq
         have q16 : ((ji13) : Int) < ((x4_1.length : Int) : Int) := of_decide_eq_true aq
         obtain ⟨go16, co16, eo16, gb16, gl16, cl16, HG16⟩ := Kd.R_form HO_4.out (by omega)
         (first | cases eo16 | (injection eo16 with ea_ en_ ec_; (first | subst ea_ | (injection ea_ with ea_; subst ea_)); subst ec_; clear en_))
         have GB16 := Aside0.mk gb16
         have GG16 := Aside0.mk HG16
         clear gb16 gl16 HG16
         obtain ⟨ce16, hcl16, hM16, hcc16, hfr16⟩ := Kd.R_elem HO_4.out z59 ((ji13) : Int) p16 q16
         obtain rfl := k59_openM hM16
         have hx16_0 : wc.cell? ⟨go16, ((ji13) : Int).toNat * 2, none⟩ = some (.int .i64 ((rd_T59 x4_1 (ji13)).f0)) := hcc16 0 _ rfl
         have hx16_1 : wc.cell? ⟨go16, ((ji13) : Int).toNat * 2 + 1, none⟩ = some (.int .i64 ((rd_T59 x4_1 (ji13)).f1)) := hcc16 1 _ rfl
         have hf16_0 : wc.frozen? ⟨go16, ((ji13) : Int).toNat * 2, none⟩ = false := hfr16 0
         have hf16_1 : wc.frozen? ⟨go16, ((ji13) : Int).toNat * 2 + 1, none⟩ = false := hfr16 1
         clear hcl16 hcc16 hfr16 hM16
         replace p16 := eq_true p16
         replace q16 := eq_true q16
         have HX17 := Aside0.mk (show Kd.R k59 59 wc w.heap.size (fun _ => True) (.slice (some ⟨go16, 0, none⟩) x4_1.length co4) x4_1 from (rq HO_4.out))
         obtain ⟨ce17, hcl17, hM17, hcc17, hfr17⟩ := Kd.R_elem HX17.out z59 ((ji13) : Int) (of_decide_eq_true aq) (by have h_ : ((ji13) : Int) < ((x4_1.length : Int) : Int) := of_decide_eq_true aq; first | exact h_ | (have e_ := (Kd.R_reads' HO_4.out).1; omega) | simpa using h_)
         obtain rfl := k59_openM hM17
         have HP17 := Kd.R_seg HX17.out ((ji13) : Int) (of_decide_eq_true aq) (by have h_ : ((ji13) : Int) < ((x4_1.length : Int) : Int) := of_decide_eq_true aq; first | exact h_ | (have e_ := (Kd.R_reads' HO_4.out).1; omega) | simpa using h_) (seg := [.int .i64 x5_1]) (j := 1) hcl17 hcc17 (show 2 ≤ 2 from by decide) (x' := (⟨(rd_T59 x4_1 (ji13)).f0, x5_1⟩ : S59)) (k59_mkM _ _ _ (⟨(rd_T59 x4_1 (ji13)).f0, x5_1⟩ : S59) ) (fun _ hk => hk)
         have hx17_1 := hcc17 1 _ rfl
         (try simp only [show (k59).sz = 2 from rfl, Nat.mul_one, Nat.add_zero] at hx17_1)
         have hf17_1 := hfr17 1
         (try simp only [show (k59).sz = 2 from rfl, Nat.mul_one, Nat.add_zero] at hf17_1)
         clear hcl17 hcc17 hfr17 hM17
         go_wp2_with (first | ((with_reducible refine gate_store (t := 3) (p := 39) rfl ?_); refine store_event (t := 3) (p := 39) (v := ?vo_w18) (w1 := (wc.setCell ⟨go16, ((ji13) : Int).toNat * 2 + 1, none⟩ (.int .i64 x5_1))) ?hg ?ho ?hn ?hr ?_; (case ho => rfl); (case hg => rfl); (case hn => rfl); (case hr => first | (go_simp; done) | (go_simp; rfl)); intro w18 hw; have hg : wc.grownBy w18 (some go16) := (by rw [hw]; exact HP17.2); have hp_ : Kd.R k59 59 w18 w.heap.size (fun _ => True) (.slice (some ⟨go16, 0, none⟩) x4_1.length co4) y346 := (by rw [hw, Ny346.out]; exact HP17.1); clear HP17; have n0_ := Aside0.mk (hp_); have n1_ := Aside0.mk ((by rw [hw]; exact below_set (HB.out) GB16.out : Below w.heap.size w w18)); clear HO_4; clear HB; have HO_4 := n0_; have HB := n1_; clear n0_ n1_; clear hg hw hp_))
         go_roundg kj2
         case measure => have := HK1.out; have := HJ2.out; omega
         case rel => exact ⟨(y346), (wrap64 (x5_1 + 1)), (by first | rfl | (simp; done) | (simp [*]; done)), H', ⟨by have := HK1.out; have := HJ2.out; omega⟩, ⟨rq HO_4.out⟩, ⟨by repeat (first | (with_reducible first | exact HB.out | apply below_alloc | apply pw_below_drewN | apply below_drew1) | exact HB.out)⟩⟩
        ·rw [if_neg c15] at H
         exact absurd H (by simp)
       ·rw [if_neg c14] at H
        exact absurd H (by simp)
      ·replace c12 := Bool.eq_false_iff.mpr c12
       subst c12
       have H1 : (if 0 ≤ x5_1 then (if x5_1 < (l0.length : Int) then (if rdOf false l0 x5_1 = true then (if x4_1.length < 8796093022208 then (acreageref05_numbers.l0 kj2 l0 (x4_1 ++ [(⟨x5_1, x5_1⟩ : S59)]) (wrap64 (x5_1 + 1))) else (none)) else (acreageref05_numbers.l0 kj2 l0 x4_1 (wrap64 (x5_1 + 1)))) else (none)) else (none)) = some (r1, r2) := by rw [if_neg (show ¬ (false = true) by decide)] at H; exact H
       clear H
       have H := H1
       clear H1
       by_cases c19 : 0 ≤ x5_1
       ·rw [if_pos c19] at H
        have c19b0 : decide (0 ≤ x5_1) = true := decide_eq_true c19
        clear c19
        by_cases c20 : x5_1 < (l0.length : Int)
        ·rw [if_pos c20] at H
         have c20b0 : decide (x5_1 < (l0.length : Int)) = true := decide_eq_true c20
         clear c20
         obtain ⟨bq21, hbq21⟩ : ∃ b_ : Bool, b_ = (rdOf false l0 x5_1) := ⟨_, rfl⟩
         replace H : (if bq21 = true then (if x4_1.length < 8796093022208 then (acreageref05_numbers.l0 kj2 l0 (x4_1 ++ [(⟨x5_1, x5_1⟩ : S59)]) (wrap64 (x5_1 + 1))) else (none)) else (acreageref05_numbers.l0 kj2 l0 x4_1 (wrap64 (x5_1 + 1)))) = some (r1, r2) := by rw [← hbq21] at H; exact H
         have Nbq21 := Aside0.mk hbq21
         clear hbq21
         by_cases c22 : bq21 = true
         ·subst c22
          have H1 : (if x4_1.length < 8796093022208 then (acreageref05_numbers.l0 kj2 l0 (x4_1 ++ [(⟨x5_1, x5_1⟩ : S59)]) (wrap64 (x5_1 + 1))) else (none)) = some (r1, r2) := by rw [if_pos rfl] at H; exact H
          clear H
          have H := H1
          clear H1
          by_cases c23 : x4_1.length < 8796093022208
          ·rw [if_pos c23] at H
           have LMc23 := Aside0.mk c23
           clear c23
           obtain ⟨y348, hy348⟩ : ∃ y_ : List (S59), y_ = (x4_1 ++ [(⟨x5_1, x5_1⟩ : S59)]) := ⟨_, rfl⟩
           replace H : (acreageref05_numbers.l0 kj2 l0 y348 (wrap64 (x5_1 + 1))) = some (r1, r2) := by first | (rw [hy348]; with_reducible exact H) | (have H2_ := (Option.bind_some _ _).symm.trans H; rw [hy348]; with_reducible exact H2_) | (have H2_ := (Option.bind_some _ _).symm.trans H; with_reducible exact H2_) | with_reducible exact H | (rw [hy348]; exact H) | exact H
           have Ny348 := Aside0.mk hy348
           clear hy348
           have H' := Aside0.mk H
           clear H
           have p347 : 0 ≤ (x5_1 : Int) := of_decide_eq_true aq
           have q347 : x5_1 < (l0.length : Int) := of_decide_eq_true aq
           obtain ⟨ad347, e347, hx347_0⟩ := Kd.at_bool HR0.out x5_1 p347 q347
           (try rw [← Nbq21.out] at hx347_0)
           cases e347
           replace hx347_0 := (HB.out.cell (World.block_lt_of_cell? w _ hx347_0)).trans hx347_0
           replace p347 := eq_true p347
           replace q347 := eq_true q347
           go_wp2_with (first | ((with_reducible refine gate_builtin (b := .append) (xs := #[.tmp 44, .tmp 48]) rfl ?_); at_builtin; refine Kd.R_append k59 (w0 := w) w.heap.size rfl (.tmp 44) (.tmp 48) 26 59 (.agg #[(.int .i64 0), (.int .i64 0)]) 16 rfl Tryz.underlying26 info59 rfl (by decide) (by omega) (.slice Ao4 x4_1.length co4) x4_1 (⟨x5_1, x5_1⟩ : S59) [.int .i64 x5_1, .int .i64 x5_1] (fun _ => True) (fun _ => False) rfl rfl ?aP (fun _ hk => hk.elim) ?aF ?aO ?aB ?aS ?aL ?_; (case aP => exact k59_mkM _ _ _ (⟨x5_1, x5_1⟩ : S59)); (case aB => exact (bw HB.out)); (case aF => exact (fun _ _ => trivial)); (case aO => exact (rq HO_4.out)); (case aS => exact (below_size (bw HB.out))); (case aL => have := LMc23.out; omega); intro v349 w24 ho hb hg hat; rw [← Ny348.out] at ho; have n0_ := Aside0.mk (hb); have n1_ := Aside0.mk (ho); clear HB; clear HO_4; have HB := n0_; have HO350 := n1_; clear n0_ n1_; clear ho hb hg hat))
           go_roundg kj2
           case measure => have := HK1.out; have := HJ2.out; omega
           case rel => exact ⟨(y348), (wrap64 (x5_1 + 1)), (by first | rfl | (simp; done) | (simp [*]; done)), H', ⟨by have := HK1.out; have := HJ2.out; omega⟩, ⟨rq HO350.out⟩, ⟨by repeat (first | (with_reducible first | exact HB.out | apply below_alloc | apply pw_below_drewN | apply below_drew1) | exact HB.out)⟩⟩
          ·rw [if_neg c23] at H
           exact absurd H (by simp)
         ·replace c22 := Bool.eq_false_iff.mpr c22
          subst c22
          have H1 : (acreageref05_numbers.l0 kj2 l0 x4_1 (wrap64 (x5_1 + 1))) = some (r1, r2) := by rw [if_neg (show ¬ (false = true) by decide)] at H; exact H
          clear H
          have H := H1
          clear H1
          have H' := Aside0.mk H
          clear H
          have p347 : 0 ≤ (x5_1 : Int) := of_decide_eq_true aq
          have q347 : x5_1 < (l0.length : Int) := of_decide_eq_true aq
          obtain ⟨ad347, e347, hx347_0⟩ := Kd.at_bool HR0.out x5_1 p347 q347
          (try rw [← Nbq21.out] at hx347_0)
          cases e347
          replace hx347_0 := (HB.out.cell (World.block_lt_of_cell? w _ hx347_0)).trans hx347_0
          replace p347 := eq_true p347
          replace q347 := eq_true q347
          go_wp2
          go_roundg kj2
          case measure => have := HK1.out; have := HJ2.out; omega
          case rel => exact ⟨(x4_1), (wrap64 (x5_1 + 1)), (by first | rfl | (simp; done) | (simp [*]; done)), H', ⟨by have := HK1.out; have := HJ2.out; omega⟩, ⟨rq HO_4.out⟩, ⟨by repeat (first | (with_reducible first | exact HB.out | apply below_alloc | apply pw_below_drewN | apply below_drew1) | exact HB.out)⟩⟩
        ·rw [if_neg c20] at H
         exact absurd H (by simp)
       ·rw [if_neg c19] at H
        exact absurd H (by simp)
   ·rw [if_neg c2] at H
    have c2b0 : decide (x5_1 < (l0.length : Int)) = false := decide_eq_false c2
    clear c2
    replace H := Option.bind_eq_some_iff.mp H
    obtain ⟨⟨t340, t343⟩, A250, H⟩ := H
    replace H : (some (t340, t343)) = some (r1, r2) := H
    have A25 := Aside0.mk A250
    clear A250
    simp only [Option.some.injEq, Prod.mk.injEq] at H
    obtain ⟨rfl, rfl⟩ := H
    obtain ⟨Ao26, co26, eo26⟩ := Kd.R_slice HO_4.out
    subst eo26
    go_wp2_with (first | ((with_reducible refine gate_callee (f := 81) rfl ?_); refine goesL_ (some 51) rfl rfl Tryz.func81 (by kernel_rfl) rfl #[.slice Ao26 x4_1.length co26] rfl mq ?_; (with_reducible refine (acreageref02_Fit.calls (fun k_ => some k_ = (.slice Ao26 x4_1.length co26 : Value).ownBlock) (.slice Ao26 x4_1.length co26) x4_1 t340 t343 w _ ?side1 ?side2 A25.out).mono ?_); (case side1 => repeat (first | (with_reducible first | exact HB.out | apply below_alloc | apply pw_below_drewN | apply below_drew1) | exact HB.out)); (case side2 => exact Kd.R_tight rfl HO_4.out); rintro e w27 ⟨v341, rfl, ho0, hb, hkp⟩; refine ⟨_, rfl, ?_⟩; have n0_ := Aside0.mk (Kd.R_mono (ok' := fun k_ => True) ho0 (fun k_ hk_ => trivial)); have n1_ := Aside0.mk (hb); clear HB; clear HO_4; have HO342 := n0_; have HB := n1_; clear n0_ n1_; (try clear hb); (try clear hkp); (try clear ho0)))
    go_ret2
    exact ⟨_, by first | rfl | (simp [errW_none, errW_some] <;> rfl) | (simp [*, errW_none, errW_some] <;> rfl), by (with_reducible repeat (first | apply Kd.R_alloc | apply Kd.R_drewN | apply Kd.R_drew)); exact HO342.out, by repeat (first | (with_reducible first | exact HB.out | apply below_alloc | apply pw_below_drewN | apply below_drew1) | exact HB.out)⟩
mutual
def acreageref05_Constants.l0 : Nat → List (S61) → List Bool → Int → Int → Int → Option ((List (S59)) × Int)
  | 0, _, _, _, _, _ => none
  | k + 1, x1, x7, x8, x352000, x352001 => if x8 ≤ 1000 then (if 0 ≤ x8 then (if x8 < (x7.length : Int) then (acreageref05_Constants.l1 k x1 (x7.set (x8 : Int).toNat true) x8 0 x352000 x352001) else (none)) else (none)) else ((acreageref05_numbers.f k x7).bind fun bt357 => (some (bt357.1, bt357.2)))
def acreageref05_Constants.l1 : Nat → List (S61) → List Bool → Int → Int → Int → Int → Option ((List (S59)) × Int)
  | 0, _, _, _, _, _, _ => none
  | k + 1, x1, x7, x8, x9, x352000, x352001 => if x9 < (x1.length : Int) then (if 0 ≤ x8 then (if x8 < (x7.length : Int) then (if rdOf false x7 x8 = true then (if 0 ≤ x9 then ((acreageref05_fits.f k x352000 x352001 ((rd_T61 x1 x9).f0.f0) ((rd_T61 x1 x9).f0.f1) ((rd_T61 x1 x9).f1) ((rd_T61 x1 x9).f2) x8).bind fun t364 => (acreageref05_Constants.l1 k x1 (x7.set (x8 : Int).toNat t364) x8 (wrap64 (x9 + 1)) x352000 x352001)) else (none)) else (acreageref05_Constants.l1 k x1 (x7.set (x8 : Int).toNat false) x8 (wrap64 (x9 + 1)) x352000 x352001)) else (none)) else (none)) else (acreageref05_Constants.l0 k x1 x7 (wrap64 (x8 + 1)) x352000 x352001)
end
def acreageref05_Constants.f (k : Nat) (a0_0 : Int) (a0_1 : Int) (l1 : List (S61)) : Option ((List (S59)) × Int) := (acreageref05_Valid.f a0_0 a0_1).bind fun t352 => (if t352 = true then ((acreageref05_trials.f k a0_0 a0_1 l1).bind fun t353 => (if t353 = 0 then (if 1001 ≤ 281474976710656 then (acreageref05_Constants.l0 k l1 (List.replicate 1001 false) 1 a0_0 a0_1) else (none)) else (some (([] : List (S59)), t353)))) else (some (([] : List (S59)), 50)))
theorem acreageref05_Constants.mono_l : ∀ k, (∀ y0 y1 y2 y3 y4, LeO (acreageref05_Constants.l0 k y0 y1 y2 y3 y4) (acreageref05_Constants.l0 (k + 1) y0 y1 y2 y3 y4)) ∧ (∀ y0 y1 y2 y3 y4 y5, LeO (acreageref05_Constants.l1 k y0 y1 y2 y3 y4 y5) (acreageref05_Constants.l1 (k + 1) y0 y1 y2 y3 y4 y5))
 |0 => ⟨fun _ _ _ _ _ r h => by simp [acreageref05_Constants.l0] at h, fun _ _ _ _ _ _ r h => by simp [acreageref05_Constants.l1] at h⟩
 |k + 1 => by
  obtain ⟨ih0, ih1⟩ := acreageref05_Constants.mono_l k
  refine ⟨?_, ?_⟩
  ·intro y0 y1 y2 y3 y4
   unfold acreageref05_Constants.l0
   repeat' first
   |(with_reducible exact ih0 _ _ _ _ _)
   |(with_reducible exact ih1 _ _ _ _ _ _)
   |(with_reducible exact acreageref05_fits.mono _ _ _ _ _ _ _ _)
   |(with_reducible exact acreageref05_numbers.mono _ _)
   |(with_reducible exact acreageref05_trials.mono _ _ _ _)
   |(with_reducible exact LeO.refl _)
   |(with_reducible exact LeO.none _)
   |(with_reducible refine LeO.ite ?_ ?_)
   |(with_reducible refine LeO.bind ?_ (fun _ => ?_))
   |exact ih0 _ _ _ _ _
   |exact ih1 _ _ _ _ _ _
   |exact acreageref05_fits.mono _ _ _ _ _ _ _ _
   |exact acreageref05_numbers.mono _ _
   |exact acreageref05_trials.mono _ _ _ _
   |exact LeO.none _
   |refine LeO.ite ?_ ?_
   |refine LeO.bind ?_ (fun _ => ?_)
  ·intro y0 y1 y2 y3 y4 y5
   unfold acreageref05_Constants.l1
   repeat' first
   |(with_reducible exact ih0 _ _ _ _ _)
   |(with_reducible exact ih1 _ _ _ _ _ _)
   |(with_reducible exact acreageref05_fits.mono _ _ _ _ _ _ _ _)
   |(with_reducible exact acreageref05_numbers.mono _ _)
   |(with_reducible exact acreageref05_trials.mono _ _ _ _)
   |(with_reducible exact LeO.refl _)
   |(with_reducible exact LeO.none _)
   |(with_reducible refine LeO.ite ?_ ?_)
   |(with_reducible refine LeO.bind ?_ (fun _ => ?_))
   |exact ih0 _ _ _ _ _
   |exact ih1 _ _ _ _ _ _
   |exact acreageref05_fits.mono _ _ _ _ _ _ _ _
   |exact acreageref05_numbers.mono _ _
   |exact acreageref05_trials.mono _ _ _ _
   |exact LeO.none _
   |refine LeO.ite ?_ ?_
   |refine LeO.bind ?_ (fun _ => ?_)
theorem acreageref05_Constants.mono : ∀ a0 a1 a2 k, LeO (acreageref05_Constants.f k a0 a1 a2) (acreageref05_Constants.f (k + 1) a0 a1 a2) := by
 intro a0 a1 a2 k
 obtain ⟨ih0, ih1⟩ := acreageref05_Constants.mono_l k
 unfold acreageref05_Constants.f
 repeat' first
   |(with_reducible exact ih0 _ _ _ _ _)
   |(with_reducible exact ih1 _ _ _ _ _ _)
   |(with_reducible exact acreageref05_fits.mono _ _ _ _ _ _ _ _)
   |(with_reducible exact acreageref05_numbers.mono _ _)
   |(with_reducible exact acreageref05_trials.mono _ _ _ _)
   |(with_reducible exact LeO.refl _)
   |(with_reducible exact LeO.none _)
   |(with_reducible refine LeO.ite ?_ ?_)
   |(with_reducible refine LeO.bind ?_ (fun _ => ?_))
   |exact ih0 _ _ _ _ _
   |exact ih1 _ _ _ _ _ _
   |exact acreageref05_fits.mono _ _ _ _ _ _ _ _
   |exact acreageref05_numbers.mono _ _
   |exact acreageref05_trials.mono _ _ _ _
   |exact LeO.none _
   |refine LeO.ite ?_ ?_
   |refine LeO.bind ?_ (fun _ => ?_)
def acreageref05_Constants.T14 : Bool × List (List Nat × List Nat) := (true, [([], []), ([], []), ([], []), ([], []), ([2, 3], [2, 3]), ([4], [4]), ([5], [5]), ([6], [6]), ([6], [6]), ([6], [6]), ([8, 9, 6], [6, 8, 9]), ([10, 6], [6, 10]), ([6], [6]), ([7, 11, 12, 6, 6], [6, 7, 11, 12]), ([6, 13], [6, 13]), ([0, 1, 0, 1, 2, 3, 4, 5, 6, 7, 8, 9, 10, 11, 12, 13, 14], [0, 1]), ([15, 14, 13, 0, 1, 2, 3, 4, 5, 6, 7, 8, 9, 10, 11, 12, 13, 14], [14, 15])])
def acreageref05_Constants.B14 : List Nat := [0, 0, 0, 0, 12, 28, 60, 124, 124, 124, 892, 1916, 124, 8188, 16380, 32767, 65535]
theorem acreageref05_Constants.tab14 : rtab .any (opsOf Tryz.f16 14) = acreageref05_Constants.T14 := by kernel_rfl
theorem acreageref05_Constants.bits14 : waitsOk acreageref05_Constants.T14.2 acreageref05_Constants.B14 = true := by kernel_rfl
set_option maxHeartbeats 8000000 in
set_option maxRecDepth 100000 in
theorem acreageref05_Constants.calls (k : Nat) (a0_0 : Int) (a0_1 : Int) (A1 : Option Addr) (c1 : Nat) (l1 : List (S61)) (r1 : List (S59)) (r2 : Int) (w : World) (hr1 : Kd.C k61 w A1 l1.length l1) (hc1 : l1.length ≤ c1) (h : acreageref05_Constants.f k a0_0 a0_1 l1 = some (r1, r2)) :
  Calls Tryz.prog 16 #[.agg #[.int .i64 a0_0, .int .i64 a0_1], .slice A1 l1.length c1] w fun e w' => ∃ v0_ : Value, e = .returned (.tuple #[v0_, .int .i64 r2]) ∧ Kd.R k59 59 w' w.heap.size (fun _ => True) v0_ r1 ∧ Below w.heap.size w w' := by
 have hu23 := Tryz.underlying23
 have hu61 := Tryz.underlying61
 have HR1 := Aside0.mk hr1
 have HC1 := Aside0.mk hc1
 clear hr1 hc1
 have HB := Aside0.mk (Below.refl w.heap.size w)
 have H : ((acreageref05_Valid.f a0_0 a0_1).bind fun t352 => (if t352 = true then ((acreageref05_trials.f k a0_0 a0_1 l1).bind fun t353 => (if t353 = 0 then (if 1001 ≤ 281474976710656 then (acreageref05_Constants.l0 k l1 (List.replicate 1001 false) 1 a0_0 a0_1) else (none)) else (some (([] : List (S59)), t353)))) else (some (([] : List (S59)), 50)))) = some (r1, r2) := h
 clear h
 replace H := Option.bind_eq_some_iff.mp H
 obtain ⟨t352, A30, H⟩ := H
 replace H : (if t352 = true then ((acreageref05_trials.f k a0_0 a0_1 l1).bind fun t353 => (if t353 = 0 then (if 1001 ≤ 281474976710656 then (acreageref05_Constants.l0 k l1 (List.replicate 1001 false) 1 a0_0 a0_1) else (none)) else (some (([] : List (S59)), t353)))) else (some (([] : List (S59)), 50))) = some (r1, r2) := H
 have A3 := Aside0.mk A30
 clear A30
 by_cases c4 : t352 = true
 ·subst c4
  have H1 : ((acreageref05_trials.f k a0_0 a0_1 l1).bind fun t353 => (if t353 = 0 then (if 1001 ≤ 281474976710656 then (acreageref05_Constants.l0 k l1 (List.replicate 1001 false) 1 a0_0 a0_1) else (none)) else (some (([] : List (S59)), t353)))) = some (r1, r2) := by rw [if_pos rfl] at H; exact H
  clear H
  have H := H1
  clear H1
  replace H := Option.bind_eq_some_iff.mp H
  obtain ⟨t353, A50, H⟩ := H
  replace H : (if t353 = 0 then (if 1001 ≤ 281474976710656 then (acreageref05_Constants.l0 k l1 (List.replicate 1001 false) 1 a0_0 a0_1) else (none)) else (some (([] : List (S59)), t353))) = some (r1, r2) := H
  have A5 := Aside0.mk A50
  clear A50
  by_cases c6 : t353 = 0
  ·rw [if_pos c6] at H
   have c6b0 : (t353 == 0) = true := beq_iff_eq.mpr c6
   have c6b1 : (t353 != 0) = false := bne_eq_false_iff_eq.mpr c6
   clear c6
   by_cases c7 : 1001 ≤ 281474976710656
   ·rw [if_pos c7] at H
    have c7b0 := eq_true c7
    have c7b1 : decide (1001 ≤ 281474976710656) = true := decide_eq_true c7
    clear c7
    obtain ⟨y354, hy354⟩ : ∃ y_ : List Bool, y_ = (List.replicate 1001 false) := ⟨_, rfl⟩
    replace H : (acreageref05_Constants.l0 k l1 y354 1 a0_0 a0_1) = some (r1, r2) := by first | (rw [hy354]; with_reducible exact H) | (have H2_ := (Option.bind_some _ _).symm.trans H; rw [hy354]; with_reducible exact H2_) | (have H2_ := (Option.bind_some _ _).symm.trans H; with_reducible exact H2_) | with_reducible exact H | (rw [hy354]; exact H) | exact H
    have Ny354 := Aside0.mk hy354
    clear hy354
    have H' := Aside0.mk H
    clear H
    go_enter Tryz.func16, Tryz.ntmps16
    go_wp2_with (first | ((with_reducible refine gate_dst (N := 2) rfl ?_); refine box_event ?hg (N := 2) ?hd (cs := #[.int .i64 a0_0, .int .i64 a0_1]) (t := 23) ?hr ?_; (case hd => rfl); (case hg => rfl); (case hr => first | (go_simp; done) | (go_simp; rfl)); intro gb351 hg w8 hbox hb; have n0_ := Aside0.mk (below_step (bw HB.out) hb); have n1_ := Aside0.mk (hbox); have n2_ := Aside0.mk ((by rw [hg]; exact (below_size (bw HB.out)) : w.heap.size ≤ gb351)); have n3_ := Aside0.mk ((by rw [hg]; exact (below_size (bw HB.out)) : w.heap.size ≤ gb351)); clear HB; have HB := n0_; have BK351 := n1_; have GW351 := n2_; have GE351 := n3_; clear n0_ n1_ n2_ n3_; clear hb hbox hg; have hcz9_0 : w8.cell? ⟨gb351, 0, none⟩ = some (.int .i64 a0_0) := (blk_cell BK351.out 0).trans rfl; have hcz9_1 : w8.cell? ⟨gb351, 1, none⟩ = some (.int .i64 a0_1) := (blk_cell BK351.out 1).trans rfl; have hfz9_0 := blk_frozen BK351.out 0; have hfz9_1 := blk_frozen BK351.out 1) | ((with_reducible refine gate_callee (f := 64) rfl ?_); refine goesL_ (some 11) rfl rfl Tryz.func64 (by kernel_rfl) rfl #[.agg #[.int .i64 a0_0, .int .i64 a0_1]] rfl mq ?_; (with_reducible refine (acreageref05_Valid.calls a0_0 a0_1 true _ A3.out).mono ?_); rintro e w10 ⟨rfl, hb⟩; refine ⟨_, rfl, ?_⟩; have n0_ := Aside0.mk (blk_below (g := gb351) (o := .cells #[.int .i64 a0_0, .int .i64 a0_1] 23 (0, 0)) (bq BK351.out) hb); have n1_ := Aside0.mk (below_step (by repeat (first | (with_reducible first | exact HB.out | apply below_alloc | apply pw_below_drewN | apply below_drew1 | refine below_set ?_ GE351.out) | exact HB.out)) hb); clear BK351; clear HB; have BK351 := n0_; have HB := n1_; clear n0_ n1_; (try clear hb); (try clear hb2); (try clear hk); (try clear hi); have hcz11_0 : w10.cell? ⟨gb351, 0, none⟩ = some (.int .i64 a0_0) := (blk_cell BK351.out 0).trans rfl; have hcz11_1 : w10.cell? ⟨gb351, 1, none⟩ = some (.int .i64 a0_1) := (blk_cell BK351.out 1).trans rfl; have hfz11_0 := blk_frozen BK351.out 0; have hfz11_1 := blk_frozen BK351.out 1) | ((with_reducible refine gate_callee (f := 65) rfl ?_); refine goesL_ (some 15) rfl rfl Tryz.func65 (by kernel_rfl) rfl #[.agg #[.int .i64 a0_0, .int .i64 a0_1], .slice A1 l1.length c1] rfl mq ?_; (with_reducible refine (acreageref05_trials.calls k a0_0 a0_1 _ _ l1 t353 _ ?side1 ?side2 A5.out).mono ?_); (case side1 => repeat (first | exact (Kd.C_below HR1.out HB.out) | (with_reducible refine Kd.C_alloc ?_ _) | (with_reducible refine Kd.C_drewN ?_ _) | (with_reducible refine Kd.C_drew ?_))); (case side2 => exact HC1.out); rintro e w12 ⟨rfl, hb⟩; refine ⟨_, rfl, ?_⟩; have n0_ := Aside0.mk (blk_below (g := gb351) (o := .cells #[.int .i64 a0_0, .int .i64 a0_1] 23 (0, 0)) (bq BK351.out) hb); have n1_ := Aside0.mk (below_step (by repeat (first | (with_reducible first | exact HB.out | apply below_alloc | apply pw_below_drewN | apply below_drew1 | refine below_set ?_ GE351.out) | exact HB.out)) hb); clear BK351; clear HB; have BK351 := n0_; have HB := n1_; clear n0_ n1_; (try clear hb); (try clear hb2); (try clear hk); (try clear hi)) | ((with_reducible refine gate_dst (N := 19) rfl ?_); refine Kd.R_make Kd.bool _ 4 rfl (N := 19) rfl 99 _ _ rfl 1001 rfl rfl Tryz.underlying99 (.bool false) 1 info4 rfl (by decide) (by omega) false (ok := fun _ => True) (okp := fun _ => True) rfl (fun _ hk => hk) trivial (by omega) (by omega) (Below.refl _ _) (Nat.le_refl _) ?_; intro v355 w13 ho14 hb hg_ hnew_; clear hg_ hnew_; (first | rw [← Ny354.out] at ho14 | (simp only [Int.reduceToNat] at ho14; rw [← Ny354.out] at ho14)); have n0_ := Aside0.mk (Kd.R_lower ho14 (below_size (by repeat (first | (with_reducible first | exact HB.out | apply below_alloc | apply pw_below_drewN | apply below_drew1 | refine below_set ?_ GE351.out) | exact HB.out)))); have n1_ := Aside0.mk (blk_below (g := gb351) (o := .cells #[.int .i64 a0_0, .int .i64 a0_1] 23 (0, 0)) (bq BK351.out) hb); have n2_ := Aside0.mk (below_step (by repeat (first | (with_reducible first | exact HB.out | apply below_alloc | apply pw_below_drewN | apply below_drew1 | refine below_set ?_ GE351.out) | exact HB.out)) hb); clear BK351; clear HB; have HO356 := n0_; have BK351 := n1_; have HB := n2_; clear n0_ n1_ n2_; clear hb ho14))
    go_loopg [8] k (fun kq v8 w' => ∃ (x7_1 : List Bool) (x8_1 : Int), v8 = .int .i64 x8_1 ∧ Aside0 (acreageref05_Constants.l0 kq l1 x7_1 x8_1 a0_0 a0_1 = some (r1, r2)) ∧ Aside0 (kq ≤ k) ∧ Aside0 (Kd.R Kd.bool 4 w' w.heap.size (fun _ => True) v355 x7_1) ∧ Aside0 (w'.heap[gb351]? = some (.cells #[.int .i64 a0_0, .int .i64 a0_1] 23 (0, 0))) ∧ Aside0 (Below w.heap.size w w'))
    case atStart => exact ⟨(y354), (1), (by first | rfl | (simp; done) | (simp [*]; done)), H', ⟨Nat.le_refl _⟩, ⟨rq HO356.out⟩, ⟨bq BK351.out⟩, ⟨by repeat (first | (with_reducible first | exact HB.out | apply below_alloc | apply pw_below_drewN | apply below_drew1 | refine below_set ?_ GE351.out) | exact HB.out)⟩⟩
    case round =>
     clear H'
     try clear c1
     try clear p2
     try clear c4
     try clear c6
     try clear c6b0
     try clear c6b1
     try clear c7
     try clear c7b0
     try clear c7b1
     try clear hcz11_0
     try clear hcz11_1
     try clear hcz9_0
     try clear hcz9_1
     try clear hfz11_0
     try clear hfz11_1
     try clear hfz9_0
     try clear hfz9_1
     obtain ⟨x7_1, x8_1, rfl, HA, HK1, HO_7, BK351, HB⟩ := hrel
     cases gk with
     |zero => exact absurd HA.out (by simp [acreageref05_Constants.l0])
     |succ k1 =>
      have H := HA.out
      clear HA
      simp only [acreageref05_Constants.l0] at H
      by_cases c15 : x8_1 ≤ 1000
      ·rw [if_pos c15] at H
       have c15b0 : decide (x8_1 ≤ 1000) = true := decide_eq_true c15
       clear c15
       by_cases c16 : 0 ≤ x8_1
       ·rw [if_pos c16] at H
        have c16b0 : decide (0 ≤ x8_1) = true := decide_eq_true c16
        clear c16
        by_cases c17 : x8_1 < (x7_1.length : Int)
        ·rw [if_pos c17] at H
         have c17b0 : decide (x8_1 < (x7_1.length : Int)) = true := decide_eq_true c17
         clear c17
         obtain ⟨y361, hy361⟩ : ∃ y_ : List Bool, y_ = (x7_1.set (x8_1 : Int).toNat true) := ⟨_, rfl⟩
         replace H : (acreageref05_Constants.l1 k1 l1 y361 x8_1 0 a0_0 a0_1) = some (r1, r2) := by first | (rw [hy361]; with_reducible exact H) | (have H2_ := (Option.bind_some _ _).symm.trans H; rw [hy361]; with_reducible exact H2_) | (have H2_ := (Option.bind_some _ _).symm.trans H; with_reducible exact H2_) | with_reducible exact H | (rw [hy361]; exact H) | exact H
         have Ny361 := Aside0.mk hy361
         clear hy361
         have H' := Aside0.mk H
         clear H
         have p18 : 0 ≤ (x8_1 : Int) := of_decide_eq_true aq
         have q18 : (x8_1 : Int) < ((x7_1.length : Int) : Int) := of_decide_eq_true aq
         obtain ⟨go18, co18, eo18, gb18, gl18, cl18, HG18⟩ := Kd.R_form HO_7.out (by omega)
         (first | cases eo18 | (injection eo18 with ea_ en_ ec_; (first | subst ea_ | (injection ea_ with ea_; subst ea_)); subst ec_; clear en_))
         have GB18 := Aside0.mk gb18
         have GG18 := Aside0.mk HG18
         clear gb18 gl18 HG18
         obtain ⟨hx18_0, hf18_0⟩ := Kd.R_celln false HO_7.out (x8_1 : Int) p18 q18
         replace p18 := eq_true p18
         replace q18 := eq_true q18
         have HP19 := Kd.R_putg HO_7.out (x8_1 : Int) true
         go_wp2_with (first | ((with_reducible refine gate_store (t := 4) (p := 26) rfl ?_); refine store_event (t := 4) (p := 26) (v := ?vo_w20) (w1 := (wr.setCell ⟨go18, (x8_1 : Int).toNat, none⟩ (.bool true))) ?hg ?ho ?hn ?hr ?_; (case ho => rfl); (case hg => rfl); (case hn => rfl); (case hr => first | (go_simp; done) | (go_simp; rfl)); intro w20 hw; have hg : wr.grownBy w20 (some go18) := (by rw [hw]; exact HP19.2); have hp_ : Kd.R Kd.bool 4 w20 w.heap.size (fun _ => True) (.slice (some ⟨go18, 0, none⟩) x7_1.length co18) y361 := (by rw [hw, Ny361.out]; exact HP19.1); clear HP19; have n0_ := Aside0.mk (hp_); have n1_ := Aside0.mk (blk_grown (g := gb351) (o := .cells #[.int .i64 a0_0, .int .i64 a0_1] 23 (0, 0)) (bq BK351.out) hg (by first | exact Kd.R_ne HO_7.out BK351.out (by decide) | exact fun e_ => absurd rfl (HO_7.out.1 _ e_.symm).2 | exact fun e_ => absurd rfl (HO_7.out.1 _ e_.symm).1.2)); have n2_ := Aside0.mk ((by rw [hw]; exact below_set (HB.out) GB18.out : Below w.heap.size w w20)); clear HO_7; clear BK351; clear HB; have HO_7 := n0_; have BK351 := n1_; have HB := n2_; clear n0_ n1_ n2_; clear hg hw hp_))
         go_loopg [9] k1 (fun kq v9 w' => ∃ (x7_2 : List Bool) (x9_2 : Int), v9 = .int .i64 x9_2 ∧ Aside0 (acreageref05_Constants.l1 kq l1 x7_2 x8_1 x9_2 a0_0 a0_1 = some (r1, r2)) ∧ Aside0 (kq ≤ k1) ∧ Aside0 (Kd.R Kd.bool 4 w' w.heap.size (fun _ => True) (.slice (some ⟨go18, 0, none⟩) x7_1.length co18) x7_2) ∧ Aside0 (w'.heap[gb351]? = some (.cells #[.int .i64 a0_0, .int .i64 a0_1] 23 (0, 0))) ∧ Aside0 (Below w.heap.size w w'))
         case atStart => exact ⟨(y361), (0), (by first | rfl | (simp; done) | (simp [*]; done)), H', ⟨Nat.le_refl _⟩, ⟨rq HO_7.out⟩, ⟨bq BK351.out⟩, ⟨by repeat (first | (with_reducible first | exact HB.out | apply below_alloc | apply pw_below_drewN | apply below_drew1 | refine below_set ?_ GE351.out) | exact HB.out)⟩⟩
         case round =>
          clear H'
          try clear c1
          try clear p1
          try clear q1
          try clear hx1
          try clear p2
          try clear c4
          try clear c6
          try clear c6b0
          try clear c6b1
          try clear c7
          try clear c7b0
          try clear c7b1
          try clear c15
          try clear c15b0
          try clear c16
          try clear c16b0
          try clear c17
          try clear c17b0
          try clear p18
          try clear q18
          try clear hx18
          try clear hf18
          try clear hcz11_0
          try clear hcz11_1
          try clear hcz9_0
          try clear hcz9_1
          try clear hfz11_0
          try clear hfz11_1
          try clear hfz9_0
          try clear hfz9_1
          try clear hx18_0
          try clear p18
          try clear p2
          try clear q18
          obtain ⟨x7_2, x9_2, rfl, HA, HK2, HO_7, BK351, HB⟩ := hrel
          have hl7_2 := (Kd.R_reads' HO_7.out).1
          rw [hl7_2] at HO_7
          (try simp only [hl7_2])
          (try simp only [hl7_2] at BK351)
          cases gk with
          |zero => exact absurd HA.out (by simp [acreageref05_Constants.l1])
          |succ k2 =>
           have H := HA.out
           clear HA
           simp only [acreageref05_Constants.l1] at H
           by_cases c21 : x9_2 < (l1.length : Int)
           ·rw [if_pos c21] at H
            have c21b0 : decide (x9_2 < (l1.length : Int)) = true := decide_eq_true c21
            clear c21
            by_cases c22 : 0 ≤ x8_1
            ·rw [if_pos c22] at H
             have c22b0 : decide (0 ≤ x8_1) = true := decide_eq_true c22
             clear c22
             by_cases c23 : x8_1 < (x7_2.length : Int)
             ·rw [if_pos c23] at H
              have c23b0 : decide (x8_1 < (x7_2.length : Int)) = true := decide_eq_true c23
              clear c23
              obtain ⟨bq24, hbq24⟩ : ∃ b_ : Bool, b_ = (rdOf false x7_2 x8_1) := ⟨_, rfl⟩
              replace H : (if bq24 = true then (if 0 ≤ x9_2 then ((acreageref05_fits.f k2 a0_0 a0_1 ((rd_T61 l1 x9_2).f0.f0) ((rd_T61 l1 x9_2).f0.f1) ((rd_T61 l1 x9_2).f1) ((rd_T61 l1 x9_2).f2) x8_1).bind fun t364 => (acreageref05_Constants.l1 k2 l1 (x7_2.set (x8_1 : Int).toNat t364) x8_1 (wrap64 (x9_2 + 1)) a0_0 a0_1)) else (none)) else (acreageref05_Constants.l1 k2 l1 (x7_2.set (x8_1 : Int).toNat false) x8_1 (wrap64 (x9_2 + 1)) a0_0 a0_1)) = some (r1, r2) := by rw [← hbq24] at H; exact H
              have Nbq24 := Aside0.mk hbq24
              clear hbq24
              by_cases c25 : bq24 = true
              ·subst c25
               have H1 : (if 0 ≤ x9_2 then ((acreageref05_fits.f k2 a0_0 a0_1 ((rd_T61 l1 x9_2).f0.f0) ((rd_T61 l1 x9_2).f0.f1) ((rd_T61 l1 x9_2).f1) ((rd_T61 l1 x9_2).f2) x8_1).bind fun t364 => (acreageref05_Constants.l1 k2 l1 (x7_2.set (x8_1 : Int).toNat t364) x8_1 (wrap64 (x9_2 + 1)) a0_0 a0_1)) else (none)) = some (r1, r2) := by rw [if_pos rfl] at H; exact H
               clear H
               have H := H1
               clear H1
               by_cases c26 : 0 ≤ x9_2
               ·rw [if_pos c26] at H
                have c26b0 : decide (0 ≤ x9_2) = true := decide_eq_true c26
                clear c26
                replace H := Option.bind_eq_some_iff.mp H
                obtain ⟨t364, A270, H⟩ := H
                replace H : (acreageref05_Constants.l1 k2 l1 (x7_2.set (x8_1 : Int).toNat t364) x8_1 (wrap64 (x9_2 + 1)) a0_0 a0_1) = some (r1, r2) := H
                have A27 := Aside0.mk A270
                clear A270
                obtain ⟨y365, hy365⟩ : ∃ y_ : List Bool, y_ = (x7_2.set (x8_1 : Int).toNat t364) := ⟨_, rfl⟩
                replace H : (acreageref05_Constants.l1 k2 l1 y365 x8_1 (wrap64 (x9_2 + 1)) a0_0 a0_1) = some (r1, r2) := by first | (rw [hy365]; with_reducible exact H) | (have H2_ := (Option.bind_some _ _).symm.trans H; rw [hy365]; with_reducible exact H2_) | (have H2_ := (Option.bind_some _ _).symm.trans H; with_reducible exact H2_) | with_reducible exact H | (rw [hy365]; exact H) | exact H
                have Ny365 := Aside0.mk hy365
                clear hy365
                have H' := Aside0.mk H
                clear H
                try go_wp2
                have n0_ := Aside0.mk (Kd.R_drew HO_7.out)
                have n1_ := Aside0.mk (blk_drew BK351.out)
                have n2_ := Aside0.mk (below_drew1 HB.out)
                clear HO_7
                clear BK351
                clear HB
                have HO_7 := n0_
                have BK351 := n1_
                have HB := n2_
                clear n0_ n1_ n2_
                have p362 : 0 ≤ (x8_1 : Int) := of_decide_eq_true aq
                have q362 : x8_1 < (x7_2.length : Int) := of_decide_eq_true aq
                obtain ⟨ad362, e362, hx362_0⟩ := Kd.at_bool (Kd.R_reads' HO_7.out).2.2 x8_1 p362 q362
                (try rw [← Nbq24.out] at hx362_0)
                obtain rfl : (⟨go18, 0, none⟩ : Addr) = ad362 := (by injection e362)
                (first | simp only [add_plain] at hx362_0 | simp only [add_at] at hx362_0 | simp only [Addr.add, Nat.zero_add] at hx362_0 | skip)
                replace p362 := eq_true p362
                replace q362 := eq_true q362
                have p363 : 0 ≤ (x9_2 : Int) := of_decide_eq_true aq
                have q363 : x9_2 < (l1.length : Int) := of_decide_eq_true aq
                obtain ⟨ad363, e363, hx363_0, hx363_1, hx363_2, hx363_3⟩ := at_T61 HR1.out x9_2 p363 q363
                have hw363_3 := hx363_3
                have hw363_2 := hx363_2
                have hw363_1 := hx363_1
                have hw363_0 := hx363_0
                cases e363
                replace hx363_0 := (HB.out.cell (World.block_lt_of_cell? w _ hx363_0)).trans hx363_0
                replace hx363_1 := (HB.out.cell (World.block_lt_of_cell? w _ hx363_1)).trans hx363_1
                replace hx363_2 := (HB.out.cell (World.block_lt_of_cell? w _ hx363_2)).trans hx363_2
                replace hx363_3 := (HB.out.cell (World.block_lt_of_cell? w _ hx363_3)).trans hx363_3
                replace p363 := eq_true p363
                replace q363 := eq_true q363
                refine start_ (n := 17) (S := fun w' => w'.cell? ⟨gb351, 0, none⟩ = some (.int .i64 a0_0) ∧ w'.cell? ⟨gb351, 1, none⟩ = some (.int .i64 a0_1) ∧ w'.cell? ⟨go18, (x8_1).toNat, none⟩ = some (.bool true) ∧ w'.cell? (ad363.add ((x9_2).toNat * 4)) = some (.int .i64 ((rd_T61 l1 x9_2).f0.f0)) ∧ w'.cell? ⟨(ad363.add ((x9_2).toNat * 4)).block, (ad363.add ((x9_2).toNat * 4)).off + 1, none⟩ = some (.int .i64 ((rd_T61 l1 x9_2).f0.f1)) ∧ w'.cell? ⟨(ad363.add ((x9_2).toNat * 4)).block, (ad363.add ((x9_2).toNat * 4)).off + 2, none⟩ = some (.int .i64 ((rd_T61 l1 x9_2).f1)) ∧ w'.cell? ⟨(ad363.add ((x9_2).toNat * 4)).block, (ad363.add ((x9_2).toNat * 4)).off + 3, none⟩ = some (.int .i64 ((rd_T61 l1 x9_2).f2))) (ds := [16]) #[false, false, false, false, false, false, false, false, false, false, false, false, false, false, false, false, false] (by kernel_rfl) rfl rfl ⟨(blk_cell BK351.out 0).trans rfl, (blk_cell BK351.out 1).trans rfl, hx362_0, ((HB.out.cell (World.block_lt_of_cell? w _ hw363_0)).trans hw363_0), ((HB.out.cell (World.block_lt_of_cell? w _ hw363_1)).trans hw363_1), ((HB.out.cell (World.block_lt_of_cell? w _ hw363_2)).trans hw363_2), ((HB.out.cell (World.block_lt_of_cell? w _ hw363_3)).trans hw363_3)⟩ (fun hHeld => ?_); refine with_tabW acreageref05_Constants.tab14 acreageref05_Constants.bits14 (fun HT_ HW_ => ?_)
                generalize wr.drew = w29 at HO_7 BK351 HB hx362_0 hx363_0 hx363_1 hx363_2 hx363_3 hHeld ⊢
                refine pure_ (i := 0) (N := some 33) (v := ?_) (a' := ?_) #[true, false, false, false, false, false, false, false, false, false, false, false, false, false, false, false, false] rfl rfl (any_of HT_.out (by kernel_rfl)) (fun _ _ _ h => h) (Or.inl ⟨by rfl, ?_⟩) ?_ ?_
                rotate_left
                ·intro w'
                 go_simp
                 with_reducible rfl
                rotate_left
                ·simp only [pq]
                 rfl
                refine pure_ (i := 1) (N := some 34) (v := ?_) (a' := ?_) #[true, true, false, false, false, false, false, false, false, false, false, false, false, false, false, false, false] rfl rfl (any_of HT_.out (by kernel_rfl)) (fun _ _ _ h => h) (Or.inl ⟨by rfl, ?_⟩) ?_ ?_
                rotate_left
                ·intro w'
                 go_simp
                 with_reducible rfl
                rotate_left
                ·simp only [pq]
                 rfl
                refine pure_ (i := 2) (N := some 35) (v := ?_) (a' := ?_) #[true, true, true, false, false, false, false, false, false, false, false, false, false, false, false, false, false] rfl rfl (any_of HT_.out (by kernel_rfl)) (fun _ _ _ h => h) (Or.inl ⟨by rfl, ?_⟩) ?_ ?_
                rotate_left
                ·intro w'
                 go_simp
                 with_reducible rfl
                rotate_left
                ·simp only [pq]
                 rfl
                refine pure_ (i := 3) (N := some 36) (v := ?_) (a' := ?_) #[true, true, true, true, false, false, false, false, false, false, false, false, false, false, false, false, false] rfl rfl (any_of HT_.out (by kernel_rfl)) (fun _ _ _ h => h) (Or.inl ⟨by rfl, ?_⟩) ?_ ?_
                rotate_left
                ·intro w'
                 go_simp
                 with_reducible rfl
                rotate_left
                ·simp only [pq]
                 rfl
                refine pure_ (i := 4) (N := some 37) (v := ?_) (a' := ?_) #[true, true, true, true, true, false, false, false, false, false, false, false, false, false, false, false, false] rfl rfl (any_of HT_.out (by kernel_rfl)) (fun _ _ _ h => h) (Or.inl ⟨by rfl, ?_⟩) ?_ ?_
                rotate_left
                ·intro w'
                 go_simp
                 with_reducible rfl
                rotate_left
                ·simp only [pq]
                 rfl
                refine take_ (i := 5) (N := some 38) (v := ?_) (a' := ?_) #[true, true, true, true, true, true, false, false, false, false, false, false, false, false, false, false, false] rfl rfl (take_ofW HT_.out HW_.out (by kernel_rfl)) (fun _ _ _ h => h) (Or.inl ⟨by rfl, ?_⟩) hHeld ?_ ?_
                rotate_left
                ·rintro w' ⟨s0, s1, s2, s3, s4, s5, s6⟩
                 go_simp
                 with_reducible rfl
                rotate_left
                ·simp only [pq]
                 rfl
                refine pure_ (i := 6) (N := some 39) (v := ?_) (a' := ?_) #[true, true, true, true, true, true, true, false, false, false, false, false, false, false, false, false, false] rfl rfl (any_of HT_.out (by kernel_rfl)) (fun _ _ _ h => h) (Or.inl ⟨by rfl, ?_⟩) ?_ ?_
                rotate_left
                ·intro w'
                 go_simp
                 with_reducible rfl
                rotate_left
                ·simp only [pq]
                 rfl
                refine pure_ (i := 8) (N := some 41) (v := ?_) (a' := ?_) #[true, true, true, true, true, true, true, false, true, false, false, false, false, false, false, false, false] rfl rfl (any_of HT_.out (by kernel_rfl)) (fun _ _ _ h => h) (Or.inl ⟨by rfl, ?_⟩) ?_ ?_
                rotate_left
                ·intro w'
                 go_simp
                 with_reducible rfl
                rotate_left
                ·simp only [pq]
                 rfl
                refine pure_ (i := 9) (N := some 42) (v := ?_) (a' := ?_) #[true, true, true, true, true, true, true, false, true, true, false, false, false, false, false, false, false] rfl rfl (any_of HT_.out (by kernel_rfl)) (fun _ _ _ h => h) (Or.inl ⟨by rfl, ?_⟩) ?_ ?_
                rotate_left
                ·intro w'
                 go_simp
                 with_reducible rfl
                rotate_left
                ·simp only [pq]
                 rfl
                refine pure_ (i := 10) (N := some 43) (v := ?_) (a' := ?_) #[true, true, true, true, true, true, true, false, true, true, true, false, false, false, false, false, false] rfl rfl (any_of HT_.out (by kernel_rfl)) (fun _ _ _ h => h) (Or.inl ⟨by rfl, ?_⟩) ?_ ?_
                rotate_left
                ·intro w'
                 go_simp
                 with_reducible rfl
                rotate_left
                ·simp only [pq]
                 rfl
                refine pure_ (i := 12) (N := some 45) (v := ?_) (a' := ?_) #[true, true, true, true, true, true, true, false, true, true, true, false, true, false, false, false, false] rfl rfl (any_of HT_.out (by kernel_rfl)) (fun _ _ _ h => h) (Or.inl ⟨by rfl, ?_⟩) ?_ ?_
                rotate_left
                ·intro w'
                 go_simp
                 with_reducible rfl
                rotate_left
                ·simp only [pq]
                 rfl
                refine take_ (i := 7) (N := some 40) (v := ?_) (a' := ?_) #[true, true, true, true, true, true, true, true, true, true, true, false, true, false, false, false, false] rfl rfl (take_ofW HT_.out HW_.out (by kernel_rfl)) (fun _ _ _ h => h) (Or.inl ⟨by rfl, ?_⟩) hHeld ?_ ?_
                rotate_left
                ·rintro w' ⟨s0, s1, s2, s3, s4, s5, s6⟩
                 go_simp
                 with_reducible rfl
                rotate_left
                ·simp only [pq]
                 rfl
                refine take_ (i := 11) (N := some 44) (v := ?_) (a' := ?_) #[true, true, true, true, true, true, true, true, true, true, true, true, true, false, false, false, false] rfl rfl (take_ofW HT_.out HW_.out (by kernel_rfl)) (fun _ _ _ h => h) (Or.inl ⟨by rfl, ?_⟩) hHeld ?_ ?_
                rotate_left
                ·rintro w' ⟨s0, s1, s2, s3, s4, s5, s6⟩
                 go_simp
                 with_reducible rfl
                rotate_left
                ·simp only [pq]
                 rfl
                refine one_ (i := 13) (N := some 46) #[true, true, true, true, true, true, true, true, true, true, true, true, true, true, false, false, false] rfl rfl (one_of HT_.out (by kernel_rfl)) (by decide) (fun K hK => ?_)
                refine goes_ Tryz.func66 (by kernel_rfl) rfl #[.agg #[.int .i64 a0_0, .int .i64 a0_1], .agg #[.int .i64 ((rd_T61 l1 x9_2).f0.f0), .int .i64 ((rd_T61 l1 x9_2).f0.f1), .int .i64 ((rd_T61 l1 x9_2).f1), .int .i64 ((rd_T61 l1 x9_2).f2)], .int .i64 x8_1] (by rfl) rfl rfl mq ?_
                with_reducible refine (acreageref05_fits.calls k2 a0_0 a0_1 ((rd_T61 l1 x9_2).f0.f0) ((rd_T61 l1 x9_2).f0.f1) ((rd_T61 l1 x9_2).f1) ((rd_T61 l1 x9_2).f2) x8_1 t364 _ A27.out).mono ?_
                rintro e w30 ⟨rfl, hb⟩
                have HS2_ := (hb.cell (World.block_lt_of_cell? _ _ (hHeld.2.2.1))).trans (hHeld.2.2.1)
                refine ⟨_, rfl, ?_⟩
                have n0_ := Aside0.mk (Kd.R_below (rq HO_7.out) hb)
                have n1_ := Aside0.mk (blk_below (g := gb351) (o := .cells #[.int .i64 a0_0, .int .i64 a0_1] 23 (0, 0)) (bq BK351.out) hb)
                have n2_ := Aside0.mk (below_step (by repeat (first | (with_reducible first | exact HB.out | apply below_alloc | apply pw_below_drewN | apply below_drew1 | refine below_set ?_ GE351.out) | exact HB.out)) hb)
                clear HO_7
                clear BK351
                clear HB
                have HO_7 := n0_
                have BK351 := n1_
                have HB := n2_
                clear n0_ n1_ n2_
                (try clear hb)
                (try clear hb2)
                (try clear hk)
                (try clear hi)
                have p28 : 0 ≤ (x8_1 : Int) := of_decide_eq_true aq
                have q28 : (x8_1 : Int) < ((x7_2.length : Int) : Int) := of_decide_eq_true aq
                obtain ⟨hx28_0, hf28_0⟩ := Kd.R_celln false HO_7.out (x8_1 : Int) p28 q28
                replace p28 := eq_true p28
                replace q28 := eq_true q28
                have HP31 := Kd.R_putn HO_7.out (x8_1 : Int) t364
                rw [← Ny365.out] at HP31
                have HQ31 := Aside0.mk HP31
                clear HP31
                refine hK.out _ _ ⟨(blk_cell BK351.out 0).trans rfl, (blk_cell BK351.out 1).trans rfl, HS2_, ((HB.out.cell (World.block_lt_of_cell? w _ hw363_0)).trans hw363_0), ((HB.out.cell (World.block_lt_of_cell? w _ hw363_1)).trans hw363_1), ((HB.out.cell (World.block_lt_of_cell? w _ hw363_2)).trans hw363_2), ((HB.out.cell (World.block_lt_of_cell? w _ hw363_3)).trans hw363_3)⟩ (fun hHeld => ?_)
                clear hK K
                refine norm_ (a' := ?_) ?_ ?_
                rotate_left
                ·show Act.put _ (some 46) _ = _
                 simp only [pq]
                 rfl
                refine pure_ (i := 14) (N := some 47) (v := ?_) (a' := ?_) #[true, true, true, true, true, true, true, true, true, true, true, true, true, true, true, false, false] rfl rfl (any_of HT_.out (by kernel_rfl)) (fun _ _ _ h => h) (Or.inl ⟨by rfl, ?_⟩) ?_ ?_
                rotate_left
                ·intro w'
                 go_simp
                 with_reducible rfl
                rotate_left
                ·simp only [pq]
                 rfl
                refine pure_ (i := 15) (N := some 48) (v := ?_) (a' := ?_) #[true, true, true, true, true, true, true, true, true, true, true, true, true, true, true, true, false] rfl rfl (any_of HT_.out (by kernel_rfl)) (fun _ _ _ h => h) (Or.inl ⟨by rfl, ?_⟩) ?_ ?_
                rotate_left
                ·intro w'
                 go_simp
                 with_reducible rfl
                rotate_left
                ·simp only [pq]
                 rfl
                refine last_ (i := 16) (N := none) #[true, true, true, true, true, true, true, true, true, true, true, true, true, true, true, true, true] rfl rfl (one_of HT_.out (by kernel_rfl)) (by decide) (fun K hK => ?_)
                refine skip_ (w1 := ?_) (by rfl) rfl ?_ ?_
                rotate_left
                ·go_simp
                 rfl
                refine hK.out _ _ ?_
                clear hK K
                refine done_ (done_of HT_.out (by kernel_rfl)) ?_
                try go_wp2
                (try simp only [← hl7_2])
                go_roundg k2
                case measure => have := HK1.out; have := HK2.out; omega
                case rel => exact ⟨(y365), (wrap64 (x9_2 + 1)), (by first | rfl | (simp; done) | (simp [*]; done)), H', ⟨by have := HK1.out; have := HK2.out; omega⟩, ⟨by (try simp only [hl7_2]); (with_reducible repeat (first | apply Kd.R_alloc | apply Kd.R_drewN | apply Kd.R_drew)); exact HQ31.out⟩, ⟨by (try simp only [hl7_2]); (with_reducible repeat (first | refine blk_drewN ?_ _ | refine blk_drew ?_ | refine blk_alloc ?_ _)); refine blk_far ?_ (by have h_ := Kd.R_ne HO_7.out BK351.out (by decide); intro e_; exact h_ (by rw [e_]; rfl)) _; (with_reducible repeat (first | refine blk_drewN ?_ _ | refine blk_drew ?_ | refine blk_alloc ?_ _)); exact BK351.out⟩, ⟨by repeat (first | (with_reducible first | exact HB.out | apply below_alloc | apply pw_below_drewN | apply below_drew1 | refine below_set ?_ GB18.out | refine below_set ?_ GE351.out) | exact HB.out)⟩⟩
               ·rw [if_neg c26] at H
                exact absurd H (by simp)
              ·replace c25 := Bool.eq_false_iff.mpr c25
               subst c25
               have H1 : (acreageref05_Constants.l1 k2 l1 (x7_2.set (x8_1 : Int).toNat false) x8_1 (wrap64 (x9_2 + 1)) a0_0 a0_1) = some (r1, r2) := by rw [if_neg (show ¬ (false = true) by decide)] at H; exact H
               clear H
               have H := H1
               clear H1
               obtain ⟨y366, hy366⟩ : ∃ y_ : List Bool, y_ = (x7_2.set (x8_1 : Int).toNat false) := ⟨_, rfl⟩
               replace H : (acreageref05_Constants.l1 k2 l1 y366 x8_1 (wrap64 (x9_2 + 1)) a0_0 a0_1) = some (r1, r2) := by first | (rw [hy366]; with_reducible exact H) | (have H2_ := (Option.bind_some _ _).symm.trans H; rw [hy366]; with_reducible exact H2_) | (have H2_ := (Option.bind_some _ _).symm.trans H; with_reducible exact H2_) | with_reducible exact H | (rw [hy366]; exact H) | exact H
               have Ny366 := Aside0.mk hy366
               clear hy366
               have H' := Aside0.mk H
               clear H
               try go_wp2
               have n0_ := Aside0.mk (Kd.R_drew HO_7.out)
               have n1_ := Aside0.mk (blk_drew BK351.out)
               have n2_ := Aside0.mk (below_drew1 HB.out)
               clear HO_7
               clear BK351
               clear HB
               have HO_7 := n0_
               have BK351 := n1_
               have HB := n2_
               clear n0_ n1_ n2_
               have p362 : 0 ≤ (x8_1 : Int) := of_decide_eq_true aq
               have q362 : x8_1 < (x7_2.length : Int) := of_decide_eq_true aq
               obtain ⟨ad362, e362, hx362_0⟩ := Kd.at_bool (Kd.R_reads' HO_7.out).2.2 x8_1 p362 q362
               (try rw [← Nbq24.out] at hx362_0)
               obtain rfl : (⟨go18, 0, none⟩ : Addr) = ad362 := (by injection e362)
               (first | simp only [add_plain] at hx362_0 | simp only [add_at] at hx362_0 | simp only [Addr.add, Nat.zero_add] at hx362_0 | skip)
               replace p362 := eq_true p362
               replace q362 := eq_true q362
               have p32 : 0 ≤ (x8_1 : Int) := of_decide_eq_true aq
               have q32 : (x8_1 : Int) < ((x7_2.length : Int) : Int) := of_decide_eq_true aq
               obtain ⟨hx32_0, hf32_0⟩ := Kd.R_celln false HO_7.out (x8_1 : Int) p32 q32
               replace p32 := eq_true p32
               replace q32 := eq_true q32
               have HP34 := Kd.R_putn HO_7.out (x8_1 : Int) false
               rw [← Ny366.out] at HP34
               have HQ34 := Aside0.mk HP34
               clear HP34
               refine start_ (n := 17) (S := fun w' => w'.cell? ⟨go18, (x8_1).toNat, none⟩ = some (.bool false)) (ds := [16]) #[false, false, false, false, false, false, false, false, false, false, false, false, false, false, false, false, false] (by kernel_rfl) rfl rfl (hx362_0) (fun hHeld => ?_); refine with_tabW acreageref05_Constants.tab14 acreageref05_Constants.bits14 (fun HT_ HW_ => ?_)
               generalize wr.drew = w33 at HO_7 BK351 HB HQ34 hf32_0 hx32_0 hx362_0 hHeld ⊢
               refine pure_ (i := 0) (N := some 33) (v := ?_) (a' := ?_) #[true, false, false, false, false, false, false, false, false, false, false, false, false, false, false, false, false] rfl rfl (any_of HT_.out (by kernel_rfl)) (fun _ _ _ h => h) (Or.inl ⟨by rfl, ?_⟩) ?_ ?_
               rotate_left
               ·intro w'
                go_simp
                with_reducible rfl
               rotate_left
               ·simp only [pq]
                rfl
               refine pure_ (i := 1) (N := some 34) (v := ?_) (a' := ?_) #[true, true, false, false, false, false, false, false, false, false, false, false, false, false, false, false, false] rfl rfl (any_of HT_.out (by kernel_rfl)) (fun _ _ _ h => h) (Or.inl ⟨by rfl, ?_⟩) ?_ ?_
               rotate_left
               ·intro w'
                go_simp
                with_reducible rfl
               rotate_left
               ·simp only [pq]
                rfl
               refine pure_ (i := 2) (N := some 35) (v := ?_) (a' := ?_) #[true, true, true, false, false, false, false, false, false, false, false, false, false, false, false, false, false] rfl rfl (any_of HT_.out (by kernel_rfl)) (fun _ _ _ h => h) (Or.inl ⟨by rfl, ?_⟩) ?_ ?_
               rotate_left
               ·intro w'
                go_simp
                with_reducible rfl
               rotate_left
               ·simp only [pq]
                rfl
               refine pure_ (i := 3) (N := some 36) (v := ?_) (a' := ?_) #[true, true, true, true, false, false, false, false, false, false, false, false, false, false, false, false, false] rfl rfl (any_of HT_.out (by kernel_rfl)) (fun _ _ _ h => h) (Or.inl ⟨by rfl, ?_⟩) ?_ ?_
               rotate_left
               ·intro w'
                go_simp
                with_reducible rfl
               rotate_left
               ·simp only [pq]
                rfl
               refine pure_ (i := 4) (N := some 37) (v := ?_) (a' := ?_) #[true, true, true, true, true, false, false, false, false, false, false, false, false, false, false, false, false] rfl rfl (any_of HT_.out (by kernel_rfl)) (fun _ _ _ h => h) (Or.inl ⟨by rfl, ?_⟩) ?_ ?_
               rotate_left
               ·intro w'
                go_simp
                with_reducible rfl
               rotate_left
               ·simp only [pq]
                rfl
               refine take_ (i := 5) (N := some 38) (v := ?_) (a' := ?_) #[true, true, true, true, true, true, false, false, false, false, false, false, false, false, false, false, false] rfl rfl (take_ofW HT_.out HW_.out (by kernel_rfl)) (fun _ _ _ h => h) (Or.inl ⟨by rfl, ?_⟩) hHeld ?_ ?_
               rotate_left
               ·intro w' s0
                go_simp
                with_reducible rfl
               rotate_left
               ·simp only [pq]
                rfl
               refine pure_ (i := 6) (N := some 39) (v := ?_) (a' := ?_) #[true, true, true, true, true, true, true, false, false, false, false, false, false, false, false, false, false] rfl rfl (any_of HT_.out (by kernel_rfl)) (fun _ _ _ h => h) (Or.inl ⟨by rfl, ?_⟩) ?_ ?_
               rotate_left
               ·intro w'
                go_simp
                with_reducible rfl
               rotate_left
               ·simp only [pq]
                rfl
               refine pure_ (i := 7) (N := some 40) (v := undef) (a' := ?_) #[true, true, true, true, true, true, true, true, false, false, false, false, false, false, false, false, false] rfl rfl (any_of HT_.out (by kernel_rfl)) (fun _ _ _ h => h) (Or.inr ⟨by rfl, rfl⟩) ?_ ?_
               rotate_left
               ·simp only [pq]
                rfl
               refine pure_ (i := 8) (N := some 41) (v := undef) (a' := ?_) #[true, true, true, true, true, true, true, true, true, false, false, false, false, false, false, false, false] rfl rfl (any_of HT_.out (by kernel_rfl)) (fun _ _ _ h => h) (Or.inr ⟨by rfl, rfl⟩) ?_ ?_
               rotate_left
               ·simp only [pq]
                rfl
               refine pure_ (i := 9) (N := some 42) (v := undef) (a' := ?_) #[true, true, true, true, true, true, true, true, true, true, false, false, false, false, false, false, false] rfl rfl (any_of HT_.out (by kernel_rfl)) (fun _ _ _ h => h) (Or.inr ⟨by rfl, rfl⟩) ?_ ?_
               rotate_left
               ·simp only [pq]
                rfl
               refine pure_ (i := 10) (N := some 43) (v := undef) (a' := ?_) #[true, true, true, true, true, true, true, true, true, true, true, false, false, false, false, false, false] rfl rfl (any_of HT_.out (by kernel_rfl)) (fun _ _ _ h => h) (Or.inr ⟨by rfl, rfl⟩) ?_ ?_
               rotate_left
               ·simp only [pq]
                rfl
               refine pure_ (i := 11) (N := some 44) (v := undef) (a' := ?_) #[true, true, true, true, true, true, true, true, true, true, true, true, false, false, false, false, false] rfl rfl (any_of HT_.out (by kernel_rfl)) (fun _ _ _ h => h) (Or.inr ⟨by rfl, rfl⟩) ?_ ?_
               rotate_left
               ·simp only [pq]
                rfl
               refine pure_ (i := 12) (N := some 45) (v := undef) (a' := ?_) #[true, true, true, true, true, true, true, true, true, true, true, true, true, false, false, false, false] rfl rfl (any_of HT_.out (by kernel_rfl)) (fun _ _ _ h => h) (Or.inr ⟨by rfl, rfl⟩) ?_ ?_
               rotate_left
               ·simp only [pq]
                rfl
               refine pure_ (i := 13) (N := some 46) (v := undef) (a' := ?_) #[true, true, true, true, true, true, true, true, true, true, true, true, true, true, false, false, false] rfl rfl (any_of HT_.out (by kernel_rfl)) (fun _ _ _ h => h) (Or.inr ⟨by rfl, rfl⟩) ?_ ?_
               rotate_left
               ·simp only [pq]
                rfl
               refine pure_ (i := 14) (N := some 47) (v := ?_) (a' := ?_) #[true, true, true, true, true, true, true, true, true, true, true, true, true, true, true, false, false] rfl rfl (any_of HT_.out (by kernel_rfl)) (fun _ _ _ h => h) (Or.inl ⟨by rfl, ?_⟩) ?_ ?_
               rotate_left
               ·intro w'
                go_simp
                with_reducible rfl
               rotate_left
               ·simp only [pq]
                rfl
               refine pure_ (i := 15) (N := some 48) (v := ?_) (a' := ?_) #[true, true, true, true, true, true, true, true, true, true, true, true, true, true, true, true, false] rfl rfl (any_of HT_.out (by kernel_rfl)) (fun _ _ _ h => h) (Or.inl ⟨by rfl, ?_⟩) ?_ ?_
               rotate_left
               ·intro w'
                go_simp
                with_reducible rfl
               rotate_left
               ·simp only [pq]
                rfl
               refine last_ (i := 16) (N := none) #[true, true, true, true, true, true, true, true, true, true, true, true, true, true, true, true, true] rfl rfl (one_of HT_.out (by kernel_rfl)) (by decide) (fun K hK => ?_)
               refine skip_ (w1 := ?_) (by rfl) rfl ?_ ?_
               rotate_left
               ·go_simp
                rfl
               refine hK.out _ _ ?_
               clear hK K
               refine done_ (done_of HT_.out (by kernel_rfl)) ?_
               try go_wp2
               (try simp only [← hl7_2])
               go_roundg k2
               case measure => have := HK1.out; have := HK2.out; omega
               case rel => exact ⟨(y366), (wrap64 (x9_2 + 1)), (by first | rfl | (simp; done) | (simp [*]; done)), H', ⟨by have := HK1.out; have := HK2.out; omega⟩, ⟨by (try simp only [hl7_2]); (with_reducible repeat (first | apply Kd.R_alloc | apply Kd.R_drewN | apply Kd.R_drew)); exact HQ34.out⟩, ⟨by (try simp only [hl7_2]); (with_reducible repeat (first | refine blk_drewN ?_ _ | refine blk_drew ?_ | refine blk_alloc ?_ _)); refine blk_far ?_ (by have h_ := Kd.R_ne HO_7.out BK351.out (by decide); intro e_; exact h_ (by rw [e_]; rfl)) _; (with_reducible repeat (first | refine blk_drewN ?_ _ | refine blk_drew ?_ | refine blk_alloc ?_ _)); exact BK351.out⟩, ⟨by repeat (first | (with_reducible first | exact HB.out | apply below_alloc | apply pw_below_drewN | apply below_drew1 | refine below_set ?_ GB18.out | refine below_set ?_ GE351.out) | exact HB.out)⟩⟩
             ·rw [if_neg c23] at H
              exact absurd H (by simp)
            ·rw [if_neg c22] at H
             exact absurd H (by simp)
           ·rw [if_neg c21] at H
            have c21b0 : decide (x9_2 < (l1.length : Int)) = false := decide_eq_false c21
            clear c21
            have H' := Aside0.mk H
            clear H
            go_wp2
            (try simp only [← hl7_2])
            go_roundg k2
            case measure => have := HK1.out; have := HK2.out; omega
            case rel => exact ⟨(x7_2), (wrap64 (x8_1 + 1)), (by first | rfl | (simp; done) | (simp [*]; done)), H', ⟨by have := HK1.out; have := HK2.out; omega⟩, ⟨by (try simp only [hl7_2]); (with_reducible repeat (first | apply Kd.R_alloc | apply Kd.R_drewN | apply Kd.R_drew)); exact HO_7.out⟩, ⟨by (try simp only [hl7_2]); (with_reducible repeat (first | refine blk_drewN ?_ _ | refine blk_drew ?_ | refine blk_alloc ?_ _)); exact BK351.out⟩, ⟨by repeat (first | (with_reducible first | exact HB.out | apply below_alloc | apply pw_below_drewN | apply below_drew1 | refine below_set ?_ GE351.out) | exact HB.out)⟩⟩
        ·rw [if_neg c17] at H
         exact absurd H (by simp)
       ·rw [if_neg c16] at H
        exact absurd H (by simp)
      ·rw [if_neg c15] at H
       have c15b0 : decide (x8_1 ≤ 1000) = false := decide_eq_false c15
       clear c15
       replace H := Option.bind_eq_some_iff.mp H
       obtain ⟨⟨t357, t358⟩, A350, H⟩ := H
       replace H : (some (t357, t358)) = some (r1, r2) := H
       have A35 := Aside0.mk A350
       clear A350
       simp only [Option.some.injEq, Prod.mk.injEq] at H
       obtain ⟨rfl, rfl⟩ := H
       obtain ⟨Ao36, co36, eo36⟩ := Kd.R_slice HO_7.out
       subst eo36
       go_wp2_with (first | ((with_reducible refine gate_callee (f := 67) rfl ?_); refine goesL_ (some 50) rfl rfl Tryz.func67 (by kernel_rfl) rfl #[.slice Ao36 x7_1.length co36] rfl mq ?_; (with_reducible refine (acreageref05_numbers.calls k1 _ _ x7_1 t357 t358 _ ?side1 ?side2 A35.out).mono ?_); (case side1 => repeat (first | exact (Kd.R_reads' HO_7.out).2.2 | (with_reducible refine Kd.C_alloc ?_ _) | (with_reducible refine Kd.C_drewN ?_ _) | (with_reducible refine Kd.C_drew ?_))); (case side2 => exact (Kd.R_reads' HO_7.out).2.1); rintro e w37 ⟨v359, rfl, ho0, hb⟩; refine ⟨_, rfl, ?_⟩; have n0_ := Aside0.mk (Kd.R_below (rq HO_7.out) hb); have n1_ := Aside0.mk (Kd.R_lower ho0 (below_size (by repeat (first | (with_reducible first | exact HB.out | apply below_alloc | apply pw_below_drewN | apply below_drew1 | refine below_set ?_ GE351.out) | exact HB.out)))); have n2_ := Aside0.mk (blk_below (g := gb351) (o := .cells #[.int .i64 a0_0, .int .i64 a0_1] 23 (0, 0)) (bq BK351.out) hb); have n3_ := Aside0.mk (below_step (by repeat (first | (with_reducible first | exact HB.out | apply below_alloc | apply pw_below_drewN | apply below_drew1 | refine below_set ?_ GE351.out) | exact HB.out)) hb); clear HO_7; clear BK351; clear HB; have HO_7 := n0_; have HO360 := n1_; have BK351 := n2_; have HB := n3_; clear n0_ n1_ n2_ n3_; (try clear hb); (try clear hb2); (try clear hk); (try clear hi); (try clear ho0)))
       go_ret2
       exact ⟨_, by first | rfl | (simp [errW_none, errW_some] <;> rfl) | (simp [*, errW_none, errW_some] <;> rfl), by (with_reducible repeat (first | apply Kd.R_alloc | apply Kd.R_drewN | apply Kd.R_drew)); exact HO360.out, by repeat (first | (with_reducible first | exact HB.out | apply below_alloc | apply pw_below_drewN | apply below_drew1 | refine below_set ?_ GE351.out) | exact HB.out)⟩
   ·rw [if_neg c7] at H
    exact absurd H (by simp)
  ·rw [if_neg c6] at H
   have c6b0 : (t353 == 0) = false := beq_eq_false_iff_ne.mpr c6
   have c6b1 : (t353 != 0) = true := bne_iff_ne.mpr c6
   simp only [Option.some.injEq, Prod.mk.injEq] at H
   obtain ⟨rfl, rfl⟩ := H
   go_enter Tryz.func16, Tryz.ntmps16
   go_wp2_with (first | ((with_reducible refine gate_dst (N := 2) rfl ?_); refine box_event ?hg (N := 2) ?hd (cs := #[.int .i64 a0_0, .int .i64 a0_1]) (t := 23) ?hr ?_; (case hd => rfl); (case hg => rfl); (case hr => first | (go_simp; done) | (go_simp; rfl)); intro gb351 hg w38 hbox hb; have n0_ := Aside0.mk (below_step (bw HB.out) hb); have n1_ := Aside0.mk (hbox); have n2_ := Aside0.mk ((by rw [hg]; exact (below_size (bw HB.out)) : w.heap.size ≤ gb351)); have n3_ := Aside0.mk ((by rw [hg]; exact (below_size (bw HB.out)) : w.heap.size ≤ gb351)); clear HB; have HB := n0_; have BK351 := n1_; have GW351 := n2_; have GE351 := n3_; clear n0_ n1_ n2_ n3_; clear hb hbox hg; have hcz39_0 : w38.cell? ⟨gb351, 0, none⟩ = some (.int .i64 a0_0) := (blk_cell BK351.out 0).trans rfl; have hcz39_1 : w38.cell? ⟨gb351, 1, none⟩ = some (.int .i64 a0_1) := (blk_cell BK351.out 1).trans rfl; have hfz39_0 := blk_frozen BK351.out 0; have hfz39_1 := blk_frozen BK351.out 1) | ((with_reducible refine gate_callee (f := 64) rfl ?_); refine goesL_ (some 11) rfl rfl Tryz.func64 (by kernel_rfl) rfl #[.agg #[.int .i64 a0_0, .int .i64 a0_1]] rfl mq ?_; (with_reducible refine (acreageref05_Valid.calls a0_0 a0_1 true _ A3.out).mono ?_); rintro e w40 ⟨rfl, hb⟩; refine ⟨_, rfl, ?_⟩; have n0_ := Aside0.mk (blk_below (g := gb351) (o := .cells #[.int .i64 a0_0, .int .i64 a0_1] 23 (0, 0)) (bq BK351.out) hb); have n1_ := Aside0.mk (below_step (by repeat (first | (with_reducible first | exact HB.out | apply below_alloc | apply pw_below_drewN | apply below_drew1 | refine below_set ?_ GE351.out) | exact HB.out)) hb); clear BK351; clear HB; have BK351 := n0_; have HB := n1_; clear n0_ n1_; (try clear hb); (try clear hb2); (try clear hk); (try clear hi); have hcz41_0 : w40.cell? ⟨gb351, 0, none⟩ = some (.int .i64 a0_0) := (blk_cell BK351.out 0).trans rfl; have hcz41_1 : w40.cell? ⟨gb351, 1, none⟩ = some (.int .i64 a0_1) := (blk_cell BK351.out 1).trans rfl; have hfz41_0 := blk_frozen BK351.out 0; have hfz41_1 := blk_frozen BK351.out 1) | ((with_reducible refine gate_callee (f := 65) rfl ?_); refine goesL_ (some 15) rfl rfl Tryz.func65 (by kernel_rfl) rfl #[.agg #[.int .i64 a0_0, .int .i64 a0_1], .slice A1 l1.length c1] rfl mq ?_; (with_reducible refine (acreageref05_trials.calls k a0_0 a0_1 _ _ l1 t353 _ ?side1 ?side2 A5.out).mono ?_); (case side1 => repeat (first | exact (Kd.C_below HR1.out HB.out) | (with_reducible refine Kd.C_alloc ?_ _) | (with_reducible refine Kd.C_drewN ?_ _) | (with_reducible refine Kd.C_drew ?_))); (case side2 => exact HC1.out); rintro e w42 ⟨rfl, hb⟩; refine ⟨_, rfl, ?_⟩; have n0_ := Aside0.mk (blk_below (g := gb351) (o := .cells #[.int .i64 a0_0, .int .i64 a0_1] 23 (0, 0)) (bq BK351.out) hb); have n1_ := Aside0.mk (below_step (by repeat (first | (with_reducible first | exact HB.out | apply below_alloc | apply pw_below_drewN | apply below_drew1 | refine below_set ?_ GE351.out) | exact HB.out)) hb); clear BK351; clear HB; have BK351 := n0_; have HB := n1_; clear n0_ n1_; (try clear hb); (try clear hb2); (try clear hk); (try clear hi)))
   go_ret2
   exact ⟨_, by first | rfl | (simp [errW_none, errW_some] <;> rfl) | (simp [*, errW_none, errW_some] <;> rfl), by first | exact Kd.R_nil _ _ _ _ _ | exact Kd.N_nil _ _ _ _ _ | exact Kd.V_nil _ _ _ _ _ | exact Kd.Q_nil _ _ _ _ _ | exact Kd.S_nil _ _ _ _ _, by repeat (first | (with_reducible first | exact HB.out | apply below_alloc | apply pw_below_drewN | apply below_drew1 | refine below_set ?_ GE351.out) | exact HB.out)⟩
 ·replace c4 := Bool.eq_false_iff.mpr c4
  subst c4
  have H1 : (some (([] : List (S59)), 50)) = some (r1, r2) := by rw [if_neg (show ¬ (false = true) by decide)] at H; exact H
  clear H
  have H := H1
  clear H1
  simp only [Option.some.injEq, Prod.mk.injEq] at H
  obtain ⟨rfl, rfl⟩ := H
  go_enter Tryz.func16, Tryz.ntmps16
  go_wp2_with (first | ((with_reducible refine gate_dst (N := 2) rfl ?_); refine box_event ?hg (N := 2) ?hd (cs := #[.int .i64 a0_0, .int .i64 a0_1]) (t := 23) ?hr ?_; (case hd => rfl); (case hg => rfl); (case hr => first | (go_simp; done) | (go_simp; rfl)); intro gb351 hg w43 hbox hb; have n0_ := Aside0.mk (below_step (bw HB.out) hb); have n1_ := Aside0.mk (hbox); have n2_ := Aside0.mk ((by rw [hg]; exact (below_size (bw HB.out)) : w.heap.size ≤ gb351)); have n3_ := Aside0.mk ((by rw [hg]; exact (below_size (bw HB.out)) : w.heap.size ≤ gb351)); clear HB; have HB := n0_; have BK351 := n1_; have GW351 := n2_; have GE351 := n3_; clear n0_ n1_ n2_ n3_; clear hb hbox hg; have hcz44_0 : w43.cell? ⟨gb351, 0, none⟩ = some (.int .i64 a0_0) := (blk_cell BK351.out 0).trans rfl; have hcz44_1 : w43.cell? ⟨gb351, 1, none⟩ = some (.int .i64 a0_1) := (blk_cell BK351.out 1).trans rfl; have hfz44_0 := blk_frozen BK351.out 0; have hfz44_1 := blk_frozen BK351.out 1) | ((with_reducible refine gate_callee (f := 64) rfl ?_); refine goesL_ (some 11) rfl rfl Tryz.func64 (by kernel_rfl) rfl #[.agg #[.int .i64 a0_0, .int .i64 a0_1]] rfl mq ?_; (with_reducible refine (acreageref05_Valid.calls a0_0 a0_1 false _ A3.out).mono ?_); rintro e w45 ⟨rfl, hb⟩; refine ⟨_, rfl, ?_⟩; have n0_ := Aside0.mk (blk_below (g := gb351) (o := .cells #[.int .i64 a0_0, .int .i64 a0_1] 23 (0, 0)) (bq BK351.out) hb); have n1_ := Aside0.mk (below_step (by repeat (first | (with_reducible first | exact HB.out | apply below_alloc | apply pw_below_drewN | apply below_drew1 | refine below_set ?_ GE351.out) | exact HB.out)) hb); clear BK351; clear HB; have BK351 := n0_; have HB := n1_; clear n0_ n1_; (try clear hb); (try clear hb2); (try clear hk); (try clear hi)))
  go_ret2
  exact ⟨_, by first | rfl | (simp [errW_none, errW_some] <;> rfl) | (simp [*, errW_none, errW_some] <;> rfl), by first | exact Kd.R_nil _ _ _ _ _ | exact Kd.N_nil _ _ _ _ _ | exact Kd.V_nil _ _ _ _ _ | exact Kd.Q_nil _ _ _ _ _ | exact Kd.S_nil _ _ _ _ _, by repeat (first | (with_reducible first | exact HB.out | apply below_alloc | apply pw_below_drewN | apply below_drew1 | refine below_set ?_ GE351.out) | exact HB.out)⟩
theorem acreageref05_Valid.eval (D S : Int) : acreageref05_Valid.f D S = some (wOkB D S) := by
 unfold acreageref05_Valid.f wOkB wOk
 by_cases h1 : 10 ≤ D
 ·by_cases h2 : D ≤ 10000
  ·by_cases h3 : 0 ≤ S
   ·by_cases h4 : S ≤ 100
    ·simp [h1, h2, h3, h4, wrap64_id (x := 2 * S) (by omega) (by omega)]
    ·simp [h1, h2, h3, h4]
   ·simp [h1, h2, h3]
  ·simp [h1, h2]
 ·simp [h1]
theorem acreageref05_bounds.eval (s : S59) : acreageref05_bounds.f s.f0 s.f1 = some (spanOk s) := by
 unfold acreageref05_bounds.f
 cases hs : spanOk s with
 |true =>
  obtain ⟨h1, h2, h3⟩ := spanOk_iff.1 hs
  rw [if_pos h1, if_pos h2, decide_eq_true h3]
 |false =>
  have : ¬ (0 ≤ s.f0 ∧ s.f0 ≤ s.f1 ∧ s.f1 ≤ 1073741824) := fun h => by rw [spanOk_iff.2 h] at hs; cases hs
  by_cases h1 : s.f0 ≥ 0
  ·by_cases h2 : s.f0 ≤ s.f1
   ·rw [if_pos h1, if_pos h2, decide_eq_false (fun h3 => this ⟨h1, h2, h3⟩)]
   ·rw [if_pos h1, if_neg h2]
  ·rw [if_neg h1]
theorem placeOk_iff {D s : Int} : placeOk D s = true ↔ 0 ≤ s ∧ s < D := by
 unfold placeOk
 simp only [Bool.and_eq_true, decide_eq_true_eq]
 omega
theorem acreageref05_dial.eval (D S a b : Int) : acreageref05_dial.f D S a b = some (placeOk D a && placeOk D b) := by
 unfold acreageref05_dial.f
 cases ha : placeOk D a with
 |true =>
  obtain ⟨h1, h2⟩ := placeOk_iff.1 ha
  rw [if_pos h1, if_pos h2, Bool.true_and]
  cases hb : placeOk D b with
  |true =>
   obtain ⟨h3, h4⟩ := placeOk_iff.1 hb
   rw [if_pos h3, decide_eq_true h4]
  |false =>
   have : ¬ (0 ≤ b ∧ b < D) := fun h => by rw [placeOk_iff.2 h] at hb; cases hb
   by_cases h3 : b ≥ 0
   ·rw [if_pos h3, decide_eq_false (fun h4 => this ⟨h3, h4⟩)]
   ·rw [if_neg h3]
 |false =>
  have : ¬ (0 ≤ a ∧ a < D) := fun h => by rw [placeOk_iff.2 h] at ha; cases ha
  rw [Bool.false_and]
  by_cases h3 : a ≥ 0
  ·rw [if_pos h3, if_neg (fun h4 => this ⟨h3, h4⟩)]
  ·rw [if_neg h3]
theorem acreageref05_RightTrial.eval (D S : Int) (x : S61) : acreageref05_RightTrial.f D S x.f0.f0 x.f0.f1 x.f1 x.f2 = some (trialOk D x) := by
 unfold acreageref05_RightTrial.f trialOk
 rw [acreageref05_bounds.eval, acreageref05_dial.eval, Option.bind_some, Option.bind_some]
 cases spanOk x.f0 <;> rfl
theorem getD61 {l : List S61} {i : Nat} (h : i < l.length) : rd_T61 l (i : Int) = l[i] := by unfold rd_T61; rw [Int.toNat_natCast, List.getD_eq_getElem?_getD, List.getElem?_eq_getElem h, Option.getD_some]
theorem ref_trials_loop (D S : Int) (l : List S61) (hl : l.length ≤ 1000) : ∀ (m i : Nat), i + m = l.length → ∀ k, acreageref05_trials.l0 (k + m + 1) l (i : Int) D S = some (if (l.drop i).any (fun x => !trialOk D x) then 51 else 0) := by
 intro m
 induction m with
 |zero =>
  intro i hi k
  obtain rfl : i = l.length := by omega
  simp only [acreageref05_trials.l0, Nat.add_zero]
  rw [if_neg (by omega), List.drop_length]
  rfl
 |succ m ih =>
  intro i hi k
  have hlt : i < l.length := by omega
  obtain ⟨K, hK⟩ : ∃ K, K = k + m + 1 := ⟨_, rfl⟩
  rw [show k + (m + 1) + 1 = K + 1 by omega]
  simp only [acreageref05_trials.l0]
  rw [if_pos (by omega), if_pos (by omega), getD61 hlt, acreageref05_RightTrial.eval, Option.bind_some, List.drop_eq_getElem_cons hlt, List.any_cons]
  cases ht : trialOk D l[i] with
  |true =>
   rw [if_pos rfl, wrap64_id (x := (i : Int) + 1) (by omega) (by omega), show (i : Int) + 1 = ((i + 1 : Nat) : Int) by omega, hK, ih (i + 1) (by omega)]
   simp
  |false => simp
def trialsErr (D : Int) (l : List S61) : Int := if 16 < l.length then 51 else if l.any (fun x => !trialOk D x) then 51 else 0
theorem ref_trials.eval (D S : Int) (l : List S61) : Ev (fun k => acreageref05_trials.f k D S l) (trialsErr D l) := by
 unfold acreageref05_trials.f trialsErr
 by_cases h : 16 < l.length
 ·refine ⟨0, fun k _ => ?_⟩
  simp only
  rw [if_pos (by omega), if_pos h]
 ·refine ⟨l.length + 1, fun k hk => ?_⟩
  obtain ⟨j, rfl⟩ : ∃ j, k = j + l.length + 1 := ⟨k - l.length - 1, by omega⟩
  have := ref_trials_loop D S l (by omega) l.length 0 (by omega) j
  rw [show ((0 : Nat) : Int) = 0 from rfl] at this
  simp only
  rw [if_neg (by omega), if_neg h, this, List.drop_zero]
theorem Fit.eval {l : List S59} (h : ∀ s ∈ l, SpIn s) : acreageref02_Fit.f l = some (fitR l) := by
 unfold acreageref02_Fit.f fitR
 by_cases h64 : 64 < l.length
 ·rw [if_pos (by omega), if_pos h64]
 ·rw [if_neg (by omega), if_neg h64]
  by_cases h0 : l.length = 0
  ·rw [if_neg (by omega)]
  ·have hx : rd_T59 l 0 ∈ l := by unfold rd_T59; exact mem_getD (by simp; omega) z59
   have hw : wrap64 ((l.length : Int) - 1) = ((l.length - 1 : Nat) : Int) := by rw [wrap64_id (by omega) (by omega)]; omega
   have hy : rd_T59 l ((l.length - 1 : Nat) : Int) ∈ l := by unfold rd_T59; exact mem_getD (by simp; omega) z59
   have h1 := h _ hx
   have h2 := h _ hy
   rw [if_pos (by omega), if_pos (by omega), if_neg (by have := h1.1; omega), hw, if_pos (by omega), if_pos (by omega), if_neg (by have := h2.2.2; omega)]
theorem runsIn_next (p : Int → Bool) {lo c : Int} (h : lo ≤ c) : runsIn p lo c = if p c then (jstep (runsIn p lo (c - 1)).reverse ⟨c, c⟩).reverse else runsIn p lo (c - 1) := by
 have hcan := runsIn_canon p lo (c - 1)
 have hmem := runsIn_mem p lo (c - 1)
 cases hp : p c with
 |false =>
  rw [if_neg (by simp)]
  refine runsIn_eq hcan fun x => ?_
  rw [hmem]
  constructor
  ·rintro ⟨h1, h2, h3⟩; exact ⟨h1, by omega, h3⟩
  ·rintro ⟨h1, h2, h3⟩
   refine ⟨h1, ?_, h3⟩
   rcases Int.lt_or_le x c with g | g
   ·omega
   ·obtain rfl : x = c := by omega
    rw [hp] at h3; cases h3
 |true =>
  rw [if_pos rfl]
  obtain ⟨g1, g2, _⟩ := jstep_spec (o := (runsIn p lo (c - 1)).reverse) (x := ⟨c, c⟩) (by rw [List.reverse_reverse]; exact hcan) (Int.le_refl _) (fun s hs => by
   have hs' := List.mem_reverse.1 hs
   have hne := hcan.ne s hs'
   have := (hmem s.f0).1 ⟨s, hs', Int.le_refl _, hne⟩
   show s.f0 ≤ c
   omega)
  refine runsIn_eq g1 fun x => ?_
  rw [memR_reverse, g2, memR_reverse, hmem]
  show (lo ≤ x ∧ x ≤ c - 1 ∧ _) ∨ (c ≤ x ∧ x ≤ c) ↔ _
  constructor
  ·rintro (⟨h1, h2, h3⟩ | ⟨h1, h2⟩)
   ·exact ⟨h1, by omega, h3⟩
   ·obtain rfl : x = c := by omega
    exact ⟨h, by omega, hp⟩
  ·rintro ⟨h1, h2, h3⟩
   rcases Int.lt_or_le x c with g | g
   ·exact .inl ⟨h1, by omega, h3⟩
   ·exact .inr ⟨g, h2⟩
theorem runsIn_len (p : Int → Bool) (lo hi : Int) : (runsIn p lo hi).length ≤ (hi - lo + 1).toNat := by
 unfold runsIn
 generalize (hi - lo + 1).toNat = n
 induction n generalizing lo with
 |zero => simp [runs]
 |succ n ih =>
  unfold runs
  have h := ih (lo + 1)
  split
  ·cases hr : runs p (lo + 1) n with
   |nil => simp [rcons]
   |cons s r =>
    rw [hr] at h
    show (if s.f0 = lo + 1 then (⟨lo, s.f1⟩ :: r : List S59) else ⟨lo, lo⟩ :: s :: r).length ≤ n + 1
    split <;> simp at h ⊢ <;> omega
  ·omega
theorem runsIn_congr {p q : Int → Bool} {lo hi : Int} (h : ∀ x, lo ≤ x → x ≤ hi → p x = q x) : runsIn p lo hi = runsIn q lo hi := by
 refine runsIn_eq (runsIn_canon _ _ _) fun x => ?_
 rw [runsIn_mem]
 constructor
 ·rintro ⟨h1, h2, h3⟩; exact ⟨h1, h2, by rw [h x h1 h2]; exact h3⟩
 ·rintro ⟨h1, h2, h3⟩; exact ⟨h1, h2, by rw [← h x h1 h2]; exact h3⟩
def markP (ms : List Bool) (c : Int) : Bool := ms.getD c.toNat false
theorem numbers_loop (ms : List Bool) (hlen : ms.length ≤ 2000) : ∀ (m c : Nat), 1 ≤ c → c + m = ms.length → ∀ k, acreageref05_numbers.l0 (k + 2 * m + 1) ms (runsIn (markP ms) 1 ((c : Int) - 1)) (c : Int) = some (fitR (runsIn (markP ms) 1 ((ms.length : Int) - 1))) := by
 intro m
 induction m with
 |zero =>
  intro c hc hcm k
  obtain rfl : c = ms.length := by omega
  simp only [acreageref05_numbers.l0, Nat.add_zero, Nat.mul_zero]
  rw [if_neg (by omega), Fit.eval (runsIn_in (by omega) (by omega))]
  rfl
 |succ m ih =>
  intro c hc hcm k
  have hrd : rdOf false ms (c : Int) = markP ms (c : Int) := rfl
  have hl := runsIn_len (markP ms) 1 ((c : Int) - 1)
  have hn := runsIn_next (markP ms) (lo := 1) (c := (c : Int)) (by omega)
  have hcan := runsIn_canon (markP ms) 1 ((c : Int) - 1)
  have hmem := runsIn_mem (markP ms) 1 ((c : Int) - 1)
  have hc1 : ((c + 1 : Nat) : Int) - 1 = (c : Int) := by omega
  have hi := ih (c + 1) (by omega) (by omega) k
  rw [hc1, hn] at hi
  have hw1 : wrap64 ((c : Int) + 1) = ((c + 1 : Nat) : Int) := by rw [wrap64_id (by omega) (by omega)]; omega
  have hw2 : wrap64 ((c : Int) - 1) = (c : Int) - 1 := wrap64_id (by omega) (by omega)
  obtain ⟨K, hK⟩ : ∃ K, K = k + 2 * m + 1 := ⟨_, rfl⟩
  rw [← hK] at hi
  rw [show k + 2 * (m + 1) + 1 = K + 1 + 1 by omega]
  simp only [acreageref05_numbers.l0, hrd, hw1, hw2]
  rw [if_pos (by omega), if_pos (by omega)]
  obtain ⟨o, ho⟩ : ∃ o, o = (runsIn (markP ms) 1 ((c : Int) - 1)).reverse := ⟨_, rfl⟩
  have ho2 : runsIn (markP ms) 1 ((c : Int) - 1) = o.reverse := by rw [ho, List.reverse_reverse]
  rw [← ho] at hi
  rw [ho2] at hl hcan hmem hi ⊢
  cases hp : markP ms (c : Int) with
  |false =>
   rw [hp, if_neg (by simp)] at hi
   rw [if_neg (by simp)]
   simp only [acreageref05_numbers.j1, hrd, hw1, hp]
   rw [if_neg (by simp), if_pos (by omega), if_pos (by omega), if_neg (by simp)]
   exact hi
  |true =>
   rw [hp, if_pos rfl] at hi
   rw [if_pos rfl]
   cases o with
   |nil =>
    rw [if_neg (by simp)]
    simp only [acreageref05_numbers.j1, hrd, hw1, hp]
    rw [if_neg (by simp), if_pos (by omega), if_pos (by omega), if_pos trivial, if_pos (by simp)]
    exact hi
   |cons y r =>
    have hr : r.length < 1000000000000000 := by simp at hl; omega
    have hy : y.f1 ≤ (c : Int) - 1 := by
     have hyr : y ∈ (y :: r).reverse := by simp
     exact ((hmem y.f1).1 ⟨y, hyr, hcan.ne y hyr, Int.le_refl _⟩).2.1
    rw [if_pos (by simp), last_idx y r hr, if_pos (by omega), if_pos (by simp <;> omega), rd_last]
    rw [jstep_cons] at hi
    simp only at hi
    by_cases he : y.f1 = (c : Int) - 1
    ·rw [show (y.f1 == (c : Int) - 1) = true by simpa using he]
     simp only [acreageref05_numbers.j1]
     rw [if_pos trivial, last_idx y r hr, if_pos (by omega), if_pos (by simp <;> omega), rd_last, set_last, hw1]
     rw [if_pos (by omega), show max y.f1 (c : Int) = (c : Int) by omega] at hi
     exact hi
    ·rw [show (y.f1 == (c : Int) - 1) = false by simpa using he]
     simp only [acreageref05_numbers.j1, hrd, hw1, hp]
     rw [if_neg (by simp), if_pos (by omega), if_pos (by omega), if_pos trivial, if_pos (by simp; simp at hl; omega)]
     rw [if_neg (by omega)] at hi
     rw [show (y :: r).reverse ++ [(⟨(c : Int), (c : Int)⟩ : S59)] = (⟨(c : Int), (c : Int)⟩ :: y :: r).reverse by simp]
     exact hi
theorem numbers.eval (ms : List Bool) (h0 : 1 ≤ ms.length) (hlen : ms.length ≤ 2000) : Ev (fun k => acreageref05_numbers.f k ms) (fitR (runsIn (markP ms) 1 ((ms.length : Int) - 1))) := by
 refine ⟨2 * ms.length, fun k hk => ?_⟩
 obtain ⟨j, rfl⟩ : ∃ j, k = j + 2 * (ms.length - 1) + 1 := ⟨k - 2 * (ms.length - 1) - 1, by omega⟩
 exact numbers_loop ms hlen (ms.length - 1) 1 (Nat.le_refl _) (by omega) j
def marksTo (q : Int → Bool) (c : Nat) : List Bool := (List.range 1001).map fun j => decide (1 ≤ j) && (decide (j < c) && q (j : Int))
theorem marksTo_len (q : Int → Bool) (c : Nat) : (marksTo q c).length = 1001 := by simp [marksTo]
theorem marksTo_start (q : Int → Bool) : List.replicate 1001 false = marksTo q 1 := by
 refine List.ext_getElem (by rw [List.length_replicate, marksTo_len]) fun i h1 h2 => ?_
 have : ¬ (1 ≤ i ∧ i < 1) := by omega
 simp only [marksTo, List.getElem_replicate, List.getElem_map, List.getElem_range]
 by_cases h : 1 ≤ i
 ·have : ¬ i < 1 := by omega
  simp [this]
 ·simp [h]
theorem marksTo_set (q : Int → Bool) (c : Nat) (h0 : 1 ≤ c) (h1 : c ≤ 1000) : (marksTo q c).set c (q (c : Int)) = marksTo q (c + 1) := by
 refine List.ext_getElem (by rw [List.length_set, marksTo_len, marksTo_len]) fun i g1 g2 => ?_
 simp only [marksTo, List.getElem_set, List.getElem_map, List.getElem_range]
 by_cases e : c = i
 ·subst e
  simp [h0]
 ·rw [if_neg e]
  by_cases h : i < c
  ·have : i < c + 1 := by omega
   simp [h, this]
  ·have : ¬ i < c + 1 := by omega
   simp [h, this]
theorem markP_to (q : Int → Bool) (x : Int) (h0 : 1 ≤ x) (h1 : x ≤ 1000) : markP (marksTo q 1001) x = q x := by
 unfold markP marksTo
 obtain ⟨n, rfl⟩ : ∃ n : Nat, x = (n : Int) := ⟨x.toNat, by omega⟩
 have e1 : 1 ≤ n := by omega
 have e2 : n < 1001 := by omega
 rw [Int.toNat_natCast, List.getD_eq_getElem?_getD, List.getElem?_eq_getElem (by simpa using e2)]
 simp [e1, e2]
theorem marks_numbers (q : Int → Bool) : Ev (fun k => acreageref05_numbers.f k (marksTo q 1001)) (fitR (runsIn q 1 1000)) := by
 have h := numbers.eval (marksTo q 1001) (by rw [marksTo_len]; omega) (by rw [marksTo_len]; omega)
 rw [marksTo_len] at h
 rw [show ((1001 : Nat) : Int) - 1 = 1000 by rfl, runsIn_congr (fun x h1 h2 => markP_to q x h1 h2)] at h
 exact h
end Go.Proofs.YtgakfgedaipdmaaGreatDoor.P
