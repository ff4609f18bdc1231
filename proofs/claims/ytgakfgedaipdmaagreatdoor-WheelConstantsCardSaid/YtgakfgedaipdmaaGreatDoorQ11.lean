/- A part of the proof. -/
import Derived.Test.YtgakfgedaipdmaaGreatDoorQ10
namespace Go.Proofs.YtgakfgedaipdmaaGreatDoor.P
open Go.RowKit Go.Proofs.YtgakfgedaipdmaaGreatDoorW.PrintWords Go.Proofs.YtgakfgedaipdmaaGreatDoorW.PrintLast Go.Proofs.YtgakfgedaipdmaaGreatDoorW.PrintMore
attribute [local go_sem] max2_int min2_int max_two min_two max_three min_three max_four min_four
set_option linter.unusedVariables false
set_option linter.unusedSimpArgs false
theorem rdOf_set_self (M : List Bool) (c : Nat) (b : Bool) (h : c < M.length) : rdOf false (M.set c b) (c : Int) = b := by
 show (M.set c b).getD ((c : Int)).toNat false = b
 rw [Int.toNat_natCast, List.getD_eq_getElem?_getD, List.getElem?_set_self h]
 rfl
theorem cons_inner (D S : Int) (l : List S61) (hw : wOk D S) (hl : l.length ≤ 1000) (ht : ∀ x ∈ l, trialOk D x = true) (M : List Bool) (hM : M.length = 1001) (c : Nat) (h0 : 1 ≤ c) (h1 : c ≤ 1000) (r : List S59 × Int) : ∀ (m i : Nat), i + m = l.length → ∀ b,
  Ev (fun k => acreageref05_Constants.l0 k l (M.set c (b && (l.drop i).all (fitB D S (c : Int)))) ((c + 1 : Nat) : Int) D S) r → Ev (fun k => acreageref05_Constants.l1 k l (M.set c b) (c : Int) (i : Int) D S) r := by
 have hw1 : wrap64 ((c : Int) + 1) = ((c + 1 : Nat) : Int) := by rw [wrap64_id (by omega) (by omega)]; omega
 intro m
 induction m with
 |zero =>
  intro i hi b h
  obtain rfl : i = l.length := by omega
  rw [List.drop_length] at h
  simp only [List.all_nil, Bool.and_true] at h
  refine Ev.step (fun k => ?_) h
  simp only [acreageref05_Constants.l1]
  rw [if_neg (by omega), hw1]
 |succ m ih =>
  intro i hi b h
  have hlt : i < l.length := by omega
  have hw2 : wrap64 ((i : Int) + 1) = ((i + 1 : Nat) : Int) := by rw [wrap64_id (by omega) (by omega)]; omega
  rw [List.drop_eq_getElem_cons hlt, List.all_cons] at h
  have hset : ∀ x, (M.set c b).set c x = M.set c x := fun x => by rw [List.set_set]
  cases b with
  |false =>
   refine Ev.step (fun k => ?_) (ih (i + 1) (by omega) false (by simpa using h))
   simp only [acreageref05_Constants.l1]
   rw [if_pos (by omega), if_pos (by omega), if_pos (by rw [List.length_set, hM]; omega), rdOf_set_self M c false (by omega), if_neg (by simp), Int.toNat_natCast, hset, hw2]
  |true =>
   have hf := ref_fits.eval D S (c : Int) l[i] hw ⟨by omega, by omega⟩ (ht _ (List.getElem_mem hlt))
   have hi := ih (i + 1) (by omega) (fitB D S (c : Int) l[i]) (by simpa using h)
   refine Ev.step (f := fun k => (acreageref05_fits.f k D S l[i].f0.f0 l[i].f0.f1 l[i].f1 l[i].f2 (c : Int)).bind fun t => acreageref05_Constants.l1 k l (M.set c t) (c : Int) ((i + 1 : Nat) : Int) D S) (fun k => ?_) (Ev.bind hf hi)
   simp only [acreageref05_Constants.l1]
   rw [if_pos (by omega), if_pos (by omega), if_pos (by rw [List.length_set, hM]; omega), rdOf_set_self M c true (by omega), if_pos rfl, if_pos (by omega), getD61 hlt, Int.toNat_natCast, hw2]
   simp only [hset]
def allFit (D S : Int) (l : List S61) (c : Int) : Bool := l.all (fitB D S c)
theorem cons_outer (D S : Int) (l : List S61) (hw : wOk D S) (hl : l.length ≤ 1000) (ht : ∀ x ∈ l, trialOk D x = true) : ∀ (m c : Nat), 1 ≤ c → c + m = 1001 →
  Ev (fun k => acreageref05_Constants.l0 k l (marksTo (allFit D S l) c) (c : Int) D S) (fitR (runsIn (allFit D S l) 1 1000)) := by
 intro m
 induction m with
 |zero =>
  intro c h0 hm
  obtain rfl : c = 1001 := by omega
  have h := marks_numbers (allFit D S l)
  refine Ev.step (f := fun k => (acreageref05_numbers.f k (marksTo (allFit D S l) 1001)).bind fun bt => some (bt.1, bt.2)) (fun k => ?_) (Ev.bind h (Ev.now _))
  simp only [acreageref05_Constants.l0]
  rw [if_neg (by omega)]
 |succ m ih =>
  intro c h0 hm
  have h := ih (c + 1) (by omega) (by omega)
  rw [← marksTo_set (allFit D S l) c h0 (by omega)] at h
  have h2 := cons_inner D S l hw hl ht (marksTo (allFit D S l) c) (marksTo_len _ _) c h0 (by omega) _ l.length 0 (by omega) true (by
   rw [List.drop_zero, Bool.true_and]
   exact h)
  refine Ev.step (fun k => ?_) h2
  simp only [acreageref05_Constants.l0]
  rw [if_pos (by omega), if_pos (by omega), if_pos (by rw [marksTo_len]; omega), Int.toNat_natCast]
  rfl
def constR (D S : Int) (l : List S61) : List S59 × Int := if wOkB D S then (if trialsErr D l = 0 then fitR (runsIn (allFit D S l) 1 1000) else ([], trialsErr D l)) else ([], 50)
theorem ref_Constants.eval (D S : Int) (l : List S61) : Ev (fun k => acreageref05_Constants.f k D S l) (constR D S l) := by
 unfold constR
 unfold acreageref05_Constants.f
 rw [acreageref05_Valid.eval]
 simp only [Option.bind_some]
 cases hw : wOkB D S with
 |false => exact ⟨0, fun k _ => by simp⟩
 |true =>
  simp only [if_true]
  refine Ev.bind (ref_trials.eval D S l) ?_
  by_cases ht : trialsErr D l = 0
  ·simp only [ht, if_true]
   have hl : l.length ≤ 16 ∧ ∀ x ∈ l, trialOk D x = true := by
    unfold trialsErr at ht
    by_cases h : 16 < l.length
    ·rw [if_pos h] at ht; cases ht
    ·rw [if_neg h] at ht
     refine ⟨by omega, fun x hx => ?_⟩
     cases ha : l.any (fun x => !trialOk D x) with
     |true => rw [ha] at ht; simp at ht
     |false => simpa using List.any_eq_false.1 ha x hx
   rw [marksTo_start (allFit D S l)]
   exact Ev.congr (fun k => by rw [if_pos (by decide)]; rfl) (cons_outer D S l (by simpa [wOkB] using hw) (by omega) hl.2 1000 1 (Nat.le_refl _) rfl)
  ·exact ⟨0, fun k _ => by simp [ht]⟩
theorem constR_left (D S : Int) (l : List S61) : constR D S l = leftR D S l [] [z59] := by
 unfold constR leftR
 have he : opErr D S l [] [z59] = if wOkB D S then trialsErr D l else 50 := by
  unfold opErr trialsErr
  cases wOkB D S with
  |false => rfl
  |true =>
   simp only [if_true]
   rw [if_neg (by decide)]
   by_cases h : 16 < l.length
   ·simp [h]
   ·simp [h]
 rw [he]
 cases hw : wOkB D S with
 |false => simp
 |true =>
  simp only [if_true]
  by_cases ht : trialsErr D l = 0
  ·rw [if_pos ht, if_pos ht, left_joinR]
   congr 1
   refine runsIn_congr fun c h1 h2 => ?_
   unfold allFit firstP
   have : areaAt D S c [z59] (dists D [] 1) 0 = some 0 := by
    unfold areaAt leastA findI areaCan
    rfl
   cases ha : l.all (fitB D S c) with
   |false => simp
   |true =>
    rw [if_pos]
    ·rfl
    ·rw [Bool.true_and]
     show (List.range 1).all _ = true
     simp [List.range_succ, this]
  ·rw [if_neg ht, if_neg ht]
theorem eqA59 (d : Nat) (w : World) (x0 y0 : Int) (x1 y1 : Int) :
  (Op.equalIn (d + 2) 59 (.agg #[.int .i64 x0, .int .i64 x1]) (.agg #[.int .i64 y0, .int .i64 y1])).run Tryz.prog w = .ok (x0 == y0 && (x1 == y1)) w := by
 refine eqA_of Tryz.underlying59 (by kernel_rfl) ?_
 refine eqf_cons (by rfl) (by go_simp; rfl) (by go_simp; rfl) (by go_simp) ?_
 exact eqf_last (by rfl) (by go_simp; rfl) (by go_simp; rfl) (by go_simp)
end Go.Proofs.YtgakfgedaipdmaaGreatDoor.P
namespace Go.Proofs.YtgakfgedaipdmaaGreatDoor.P
open Go.RowKit Go.Proofs.YtgakfgedaipdmaaGreatDoorW.PrintWords Go.Proofs.YtgakfgedaipdmaaGreatDoorW.PrintLast Go.Proofs.YtgakfgedaipdmaaGreatDoorW.PrintMore
attribute [local go_sem] max2_int min2_int max_two min_two max_three min_three max_four min_four
set_option linter.unusedVariables false
set_option linter.unusedSimpArgs false
attribute [local go_sem high] eqA59
def acreageref02_Same.l0 : Nat → List (S59) → List (S59) → Int → Option (Bool)
 |0, _, _, _ => none
 |k + 1, x0, x1, x5 => if x5 < (x0.length : Int) then (if 0 ≤ x5 then (if x5 < (x1.length : Int) then (if (!(((rd_T59 x0 x5).f0) == ((rd_T59 x1 x5).f0)) || (!(((rd_T59 x0 x5).f1) == ((rd_T59 x1 x5).f1)))) = true then (some false) else (acreageref02_Same.l0 k x0 x1 (wrap64 (x5 + 1)))) else (none)) else (none)) else (some true)
def acreageref02_Same.f (k : Nat) (l0 : List (S59)) (l1 : List (S59)) : Option (Bool) := if (l0.length : Int) = (l1.length : Int) then (acreageref02_Same.l0 k l0 l1 0) else (some false)
theorem acreageref02_Same.mono_l : ∀ k, (∀ y0 y1 y2, LeO (acreageref02_Same.l0 k y0 y1 y2) (acreageref02_Same.l0 (k + 1) y0 y1 y2))
 |0 => fun _ _ _ r h => by simp [acreageref02_Same.l0] at h
 |k + 1 => by
  have ih0 := acreageref02_Same.mono_l k
  ·intro y0 y1 y2
   unfold acreageref02_Same.l0
   repeat' first
   |(with_reducible exact ih0 _ _ _)
   |(with_reducible exact LeO.refl _)
   |(with_reducible exact LeO.none _)
   |(with_reducible refine LeO.ite ?_ ?_)
   |(with_reducible refine LeO.bind ?_ (fun _ => ?_))
   |exact ih0 _ _ _
   |exact LeO.none _
   |refine LeO.ite ?_ ?_
   |refine LeO.bind ?_ (fun _ => ?_)
theorem acreageref02_Same.mono : ∀ a0 a1 k, LeO (acreageref02_Same.f k a0 a1) (acreageref02_Same.f (k + 1) a0 a1) := by
 intro a0 a1 k
 have ih0 := acreageref02_Same.mono_l k
 unfold acreageref02_Same.f
 repeat' first
   |(with_reducible exact ih0 _ _ _)
   |(with_reducible exact LeO.refl _)
   |(with_reducible exact LeO.none _)
   |(with_reducible refine LeO.ite ?_ ?_)
   |(with_reducible refine LeO.bind ?_ (fun _ => ?_))
   |exact ih0 _ _ _
   |exact LeO.none _
   |refine LeO.ite ?_ ?_
   |refine LeO.bind ?_ (fun _ => ?_)
set_option maxHeartbeats 8000000 in
set_option maxRecDepth 100000 in
theorem acreageref02_Same.calls (k : Nat) (A0 : Option Addr) (c0 : Nat) (l0 : List (S59)) (A1 : Option Addr) (c1 : Nat) (l1 : List (S59)) (r : Bool) (w : World) (hr0 : Kd.C k59 w A0 l0.length l0) (hc0 : l0.length ≤ c0) (hr1 : Kd.C k59 w A1 l1.length l1) (hc1 : l1.length ≤ c1) (h : acreageref02_Same.f k l0 l1 = some r) :
  Calls Tryz.prog 63 #[.slice A0 l0.length c0, .slice A1 l1.length c1] w fun e w' => e = .returned (.bool r) ∧ Drawn0 w w' := by
 have hu59 := Tryz.underlying59
 have HR0 := Aside0.mk hr0
 have HC0 := Aside0.mk hc0
 clear hr0 hc0
 have HR1 := Aside0.mk hr1
 have HC1 := Aside0.mk hc1
 clear hr1 hc1
 have H : (if (l0.length : Int) = (l1.length : Int) then (acreageref02_Same.l0 k l0 l1 0) else (some false)) = some r := h
 clear h
 by_cases c3 : (l0.length : Int) = (l1.length : Int)
 ·rw [if_pos c3] at H
  have c3b0 : ((l0.length : Int) == (l1.length : Int)) = true := beq_iff_eq.mpr c3
  have c3b1 : ((l0.length : Int) != (l1.length : Int)) = false := bne_eq_false_iff_eq.mpr c3
  have c3b2 : (l0.length == l1.length) = true := by first | simpa using c3 | (simp at c3 ⊢; omega)
  clear c3
  have H' := Aside0.mk H
  clear H
  go_enter Tryz.func63, Tryz.ntmps63
  go_wp2
  repeat (go_quiet (fail); try go_wp2)
  go_loopg [5] k (fun kq v5 w' => ∃ (x5_1 : Int), v5 = .int .i64 x5_1 ∧ Aside0 (acreageref02_Same.l0 kq l0 l1 x5_1 = some r) ∧ Aside0 (kq ≤ k) ∧ Drawn0 w w')
  case atStart => exact ⟨(0), (by first | rfl | (simp; done) | (simp [*]; done)), H', ⟨Nat.le_refl _⟩, by repeat (first | exact Drawn0.refl _ | apply Drawn0.step)⟩
  case round =>
   clear H'
   try clear c1
   try clear p2
   try clear c3
   try clear c3b0
   try clear c3b1
   try clear c3b2
   obtain ⟨x5_1, rfl, HA, HK1, ⟨m1, rfl⟩⟩ := hrel
   cases gk with
   |zero => exact absurd HA.out (by simp [acreageref02_Same.l0])
   |succ k1 =>
    have H := HA.out
    clear HA
    simp only [acreageref02_Same.l0] at H
    by_cases c4 : x5_1 < (l0.length : Int)
    ·rw [if_pos c4] at H
     have c4b0 : decide (x5_1 < (l0.length : Int)) = true := decide_eq_true c4
     clear c4
     by_cases c5 : 0 ≤ x5_1
     ·rw [if_pos c5] at H
      have c5b0 : decide (0 ≤ x5_1) = true := decide_eq_true c5
      clear c5
      by_cases c6 : x5_1 < (l1.length : Int)
      ·rw [if_pos c6] at H
       have c6b0 : decide (x5_1 < (l1.length : Int)) = true := decide_eq_true c6
       clear c6
       by_cases c7 : (!(((rd_T59 l0 x5_1).f0) == ((rd_T59 l1 x5_1).f0)) || (!(((rd_T59 l0 x5_1).f1) == ((rd_T59 l1 x5_1).f1)))) = true
       ·rw [if_pos c7] at H
        have c7b0 : (!(((rd_T59 l0 x5_1).f0) == ((rd_T59 l1 x5_1).f0)) || (!(((rd_T59 l0 x5_1).f1) == ((rd_T59 l1 x5_1).f1)))) = true := c7
        clear c7
        obtain rfl := Option.some.inj H
        have p305 : 0 ≤ (x5_1 : Int) := of_decide_eq_true aq
        have q305 : x5_1 < (l0.length : Int) := of_decide_eq_true aq
        obtain ⟨ad305, e305, hx305_0, hx305_1⟩ := at_T59 HR0.out x5_1 p305 q305
        cases e305
        replace p305 := eq_true p305
        replace q305 := eq_true q305
        have p306 : 0 ≤ (x5_1 : Int) := of_decide_eq_true aq
        have q306 : x5_1 < (l1.length : Int) := of_decide_eq_true aq
        obtain ⟨ad306, e306, hx306_0, hx306_1⟩ := at_T59 HR1.out x5_1 p306 q306
        cases e306
        replace p306 := eq_true p306
        replace q306 := eq_true q306
        go_wp2
        repeat (go_quiet (fail); try go_wp2)
        go_ret
        exact ⟨by first | rfl | (simp; done) | (simp [*]; done), by repeat (first | exact Drawn0.refl _ | apply Drawn0.step)⟩
       ·rw [if_neg c7] at H
        have c7b0 : (!(((rd_T59 l0 x5_1).f0) == ((rd_T59 l1 x5_1).f0)) || (!(((rd_T59 l0 x5_1).f1) == ((rd_T59 l1 x5_1).f1)))) = false := by simpa using c7
        clear c7
        have H' := Aside0.mk H
        clear H
        have p305 : 0 ≤ (x5_1 : Int) := of_decide_eq_true aq
        have q305 : x5_1 < (l0.length : Int) := of_decide_eq_true aq
        obtain ⟨ad305, e305, hx305_0, hx305_1⟩ := at_T59 HR0.out x5_1 p305 q305
        cases e305
        replace p305 := eq_true p305
        replace q305 := eq_true q305
        have p306 : 0 ≤ (x5_1 : Int) := of_decide_eq_true aq
        have q306 : x5_1 < (l1.length : Int) := of_decide_eq_true aq
        obtain ⟨ad306, e306, hx306_0, hx306_1⟩ := at_T59 HR1.out x5_1 p306 q306
        cases e306
        replace p306 := eq_true p306
        replace q306 := eq_true q306
        go_wp2
        repeat (go_quiet (fail); try go_wp2)
        go_roundg k1
        case measure => have := HK1.out; omega
        case rel => exact ⟨(wrap64 (x5_1 + 1)), (by first | rfl | (simp; done) | (simp [*]; done)), H', ⟨by have := HK1.out; omega⟩, by repeat (first | exact Drawn0.refl _ | apply Drawn0.step)⟩
      ·rw [if_neg c6] at H
       exact absurd H (by simp)
     ·rw [if_neg c5] at H
      exact absurd H (by simp)
    ·rw [if_neg c4] at H
     have c4b0 : decide (x5_1 < (l0.length : Int)) = false := decide_eq_false c4
     clear c4
     obtain rfl := Option.some.inj H
     go_wp2
     repeat (go_quiet (fail); try go_wp2)
     go_ret
     exact ⟨by first | rfl | (simp; done) | (simp [*]; done), by repeat (first | exact Drawn0.refl _ | apply Drawn0.step)⟩
 ·rw [if_neg c3] at H
  have c3b0 : ((l0.length : Int) == (l1.length : Int)) = false := beq_eq_false_iff_ne.mpr c3
  have c3b1 : ((l0.length : Int) != (l1.length : Int)) = true := bne_iff_ne.mpr c3
  have c3b2 : (l0.length == l1.length) = false := by first | simpa using c3 | (simp at c3 ⊢; omega)
  obtain rfl := Option.some.inj H
  go_enter Tryz.func63, Tryz.ntmps63
  go_wp2
  repeat (go_quiet (fail); try go_wp2)
  go_ret
  exact ⟨by first | rfl | (simp; done) | (simp [*]; done), by repeat (first | exact Drawn0.refl _ | apply Drawn0.step)⟩
end Go.Proofs.YtgakfgedaipdmaaGreatDoor.P
namespace Go.Proofs.YtgakfgedaipdmaaGreatDoor.P
open Go.RowKit Go.Proofs.YtgakfgedaipdmaaGreatDoorW.PrintWords Go.Proofs.YtgakfgedaipdmaaGreatDoorW.PrintLast Go.Proofs.YtgakfgedaipdmaaGreatDoorW.PrintMore
attribute [local go_sem] max2_int min2_int max_two min_two max_three min_three max_four min_four
set_option linter.unusedVariables false
set_option linter.unusedSimpArgs false
def acreagelaw05_same.f (k : Nat) (l0 : List (S59)) (a1 : Int) (l2 : List (S59)) (a3 : Int) : Option (Bool) := if a1 = a3 then ((acreageref02_Same.f k l0 l2).bind fun t367 => (some t367)) else (some false)
theorem acreagelaw05_same.mono : ∀ a0 a1 a2 a3 k, LeO (acreagelaw05_same.f k a0 a1 a2 a3) (acreagelaw05_same.f (k + 1) a0 a1 a2 a3) := by
 intro a0 a1 a2 a3 k
 unfold acreagelaw05_same.f
 repeat' first
   |(with_reducible exact acreageref02_Same.mono _ _ _)
   |(with_reducible exact LeO.refl _)
   |(with_reducible exact LeO.none _)
   |(with_reducible refine LeO.ite ?_ ?_)
   |(with_reducible refine LeO.bind ?_ (fun _ => ?_))
   |exact acreageref02_Same.mono _ _ _
   |exact LeO.none _
   |refine LeO.ite ?_ ?_
   |refine LeO.bind ?_ (fun _ => ?_)
set_option maxHeartbeats 8000000 in
set_option maxRecDepth 100000 in
theorem acreagelaw05_same.calls (k : Nat) (A0 : Option Addr) (c0 : Nat) (l0 : List (S59)) (a1 : Int) (A2 : Option Addr) (c2 : Nat) (l2 : List (S59)) (a3 : Int) (r : Bool) (w : World) (hr0 : Kd.C k59 w A0 l0.length l0) (hc0 : l0.length ≤ c0) (hr2 : Kd.C k59 w A2 l2.length l2) (hc2 : l2.length ≤ c2) (h : acreagelaw05_same.f k l0 a1 l2 a3 = some r) :
  Calls Tryz.prog 17 #[.slice A0 l0.length c0, .int .i64 a1, .slice A2 l2.length c2, .int .i64 a3] w fun e w' => e = .returned (.bool r) ∧ Drawn0 w w' := by
 have HR0 := Aside0.mk hr0
 have HC0 := Aside0.mk hc0
 clear hr0 hc0
 have HR2 := Aside0.mk hr2
 have HC2 := Aside0.mk hc2
 clear hr2 hc2
 have H : (if a1 = a3 then ((acreageref02_Same.f k l0 l2).bind fun t367 => (some t367)) else (some false)) = some r := h
 clear h
 by_cases c5 : a1 = a3
 ·rw [if_pos c5] at H
  have c5b0 : (a1 == a3) = true := beq_iff_eq.mpr c5
  have c5b1 : (a1 != a3) = false := bne_eq_false_iff_eq.mpr c5
  clear c5
  replace H := Option.bind_eq_some_iff.mp H
  obtain ⟨t367, A60, H⟩ := H
  replace H : (some t367) = some r := H
  have A6 := Aside0.mk A60
  clear A60
  obtain rfl := Option.some.inj H
  go_enter Tryz.func17, Tryz.ntmps17
  go_wp2_with (first | (go_at_call 63; (with_reducible refine (acreageref02_Same.calls k _ _ l0 _ _ l2 t367 _ ?side1 ?side2 ?side3 ?side4 A6.out).mono ?_); (case side1 => repeat (first | exact HR0.out | (with_reducible refine Kd.C_alloc ?_ _) | (with_reducible refine Kd.C_drewN ?_ _) | (with_reducible refine Kd.C_drew ?_))); (case side2 => exact HC0.out); (case side3 => repeat (first | exact HR2.out | (with_reducible refine Kd.C_alloc ?_ _) | (with_reducible refine Kd.C_drewN ?_ _) | (with_reducible refine Kd.C_drew ?_))); (case side4 => exact HC2.out); rintro e w' ⟨rfl, ⟨nd, rfl⟩⟩))
  go_ret
  exact ⟨by first | rfl | (simp; done) | (simp [*]; done), by repeat (first | exact Drawn0.refl _ | apply Drawn0.step)⟩
 ·rw [if_neg c5] at H
  have c5b0 : (a1 == a3) = false := beq_eq_false_iff_ne.mpr c5
  have c5b1 : (a1 != a3) = true := bne_iff_ne.mpr c5
  obtain rfl := Option.some.inj H
  go_enter Tryz.func17, Tryz.ntmps17
  go_wp2
  go_ret
  exact ⟨by first | rfl | (simp; done) | (simp [*]; done), by repeat (first | exact Drawn0.refl _ | apply Drawn0.step)⟩
def api_Trial_139.l0 : Nat → List (S61) → List (S61) → List Int → Int → Int → Option ((List (S61)))
 |0, _, _, _, _, _ => none
 |k + 1, x0, x5, x8, x9, x10 => if x10 < x9 then (if 0 ≤ x10 then (if x10 < (x8.length : Int) then (if 0 ≤ (rd x8 x10) then (if (rd x8 x10) < (x0.length : Int) then (if x5.length < 4398046511104 then (api_Trial_139.l0 k x0 (x5 ++ [(⟨(⟨(rd_T61 x0 (rd x8 x10)).f0.f0, (rd_T61 x0 (rd x8 x10)).f0.f1⟩ : S59), (rd_T61 x0 (rd x8 x10)).f1, (rd_T61 x0 (rd x8 x10)).f2⟩ : S61)]) x8 x9 (wrap64 (x10 + 1))) else (none)) else (none)) else (none)) else (none)) else (none)) else (some x5)
def api_Trial_139.f (k : Nat) (l0 : List (S61)) (l1 : List Int) : Option ((List (S61))) := api_Trial_139.l0 k l0 ([] : List (S61)) l1 (l1.length : Int) 0
theorem api_Trial_139.mono_l : ∀ k, (∀ y0 y1 y2 y3 y4, LeO (api_Trial_139.l0 k y0 y1 y2 y3 y4) (api_Trial_139.l0 (k + 1) y0 y1 y2 y3 y4))
 |0 => fun _ _ _ _ _ r h => by simp [api_Trial_139.l0] at h
 |k + 1 => by
  have ih0 := api_Trial_139.mono_l k
  ·intro y0 y1 y2 y3 y4
   unfold api_Trial_139.l0
   repeat' first
   |(with_reducible exact ih0 _ _ _ _ _)
   |(with_reducible exact LeO.refl _)
   |(with_reducible exact LeO.none _)
   |(with_reducible refine LeO.ite ?_ ?_)
   |(with_reducible refine LeO.bind ?_ (fun _ => ?_))
   |exact ih0 _ _ _ _ _
   |exact LeO.none _
   |refine LeO.ite ?_ ?_
   |refine LeO.bind ?_ (fun _ => ?_)
theorem api_Trial_139.mono : ∀ a0 a1 k, LeO (api_Trial_139.f k a0 a1) (api_Trial_139.f (k + 1) a0 a1) := by
 intro a0 a1 k
 have ih0 := api_Trial_139.mono_l k
 unfold api_Trial_139.f
 repeat' first
   |(with_reducible exact ih0 _ _ _ _ _)
   |(with_reducible exact LeO.refl _)
   |(with_reducible exact LeO.none _)
   |(with_reducible refine LeO.ite ?_ ?_)
   |(with_reducible refine LeO.bind ?_ (fun _ => ?_))
   |exact ih0 _ _ _ _ _
   |exact LeO.none _
   |refine LeO.ite ?_ ?_
   |refine LeO.bind ?_ (fun _ => ?_)
set_option maxHeartbeats 8000000 in
set_option maxRecDepth 100000 in
theorem api_Trial_139.calls (k : Nat) (A0 : Option Addr) (c0 : Nat) (l0 : List (S61)) (A1 : Option Addr) (c1 : Nat) (l1 : List Int) (r : List (S61)) (w : World) (hr0 : Kd.C k61 w A0 l0.length l0) (hc0 : l0.length ≤ c0) (hr1 : Kd.C (Kd.int .i64) w A1 l1.length l1) (hc1 : l1.length ≤ c1) (h : api_Trial_139.f k l0 l1 = some r) :
  Calls Tryz.prog 139 #[.slice A0 l0.length c0, .slice A1 l1.length c1] w fun e w' => ∃ v0_ : Value, e = .returned (v0_) ∧ Kd.R k61 61 w' w.heap.size (fun _ => True) v0_ r ∧ Below w.heap.size w w' := by
 have hu61 := Tryz.underlying61
 have HR0 := Aside0.mk hr0
 have HC0 := Aside0.mk hc0
 clear hr0 hc0
 have HR1 := Aside0.mk hr1
 have HC1 := Aside0.mk hc1
 clear hr1 hc1
 have HB := Aside0.mk (Below.refl w.heap.size w)
 have H : (api_Trial_139.l0 k l0 ([] : List (S61)) l1 (l1.length : Int) 0) = some r := h
 clear h
 have H' := Aside0.mk H
 clear H
 go_enter Tryz.func139, Tryz.ntmps139
 go_wp2
 go_loopg [5, 10] k (fun kq v5 v10 w' => ∃ (x5_1 : List (S61)) (x10_1 : Int), v10 = .int .i64 x10_1 ∧ Aside0 (api_Trial_139.l0 kq l0 x5_1 l1 (l1.length : Int) x10_1 = some r) ∧ Aside0 (kq ≤ k) ∧ Aside0 (Kd.R k61 61 w' w.heap.size (fun _ => True) v5 x5_1) ∧ Aside0 (Below w.heap.size w w'))
 case atStart => exact ⟨(([] : List (S61))), (0), (by first | rfl | (simp; done) | (simp [*]; done)), H', ⟨Nat.le_refl _⟩, ⟨by first | exact Kd.R_nil _ _ _ _ _ | exact Kd.N_nil _ _ _ _ _ | exact Kd.V_nil _ _ _ _ _ | exact Kd.Q_nil _ _ _ _ _ | exact Kd.S_nil _ _ _ _ _⟩, ⟨by repeat (first | (with_reducible first | exact HB.out | apply below_alloc | apply pw_below_drewN | apply below_drew1) | exact HB.out)⟩⟩
 case round =>
  clear H'
  try clear c1
  try clear p2
  obtain ⟨x5_1, x10_1, rfl, HA, HK1, HO_5, HB⟩ := hrel
  cases gk with
  |zero => exact absurd HA.out (by simp [api_Trial_139.l0])
  |succ k1 =>
   have H := HA.out
   clear HA
   simp only [api_Trial_139.l0] at H
   by_cases c3 : x10_1 < (l1.length : Int)
   ·rw [if_pos c3] at H
    have c3b0 : decide (x10_1 < (l1.length : Int)) = true := decide_eq_true c3
    clear c3
    by_cases c4 : 0 ≤ x10_1
    ·rw [if_pos c4] at H
     have c4b0 : decide (0 ≤ x10_1) = true := decide_eq_true c4
     clear c4
     by_cases c5 : x10_1 < (l1.length : Int)
     ·rw [if_pos c5] at H
      have c5b0 : decide (x10_1 < (l1.length : Int)) = true := decide_eq_true c5
      clear c5
      by_cases c6 : 0 ≤ (rd l1 x10_1)
      ·rw [if_pos c6] at H
       have c6b0 : decide (0 ≤ (rd l1 x10_1)) = true := decide_eq_true c6
       clear c6
       by_cases c7 : (rd l1 x10_1) < (l0.length : Int)
       ·rw [if_pos c7] at H
        have c7b0 : decide ((rd l1 x10_1) < (l0.length : Int)) = true := decide_eq_true c7
        clear c7
        by_cases c8 : x5_1.length < 4398046511104
        ·rw [if_pos c8] at H
         have LMc8 := Aside0.mk c8
         clear c8
         obtain ⟨y246, hy246⟩ : ∃ y_ : List (S61), y_ = (x5_1 ++ [(⟨(⟨(rd_T61 l0 (rd l1 x10_1)).f0.f0, (rd_T61 l0 (rd l1 x10_1)).f0.f1⟩ : S59), (rd_T61 l0 (rd l1 x10_1)).f1, (rd_T61 l0 (rd l1 x10_1)).f2⟩ : S61)]) := ⟨_, rfl⟩
         replace H : (api_Trial_139.l0 k1 l0 y246 l1 (l1.length : Int) (wrap64 (x10_1 + 1))) = some r := by first | (rw [hy246]; with_reducible exact H) | (have H2_ := (Option.bind_some _ _).symm.trans H; rw [hy246]; with_reducible exact H2_) | (have H2_ := (Option.bind_some _ _).symm.trans H; with_reducible exact H2_) | with_reducible exact H | (rw [hy246]; exact H) | exact H
         have Ny246 := Aside0.mk hy246
         clear hy246
         have H' := Aside0.mk H
         clear H
         have p244 : 0 ≤ (x10_1 : Int) := of_decide_eq_true aq
         have q244 : x10_1 < (l1.length : Int) := of_decide_eq_true aq
         obtain ⟨ad244, e244, hx244_0⟩ := Kd.at_int HR1.out x10_1 p244 q244
         cases e244
         replace hx244_0 := (HB.out.cell (World.block_lt_of_cell? w _ hx244_0)).trans hx244_0
         replace p244 := eq_true p244
         replace q244 := eq_true q244
         have p245 : 0 ≤ ((rd l1 x10_1) : Int) := of_decide_eq_true aq
         have q245 : (rd l1 x10_1) < (l0.length : Int) := of_decide_eq_true aq
         obtain ⟨ad245, e245, hx245_0, hx245_1, hx245_2, hx245_3⟩ := at_T61 HR0.out (rd l1 x10_1) p245 q245
         cases e245
         replace hx245_0 := (HB.out.cell (World.block_lt_of_cell? w _ hx245_0)).trans hx245_0
         replace hx245_1 := (HB.out.cell (World.block_lt_of_cell? w _ hx245_1)).trans hx245_1
         replace hx245_2 := (HB.out.cell (World.block_lt_of_cell? w _ hx245_2)).trans hx245_2
         replace hx245_3 := (HB.out.cell (World.block_lt_of_cell? w _ hx245_3)).trans hx245_3
         replace p245 := eq_true p245
         replace q245 := eq_true q245
         go_wp2_with (first | ((with_reducible refine gate_builtin (b := .append) (xs := #[.tmp 14, .tmp 19]) rfl ?_); at_builtin; refine Kd.R_append k61 (w0 := w) w.heap.size rfl (.tmp 14) (.tmp 19) 24 61 (.agg #[(.int .i64 0), (.int .i64 0), (.int .i64 0), (.int .i64 0)]) 32 rfl Tryz.underlying24 info61 rfl (by decide) (by omega) u5 x5_1 (⟨(⟨(rd_T61 l0 (rd l1 x10_1)).f0.f0, (rd_T61 l0 (rd l1 x10_1)).f0.f1⟩ : S59), (rd_T61 l0 (rd l1 x10_1)).f1, (rd_T61 l0 (rd l1 x10_1)).f2⟩ : S61) [.int .i64 ((rd_T61 l0 (rd l1 x10_1)).f0.f0), .int .i64 ((rd_T61 l0 (rd l1 x10_1)).f0.f1), .int .i64 ((rd_T61 l0 (rd l1 x10_1)).f1), .int .i64 ((rd_T61 l0 (rd l1 x10_1)).f2)] (fun _ => True) (fun _ => False) rfl rfl ?aP (fun _ hk => hk.elim) ?aF ?aO ?aB ?aS ?aL ?_; (case aP => exact k61_mkM _ _ _ (⟨(⟨(rd_T61 l0 (rd l1 x10_1)).f0.f0, (rd_T61 l0 (rd l1 x10_1)).f0.f1⟩ : S59), (rd_T61 l0 (rd l1 x10_1)).f1, (rd_T61 l0 (rd l1 x10_1)).f2⟩ : S61)); (case aB => exact (bw HB.out)); (case aF => exact (fun _ _ => trivial)); (case aO => exact (rq HO_5.out)); (case aS => exact (below_size (bw HB.out))); (case aL => have := LMc8.out; omega); intro v247 w9 ho hb hg hat; rw [← Ny246.out] at ho; have n0_ := Aside0.mk (hb); have n1_ := Aside0.mk (ho); clear HB; clear HO_5; have HB := n0_; have HO248 := n1_; clear n0_ n1_; clear ho hb hg hat))
         go_roundg k1
         case measure => have := HK1.out; omega
         case rel => exact ⟨(y246), (wrap64 (x10_1 + 1)), (by first | rfl | (simp; done) | (simp [*]; done)), H', ⟨by have := HK1.out; omega⟩, ⟨rq HO248.out⟩, ⟨by repeat (first | (with_reducible first | exact HB.out | apply below_alloc | apply pw_below_drewN | apply below_drew1) | exact HB.out)⟩⟩
        ·rw [if_neg c8] at H
         exact absurd H (by simp)
       ·rw [if_neg c7] at H
        exact absurd H (by simp)
      ·rw [if_neg c6] at H
       exact absurd H (by simp)
     ·rw [if_neg c5] at H
      exact absurd H (by simp)
    ·rw [if_neg c4] at H
     exact absurd H (by simp)
   ·rw [if_neg c3] at H
    have c3b0 : decide (x10_1 < (l1.length : Int)) = false := decide_eq_false c3
    clear c3
    obtain rfl := Option.some.inj H
    go_wp2
    go_ret
    exact ⟨_, by first | rfl | (simp [errW_none, errW_some] <;> rfl) | (simp [*, errW_none, errW_some] <;> rfl), by (with_reducible repeat (first | apply Kd.R_alloc | apply Kd.R_drewN | apply Kd.R_drew)); exact HO_5.out, by repeat (first | (with_reducible first | exact HB.out | apply below_alloc | apply pw_below_drewN | apply below_drew1) | exact HB.out)⟩
def api_Reading_140.l0 : Nat → List (S64) → List (S64) → List Int → Int → Int → Option ((List (S64)))
 |0, _, _, _, _, _ => none
 |k + 1, x0, x5, x8, x9, x10 => if x10 < x9 then (if 0 ≤ x10 then (if x10 < (x8.length : Int) then (if 0 ≤ (rd x8 x10) then (if (rd x8 x10) < (x0.length : Int) then (if x5.length < 5864062014805 then (api_Reading_140.l0 k x0 (x5 ++ [(⟨(rd_T64 x0 (rd x8 x10)).f0, (rd_T64 x0 (rd x8 x10)).f1, (rd_T64 x0 (rd x8 x10)).f2⟩ : S64)]) x8 x9 (wrap64 (x10 + 1))) else (none)) else (none)) else (none)) else (none)) else (none)) else (some x5)
def api_Reading_140.f (k : Nat) (l0 : List (S64)) (l1 : List Int) : Option ((List (S64))) := api_Reading_140.l0 k l0 ([] : List (S64)) l1 (l1.length : Int) 0
theorem api_Reading_140.mono_l : ∀ k, (∀ y0 y1 y2 y3 y4, LeO (api_Reading_140.l0 k y0 y1 y2 y3 y4) (api_Reading_140.l0 (k + 1) y0 y1 y2 y3 y4))
 |0 => fun _ _ _ _ _ r h => by simp [api_Reading_140.l0] at h
 |k + 1 => by
  have ih0 := api_Reading_140.mono_l k
  ·intro y0 y1 y2 y3 y4
   unfold api_Reading_140.l0
   repeat' first
   |(with_reducible exact ih0 _ _ _ _ _)
   |(with_reducible exact LeO.refl _)
   |(with_reducible exact LeO.none _)
   |(with_reducible refine LeO.ite ?_ ?_)
   |(with_reducible refine LeO.bind ?_ (fun _ => ?_))
   |exact ih0 _ _ _ _ _
   |exact LeO.none _
   |refine LeO.ite ?_ ?_
   |refine LeO.bind ?_ (fun _ => ?_)
theorem api_Reading_140.mono : ∀ a0 a1 k, LeO (api_Reading_140.f k a0 a1) (api_Reading_140.f (k + 1) a0 a1) := by
 intro a0 a1 k
 have ih0 := api_Reading_140.mono_l k
 unfold api_Reading_140.f
 repeat' first
   |(with_reducible exact ih0 _ _ _ _ _)
   |(with_reducible exact LeO.refl _)
   |(with_reducible exact LeO.none _)
   |(with_reducible refine LeO.ite ?_ ?_)
   |(with_reducible refine LeO.bind ?_ (fun _ => ?_))
   |exact ih0 _ _ _ _ _
   |exact LeO.none _
   |refine LeO.ite ?_ ?_
   |refine LeO.bind ?_ (fun _ => ?_)
set_option maxHeartbeats 8000000 in
set_option maxRecDepth 100000 in
theorem api_Reading_140.calls (k : Nat) (A0 : Option Addr) (c0 : Nat) (l0 : List (S64)) (A1 : Option Addr) (c1 : Nat) (l1 : List Int) (r : List (S64)) (w : World) (hr0 : Kd.C k64 w A0 l0.length l0) (hc0 : l0.length ≤ c0) (hr1 : Kd.C (Kd.int .i64) w A1 l1.length l1) (hc1 : l1.length ≤ c1) (h : api_Reading_140.f k l0 l1 = some r) :
  Calls Tryz.prog 140 #[.slice A0 l0.length c0, .slice A1 l1.length c1] w fun e w' => ∃ v0_ : Value, e = .returned (v0_) ∧ Kd.R k64 64 w' w.heap.size (fun _ => True) v0_ r ∧ Below w.heap.size w w' := by
 have hu64 := Tryz.underlying64
 have HR0 := Aside0.mk hr0
 have HC0 := Aside0.mk hc0
 clear hr0 hc0
 have HR1 := Aside0.mk hr1
 have HC1 := Aside0.mk hc1
 clear hr1 hc1
 have HB := Aside0.mk (Below.refl w.heap.size w)
 have H : (api_Reading_140.l0 k l0 ([] : List (S64)) l1 (l1.length : Int) 0) = some r := h
 clear h
 have H' := Aside0.mk H
 clear H
 go_enter Tryz.func140, Tryz.ntmps140
 go_wp2
 go_loopg [5, 10] k (fun kq v5 v10 w' => ∃ (x5_1 : List (S64)) (x10_1 : Int), v10 = .int .i64 x10_1 ∧ Aside0 (api_Reading_140.l0 kq l0 x5_1 l1 (l1.length : Int) x10_1 = some r) ∧ Aside0 (kq ≤ k) ∧ Aside0 (Kd.R k64 64 w' w.heap.size (fun _ => True) v5 x5_1) ∧ Aside0 (Below w.heap.size w w'))
 case atStart => exact ⟨(([] : List (S64))), (0), (by first | rfl | (simp; done) | (simp [*]; done)), H', ⟨Nat.le_refl _⟩, ⟨by first | exact Kd.R_nil _ _ _ _ _ | exact Kd.N_nil _ _ _ _ _ | exact Kd.V_nil _ _ _ _ _ | exact Kd.Q_nil _ _ _ _ _ | exact Kd.S_nil _ _ _ _ _⟩, ⟨by repeat (first | (with_reducible first | exact HB.out | apply below_alloc | apply pw_below_drewN | apply below_drew1) | exact HB.out)⟩⟩
 case round =>
  clear H'
  try clear c1
  try clear p2
  obtain ⟨x5_1, x10_1, rfl, HA, HK1, HO_5, HB⟩ := hrel
  cases gk with
  |zero => exact absurd HA.out (by simp [api_Reading_140.l0])
  |succ k1 =>
   have H := HA.out
   clear HA
   simp only [api_Reading_140.l0] at H
   by_cases c3 : x10_1 < (l1.length : Int)
   ·rw [if_pos c3] at H
    have c3b0 : decide (x10_1 < (l1.length : Int)) = true := decide_eq_true c3
    clear c3
    by_cases c4 : 0 ≤ x10_1
    ·rw [if_pos c4] at H
     have c4b0 : decide (0 ≤ x10_1) = true := decide_eq_true c4
     clear c4
     by_cases c5 : x10_1 < (l1.length : Int)
     ·rw [if_pos c5] at H
      have c5b0 : decide (x10_1 < (l1.length : Int)) = true := decide_eq_true c5
      clear c5
      by_cases c6 : 0 ≤ (rd l1 x10_1)
      ·rw [if_pos c6] at H
       have c6b0 : decide (0 ≤ (rd l1 x10_1)) = true := decide_eq_true c6
       clear c6
       by_cases c7 : (rd l1 x10_1) < (l0.length : Int)
       ·rw [if_pos c7] at H
        have c7b0 : decide ((rd l1 x10_1) < (l0.length : Int)) = true := decide_eq_true c7
        clear c7
        by_cases c8 : x5_1.length < 5864062014805
        ·rw [if_pos c8] at H
         have LMc8 := Aside0.mk c8
         clear c8
         obtain ⟨y251, hy251⟩ : ∃ y_ : List (S64), y_ = (x5_1 ++ [(⟨(rd_T64 l0 (rd l1 x10_1)).f0, (rd_T64 l0 (rd l1 x10_1)).f1, (rd_T64 l0 (rd l1 x10_1)).f2⟩ : S64)]) := ⟨_, rfl⟩
         replace H : (api_Reading_140.l0 k1 l0 y251 l1 (l1.length : Int) (wrap64 (x10_1 + 1))) = some r := by first | (rw [hy251]; with_reducible exact H) | (have H2_ := (Option.bind_some _ _).symm.trans H; rw [hy251]; with_reducible exact H2_) | (have H2_ := (Option.bind_some _ _).symm.trans H; with_reducible exact H2_) | with_reducible exact H | (rw [hy251]; exact H) | exact H
         have Ny251 := Aside0.mk hy251
         clear hy251
         have H' := Aside0.mk H
         clear H
         have p249 : 0 ≤ (x10_1 : Int) := of_decide_eq_true aq
         have q249 : x10_1 < (l1.length : Int) := of_decide_eq_true aq
         obtain ⟨ad249, e249, hx249_0⟩ := Kd.at_int HR1.out x10_1 p249 q249
         cases e249
         replace hx249_0 := (HB.out.cell (World.block_lt_of_cell? w _ hx249_0)).trans hx249_0
         replace p249 := eq_true p249
         replace q249 := eq_true q249
         have p250 : 0 ≤ ((rd l1 x10_1) : Int) := of_decide_eq_true aq
         have q250 : (rd l1 x10_1) < (l0.length : Int) := of_decide_eq_true aq
         obtain ⟨ad250, e250, hx250_0, hx250_1, hx250_2⟩ := at_T64 HR0.out (rd l1 x10_1) p250 q250
         cases e250
         replace hx250_0 := (HB.out.cell (World.block_lt_of_cell? w _ hx250_0)).trans hx250_0
         replace hx250_1 := (HB.out.cell (World.block_lt_of_cell? w _ hx250_1)).trans hx250_1
         replace hx250_2 := (HB.out.cell (World.block_lt_of_cell? w _ hx250_2)).trans hx250_2
         replace p250 := eq_true p250
         replace q250 := eq_true q250
         go_wp2_with (first | ((with_reducible refine gate_builtin (b := .append) (xs := #[.tmp 14, .tmp 19]) rfl ?_); at_builtin; refine Kd.R_append k64 (w0 := w) w.heap.size rfl (.tmp 14) (.tmp 19) 33 64 (.agg #[(.int .i64 0), (.int .i64 0), (.int .i64 0)]) 24 rfl Tryz.underlying33 info64 rfl (by decide) (by omega) u5 x5_1 (⟨(rd_T64 l0 (rd l1 x10_1)).f0, (rd_T64 l0 (rd l1 x10_1)).f1, (rd_T64 l0 (rd l1 x10_1)).f2⟩ : S64) [.int .i64 ((rd_T64 l0 (rd l1 x10_1)).f0), .int .i64 ((rd_T64 l0 (rd l1 x10_1)).f1), .int .i64 ((rd_T64 l0 (rd l1 x10_1)).f2)] (fun _ => True) (fun _ => False) rfl rfl ?aP (fun _ hk => hk.elim) ?aF ?aO ?aB ?aS ?aL ?_; (case aP => exact k64_mkM _ _ _ (⟨(rd_T64 l0 (rd l1 x10_1)).f0, (rd_T64 l0 (rd l1 x10_1)).f1, (rd_T64 l0 (rd l1 x10_1)).f2⟩ : S64)); (case aB => exact (bw HB.out)); (case aF => exact (fun _ _ => trivial)); (case aO => exact (rq HO_5.out)); (case aS => exact (below_size (bw HB.out))); (case aL => have := LMc8.out; omega); intro v252 w9 ho hb hg hat; rw [← Ny251.out] at ho; have n0_ := Aside0.mk (hb); have n1_ := Aside0.mk (ho); clear HB; clear HO_5; have HB := n0_; have HO253 := n1_; clear n0_ n1_; clear ho hb hg hat))
         go_roundg k1
         case measure => have := HK1.out; omega
         case rel => exact ⟨(y251), (wrap64 (x10_1 + 1)), (by first | rfl | (simp; done) | (simp [*]; done)), H', ⟨by have := HK1.out; omega⟩, ⟨rq HO253.out⟩, ⟨by repeat (first | (with_reducible first | exact HB.out | apply below_alloc | apply pw_below_drewN | apply below_drew1) | exact HB.out)⟩⟩
        ·rw [if_neg c8] at H
         exact absurd H (by simp)
       ·rw [if_neg c7] at H
        exact absurd H (by simp)
      ·rw [if_neg c6] at H
       exact absurd H (by simp)
     ·rw [if_neg c5] at H
      exact absurd H (by simp)
    ·rw [if_neg c4] at H
     exact absurd H (by simp)
   ·rw [if_neg c3] at H
    have c3b0 : decide (x10_1 < (l1.length : Int)) = false := decide_eq_false c3
    clear c3
    obtain rfl := Option.some.inj H
    go_wp2
    go_ret
    exact ⟨_, by first | rfl | (simp [errW_none, errW_some] <;> rfl) | (simp [*, errW_none, errW_some] <;> rfl), by (with_reducible repeat (first | apply Kd.R_alloc | apply Kd.R_drewN | apply Kd.R_drew)); exact HO_5.out, by repeat (first | (with_reducible first | exact HB.out | apply below_alloc | apply pw_below_drewN | apply below_drew1) | exact HB.out)⟩
def wheel_none.f (k : Nat) (a0_0 : Int) (a0_1 : Int) (l1 : List (S61)) (l2 : List (S64)) (l3 : List (S59)) (l4 : List Int) (l5 : List Int) : Option (Bool) := (api_Trial_139.f k l1 l4).bind fun t280 => ((api_Reading_140.f k l2 l5).bind fun t283 => ((wheel_Case.f a0_0 a0_1 t280 t283 l3).bind fun bt286 => (some (!bt286.2.2.1))))
theorem wheel_none.mono : ∀ a0 a1 a2 a3 a4 a5 a6 k, LeO (wheel_none.f k a0 a1 a2 a3 a4 a5 a6) (wheel_none.f (k + 1) a0 a1 a2 a3 a4 a5 a6) := by
 intro a0 a1 a2 a3 a4 a5 a6 k
 unfold wheel_none.f
 repeat' first
   |(with_reducible exact api_Reading_140.mono _ _ _)
   |(with_reducible exact api_Trial_139.mono _ _ _)
   |(with_reducible exact LeO.refl _)
   |(with_reducible exact LeO.none _)
   |(with_reducible refine LeO.ite ?_ ?_)
   |(with_reducible refine LeO.bind ?_ (fun _ => ?_))
   |exact api_Reading_140.mono _ _ _
   |exact api_Trial_139.mono _ _ _
   |exact LeO.none _
   |refine LeO.ite ?_ ?_
   |refine LeO.bind ?_ (fun _ => ?_)
def wheel_none.T1 : Bool × List (List Nat × List Nat) := (true, [([], []), ([], []), ([], []), ([1, 2], [1, 2]), ([], []), ([], []), ([4, 5, 3], [4, 5]), ([], []), ([0, 3, 6, 7, 6], [0, 3, 6, 7]), ([8], [8]), ([9], [9]), ([9], [9]), ([9], [9]), ([9], [9]), ([10, 8, 0, 1, 2, 3, 4, 5, 6, 7, 8, 9, 10], [10]), ([11, 14, 0, 1, 2, 3, 4, 5, 6, 7, 8, 9, 10, 11, 14], [11]), ([12, 15, 0, 1, 2, 3, 4, 5, 6, 7, 8, 9, 10, 11, 12, 14, 15], [12]), ([13, 16, 0, 1, 2, 3, 4, 5, 6, 7, 8, 9, 10, 11, 12, 13, 14, 15, 16], [13])])
def wheel_none.B1 : List Nat := [0, 0, 0, 6, 0, 0, 62, 0, 255, 511, 1023, 1023, 1023, 1023, 2047, 20479, 57343, 131071]
theorem wheel_none.tab1 : rtab .any (opsOf Tryz.f107 1) = wheel_none.T1 := by kernel_rfl
theorem wheel_none.bits1 : waitsOk wheel_none.T1.2 wheel_none.B1 = true := by kernel_rfl
set_option maxHeartbeats 8000000 in
set_option maxRecDepth 100000 in
theorem wheel_none.calls (k : Nat) (a0_0 : Int) (a0_1 : Int) (A1 : Option Addr) (c1 : Nat) (l1 : List (S61)) (A2 : Option Addr) (c2 : Nat) (l2 : List (S64)) (A3 : Option Addr) (c3 : Nat) (l3 : List (S59)) (A4 : Option Addr) (c4 : Nat) (l4 : List Int) (A5 : Option Addr) (c5 : Nat) (l5 : List Int) (r : Bool) (w : World) (hr1 : Kd.C k61 w A1 l1.length l1) (hc1 : l1.length ≤ c1) (hr2 : Kd.C k64 w A2 l2.length l2) (hc2 : l2.length ≤ c2) (hr3 : Kd.C k59 w A3 l3.length l3) (hc3 : l3.length ≤ c3) (hr4 : Kd.C (Kd.int .i64) w A4 l4.length l4) (hc4 : l4.length ≤ c4) (hr5 : Kd.C (Kd.int .i64) w A5 l5.length l5) (hc5 : l5.length ≤ c5) (h : wheel_none.f k a0_0 a0_1 l1 l2 l3 l4 l5 = some r) :
  Calls Tryz.prog 107 #[.agg #[.int .i64 a0_0, .int .i64 a0_1], .slice A1 l1.length c1, .slice A2 l2.length c2, .slice A3 l3.length c3, .slice A4 l4.length c4, .slice A5 l5.length c5] w fun e w' => e = .returned (.bool r) ∧ Below w.heap.size w w' := by
 have hu23 := Tryz.underlying23
 have HR1 := Aside0.mk hr1
 have HC1 := Aside0.mk hc1
 clear hr1 hc1
 have HR2 := Aside0.mk hr2
 have HC2 := Aside0.mk hc2
 clear hr2 hc2
 have HR3 := Aside0.mk hr3
 have HC3 := Aside0.mk hc3
 clear hr3 hc3
 have HR4 := Aside0.mk hr4
 have HC4 := Aside0.mk hc4
 clear hr4 hc4
 have HR5 := Aside0.mk hr5
 have HC5 := Aside0.mk hc5
 clear hr5 hc5
 have HB := Aside0.mk (Below.refl w.heap.size w)
 have H : ((api_Trial_139.f k l1 l4).bind fun t280 => ((api_Reading_140.f k l2 l5).bind fun t283 => ((wheel_Case.f a0_0 a0_1 t280 t283 l3).bind fun bt286 => (some (!bt286.2.2.1))))) = some r := h
 clear h
 replace H := Option.bind_eq_some_iff.mp H
 obtain ⟨t280, A70, H⟩ := H
 replace H : ((api_Reading_140.f k l2 l5).bind fun t283 => ((wheel_Case.f a0_0 a0_1 t280 t283 l3).bind fun bt286 => (some (!bt286.2.2.1)))) = some r := H
 have A7 := Aside0.mk A70
 clear A70
 replace H := Option.bind_eq_some_iff.mp H
 obtain ⟨t283, A80, H⟩ := H
 replace H : ((wheel_Case.f a0_0 a0_1 t280 t283 l3).bind fun bt286 => (some (!bt286.2.2.1))) = some r := H
 have A8 := Aside0.mk A80
 clear A80
 replace H := Option.bind_eq_some_iff.mp H
 obtain ⟨⟨t286, t287, t290, t291⟩, A90, H⟩ := H
 replace H : (some (!t290)) = some r := H
 have A9 := Aside0.mk A90
 clear A90
 obtain rfl := Option.some.inj H
 go_enter Tryz.func107, Tryz.ntmps107
 try go_wp2_with (first | ((with_reducible refine gate_dst (N := 6) rfl ?_); refine box_event ?hg (N := 6) ?hd (cs := #[.int .i64 a0_0, .int .i64 a0_1]) (t := 23) ?hr ?_; (case hd => rfl); (case hg => rfl); (case hr => first | (go_simp; done) | (go_simp; rfl)); intro gb279 hg w10 hbox hb; have n0_ := Aside0.mk (below_step (bw HB.out) hb); have n1_ := Aside0.mk (hbox); have n2_ := Aside0.mk ((by rw [hg]; exact (below_size (bw HB.out)) : w.heap.size ≤ gb279)); have n3_ := Aside0.mk ((by rw [hg]; exact (below_size (bw HB.out)) : w.heap.size ≤ gb279)); clear HB; have HB := n0_; have BK279 := n1_; have GW279 := n2_; have GE279 := n3_; clear n0_ n1_ n2_ n3_; clear hb hbox hg))
 have n0_ := Aside0.mk (blk_drew BK279.out)
 have n1_ := Aside0.mk (below_drew1 HB.out)
 clear BK279
 clear HB
 have BK279 := n0_
 have HB := n1_
 clear n0_ n1_
 refine start_ (n := 18) (S := fun w' => w'.cell? ⟨gb279, 0, none⟩ = some (.int .i64 a0_0) ∧ w'.cell? ⟨gb279, 1, none⟩ = some (.int .i64 a0_1)) (ds := []) #[false, false, false, false, false, false, false, false, false, false, false, false, false, false, false, false, false, false] (by kernel_rfl) rfl rfl ⟨(blk_cell BK279.out 0).trans rfl, (blk_cell BK279.out 1).trans rfl⟩ (fun hHeld => ?_); refine with_tabW wheel_none.tab1 wheel_none.bits1 (fun HT_ HW_ => ?_)
 generalize w10.drew = w11 at BK279 HB hHeld ⊢
 refine pure_ (i := 1) (N := some 19) (v := ?_) (a' := ?_) #[false, true, false, false, false, false, false, false, false, false, false, false, false, false, false, false, false, false] rfl rfl (any_of HT_.out (by kernel_rfl)) (fun _ _ _ h => h) (Or.inl ⟨by rfl, ?_⟩) ?_ ?_
 rotate_left
 ·intro w'
  go_simp
  with_reducible rfl
 rotate_left
 ·simp only [pq]
  rfl
 refine pure_ (i := 2) (N := some 20) (v := ?_) (a' := ?_) #[false, true, true, false, false, false, false, false, false, false, false, false, false, false, false, false, false, false] rfl rfl (any_of HT_.out (by kernel_rfl)) (fun _ _ _ h => h) (Or.inl ⟨by rfl, ?_⟩) ?_ ?_
 rotate_left
 ·intro w'
  go_simp
  with_reducible rfl
 rotate_left
 ·simp only [pq]
  rfl
 refine pure_ (i := 4) (N := some 22) (v := ?_) (a' := ?_) #[false, true, true, false, true, false, false, false, false, false, false, false, false, false, false, false, false, false] rfl rfl (any_of HT_.out (by kernel_rfl)) (fun _ _ _ h => h) (Or.inl ⟨by rfl, ?_⟩) ?_ ?_
 rotate_left
 ·intro w'
  go_simp
  with_reducible rfl
 rotate_left
 ·simp only [pq]
  rfl
 refine pure_ (i := 5) (N := some 23) (v := ?_) (a' := ?_) #[false, true, true, false, true, true, false, false, false, false, false, false, false, false, false, false, false, false] rfl rfl (any_of HT_.out (by kernel_rfl)) (fun _ _ _ h => h) (Or.inl ⟨by rfl, ?_⟩) ?_ ?_
 rotate_left
 ·intro w'
  go_simp
  with_reducible rfl
 rotate_left
 ·simp only [pq]
  rfl
 refine pure_ (i := 7) (N := some 25) (v := ?_) (a' := ?_) #[false, true, true, false, true, true, false, true, false, false, false, false, false, false, false, false, false, false] rfl rfl (any_of HT_.out (by kernel_rfl)) (fun _ _ _ h => h) (Or.inl ⟨by rfl, ?_⟩) ?_ ?_
 rotate_left
 ·intro w'
  go_simp
  with_reducible rfl
 rotate_left
 ·simp only [pq]
  rfl
 refine take_ (i := 0) (N := some 18) (v := ?_) (a' := ?_) #[true, true, true, false, true, true, false, true, false, false, false, false, false, false, false, false, false, false] rfl rfl (take_ofW HT_.out HW_.out (by kernel_rfl)) (fun _ _ _ h => h) (Or.inl ⟨by rfl, ?_⟩) hHeld ?_ ?_
 rotate_left
 ·rintro w' ⟨s0, s1⟩
  go_simp
  with_reducible rfl
 rotate_left
 ·simp only [pq]
  rfl
 refine one_ (i := 3) (N := some 21) #[true, true, true, true, true, true, false, true, false, false, false, false, false, false, false, false, false, false] rfl rfl (one_of HT_.out (by kernel_rfl)) (by decide) (fun K hK => ?_)
 refine goes_ Tryz.func139 (by kernel_rfl) rfl #[.slice A1 l1.length c1, .slice A4 l4.length c4] (by rfl) rfl rfl mq ?_
 with_reducible refine (api_Trial_139.calls k _ _ l1 _ _ l4 t280 _ ?side1 ?side2 ?side3 ?side4 A7.out).mono ?_
 (case side1 => repeat (first | exact (Kd.C_below HR1.out HB.out) | (with_reducible refine Kd.C_alloc ?_ _) | (with_reducible refine Kd.C_drewN ?_ _) | (with_reducible refine Kd.C_drew ?_)))
 (case side2 => exact HC1.out)
 (case side3 => repeat (first | exact (Kd.C_below HR4.out HB.out) | (with_reducible refine Kd.C_alloc ?_ _) | (with_reducible refine Kd.C_drewN ?_ _) | (with_reducible refine Kd.C_drew ?_)))
 (case side4 => exact HC4.out)
 rintro e w12 ⟨v281, rfl, ho0, hb⟩
 refine ⟨_, rfl, ?_⟩
 have n0_ := Aside0.mk (Kd.R_lower ho0 (below_size (by repeat (first | (with_reducible first | exact HB.out | apply below_alloc | apply pw_below_drewN | apply below_drew1 | refine below_set ?_ GE279.out) | exact HB.out))))
 have n1_ := Aside0.mk (blk_below (g := gb279) (o := .cells #[.int .i64 a0_0, .int .i64 a0_1] 23 (0, 0)) (bq BK279.out) hb)
 have n2_ := Aside0.mk (below_step (by repeat (first | (with_reducible first | exact HB.out | apply below_alloc | apply pw_below_drewN | apply below_drew1 | refine below_set ?_ GE279.out) | exact HB.out)) hb)
 clear BK279
 clear HB
 have HO282 := n0_
 have BK279 := n1_
 have HB := n2_
 clear n0_ n1_ n2_
 (try clear hb)
 (try clear hb2)
 (try clear hk)
 (try clear hi)
 (try clear ho0)
 refine hK.out _ _ ⟨(blk_cell BK279.out 0).trans rfl, (blk_cell BK279.out 1).trans rfl⟩ (fun hHeld => ?_)
 clear hK K
 refine norm_ (a' := ?_) ?_ ?_
 rotate_left
 ·show Act.put _ (some 21) _ = _
  simp only [pq]
  rfl
 refine one_ (i := 6) (N := some 24) #[true, true, true, true, true, true, true, true, false, false, false, false, false, false, false, false, false, false] rfl rfl (one_of HT_.out (by kernel_rfl)) (by decide) (fun K hK => ?_)
 refine goes_ Tryz.func140 (by kernel_rfl) rfl #[.slice A2 l2.length c2, .slice A5 l5.length c5] (by rfl) rfl rfl mq ?_
 with_reducible refine (api_Reading_140.calls k _ _ l2 _ _ l5 t283 _ ?side1 ?side2 ?side3 ?side4 A8.out).mono ?_
 (case side1 => repeat (first | exact (Kd.C_below HR2.out HB.out) | (with_reducible refine Kd.C_alloc ?_ _) | (with_reducible refine Kd.C_drewN ?_ _) | (with_reducible refine Kd.C_drew ?_)))
 (case side2 => exact HC2.out)
 (case side3 => repeat (first | exact (Kd.C_below HR5.out HB.out) | (with_reducible refine Kd.C_alloc ?_ _) | (with_reducible refine Kd.C_drewN ?_ _) | (with_reducible refine Kd.C_drew ?_)))
 (case side4 => exact HC5.out)
 rintro e w13 ⟨v284, rfl, ho0, hb⟩
 refine ⟨_, rfl, ?_⟩
 have n0_ := Aside0.mk (Kd.R_below (rq HO282.out) hb)
 have n1_ := Aside0.mk (Kd.R_lower ho0 (below_size (by repeat (first | (with_reducible first | exact HB.out | apply below_alloc | apply pw_below_drewN | apply below_drew1 | refine below_set ?_ GE279.out) | exact HB.out))))
 have n2_ := Aside0.mk (blk_below (g := gb279) (o := .cells #[.int .i64 a0_0, .int .i64 a0_1] 23 (0, 0)) (bq BK279.out) hb)
 have n3_ := Aside0.mk (below_step (by repeat (first | (with_reducible first | exact HB.out | apply below_alloc | apply pw_below_drewN | apply below_drew1 | refine below_set ?_ GE279.out) | exact HB.out)) hb)
 clear HO282
 clear BK279
 clear HB
 have HO282 := n0_
 have HO285 := n1_
 have BK279 := n2_
 have HB := n3_
 clear n0_ n1_ n2_ n3_
 (try clear hb)
 (try clear hb2)
 (try clear hk)
 (try clear hi)
 (try clear ho0)
 obtain ⟨Ao14, co14, eo14⟩ := Kd.R_slice HO282.out
 (first | subst eo14 | (injection eo14 with f1_ f2_ f3_; have f4_ := f1_.symm; have f5_ := f3_.symm; clear f1_ f2_ f3_; subst f4_; subst f5_))
 obtain ⟨Ao15, co15, eo15⟩ := Kd.R_slice HO285.out
 (first | subst eo15 | (injection eo15 with f1_ f2_ f3_; have f4_ := f1_.symm; have f5_ := f3_.symm; clear f1_ f2_ f3_; subst f4_; subst f5_))
 refine hK.out _ _ ⟨(blk_cell BK279.out 0).trans rfl, (blk_cell BK279.out 1).trans rfl⟩ (fun hHeld => ?_)
 clear hK K
 refine norm_ (a' := ?_) ?_ ?_
 rotate_left
 ·show Act.put _ (some 24) _ = _
  simp only [pq]
  rfl
 refine one_ (i := 8) (N := some 26) #[true, true, true, true, true, true, true, true, true, false, false, false, false, false, false, false, false, false] rfl rfl (one_of HT_.out (by kernel_rfl)) (by decide) (fun K hK => ?_)
 refine goes_ Tryz.func22 (by kernel_rfl) rfl #[.agg #[.int .i64 a0_0, .int .i64 a0_1], .slice Ao14 t280.length co14, .slice Ao15 t283.length co15, .slice A3 l3.length c3] (by rfl) rfl rfl mq ?_
 with_reducible refine (wheel_Case.calls a0_0 a0_1 _ _ t280 _ _ t283 _ _ l3 t286 t287 t290 t291 _ ?side1 ?side2 ?side3 ?side4 ?side5 ?side6 A9.out).mono ?_
 (case side1 => repeat (first | exact (Kd.R_reads' HO282.out).2.2 | (with_reducible refine Kd.C_alloc ?_ _) | (with_reducible refine Kd.C_drewN ?_ _) | (with_reducible refine Kd.C_drew ?_)))
 (case side2 => exact (Kd.R_reads' HO282.out).2.1)
 (case side3 => repeat (first | exact (Kd.R_reads' HO285.out).2.2 | (with_reducible refine Kd.C_alloc ?_ _) | (with_reducible refine Kd.C_drewN ?_ _) | (with_reducible refine Kd.C_drew ?_)))
 (case side4 => exact (Kd.R_reads' HO285.out).2.1)
 (case side5 => repeat (first | exact (Kd.C_below HR3.out HB.out) | (with_reducible refine Kd.C_alloc ?_ _) | (with_reducible refine Kd.C_drewN ?_ _) | (with_reducible refine Kd.C_drew ?_)))
 (case side6 => exact HC3.out)
 rintro e w16 ⟨v288, rfl, ho0, hb⟩
 refine ⟨_, rfl, ?_⟩
 have n0_ := Aside0.mk (Kd.R_below (rq HO282.out) hb)
 have n1_ := Aside0.mk (Kd.R_below (rq HO285.out) hb)
 have n2_ := Aside0.mk (Kd.R_lower ho0 (below_size (by repeat (first | (with_reducible first | exact HB.out | apply below_alloc | apply pw_below_drewN | apply below_drew1 | refine below_set ?_ GE279.out) | exact HB.out))))
 have n3_ := Aside0.mk (blk_below (g := gb279) (o := .cells #[.int .i64 a0_0, .int .i64 a0_1] 23 (0, 0)) (bq BK279.out) hb)
 have n4_ := Aside0.mk (below_step (by repeat (first | (with_reducible first | exact HB.out | apply below_alloc | apply pw_below_drewN | apply below_drew1 | refine below_set ?_ GE279.out) | exact HB.out)) hb)
 clear HO282
 clear HO285
 clear BK279
 clear HB
 have HO282 := n0_
 have HO285 := n1_
 have HO289 := n2_
 have BK279 := n3_
 have HB := n4_
 clear n0_ n1_ n2_ n3_ n4_
 (try clear hb)
 (try clear hb2)
 (try clear hk)
 (try clear hi)
 (try clear ho0)
 refine hK.out _ _ ⟨(blk_cell BK279.out 0).trans rfl, (blk_cell BK279.out 1).trans rfl⟩ (fun hHeld => ?_)
 clear hK K
 refine norm_ (a' := ?_) ?_ ?_
 rotate_left
 ·show Act.put _ (some 26) _ = _
  simp only [pq]
  rfl
 refine pure_ (i := 9) (N := some 17) (v := ?_) (a' := ?_) #[true, true, true, true, true, true, true, true, true, true, false, false, false, false, false, false, false, false] rfl rfl (any_of HT_.out (by kernel_rfl)) (fun _ _ _ h => h) (Or.inl ⟨by rfl, ?_⟩) ?_ ?_
 rotate_left
 ·intro w'
  go_simp
  with_reducible rfl
 rotate_left
 ·simp only [pq]
  rfl
 refine pure_ (i := 10) (N := some 27) (v := ?_) (a' := ?_) #[true, true, true, true, true, true, true, true, true, true, true, false, false, false, false, false, false, false] rfl rfl (any_of HT_.out (by kernel_rfl)) (fun _ _ _ h => h) (Or.inl ⟨by rfl, ?_⟩) ?_ ?_
 rotate_left
 ·intro w'
  go_simp
  with_reducible rfl
 rotate_left
 ·simp only [pq]
  rfl
 refine pure_ (i := 11) (N := some 28) (v := ?_) (a' := ?_) #[true, true, true, true, true, true, true, true, true, true, true, true, false, false, false, false, false, false] rfl rfl (any_of HT_.out (by kernel_rfl)) (fun _ _ _ h => h) (Or.inl ⟨by rfl, ?_⟩) ?_ ?_
 rotate_left
 ·intro w'
  go_simp
  with_reducible rfl
 rotate_left
 ·simp only [pq]
  rfl
 refine pure_ (i := 12) (N := some 29) (v := ?_) (a' := ?_) #[true, true, true, true, true, true, true, true, true, true, true, true, true, false, false, false, false, false] rfl rfl (any_of HT_.out (by kernel_rfl)) (fun _ _ _ h => h) (Or.inl ⟨by rfl, ?_⟩) ?_ ?_
 rotate_left
 ·intro w'
  go_simp
  with_reducible rfl
 rotate_left
 ·simp only [pq]
  rfl
 refine pure_ (i := 13) (N := some 30) (v := ?_) (a' := ?_) #[true, true, true, true, true, true, true, true, true, true, true, true, true, true, false, false, false, false] rfl rfl (any_of HT_.out (by kernel_rfl)) (fun _ _ _ h => h) (Or.inl ⟨by rfl, ?_⟩) ?_ ?_
 rotate_left
 ·intro w'
  go_simp
  with_reducible rfl
 rotate_left
 ·simp only [pq]
  rfl
 refine pure_ (i := 14) (N := some 13) (v := ?_) (a' := ?_) #[true, true, true, true, true, true, true, true, true, true, true, true, true, true, true, false, false, false] rfl rfl (any_of HT_.out (by kernel_rfl)) (fun _ _ _ h => h) (Or.inl ⟨by rfl, ?_⟩) ?_ ?_
 rotate_left
 ·intro w'
  go_simp
  with_reducible rfl
 rotate_left
 ·simp only [pq]
  rfl
 refine pure_ (i := 15) (N := some 14) (v := ?_) (a' := ?_) #[true, true, true, true, true, true, true, true, true, true, true, true, true, true, true, true, false, false] rfl rfl (any_of HT_.out (by kernel_rfl)) (fun _ _ _ h => h) (Or.inl ⟨by rfl, ?_⟩) ?_ ?_
 rotate_left
 ·intro w'
  go_simp
  with_reducible rfl
 rotate_left
 ·simp only [pq]
  rfl
 refine pure_ (i := 16) (N := some 15) (v := ?_) (a' := ?_) #[true, true, true, true, true, true, true, true, true, true, true, true, true, true, true, true, true, false] rfl rfl (any_of HT_.out (by kernel_rfl)) (fun _ _ _ h => h) (Or.inl ⟨by rfl, ?_⟩) ?_ ?_
 rotate_left
 ·intro w'
  go_simp
  with_reducible rfl
 rotate_left
 ·simp only [pq]
  rfl
 refine pure_ (i := 17) (N := some 16) (v := ?_) (a' := ?_) #[true, true, true, true, true, true, true, true, true, true, true, true, true, true, true, true, true, true] rfl rfl (any_of HT_.out (by kernel_rfl)) (fun _ _ _ h => h) (Or.inl ⟨by rfl, ?_⟩) ?_ ?_
 rotate_left
 ·intro w'
  go_simp
  with_reducible rfl
 rotate_left
 ·simp only [pq]
  rfl
 refine done_ (done_of HT_.out (by kernel_rfl)) ?_
 try go_wp2
 go_ret
 exact ⟨by first | rfl | (simp [errW_none, errW_some] <;> rfl) | (simp [*, errW_none, errW_some] <;> rfl), by repeat (first | (with_reducible first | exact HB.out | apply below_alloc | apply pw_below_drewN | apply below_drew1 | refine below_set ?_ GE279.out) | exact HB.out)⟩
def slices_Grow_int_int.f (n : Int) : Option (List Int) := if 0 ≤ n ∧ n ≤ 1099511627776 then some [] else none
set_option maxHeartbeats 4000000 in
set_option maxRecDepth 100000 in
theorem slices_Grow_int_int.calls (n : Int) (r : List Int) (w : World) (h : slices_Grow_int_int.f n = some r) :
  Calls Tryz.prog 150 #[.slice none 0 0, .int .i64 n] w fun e w' => ∃ v0_ : Value, e = .returned (v0_) ∧ Kd.R (Kd.int .i64) 3 w' w.heap.size (fun _ => True) v0_ r ∧ Below w.heap.size w w' := by
 unfold slices_Grow_int_int.f at h
 by_cases hn : 0 ≤ n ∧ n ≤ 1099511627776
 ·rw [if_pos hn] at h
  obtain rfl := Option.some.inj h
  obtain ⟨h0, h1⟩ := hn
  have hw1 : wrap64 n = n := by unfold wrap64; omega
  have hneg : ¬ n < 0 := by omega
  have HB := Aside0.mk (Below.refl w.heap.size w)
  have hu36 := Tryz.underlying36
  obtain ⟨i0, hi0, _, hsz, _⟩ := info_parts info3
  have hcut0 := cut_to (P := Tryz.prog) 36 3 .i64 Tryz.underlying36 hi0 none 0 0 0 (by omega) (by omega) (by omega)
  clear h
  by_cases hp : 0 < n
  ·go_enter Tryz.func150, Tryz.ntmps150
   go_wp2_with (at_builtin; refine Kd.R_append_zeros (Kd.int .i64) (w0 := w) w.heap.size rfl (.tmp 20) (.tmp 21) 36 3 3 (.int .i64 0) 8 rfl Tryz.underlying36 Tryz.underlying3 info3 rfl (by decide) (by omega) (.slice none 0 0) [] (0 : Int) n (fun _ => True) rfl rfl ?_ (fun _ _ => trivial) (Kd.R_nil _ _ _ _ _) h0 HB.out (Nat.le_refl _) (by simp; omega) ?_; exact rfl; intro v1 w1 hR1 hB1 _ _; obtain ⟨xs, hxs⟩ : ∃ xs, xs = List.replicate n.toNat (0 : Int) := ⟨_, rfl⟩; rw [← hxs] at hR1; clear hxs; obtain ⟨A1, c1, rfl⟩ := Kd.R_slice hR1; have hcut1 := cut_to (P := Tryz.prog) 36 3 .i64 Tryz.underlying36 hi0 A1 xs.length c1 0 (by omega) (by omega) (Kd.R_reads' hR1).2.1; have HR := Aside0.mk (Kd.R_take (m := 0) hR1 (Nat.zero_le _)); have HB1 := Aside0.mk hB1; clear hR1 hB1)
   go_ret
   exact ⟨_, rfl, HR.out, HB1.out⟩
  ·obtain rfl : n = 0 := by omega
   go_enter Tryz.func150, Tryz.ntmps150
   go_wp2
   go_ret
   exact ⟨_, rfl, Kd.R_nil _ _ _ _ _, HB.out⟩
 ·rw [if_neg hn] at h
  cases h
def api_Trial_103.f (n : Int) : Option (List S61) := if 0 ≤ n ∧ n ≤ 1099511627776 then some [] else none
def api_Reading_104.f (n : Int) : Option (List S64) := if 0 ≤ n ∧ n ≤ 1099511627776 then some [] else none
def api_Span_144.f (n : Int) : Option (List S59) := if 0 ≤ n ∧ n ≤ 1099511627776 then some [] else none
mutual
def slices_Concat_int_int.l0 : Nat → List (List Int) → Int → List (List Int) → Int → Int → Option (List Int)
  | 0, _, _, _, _, _ => none
  | k + 1, x0, x3, x9, x10, x11 => if x11 < x10 then (if 0 ≤ x11 then (if x11 < (x9.length : Int) then (if (wrap64 (x3 + ((rd_L2 x9 x11).length : Int))) < 0 then (none) else (slices_Concat_int_int.l0 k x0 (wrap64 (x3 + ((rd_L2 x9 x11).length : Int))) x9 x10 (wrap64 (x11 + 1)))) else (none)) else (none)) else ((slices_Grow_int_int.f x3).bind fun t266 => (slices_Concat_int_int.l1 k t266 x0 (x0.length : Int) 0))
def slices_Concat_int_int.l1 : Nat → List Int → List (List Int) → Int → Int → Option (List Int)
  | 0, _, _, _, _ => none
  | k + 1, x6, x25, x26, x27 => if x27 < x26 then (if 0 ≤ x27 then (if x27 < (x25.length : Int) then (if x6.length + (rd_L2 x25 x27).length < 17592186044416 then (slices_Concat_int_int.l1 k (x6 ++ (rd_L2 x25 x27)) x25 x26 (wrap64 (x27 + 1))) else (none)) else (none)) else (none)) else (some x6)
end
def slices_Concat_int_int.f (k : Nat) (l0 : List (List Int)) : Option (List Int) := slices_Concat_int_int.l0 k l0 0 l0 (l0.length : Int) 0
theorem slices_Concat_int_int.mono_l : ∀ k, (∀ y0 y1 y2 y3 y4, LeO (slices_Concat_int_int.l0 k y0 y1 y2 y3 y4) (slices_Concat_int_int.l0 (k + 1) y0 y1 y2 y3 y4)) ∧ (∀ y0 y1 y2 y3, LeO (slices_Concat_int_int.l1 k y0 y1 y2 y3) (slices_Concat_int_int.l1 (k + 1) y0 y1 y2 y3))
 |0 => ⟨fun _ _ _ _ _ r h => by simp [slices_Concat_int_int.l0] at h, fun _ _ _ _ r h => by simp [slices_Concat_int_int.l1] at h⟩
 |k + 1 => by
  obtain ⟨ih0, ih1⟩ := slices_Concat_int_int.mono_l k
  refine ⟨?_, ?_⟩
  ·intro y0 y1 y2 y3 y4
   unfold slices_Concat_int_int.l0
   repeat' first
   |(with_reducible exact ih0 _ _ _ _ _)
   |(with_reducible exact ih1 _ _ _ _)
   |(with_reducible exact LeO.refl _)
   |(with_reducible exact LeO.none _)
   |(with_reducible refine LeO.ite ?_ ?_)
   |(with_reducible refine LeO.bind ?_ (fun _ => ?_))
   |exact ih0 _ _ _ _ _
   |exact ih1 _ _ _ _
   |exact LeO.none _
   |refine LeO.ite ?_ ?_
   |refine LeO.bind ?_ (fun _ => ?_)
  ·intro y0 y1 y2 y3
   unfold slices_Concat_int_int.l1
   repeat' first
   |(with_reducible exact ih0 _ _ _ _ _)
   |(with_reducible exact ih1 _ _ _ _)
   |(with_reducible exact LeO.refl _)
   |(with_reducible exact LeO.none _)
   |(with_reducible refine LeO.ite ?_ ?_)
   |(with_reducible refine LeO.bind ?_ (fun _ => ?_))
   |exact ih0 _ _ _ _ _
   |exact ih1 _ _ _ _
   |exact LeO.none _
   |refine LeO.ite ?_ ?_
   |refine LeO.bind ?_ (fun _ => ?_)
theorem slices_Concat_int_int.mono : ∀ a0 k, LeO (slices_Concat_int_int.f k a0) (slices_Concat_int_int.f (k + 1) a0) := by
 intro a0 k
 obtain ⟨ih0, ih1⟩ := slices_Concat_int_int.mono_l k
 unfold slices_Concat_int_int.f
 repeat' first
   |(with_reducible exact ih0 _ _ _ _ _)
   |(with_reducible exact ih1 _ _ _ _)
   |(with_reducible exact LeO.refl _)
   |(with_reducible exact LeO.none _)
   |(with_reducible refine LeO.ite ?_ ?_)
   |(with_reducible refine LeO.bind ?_ (fun _ => ?_))
   |exact ih0 _ _ _ _ _
   |exact ih1 _ _ _ _
   |exact LeO.none _
   |refine LeO.ite ?_ ?_
   |refine LeO.bind ?_ (fun _ => ?_)
set_option maxHeartbeats 8000000 in
set_option maxRecDepth 100000 in
theorem slices_Concat_int_int.calls (k : Nat) (A0 : Option Addr) (c0 : Nat) (l0 : List (List Int)) (r : List Int) (w : World) (hr0 : Kd.C (Kd.slice 3 (Kd.int .i64)) w A0 l0.length l0) (hc0 : l0.length ≤ c0) (h : slices_Concat_int_int.f k l0 = some r) :
  Calls Tryz.prog 141 #[.slice A0 l0.length c0] w fun e w' => ∃ v0_ : Value, e = .returned (v0_) ∧ Kd.R (Kd.int .i64) 3 w' w.heap.size (fun _ => True) v0_ r ∧ Below w.heap.size w w' := by
 have HR0 := Aside0.mk hr0
 have HC0 := Aside0.mk hc0
 clear hr0 hc0
 have HB := Aside0.mk (Below.refl w.heap.size w)
 have H : (slices_Concat_int_int.l0 k l0 0 l0 (l0.length : Int) 0) = some r := h
 clear h
 have H' := Aside0.mk H
 clear H
 go_enter Tryz.func141, Tryz.ntmps141
 go_wp2
 go_loopg [3, 11] k (fun kq v3 v11 w' => ∃ (x3_1 : Int) (x11_1 : Int), v3 = .int .i64 x3_1 ∧ v11 = .int .i64 x11_1 ∧ Aside0 (slices_Concat_int_int.l0 kq l0 x3_1 l0 (l0.length : Int) x11_1 = some r) ∧ Aside0 (kq ≤ k) ∧ Aside0 (Below w.heap.size w w'))
 case atStart => exact ⟨(0), (0), (by first | rfl | (simp; done) | (simp [*]; done)), (by first | rfl | (simp; done) | (simp [*]; done)), H', ⟨Nat.le_refl _⟩, ⟨by repeat (first | (with_reducible first | exact HB.out | apply below_alloc | apply pw_below_drewN | apply below_drew1) | exact HB.out)⟩⟩
 case round =>
  clear H'
  try clear c1
  obtain ⟨x3_1, x11_1, rfl, rfl, HA, HK1, HB⟩ := hrel
  cases gk with
  |zero => exact absurd HA.out (by simp [slices_Concat_int_int.l0])
  |succ k1 =>
   have H := HA.out
   clear HA
   simp only [slices_Concat_int_int.l0] at H
   by_cases c2 : x11_1 < (l0.length : Int)
   ·rw [if_pos c2] at H
    have c2b0 : decide (x11_1 < (l0.length : Int)) = true := decide_eq_true c2
    clear c2
    by_cases c3 : 0 ≤ x11_1
    ·rw [if_pos c3] at H
     have c3b0 : decide (0 ≤ x11_1) = true := decide_eq_true c3
     clear c3
     by_cases c4 : x11_1 < (l0.length : Int)
     ·rw [if_pos c4] at H
      have c4b0 : decide (x11_1 < (l0.length : Int)) = true := decide_eq_true c4
      clear c4
      by_cases c5 : (wrap64 (x3_1 + ((rd_L2 l0 x11_1).length : Int))) < 0
      ·rw [if_pos c5] at H
       exact absurd H (by simp)
      ·rw [if_neg c5] at H
       have c5b0 : decide ((wrap64 (x3_1 + ((rd_L2 l0 x11_1).length : Int))) < 0) = false := decide_eq_false c5
       clear c5
       have H' := Aside0.mk H
       clear H
       have p265 : 0 ≤ (x11_1 : Int) := of_decide_eq_true aq
       have q265 : x11_1 < (l0.length : Int) := of_decide_eq_true aq
       obtain ⟨ad265, A265_0, c265_0, e265, hx265_0, hl265_0, hi265_0⟩ := at_L2 HR0.out x11_1 p265 q265
       cases e265
       replace hx265_0 := (HB.out.cell (World.block_lt_of_cell? w _ hx265_0)).trans hx265_0
       have HR265_0 := Aside0.mk hi265_0
       have HC265_0 := Aside0.mk hl265_0
       clear hi265_0 hl265_0
       replace p265 := eq_true p265
       replace q265 := eq_true q265
       go_wp2
       go_roundg k1
       case measure => have := HK1.out; omega
       case rel => exact ⟨(wrap64 (x3_1 + ((rd_L2 l0 x11_1).length : Int))), (wrap64 (x11_1 + 1)), (by first | rfl | (simp; done) | (simp [*]; done)), (by first | rfl | (simp; done) | (simp [*]; done)), H', ⟨by have := HK1.out; omega⟩, ⟨by repeat (first | (with_reducible first | exact HB.out | apply below_alloc | apply pw_below_drewN | apply below_drew1) | exact HB.out)⟩⟩
     ·rw [if_neg c4] at H
      exact absurd H (by simp)
    ·rw [if_neg c3] at H
     exact absurd H (by simp)
   ·rw [if_neg c2] at H
    have c2b0 : decide (x11_1 < (l0.length : Int)) = false := decide_eq_false c2
    clear c2
    replace H := Option.bind_eq_some_iff.mp H
    obtain ⟨t266, A60, H⟩ := H
    replace H : (slices_Concat_int_int.l1 k1 t266 l0 (l0.length : Int) 0) = some r := H
    have A6 := Aside0.mk A60
    clear A60
    have H' := Aside0.mk H
    clear H
    go_wp2_with (first | ((with_reducible refine gate_callee (f := 150) rfl ?_); refine goesL_ (some 24) rfl rfl Tryz.func150 (by kernel_rfl) rfl #[.slice none 0 0, .int .i64 x3_1] rfl mq ?_; (with_reducible refine (slices_Grow_int_int.calls x3_1 t266 _ A6.out).mono ?_); rintro e w7 ⟨v267, rfl, ho0, hb⟩; refine ⟨_, rfl, ?_⟩; have n0_ := Aside0.mk (Kd.R_lower ho0 (below_size (bw HB.out))); have n1_ := Aside0.mk (below_step (bw HB.out) hb); clear HB; have HO268 := n0_; have HB := n1_; clear n0_ n1_; (try clear hb); (try clear hb2); (try clear hk); (try clear hi); (try clear ho0)))
    go_loopg [6, 27] k1 (fun kq v6 v27 w' => ∃ (x6_2 : List Int) (x27_2 : Int), v27 = .int .i64 x27_2 ∧ Aside0 (slices_Concat_int_int.l1 kq x6_2 l0 (l0.length : Int) x27_2 = some r) ∧ Aside0 (kq ≤ k1) ∧ Aside0 (Kd.R (Kd.int .i64) 3 w' w.heap.size (fun _ => True) v6 x6_2) ∧ Aside0 (Below w.heap.size w w'))
    case atStart => exact ⟨(t266), (0), (by first | rfl | (simp; done) | (simp [*]; done)), H', ⟨Nat.le_refl _⟩, ⟨rq HO268.out⟩, ⟨by repeat (first | (with_reducible first | exact HB.out | apply below_alloc | apply pw_below_drewN | apply below_drew1) | exact HB.out)⟩⟩
    case round =>
     clear H'
     try clear c1
     try clear c2
     try clear c2b0
     try clear p2
     try clear q2
     try clear hx2
     try clear c3
     try clear c3b0
     try clear c4
     try clear c4b0
     try clear c5
     try clear c5b0
     try clear p6
     try clear hx265_0
     try clear p265
     try clear q265
     obtain ⟨x6_2, x27_2, rfl, HA, HK2, HO_6, HB⟩ := hrel
     cases gk with
     |zero => exact absurd HA.out (by simp [slices_Concat_int_int.l1])
     |succ k2 =>
      have H := HA.out
      clear HA
      simp only [slices_Concat_int_int.l1] at H
      by_cases c8 : x27_2 < (l0.length : Int)
      ·rw [if_pos c8] at H
       have c8b0 : decide (x27_2 < (l0.length : Int)) = true := decide_eq_true c8
       clear c8
       by_cases c9 : 0 ≤ x27_2
       ·rw [if_pos c9] at H
        have c9b0 : decide (0 ≤ x27_2) = true := decide_eq_true c9
        clear c9
        by_cases c10 : x27_2 < (l0.length : Int)
        ·rw [if_pos c10] at H
         have c10b0 : decide (x27_2 < (l0.length : Int)) = true := decide_eq_true c10
         clear c10
         by_cases c11 : x6_2.length + (rd_L2 l0 x27_2).length < 17592186044416
         ·rw [if_pos c11] at H
          have LMc11 := Aside0.mk c11
          clear c11
          obtain ⟨y270, hy270⟩ : ∃ y_ : List Int, y_ = (x6_2 ++ (rd_L2 l0 x27_2)) := ⟨_, rfl⟩
          replace H : (slices_Concat_int_int.l1 k2 y270 l0 (l0.length : Int) (wrap64 (x27_2 + 1))) = some r := by first | (rw [hy270]; with_reducible exact H) | (have H2_ := (Option.bind_some _ _).symm.trans H; rw [hy270]; with_reducible exact H2_) | (have H2_ := (Option.bind_some _ _).symm.trans H; with_reducible exact H2_) | with_reducible exact H | (rw [hy270]; exact H) | exact H
          have Ny270 := Aside0.mk hy270
          clear hy270
          have H' := Aside0.mk H
          clear H
          have p269 : 0 ≤ (x27_2 : Int) := of_decide_eq_true aq
          have q269 : x27_2 < (l0.length : Int) := of_decide_eq_true aq
          obtain ⟨ad269, A269_0, c269_0, e269, hx269_0, hl269_0, hi269_0⟩ := at_L2 HR0.out x27_2 p269 q269
          cases e269
          replace hx269_0 := (HB.out.cell (World.block_lt_of_cell? w _ hx269_0)).trans hx269_0
          have HR269_0 := Aside0.mk hi269_0
          have HC269_0 := Aside0.mk hl269_0
          clear hi269_0 hl269_0
          replace p269 := eq_true p269
          replace q269 := eq_true q269
          go_wp2_with (first | ((with_reducible refine gate_builtin (b := .append) (xs := #[.tmp 31, .tmp 32]) rfl ?_); at_builtin; refine Kd.R_append_rows (Kd.int .i64) (w0 := w) w.heap.size rfl (.tmp 31) (.tmp 32) 36 3 (.int .i64 0) 8 rfl Tryz.underlying36 info3 rfl (by decide) (by omega) u6 x6_2 (rd_L2 l0 x27_2) _ _ _ (fun _ => True) (fun _ => False) rfl rfl ?aO ?aR (fun _ _ h => h) (fun _ h => h.elim) ?aF ?aB ?aS ?aL ?_; (case aR => repeat (first | exact (Kd.C_below HR269_0.out HB.out) | (with_reducible refine Kd.C_alloc ?_ _) | (with_reducible refine Kd.C_drewN ?_ _) | (with_reducible refine Kd.C_drew ?_))); (case aB => exact (bw HB.out)); (case aF => exact (fun _ _ => trivial)); (case aO => exact (rq HO_6.out)); (case aS => exact (below_size (bw HB.out))); (case aL => have := LMc11.out; omega); intro v271 w12 ho hb hg hat; rw [← Ny270.out] at ho; have n0_ := Aside0.mk (hb); have n1_ := Aside0.mk (ho); clear HB; clear HO_6; have HB := n0_; have HO272 := n1_; clear n0_ n1_; clear ho hb hg hat))
          go_roundg k2
          case measure => have := HK1.out; have := HK2.out; omega
          case rel => exact ⟨(y270), (wrap64 (x27_2 + 1)), (by first | rfl | (simp; done) | (simp [*]; done)), H', ⟨by have := HK1.out; have := HK2.out; omega⟩, ⟨rq HO272.out⟩, ⟨by repeat (first | (with_reducible first | exact HB.out | apply below_alloc | apply pw_below_drewN | apply below_drew1) | exact HB.out)⟩⟩
         ·rw [if_neg c11] at H
          exact absurd H (by simp)
        ·rw [if_neg c10] at H
         exact absurd H (by simp)
       ·rw [if_neg c9] at H
        exact absurd H (by simp)
      ·rw [if_neg c8] at H
       have c8b0 : decide (x27_2 < (l0.length : Int)) = false := decide_eq_false c8
       clear c8
       obtain rfl := Option.some.inj H
       go_wp2
       go_ret
       exact ⟨_, by first | rfl | (simp [errW_none, errW_some] <;> rfl) | (simp [*, errW_none, errW_some] <;> rfl), by (with_reducible repeat (first | apply Kd.R_alloc | apply Kd.R_drewN | apply Kd.R_drew)); exact HO_6.out, by repeat (first | (with_reducible first | exact HB.out | apply below_alloc | apply pw_below_drewN | apply below_drew1) | exact HB.out)⟩
def wheel_but.f (k : Nat) (l0 : List Int) (a1 : Int) : Option (List Int) := if 0 ≤ a1 then (if a1 ≤ (l0.length : Int) then (if 0 ≤ (wrap64 (a1 + 1)) then (if (wrap64 (a1 + 1)) ≤ (l0.length : Int) then ((slices_Concat_int_int.f k (([(l0.take (a1 : Int).toNat), (l0.drop ((wrap64 (a1 + 1)) : Int).toNat)] : List (List Int)))).bind fun t286 => (some t286)) else (none)) else (none)) else (none)) else (none)
theorem wheel_but.mono : ∀ a0 a1 k, LeO (wheel_but.f k a0 a1) (wheel_but.f (k + 1) a0 a1) := by
 intro a0 a1 k
 unfold wheel_but.f
 repeat' first
   |(with_reducible exact slices_Concat_int_int.mono _ _)
   |(with_reducible exact LeO.refl _)
   |(with_reducible exact LeO.none _)
   |(with_reducible refine LeO.ite ?_ ?_)
   |(with_reducible refine LeO.bind ?_ (fun _ => ?_))
   |exact slices_Concat_int_int.mono _ _
   |exact LeO.none _
   |refine LeO.ite ?_ ?_
   |refine LeO.bind ?_ (fun _ => ?_)
def wheel_but.T1 : Bool × List (List Nat × List Nat) := (true, [([], []), ([], []), ([0, 1], [0, 1]), ([], []), ([], []), ([4], [4]), ([3, 5], [3, 5]), ([2, 6], [2, 6]), ([7], [7]), ([8, 8, 0, 1, 2, 3, 4, 5, 6, 7, 8], [8])])
def wheel_but.B1 : List Nat := [0, 0, 3, 0, 0, 16, 56, 127, 255, 511]
theorem wheel_but.tab1 : rtab .any (opsOf Tryz.f108 1) = wheel_but.T1 := by kernel_rfl
theorem wheel_but.bits1 : waitsOk wheel_but.T1.2 wheel_but.B1 = true := by kernel_rfl
set_option maxHeartbeats 8000000 in
set_option maxRecDepth 100000 in
theorem wheel_but.calls (k : Nat) (P0_ : Nat → Prop) (A0 : Option Addr) (c0 : Nat) (l0 : List Int) (a1 : Int) (r : List Int) (w : World) (hs0 : Kd.V (Kd.int .i64) 3 w w.heap.size (fun k_ => P0_ k_) (.slice A0 l0.length c0) l0) (h : wheel_but.f k l0 a1 = some r) :
  Calls Tryz.prog 108 #[.slice A0 l0.length c0, .int .i64 a1] w fun e w' => ∃ v0_ : Value, e = .returned (v0_) ∧ Kd.R (Kd.int .i64) 3 w' w.heap.size (fun k_ => (w.heap.size ≤ k_)) v0_ r ∧ Below w.heap.size w w' := by
 have HO0 := Aside0.mk (show Kd.V (Kd.int .i64) 3 w w.heap.size (fun k_ => (P0_ k_ ∨ w.heap.size ≤ k_)) (.slice A0 l0.length c0) l0 from Kd.V_mono hs0 (fun k_ hk => .inl hk))
 have HB := Aside0.mk (Below.refl w.heap.size w)
 have H : (if 0 ≤ a1 then (if a1 ≤ (l0.length : Int) then (if 0 ≤ (wrap64 (a1 + 1)) then (if (wrap64 (a1 + 1)) ≤ (l0.length : Int) then ((slices_Concat_int_int.f k (([(l0.take (a1 : Int).toNat), (l0.drop ((wrap64 (a1 + 1)) : Int).toNat)] : List (List Int)))).bind fun t286 => (some t286)) else (none)) else (none)) else (none)) else (none)) = some r := h
 clear h
 by_cases c3 : 0 ≤ a1
 ·rw [if_pos c3] at H
  have c3b0 := eq_true c3
  have c3b1 : decide (0 ≤ a1) = true := decide_eq_true c3
  clear c3
  by_cases c4 : a1 ≤ (l0.length : Int)
  ·rw [if_pos c4] at H
   have c4b0 := eq_true c4
   have c4b1 : decide (a1 ≤ (l0.length : Int)) = true := decide_eq_true c4
   clear c4
   obtain ⟨y273, hy273⟩ : ∃ y_ : List Int, y_ = (l0.take (a1 : Int).toNat) := ⟨_, rfl⟩
   replace H : (if 0 ≤ (wrap64 (a1 + 1)) then (if (wrap64 (a1 + 1)) ≤ (l0.length : Int) then ((slices_Concat_int_int.f k (([y273, (l0.drop ((wrap64 (a1 + 1)) : Int).toNat)] : List (List Int)))).bind fun t286 => (some t286)) else (none)) else (none)) = some r := by first | (rw [hy273]; with_reducible exact H) | (have H2_ := (Option.bind_some _ _).symm.trans H; rw [hy273]; with_reducible exact H2_) | (have H2_ := (Option.bind_some _ _).symm.trans H; with_reducible exact H2_) | with_reducible exact H | (rw [hy273]; exact H) | exact H
   have Ny273 := Aside0.mk hy273
   clear hy273
   obtain ⟨ji5, hji5⟩ : ∃ j_ : Int, (wrap64 (a1 + 1)) = j_ := ⟨_, rfl⟩
   replace H : (if 0 ≤ (ji5) then (if (ji5) ≤ (l0.length : Int) then ((slices_Concat_int_int.f k (([y273, (l0.drop ((ji5) : Int).toNat)] : List (List Int)))).bind fun t286 => (some t286)) else (none)) else (none)) = some r := by first | (rw [hji5] at H; exact H) | (simp only [hji5] at H ⊢; exact H)
   have hji5w : (IntKind.i64.wrap (a1 + 1)) = ji5 := (i64_w _).trans hji5
   by_cases c6 : 0 ≤ (ji5)
   ·rw [if_pos c6] at H
    have c6b0 := eq_true c6
    have c6b1 : decide (0 ≤ (ji5)) = true := decide_eq_true c6
    clear c6
    by_cases c7 : (ji5) ≤ (l0.length : Int)
    ·rw [if_pos c7] at H
     have c7b0 := eq_true c7
     have c7b1 : decide ((ji5) ≤ (l0.length : Int)) = true := decide_eq_true c7
     clear c7
     obtain ⟨y278, hy278⟩ : ∃ y_ : List Int, y_ = (l0.drop ((ji5) : Int).toNat) := ⟨_, rfl⟩
     replace H : ((slices_Concat_int_int.f k (([y273, y278] : List (List Int)))).bind fun t286 => (some t286)) = some r := by first | (rw [hy278]; with_reducible exact H) | (have H2_ := (Option.bind_some _ _).symm.trans H; rw [hy278]; with_reducible exact H2_) | (have H2_ := (Option.bind_some _ _).symm.trans H; with_reducible exact H2_) | with_reducible exact H | (rw [hy278]; exact H) | exact H
     have Ny278 := Aside0.mk hy278
     clear hy278
     obtain ⟨y283, hy283⟩ : ∃ y_ : List (List Int), y_ = (([y273, y278] : List (List Int))) := ⟨_, rfl⟩
     replace H : ((slices_Concat_int_int.f k y283).bind fun t286 => (some t286)) = some r := by first | (rw [hy283]; with_reducible exact H) | (have H2_ := (Option.bind_some _ _).symm.trans H; rw [hy283]; with_reducible exact H2_) | (have H2_ := (Option.bind_some _ _).symm.trans H; with_reducible exact H2_) | with_reducible exact H | (rw [hy283]; exact H) | exact H
     have Ny283 := Aside0.mk hy283
     clear hy283
     replace H := Option.bind_eq_some_iff.mp H
     obtain ⟨t286, A80, H⟩ := H
     replace H : (some t286) = some r := H
     have A8 := Aside0.mk A80
     clear A80
     obtain rfl := Option.some.inj H
     go_enter Tryz.func108, Tryz.ntmps108
     try go_wp2
     have n0_ := Aside0.mk (Kd.V_drew HO0.out)
     have n1_ := Aside0.mk (below_drew1 HB.out)
     clear HO0
     clear HB
     have HO0 := n0_
     have HB := n1_
     clear n0_ n1_
     have q10 : (a1 : Int) ≤ ((l0.length : Int) : Int) := of_decide_eq_true aq
     obtain ⟨i010, hi010, _, hsz10, _⟩ := info_parts info3
     have hroom10 : l0.length ≤ c0 := (Kd.V_reads' HO0.out).2.1
     have hC10 : Kd.F (Kd.int .i64) _ _ A0 l0.length l0 := (Kd.V_at (base := w.heap.size) HO0.out).2.2
     have hcut10 := cut_to (P := Tryz.prog) 36 3 .i64 Tryz.underlying36 hi010 A0 l0.length c0 a1 (of_decide_eq_true aq) q10 hroom10
     have hr10 := Kd.F_take (m := (a1 : Int).toNat) hC10 (by omega)
     have hy10 : y273.length = (a1 : Int).toNat := (by rw [Ny273.out, List.length_take]; omega)
     rw [← Ny273.out] at hr10
     rw [← hy10] at hcut10
     have HO277 := Aside0.mk (show Kd.V (Kd.int .i64) 3 _ w.heap.size _ (.slice A0 y273.length c0) y273 from Kd.V_mk (by omega) hr10)
     have HC277 := Aside0.mk (show y273.length ≤ c0 from by omega)
     clear hr10 hC10 hroom10 hi010 hsz10
     have KY10 := Aside0.mk hy10
     clear hy10
     replace q10 := eq_true q10
     have q11 : ((ji5) : Int) ≤ ((l0.length : Int) : Int) := of_decide_eq_true aq
     obtain ⟨i011, hi011, _, hsz11, _⟩ := info_parts info3
     have hroom11 : l0.length ≤ c0 := (Kd.V_reads' HO0.out).2.1
     have hC11 : Kd.F (Kd.int .i64) _ _ A0 l0.length l0 := (Kd.V_at (base := w.heap.size) HO0.out).2.2
     have q011 : (0 : Int) ≤ ((ji5) : Int) := of_decide_eq_true aq
     have hcut11 := cut_from (P := Tryz.prog) 36 3 .i64 Tryz.underlying36 hi011 1 hsz11 A0 l0.length c0 (ji5) q011 q11
     have hr11 := Kd.F_cut (m := ((ji5) : Int).toNat) (c := c0) hC11 (by omega) hroom11
     obtain ⟨A11, hA11⟩ : ∃ A1, A1 = (if c0 = ((ji5) : Int).toNat then A0 else (A0 : Option Addr).map (·.add (((ji5) : Int).toNat * 1))) := ⟨_, rfl⟩
     obtain ⟨c11, hc11⟩ : ∃ c1, c1 = c0 - ((ji5) : Int).toNat := ⟨_, rfl⟩
     have hy11 : y278.length = l0.length - ((ji5) : Int).toNat := (by rw [Ny278.out, List.length_drop] <;> omega)
     rw [show (l0).drop ((ji5) : Int).toNat = y278 from Ny278.out.symm] at hr11
     replace hr11 : Kd.F (Kd.int .i64) _ _ A11 y278.length y278 := (by rw [hA11]; exact hr11)
     rw [← hy11, ← hA11, ← hc11] at hcut11
     have HO282 := Aside0.mk (show Kd.V (Kd.int .i64) 3 _ w.heap.size _ (.slice A11 y278.length c11) y278 from Kd.V_mk (by rw [hy11, hc11]; exact Nat.sub_le_sub_right hroom11 _) hr11)
     have HC282 := Aside0.mk (show y278.length ≤ c11 from by rw [hy11, hc11]; exact Nat.sub_le_sub_right hroom11 _)
     clear hr11 hC11 hroom11 hi011 hsz11 hc11
     have KY11 := Aside0.mk hy11
     have KA11 := Aside0.mk hA11
     clear hy11 hA11
     replace q11 := eq_true q11
     refine start_ (n := 10) (S := fun w' => True) (ds := []) #[false, false, false, false, false, false, false, false, false, false] (by kernel_rfl) rfl rfl trivial (fun hHeld => ?_); refine with_tabW wheel_but.tab1 wheel_but.bits1 (fun HT_ HW_ => ?_)
     generalize w.drew = w9 at HO0 HB HO277 HO282 hHeld ⊢
     refine pure_ (i := 0) (N := some 5) (v := ?_) (a' := ?_) #[true, false, false, false, false, false, false, false, false, false] rfl rfl (any_of HT_.out (by kernel_rfl)) (fun _ _ _ h => h) (Or.inl ⟨by rfl, ?_⟩) ?_ ?_
     rotate_left
     ·intro w'
      go_simp
      with_reducible rfl
     rotate_left
     ·simp only [pq]
      rfl
     refine pure_ (i := 1) (N := some 6) (v := ?_) (a' := ?_) #[true, true, false, false, false, false, false, false, false, false] rfl rfl (any_of HT_.out (by kernel_rfl)) (fun _ _ _ h => h) (Or.inl ⟨by rfl, ?_⟩) ?_ ?_
     rotate_left
     ·intro w'
      go_simp
      with_reducible rfl
     rotate_left
     ·simp only [pq]
      rfl
     refine pure_ (i := 2) (N := some 7) (v := ?_) (a' := ?_) #[true, true, true, false, false, false, false, false, false, false] rfl rfl (any_of HT_.out (by kernel_rfl)) (fun _ _ _ h => h) (Or.inl ⟨by rfl, ?_⟩) ?_ ?_
     rotate_left
     ·intro w'
      go_simp
      with_reducible rfl
     rotate_left
     ·simp only [pq]
      rfl
     refine pure_ (i := 3) (N := some 8) (v := ?_) (a' := ?_) #[true, true, true, true, false, false, false, false, false, false] rfl rfl (any_of HT_.out (by kernel_rfl)) (fun _ _ _ h => h) (Or.inl ⟨by rfl, ?_⟩) ?_ ?_
     rotate_left
     ·intro w'
      go_simp
      with_reducible rfl
     rotate_left
     ·simp only [pq]
      rfl
     refine pure_ (i := 4) (N := some 9) (v := ?_) (a' := ?_) #[true, true, true, true, true, false, false, false, false, false] rfl rfl (any_of HT_.out (by kernel_rfl)) (fun _ _ _ h => h) (Or.inl ⟨by rfl, ?_⟩) ?_ ?_
     rotate_left
     ·intro w'
      go_simp
      with_reducible rfl
     rotate_left
     ·simp only [pq]
      rfl
     refine pure_ (i := 5) (N := some 10) (v := ?_) (a' := ?_) #[true, true, true, true, true, true, false, false, false, false] rfl rfl (any_of HT_.out (by kernel_rfl)) (fun _ _ _ h => h) (Or.inl ⟨by rfl, ?_⟩) ?_ ?_
     rotate_left
     ·intro w'
      go_simp
      with_reducible rfl
     rotate_left
     ·simp only [pq]
      rfl
     refine pure_ (i := 6) (N := some 11) (v := ?_) (a' := ?_) #[true, true, true, true, true, true, true, false, false, false] rfl rfl (any_of HT_.out (by kernel_rfl)) (fun _ _ _ h => h) (Or.inl ⟨by rfl, ?_⟩) ?_ ?_
     rotate_left
     ·intro w'
      go_simp
      with_reducible rfl
     rotate_left
     ·simp only [pq]
      rfl
     refine one_ (i := 7) (N := some 12) #[true, true, true, true, true, true, true, true, false, false] rfl rfl (one_of HT_.out (by kernel_rfl)) (by decide) (fun K hK => ?_)
     refine Kd.N_lit_step (Kd.slice 3 (Kd.int .i64)) _ 36 ?hg (N' := 12) ?hd (xs := ([y273, y278] : List (List Int))) (inner := [.slice A0 y273.length c0, .slice A11 y278.length c11]) (ok := (fun k_ => (P0_ k_ ∨ w.heap.size ≤ k_))) (okp := (fun k_ => (P0_ k_ ∨ w.heap.size ≤ k_))) ?hr ?hp (fun _ hk => hk) ((show ∀ k_, w9.heap.size ≤ k_ → (fun k_ => (P0_ k_ ∨ w.heap.size ≤ k_)) k_ from fun k_ hk => (.inr (Nat.le_trans (below_size (bw HB.out)) hk))) _ (Nat.le_refl _)) (Below.refl _ _) (Nat.le_refl _) (by simp) ?_; (case hd => rfl); (case hg => rfl); (case hr => first | (go_simp; done) | (go_simp; rfl)); (case hp => exact (Reps.one (show Kd.FK (Kd.slice 3 (Kd.int .i64)) _ _ y273 [.slice A0 y273.length c0] from (Kd.FK_slice_mk (Kd.V_reads' (Kd.V_mono (ok' := (fun k_ => (P0_ k_ ∨ w.heap.size ≤ k_))) (HO277.out) (fun k_ hk => hk))).2.1 (Kd.V_F (Kd.V_mono (ok' := (fun k_ => (P0_ k_ ∨ w.heap.size ≤ k_))) (HO277.out) (fun k_ hk => hk))))) (Reps.one (show Kd.FK (Kd.slice 3 (Kd.int .i64)) _ _ y278 [.slice A11 y278.length c11] from (Kd.FK_slice_mk (Kd.V_reads' (Kd.V_mono (ok' := (fun k_ => (P0_ k_ ∨ w.heap.size ≤ k_))) (HO282.out) (fun k_ hk => hk))).2.1 (Kd.V_F (Kd.V_mono (ok' := (fun k_ => (P0_ k_ ∨ w.heap.size ≤ k_))) (HO282.out) (fun k_ hk => hk))))) (Reps.none _ _))))
     intro v284 w12 ho13 hb hg_ hnew_
     clear hg_ hnew_
     (first | rw [← Ny283.out] at ho13 | (simp only [Int.reduceToNat] at ho13; rw [← Ny283.out] at ho13))
     have n0_ := Aside0.mk (Kd.V_elder' (by (with_reducible repeat (first | apply Kd.V_alloc | apply Kd.V_drewN | apply Kd.V_drew)); exact HO0.out) (Kd.N_base ho13) hb)
     have n1_ := Aside0.mk (Kd.V_elder' (by (with_reducible repeat (first | apply Kd.V_alloc | apply Kd.V_drewN | apply Kd.V_drew)); exact HO277.out) (Kd.N_base ho13) hb)
     have n2_ := Aside0.mk (Kd.V_elder' (by (with_reducible repeat (first | apply Kd.V_alloc | apply Kd.V_drewN | apply Kd.V_drew)); exact HO282.out) (Kd.N_base ho13) hb)
     have n3_ := Aside0.mk (Kd.N_lower ho13 (below_size (bw HB.out)))
     have n4_ := Aside0.mk (below_step (bw HB.out) hb)
     clear HO0
     clear HO277
     clear HO282
     clear HB
     have HO0 := n0_
     have HO277 := n1_
     have HO282 := n2_
     have HO285 := n3_
     have HB := n4_
     clear n0_ n1_ n2_ n3_ n4_
     clear hb ho13
     obtain ⟨Ao14, co14, eo14⟩ := Kd.N_slice HO285.out
     (first | subst eo14 | (injection eo14 with f1_ f2_ f3_; have f4_ := f1_.symm; have f5_ := f3_.symm; clear f1_ f2_ f3_; subst f4_; subst f5_))
     refine hK.out _ _ trivial (fun hHeld => ?_)
     clear hK K
     refine norm_ (a' := ?_) ?_ ?_
     rotate_left
     ·show Act.put _ (some 12) _ = _
      simp only [pq]
      rfl
     refine one_ (i := 8) (N := some 13) #[true, true, true, true, true, true, true, true, true, false] rfl rfl (one_of HT_.out (by kernel_rfl)) (by decide) (fun K hK => ?_)
     refine goes_ Tryz.func141 (by kernel_rfl) rfl #[.slice Ao14 y283.length co14] (by rfl) rfl rfl mq ?_
     with_reducible refine (slices_Concat_int_int.calls k _ _ y283 t286 _ ?side1 ?side2 A8.out).mono ?_
     (case side1 => repeat (first | exact (Kd.N_reads' HO285.out).2.2 | (with_reducible refine Kd.C_alloc ?_ _) | (with_reducible refine Kd.C_drewN ?_ _) | (with_reducible refine Kd.C_drew ?_)))
     (case side2 => exact (Kd.N_reads' HO285.out).2.1)
     rintro e w15 ⟨v287, rfl, ho0, hb⟩
     refine ⟨_, rfl, ?_⟩
     have n0_ := Aside0.mk (Kd.V_elder' (by (with_reducible repeat (first | apply Kd.V_alloc | apply Kd.V_drewN | apply Kd.V_drew)); exact HO0.out) (Kd.R_base ho0) hb)
     have n1_ := Aside0.mk (Kd.V_elder' (by (with_reducible repeat (first | apply Kd.V_alloc | apply Kd.V_drewN | apply Kd.V_drew)); exact HO277.out) (Kd.R_base ho0) hb)
     have n2_ := Aside0.mk (Kd.V_elder' (by (with_reducible repeat (first | apply Kd.V_alloc | apply Kd.V_drewN | apply Kd.V_drew)); exact HO282.out) (Kd.R_base ho0) hb)
     have n3_ := Aside0.mk (Kd.N_elder' (by (with_reducible repeat (first | apply Kd.N_alloc | apply Kd.N_drewN | apply Kd.N_drew)); exact HO285.out) (Kd.R_base ho0) hb)
     have n4_ := Aside0.mk (Kd.R_lower (Kd.R_newM (M := fun k_ => (w.heap.size ≤ k_)) ho0 (below_size (bw HB.out)) (fun k_ h_ => h_)) (below_size (bw HB.out)))
     have n5_ := Aside0.mk (below_step (bw HB.out) hb)
     clear HO0
     clear HO277
     clear HO282
     clear HO285
     clear HB
     have HO0 := n0_
     have HO277 := n1_
     have HO282 := n2_
     have HO285 := n3_
     have HO288 := n4_
     have HB := n5_
     clear n0_ n1_ n2_ n3_ n4_ n5_
     (try clear hb)
     (try clear hb2)
     (try clear hk)
     (try clear hi)
     (try clear ho0)
     refine hK.out _ _ trivial (fun hHeld => ?_)
     clear hK K
     refine norm_ (a' := ?_) ?_ ?_
     rotate_left
     ·show Act.put _ (some 13) _ = _
      simp only [pq]
      rfl
     refine pure_ (i := 9) (N := some 4) (v := ?_) (a' := ?_) #[true, true, true, true, true, true, true, true, true, true] rfl rfl (any_of HT_.out (by kernel_rfl)) (fun _ _ _ h => h) (Or.inl ⟨by rfl, ?_⟩) ?_ ?_
     rotate_left
     ·intro w'
      go_simp
      with_reducible rfl
     rotate_left
     ·simp only [pq]
      rfl
     refine done_ (done_of HT_.out (by kernel_rfl)) ?_
     try go_wp2
     go_ret
     exact ⟨_, by first | rfl | (simp [errW_none, errW_some] <;> rfl) | (simp only [← hji5]; first | rfl | (simp [errW_none, errW_some] <;> rfl)) | (simp [*, errW_none, errW_some] <;> rfl), by (with_reducible repeat (first | apply Kd.R_alloc | apply Kd.R_drewN | apply Kd.R_drew)); exact Kd.R_mono HO288.out (fun _ hk => hk.1), by repeat (first | (with_reducible first | exact HB.out | apply below_alloc | apply pw_below_drewN | apply below_drew1) | exact HB.out)⟩
    ·rw [if_neg c7] at H
     exact absurd H (by simp)
   ·rw [if_neg c6] at H
    exact absurd H (by simp)
  ·rw [if_neg c4] at H
   exact absurd H (by simp)
 ·rw [if_neg c3] at H
  exact absurd H (by simp)
def wheel_all.l0 : Nat → List Int → Int → Int → Option (List Int)
 |0, _, _, _ => none
 |k + 1, x3, x6, x7 => if x7 < x6 then (if x3.length < 17592186044416 then (wheel_all.l0 k (x3 ++ [x7]) x6 (wrap64 (x7 + 1))) else (none)) else (some x3)
def wheel_all.f (k : Nat) (a0 : Int) : Option (List Int) := wheel_all.l0 k (([] : List Int)) a0 0
theorem wheel_all.mono_l : ∀ k, (∀ y0 y1 y2, LeO (wheel_all.l0 k y0 y1 y2) (wheel_all.l0 (k + 1) y0 y1 y2))
 |0 => fun _ _ _ r h => by simp [wheel_all.l0] at h
 |k + 1 => by
  have ih0 := wheel_all.mono_l k
  ·intro y0 y1 y2
   unfold wheel_all.l0
   repeat' first
   |(with_reducible exact ih0 _ _ _)
   |(with_reducible exact LeO.refl _)
   |(with_reducible exact LeO.none _)
   |(with_reducible refine LeO.ite ?_ ?_)
   |(with_reducible refine LeO.bind ?_ (fun _ => ?_))
   |exact ih0 _ _ _
   |exact LeO.none _
   |refine LeO.ite ?_ ?_
   |refine LeO.bind ?_ (fun _ => ?_)
theorem wheel_all.mono : ∀ a0 k, LeO (wheel_all.f k a0) (wheel_all.f (k + 1) a0) := by
 intro a0 k
 have ih0 := wheel_all.mono_l k
 unfold wheel_all.f
 repeat' first
   |(with_reducible exact ih0 _ _ _)
   |(with_reducible exact LeO.refl _)
   |(with_reducible exact LeO.none _)
   |(with_reducible refine LeO.ite ?_ ?_)
   |(with_reducible refine LeO.bind ?_ (fun _ => ?_))
   |exact ih0 _ _ _
   |exact LeO.none _
   |refine LeO.ite ?_ ?_
   |refine LeO.bind ?_ (fun _ => ?_)
set_option maxHeartbeats 8000000 in
set_option maxRecDepth 100000 in
theorem wheel_all.calls (k : Nat) (a0 : Int) (r : List Int) (w : World) (h : wheel_all.f k a0 = some r) :
  Calls Tryz.prog 106 #[.int .i64 a0] w fun e w' => ∃ v0_ : Value, e = .returned (v0_) ∧ Kd.R (Kd.int .i64) 3 w' w.heap.size (fun _ => True) v0_ r ∧ Below w.heap.size w w' := by
 have HB := Aside0.mk (Below.refl w.heap.size w)
 have H : (wheel_all.l0 k (([] : List Int)) a0 0) = some r := h
 clear h
 obtain ⟨y238, hy238⟩ : ∃ y_ : List Int, y_ = (([] : List Int)) := ⟨_, rfl⟩
 replace H : (wheel_all.l0 k y238 a0 0) = some r := by first | (rw [hy238]; with_reducible exact H) | (have H2_ := (Option.bind_some _ _).symm.trans H; rw [hy238]; with_reducible exact H2_) | (have H2_ := (Option.bind_some _ _).symm.trans H; with_reducible exact H2_) | with_reducible exact H | (rw [hy238]; exact H) | exact H
 have Ny238 := Aside0.mk hy238
 clear hy238
 have H' := Aside0.mk H
 clear H
 go_enter Tryz.func106, Tryz.ntmps106
 go_wp2_with (first | ((with_reducible refine gate_dst (N := 5) rfl ?_); refine Kd.R_lit (Kd.int .i64) _ 3 ?hg (N := 5) ?hd (xs := ([] : List Int)) (inner := []) (ok := fun _ => True) (okp := fun _ => True) ?hr ?hp (fun _ hk => hk) trivial (Below.refl _ _) (Nat.le_refl _) (by simp) ?_; (case hd => rfl); (case hg => rfl); (case hr => first | (go_simp; done) | (go_simp; rfl)); (case hp => exact (Reps.none _ _)); intro v239 w2 ho3 hb hg_ hnew_; clear hg_ hnew_; (first | rw [← Ny238.out] at ho3 | (simp only [Int.reduceToNat] at ho3; rw [← Ny238.out] at ho3)); have n0_ := Aside0.mk (Kd.R_lower ho3 (below_size (bw HB.out))); have n1_ := Aside0.mk (below_step (bw HB.out) hb); clear HB; have HO240 := n0_; have HB := n1_; clear n0_ n1_; clear hb ho3))
 go_loopg [3, 7] k (fun kq v3 v7 w' => ∃ (x3_1 : List Int) (x7_1 : Int), v7 = .int .i64 x7_1 ∧ Aside0 (wheel_all.l0 kq x3_1 a0 x7_1 = some r) ∧ Aside0 (kq ≤ k) ∧ Aside0 (Kd.R (Kd.int .i64) 3 w' w.heap.size (fun _ => True) v3 x3_1) ∧ Aside0 (Below w.heap.size w w'))
 case atStart => exact ⟨(y238), (0), (by first | rfl | (simp; done) | (simp [*]; done)), H', ⟨Nat.le_refl _⟩, ⟨rq HO240.out⟩, ⟨by repeat (first | (with_reducible first | exact HB.out | apply below_alloc | apply pw_below_drewN | apply below_drew1) | exact HB.out)⟩⟩
 case round =>
  clear H'
  try clear c1
  try clear p2
  obtain ⟨x3_1, x7_1, rfl, HA, HK1, HO_3, HB⟩ := hrel
  cases gk with
  |zero => exact absurd HA.out (by simp [wheel_all.l0])
  |succ k1 =>
   have H := HA.out
   clear HA
   simp only [wheel_all.l0] at H
   by_cases c4 : x7_1 < a0
   ·rw [if_pos c4] at H
    have c4b0 : decide (x7_1 < a0) = true := decide_eq_true c4
    clear c4
    by_cases c5 : x3_1.length < 17592186044416
    ·rw [if_pos c5] at H
     have LMc5 := Aside0.mk c5
     clear c5
     obtain ⟨y241, hy241⟩ : ∃ y_ : List Int, y_ = (x3_1 ++ [x7_1]) := ⟨_, rfl⟩
     replace H : (wheel_all.l0 k1 y241 a0 (wrap64 (x7_1 + 1))) = some r := by first | (rw [hy241]; with_reducible exact H) | (have H2_ := (Option.bind_some _ _).symm.trans H; rw [hy241]; with_reducible exact H2_) | (have H2_ := (Option.bind_some _ _).symm.trans H; with_reducible exact H2_) | with_reducible exact H | (rw [hy241]; exact H) | exact H
     have Ny241 := Aside0.mk hy241
     clear hy241
     have H' := Aside0.mk H
     clear H
     go_wp2_with (first | ((with_reducible refine gate_builtin (b := .append) (xs := #[.tmp 10, .tmp 12]) rfl ?_); at_builtin; refine Kd.R_append (Kd.int .i64) (w0 := w) w.heap.size rfl (.tmp 10) (.tmp 12) 36 3 (.int .i64 0) 8 rfl Tryz.underlying36 info3 rfl (by decide) (by omega) u3 x3_1 x7_1 [.int .i64 x7_1] (fun _ => True) (fun _ => False) rfl rfl ?aP (fun _ hk => hk.elim) ?aF ?aO ?aB ?aS ?aL ?_; (case aP => exact rfl); (case aB => exact (bw HB.out)); (case aF => exact (fun _ _ => trivial)); (case aO => exact (rq HO_3.out)); (case aS => exact (below_size (bw HB.out))); (case aL => have := LMc5.out; omega); intro v242 w6 ho hb hg hat; rw [← Ny241.out] at ho; have n0_ := Aside0.mk (hb); have n1_ := Aside0.mk (ho); clear HB; clear HO_3; have HB := n0_; have HO243 := n1_; clear n0_ n1_; clear ho hb hg hat))
     go_roundg k1
     case measure => have := HK1.out; omega
     case rel => exact ⟨(y241), (wrap64 (x7_1 + 1)), (by first | rfl | (simp; done) | (simp [*]; done)), H', ⟨by have := HK1.out; omega⟩, ⟨rq HO243.out⟩, ⟨by repeat (first | (with_reducible first | exact HB.out | apply below_alloc | apply pw_below_drewN | apply below_drew1) | exact HB.out)⟩⟩
    ·rw [if_neg c5] at H
     exact absurd H (by simp)
   ·rw [if_neg c4] at H
    have c4b0 : decide (x7_1 < a0) = false := decide_eq_false c4
    clear c4
    obtain rfl := Option.some.inj H
    go_wp2
    go_ret
    exact ⟨_, by first | rfl | (simp [errW_none, errW_some] <;> rfl) | (simp [*, errW_none, errW_some] <;> rfl), by (with_reducible repeat (first | apply Kd.R_alloc | apply Kd.R_drewN | apply Kd.R_drew)); exact HO_3.out, by repeat (first | (with_reducible first | exact HB.out | apply below_alloc | apply pw_below_drewN | apply below_drew1) | exact HB.out)⟩
def pick {α : Type} (l : List α) (z : α) (at_ : List Int) : List α := at_.map fun i => l.getD i.toNat z
def idxOk {α : Type} (l : List α) (at_ : List Int) : Prop := at_.length ≤ 1000 ∧ ∀ i ∈ at_, 0 ≤ i ∧ i < l.length
theorem rdN (l : List Int) (i : Nat) : rd l (i : Int) = l.getD i 0 := by unfold rd; rw [Int.toNat_natCast]
theorem some61_loop (l : List S61) (at_ : List Int) (h : idxOk l at_) : ∀ (m i : Nat) (o : List S61), i + m = at_.length → o.length ≤ i → ∀ k, api_Trial_139.l0 (k + m + 1) l o at_ (at_.length : Int) (i : Int) = some (o ++ pick l z61 (at_.drop i)) := by
 intro m
 induction m with
 |zero =>
  intro i o hi ho k
  obtain rfl : i = at_.length := by omega
  simp only [api_Trial_139.l0, Nat.add_zero]
  rw [if_neg (by omega), List.drop_length]
  simp [pick]
 |succ m ih =>
  intro i o hi ho k
  have hlt : i < at_.length := by omega
  have hlen := h.1
  have hb := h.2 _ (mem_getD hlt 0)
  obtain ⟨K, hK⟩ : ∃ K, K = k + m + 1 := ⟨_, rfl⟩
  rw [show k + (m + 1) + 1 = K + 1 by omega]
  simp only [api_Trial_139.l0, rdN]
  rw [if_pos (by omega), if_pos (by omega), if_pos (by omega), if_pos hb.1, if_pos hb.2, if_pos (by omega), wrap64_id (x := (i : Int) + 1) (by omega) (by omega), show (i : Int) + 1 = ((i + 1 : Nat) : Int) by omega, hK, ih (i + 1) _ (by omega) (by simp; omega), List.append_assoc, drop_getD at_ i hlt 0]
  rfl
theorem some64_loop (l : List S64) (at_ : List Int) (h : idxOk l at_) : ∀ (m i : Nat) (o : List S64), i + m = at_.length → o.length ≤ i → ∀ k, api_Reading_140.l0 (k + m + 1) l o at_ (at_.length : Int) (i : Int) = some (o ++ pick l z64 (at_.drop i)) := by
 intro m
 induction m with
 |zero =>
  intro i o hi ho k
  obtain rfl : i = at_.length := by omega
  simp only [api_Reading_140.l0, Nat.add_zero]
  rw [if_neg (by omega), List.drop_length]
  simp [pick]
 |succ m ih =>
  intro i o hi ho k
  have hlt : i < at_.length := by omega
  have hlen := h.1
  have hb := h.2 _ (mem_getD hlt 0)
  obtain ⟨K, hK⟩ : ∃ K, K = k + m + 1 := ⟨_, rfl⟩
  rw [show k + (m + 1) + 1 = K + 1 by omega]
  simp only [api_Reading_140.l0, rdN]
  rw [if_pos (by omega), if_pos (by omega), if_pos (by omega), if_pos hb.1, if_pos hb.2, if_pos (by omega), wrap64_id (x := (i : Int) + 1) (by omega) (by omega), show (i : Int) + 1 = ((i + 1 : Nat) : Int) by omega, hK, ih (i + 1) _ (by omega) (by simp; omega), List.append_assoc, drop_getD at_ i hlt 0]
  rfl
def noneR (D S : Int) (l1 : List S61) (l2 : List S64) (l3 : List S59) (tr rd_ : List Int) : Bool := !(caseR D S (pick l1 z61 tr) (pick l2 z64 rd_) l3).2.2.1
theorem wheel_none.eval (D S : Int) (l1 : List S61) (l2 : List S64) (l3 : List S59) (tr rd_ : List Int) (h1 : idxOk l1 tr) (h2 : idxOk l2 rd_) : wheel_none.f (tr.length + rd_.length + 1) D S l1 l2 l3 tr rd_ = some (noneR D S l1 l2 l3 tr rd_) := by
 unfold wheel_none.f api_Trial_139.f api_Reading_140.f
 have e1 := some61_loop l1 tr h1 tr.length 0 [] (by omega) (by simp) rd_.length
 have e2 := some64_loop l2 rd_ h2 rd_.length 0 [] (by omega) (by simp) tr.length
 rw [show ((0 : Nat) : Int) = 0 from rfl] at e1 e2
 rw [show tr.length + rd_.length + 1 = rd_.length + tr.length + 1 by omega, e1, show rd_.length + tr.length + 1 = tr.length + rd_.length + 1 by omega, e2]
 rfl
theorem none_any (D S : Int) (A1 : Option Addr) (c1 : Nat) (l1 : List S61) (A2 : Option Addr) (c2 : Nat) (l2 : List S64) (A3 : Option Addr) (c3 : Nat) (l3 : List S59) (A4 : Option Addr) (c4 : Nat) (tr : List Int) (A5 : Option Addr) (c5 : Nat) (rd_ : List Int) (w : World) (hr1 : Kd.C k61 w A1 l1.length l1) (hc1 : l1.length ≤ c1) (hr2 : Kd.C k64 w A2 l2.length l2) (hc2 : l2.length ≤ c2) (hr3 : Kd.C k59 w A3 l3.length l3) (hc3 : l3.length ≤ c3)
  (hr4 : Kd.C (Kd.int .i64) w A4 tr.length tr) (hc4 : tr.length ≤ c4) (hr5 : Kd.C (Kd.int .i64) w A5 rd_.length rd_) (hc5 : rd_.length ≤ c5) (h1 : idxOk l1 tr) (h2 : idxOk l2 rd_) :
  Calls Tryz.prog 107 #[.agg #[.int .i64 D, .int .i64 S], .slice A1 l1.length c1, .slice A2 l2.length c2, .slice A3 l3.length c3, .slice A4 tr.length c4, .slice A5 rd_.length c5] w fun e w' => e = .returned (.bool (noneR D S l1 l2 l3 tr rd_)) ∧ Below w.heap.size w w' :=
 wheel_none.calls _ D S A1 c1 l1 A2 c2 l2 A3 c3 l3 A4 c4 tr A5 c5 rd_ _ w hr1 hc1 hr2 hc2 hr3 hc3 hr4 hc4 hr5 hc5 (wheel_none.eval D S l1 l2 l3 tr rd_ h1 h2)
def allI (n : Nat) : List Int := (List.range n).map fun (i : Nat) => (i : Int)
theorem allI_succ (n : Nat) : allI (n + 1) = allI n ++ [(n : Int)] := by unfold allI; rw [List.range_succ, List.map_append]; rfl
theorem allI_len (n : Nat) : (allI n).length = n := by simp [allI]
theorem all_loop (n : Nat) (hn : n ≤ 1000) : ∀ (m i : Nat), i + m = n → ∀ k, wheel_all.l0 (k + m + 1) (allI i) (n : Int) (i : Int) = some (allI n) := by
 intro m
 induction m with
 |zero =>
  intro i hi k
  obtain rfl : i = n := by omega
  simp only [wheel_all.l0, Nat.add_zero]
  rw [if_neg (by omega)]
 |succ m ih =>
  intro i hi k
  obtain ⟨K, hK⟩ : ∃ K, K = k + m + 1 := ⟨_, rfl⟩
  rw [show k + (m + 1) + 1 = K + 1 by omega]
  simp only [wheel_all.l0]
  rw [if_pos (by omega), if_pos (by rw [allI_len]; omega), wrap64_id (x := (i : Int) + 1) (by omega) (by omega), show (i : Int) + 1 = ((i + 1 : Nat) : Int) by omega, ← allI_succ, hK, ih (i + 1) (by omega)]
theorem all_any (n : Nat) (hn : n ≤ 1000) (w : World) : Calls Tryz.prog 106 #[.int .i64 (n : Int)] w fun e w' => ∃ v0_ : Value, e = .returned (v0_) ∧ Kd.R (Kd.int .i64) 3 w' w.heap.size (fun _ => True) v0_ (allI n) ∧ Below w.heap.size w w' :=
 wheel_all.calls (n + 1) (n : Int) (allI n) w (by
  unfold wheel_all.f
  have h := all_loop n hn n 0 (by omega) 0
  rw [Nat.zero_add] at h
  exact h)
theorem allI_idx {α : Type} (l : List α) (h : l.length ≤ 1000) : idxOk l (allI l.length) := by
 refine ⟨by rw [allI_len]; exact h, fun i hi => ?_⟩
 obtain ⟨j, hj, rfl⟩ := List.mem_map.1 hi
 have := List.mem_range.1 hj
 omega
theorem concat2_eval (a b : List Int) (ha : a.length ≤ 1000) (hb : b.length ≤ 1000) : slices_Concat_int_int.f 6 [a, b] = some (a ++ b) := by
 have e1 : wrap64 (0 + 1) = 1 := by rw [wrap64_id (by omega) (by omega)]; rfl
 have e2 : wrap64 (1 + 1) = 2 := by rw [wrap64_id (by omega) (by omega)]; rfl
 have r0 : rd_L2 [a, b] 0 = a := rfl
 have r1 : rd_L2 [a, b] 1 = b := rfl
 have w1 : wrap64 (0 + (a.length : Int)) = a.length := by rw [wrap64_id (by omega) (by omega)]; omega
 have w2 : wrap64 ((a.length : Int) + (b.length : Int)) = (a.length : Int) + b.length := wrap64_id (by omega) (by omega)
 unfold slices_Concat_int_int.f
 rw [slices_Concat_int_int.l0, if_pos (by simp), if_pos (by omega), if_pos (by simp), r0, w1, if_neg (by omega), e1,
  slices_Concat_int_int.l0, if_pos (by simp), if_pos (by omega), if_pos (by simp), r1, w2, if_neg (by omega), e2,
  slices_Concat_int_int.l0, if_neg (by simp)]
 unfold slices_Grow_int_int.f
 rw [if_pos ⟨by omega, by omega⟩, Option.bind_some,
  slices_Concat_int_int.l1, if_pos (by simp), if_pos (by omega), if_pos (by simp), r0, if_pos (by simp; omega), e1,
  slices_Concat_int_int.l1, if_pos (by simp), if_pos (by omega), if_pos (by simp), r1, if_pos (by simp; omega), e2,
  slices_Concat_int_int.l1, if_neg (by simp), List.nil_append]
theorem but_eval (l : List Int) (i : Nat) (hi : i < l.length) (hl : l.length ≤ 1000) : wheel_but.f 6 l (i : Int) = some (l.eraseIdx i) := by
 have hw : wrap64 ((i : Int) + 1) = ((i + 1 : Nat) : Int) := by rw [wrap64_id (by omega) (by omega)]; omega
 unfold wheel_but.f
 rw [if_pos (by omega), if_pos (by omega), hw, if_pos (by omega), if_pos (by omega), Int.toNat_natCast, Int.toNat_natCast, concat2_eval _ _ (by rw [List.length_take]; omega) (by rw [List.length_drop]; omega), List.eraseIdx_eq_take_drop_succ]
 rfl
theorem but_any (l : List Int) (i : Nat) (hi : i < l.length) (hl : l.length ≤ 1000) (B : Nat) (ok : Nat → Prop) (A : Option Addr) (c : Nat) (w : World) (hR : Kd.R (Kd.int .i64) 3 w B ok (.slice A l.length c) l) :
  Calls Tryz.prog 108 #[.slice A l.length c, .int .i64 (i : Int)] w fun e w' => ∃ v0_ : Value, e = .returned (v0_) ∧ Kd.R (Kd.int .i64) 3 w' w.heap.size (fun _ => True) v0_ (l.eraseIdx i) ∧ Below w.heap.size w w' := by
 refine (wheel_but.calls 6 ok A c l (i : Int) (l.eraseIdx i) w (Kd.R_V hR) (but_eval l i hi hl)).mono ?_
 rintro e w' ⟨v0, rfl, h1, h2⟩
 exact ⟨v0, rfl, Kd.R_mono h1 (fun _ _ => trivial), h2⟩
theorem idxOk_erase {α : Type} {l : List α} {at_ : List Int} (h : idxOk l at_) (i : Nat) : idxOk l (at_.eraseIdx i) :=
 ⟨Nat.le_trans (List.length_eraseIdx_le ..) h.1, fun x hx => h.2 x (List.mem_of_mem_eraseIdx hx)⟩
def shrinkL (p : List Int → Bool) : Nat → Nat → List Int → List Int
 |0, _, l => l
 |m + 1, i, l => if i < l.length then (if p (l.eraseIdx i) then shrinkL p m i (l.eraseIdx i) else shrinkL p m (i + 1) l) else l
def shrinkR (p : List Int → Bool) (l : List Int) : List Int := shrinkL p l.length 0 l
theorem shrinkL_end (p : List Int → Bool) (m : Nat) (l : List Int) : shrinkL p m l.length l = l := by
 cases m with
 |zero => rfl
 |succ m => unfold shrinkL; rw [if_neg (Nat.lt_irrefl _)]
theorem shrinkL_yes {p : List Int → Bool} {i : Nat} {l : List Int} (hi : i < l.length) (h : p (l.eraseIdx i) = true) : shrinkL p (l.length - i) i l = shrinkL p ((l.eraseIdx i).length - i) i (l.eraseIdx i) := by
 rw [show l.length - i = (l.length - i - 1) + 1 by omega, shrinkL, if_pos hi, if_pos h, List.length_eraseIdx_of_lt hi, show l.length - 1 - i = l.length - i - 1 by omega]
theorem shrinkL_no {p : List Int → Bool} {i : Nat} {l : List Int} (hi : i < l.length) (h : p (l.eraseIdx i) = false) : shrinkL p (l.length - i) i l = shrinkL p (l.length - (i + 1)) (i + 1) l := by
 rw [show l.length - i = (l.length - i - 1) + 1 by omega, shrinkL, if_pos hi, h, show l.length - (i + 1) = l.length - i - 1 by omega]
 rfl
def sliceLen : Value → Nat
 |.slice _ n _ => n
 |_ => 0
def clashT (D S : Int) (l1 : List S61) (l2 : List S64) (l3 : List S59) : List Int := shrinkR (fun t => noneR D S l1 l2 l3 t (allI l2.length)) (allI l1.length)
def clashD (D S : Int) (l1 : List S61) (l2 : List S64) (l3 : List S59) (t : List Int) : List Int := shrinkR (fun r => noneR D S l1 l2 l3 t r) (allI l2.length)
def clashR (D S : Int) (l1 : List S61) (l2 : List S64) (l3 : List S59) : List Int × List Int × Bool × Int :=
 if opErr D S l1 l2 l3 = 0 then
  (if noneR D S l1 l2 l3 (allI l1.length) (allI l2.length) then (clashT D S l1 l2 l3, clashD D S l1 l2 l3 (clashT D S l1 l2 l3), true, 0) else ([], [], false, 0))
 else ([], [], false, opErr D S l1 l2 l3)
set_option maxHeartbeats 8000000 in
set_option maxRecDepth 100000 in
theorem clash_any (D S : Int) (A1 : Option Addr) (c1 : Nat) (l1 : List S61) (A2 : Option Addr) (c2 : Nat) (l2 : List S64) (A3 : Option Addr) (c3 : Nat) (l3 : List S59) (r0 r1 : List Int) (r2 : Bool) (r3 : Int) (w : World) (hr1 : Kd.C k61 w A1 l1.length l1) (hc1 : l1.length ≤ c1) (hr2 : Kd.C k64 w A2 l2.length l2) (hc2 : l2.length ≤ c2) (hr3 : Kd.C k59 w A3 l3.length l3) (hc3 : l3.length ≤ c3) (h : clashR D S l1 l2 l3 = (r0, r1, r2, r3)) :
  Calls Tryz.prog 54 #[.agg #[.int .i64 D, .int .i64 S], .slice A1 l1.length c1, .slice A2 l2.length c2, .slice A3 l3.length c3] w fun e w' => ∃ v0_ v1_ : Value, e = .returned (.tuple #[v0_, v1_, .bool r2, .int .i64 r3]) ∧ Kd.R (Kd.int .i64) 3 w' w.heap.size (fun _ => True) v0_ r0 ∧ Kd.R (Kd.int .i64) 3 w' w.heap.size (fun _ => True) v1_ r1 ∧ Below w.heap.size w w' := by
 have HB := Aside0.mk (Below.refl w.heap.size w)
 have H := Aside0.mk h
 have hu23 := Tryz.underlying23
 by_cases he : opErr D S l1 l2 l3 = 0
 ·have hop := fun W hB => opened_ok hr1 hc1 hr2 hc2 hr3 hc3 he W hB
  obtain ⟨_, _, _, hn1, hn2, _⟩ := opErr_zero he
  have hall1 := fun W => all_any l1.length (by omega) W
  have hall2 := fun W => all_any l2.length (by omega) W
  have HE := Aside0.mk he
  have HNONE := Aside0.mk (fun (W : World) (hB : Below w.heap.size w W) A4 c4 tr A5 c5 rd_ => none_any D S A1 c1 l1 A2 c2 l2 A3 c3 l3 A4 c4 tr A5 c5 rd_ W (Kd.C_below hr1 hB) hc1 (Kd.C_below hr2 hB) hc2 (Kd.C_below hr3 hB) hc3)
  have HI1 := Aside0.mk (allI_idx l1 (by omega))
  have HI2 := Aside0.mk (allI_idx l2 (by omega))
  have hlen1 : (allI l1.length).length = l1.length := allI_len _
  have hlen2 : (allI l2.length).length = l2.length := allI_len _
  obtain ⟨T0, hT0⟩ : ∃ T0, allI l1.length = T0 := ⟨_, rfl⟩
  obtain ⟨D0, hD0⟩ : ∃ D0, allI l2.length = D0 := ⟨_, rfl⟩
  have hcl : clashR D S l1 l2 l3 = if noneR D S l1 l2 l3 T0 D0 then (shrinkR (fun t => noneR D S l1 l2 l3 t D0) T0, shrinkR (fun r => noneR D S l1 l2 l3 (shrinkR (fun t => noneR D S l1 l2 l3 t D0) T0) r) D0, true, 0) else ([], [], false, 0) := by
   unfold clashR clashD clashT
   rw [if_pos he, hT0, hD0]
  rw [hT0] at hall1 HI1
  rw [hD0] at hall2 HI2
  obtain ⟨b0, hb0⟩ : ∃ b0, noneR D S l1 l2 l3 T0 D0 = b0 := ⟨_, rfl⟩
  rw [hb0, h] at hcl
  have HB0 := Aside0.mk hb0
  have HCL := Aside0.mk hcl
  clear he h hr1 hc1 hr2 hc2 hr3 hc3 hb0 hlen1 hlen2 hT0 hD0 hcl H
  cases b0 with
  |false =>
   go_enter Tryz.func54, Tryz.ntmps54
   go_wp2_with (first | (go_at_call 68; refine Calls.mono (hop _ (by repeat (first | exact HB.out | apply below_alloc))) ?_; clear hop; rintro e W2 ⟨hb, hbw, qb, hqb, rfl, hq⟩; have HB2 := Aside0.mk hbw; have HBX := Aside0.mk (blk_below (blk_new w (.cells #[.int .i64 D, .int .i64 S] 23)) hb); clear hb hbw hqb hq) | (go_at_call 106; refine Calls.mono (hall1 _) ?_; clear hall1; rintro e W3 ⟨v1, rfl, hR1, hb⟩; have HB3 := Aside0.mk (below_weaken HB2.out HB2.out.size hb); have HBX3 := Aside0.mk (blk_below HBX.out hb); have R1 := Aside0.mk (Kd.R_lower hR1 HB2.out.size); clear hR1 hb) | (go_at_call 106; refine Calls.mono (hall2 _) ?_; clear hall2; rintro e W4 ⟨v2, rfl, hR2, hb⟩; have HB4 := Aside0.mk (below_weaken HB3.out HB3.out.size hb); have hbx4 := blk_below HBX3.out hb; have hx0 : W4.cell? ⟨w.heap.size, 0, none⟩ = some (.int .i64 D) := (blk_cell hbx4 0).trans rfl; have hx1 : W4.cell? ⟨w.heap.size, 1, none⟩ = some (.int .i64 S) := (blk_cell hbx4 1).trans rfl; have r1b := Kd.R_below R1.out hb; obtain ⟨Aa, ca, rfl⟩ := Kd.R_slice r1b; obtain ⟨Ab, cb, rfl⟩ := Kd.R_slice hR2; have hnone0 := HNONE.out W4 HB4.out Aa ca T0 Ab cb D0 (Kd.R_reads' r1b).2.2 (Kd.R_reads' r1b).2.1 (Kd.R_reads' hR2).2.2 (Kd.R_reads' hR2).2.1 HI1.out HI2.out; rw [HB0.out] at hnone0; clear r1b hR2 hb hbx4) | (go_at_call 107; refine Calls.mono hnone0 ?_; clear hnone0; rintro e W5 ⟨rfl, hb⟩; have HB5 := Aside0.mk (below_weaken HB4.out HB4.out.size hb); clear hb))
   have hcl := HCL.out
   simp only [Bool.false_eq_true, if_false, Prod.mk.injEq] at hcl
   obtain ⟨rfl, rfl, rfl, rfl⟩ := hcl
   refine bodyPost_ret (results_list (rs := [.tmp 8, .tmp 9, .tmp 10, .tmp 11]) rfl (by simp) (.tmp (.tmp (.tmp (.tmp .nil))))) rfl ?_
   exact ⟨_, _, rfl, Kd.R_nil _ _ _ _ _, Kd.R_nil _ _ _ _ _, HB5.out⟩
  |true =>
   obtain ⟨T1, hT1⟩ : ∃ T1, shrinkR (fun t => noneR D S l1 l2 l3 t D0) T0 = T1 := ⟨_, rfl⟩
   have HT1 := Aside0.mk (show shrinkL (fun t => noneR D S l1 l2 l3 t D0) (T0.length - 0) 0 T0 = T1 from hT1)
   have hcl := HCL.out
   rw [hT1] at hcl
   simp only [if_true, Prod.mk.injEq] at hcl
   obtain ⟨rfl, hD1, rfl, rfl⟩ := hcl
   have HD1 := Aside0.mk (show shrinkL (fun r => noneR D S l1 l2 l3 r0 r) (D0.length - 0) 0 D0 = r1 from hD1.symm)
   clear hT1 hD1 HCL
   go_enter Tryz.func54, Tryz.ntmps54
   go_wp2_with (first | (go_at_call 68; refine Calls.mono (hop _ (by repeat (first | exact HB.out | apply below_alloc))) ?_; clear hop; rintro e W2 ⟨hb, hbw, qb, hqb, rfl, hq⟩; have HB2 := Aside0.mk hbw; have HBX := Aside0.mk (blk_below (blk_new w (.cells #[.int .i64 D, .int .i64 S] 23)) hb); clear hb hbw hqb hq) | (go_at_call 106; refine Calls.mono (hall1 _) ?_; clear hall1; rintro e W3 ⟨v1, rfl, hR1, hb⟩; have HB3 := Aside0.mk (below_weaken HB2.out HB2.out.size hb); have HBX3 := Aside0.mk (blk_below HBX.out hb); have R1 := Aside0.mk (Kd.R_lower hR1 HB2.out.size); clear hR1 hb) | (go_at_call 106; refine Calls.mono (hall2 _) ?_; clear hall2; rintro e W4 ⟨v2, rfl, hR2, hb⟩; have HB4 := Aside0.mk (below_weaken HB3.out HB3.out.size hb); have hbx4 := blk_below HBX3.out hb; have hx0 : W4.cell? ⟨w.heap.size, 0, none⟩ = some (.int .i64 D) := (blk_cell hbx4 0).trans rfl; have hx1 : W4.cell? ⟨w.heap.size, 1, none⟩ = some (.int .i64 S) := (blk_cell hbx4 1).trans rfl; have HBX4 := Aside0.mk hbx4; have r1b := Kd.R_below R1.out hb; obtain ⟨Aa, ca, rfl⟩ := Kd.R_slice r1b; obtain ⟨Ab, cb, rfl⟩ := Kd.R_slice hR2; have hnone0 := HNONE.out W4 HB4.out Aa ca T0 Ab cb D0 (Kd.R_reads' r1b).2.2 (Kd.R_reads' r1b).2.1 (Kd.R_reads' hR2).2.2 (Kd.R_reads' hR2).2.1 HI1.out HI2.out; rw [HB0.out] at hnone0; have R1b := Aside0.mk r1b; have R2 := Aside0.mk (Kd.R_lower hR2 HB3.out.size); clear r1b hR2 hb hbx4) | (go_at_call 107; refine Calls.mono hnone0 ?_; clear hnone0 hx0 hx1; rintro e W5 ⟨rfl, hb⟩; have HB5 := Aside0.mk (below_weaken HB4.out HB4.out.size hb); have HBX5 := Aside0.mk (blk_below HBX4.out hb); have R1c := Aside0.mk (Kd.R_below R1b.out hb); have R2c := Aside0.mk (Kd.R_below R2.out hb); clear hb))
   go_loopw [14, 16, 17] (fun v14 v16 v17 W => ∃ (t : List Int) (A : Option Addr) (c : Nat) (i : Nat), v14 = .slice A t.length c ∧ v16 = .int .i64 i ∧ i ≤ t.length ∧ Aside0 (Kd.R (Kd.int .i64) 3 W w.heap.size (fun _ => True) (.slice A t.length c) t) ∧ Aside0 (Kd.R (Kd.int .i64) 3 W w.heap.size (fun _ => True) (.slice Ab D0.length cb) D0) ∧ Aside0 (Below w.heap.size w W) ∧ Aside0 (W.heap[w.heap.size]? = some (.cells #[.int .i64 D, .int .i64 S] 23)) ∧ Aside0 (idxOk l1 t) ∧ Aside0 (shrinkL (fun t => noneR D S l1 l2 l3 t D0) (t.length - i) i t = r0)) (fun v14 v16 _ _ => sliceLen v14 - (intOf v16).toNat)
   case atStart => exact ⟨T0, Aa, ca, 0, rfl, rfl, Nat.zero_le _, R1c, R2c, HB5, HBX5, HI1, HT1⟩
   case round =>
    clear R1c R2c HB5 HBX5 HI1 HT1
    obtain ⟨t, A, c, i, rfl, rfl, hi, RT, RD, HB6, HBX6, HIT, HSH⟩ := hrel
    have htl : t.length ≤ 1000 := HIT.out.1
    by_cases hlt : i < t.length
    ·have hbut := but_any t i hlt htl w.heap.size _ A c _ RT.out
     obtain ⟨ls, hls⟩ : ∃ ls, t.eraseIdx i = ls := ⟨_, rfl⟩
     obtain ⟨b1, hb1⟩ : ∃ b1, noneR D S l1 l2 l3 ls D0 = b1 := ⟨_, rfl⟩
     have hll : ls.length = t.length - 1 := by rw [← hls]; exact List.length_eraseIdx_of_lt hlt
     have HIL := Aside0.mk (show idxOk l1 ls by rw [← hls]; exact idxOk_erase HIT.out i)
     have hstep := HSH.out
     rw [hls] at hbut
     have HB1 := Aside0.mk hb1
     have HLL := Aside0.mk hll
     have hyes : b1 = true → shrinkL (fun t => noneR D S l1 l2 l3 t D0) (ls.length - i) i ls = r0 := fun h => by rw [← hls, ← shrinkL_yes hlt (by rw [hls]; simpa [hb1] using h)]; exact hstep
     have hno : b1 = false → shrinkL (fun t => noneR D S l1 l2 l3 t D0) (t.length - (i + 1)) (i + 1) t = r0 := fun h => by rw [← shrinkL_no hlt (by rw [hls]; simpa [hb1] using h)]; exact hstep
     have HYES := Aside0.mk hyes
     have HNO := Aside0.mk hno
     clear hls hb1 hll hstep hyes hno
     cases b1 with
     |true =>
      go_wp2_with (first | (go_at_call 108; refine Calls.mono hbut ?_; clear hbut; rintro e W7 ⟨v0, rfl, hR0, hb⟩; obtain ⟨Al, cl, rfl⟩ := Kd.R_slice hR0; have hB7 := below_weaken HB6.out HB6.out.size hb; have hbx7 := blk_below HBX6.out hb; have hx0 : W7.cell? ⟨w.heap.size, 0, none⟩ = some (.int .i64 D) := (blk_cell hbx7 0).trans rfl; have hx1 : W7.cell? ⟨w.heap.size, 1, none⟩ = some (.int .i64 S) := (blk_cell hbx7 1).trans rfl; have hrd := Kd.R_below RD.out hb; have hnone1 := HNONE.out W7 hB7 Al cl ls Ab cb D0 (Kd.R_reads' hR0).2.2 (Kd.R_reads' hR0).2.1 (Kd.R_reads' hrd).2.2 (Kd.R_reads' hrd).2.1 HIL.out HI2.out; rw [HB1.out] at hnone1; have HB7 := Aside0.mk hB7; have HBX7 := Aside0.mk hbx7; have RL := Aside0.mk (Kd.R_lower hR0 HB6.out.size); have RD7 := Aside0.mk hrd; clear hR0 hb hbx7 hB7 hrd) | (go_at_call 107; refine Calls.mono hnone1 ?_; clear hnone1 hx0 hx1; rintro e W8 ⟨rfl, hb⟩; have HB8 := Aside0.mk (below_weaken HB7.out HB7.out.size hb); have HBX8 := Aside0.mk (blk_below HBX7.out hb); have RL8 := Aside0.mk (Kd.R_below RL.out hb); have RD8 := Aside0.mk (Kd.R_below RD7.out hb); clear hb))
      go_roundw
      case rel => exact ⟨ls, Al, cl, i, rfl, rfl, by have := HLL.out; omega, RL8, RD8, HB8, HBX8, HIL, ⟨HYES.out trivial⟩⟩
      case measure => have := HLL.out; simp [intOf, sliceLen]; omega
     |false =>
      go_wp2_with (first | (go_at_call 108; refine Calls.mono hbut ?_; clear hbut; rintro e W7 ⟨v0, rfl, hR0, hb⟩; obtain ⟨Al, cl, rfl⟩ := Kd.R_slice hR0; have hB7 := below_weaken HB6.out HB6.out.size hb; have hbx7 := blk_below HBX6.out hb; have hx0 : W7.cell? ⟨w.heap.size, 0, none⟩ = some (.int .i64 D) := (blk_cell hbx7 0).trans rfl; have hx1 : W7.cell? ⟨w.heap.size, 1, none⟩ = some (.int .i64 S) := (blk_cell hbx7 1).trans rfl; have hrd := Kd.R_below RD.out hb; have hnone1 := HNONE.out W7 hB7 Al cl ls Ab cb D0 (Kd.R_reads' hR0).2.2 (Kd.R_reads' hR0).2.1 (Kd.R_reads' hrd).2.2 (Kd.R_reads' hrd).2.1 HIL.out HI2.out; rw [HB1.out] at hnone1; have HB7 := Aside0.mk hB7; have HBX7 := Aside0.mk hbx7; have RT7 := Aside0.mk (Kd.R_below RT.out hb); have RD7 := Aside0.mk hrd; clear hR0 hb hbx7 hB7 hrd) | (go_at_call 107; refine Calls.mono hnone1 ?_; clear hnone1 hx0 hx1; rintro e W8 ⟨rfl, hb⟩; have HB8 := Aside0.mk (below_weaken HB7.out HB7.out.size hb); have HBX8 := Aside0.mk (blk_below HBX7.out hb); have RT8 := Aside0.mk (Kd.R_below RT7.out hb); have RD8 := Aside0.mk (Kd.R_below RD7.out hb); clear hb))
      go_roundw
      case rel => exact ⟨t, A, c, i + 1, rfl, by go_num, by omega, RT8, RD8, HB8, HBX8, HIT, ⟨HNO.out trivial⟩⟩
      case measure => simp [intOf, sliceLen]; omega
    ·obtain rfl : i = t.length := by omega
     have hsh := HSH.out
     rw [Nat.sub_self, shrinkL_end] at hsh
     obtain rfl := hsh
     clear HSH htl
     go_wp2
     go_loopw [15, 18, 19] (fun v15 v18 v19 W => ∃ (d : List Int) (Ad : Option Addr) (cd : Nat) (i : Nat), v15 = .slice Ad d.length cd ∧ v18 = .int .i64 i ∧ i ≤ d.length ∧ Aside0 (Kd.R (Kd.int .i64) 3 W w.heap.size (fun _ => True) (.slice A t.length c) t) ∧ Aside0 (Kd.R (Kd.int .i64) 3 W w.heap.size (fun _ => True) (.slice Ad d.length cd) d) ∧ Aside0 (Below w.heap.size w W) ∧ Aside0 (W.heap[w.heap.size]? = some (.cells #[.int .i64 D, .int .i64 S] 23 (0, 0))) ∧ Aside0 (idxOk l2 d) ∧ Aside0 (shrinkL (fun r => noneR D S l1 l2 l3 t r) (d.length - i) i d = r1)) (fun v15 v18 _ _ => sliceLen v15 - (intOf v18).toNat)
     case atStart => exact ⟨D0, Ab, cb, 0, rfl, rfl, Nat.zero_le _, RT, RD, HB6, HBX6, HI2, HD1⟩
     case round =>
      clear RT RD HB6 HBX6 HI2 HD1
      obtain ⟨d, Ad, cd, i, rfl, rfl, hi, RT, RD, HB6, HBX6, HID, HSH⟩ := hrel
      have htl : d.length ≤ 1000 := HID.out.1
      by_cases hlt : i < d.length
      ·have hbut := but_any d i hlt htl w.heap.size _ Ad cd _ RD.out
       obtain ⟨ls, hls⟩ : ∃ ls, d.eraseIdx i = ls := ⟨_, rfl⟩
       obtain ⟨b1, hb1⟩ : ∃ b1, noneR D S l1 l2 l3 t ls = b1 := ⟨_, rfl⟩
       have hll : ls.length = d.length - 1 := by rw [← hls]; exact List.length_eraseIdx_of_lt hlt
       have HIL := Aside0.mk (show idxOk l2 ls by rw [← hls]; exact idxOk_erase HID.out i)
       have hstep := HSH.out
       rw [hls] at hbut
       have HB1 := Aside0.mk hb1
       have HLL := Aside0.mk hll
       have hyes : b1 = true → shrinkL (fun r => noneR D S l1 l2 l3 t r) (ls.length - i) i ls = r1 := fun h => by rw [← hls, ← shrinkL_yes hlt (by rw [hls]; simpa [hb1] using h)]; exact hstep
       have hno : b1 = false → shrinkL (fun r => noneR D S l1 l2 l3 t r) (d.length - (i + 1)) (i + 1) d = r1 := fun h => by rw [← shrinkL_no hlt (by rw [hls]; simpa [hb1] using h)]; exact hstep
       have HYES := Aside0.mk hyes
       have HNO := Aside0.mk hno
       clear hls hb1 hll hstep hyes hno
       cases b1 with
       |true =>
        go_wp2_with (first | (go_at_call 108; refine Calls.mono hbut ?_; clear hbut; rintro e W7 ⟨v0, rfl, hR0, hb⟩; obtain ⟨Al, cl, rfl⟩ := Kd.R_slice hR0; have hB7 := below_weaken HB6.out HB6.out.size hb; have hbx7 := blk_below HBX6.out hb; have hx0 : W7.cell? ⟨w.heap.size, 0, none⟩ = some (.int .i64 D) := (blk_cell hbx7 0).trans rfl; have hx1 : W7.cell? ⟨w.heap.size, 1, none⟩ = some (.int .i64 S) := (blk_cell hbx7 1).trans rfl; have hrd := Kd.R_below RT.out hb; have hnone1 := HNONE.out W7 hB7 A c t Al cl ls (Kd.R_reads' hrd).2.2 (Kd.R_reads' hrd).2.1 (Kd.R_reads' hR0).2.2 (Kd.R_reads' hR0).2.1 HIT.out HIL.out; rw [HB1.out] at hnone1; have HB7 := Aside0.mk hB7; have HBX7 := Aside0.mk hbx7; have RL := Aside0.mk (Kd.R_lower hR0 HB6.out.size); have RT7 := Aside0.mk hrd; clear hR0 hb hbx7 hB7 hrd) | (go_at_call 107; refine Calls.mono hnone1 ?_; clear hnone1 hx0 hx1; rintro e W8 ⟨rfl, hb⟩; have HB8 := Aside0.mk (below_weaken HB7.out HB7.out.size hb); have HBX8 := Aside0.mk (blk_below HBX7.out hb); have RL8 := Aside0.mk (Kd.R_below RL.out hb); have RT8 := Aside0.mk (Kd.R_below RT7.out hb); clear hb))
        go_roundw
        case rel => exact ⟨ls, Al, cl, i, rfl, rfl, by have := HLL.out; omega, RT8, RL8, HB8, HBX8, HIL, ⟨HYES.out trivial⟩⟩
        case measure => have := HLL.out; simp [intOf, sliceLen]; omega
       |false =>
        go_wp2_with (first | (go_at_call 108; refine Calls.mono hbut ?_; clear hbut; rintro e W7 ⟨v0, rfl, hR0, hb⟩; obtain ⟨Al, cl, rfl⟩ := Kd.R_slice hR0; have hB7 := below_weaken HB6.out HB6.out.size hb; have hbx7 := blk_below HBX6.out hb; have hx0 : W7.cell? ⟨w.heap.size, 0, none⟩ = some (.int .i64 D) := (blk_cell hbx7 0).trans rfl; have hx1 : W7.cell? ⟨w.heap.size, 1, none⟩ = some (.int .i64 S) := (blk_cell hbx7 1).trans rfl; have hrd := Kd.R_below RT.out hb; have hnone1 := HNONE.out W7 hB7 A c t Al cl ls (Kd.R_reads' hrd).2.2 (Kd.R_reads' hrd).2.1 (Kd.R_reads' hR0).2.2 (Kd.R_reads' hR0).2.1 HIT.out HIL.out; rw [HB1.out] at hnone1; have HB7 := Aside0.mk hB7; have HBX7 := Aside0.mk hbx7; have RD7 := Aside0.mk (Kd.R_below RD.out hb); have RT7 := Aside0.mk hrd; clear hR0 hb hbx7 hB7 hrd) | (go_at_call 107; refine Calls.mono hnone1 ?_; clear hnone1 hx0 hx1; rintro e W8 ⟨rfl, hb⟩; have HB8 := Aside0.mk (below_weaken HB7.out HB7.out.size hb); have HBX8 := Aside0.mk (blk_below HBX7.out hb); have RD8 := Aside0.mk (Kd.R_below RD7.out hb); have RT8 := Aside0.mk (Kd.R_below RT7.out hb); clear hb))
        go_roundw
        case rel => exact ⟨d, Ad, cd, i + 1, rfl, by go_num, by omega, RT8, RD8, HB8, HBX8, HID, ⟨HNO.out trivial⟩⟩
        case measure => simp [intOf, sliceLen]; omega
      ·obtain rfl : i = d.length := by omega
       have hsh := HSH.out
       rw [Nat.sub_self, shrinkL_end] at hsh
       obtain rfl := hsh
       clear HSH htl
       go_wp2
       refine bodyPost_ret (results_list (rs := [.tmp 8, .tmp 9, .tmp 10, .tmp 11]) rfl (by simp) (.tmp (.tmp (.tmp (.tmp .nil))))) rfl ?_
       exact ⟨_, _, rfl, RT.out, RD.out, HB6.out⟩
 ·have hop := fun W hB => opened_err hr1 hc1 hr2 hc2 hr3 hc3 he W hB
  unfold clashR at h
  rw [if_neg he] at h
  simp only [Prod.mk.injEq] at h
  obtain ⟨rfl, rfl, rfl, hr3⟩ := h
  rw [hr3] at hop he
  clear hr3 H hr1 hr2 hc1 hc2 hc3
  go_enter Tryz.func54, Tryz.ntmps54
  go_wp2_with (go_at_call 68; refine Calls.mono (hop _ (by repeat (first | exact HB.out | apply below_alloc))) ?_; clear hop; rintro e W2 ⟨rfl, hb, hbw⟩; have HB2 := Aside0.mk hbw; clear hb hbw)
  refine bodyPost_ret (results_list (rs := [.tmp 8, .tmp 9, .tmp 10, .tmp 11]) rfl (by simp) (.tmp (.tmp (.tmp (.tmp .nil))))) rfl ?_
  exact ⟨_, _, rfl, Kd.R_nil _ _ _ _ _, Kd.R_nil _ _ _ _ _, HB2.out⟩
end Go.Proofs.YtgakfgedaipdmaaGreatDoor.P
