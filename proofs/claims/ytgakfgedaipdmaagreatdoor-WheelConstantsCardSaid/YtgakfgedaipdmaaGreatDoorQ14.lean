/- A part of the proof. -/
import Derived.Test.YtgakfgedaipdmaaGreatDoorQ13
import Derived.Shelf.Strconv.Itoa3
import Derived.Deep.RegionHeld3
namespace Go.Proofs
open Go.Shelf
def Tryz.lays171_ren : Go.Shelf.Ren := ⟨fun | 171 => 118 | 243 => 145 | 246 => 152 | 283 => 163 | 284 => 164 | 285 => 165 | 286 => 166 | 129 => 162 | 317 => 172 | 318 => 173 | 319 => 174 | 320 => 175 | 337 => 177 | 338 => 178 | n => n, fun | 3 => 3 | 9 => 9 | 2 => 2 | 4 => 4 | 171 => 203 | 0 => 0 | 53 => 202 | 37 => 205 | 5 => 5 | 173 => 206 | 212 => 216 | 51 => 200 | 20 => 20 | 213 => 217 | 46 => 188 | 232 => 220 | 233 => 221 | n => n, fun | 17 => 0 | 18 => 1 | 19 => 2 | n => n⟩
theorem Tryz.lays171 : Go.Proofs.Lays.n171 Tryz.prog Tryz.lays171_ren := {
 mixed := by kernel_rfl
 f129 := Tryz.func162.trans (congrArg some (by kernel_rfl))
 f171 := Tryz.func118.trans (congrArg some (by kernel_rfl))
 f243 := Tryz.func145.trans (congrArg some (by kernel_rfl))
 f246 := Tryz.func152.trans (congrArg some (by kernel_rfl))
 f283 := Tryz.func163.trans (congrArg some (by kernel_rfl))
 f284 := Tryz.func164.trans (congrArg some (by kernel_rfl))
 f285 := Tryz.func165.trans (congrArg some (by kernel_rfl))
 f286 := Tryz.func166.trans (congrArg some (by kernel_rfl))
 f317 := Tryz.func172.trans (congrArg some (by kernel_rfl))
 f318 := Tryz.func173.trans (congrArg some (by kernel_rfl))
 f319 := Tryz.func174.trans (congrArg some (by kernel_rfl))
 f320 := Tryz.func175.trans (congrArg some (by kernel_rfl))
 f337 := Tryz.func177.trans (congrArg some (by kernel_rfl))
 f338 := Tryz.func178.trans (congrArg some (by kernel_rfl))
 t0 := Tryz.underlying0
 a0 := Tryz.isAgg0
 z0 := Tryz.sizeOf0
 v0 := Tryz.zeroValue0
 t2 := Tryz.underlying2
 a2 := Tryz.isAgg2
 z2 := Tryz.sizeOf2
 v2 := Tryz.zeroValue2
 t3 := Tryz.underlying3
 a3 := Tryz.isAgg3
 z3 := Tryz.sizeOf3
 v3 := Tryz.zeroValue3
 t4 := Tryz.underlying4
 a4 := Tryz.isAgg4
 z4 := Tryz.sizeOf4
 v4 := Tryz.zeroValue4
 t5 := Tryz.underlying5
 a5 := Tryz.isAgg5
 z5 := Tryz.sizeOf5
 v5 := Tryz.zeroValue5
 t9 := Tryz.underlying9
 a9 := Tryz.isAgg9
 z9 := Tryz.sizeOf9
 v9 := Tryz.zeroValue9
 t20 := Tryz.underlying20
 a20 := Tryz.isAgg20
 z20 := Tryz.sizeOf20
 v20 := Tryz.zeroValue20
 t37 := Tryz.underlying205
 a37 := Tryz.isAgg205
 z37 := Tryz.sizeOf205
 v37 := Tryz.zeroValue205
 t46 := Tryz.underlying188
 a46 := Tryz.isAgg188
 z46 := Tryz.sizeOf188
 v46 := Tryz.zeroValue188
 t51 := Tryz.underlying200
 a51 := Tryz.isAgg200
 z51 := Tryz.sizeOf200
 v51 := Tryz.zeroValue200
 t53 := Tryz.underlying202
 a53 := Tryz.isAgg202
 z53 := Tryz.sizeOf202
 v53 := Tryz.zeroValue202
 t171 := Tryz.underlying203
 a171 := Tryz.isAgg203
 z171 := Tryz.sizeOf203
 v171 := Tryz.zeroValue203
 t173 := Tryz.underlying206
 a173 := Tryz.isAgg206
 z173 := Tryz.sizeOf206
 v173 := Tryz.zeroValue206
 t212 := Tryz.underlying216
 a212 := Tryz.isAgg216
 z212 := Tryz.sizeOf216
 v212 := Tryz.zeroValue216
 t213 := Tryz.underlying217
 a213 := Tryz.isAgg217
 z213 := Tryz.sizeOf217
 t232 := Tryz.underlying220
 a232 := Tryz.isAgg220
 z232 := Tryz.sizeOf220
 v232 := Tryz.zeroValue220
 t233 := Tryz.underlying221
 a233 := Tryz.isAgg221
 z233 := Tryz.sizeOf221
 v233 := Tryz.zeroValue221
 g17 := by kernel_rfl
 g18 := by kernel_rfl
 g19 := by kernel_rfl }
open Go.RowKit Go.Sort Go.Lib in
theorem Tryz.strconv_Itoa_small (i : Nat) (hi : i < 100) (w : World) :
    Calls Tryz.prog 118 #[.int .i64 i] w fun e w' => e = .returned (.string ⟨(Lib.decDigits i).toArray⟩) ∧ w' = w := Any.strconv_Itoa_small Tryz.lays171 i hi w
end Go.Proofs
namespace Go.Proofs.YtgakfgedaipdmaaGreatDoor.P
open Go.RowKit Go.Proofs.YtgakfgedaipdmaaGreatDoorW.PrintWords Go.Proofs.YtgakfgedaipdmaaGreatDoorW.PrintLast Go.Proofs.YtgakfgedaipdmaaGreatDoorW.PrintMore
def strconv_Itoa_118.f (n : Int) : Option ByteArray := if 0 ≤ n ∧ n < 100 then some ⟨(Lib.decDigits n.toNat).toArray⟩ else none
end Go.Proofs.YtgakfgedaipdmaaGreatDoor.P
namespace Go.Proofs.YtgakfgedaipdmaaGreatDoor.P
open Go.RowKit Go.Proofs.YtgakfgedaipdmaaGreatDoorW.PrintWords Go.Proofs.YtgakfgedaipdmaaGreatDoorW.PrintLast Go.Proofs.YtgakfgedaipdmaaGreatDoorW.PrintMore
set_option linter.unusedVariables false
set_option linter.unusedSimpArgs false
theorem itoa_at (n : Nat) (l : ByteArray) (hn : n < 100) (h : (⟨(Lib.decDigits n).toArray⟩ : ByteArray) = l) (w : World) : Calls Tryz.prog 118 #[.int .i64 (n : Int)] w fun e w' => e = .returned (.string l) ∧ w' = w := by
 rw [← h]
 exact Tryz.strconv_Itoa_small n hn w
set_option maxHeartbeats 4000000 in
set_option maxRecDepth 100000 in
theorem print_one (w : World) : Calls Tryz.prog 62 #[.agg #[.int .i64 0, .int .i64 20, .int .i64 35]] w fun e w' => e = .returned (.tuple #[.string ⟨#[48, 32, 50, 48, 32, 51, 53]⟩, .int .i64 0]) ∧ Below w.heap.size w w' := by
 have hrd := fun W => wheel_dial_reading.calls 3 10000 0 0 20 35 true W (by rw [wheel_dial_reading.eval 10000 0 0 20 35 (by omega) (by omega)]; rfl)
 have h0 : ∀ w, Calls Tryz.prog 118 #[.int .i64 0] w fun e w' => e = .returned (.string ⟨#[48]⟩) ∧ w' = w := itoa_at 0 ⟨#[48]⟩ (by omega) (by decide +kernel)
 have h1 : ∀ w, Calls Tryz.prog 118 #[.int .i64 20] w fun e w' => e = .returned (.string ⟨#[50, 48]⟩) ∧ w' = w := itoa_at 20 ⟨#[50, 48]⟩ (by omega) (by decide +kernel)
 have h2 : ∀ w, Calls Tryz.prog 118 #[.int .i64 35] w fun e w' => e = .returned (.string ⟨#[51, 53]⟩) ∧ w' = w := itoa_at 35 ⟨#[51, 53]⟩ (by omega) (by decide +kernel)
 have HB := Aside0.mk (Below.refl w.heap.size w)
 go_enter Tryz.func62, Tryz.ntmps62
 go_wp2_with (go_at_call 96; refine Calls.mono (hrd _) ?_; rintro e W2 ⟨rfl, hb⟩; have HB2 := Aside0.mk (below_weaken (below_alloc HB.out _) (by simp) hb); have hx0 : W2.cell? ⟨w.heap.size, 0, none⟩ = some (.int .i64 0) := pw_cell_below hb ((blk_cell (blk_new w (.cells #[.int .i64 0, .int .i64 20, .int .i64 35] 64)) 0).trans rfl); have hx1 : W2.cell? ⟨w.heap.size, 1, none⟩ = some (.int .i64 20) := pw_cell_below hb ((blk_cell (blk_new w (.cells #[.int .i64 0, .int .i64 20, .int .i64 35] 64)) 1).trans rfl); have hx2 : W2.cell? ⟨w.heap.size, 2, none⟩ = some (.int .i64 35) := pw_cell_below hb ((blk_cell (blk_new w (.cells #[.int .i64 0, .int .i64 20, .int .i64 35] 64)) 2).trans rfl); clear hb hrd)
 go_region_held3 (fun W => W.cell? ⟨w.heap.size, 0, none⟩ = some (.int .i64 0) ∧ W.cell? ⟨w.heap.size, 1, none⟩ = some (.int .i64 20) ∧ W.cell? ⟨w.heap.size, 2, none⟩ = some (.int .i64 35)) (first | go_keep)
  (first | (go_at_call 118; refine (h0 _).mono ?_; rintro e W3 ⟨rfl, rfl⟩) | (go_at_call 118; refine (h1 _).mono ?_; rintro e W3 ⟨rfl, rfl⟩) | (go_at_call 118; refine (h2 _).mono ?_; rintro e W3 ⟨rfl, rfl⟩))
 rename_i hHeld
 have HB3 := Aside0.mk (below_drew1 HB2.out)
 clear hHeld hx0 hx1 hx2
 go_wp2
 go_ret2
 exact ⟨congrArg (fun s => Ending.returned (.tuple #[.string s, .int .i64 0])) (by decide +kernel), HB3.out⟩
attribute [local go_sem] max2_int min2_int max_two min_two max_three min_three max_four min_four
def slices_Equal_int_int.l0 : Nat → List Int → List Int → Int → Int → Option (Bool)
 |0, _, _, _, _ => none
 |k + 1, x0, x1, x12, x13 => if x13 < x12 then (if 0 ≤ x13 then (if x13 < (x0.length : Int) then (if x13 < (x1.length : Int) then (if (rd x0 x13) = (rd x1 x13) then (slices_Equal_int_int.l0 k x0 x1 x12 (wrap64 (x13 + 1))) else (some false)) else (none)) else (none)) else (none)) else (some true)
def slices_Equal_int_int.f (k : Nat) (l0 : List Int) (l1 : List Int) : Option (Bool) := if (l0.length : Int) = (l1.length : Int) then (slices_Equal_int_int.l0 k l0 l1 (l0.length : Int) 0) else (some false)
theorem slices_Equal_int_int.mono_l : ∀ k, (∀ y0 y1 y2 y3, LeO (slices_Equal_int_int.l0 k y0 y1 y2 y3) (slices_Equal_int_int.l0 (k + 1) y0 y1 y2 y3))
 |0 => fun _ _ _ _ r h => by simp [slices_Equal_int_int.l0] at h
 |k + 1 => by
  have ih0 := slices_Equal_int_int.mono_l k
  ·intro y0 y1 y2 y3
   unfold slices_Equal_int_int.l0
   repeat' first
   |(with_reducible exact ih0 _ _ _ _)
   |(with_reducible exact LeO.refl _)
   |(with_reducible exact LeO.none _)
   |(with_reducible refine LeO.ite ?_ ?_)
   |(with_reducible refine LeO.bind ?_ (fun _ => ?_))
   |exact ih0 _ _ _ _
   |exact LeO.none _
   |refine LeO.ite ?_ ?_
   |refine LeO.bind ?_ (fun _ => ?_)
theorem slices_Equal_int_int.mono : ∀ a0 a1 k, LeO (slices_Equal_int_int.f k a0 a1) (slices_Equal_int_int.f (k + 1) a0 a1) := by
 intro a0 a1 k
 have ih0 := slices_Equal_int_int.mono_l k
 unfold slices_Equal_int_int.f
 repeat' first
   |(with_reducible exact ih0 _ _ _ _)
   |(with_reducible exact LeO.refl _)
   |(with_reducible exact LeO.none _)
   |(with_reducible refine LeO.ite ?_ ?_)
   |(with_reducible refine LeO.bind ?_ (fun _ => ?_))
   |exact ih0 _ _ _ _
   |exact LeO.none _
   |refine LeO.ite ?_ ?_
   |refine LeO.bind ?_ (fun _ => ?_)
set_option maxHeartbeats 8000000 in
set_option maxRecDepth 100000 in
theorem slices_Equal_int_int.calls (k : Nat) (A0 : Option Addr) (c0 : Nat) (l0 : List Int) (A1 : Option Addr) (c1 : Nat) (l1 : List Int) (r : Bool) (w : World) (hr0 : Kd.C (Kd.int .i64) w A0 l0.length l0) (hc0 : l0.length ≤ c0) (hr1 : Kd.C (Kd.int .i64) w A1 l1.length l1) (hc1 : l1.length ≤ c1) (h : slices_Equal_int_int.f k l0 l1 = some r) :
  Calls Tryz.prog 26 #[.slice A0 l0.length c0, .slice A1 l1.length c1] w fun e w' => e = .returned (.bool r) ∧ Drawn0 w w' := by
 have HR0 := Aside0.mk hr0
 have HC0 := Aside0.mk hc0
 clear hr0 hc0
 have HR1 := Aside0.mk hr1
 have HC1 := Aside0.mk hc1
 clear hr1 hc1
 have H : (if (l0.length : Int) = (l1.length : Int) then (slices_Equal_int_int.l0 k l0 l1 (l0.length : Int) 0) else (some false)) = some r := h
 clear h
 by_cases c3 : (l0.length : Int) = (l1.length : Int)
 ·rw [if_pos c3] at H
  have c3b0 : ((l0.length : Int) == (l1.length : Int)) = true := beq_iff_eq.mpr c3
  have c3b1 : ((l0.length : Int) != (l1.length : Int)) = false := bne_eq_false_iff_eq.mpr c3
  have c3b2 : (l0.length == l1.length) = true := by first | simpa using c3 | (simp at c3 ⊢; omega)
  clear c3
  have H' := Aside0.mk H
  clear H
  go_enter Tryz.func26, Tryz.ntmps26
  go_wp2
  repeat (go_quiet (fail); try go_wp2)
  go_loopg [13] k (fun kq v13 w' => ∃ (x13_1 : Int), v13 = .int .i64 x13_1 ∧ Aside0 (slices_Equal_int_int.l0 kq l0 l1 (l0.length : Int) x13_1 = some r) ∧ Aside0 (kq ≤ k) ∧ Drawn0 w w')
  case atStart => exact ⟨(0), (by first | rfl | (simp; done) | (simp [*]; done)), H', ⟨Nat.le_refl _⟩, by repeat (first | exact Drawn0.refl _ | apply Drawn0.step)⟩
  case round =>
   clear H'
   try clear c1
   try clear c2
   try clear p2
   try clear c3
   try clear c3b0
   try clear c3b1
   try clear c3b2
   obtain ⟨x13_1, rfl, HA, HK1, ⟨m1, rfl⟩⟩ := hrel
   cases gk with
   |zero => exact absurd HA.out (by simp [slices_Equal_int_int.l0])
   |succ k1 =>
    have H := HA.out
    clear HA
    simp only [slices_Equal_int_int.l0] at H
    by_cases c4 : x13_1 < (l0.length : Int)
    ·rw [if_pos c4] at H
     have c4b0 : decide (x13_1 < (l0.length : Int)) = true := decide_eq_true c4
     clear c4
     by_cases c5 : 0 ≤ x13_1
     ·rw [if_pos c5] at H
      have c5b0 : decide (0 ≤ x13_1) = true := decide_eq_true c5
      clear c5
      by_cases c6 : x13_1 < (l0.length : Int)
      ·rw [if_pos c6] at H
       have c6b0 : decide (x13_1 < (l0.length : Int)) = true := decide_eq_true c6
       clear c6
       by_cases c7 : x13_1 < (l1.length : Int)
       ·rw [if_pos c7] at H
        have c7b0 : decide (x13_1 < (l1.length : Int)) = true := decide_eq_true c7
        clear c7
        by_cases c8 : (rd l0 x13_1) = (rd l1 x13_1)
        ·rw [if_pos c8] at H
         have c8b0 : ((rd l0 x13_1) == (rd l1 x13_1)) = true := beq_iff_eq.mpr c8
         have c8b1 : ((rd l0 x13_1) != (rd l1 x13_1)) = false := bne_eq_false_iff_eq.mpr c8
         clear c8
         have H' := Aside0.mk H
         clear H
         have p158 : 0 ≤ (x13_1 : Int) := of_decide_eq_true aq
         have q158 : x13_1 < (l0.length : Int) := of_decide_eq_true aq
         obtain ⟨ad158, e158, hx158_0⟩ := Kd.at_int HR0.out x13_1 p158 q158
         cases e158
         replace p158 := eq_true p158
         replace q158 := eq_true q158
         have p159 : 0 ≤ (x13_1 : Int) := of_decide_eq_true aq
         have q159 : x13_1 < (l1.length : Int) := of_decide_eq_true aq
         obtain ⟨ad159, e159, hx159_0⟩ := Kd.at_int HR1.out x13_1 p159 q159
         cases e159
         replace p159 := eq_true p159
         replace q159 := eq_true q159
         go_wp2
         repeat (go_quiet (fail); try go_wp2)
         go_roundg k1
         case measure => have := HK1.out; omega
         case rel => exact ⟨(wrap64 (x13_1 + 1)), (by first | rfl | (simp; done) | (simp [*]; done)), H', ⟨by have := HK1.out; omega⟩, by repeat (first | exact Drawn0.refl _ | apply Drawn0.step)⟩
        ·rw [if_neg c8] at H
         have c8b0 : ((rd l0 x13_1) == (rd l1 x13_1)) = false := beq_eq_false_iff_ne.mpr c8
         have c8b1 : ((rd l0 x13_1) != (rd l1 x13_1)) = true := bne_iff_ne.mpr c8
         obtain rfl := Option.some.inj H
         have p158 : 0 ≤ (x13_1 : Int) := of_decide_eq_true aq
         have q158 : x13_1 < (l0.length : Int) := of_decide_eq_true aq
         obtain ⟨ad158, e158, hx158_0⟩ := Kd.at_int HR0.out x13_1 p158 q158
         cases e158
         replace p158 := eq_true p158
         replace q158 := eq_true q158
         have p159 : 0 ≤ (x13_1 : Int) := of_decide_eq_true aq
         have q159 : x13_1 < (l1.length : Int) := of_decide_eq_true aq
         obtain ⟨ad159, e159, hx159_0⟩ := Kd.at_int HR1.out x13_1 p159 q159
         cases e159
         replace p159 := eq_true p159
         replace q159 := eq_true q159
         go_wp2
         repeat (go_quiet (fail); try go_wp2)
         go_ret
         exact ⟨by first | rfl | (simp; done) | (simp [*]; done), by repeat (first | exact Drawn0.refl _ | apply Drawn0.step)⟩
       ·rw [if_neg c7] at H
        exact absurd H (by simp)
      ·rw [if_neg c6] at H
       exact absurd H (by simp)
     ·rw [if_neg c5] at H
      exact absurd H (by simp)
    ·rw [if_neg c4] at H
     have c4b0 : decide (x13_1 < (l0.length : Int)) = false := decide_eq_false c4
     clear c4
     obtain rfl := Option.some.inj H
     go_wp2
     repeat (go_quiet (fail); try go_wp2)
     go_ret
     exact ⟨by first | rfl | (simp; done) | (simp [*]; done), by repeat (first | exact Drawn0.refl _ | apply Drawn0.step)⟩
 ·rw [if_neg c3] at H
  have c3b0 : ((l0.length : Int) == (l1.length : Int)) = false := beq_eq_false_iff_ne.mpr c3
  have c3b1 : ((l0.length : Int) != (l1.length : Int)) = true := bne_iff_ne.mpr c3
  have c3b2 : (l0.length == l1.length) = false := by first | simpa using c3 | (simp at c3 ⊢; omega)
  obtain rfl := Option.some.inj H
  go_enter Tryz.func26, Tryz.ntmps26
  go_wp2
  repeat (go_quiet (fail); try go_wp2)
  go_ret
  exact ⟨by first | rfl | (simp; done) | (simp [*]; done), by repeat (first | exact Drawn0.refl _ | apply Drawn0.step)⟩
end Go.Proofs.YtgakfgedaipdmaaGreatDoor.P
namespace Go.Proofs.YtgakfgedaipdmaaGreatDoor.P
open Go.RowKit Go.Proofs.YtgakfgedaipdmaaGreatDoorW.PrintWords Go.Proofs.YtgakfgedaipdmaaGreatDoorW.PrintLast Go.Proofs.YtgakfgedaipdmaaGreatDoorW.PrintMore
set_option linter.unusedVariables false
set_option linter.unusedSimpArgs false
set_option maxRecDepth 100000
structure ExC (W : World) (A1 : Option Addr) (A2 : Option Addr) (x : List S64) (A3 : Option Addr) (s : List S59) : Prop where
 t : Kd.C k61 W A1 1 exT
 x : Kd.C k64 W A2 x.length x
 s : Kd.C k59 W A3 s.length s
theorem s61 (n hi : Int) (x : List S64) (s : List S59) (n2 n3 : Nat) (e2 : x.length = n2) (e3 : s.length = n3) (h : acreagelaw05_example.f 4 n hi = some (100, 2, exT, x, s)) (W : World) : Calls Tryz.prog 61 #[.int .i64 n, .int .i64 hi] W fun e w' => ∃ (A1 : Option Addr) (c1 : Nat) (A2 : Option Addr) (c2 : Nat) (A3 : Option Addr) (c3 : Nat), e = .returned (.agg #[.int .i64 100, .int .i64 2, .slice A1 1 c1, .slice A2 n2 c2, .slice A3 n3 c3]) ∧ ExC w' A1 A2 x A3 s ∧ (1 ≤ c1 ∧ n2 ≤ c2 ∧ n3 ≤ c3) ∧ Below W.heap.size W w' := by
 subst e2 e3
 refine (acreagelaw05_example.calls 4 n hi 100 2 exT x s W h).mono ?_
 rintro e w' ⟨v2, v3, v4, rfl, h2, h3, h4, hb⟩
 obtain ⟨A1, c1, rfl⟩ := Kd.R_slice h2
 obtain ⟨A2, c2, rfl⟩ := Kd.R_slice h3
 obtain ⟨A3, c3, rfl⟩ := Kd.R_slice h4
 exact ⟨A1, c1, A2, c2, A3, c3, rfl, ⟨(Kd.R_reads' h2).2.2, (Kd.R_reads' h3).2.2, (Kd.R_reads' h4).2.2⟩, ⟨(Kd.R_reads' h2).2.1, (Kd.R_reads' h3).2.1, (Kd.R_reads' h4).2.1⟩, hb⟩
theorem ExC.below {W W1 : World} {A1 A2 A3 : Option Addr} {x : List S64} {s : List S59} (h : ExC W A1 A2 x A3 s) (hb : Below W.heap.size W W1) : ExC W1 A1 A2 x A3 s := ⟨Kd.C_below h.t hb, Kd.C_below h.x hb, Kd.C_below h.s hb⟩
theorem rd59 {W w' : World} {e : Ending} {r : List S59} {k : Int} (h : ∃ v0 : Value, e = .returned (.tuple #[v0, .int .i64 k]) ∧ Kd.R k59 59 w' W.heap.size (fun _ => True) v0 r ∧ Below W.heap.size W w') : ∃ (A : Option Addr) (c : Nat), e = .returned (.tuple #[.slice A r.length c, .int .i64 k]) ∧ Kd.C k59 w' A r.length r ∧ r.length ≤ c ∧ Below W.heap.size W w' := by
 obtain ⟨v0, rfl, hR, hb⟩ := h
 obtain ⟨A, c, rfl⟩ := Kd.R_slice hR
 exact ⟨A, c, rfl, (Kd.R_reads' hR).2.2, (Kd.R_reads' hR).2.1, hb⟩
theorem rd4 {W w' : World} {e : Ending} {r : List Int} {n k : Int} {b : Bool} (h : ∃ v0 : Value, e = .returned (.tuple #[.int .i64 n, v0, .bool b, .int .i64 k]) ∧ Kd.R (Kd.int .i64) 3 w' W.heap.size (fun _ => True) v0 r ∧ Below W.heap.size W w') : ∃ (A : Option Addr) (c : Nat), e = .returned (.tuple #[.int .i64 n, .slice A r.length c, .bool b, .int .i64 k]) ∧ Kd.C (Kd.int .i64) w' A r.length r ∧ r.length ≤ c ∧ Below W.heap.size W w' := by
 obtain ⟨v0, rfl, hR, hb⟩ := h
 obtain ⟨A, c, rfl⟩ := Kd.R_slice hR
 exact ⟨A, c, rfl, (Kd.R_reads' hR).2.2, (Kd.R_reads' hR).2.1, hb⟩
theorem s44 (W : World) : Calls Tryz.prog 44 #[.agg #[.int .i64 100, .int .i64 2], .int .i64 95, .int .i64 10, .agg #[.int .i64 0, .int .i64 250]] W fun e w' => ∃ (A : Option Addr) (c : Nat), e = .returned (.tuple #[.slice A 3 c, .int .i64 0]) ∧ Kd.C k59 w' A 3 [⟨13, 17⟩, ⟨113, 117⟩, ⟨213, 217⟩] ∧ 3 ≤ c ∧ Below W.heap.size W w' :=
 (rolled_one W).mono fun e w' h => rd59 h
theorem s15 (W : World) (A1 : Option Addr) (c1 : Nat) (h1 : Kd.C k61 W A1 1 exT) (hc : 1 ≤ c1) : Calls Tryz.prog 15 #[.agg #[.int .i64 100, .int .i64 2], .slice A1 1 c1] W fun e w' => ∃ (A : Option Addr) (c : Nat), e = .returned (.tuple #[.slice A 1 c, .int .i64 0]) ∧ Kd.C k59 w' A 1 [⟨56, 76⟩] ∧ 1 ≤ c ∧ Below W.heap.size W w' :=
 (wheel_Constants.calls 100 2 A1 c1 exT [⟨56, 76⟩] 0 W h1 hc (by unfold wheel_Constants.f wheel_Left.f; rw [Option.bind_some]; exact congrArg some num_const)).mono fun e w' h => rd59 h
theorem s48 (W : World) : Calls Tryz.prog 48 #[.agg #[.int .i64 100, .int .i64 2], .agg #[.int .i64 0, .int .i64 20, .int .i64 35], .int .i64 60, .agg #[.int .i64 0, .int .i64 2000]] W fun e w' => ∃ (A : Option Addr) (c : Nat), e = .returned (.tuple #[.slice A 1 c, .int .i64 0]) ∧ Kd.C k59 w' A 1 [⟨780, 1079⟩] ∧ 1 ≤ c ∧ Below W.heap.size W w' :=
 (areas_one W).mono fun e w' h => rd59 h
section
variable (W : World) (A1 : Option Addr) (c1 : Nat) (A2 : Option Addr) (c2 : Nat) (A3 : Option Addr) (c3 : Nat)
theorem s24 (h : ExC W A1 A2 exX A3 exI) (hc1 : 1 ≤ c1) (hc2 : 1 ≤ c2) (hc3 : 1 ≤ c3) : Calls Tryz.prog 24 #[.agg #[.int .i64 100, .int .i64 2], .slice A1 1 c1, .slice A2 1 c2, .slice A3 1 c3] W fun e w' => ∃ (A : Option Addr) (c : Nat), e = .returned (.tuple #[.slice A 1 c, .int .i64 0]) ∧ Kd.C k59 w' A 1 [⟨56, 76⟩] ∧ 1 ≤ c ∧ Below W.heap.size W w' :=
 (wheel_Left.calls 100 2 A1 c1 exT A2 c2 exX A3 c3 exI [⟨56, 76⟩] 0 W h.t hc1 h.x hc2 h.s hc3 (congrArg some num_left)).mono fun e w' h => rd59 h
theorem s27 (h : ExC W A1 A2 exX A3 exI) (hc1 : 1 ≤ c1) (hc2 : 1 ≤ c2) (hc3 : 1 ≤ c3) : Calls Tryz.prog 27 #[.agg #[.int .i64 100, .int .i64 2], .slice A1 1 c1, .slice A2 1 c2, .slice A3 1 c3, .int .i64 0] W fun e w' => ∃ (A : Option Addr) (c : Nat), e = .returned (.tuple #[.slice A 1 c, .int .i64 0]) ∧ Kd.C k59 w' A 1 [⟨728, 1367⟩] ∧ 1 ≤ c ∧ Below W.heap.size W w' :=
 (wheel_Field.calls 100 2 A1 c1 exT A2 c2 exX A3 c3 exI 0 [⟨728, 1367⟩] 0 W h.t hc1 h.x hc2 h.s hc3 (congrArg some num_field)).mono fun e w' h => rd59 h
theorem s29 (h : ExC W A1 A2 exX A3 exI) (hc1 : 1 ≤ c1) (hc2 : 1 ≤ c2) (hc3 : 1 ≤ c3) : Calls Tryz.prog 29 #[.agg #[.int .i64 100, .int .i64 2], .slice A1 1 c1, .slice A2 1 c2, .slice A3 1 c3, .int .i64 0, .int .i64 1367] W fun e w' => ∃ (A : Option Addr) (c : Nat), e = .returned (.tuple #[.int .i64 76, .slice A 1 c, .bool true, .int .i64 0]) ∧ Kd.C (Kd.int .i64) w' A 1 [1367] ∧ 1 ≤ c ∧ Below W.heap.size W w' :=
 (wheel_Attain.calls 100 2 A1 c1 exT A2 c2 exX A3 c3 exI 0 1367 76 [1367] true 0 W h.t hc1 h.x hc2 h.s hc3 (congrArg some num_attain)).mono fun e w' h => rd4 h
theorem s22 (h : ExC W A1 A2 exX A3 exI) (hc1 : 1 ≤ c1) (hc2 : 1 ≤ c2) (hc3 : 1 ≤ c3) : Calls Tryz.prog 22 #[.agg #[.int .i64 100, .int .i64 2], .slice A1 1 c1, .slice A2 1 c2, .slice A3 1 c3] W fun e w' => ∃ (A : Option Addr) (c : Nat), e = .returned (.tuple #[.int .i64 56, .slice A 1 c, .bool true, .int .i64 0]) ∧ Kd.C (Kd.int .i64) w' A 1 [728] ∧ 1 ≤ c ∧ Below W.heap.size W w' :=
 (wheel_Case.calls 100 2 A1 c1 exT A2 c2 exX A3 c3 exI 56 [728] true 0 W h.t hc1 h.x hc2 h.s hc3 (congrArg some num_case)).mono fun e w' h => rd4 h
theorem s32 (h1 : Kd.C k61 W A1 1 exT) (h2 : Kd.C k64 W A2 2 exX2) (h3 : Kd.C k59 W A3 2 exI2) (hc1 : 1 ≤ c1) (hc2 : 2 ≤ c2) (hc3 : 2 ≤ c3) : Calls Tryz.prog 32 #[.agg #[.int .i64 100, .int .i64 2], .slice A1 1 c1, .slice A2 2 c2, .slice A3 2 c3, .int .i64 0, .int .i64 1] W fun e w' => ∃ (A : Option Addr) (c : Nat), e = .returned (.tuple #[.slice A 1 c, .int .i64 0]) ∧ Kd.C k59 w' A 1 [⟨1456, 2734⟩] ∧ 1 ≤ c ∧ Below W.heap.size W w' :=
 (wheel_Together.calls 100 2 A1 c1 exT A2 c2 exX2 A3 c3 exI2 0 1 [⟨1456, 2734⟩] 0 W h1 hc1 h2 hc2 h3 hc3 (congrArg some num_tog)).mono fun e w' h => rd59 h
theorem s54 (h1 : Kd.C k61 W A1 1 exT) (h2 : Kd.C k64 W A2 1 exX) (h3 : Kd.C k59 W A3 1 exI7) (hc1 : 1 ≤ c1) (hc2 : 1 ≤ c2) (hc3 : 1 ≤ c3) : Calls Tryz.prog 54 #[.agg #[.int .i64 100, .int .i64 2], .slice A1 1 c1, .slice A2 1 c2, .slice A3 1 c3] W fun e w' => ∃ (A : Option Addr) (c : Nat) (A' : Option Addr) (c' : Nat), e = .returned (.tuple #[.slice A 1 c, .slice A' 1 c', .bool true, .int .i64 0]) ∧ Kd.C (Kd.int .i64) w' A 1 [0] ∧ Kd.C (Kd.int .i64) w' A' 1 [0] ∧ (1 ≤ c ∧ 1 ≤ c') ∧ Below W.heap.size W w' := by
 refine (clash_any 100 2 A1 c1 exT A2 c2 exX A3 c3 exI7 [0] [0] true 0 W h1 hc1 h2 hc2 h3 hc3 num_clash).mono ?_
 rintro e w' ⟨v0, v1, rfl, h0, h1, hb⟩
 obtain ⟨A, c, rfl⟩ := Kd.R_slice h0
 obtain ⟨A', c', rfl⟩ := Kd.R_slice h1
 exact ⟨A, c, A', c', rfl, (Kd.R_reads' h0).2.2, (Kd.R_reads' h1).2.2, ⟨(Kd.R_reads' h0).2.1, (Kd.R_reads' h1).2.1⟩, hb⟩
theorem s20 (n : Int) (r : Int) (hr : checkR 100 2 exT exX exI n [1367] = r) (h : ExC W A1 A2 exX A3 exI) (hc1 : 1 ≤ c1) (hc2 : 1 ≤ c2) (hc3 : 1 ≤ c3) (A5 : Option Addr) (c5 : Nat) (h5 : Kd.C (Kd.int .i64) W A5 1 [1367]) (hc5 : 1 ≤ c5) : Calls Tryz.prog 20 #[.agg #[.int .i64 100, .int .i64 2], .slice A1 1 c1, .slice A2 1 c2, .slice A3 1 c3, .int .i64 n, .slice A5 1 c5] W fun e w' => e = .returned (.int .i64 r) ∧ Below W.heap.size W w' :=
 wheel_CheckCase.calls 100 2 A1 c1 exT A2 c2 exX A3 c3 exI n A5 c5 [1367] r W h.t hc1 h.x hc2 h.s hc3 h5 hc5 (congrArg some hr)
end
theorem s63 (l : List S59) (k : Nat) (hk : acreageref02_Same.f k l l = some true) (W : World) (A : Option Addr) (c : Nat) (A' : Option Addr) (c' : Nat) (h : Kd.C k59 W A l.length l) (hc : l.length ≤ c) (h' : Kd.C k59 W A' l.length l) (hc' : l.length ≤ c') : Calls Tryz.prog 63 #[.slice A l.length c, .slice A' l.length c'] W fun e w' => e = .returned (.bool true) ∧ Below W.heap.size W w' :=
 (acreageref02_Same.calls k A c l A' c' l true W h hc h' hc' hk).mono fun e w' h => ⟨h.1, h.2.below⟩
theorem s63a (x : S59) (hk : acreageref02_Same.f 3 [x] [x] = some true) (W : World) (A : Option Addr) (c : Nat) (A' : Option Addr) (c' : Nat) (h : Kd.C k59 W A 1 [x]) (hc : 1 ≤ c) (h' : Kd.C k59 W A' 1 [x]) (hc' : 1 ≤ c') : Calls Tryz.prog 63 #[.slice A 1 c, .slice A' 1 c'] W fun e w' => e = .returned (.bool true) ∧ Below W.heap.size W w' :=
 s63 [x] 3 hk W A c A' c' h hc h' hc'
theorem s63c (W : World) (A : Option Addr) (c : Nat) (A' : Option Addr) (c' : Nat) (h : Kd.C k59 W A 3 [⟨13, 17⟩, ⟨113, 117⟩, ⟨213, 217⟩]) (hc : 3 ≤ c) (h' : Kd.C k59 W A' 3 [⟨13, 17⟩, ⟨113, 117⟩, ⟨213, 217⟩]) (hc' : 3 ≤ c') : Calls Tryz.prog 63 #[.slice A 3 c, .slice A' 3 c'] W fun e w' => e = .returned (.bool true) ∧ Below W.heap.size W w' :=
 s63 [⟨13, 17⟩, ⟨113, 117⟩, ⟨213, 217⟩] 9 (by kernel_rfl) W A c A' c' h hc h' hc'
theorem reads_three (W : World) : Kd.C k59 (W.alloc (.cells #[.int .i64 13, .int .i64 17, .int .i64 113, .int .i64 117, .int .i64 213, .int .i64 217] 59)) (some ⟨W.heap.size, 0, none⟩) 3 [⟨13, 17⟩, ⟨113, 117⟩, ⟨213, 217⟩] := by
 refine ⟨rfl, by omega, fun _ => ⟨_, rfl, fun j p hj => ?_⟩⟩
 have hj1 : j < 3 := (List.getElem?_eq_some_iff.1 hj).1
 rcases (by omega : j = 0 ∨ j = 1 ∨ j = 2) with rfl | rfl | rfl <;>
 ·cases hj
  refine ⟨[.int .i64 _, .int .i64 _], rfl, k59_mk _ _, fun i u hi => ?_⟩
  have hi2 : i < 2 := (List.getElem?_eq_some_iff.1 hi).1
  rw [addr_add, blk_cell (blk_new W _)]
  rcases (by omega : i = 0 ∨ i = 1) with rfl | rfl <;> exact hi
theorem reads_span (W : World) (a b : Int) : Kd.C k59 (W.alloc (.cells #[.int .i64 a, .int .i64 b] 59)) (some ⟨W.heap.size, 0, none⟩) 1 [⟨a, b⟩] := reads_one W ⟨a, b⟩
theorem s26 (n : Int) (hk : slices_Equal_int_int.f 3 [n] [n] = some true) (W : World) (A : Option Addr) (c : Nat) (A' : Option Addr) (c' : Nat) (h : Kd.C (Kd.int .i64) W A 1 [n]) (hc : 1 ≤ c) (h' : Kd.C (Kd.int .i64) W A' 1 [n]) (hc' : 1 ≤ c') : Calls Tryz.prog 26 #[.slice A 1 c, .slice A' 1 c'] W fun e w' => e = .returned (.bool true) ∧ Below W.heap.size W w' :=
 (slices_Equal_int_int.calls 3 A c [n] A' c' [n] true W h hc h' hc' hk).mono fun e w' h => ⟨h.1, h.2.below⟩
theorem s38 (W : World) : Calls Tryz.prog 38 #[.agg #[.int .i64 10, .int .i64 5]] W fun e w' => e = .returned (.int .i64 50) ∧ Below W.heap.size W w' := wheel_Check.calls 10 5 50 W (by rw [wheel_Check.eval]; rfl)
end Go.Proofs.YtgakfgedaipdmaaGreatDoor.P
namespace Go.Proofs.YtgakfgedaipdmaaGreatDoor.P
open Go.RowKit Go.Proofs.YtgakfgedaipdmaaGreatDoorW.PrintWords Go.Proofs.YtgakfgedaipdmaaGreatDoorW.PrintLast Go.Proofs.YtgakfgedaipdmaaGreatDoorW.PrintMore
set_option linter.unusedVariables false
set_option linter.unusedSimpArgs false
theorem run_field35 (u v : Value) (G1 G2 G3 : Option Addr) (g1 g2 g3 n1 n2 n3 : Nat) (W : World) : (Instr.field 35 (.agg #[u, v, .slice G1 n1 g1, .slice G2 n2 g2, .slice G3 n3 g3]) 3).run Tryz.prog W = .ok (.slice G3 n3 g3) W := by
 simp [Instr.field, part, asAgg, run_underlying Tryz.underlying35, Tryz.underlying26, Tryz.isAgg26, Tryz.sizeOf26, go_sem]
set_option maxHeartbeats 80000000 in
set_option maxRecDepth 100000 in
theorem sane_any (w : World) : Calls Tryz.prog 14 #[] w fun e w' => e = .returned (.bool true) ∧ Below w.heap.size w w' := by
 have HB := Aside0.mk (Below.refl w.heap.size w)
 have hu23 := Tryz.underlying23
 have hu35 := Tryz.underlying35
 have hfi := run_field35 (.int .i64 100) (.int .i64 2)
 have c61 := s61 1 2000 exX exI 1 1 rfl rfl num_ex1
 have c44 := s44
 go_enter Tryz.func14, Tryz.ntmps14
 go_wp2_with (first | (go_at_call 61; refine Calls.mono (c61 _) ?_; clear c61; rintro e W1 ⟨A1, c1, A2, c2, A3, c3, rfl, hex, ⟨hc1, hc2, hc3⟩, hb⟩; have EX1 := Aside0.mk hex; have HB1 := Aside0.mk (below_weaken HB.out HB.out.size hb); have LC := Aside0.mk (And.intro hc1 (And.intro hc2 hc3)); clear hex hb hc1 hc2 hc3))
 have hn1 := blk_new W1 (.cells #[.int .i64 100, .int .i64 2, .slice A1 1 c1, .slice A2 1 c2, .slice A3 1 c3] 35)
 have EX1a := Aside0.mk (EX1.out.below (below_alloc (Below.refl _ _) (.cells #[.int .i64 100, .int .i64 2, .slice A1 1 c1, .slice A2 1 c2, .slice A3 1 c3] 35)))
 have HB1a := Aside0.mk (below_alloc HB1.out (.cells #[.int .i64 100, .int .i64 2, .slice A1 1 c1, .slice A2 1 c2, .slice A3 1 c3] 35))
 obtain ⟨b1, hb1⟩ : ∃ b1, W1.heap.size = b1 := ⟨_, rfl⟩
 rw [hb1] at hn1 ⊢
 obtain ⟨W1a, hW1a⟩ : ∃ W1a, W1.alloc (.cells #[.int .i64 100, .int .i64 2, .slice A1 1 c1, .slice A2 1 c2, .slice A3 1 c3] 35) = W1a := ⟨_, rfl⟩
 rw [hW1a] at hn1 EX1a HB1a ⊢
 have y0 : W1a.cell? ⟨b1, 0, none⟩ = some (.int .i64 100) := (blk_cell hn1 0).trans rfl
 have y1 : W1a.cell? ⟨b1, 1, none⟩ = some (.int .i64 2) := (blk_cell hn1 1).trans rfl
 have y2 : W1a.cell? ⟨b1, 2, none⟩ = some (.slice A1 1 c1) := (blk_cell hn1 2).trans rfl
 have y3 : W1a.cell? ⟨b1, 3, none⟩ = some (.slice A2 1 c2) := (blk_cell hn1 3).trans rfl
 have y4 : W1a.cell? ⟨b1, 4, none⟩ = some (.slice A3 1 c3) := (blk_cell hn1 4).trans rfl
 have hne := blk_ne_new hn1
 clear hb1 hW1a hn1 EX1 HB1
 go_region_held3 (fun W => W.cell? ⟨b1, 0, none⟩ = some (.int .i64 100) ∧ W.cell? ⟨b1, 1, none⟩ = some (.int .i64 2) ∧ W.cell? ⟨b1, 2, none⟩ = some (.slice A1 1 c1) ∧ W.cell? ⟨b1, 3, none⟩ = some (.slice A2 1 c2) ∧ W.cell? ⟨b1, 4, none⟩ = some (.slice A3 1 c3)) (go_keep) (fail)
 rename_i hHeld
 clear hHeld y0 y1 y2 y3 y4 hne
 have hn2 := blk_new W1a (.cells #[.int .i64 100, .int .i64 2] 23)
 have EX := Aside0.mk (EX1a.out.below (below_alloc (Below.refl _ _) (.cells #[.int .i64 100, .int .i64 2] 23)))
 have HBB := Aside0.mk (below_alloc HB1a.out (.cells #[.int .i64 100, .int .i64 2] 23))
 obtain ⟨b2, hb2⟩ : ∃ b2, W1a.heap.size = b2 := ⟨_, rfl⟩
 rw [hb2] at hn2 ⊢
 obtain ⟨W2, hW2⟩ : ∃ W2, W1a.alloc (.cells #[.int .i64 100, .int .i64 2] 23) = W2 := ⟨_, rfl⟩
 rw [hW2] at hn2 EX HBB ⊢
 have BX := Aside0.mk hn2
 have hx0 : W2.cell? ⟨b2, 0, none⟩ = some (.int .i64 100) := (blk_cell hn2 0).trans rfl
 have hx1 : W2.cell? ⟨b2, 1, none⟩ = some (.int .i64 2) := (blk_cell hn2 1).trans rfl
 clear hb2 hW2 hn2 EX1a HB1a
 have tk1 : True := trivial
 have tk2 : True := trivial
 have tk3 : True := trivial
 have tk4 : True := trivial
 have tk5 : True := trivial
 have tk6 : True := trivial
 have tk7 : True := trivial
 have tk8 : True := trivial
 have tk9 : True := trivial
 have tk10 : True := trivial
 have tk11 : True := trivial
 have tk12 : True := trivial
 have tk13 : True := trivial
 have tk14 : True := trivial
 have tk15 : True := trivial
 have tk16 : True := trivial
 have tk17 : True := trivial
 have tk18 : True := trivial
 have tk19 : True := trivial
 have tk20 : True := trivial
 have tk21 : True := trivial
 have tk22 : True := trivial
 have tk23 : True := trivial
 have tk24 : True := trivial
 have tk25 : True := trivial
 have tk26 : True := trivial
 have tk27 : True := trivial
 have tk28 : True := trivial
 have tk29 : True := trivial
 go_wp2_with (first | (clear tk1; go_at_call 44; refine Calls.mono (s44 _) ?_; (try clear hx0 hx1); rintro e W3 ⟨A6, c6, rfl, h6, l6, hb⟩; have hb0 := below_weaken (show Below W2.heap.size W2 _ from dq) (by simp) hb; clear hb; have EX := Aside0.mk (EX.out.below hb0); have BX := Aside0.mk (blk_below BX.out hb0); have HBB := Aside0.mk (below_weaken HBB.out HBB.out.size hb0); have K6 := Aside0.mk h6; have L6 := Aside0.mk l6; clear h6 l6 hb0; have bx := BX.out; have hx0 : W3.cell? ⟨b2, 0, none⟩ = some (.int .i64 100) := (blk_cell bx 0).trans rfl; have hx1 : W3.cell? ⟨b2, 1, none⟩ = some (.int .i64 2) := (blk_cell bx 1).trans rfl; clear bx) | (clear tk2; go_at_call 15; refine Calls.mono (s15 _ A1 c1 (EX.out.below dq).t LC.out.1) ?_; (try clear hx0 hx1); rintro e W4 ⟨A8, c8, rfl, h6, l6, hb⟩; have hb0 := below_weaken (show Below W3.heap.size W3 _ from dq) (by simp) hb; clear hb; have EX := Aside0.mk (EX.out.below hb0); have BX := Aside0.mk (blk_below BX.out hb0); have HBB := Aside0.mk (below_weaken HBB.out HBB.out.size hb0); have K6 := Aside0.mk (Kd.C_below K6.out hb0); have K8 := Aside0.mk h6; have L8 := Aside0.mk l6; clear h6 l6 hb0; have bx := BX.out; have hx0 : W4.cell? ⟨b2, 0, none⟩ = some (.int .i64 100) := (blk_cell bx 0).trans rfl; have hx1 : W4.cell? ⟨b2, 1, none⟩ = some (.int .i64 2) := (blk_cell bx 1).trans rfl; clear bx))
 obtain ⟨ad2, e2, z0, z1, z2⟩ := at_T64 EX.out.x 0 (by omega) (by show (0 : Int) < 1; omega)
 obtain ⟨ad3, e3, u0, u1⟩ := at_T59 EX.out.s 0 (by omega) (by show (0 : Int) < 1; omega)
 cases e2
 cases e3
 simp only [Int.toNat_zero, Nat.zero_mul] at z0 z1 z2 u0 u1
 replace z0 : W4.cell? ad2 = some (.int .i64 0) := z0
 replace z1 : W4.cell? ⟨ad2.block, ad2.off + 1, none⟩ = some (.int .i64 20) := z1
 replace z2 : W4.cell? ⟨ad2.block, ad2.off + 2, none⟩ = some (.int .i64 35) := z2
 replace u0 : W4.cell? ad3 = some (.int .i64 0) := u0
 replace u1 : W4.cell? ⟨ad3.block, ad3.off + 1, none⟩ = some (.int .i64 2000) := u1
 have P := Aside0.mk (show W4.heap.size = W4.heap.size from rfl)
 go_region_held3 (fun W => W.cell? ⟨b2, 0, none⟩ = some (.int .i64 100) ∧ W.cell? ⟨b2, 1, none⟩ = some (.int .i64 2) ∧ W.cell? ad2 = some (.int .i64 0) ∧ W.cell? ⟨ad2.block, ad2.off + 1, none⟩ = some (.int .i64 20) ∧ W.cell? ⟨ad2.block, ad2.off + 2, none⟩ = some (.int .i64 35) ∧ W.cell? ad3 = some (.int .i64 0) ∧ W.cell? ⟨ad3.block, ad3.off + 1, none⟩ = some (.int .i64 2000)) (first | go_keep | (go_split_ands; (repeat' apply And.intro) <;> exact pw_cell_below hBt (by assumption)))
  (first | (go_at_call 48; refine (s48 _).mono ?_; rintro e W5 ⟨A10, c10, rfl, h6, l6, hBt⟩))
 rename_i hHeld
 clear hHeld hx0 hx1 z0 z1 z2 u0 u1 P
 have hb0 := below_weaken (show Below W4.heap.size W4 _ from dq) (by simp) hBt
 have EX := Aside0.mk (EX.out.below hb0)
 have BX := Aside0.mk (blk_below BX.out hb0)
 have HBB := Aside0.mk (below_weaken HBB.out HBB.out.size hb0)
 have K6 := Aside0.mk (Kd.C_below K6.out hb0)
 have K8 := Aside0.mk (Kd.C_below K8.out hb0)
 have K10 := Aside0.mk h6
 have L10 := Aside0.mk l6
 clear hb0 h6 l6
 have bx := BX.out
 have hx0 : W5.cell? ⟨b2, 0, none⟩ = some (.int .i64 100) := (blk_cell bx 0).trans rfl
 have hx1 : W5.cell? ⟨b2, 1, none⟩ = some (.int .i64 2) := (blk_cell bx 1).trans rfl
 clear bx
 clear hBt
 go_wp2_with (first | (clear tk3; go_at_call 24; refine Calls.mono (s24 _ A1 c1 (some ad2) c2 (some ad3) c3 (EX.out.below dq) LC.out.1 LC.out.2.1 LC.out.2.2) ?_; (try clear hx0 hx1); rintro e W6 ⟨A12, c12, rfl, h6, l6, hb⟩; have hb0 := below_weaken (show Below W5.heap.size W5 _ from dq) (by simp) hb; clear hb; have EX := Aside0.mk (EX.out.below hb0); have BX := Aside0.mk (blk_below BX.out hb0); have HBB := Aside0.mk (below_weaken HBB.out HBB.out.size hb0); have K6 := Aside0.mk (Kd.C_below K6.out hb0); have K8 := Aside0.mk (Kd.C_below K8.out hb0); have K10 := Aside0.mk (Kd.C_below K10.out hb0); have K12 := Aside0.mk h6; have L12 := Aside0.mk l6; clear h6 l6 hb0; have bx := BX.out; have hx0 : W6.cell? ⟨b2, 0, none⟩ = some (.int .i64 100) := (blk_cell bx 0).trans rfl; have hx1 : W6.cell? ⟨b2, 1, none⟩ = some (.int .i64 2) := (blk_cell bx 1).trans rfl; clear bx) | (clear tk4; go_at_call 27; refine Calls.mono (s27 _ A1 c1 (some ad2) c2 (some ad3) c3 (EX.out.below dq) LC.out.1 LC.out.2.1 LC.out.2.2) ?_; (try clear hx0 hx1); rintro e W7 ⟨A14, c14, rfl, h6, l6, hb⟩; have hb0 := below_weaken (show Below W6.heap.size W6 _ from dq) (by simp) hb; clear hb; have EX := Aside0.mk (EX.out.below hb0); have BX := Aside0.mk (blk_below BX.out hb0); have HBB := Aside0.mk (below_weaken HBB.out HBB.out.size hb0); have K6 := Aside0.mk (Kd.C_below K6.out hb0); have K8 := Aside0.mk (Kd.C_below K8.out hb0); have K10 := Aside0.mk (Kd.C_below K10.out hb0); have K12 := Aside0.mk (Kd.C_below K12.out hb0); have K14 := Aside0.mk h6; have L14 := Aside0.mk l6; clear h6 l6 hb0; have bx := BX.out; have hx0 : W7.cell? ⟨b2, 0, none⟩ = some (.int .i64 100) := (blk_cell bx 0).trans rfl; have hx1 : W7.cell? ⟨b2, 1, none⟩ = some (.int .i64 2) := (blk_cell bx 1).trans rfl; clear bx) | (clear tk5; go_at_call 29; refine Calls.mono (s29 _ A1 c1 (some ad2) c2 (some ad3) c3 (EX.out.below dq) LC.out.1 LC.out.2.1 LC.out.2.2) ?_; (try clear hx0 hx1); rintro e W8 ⟨A17, c17, rfl, h6, l6, hb⟩; have hb0 := below_weaken (show Below W7.heap.size W7 _ from dq) (by simp) hb; clear hb; have EX := Aside0.mk (EX.out.below hb0); have BX := Aside0.mk (blk_below BX.out hb0); have HBB := Aside0.mk (below_weaken HBB.out HBB.out.size hb0); have K6 := Aside0.mk (Kd.C_below K6.out hb0); have K8 := Aside0.mk (Kd.C_below K8.out hb0); have K10 := Aside0.mk (Kd.C_below K10.out hb0); have K12 := Aside0.mk (Kd.C_below K12.out hb0); have K14 := Aside0.mk (Kd.C_below K14.out hb0); have K17 := Aside0.mk h6; have L17 := Aside0.mk l6; clear h6 l6 hb0; have bx := BX.out; have hx0 : W8.cell? ⟨b2, 0, none⟩ = some (.int .i64 100) := (blk_cell bx 0).trans rfl; have hx1 : W8.cell? ⟨b2, 1, none⟩ = some (.int .i64 2) := (blk_cell bx 1).trans rfl; clear bx) | (clear tk6; go_at_call 22; refine Calls.mono (s22 _ A1 c1 (some ad2) c2 (some ad3) c3 (EX.out.below dq) LC.out.1 LC.out.2.1 LC.out.2.2) ?_; (try clear hx0 hx1); rintro e W9 ⟨A21, c21, rfl, h6, l6, hb⟩; have hb0 := below_weaken (show Below W8.heap.size W8 _ from dq) (by simp) hb; clear hb; have EX := Aside0.mk (EX.out.below hb0); have BX := Aside0.mk (blk_below BX.out hb0); have HBB := Aside0.mk (below_weaken HBB.out HBB.out.size hb0); have K6 := Aside0.mk (Kd.C_below K6.out hb0); have K8 := Aside0.mk (Kd.C_below K8.out hb0); have K10 := Aside0.mk (Kd.C_below K10.out hb0); have K12 := Aside0.mk (Kd.C_below K12.out hb0); have K14 := Aside0.mk (Kd.C_below K14.out hb0); have K17 := Aside0.mk (Kd.C_below K17.out hb0); have K21 := Aside0.mk h6; have L21 := Aside0.mk l6; clear h6 l6 hb0; have bx := BX.out; have hx0 : W9.cell? ⟨b2, 0, none⟩ = some (.int .i64 100) := (blk_cell bx 0).trans rfl; have hx1 : W9.cell? ⟨b2, 1, none⟩ = some (.int .i64 2) := (blk_cell bx 1).trans rfl; clear bx) | (clear tk7; go_at_call 61; refine Calls.mono (s61 2 2000 exX2 exI2 2 2 rfl rfl num_ex2 _) ?_; (try clear hx0 hx1); rintro e W10 ⟨B1, d1, B2, d2, B3, d3, rfl, h6, l6, hb⟩; have hb0 := below_weaken (show Below W9.heap.size W9 _ from dq) (by simp) hb; clear hb; have EX := Aside0.mk (EX.out.below hb0); have BX := Aside0.mk (blk_below BX.out hb0); have HBB := Aside0.mk (below_weaken HBB.out HBB.out.size hb0); have K6 := Aside0.mk (Kd.C_below K6.out hb0); have K8 := Aside0.mk (Kd.C_below K8.out hb0); have K10 := Aside0.mk (Kd.C_below K10.out hb0); have K12 := Aside0.mk (Kd.C_below K12.out hb0); have K14 := Aside0.mk (Kd.C_below K14.out hb0); have K17 := Aside0.mk (Kd.C_below K17.out hb0); have K21 := Aside0.mk (Kd.C_below K21.out hb0); have EY := Aside0.mk h6; have LY := Aside0.mk l6; clear h6 l6 hb0; have bx := blk_alloc BX.out (.cells #[.int .i64 100, .int .i64 2, .slice B1 1 d1, .slice B2 2 d2, .slice B3 2 d3] 35); have hx0 := (blk_cell bx 0).trans (show _ = some (Value.int .i64 100) from rfl); have hx1 := (blk_cell bx 1).trans (show _ = some (Value.int .i64 2) from rfl); clear bx) | (clear tk8; go_at_call 32; refine Calls.mono (s32 _ A1 c1 B2 d2 B3 d3 (EX.out.below dq).t (EY.out.below dq).x (EY.out.below dq).s LC.out.1 LY.out.2.1 LY.out.2.2) ?_; (try clear hx0 hx1); rintro e W11 ⟨A25, c25, rfl, h6, l6, hb⟩; have hb0 := below_weaken (show Below W10.heap.size W10 _ from dq) (by simp) hb; clear hb; have EX := Aside0.mk (EX.out.below hb0); have BX := Aside0.mk (blk_below BX.out hb0); have HBB := Aside0.mk (below_weaken HBB.out HBB.out.size hb0); have K6 := Aside0.mk (Kd.C_below K6.out hb0); have K8 := Aside0.mk (Kd.C_below K8.out hb0); have K10 := Aside0.mk (Kd.C_below K10.out hb0); have K12 := Aside0.mk (Kd.C_below K12.out hb0); have K14 := Aside0.mk (Kd.C_below K14.out hb0); have K17 := Aside0.mk (Kd.C_below K17.out hb0); have K21 := Aside0.mk (Kd.C_below K21.out hb0); have K25 := Aside0.mk h6; have L25 := Aside0.mk l6; clear h6 l6 hb0; have bx := BX.out; have hx0 : W11.cell? ⟨b2, 0, none⟩ = some (.int .i64 100) := (blk_cell bx 0).trans rfl; have hx1 : W11.cell? ⟨b2, 1, none⟩ = some (.int .i64 2) := (blk_cell bx 1).trans rfl; clear bx))
 go_region_held3 (fun W => W.cell? ⟨b2, 0, none⟩ = some (.int .i64 100) ∧ W.cell? ⟨b2, 1, none⟩ = some (.int .i64 2)) (first | go_keep | (go_split_ands; (repeat' apply And.intro) <;> exact pw_cell_below hBt (by assumption)) | (go_split_ands; (repeat' apply And.intro) <;> exact pw_cell_below hBu (by assumption)))
  (first | (clear tk9; go_at_call 61; refine (s61 1 700 exX exI7 1 1 rfl rfl num_ex7 _).mono ?_; rintro e W12 ⟨G1, g1, G2, g2, G3, g3, rfl, h7, l7, hBt⟩; have H12 := Aside0.mk (below_weaken (show Below W11.heap.size W11 _ from dq) (by simp) hBt); have EZ := Aside0.mk h7.s; have LZ := Aside0.mk l7.2.2; have EX12 := Aside0.mk (EX.out.below H12.out)) | (clear tk10; go_at_call 54; refine (s54 _ A1 c1 (some ad2) c2 G3 g3 (EX12.out.below dq).t (EX12.out.below dq).x (Kd.C_below EZ.out dq) LC.out.1 LC.out.2.1 LZ.out).mono ?_; rintro e W13 ⟨A27, c27, A28, c28, rfl, h6, h8, l8, hBu⟩))
 rename_i hHeld
 clear hHeld hx0 hx1
 have hb0 := below_weaken H12.out H12.out.size hBu
 have l9 := l8.2
 replace l8 := l8.1
 have EX := Aside0.mk (EX.out.below hb0)
 have BX := Aside0.mk (blk_below BX.out hb0)
 have HBB := Aside0.mk (below_weaken HBB.out HBB.out.size hb0)
 have K6 := Aside0.mk (Kd.C_below K6.out hb0)
 have K8 := Aside0.mk (Kd.C_below K8.out hb0)
 have K10 := Aside0.mk (Kd.C_below K10.out hb0)
 have K12 := Aside0.mk (Kd.C_below K12.out hb0)
 have K14 := Aside0.mk (Kd.C_below K14.out hb0)
 have K17 := Aside0.mk (Kd.C_below K17.out hb0)
 have K21 := Aside0.mk (Kd.C_below K21.out hb0)
 have K25 := Aside0.mk (Kd.C_below K25.out hb0)
 have K27 := Aside0.mk h6
 have K28 := Aside0.mk h8
 have L27 := Aside0.mk l8
 have L28 := Aside0.mk l9
 clear hb0 h6 h8 l8 l9
 have bx := BX.out
 have hx0 : W13.cell? ⟨b2, 0, none⟩ = some (.int .i64 100) := (blk_cell bx 0).trans rfl
 have hx1 : W13.cell? ⟨b2, 1, none⟩ = some (.int .i64 2) := (blk_cell bx 1).trans rfl
 clear bx
 obtain ⟨ad4, e4, z0, z1, z2⟩ := at_T64 EX.out.x 0 (by omega) (by show (0 : Int) < 1; omega)
 cases e4
 replace z0 : W13.cell? ad2 = some (.int .i64 0) := z0
 replace z1 : W13.cell? ⟨ad2.block, ad2.off + 1, none⟩ = some (.int .i64 20) := z1
 replace z2 : W13.cell? ⟨ad2.block, ad2.off + 2, none⟩ = some (.int .i64 35) := z2
 clear h7 l7 hBt hBu hu23 hu35 hfi c44
 go_wp2_with (first | (clear tk11; go_at_call 62; refine Calls.mono (print_one _) ?_; (try clear hx0 hx1 z0 z1 z2); rintro e W14 ⟨rfl, hb⟩; have hb0 := below_weaken (show Below W13.heap.size W13 _ from dq) (by simp) hb; clear hb; have EX := Aside0.mk (EX.out.below hb0); have BX := Aside0.mk (blk_below BX.out hb0); have HBB := Aside0.mk (below_weaken HBB.out HBB.out.size hb0); have K6 := Aside0.mk (Kd.C_below K6.out hb0); have K8 := Aside0.mk (Kd.C_below K8.out hb0); have K10 := Aside0.mk (Kd.C_below K10.out hb0); have K12 := Aside0.mk (Kd.C_below K12.out hb0); have K14 := Aside0.mk (Kd.C_below K14.out hb0); have K17 := Aside0.mk (Kd.C_below K17.out hb0); have K21 := Aside0.mk (Kd.C_below K21.out hb0); have K25 := Aside0.mk (Kd.C_below K25.out hb0); have K27 := Aside0.mk (Kd.C_below K27.out hb0); have K28 := Aside0.mk (Kd.C_below K28.out hb0); clear hb0; have bx := BX.out; have hx0 : W14.cell? ⟨b2, 0, none⟩ = some (.int .i64 100) := (blk_cell bx 0).trans rfl; have hx1 : W14.cell? ⟨b2, 1, none⟩ = some (.int .i64 2) := (blk_cell bx 1).trans rfl; clear bx) | (clear tk12; go_at_call 63; refine Calls.mono (s63c _ A6 c6 _ _ (Kd.C_below K6.out dq) L6.out (reads_three _) (by omega)) ?_; (try clear hx0 hx1 z0 z1 z2); rintro e W15 ⟨rfl, hb⟩; have hb0 := below_weaken (show Below W14.heap.size W14 _ from dq) (by simp) hb; clear hb; have EX := Aside0.mk (EX.out.below hb0); have BX := Aside0.mk (blk_below BX.out hb0); have HBB := Aside0.mk (below_weaken HBB.out HBB.out.size hb0); have K6 := Aside0.mk (Kd.C_below K6.out hb0); have K8 := Aside0.mk (Kd.C_below K8.out hb0); have K10 := Aside0.mk (Kd.C_below K10.out hb0); have K12 := Aside0.mk (Kd.C_below K12.out hb0); have K14 := Aside0.mk (Kd.C_below K14.out hb0); have K17 := Aside0.mk (Kd.C_below K17.out hb0); have K21 := Aside0.mk (Kd.C_below K21.out hb0); have K25 := Aside0.mk (Kd.C_below K25.out hb0); have K27 := Aside0.mk (Kd.C_below K27.out hb0); have K28 := Aside0.mk (Kd.C_below K28.out hb0); clear hb0; have bx := BX.out; have hx0 : W15.cell? ⟨b2, 0, none⟩ = some (.int .i64 100) := (blk_cell bx 0).trans rfl; have hx1 : W15.cell? ⟨b2, 1, none⟩ = some (.int .i64 2) := (blk_cell bx 1).trans rfl; clear bx) | (clear tk13; go_at_call 63; refine Calls.mono (s63a ⟨56, 76⟩ (by kernel_rfl) _ A8 c8 _ _ (Kd.C_below K8.out dq) L8.out (reads_span _ 56 76) (by omega)) ?_; (try clear hx0 hx1 z0 z1 z2); rintro e W16 ⟨rfl, hb⟩; have hb0 := below_weaken (show Below W15.heap.size W15 _ from dq) (by simp) hb; clear hb; have EX := Aside0.mk (EX.out.below hb0); have BX := Aside0.mk (blk_below BX.out hb0); have HBB := Aside0.mk (below_weaken HBB.out HBB.out.size hb0); have K6 := Aside0.mk (Kd.C_below K6.out hb0); have K8 := Aside0.mk (Kd.C_below K8.out hb0); have K10 := Aside0.mk (Kd.C_below K10.out hb0); have K12 := Aside0.mk (Kd.C_below K12.out hb0); have K14 := Aside0.mk (Kd.C_below K14.out hb0); have K17 := Aside0.mk (Kd.C_below K17.out hb0); have K21 := Aside0.mk (Kd.C_below K21.out hb0); have K25 := Aside0.mk (Kd.C_below K25.out hb0); have K27 := Aside0.mk (Kd.C_below K27.out hb0); have K28 := Aside0.mk (Kd.C_below K28.out hb0); clear hb0; have bx := BX.out; have hx0 : W16.cell? ⟨b2, 0, none⟩ = some (.int .i64 100) := (blk_cell bx 0).trans rfl; have hx1 : W16.cell? ⟨b2, 1, none⟩ = some (.int .i64 2) := (blk_cell bx 1).trans rfl; clear bx) | (clear tk14; go_at_call 63; refine Calls.mono (s63a ⟨780, 1079⟩ (by kernel_rfl) _ A10 c10 _ _ (Kd.C_below K10.out dq) L10.out (reads_span _ 780 1079) (by omega)) ?_; (try clear hx0 hx1 z0 z1 z2); rintro e W17 ⟨rfl, hb⟩; have hb0 := below_weaken (show Below W16.heap.size W16 _ from dq) (by simp) hb; clear hb; have EX := Aside0.mk (EX.out.below hb0); have BX := Aside0.mk (blk_below BX.out hb0); have HBB := Aside0.mk (below_weaken HBB.out HBB.out.size hb0); have K6 := Aside0.mk (Kd.C_below K6.out hb0); have K8 := Aside0.mk (Kd.C_below K8.out hb0); have K10 := Aside0.mk (Kd.C_below K10.out hb0); have K12 := Aside0.mk (Kd.C_below K12.out hb0); have K14 := Aside0.mk (Kd.C_below K14.out hb0); have K17 := Aside0.mk (Kd.C_below K17.out hb0); have K21 := Aside0.mk (Kd.C_below K21.out hb0); have K25 := Aside0.mk (Kd.C_below K25.out hb0); have K27 := Aside0.mk (Kd.C_below K27.out hb0); have K28 := Aside0.mk (Kd.C_below K28.out hb0); clear hb0; have bx := BX.out; have hx0 : W17.cell? ⟨b2, 0, none⟩ = some (.int .i64 100) := (blk_cell bx 0).trans rfl; have hx1 : W17.cell? ⟨b2, 1, none⟩ = some (.int .i64 2) := (blk_cell bx 1).trans rfl; clear bx) | (clear tk15; go_at_call 63; refine Calls.mono (s63a ⟨56, 76⟩ (by kernel_rfl) _ A12 c12 A8 c8 (Kd.C_below K12.out dq) L12.out (Kd.C_below K8.out dq) L8.out) ?_; (try clear hx0 hx1 z0 z1 z2); rintro e W18 ⟨rfl, hb⟩; have hb0 := below_weaken (show Below W17.heap.size W17 _ from dq) (by simp) hb; clear hb; have EX := Aside0.mk (EX.out.below hb0); have BX := Aside0.mk (blk_below BX.out hb0); have HBB := Aside0.mk (below_weaken HBB.out HBB.out.size hb0); have K6 := Aside0.mk (Kd.C_below K6.out hb0); have K8 := Aside0.mk (Kd.C_below K8.out hb0); have K10 := Aside0.mk (Kd.C_below K10.out hb0); have K12 := Aside0.mk (Kd.C_below K12.out hb0); have K14 := Aside0.mk (Kd.C_below K14.out hb0); have K17 := Aside0.mk (Kd.C_below K17.out hb0); have K21 := Aside0.mk (Kd.C_below K21.out hb0); have K25 := Aside0.mk (Kd.C_below K25.out hb0); have K27 := Aside0.mk (Kd.C_below K27.out hb0); have K28 := Aside0.mk (Kd.C_below K28.out hb0); clear hb0; have bx := BX.out; have hx0 : W18.cell? ⟨b2, 0, none⟩ = some (.int .i64 100) := (blk_cell bx 0).trans rfl; have hx1 : W18.cell? ⟨b2, 1, none⟩ = some (.int .i64 2) := (blk_cell bx 1).trans rfl; clear bx) | (clear tk16; go_at_call 63; refine Calls.mono (s63a ⟨728, 1367⟩ (by kernel_rfl) _ A14 c14 _ _ (Kd.C_below K14.out dq) L14.out (reads_span _ 728 1367) (by omega)) ?_; (try clear hx0 hx1 z0 z1 z2); rintro e W19 ⟨rfl, hb⟩; have hb0 := below_weaken (show Below W18.heap.size W18 _ from dq) (by simp) hb; clear hb; have EX := Aside0.mk (EX.out.below hb0); have BX := Aside0.mk (blk_below BX.out hb0); have HBB := Aside0.mk (below_weaken HBB.out HBB.out.size hb0); have K6 := Aside0.mk (Kd.C_below K6.out hb0); have K8 := Aside0.mk (Kd.C_below K8.out hb0); have K10 := Aside0.mk (Kd.C_below K10.out hb0); have K12 := Aside0.mk (Kd.C_below K12.out hb0); have K14 := Aside0.mk (Kd.C_below K14.out hb0); have K17 := Aside0.mk (Kd.C_below K17.out hb0); have K21 := Aside0.mk (Kd.C_below K21.out hb0); have K25 := Aside0.mk (Kd.C_below K25.out hb0); have K27 := Aside0.mk (Kd.C_below K27.out hb0); have K28 := Aside0.mk (Kd.C_below K28.out hb0); clear hb0; have bx := BX.out; have hx0 : W19.cell? ⟨b2, 0, none⟩ = some (.int .i64 100) := (blk_cell bx 0).trans rfl; have hx1 : W19.cell? ⟨b2, 1, none⟩ = some (.int .i64 2) := (blk_cell bx 1).trans rfl; clear bx) | (clear tk17; go_at_call 26; refine Calls.mono (s26 1367 (by kernel_rfl) _ A17 c17 _ _ (Kd.C_below K17.out dq) L17.out (reads_int_one _ 1367) (by omega)) ?_; (try clear hx0 hx1 z0 z1 z2); rintro e W20 ⟨rfl, hb⟩; have hb0 := below_weaken (show Below W19.heap.size W19 _ from dq) (by simp) hb; clear hb; have EX := Aside0.mk (EX.out.below hb0); have BX := Aside0.mk (blk_below BX.out hb0); have HBB := Aside0.mk (below_weaken HBB.out HBB.out.size hb0); have K6 := Aside0.mk (Kd.C_below K6.out hb0); have K8 := Aside0.mk (Kd.C_below K8.out hb0); have K10 := Aside0.mk (Kd.C_below K10.out hb0); have K12 := Aside0.mk (Kd.C_below K12.out hb0); have K14 := Aside0.mk (Kd.C_below K14.out hb0); have K17 := Aside0.mk (Kd.C_below K17.out hb0); have K21 := Aside0.mk (Kd.C_below K21.out hb0); have K25 := Aside0.mk (Kd.C_below K25.out hb0); have K27 := Aside0.mk (Kd.C_below K27.out hb0); have K28 := Aside0.mk (Kd.C_below K28.out hb0); clear hb0; have bx := BX.out; have hx0 : W20.cell? ⟨b2, 0, none⟩ = some (.int .i64 100) := (blk_cell bx 0).trans rfl; have hx1 : W20.cell? ⟨b2, 1, none⟩ = some (.int .i64 2) := (blk_cell bx 1).trans rfl; clear bx) | (clear tk18; go_at_call 26; refine Calls.mono (s26 728 (by kernel_rfl) _ A21 c21 _ _ (Kd.C_below K21.out dq) L21.out (reads_int_one _ 728) (by omega)) ?_; (try clear hx0 hx1 z0 z1 z2); rintro e W21 ⟨rfl, hb⟩; have hb0 := below_weaken (show Below W20.heap.size W20 _ from dq) (by simp) hb; clear hb; have EX := Aside0.mk (EX.out.below hb0); have BX := Aside0.mk (blk_below BX.out hb0); have HBB := Aside0.mk (below_weaken HBB.out HBB.out.size hb0); have K6 := Aside0.mk (Kd.C_below K6.out hb0); have K8 := Aside0.mk (Kd.C_below K8.out hb0); have K10 := Aside0.mk (Kd.C_below K10.out hb0); have K12 := Aside0.mk (Kd.C_below K12.out hb0); have K14 := Aside0.mk (Kd.C_below K14.out hb0); have K17 := Aside0.mk (Kd.C_below K17.out hb0); have K21 := Aside0.mk (Kd.C_below K21.out hb0); have K25 := Aside0.mk (Kd.C_below K25.out hb0); have K27 := Aside0.mk (Kd.C_below K27.out hb0); have K28 := Aside0.mk (Kd.C_below K28.out hb0); clear hb0; have bx := BX.out; have hx0 : W21.cell? ⟨b2, 0, none⟩ = some (.int .i64 100) := (blk_cell bx 0).trans rfl; have hx1 : W21.cell? ⟨b2, 1, none⟩ = some (.int .i64 2) := (blk_cell bx 1).trans rfl; clear bx) | (clear tk19; go_at_call 63; refine Calls.mono (s63a ⟨1456, 2734⟩ (by kernel_rfl) _ A25 c25 _ _ (Kd.C_below K25.out dq) L25.out (reads_span _ 1456 2734) (by omega)) ?_; (try clear hx0 hx1 z0 z1 z2); rintro e W22 ⟨rfl, hb⟩; have hb0 := below_weaken (show Below W21.heap.size W21 _ from dq) (by simp) hb; clear hb; have EX := Aside0.mk (EX.out.below hb0); have BX := Aside0.mk (blk_below BX.out hb0); have HBB := Aside0.mk (below_weaken HBB.out HBB.out.size hb0); have K6 := Aside0.mk (Kd.C_below K6.out hb0); have K8 := Aside0.mk (Kd.C_below K8.out hb0); have K10 := Aside0.mk (Kd.C_below K10.out hb0); have K12 := Aside0.mk (Kd.C_below K12.out hb0); have K14 := Aside0.mk (Kd.C_below K14.out hb0); have K17 := Aside0.mk (Kd.C_below K17.out hb0); have K21 := Aside0.mk (Kd.C_below K21.out hb0); have K25 := Aside0.mk (Kd.C_below K25.out hb0); have K27 := Aside0.mk (Kd.C_below K27.out hb0); have K28 := Aside0.mk (Kd.C_below K28.out hb0); clear hb0; have bx := BX.out; have hx0 : W22.cell? ⟨b2, 0, none⟩ = some (.int .i64 100) := (blk_cell bx 0).trans rfl; have hx1 : W22.cell? ⟨b2, 1, none⟩ = some (.int .i64 2) := (blk_cell bx 1).trans rfl; clear bx) | (clear tk20; go_at_call 26; refine Calls.mono (s26 0 (by kernel_rfl) _ A27 c27 _ _ (Kd.C_below K27.out dq) L27.out (reads_int_one _ 0) (by omega)) ?_; (try clear hx0 hx1 z0 z1 z2); rintro e W23 ⟨rfl, hb⟩; have hb0 := below_weaken (show Below W22.heap.size W22 _ from dq) (by simp) hb; clear hb; have EX := Aside0.mk (EX.out.below hb0); have BX := Aside0.mk (blk_below BX.out hb0); have HBB := Aside0.mk (below_weaken HBB.out HBB.out.size hb0); have K6 := Aside0.mk (Kd.C_below K6.out hb0); have K8 := Aside0.mk (Kd.C_below K8.out hb0); have K10 := Aside0.mk (Kd.C_below K10.out hb0); have K12 := Aside0.mk (Kd.C_below K12.out hb0); have K14 := Aside0.mk (Kd.C_below K14.out hb0); have K17 := Aside0.mk (Kd.C_below K17.out hb0); have K21 := Aside0.mk (Kd.C_below K21.out hb0); have K25 := Aside0.mk (Kd.C_below K25.out hb0); have K27 := Aside0.mk (Kd.C_below K27.out hb0); have K28 := Aside0.mk (Kd.C_below K28.out hb0); clear hb0; have bx := BX.out; have hx0 : W23.cell? ⟨b2, 0, none⟩ = some (.int .i64 100) := (blk_cell bx 0).trans rfl; have hx1 : W23.cell? ⟨b2, 1, none⟩ = some (.int .i64 2) := (blk_cell bx 1).trans rfl; clear bx) | (clear tk21; go_at_call 26; refine Calls.mono (s26 0 (by kernel_rfl) _ A28 c28 _ _ (Kd.C_below K28.out dq) L28.out (reads_int_one _ 0) (by omega)) ?_; (try clear hx0 hx1 z0 z1 z2); rintro e W24 ⟨rfl, hb⟩; have hb0 := below_weaken (show Below W23.heap.size W23 _ from dq) (by simp) hb; clear hb; have EX := Aside0.mk (EX.out.below hb0); have BX := Aside0.mk (blk_below BX.out hb0); have HBB := Aside0.mk (below_weaken HBB.out HBB.out.size hb0); have K6 := Aside0.mk (Kd.C_below K6.out hb0); have K8 := Aside0.mk (Kd.C_below K8.out hb0); have K10 := Aside0.mk (Kd.C_below K10.out hb0); have K12 := Aside0.mk (Kd.C_below K12.out hb0); have K14 := Aside0.mk (Kd.C_below K14.out hb0); have K17 := Aside0.mk (Kd.C_below K17.out hb0); have K21 := Aside0.mk (Kd.C_below K21.out hb0); have K25 := Aside0.mk (Kd.C_below K25.out hb0); have K27 := Aside0.mk (Kd.C_below K27.out hb0); have K28 := Aside0.mk (Kd.C_below K28.out hb0); clear hb0; have bx := BX.out; have hx0 : W24.cell? ⟨b2, 0, none⟩ = some (.int .i64 100) := (blk_cell bx 0).trans rfl; have hx1 : W24.cell? ⟨b2, 1, none⟩ = some (.int .i64 2) := (blk_cell bx 1).trans rfl; clear bx) | (clear tk22; go_at_call 20; refine Calls.mono (s20 _ A1 c1 (some ad2) c2 (some ad3) c3 76 0 num_check (EX.out.below dq) LC.out.1 LC.out.2.1 LC.out.2.2 A17 c17 (Kd.C_below K17.out dq) L17.out) ?_; (try clear hx0 hx1 z0 z1 z2); rintro e W25 ⟨rfl, hb⟩; have hb0 := below_weaken (show Below W24.heap.size W24 _ from dq) (by simp) hb; clear hb; have EX := Aside0.mk (EX.out.below hb0); have BX := Aside0.mk (blk_below BX.out hb0); have HBB := Aside0.mk (below_weaken HBB.out HBB.out.size hb0); have K6 := Aside0.mk (Kd.C_below K6.out hb0); have K8 := Aside0.mk (Kd.C_below K8.out hb0); have K10 := Aside0.mk (Kd.C_below K10.out hb0); have K12 := Aside0.mk (Kd.C_below K12.out hb0); have K14 := Aside0.mk (Kd.C_below K14.out hb0); have K17 := Aside0.mk (Kd.C_below K17.out hb0); have K21 := Aside0.mk (Kd.C_below K21.out hb0); have K25 := Aside0.mk (Kd.C_below K25.out hb0); have K27 := Aside0.mk (Kd.C_below K27.out hb0); have K28 := Aside0.mk (Kd.C_below K28.out hb0); clear hb0; have bx := BX.out; have hx0 : W25.cell? ⟨b2, 0, none⟩ = some (.int .i64 100) := (blk_cell bx 0).trans rfl; have hx1 : W25.cell? ⟨b2, 1, none⟩ = some (.int .i64 2) := (blk_cell bx 1).trans rfl; clear bx) | (clear tk23; go_at_call 20; refine Calls.mono (s20 _ A1 c1 (some ad2) c2 (some ad3) c3 75 52 num_check2 (EX.out.below dq) LC.out.1 LC.out.2.1 LC.out.2.2 A17 c17 (Kd.C_below K17.out dq) L17.out) ?_; (try clear hx0 hx1 z0 z1 z2); rintro e W26 ⟨rfl, hb⟩; have hb0 := below_weaken (show Below W25.heap.size W25 _ from dq) (by simp) hb; clear hb; have EX := Aside0.mk (EX.out.below hb0); have BX := Aside0.mk (blk_below BX.out hb0); have HBB := Aside0.mk (below_weaken HBB.out HBB.out.size hb0); have K6 := Aside0.mk (Kd.C_below K6.out hb0); have K8 := Aside0.mk (Kd.C_below K8.out hb0); have K10 := Aside0.mk (Kd.C_below K10.out hb0); have K12 := Aside0.mk (Kd.C_below K12.out hb0); have K14 := Aside0.mk (Kd.C_below K14.out hb0); have K17 := Aside0.mk (Kd.C_below K17.out hb0); have K21 := Aside0.mk (Kd.C_below K21.out hb0); have K25 := Aside0.mk (Kd.C_below K25.out hb0); have K27 := Aside0.mk (Kd.C_below K27.out hb0); have K28 := Aside0.mk (Kd.C_below K28.out hb0); clear hb0; have bx := BX.out; have hx0 : W26.cell? ⟨b2, 0, none⟩ = some (.int .i64 100) := (blk_cell bx 0).trans rfl; have hx1 : W26.cell? ⟨b2, 1, none⟩ = some (.int .i64 2) := (blk_cell bx 1).trans rfl; clear bx) | (clear tk24; go_at_call 38; refine Calls.mono (s38 _) ?_; (try clear hx0 hx1 z0 z1 z2); rintro e W27 ⟨rfl, hb⟩; have hb0 := below_weaken (show Below W26.heap.size W26 _ from dq) (by simp) hb; clear hb; have EX := Aside0.mk (EX.out.below hb0); have BX := Aside0.mk (blk_below BX.out hb0); have HBB := Aside0.mk (below_weaken HBB.out HBB.out.size hb0); have K6 := Aside0.mk (Kd.C_below K6.out hb0); have K8 := Aside0.mk (Kd.C_below K8.out hb0); have K10 := Aside0.mk (Kd.C_below K10.out hb0); have K12 := Aside0.mk (Kd.C_below K12.out hb0); have K14 := Aside0.mk (Kd.C_below K14.out hb0); have K17 := Aside0.mk (Kd.C_below K17.out hb0); have K21 := Aside0.mk (Kd.C_below K21.out hb0); have K25 := Aside0.mk (Kd.C_below K25.out hb0); have K27 := Aside0.mk (Kd.C_below K27.out hb0); have K28 := Aside0.mk (Kd.C_below K28.out hb0); clear hb0; have bx := BX.out; have hx0 : W27.cell? ⟨b2, 0, none⟩ = some (.int .i64 100) := (blk_cell bx 0).trans rfl; have hx1 : W27.cell? ⟨b2, 1, none⟩ = some (.int .i64 2) := (blk_cell bx 1).trans rfl; clear bx))
 go_ret
 exact ⟨rfl, HBB.out⟩
def acreagelaw05_sane.f : Option Bool := some true
theorem acreagelaw05_sane.calls (r : Bool) (w : World) (h : acreagelaw05_sane.f = some r) : Calls Tryz.prog 14 #[] w fun e w' => e = .returned (.bool r) ∧ Below w.heap.size w w' := by
 obtain rfl := Option.some.inj h
 exact sane_any w
attribute [local go_sem] max2_int min2_int max_two min_two max_three min_three max_four min_four
def acreagelaw05_WheelConstants.f (k : Nat) (a0_0 : Int) (a0_1 : Int) (l1 : List (S61)) : Option (Bool) := (acreagelaw05_sane.f).bind fun t385 => (if t385 = true then (if (l1.length : Int) > 40 then (some true) else ((wheel_Constants.f a0_0 a0_1 l1).bind fun bt386 => ((acreageref05_Constants.f k a0_0 a0_1 l1).bind fun bt390 => ((acreagelaw05_same.f k bt386.1 bt386.2 bt390.1 bt390.2).bind fun t394 => (some t394))))) else (some false))
theorem acreagelaw05_WheelConstants.mono : ∀ a0 a1 a2 k, LeO (acreagelaw05_WheelConstants.f k a0 a1 a2) (acreagelaw05_WheelConstants.f (k + 1) a0 a1 a2) := by
 intro a0 a1 a2 k
 unfold acreagelaw05_WheelConstants.f
 repeat' first
   |(with_reducible exact acreagelaw05_same.mono _ _ _ _ _)
   |(with_reducible exact acreageref05_Constants.mono _ _ _ _)
   |(with_reducible exact LeO.refl _)
   |(with_reducible exact LeO.none _)
   |(with_reducible refine LeO.ite ?_ ?_)
   |(with_reducible refine LeO.bind ?_ (fun _ => ?_))
   |exact acreagelaw05_same.mono _ _ _ _ _
   |exact acreageref05_Constants.mono _ _ _ _
   |exact LeO.none _
   |refine LeO.ite ?_ ?_
   |refine LeO.bind ?_ (fun _ => ?_)
set_option maxHeartbeats 8000000 in
set_option maxRecDepth 100000 in
theorem acreagelaw05_WheelConstants.calls (k : Nat) (a0_0 : Int) (a0_1 : Int) (A1 : Option Addr) (c1 : Nat) (l1 : List (S61)) (r : Bool) (w : World) (hr1 : Kd.C k61 w A1 l1.length l1) (hc1 : l1.length ≤ c1) (h : acreagelaw05_WheelConstants.f k a0_0 a0_1 l1 = some r) :
  Calls Tryz.prog 3 #[.agg #[.int .i64 a0_0, .int .i64 a0_1], .slice A1 l1.length c1] w fun e w' => e = .returned (.bool r) ∧ Below w.heap.size w w' := by
 have hu23 := Tryz.underlying23
 have HR1 := Aside0.mk hr1
 have HC1 := Aside0.mk hc1
 clear hr1 hc1
 have HB := Aside0.mk (Below.refl w.heap.size w)
 have H : ((acreagelaw05_sane.f).bind fun t385 => (if t385 = true then (if (l1.length : Int) > 40 then (some true) else ((wheel_Constants.f a0_0 a0_1 l1).bind fun bt386 => ((acreageref05_Constants.f k a0_0 a0_1 l1).bind fun bt390 => ((acreagelaw05_same.f k bt386.1 bt386.2 bt390.1 bt390.2).bind fun t394 => (some t394))))) else (some false))) = some r := h
 clear h
 replace H := Option.bind_eq_some_iff.mp H
 obtain ⟨t385, A30, H⟩ := H
 replace H : (if t385 = true then (if (l1.length : Int) > 40 then (some true) else ((wheel_Constants.f a0_0 a0_1 l1).bind fun bt386 => ((acreageref05_Constants.f k a0_0 a0_1 l1).bind fun bt390 => ((acreagelaw05_same.f k bt386.1 bt386.2 bt390.1 bt390.2).bind fun t394 => (some t394))))) else (some false)) = some r := H
 have A3 := Aside0.mk A30
 clear A30
 by_cases c4 : t385 = true
 ·subst c4
  have H1 : (if (l1.length : Int) > 40 then (some true) else ((wheel_Constants.f a0_0 a0_1 l1).bind fun bt386 => ((acreageref05_Constants.f k a0_0 a0_1 l1).bind fun bt390 => ((acreagelaw05_same.f k bt386.1 bt386.2 bt390.1 bt390.2).bind fun t394 => (some t394))))) = some r := by rw [if_pos rfl] at H; exact H
  clear H
  have H := H1
  clear H1
  by_cases c5 : (l1.length : Int) > 40
  ·rw [if_pos c5] at H
   have c5b0 : decide (40 < (l1.length : Int)) = true := decide_eq_true c5
   have c5b1 : decide (40 < l1.length) = true := decide_eq_true (by omega)
   clear c5
   obtain rfl := Option.some.inj H
   go_enter Tryz.func3, Tryz.ntmps3
   go_wp2_with (first | ((with_reducible refine gate_dst (N := 2) rfl ?_); refine box_event ?hg (N := 2) ?hd (cs := #[.int .i64 a0_0, .int .i64 a0_1]) (t := 23) ?hr ?_; (case hd => rfl); (case hg => rfl); (case hr => first | (go_simp; done) | (go_simp; rfl)); intro gb384 hg w6 hbox hb; have n0_ := Aside0.mk (below_step (bw HB.out) hb); have n1_ := Aside0.mk (hbox); have n2_ := Aside0.mk ((by rw [hg]; exact (below_size (bw HB.out)) : w.heap.size ≤ gb384)); have n3_ := Aside0.mk ((by rw [hg]; exact (below_size (bw HB.out)) : w.heap.size ≤ gb384)); clear HB; have HB := n0_; have BK384 := n1_; have GW384 := n2_; have GE384 := n3_; clear n0_ n1_ n2_ n3_; clear hb hbox hg) | ((with_reducible refine gate_callee (f := 14) rfl ?_); refine goesL_ (some 9) rfl rfl Tryz.func14 (by kernel_rfl) rfl #[] rfl mq ?_; (with_reducible refine (acreagelaw05_sane.calls  true _ A3.out).mono ?_); rintro e w7 ⟨rfl, hb⟩; refine ⟨_, rfl, ?_⟩; have n0_ := Aside0.mk (blk_below (g := gb384) (o := .cells #[.int .i64 a0_0, .int .i64 a0_1] 23 (0, 0)) (bq BK384.out) hb); have n1_ := Aside0.mk (below_step (by repeat (first | (with_reducible first | exact HB.out | apply below_alloc | apply pw_below_drewN | apply below_drew1 | refine below_set ?_ GE384.out) | exact HB.out)) hb); clear BK384; clear HB; have BK384 := n0_; have HB := n1_; clear n0_ n1_; (try clear hb); (try clear hb2); (try clear hk); (try clear hi)))
   go_ret
   exact ⟨by first | rfl | (simp [errW_none, errW_some] <;> rfl) | (simp [*, errW_none, errW_some] <;> rfl), by repeat (first | (with_reducible first | exact HB.out | apply below_alloc | apply pw_below_drewN | apply below_drew1 | refine below_set ?_ GE384.out) | exact HB.out)⟩
  ·rw [if_neg c5] at H
   have c5b0 : decide (40 < (l1.length : Int)) = false := decide_eq_false c5
   have c5b1 : decide (40 < l1.length) = false := decide_eq_false (by omega)
   clear c5
   replace H := Option.bind_eq_some_iff.mp H
   obtain ⟨⟨t386, t389⟩, A80, H⟩ := H
   replace H : ((acreageref05_Constants.f k a0_0 a0_1 l1).bind fun bt390 => ((acreagelaw05_same.f k t386 t389 bt390.1 bt390.2).bind fun t394 => (some t394))) = some r := H
   have A8 := Aside0.mk A80
   clear A80
   replace H := Option.bind_eq_some_iff.mp H
   obtain ⟨⟨t390, t393⟩, A90, H⟩ := H
   replace H : ((acreagelaw05_same.f k t386 t389 t390 t393).bind fun t394 => (some t394)) = some r := H
   have A9 := Aside0.mk A90
   clear A90
   replace H := Option.bind_eq_some_iff.mp H
   obtain ⟨t394, A100, H⟩ := H
   replace H : (some t394) = some r := H
   have A10 := Aside0.mk A100
   clear A100
   obtain rfl := Option.some.inj H
   go_enter Tryz.func3, Tryz.ntmps3
   go_wp2_with (first | ((with_reducible refine gate_dst (N := 2) rfl ?_); refine box_event ?hg (N := 2) ?hd (cs := #[.int .i64 a0_0, .int .i64 a0_1]) (t := 23) ?hr ?_; (case hd => rfl); (case hg => rfl); (case hr => first | (go_simp; done) | (go_simp; rfl)); intro gb384 hg w11 hbox hb; have n0_ := Aside0.mk (below_step (bw HB.out) hb); have n1_ := Aside0.mk (hbox); have n2_ := Aside0.mk ((by rw [hg]; exact (below_size (bw HB.out)) : w.heap.size ≤ gb384)); have n3_ := Aside0.mk ((by rw [hg]; exact (below_size (bw HB.out)) : w.heap.size ≤ gb384)); clear HB; have HB := n0_; have BK384 := n1_; have GW384 := n2_; have GE384 := n3_; clear n0_ n1_ n2_ n3_; clear hb hbox hg) | ((with_reducible refine gate_callee (f := 14) rfl ?_); refine goesL_ (some 9) rfl rfl Tryz.func14 (by kernel_rfl) rfl #[] rfl mq ?_; (with_reducible refine (acreagelaw05_sane.calls  true _ A3.out).mono ?_); rintro e w12 ⟨rfl, hb⟩; refine ⟨_, rfl, ?_⟩; have n0_ := Aside0.mk (blk_below (g := gb384) (o := .cells #[.int .i64 a0_0, .int .i64 a0_1] 23 (0, 0)) (bq BK384.out) hb); have n1_ := Aside0.mk (below_step (by repeat (first | (with_reducible first | exact HB.out | apply below_alloc | apply pw_below_drewN | apply below_drew1 | refine below_set ?_ GE384.out) | exact HB.out)) hb); clear BK384; clear HB; have BK384 := n0_; have HB := n1_; clear n0_ n1_; (try clear hb); (try clear hb2); (try clear hk); (try clear hi); have hcz13_0 : w12.cell? ⟨gb384, 0, none⟩ = some (.int .i64 a0_0) := (blk_cell BK384.out 0).trans rfl; have hcz13_1 : w12.cell? ⟨gb384, 1, none⟩ = some (.int .i64 a0_1) := (blk_cell BK384.out 1).trans rfl; have hfz13_0 := blk_frozen BK384.out 0; have hfz13_1 := blk_frozen BK384.out 1) | ((with_reducible refine gate_callee (f := 15) rfl ?_); refine goesL_ (some 17) rfl rfl Tryz.func15 (by kernel_rfl) rfl #[.agg #[.int .i64 a0_0, .int .i64 a0_1], .slice A1 l1.length c1] rfl mq ?_; (with_reducible refine (wheel_Constants.calls a0_0 a0_1 _ _ l1 t386 t389 _ ?side1 ?side2 A8.out).mono ?_); (case side1 => repeat (first | exact (Kd.C_below HR1.out HB.out) | (with_reducible refine Kd.C_alloc ?_ _) | (with_reducible refine Kd.C_drewN ?_ _) | (with_reducible refine Kd.C_drew ?_))); (case side2 => exact HC1.out); rintro e w14 ⟨v387, rfl, ho0, hb⟩; refine ⟨_, rfl, ?_⟩; have n0_ := Aside0.mk (Kd.R_lower ho0 (below_size (by repeat (first | (with_reducible first | exact HB.out | apply below_alloc | apply pw_below_drewN | apply below_drew1 | refine below_set ?_ GE384.out) | exact HB.out)))); have n1_ := Aside0.mk (blk_below (g := gb384) (o := .cells #[.int .i64 a0_0, .int .i64 a0_1] 23 (0, 0)) (bq BK384.out) hb); have n2_ := Aside0.mk (below_step (by repeat (first | (with_reducible first | exact HB.out | apply below_alloc | apply pw_below_drewN | apply below_drew1 | refine below_set ?_ GE384.out) | exact HB.out)) hb); clear BK384; clear HB; have HO388 := n0_; have BK384 := n1_; have HB := n2_; clear n0_ n1_ n2_; (try clear hb); (try clear hb2); (try clear hk); (try clear hi); (try clear ho0); have hcz15_0 : w14.cell? ⟨gb384, 0, none⟩ = some (.int .i64 a0_0) := (blk_cell BK384.out 0).trans rfl; have hcz15_1 : w14.cell? ⟨gb384, 1, none⟩ = some (.int .i64 a0_1) := (blk_cell BK384.out 1).trans rfl; have hfz15_0 := blk_frozen BK384.out 0; have hfz15_1 := blk_frozen BK384.out 1) | ((with_reducible refine gate_callee (f := 16) rfl ?_); refine goesL_ (some 23) rfl rfl Tryz.func16 (by kernel_rfl) rfl #[.agg #[.int .i64 a0_0, .int .i64 a0_1], .slice A1 l1.length c1] rfl mq ?_; (with_reducible refine (acreageref05_Constants.calls k a0_0 a0_1 _ _ l1 t390 t393 _ ?side1 ?side2 A9.out).mono ?_); (case side1 => repeat (first | exact (Kd.C_below HR1.out HB.out) | (with_reducible refine Kd.C_alloc ?_ _) | (with_reducible refine Kd.C_drewN ?_ _) | (with_reducible refine Kd.C_drew ?_))); (case side2 => exact HC1.out); rintro e w16 ⟨v391, rfl, ho0, hb⟩; refine ⟨_, rfl, ?_⟩; have n0_ := Aside0.mk (Kd.R_elder' (rq HO388.out) (Kd.R_base ho0) hb); have n1_ := Aside0.mk (Kd.R_lower (Kd.R_new' ho0 (Kd.R_lt (rq HO388.out))) (below_size (by repeat (first | (with_reducible first | exact HB.out | apply below_alloc | apply pw_below_drewN | apply below_drew1 | refine below_set ?_ GE384.out) | exact HB.out)))); have n2_ := Aside0.mk (blk_below (g := gb384) (o := .cells #[.int .i64 a0_0, .int .i64 a0_1] 23 (0, 0)) (bq BK384.out) hb); have n3_ := Aside0.mk (below_step (by repeat (first | (with_reducible first | exact HB.out | apply below_alloc | apply pw_below_drewN | apply below_drew1 | refine below_set ?_ GE384.out) | exact HB.out)) hb); clear HO388; clear BK384; clear HB; have HO388 := n0_; have HO392 := n1_; have BK384 := n2_; have HB := n3_; clear n0_ n1_ n2_ n3_; (try clear hb); (try clear hb2); (try clear hk); (try clear hi); (try clear ho0); obtain ⟨Ao17, co17, eo17⟩ := Kd.R_slice HO388.out; subst eo17; obtain ⟨Ao18, co18, eo18⟩ := Kd.R_slice HO392.out; subst eo18) | ((with_reducible refine gate_callee (f := 17) rfl ?_); refine goesL_ (some 30) rfl rfl Tryz.func17 (by kernel_rfl) rfl #[.slice Ao17 t386.length co17, .int .i64 t389, .slice Ao18 t390.length co18, .int .i64 t393] rfl mq ?_; (with_reducible refine (acreagelaw05_same.calls k _ _ t386 t389 _ _ t390 t393 t394 _ ?side1 ?side2 ?side3 ?side4 A10.out).mono ?_); (case side1 => repeat (first | exact (Kd.R_reads' HO388.out).2.2 | (with_reducible refine Kd.C_alloc ?_ _) | (with_reducible refine Kd.C_drewN ?_ _) | (with_reducible refine Kd.C_drew ?_))); (case side2 => exact (Kd.R_reads' HO388.out).2.1); (case side3 => repeat (first | exact (Kd.R_reads' HO392.out).2.2 | (with_reducible refine Kd.C_alloc ?_ _) | (with_reducible refine Kd.C_drewN ?_ _) | (with_reducible refine Kd.C_drew ?_))); (case side4 => exact (Kd.R_reads' HO392.out).2.1); rintro e w' ⟨rfl, ⟨nd, rfl⟩⟩; refine ⟨_, rfl, ?_⟩))
   go_ret
   exact ⟨by first | rfl | (simp [errW_none, errW_some] <;> rfl) | (simp [*, errW_none, errW_some] <;> rfl), by repeat (first | (with_reducible first | exact HB.out | apply below_alloc | apply pw_below_drewN | apply below_drew1 | refine below_set ?_ GE384.out) | exact HB.out)⟩
 ·replace c4 := Bool.eq_false_iff.mpr c4
  subst c4
  have H1 : (some false) = some r := by rw [if_neg (show ¬ (false = true) by decide)] at H; exact H
  clear H
  have H := H1
  clear H1
  obtain rfl := Option.some.inj H
  go_enter Tryz.func3, Tryz.ntmps3
  go_wp2_with (first | ((with_reducible refine gate_dst (N := 2) rfl ?_); refine box_event ?hg (N := 2) ?hd (cs := #[.int .i64 a0_0, .int .i64 a0_1]) (t := 23) ?hr ?_; (case hd => rfl); (case hg => rfl); (case hr => first | (go_simp; done) | (go_simp; rfl)); intro gb384 hg w19 hbox hb; have n0_ := Aside0.mk (below_step (bw HB.out) hb); have n1_ := Aside0.mk (hbox); have n2_ := Aside0.mk ((by rw [hg]; exact (below_size (bw HB.out)) : w.heap.size ≤ gb384)); have n3_ := Aside0.mk ((by rw [hg]; exact (below_size (bw HB.out)) : w.heap.size ≤ gb384)); clear HB; have HB := n0_; have BK384 := n1_; have GW384 := n2_; have GE384 := n3_; clear n0_ n1_ n2_ n3_; clear hb hbox hg) | ((with_reducible refine gate_callee (f := 14) rfl ?_); refine goesL_ (some 9) rfl rfl Tryz.func14 (by kernel_rfl) rfl #[] rfl mq ?_; (with_reducible refine (acreagelaw05_sane.calls  false _ A3.out).mono ?_); rintro e w20 ⟨rfl, hb⟩; refine ⟨_, rfl, ?_⟩; have n0_ := Aside0.mk (blk_below (g := gb384) (o := .cells #[.int .i64 a0_0, .int .i64 a0_1] 23 (0, 0)) (bq BK384.out) hb); have n1_ := Aside0.mk (below_step (by repeat (first | (with_reducible first | exact HB.out | apply below_alloc | apply pw_below_drewN | apply below_drew1 | refine below_set ?_ GE384.out) | exact HB.out)) hb); clear BK384; clear HB; have BK384 := n0_; have HB := n1_; clear n0_ n1_; (try clear hb); (try clear hb2); (try clear hk); (try clear hi)))
  go_ret
  exact ⟨by first | rfl | (simp [errW_none, errW_some] <;> rfl) | (simp [*, errW_none, errW_some] <;> rfl), by repeat (first | (with_reducible first | exact HB.out | apply below_alloc | apply pw_below_drewN | apply below_drew1 | refine below_set ?_ GE384.out) | exact HB.out)⟩
end Go.Proofs.YtgakfgedaipdmaaGreatDoor.P
