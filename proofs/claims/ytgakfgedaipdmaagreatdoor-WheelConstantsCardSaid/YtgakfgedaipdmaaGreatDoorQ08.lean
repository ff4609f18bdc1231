/- A part of the proof. -/
import Derived.Test.YtgakfgedaipdmaaGreatDoorQ07
import Derived.Deep.RegionHeld3
import Derived.RangeFuncNested
import Derived.RangeFuncBound
import Derived.RangeFuncCalls
import Derived.RangeFuncLeaves
import Derived.Shelf.Abstract
import Derived.Shelf.RegionOpen
import Derived.WalkKit
import Derived.OwnWalkIn
import Derived.TacticsInMore
import Derived.LoopNIn
import Derived.LoopIn
namespace Go.Proofs.YtgakfgedaipdmaaGreatDoor.P
open Go.RowKit Go.Proofs.YtgakfgedaipdmaaGreatDoorW.PrintWords Go.Proofs.YtgakfgedaipdmaaGreatDoorW.PrintLast Go.Proofs.YtgakfgedaipdmaaGreatDoorW.PrintMore
set_option linter.unusedVariables false
set_option linter.unusedSimpArgs false
structure InqOk (D S : Int) (l1 : List S61) (l3 : List S59) (dss : List (List Int)) : Prop where
 w : wOk D S
 tr : ∀ x ∈ l1, trialOk D x = true
 sp : ∀ s ∈ l3, spanOk s = true
 len : dss.length = l3.length
 ds : ∀ d ∈ dss, dsOk D d
 n1 : l1.length ≤ 16
 n3 : 1 ≤ l3.length ∧ l3.length ≤ 8
structure Inq (W : World) (b : Nat) (D S : Int) (A1 : Option Addr) (c1 : Nat) (l1 : List S61) (A3 : Option Addr) (c3 : Nat) (l3 : List S59) (dss : List (List Int)) : Prop where
 at_ : InqAt W b D S A1 l1.length c1 A3 l3.length c3 dss
 tr : Kd.C k61 W A1 l1.length l1
 wi : Kd.C k59 W A3 l3.length l3
theorem InqAt.below {W W1 : World} {b : Nat} {D S : Int} {A1 A3 : Option Addr} {n1 c1 n3 c3 : Nat} {dss : List (List Int)} (h : InqAt W b D S A1 n1 c1 A3 n3 c3 dss) (hB : Below W.heap.size W W1) : InqAt W1 b D S A1 n1 c1 A3 n3 c3 dss := by
 obtain ⟨dA, dc, h1, h2, h3⟩ := h
 exact ⟨dA, dc, blk_below h1 hB, h2, Kd.C_below h3 hB⟩
theorem Inq.below {W W1 : World} {b : Nat} {D S : Int} {A1 A3 : Option Addr} {c1 c3 : Nat} {l1 : List S61} {l3 : List S59} {dss : List (List Int)} (h : Inq W b D S A1 c1 l1 A3 c3 l3 dss) (hB : Below W.heap.size W W1) : Inq W1 b D S A1 c1 l1 A3 c3 l3 dss :=
 ⟨h.at_.below hB, Kd.C_below h.tr hB, Kd.C_below h.wi hB⟩
theorem spanOk_iff {s : S59} : spanOk s = true ↔ 0 ≤ s.f0 ∧ s.f0 ≤ s.f1 ∧ s.f1 ≤ 1073741824 := by
 unfold spanOk
 simp only [Bool.and_eq_true, decide_eq_true_eq]
 omega
def areaAt (D S c : Int) (l3 : List S59) (dss : List (List Int)) (i : Nat) : Option Int := leastA D S (dss.getD i []) c (l3.getD i z59).f0 (l3.getD i z59).f1
def firstP (D S c : Int) (l1 : List S61) (l3 : List S59) (dss : List (List Int)) : Option (List Int) :=
 if l1.all (fitB D S c) && (List.range l3.length).all (fun i => (areaAt D S c l3 dss i).isSome) then some ((List.range l3.length).map fun i => (areaAt D S c l3 dss i).getD 0) else none
def FirstPost (D S c : Int) (l1 : List S61) (l3 : List S59) (dss : List (List Int)) (w : World) (e : Ending) (w' : World) : Prop :=
 Below w.heap.size w w' ∧ ((firstP D S c l1 l3 dss = none ∧ e = .returned (.tuple #[.slice none 0 0, .bool false])) ∨ ∃ l v, firstP D S c l1 l3 dss = some l ∧ e = .returned (.tuple #[v, .bool true]) ∧ Kd.R (Kd.int .i64) 3 w' w.heap.size (fun _ => True) v l)
theorem range_map_succ {α : Type} (f : Nat → α) (k : Nat) : (List.range (k + 1)).map f = (List.range k).map f ++ [f k] := by rw [List.range_succ, List.map_append]; rfl
theorem mem_getD {α : Type} {l : List α} {k : Nat} (h : k < l.length) (d : α) : l.getD k d ∈ l := by
 rw [List.getD_eq_getElem?_getD, List.getElem?_eq_getElem h, Option.getD_some]
 exact List.getElem_mem h
set_option maxHeartbeats 8000000 in
set_option maxRecDepth 100000 in
theorem first_any (D S c : Int) (A1 : Option Addr) (c1 : Nat) (l1 : List S61) (A3 : Option Addr) (c3 : Nat) (l3 : List S59) (dss : List (List Int)) (qb : Nat) (w : World)
  (hok : InqOk D S l1 l3 dss) (hc : cOk c) (hq : Inq w qb D S A1 c1 l1 A3 c3 l3 dss) :
  Calls Tryz.prog 125 #[.pointer (some ⟨qb, 0, none⟩), .int .i64 c] w (FirstPost D S c l1 l3 dss w) := by
 have HK := Aside0.mk hok
 have HQ := Aside0.mk hq
 obtain ⟨⟨dA, dc, hqb, hdc, hds⟩, hr1, hr3⟩ := hq
 have HB := Aside0.mk (Below.refl w.heap.size w)
 have HQB := Aside0.mk hqb
 have hm1 := hok.n1
 have hm3 := hok.n3.2
 have hmd := hok.len
 have hq2 : w.cell? ⟨qb, 2, none⟩ = some (.slice A1 l1.length c1) := (blk_cell hqb 2).trans rfl
 have hc1' := hc.1
 have hc2' := hc.2
 have HC := Aside0.mk hc
 have HD := Aside0.mk hds
 have HR1 := Aside0.mk hr1
 have HR3 := Aside0.mk hr3
 have HM := Aside0.mk hmd
 clear hok hqb hdc hds hr1 hr3 hc hmd
 have hu108 := Tryz.underlying108
 have hu111 := Tryz.underlying111
 go_enter Tryz.func125, Tryz.ntmps125
 go_wp2
 go_loopw [18, 7] (fun v18 v7 W => ∃ k : Nat, v18 = .int .i64 k ∧ k ≤ l1.length ∧ Aside0 ((l1.take k).all (fitB D S c) = true) ∧ Aside0 (Below w.heap.size w W)) (fun v18 _ _ => l1.length - (intOf v18).toNat)
 case atStart => exact ⟨0, rfl, Nat.zero_le _, ⟨by simp⟩, HB⟩
 case round =>
  clear HB hq2
  obtain ⟨k, rfl, hk, HT, HB⟩ := hrel
  have HQB1 := Aside0.mk (blk_below HQB.out HB.out)
  by_cases hlt : k < l1.length
  ·obtain ⟨ad, e0, hx0, hx1, hx2, hx3⟩ := at_T61 (Kd.C_below HR1.out HB.out) (k : Int) (by omega) (by omega)
   cases e0
   simp only [Int.toNat_natCast] at hx0 hx1 hx2 hx3
   have hid : rd_T61 l1 (k : Int) = l1.getD k z61 := by unfold rd_T61; rw [Int.toNat_natCast]
   rw [hid] at hx0 hx1 hx2 hx3
   have hmem := mem_getD hlt z61
   have hs := take_succ_getD l1 k hlt z61
   generalize hx : l1.getD k z61 = x at hx0 hx1 hx2 hx3 hmem hs
   obtain ⟨kf, hf⟩ := (wheel_dial_fits.eval D S c x HK.out.w HC.out (HK.out.tr x hmem)).rounds
   have hcf := fun W => wheel_dial_fits.calls kf D S x.f0.f0 x.f0.f1 x.f1 x.f2 c (fitB D S c x) W hf
   have HX := Aside0.mk hx
   have HMEM := Aside0.mk hmem
   have HS := Aside0.mk hs
   have hq0 : wr.cell? ⟨qb, 0, none⟩ = some (.int .i64 D) := (blk_cell HQB1.out 0).trans rfl
   have hq1 : wr.cell? ⟨qb, 1, none⟩ = some (.int .i64 S) := (blk_cell HQB1.out 1).trans rfl
   have hne := blk_ne_new HQB1.out
   clear hid hf hx hmem hs
   generalize hb : fitB D S c x = b at hcf
   go_wp2_with fail
   go_region_held3 (fun W => W.cell? ⟨qb, 0, none⟩ = some (.int .i64 D) ∧ W.cell? ⟨qb, 1, none⟩ = some (.int .i64 S) ∧ W.cell? ⟨wr.heap.size, 0, none⟩ = some (.int .i64 x.f0.f0) ∧ W.cell? ⟨wr.heap.size, 1, none⟩ = some (.int .i64 x.f0.f1) ∧ W.cell? ⟨wr.heap.size, 2, none⟩ = some (.int .i64 x.f1) ∧ W.cell? ⟨wr.heap.size, 3, none⟩ = some (.int .i64 x.f2)) (first | go_keep | (go_split_ands; (repeat' apply And.intro) <;> exact pw_cell_below hBt (by assumption)))
    (first | (go_at_call 70; refine (hcf _).mono ?_; rintro e W2 ⟨rfl, hBt⟩))
   rename_i hHeld
   have HB2 := Aside0.mk (below_weaken (below_drew1 (below_alloc HB.out _)) (by simp; have := HB.out.size; omega) hBt)
   clear hHeld hBt hcf hq0 hq1 hne HB hx0 hx1 hx2 hx3
   cases b with
   |false =>
    have HF := Aside0.mk (show firstP D S c l1 l3 dss = none by
     unfold firstP
     rw [if_neg]
     simp only [Bool.and_eq_true, List.all_eq_true]
     intro h
     have := h.1 x HMEM.out
     rw [hb] at this
     cases this)
    clear hb
    go_wp2
    go_ret2
    exact ⟨HB2.out, .inl ⟨HF.out, rfl⟩⟩
   |true =>
    have HT2 := Aside0.mk (show (l1.take (k + 1)).all (fitB D S c) = true by rw [HS.out, List.all_append, HT.out]; simp [hb])
    clear hb HT
    go_wp2
    go_roundw
    case rel => exact ⟨k + 1, by go_num, by omega, HT2, HB2⟩
    case measure => simp [intOf]; omega
  ·obtain rfl : k = l1.length := by omega
   have ht := HT.out
   rw [List.take_length] at ht
   have HT1 := Aside0.mk ht
   have hq3 : wr.cell? ⟨qb, 3, none⟩ = some (.slice A3 l3.length c3) := (blk_cell HQB1.out 3).trans rfl
   clear ht HT
   go_wp2
   clear hq3
   go_loopw [36, 8, 10] (fun v36 v8 v10 W => ∃ k : Nat, v36 = .int .i64 k ∧ k ≤ l3.length ∧ Aside0 ((List.range k).all (fun i => (areaAt D S c l3 dss i).isSome) = true) ∧ Aside0 (Below w.heap.size w W) ∧ Aside0 (W.ownsRow w.heap.size 3 1 v8 ((List.range k).map fun i => (areaAt D S c l3 dss i).getD 0).length (nums .i64 ((List.range k).map fun i => (areaAt D S c l3 dss i).getD 0)))) (fun v36 _ _ _ => l3.length - (intOf v36).toNat)
   case atStart => exact ⟨0, rfl, Nat.zero_le _, ⟨by simp⟩, HB, ⟨own_nil _ _ _ _⟩⟩
   case round =>
    clear HB HQB1
    obtain ⟨k, rfl, hk, HT, HB, HO⟩ := hrel
    have HQB1 := Aside0.mk (blk_below HQB.out HB.out)
    by_cases hlt : k < l3.length
    ·obtain ⟨ad, e0, hx0, hx1⟩ := at_T59 (Kd.C_below HR3.out HB.out) (k : Int) (by omega) (by omega)
     cases e0
     obtain ⟨dad, A0, c0, e1, hd0, hdl, hdr⟩ := at_L2 (Kd.C_below HD.out HB.out) (k : Int) (by omega) (by have := HM.out; omega)
     cases e1
     simp only [Int.toNat_natCast] at hx0 hx1 hd0
     have hid : rd_T59 l3 (k : Int) = l3.getD k z59 := by unfold rd_T59; rw [Int.toNat_natCast]
     have hid2 : rd_L2 dss (k : Int) = dss.getD k [] := by unfold rd_L2; rw [Int.toNat_natCast]
     rw [hid] at hx0 hx1
     rw [hid2] at hd0 hdl hdr
     have hmem := mem_getD hlt z59
     have hdm : dss.getD k [] ∈ dss := mem_getD (by have := HM.out; omega) []
     have har : areaAt D S c l3 dss k = leastA D S (dss.getD k []) c (l3.getD k z59).f0 (l3.getD k z59).f1 := rfl
     generalize hs : l3.getD k z59 = s at hx0 hx1 hmem har
     generalize hd : dss.getD k [] = d at hd0 hdl hdr hdm har
     obtain ⟨g1, g2, g3⟩ := spanOk_iff.1 (HK.out.sp s hmem)
     obtain ⟨kl, hl⟩ := (wheel_dial_least.eval D S c s.f0 s.f1 d HK.out.w (HK.out.ds d hdm) HC.out g1 g2 g3).rounds
     rw [← har] at hl
     have hcl := fun W (hr : Kd.C (Kd.int .i64) W A0 d.length d) => wheel_dial_least.calls kl D S A0 c0 d c s.f0 s.f1 _ _ W hr hdl hl
     have HDR := Aside0.mk hdr
     have hq0 : wr.cell? ⟨qb, 0, none⟩ = some (.int .i64 D) := (blk_cell HQB1.out 0).trans rfl
     have hq1 : wr.cell? ⟨qb, 1, none⟩ = some (.int .i64 S) := (blk_cell HQB1.out 1).trans rfl
     have hq4 : wr.cell? ⟨qb, 4, none⟩ = some (.slice (some dad) dss.length dc) := (blk_cell HQB1.out 4).trans rfl
     have hne := blk_ne_new HQB1.out
     have hkd : (k : Int) < (dss.length : Int) := by have := HM.out; omega
     clear hid hid2 hmem hdm hs hd g1 g2 g3 hl hdr har
     cases ha : areaAt D S c l3 dss k with
     |none =>
      rw [ha] at hcl
      simp only [leastR] at hcl
      go_wp2_with fail
      go_region_held3 (fun W => W.cell? ⟨qb, 0, none⟩ = some (.int .i64 D) ∧ W.cell? ⟨qb, 1, none⟩ = some (.int .i64 S) ∧ W.cell? ⟨qb, 4, none⟩ = some (.slice (some dad) dss.length dc) ∧ W.cell? (dad.add k) = some (.slice A0 d.length c0) ∧ W.cell? ⟨wr.heap.size, 0, none⟩ = some (.int .i64 s.f0) ∧ W.cell? ⟨wr.heap.size, 1, none⟩ = some (.int .i64 s.f1)) (first | go_keep | (go_split_ands; (repeat' apply And.intro) <;> exact pw_cell_below hBt (by assumption)))
       (first | (go_at_call 122; refine (hcl _ (Kd.C_below HDR.out dq)).mono ?_; rintro e W2 ⟨rfl, hBt⟩))
      rename_i hHeld
      have HB2 := Aside0.mk (below_weaken (below_drew1 (below_alloc HB.out _)) (by simp; have := HB.out.size; omega) hBt)
      have HF := Aside0.mk (show firstP D S c l1 l3 dss = none by
       unfold firstP
       rw [if_neg]
       simp only [Bool.and_eq_true, List.all_eq_true]
       intro h
       have := h.2 k (List.mem_range.2 hlt)
       rw [ha] at this
       cases this)
      clear hHeld hBt hcl hq0 hq1 hq4 hne HB hx0 hx1 hd0 ha
      go_wp2
      go_ret2
      exact ⟨HB2.out, .inl ⟨HF.out, rfl⟩⟩
     |some a =>
      rw [ha] at hcl
      simp only [leastR] at hcl
      go_wp2_with fail
      go_region_held3 (fun W => W.cell? ⟨qb, 0, none⟩ = some (.int .i64 D) ∧ W.cell? ⟨qb, 1, none⟩ = some (.int .i64 S) ∧ W.cell? ⟨qb, 4, none⟩ = some (.slice (some dad) dss.length dc) ∧ W.cell? (dad.add k) = some (.slice A0 d.length c0) ∧ W.cell? ⟨wr.heap.size, 0, none⟩ = some (.int .i64 s.f0) ∧ W.cell? ⟨wr.heap.size, 1, none⟩ = some (.int .i64 s.f1)) (first | go_keep | (go_split_ands; (repeat' apply And.intro) <;> exact pw_cell_below hBt (by assumption)))
       (first | (go_at_call 122; refine (hcl _ (Kd.C_below HDR.out dq)).mono ?_; rintro e W2 ⟨rfl, hBt⟩))
      rename_i hHeld
      have HB2 := Aside0.mk (below_weaken (below_drew1 (below_alloc HB.out _)) (by simp; have := HB.out.size; omega) hBt)
      have HO2 := Aside0.mk (pw_own_below (own_drew (own_alloc HO.out _)) hBt)
      have HT2 := Aside0.mk (show (List.range (k + 1)).all (fun i => (areaAt D S c l3 dss i).isSome) = true by rw [List.range_succ, List.all_append, HT.out]; simp [ha])
      have HL := Aside0.mk (show (List.range (k + 1)).map (fun i => (areaAt D S c l3 dss i).getD 0) = (List.range k).map (fun i => (areaAt D S c l3 dss i).getD 0) ++ [a] by rw [range_map_succ, ha]; rfl)
      have hll : ((List.range k).map fun i => (areaAt D S c l3 dss i).getD 0).length ≤ 8 := by simp; omega
      clear hHeld hBt hcl hq0 hq1 hq4 hne HB hx0 hx1 hd0 ha HO HT
      generalize (List.range k).map (fun i => (areaAt D S c l3 dss i).getD 0) = out at HO2 HL hll
      go_wp2_with (at_builtin; refine print_append_num (w0 := w) w.heap.size rfl (.tmp 63) (.tmp 65) 36 3 .i64 8 rfl Tryz.underlying36 info3 (by omega) _ out a rfl rfl HO2.out HB2.out HB2.out.size (by omega) ?_; intro v3 w3 hown3 hB3 hg3 hat3)
      rw [← HL.out] at hown3
      have HB3 := Aside0.mk hB3
      have HO3 := Aside0.mk hown3
      clear hB3 hown3 hg3 hat3 hll
      go_roundw
      case rel => exact ⟨k + 1, by go_num, by omega, HT2, HB3, HO3⟩
      case measure => simp [intOf]; omega
    ·obtain rfl : k = l3.length := by omega
     have HF := Aside0.mk (show firstP D S c l1 l3 dss = some ((List.range l3.length).map fun i => (areaAt D S c l3 dss i).getD 0) by
      unfold firstP
      rw [if_pos]
      rw [HT1.out, HT.out]
      rfl)
     have HR := Aside0.mk (Kd.R_of_own (h1 := fun _ => rfl) (ok := fun _ => True) HO.out (fun _ _ => trivial))
     clear HO
     go_wp2
     go_ret2
     exact ⟨HB.out, .inr ⟨_, _, HF.out, rfl, HR.out⟩⟩
end Go.Proofs.YtgakfgedaipdmaaGreatDoor.P
namespace Go.Proofs.YtgakfgedaipdmaaGreatDoor.P
open Go.RowKit Go.Shelf Go.Proofs.YtgakfgedaipdmaaGreatDoorW.PrintWords Go.Proofs.YtgakfgedaipdmaaGreatDoorW.PrintLast Go.Proofs.YtgakfgedaipdmaaGreatDoorW.PrintMore
set_option linter.unusedVariables false
set_option linter.unusedSimpArgs false
attribute [local go_sem] Oper.semAt_some
theorem grown_of_below {W W1 : World} (h : Below W.heap.size W W1) : W.grownBy W1 none := ⟨h.os, h.tape, h.output, h.size, fun k hk _ => h.block k hk⟩
set_option maxHeartbeats 4000000 in
set_option maxRecDepth 100000 in
theorem left_in (n : Nat) (qb : Nat) (w : World) :
  CallsIn Fence.wide n Tryz.prog 73 #[.pointer (some ⟨qb, 0, none⟩)] w fun e w' => e = .returned (.func (.func 124) #[] #[.pointer (some ⟨w.heap.size, 0, none⟩)]) ∧ w' = w.alloc (.cells #[.pointer (some ⟨qb, 0, none⟩)] 102) := by
 refine callsIn_of_wp Tryz.func73 rfl trivial ?_ rfl
 simp only [Tryz.ntmps73, List.size_toArray, List.length_cons, List.length_nil, Nat.reduceAdd, Nat.reduceSub, Array.replicate_succ, Array.replicate_zero, List.push_toArray, List.append_toArray, List.nil_append, List.cons_append]
 gi_wp2
 go_ret
 exact ⟨rfl, rfl⟩
set_option maxHeartbeats 8000000 in
set_option maxRecDepth 100000 in
theorem left1_in (n : Nat) (l bx qb B0 : Nat) (D S : Int) (A1 : Option Addr) (c1 : Nat) (l1 : List S61) (A3 : Option Addr) (c3 : Nat) (l3 : List S59) (dss : List (List Int))
  (hok : InqOk D S l1 l3 dss) (J : Int → World → Prop) (Jx : World → Prop)
  (hJg : ∀ c A B, J c A → A.grownBy B none → J c B)
  (hJq : ∀ c W, J c W → B0 ≤ W.heap.size ∧ W.cell? ⟨bx, 0, none⟩ = some (.pointer (some ⟨qb, 0, none⟩)) ∧ Inq W qb D S A1 c1 l1 A3 c3 l3 dss)
  (hSkip : ∀ c W, 1 ≤ c → c ≤ 1000 → J c W → firstP D S c l1 l3 dss = none → J (c + 1) W)
  (hY : ∀ c a v W, 1 ≤ c → c ≤ 1000 → J c W → firstP D S c l1 l3 dss = some a → Kd.R (Kd.int .i64) 3 W B0 (fun _ => True) v a → YieldAt Fence.wide (n - 1) Tryz.prog l #[.int .i64 c, v] W fun e W' =>
   (e = .returned (.bool true) ∧ J (c + 1) W') ∨ (e = .returned (.bool false) ∧ Jx W'))
  (W : World) (h0 : J 1 W) :
  CallsIn Fence.wide n Tryz.prog 124 #[.func (.yield l) #[] #[], .pointer (some ⟨bx, 0, none⟩)] W fun e W' => (∃ v, e = .returned v) ∧ (J 1001 W' ∨ Jx W') := by
 refine callsIn_of_wp Tryz.func124 rfl trivial ?_ rfl
 simp only [Tryz.ntmps124, List.size_toArray, List.length_cons, List.length_nil, Nat.reduceAdd, Nat.reduceSub, Array.replicate_succ, Array.replicate_zero, List.push_toArray, List.append_toArray, List.nil_append, List.cons_append]
 gi_wp2
 gi_loopw [3] (fun p wr => ∃ c : Int, p = .int .i64 c ∧ 1 ≤ c ∧ c ≤ 1001 ∧ J c wr)
  (fun p wr => 1001 - (intOf p).toNat)
 case atStart => exact ⟨1, rfl, by omega, by omega, h0⟩
 case round =>
  obtain ⟨c, rfl, hc1, hc2, hJ⟩ := hrel
  obtain ⟨hB0, hbx, hq⟩ := hJq _ _ hJ
  by_cases hlt : c ≤ 1000
  ·have hcall := first_any D S c A1 c1 l1 A3 c3 l3 dss qb wr hok ⟨hc1, hlt⟩ hq
   have HQ := Aside0.mk hq
   clear hq
   cases hf : firstP D S c l1 l3 dss with
   |none =>
    have hJ1 := Aside0.mk (hSkip c wr hc1 hlt hJ hf)
    have hcall0 : Calls Tryz.prog 125 #[.pointer (some ⟨qb, 0, none⟩), .int .i64 c] wr fun e w' => e = .returned (.tuple #[.slice none 0 0, .bool false]) ∧ Below wr.heap.size wr w' := hcall.mono (fun e w' h => by
     obtain ⟨hb, (⟨_, he⟩ | ⟨a, v, ha, _⟩)⟩ := h
     ·exact ⟨he, hb⟩
     ·rw [hf] at ha; cases ha)
    clear hcall hf hY hJ hSkip
    gi_wp2_with (refine ⟨trivial, (fun h => (by cases h)), ?_⟩; gi_at_call 125; refine (callsIn_wide.2 hcall0).mono ?_; clear hcall0; rintro e W2 ⟨rfl, hb⟩)
    refine ⟨fun _ h => (by cases h), ?_⟩
    gi_wp2
    go_roundw
    case rel => exact ⟨c + 1, by go_num, by omega, by omega, hJg _ _ _ hJ1.out (grown_of_below hb)⟩
    case measure => simp [intOf]; omega
   |some a =>
    have hcall0 : Calls Tryz.prog 125 #[.pointer (some ⟨qb, 0, none⟩), .int .i64 c] wr fun e w' => Below wr.heap.size wr w' ∧ ∃ v, e = .returned (.tuple #[v, .bool true]) ∧ YieldAt Fence.wide (n - 1) Tryz.prog l #[Value.int IntKind.i64 c, v] w' (fun e W' =>
        e = Ending.returned (Value.bool true) ∧ J (c + 1) W' ∨ e = Ending.returned (Value.bool false) ∧ Jx W') := hcall.mono (fun e w' h => by
     obtain ⟨hb, (⟨hn, _⟩ | ⟨a', v, ha, he, hr⟩)⟩ := h
     ·rw [hf] at hn; cases hn
     ·rw [hf] at ha; cases ha
      exact ⟨hb, v, he, hY c a v w' hc1 hlt (hJg _ _ _ hJ (grown_of_below hb)) hf (Kd.R_lower hr hB0)⟩)
    clear hcall hf hY hJ hSkip
    gi_wp2_with (refine ⟨trivial, (fun h => (by cases h)), ?_⟩; gi_at_call 125; refine (callsIn_wide.2 hcall0).mono ?_; clear hcall0; rintro e W2 ⟨hb, v, rfl, fn, tmps, assign, body, hy, hR⟩)
    refine ⟨(fun h => (by cases h)), ?_⟩
    refine hR.mono ?_
    clear hy hR
    rintro e W3 (⟨rfl, hJ3⟩ | ⟨rfl, hJx3⟩)
    ·gi_wp2
     go_roundw
     case rel => exact ⟨c + 1, by go_num, by omega, by omega, hJ3⟩
     case measure => simp [intOf]; omega
    ·gi_wp2
     refine bodyPost_ret (results_none rfl _ _ _) rfl ?_
     exact ⟨⟨_, rfl⟩, .inr hJx3⟩
  ·obtain rfl : c = 1001 := by omega
   have HQ := Aside0.mk hq
   clear hq
   gi_wp2
   go_end0
   exact ⟨⟨_, rfl⟩, .inl hJ⟩
def leftPost (B : Nat) (I : World → Prop) (Ix : Code → World → Prop) (W : World) : Exit → Act → World → Prop
 |.normal, _, W' => KeepsFrom B W W' ∧ I W'
 |.ret, _, W' => KeepsFrom B W W' ∧ Ix .ret W'
 |.exit id, _, W' => KeepsFrom B W W' ∧ Ix (.exit id) W'
 |.goto t, _, W' => KeepsFrom B W W' ∧ Ix (.goto t) W'
 |.panic _, _, _ => False
 |.outgrown, _, _ => False
theorem R_putLoop {α : Type} {d : Kd α} {e : Nat} {W : World} {base : Nat} {ok : Nat → Prop} {v : Value} {xs : List α} {l : Nat} {r : Obj} (h : d.R e W base ok v xs) (hl : W.heap[l]? = some r) (hr : r.isCells = false) (o : Obj) : d.R e (W.putObj l o) base ok v xs :=
 Kd.R_mono (Kd.R_move (Kd.R_bound h) (fun k hk => by
  obtain ⟨_, _, _, q, _, cells, hc⟩ := hk
  refine World.putObj_heap_other ?_
  rintro rfl
  rw [hl] at hc
  cases hc
  cases hr)) (fun _ hk => hk.1)
set_option maxHeartbeats 4000000 in
theorem wpIn_rangeLeft {n : Nat} {g : Operand} {ps : Array Tmp} {assign body : Code} {Q : Exit → Act → World → Prop} {a : Act} {w : World}
  (bx qb B0 : Nat) {D S : Int} {A1 : Option Addr} {c1 : Nat} {l1 : List S61} {A3 : Option Addr} {c3 : Nat} {l3 : List S59} {dss : List (List Int)}
  (hg : a.eval g = .func (.func 124) #[] #[.pointer (some ⟨bx, 0, none⟩)]) (hps : ps.size = 2)
  (hok : InqOk D S l1 l3 dss)
  (I : Int → World → Prop) (Ix : Code → World → Prop) (hI : OwnFrom w.heap.size I) (hIx : ∀ c : Code, OwnFrom w.heap.size (fun (_ : Unit) W => Ix c W))
  (hq : ∀ c W, I c W → B0 ≤ W.heap.size ∧ W.cell? ⟨bx, 0, none⟩ = some (.pointer (some ⟨qb, 0, none⟩)) ∧ Inq W qb D S A1 c1 l1 A3 c3 l3 dss)
  (hSkip : ∀ c W, 1 ≤ c → c ≤ 1000 → I c W → firstP D S c l1 l3 dss = none → I (c + 1) W)
  (h0 : I 1 w) (a₁ : Int → Value → Act)
  (hassign : ∀ (l : Nat) (c : Int) (v : Value) (W : World) (K : Act → World → Prop), K (a₁ c v) W →
   assign.wpIn (Fence.wide.inRound l) (n - 1 - 1) Tryz.prog (Exit.then K (fun _ _ _ => False)) { tmps := (ps.zip #[.int .i64 c, v]).foldl (fun t (p, v) => t.setIfInBounds p v) a.tmps, defers := [] } W)
  (hbody : ∀ (l : Nat) (c : Int) (ar : List Int) (v : Value) (W : World), w.heap.size ≤ l → 1 ≤ c → c ≤ 1000 → I c W → firstP D S c l1 l3 dss = some ar → Kd.R (Kd.int .i64) 3 W B0 (fun _ => True) v ar →
   body.wpIn (Fence.wide.inRound l) (n - 1 - 1) Tryz.prog (leftPost w.heap.size (I (c + 1)) Ix W) (a₁ c v) W)
  (hdone : ∀ (E : Nat) (W : World), w.heap.size ≤ E → I 1001 W → W.heap[E]? = some (.deferred (some [])) → Q .normal { a with defers := { target := .collected E, args := #[] } :: a.defers } W)
  (hstop : ∀ (E : Nat) (c : Code) (W : World), w.heap.size ≤ E → Ix c W → W.heap[E]? = some (.deferred (some [])) → c.wpIn Fence.wide n Tryz.prog Q { a with defers := { target := .collected E, args := #[] } :: a.defers } W) :
  (Code.rangeFunc g ps assign body).wpIn Fence.wide n Tryz.prog Q a w := by
 refine wpIn_rangeFunc ?_
 intro fn hfn
 rw [show Fence.wide.round = none from rfl]
 obtain ⟨rec, hrec⟩ : ∃ rec : LoopState → Option Code → Loop, rec = fun st pe => { state := st, pending := pe, fn, tmps := a.tmps, params := ps, assign, body, defers := w.heap.size } := ⟨_, rfl⟩
 obtain ⟨W1, hW1⟩ : ∃ W1, (w.alloc (.deferred (some []))).alloc (.loop (rec .ready none)) = W1 := ⟨_, rfl⟩
 have hL1 : W1.heap[w.heap.size + 1]? = some (.loop (rec .ready none)) := by
  rw [← hW1]; have := World.alloc_heap_new (w.alloc (.deferred (some []))) (.loop (rec .ready none)); rwa [World.size_alloc] at this
 have hK1 : W1.heap[w.heap.size]? = some (.deferred (some [])) := by
  rw [← hW1]; exact (Below.heap_alloc _ _ _ (by simp)).trans (World.alloc_heap_new w _)
 have hI1 : I 1 W1 := by rw [← hW1]; exact hI.alloc _ (hI.alloc _ h0)
 refine ⟨w.heap.size + 1, [{ target := .collected w.heap.size, args := #[] }], W1, { target := .fn (.func 124) #[.pointer (some ⟨bx, 0, none⟩)], args := #[.func (.yield (w.heap.size + 1)) #[] #[]] }, W1, 124,
  #[.func (.yield (w.heap.size + 1)) #[] #[]] ++ #[.pointer (some ⟨bx, 0, none⟩)], W1, ?_, ?_, ?_, ?_, (fun h => by cases h), ?_⟩
 ·rw [← hW1, hrec]; exact run_enterLoop_outer _ _ _ _ _
 ·simp only [resolve, hg]
  simp [go_sem]
 ·intro f' hf'; trivial
 ·have eg := enters_of Tryz.func124 (P := Tryz.prog) (by kernel_rfl) rfl
  simp [invoke, go_sem, eg]
 ·refine (left1_in (n - 1) (w.heap.size + 1) bx qb B0 D S A1 c1 l1 A3 c3 l3 dss hok
   (fun c W => I c W ∧ W.heap[w.heap.size + 1]? = some (.loop (rec .ready none)) ∧ W.heap[w.heap.size]? = some (.deferred (some [])))
   (fun W => ∃ c, Ix c W ∧ W.heap[w.heap.size + 1]? = some (.loop (rec .done (some c))) ∧ W.heap[w.heap.size]? = some (.deferred (some [])))
   (fun c A B hs hg' => ⟨hI c A B none hs.1 hg' (fun r e => by cases e), (hg'.block _ (Array.getElem?_eq_some_iff.1 hs.2.1).1 (by simp)).trans hs.2.1, (hg'.block _ (Array.getElem?_eq_some_iff.1 hs.2.2).1 (by simp)).trans hs.2.2⟩)
   (fun c W hs => hq c W hs.1) (fun c W g1 g2 hs hn => ⟨hSkip c W g1 g2 hs.1 hn, hs.2⟩) ?_ W1 ⟨hI1, hL1, hK1⟩).mono ?_
  ·rintro c ar v W g1 g2 ⟨hi, hl, hk⟩ hf hr
   have hlt : w.heap.size + 1 < W.heap.size := (Array.getElem?_eq_some_iff.1 hl).1
   have hy := run_yield (P := Tryz.prog) (args := #[.int .i64 c, v]) hl (by rw [hrec]; exact hps.symm)
   rw [hrec] at hy
   refine ⟨fn, _, assign, body, hy, roundIn_of_wpIn hfn (hassign _ c v W _ ?_)⟩
   refine ⟨_, run_beginRound hl (by rw [hrec]), ?_⟩
   have hl2 : (W.putObj (w.heap.size + 1) (.loop { rec .ready none with state := .busy })).heap[w.heap.size + 1]? = some (.loop { rec .ready none with state := .busy }) := World.putObj_heap_same hlt
   have hk2 : (W.putObj (w.heap.size + 1) (.loop { rec .ready none with state := .busy })).heap[w.heap.size]? = some (.deferred (some [])) := (World.putObj_heap_other (by omega)).trans hk
   refine wpIn_mono (hbody _ c ar v _ (by omega) g1 g2 (hI.putObj _ hi (by omega) hl rfl) hf (R_putLoop hr hl rfl _)) ?_
   have fin : ∀ (jump : Option Code) (W3 : World), KeepsFrom w.heap.size (W.putObj (w.heap.size + 1) (.loop { rec .ready none with state := .busy })) W3 →
     (Instr.endRound (w.heap.size + 1) jump).run Tryz.prog W3 = .ok (.bool jump.isNone) (W3.putObj (w.heap.size + 1) (.loop (rec (if jump.isNone then .ready else .done) jump))) ∧
     W3.heap[w.heap.size + 1]? = some (.loop { rec .ready none with state := .busy }) ∧
     (W3.putObj (w.heap.size + 1) (.loop (rec (if jump.isNone then .ready else .done) jump))).heap[w.heap.size + 1]? = some (.loop (rec (if jump.isNone then .ready else .done) jump)) ∧
     (W3.putObj (w.heap.size + 1) (.loop (rec (if jump.isNone then .ready else .done) jump))).heap[w.heap.size]? = some (.deferred (some [])) := fun jump W3 hk3 => by
    have hl3 := hk3.same _ _ (by omega) hl2 rfl
    have := run_endRound (P := Tryz.prog) jump hl3
    rw [hrec] at this ⊢
    exact ⟨this, by rw [hrec] at hl3; exact hl3, World.putObj_heap_same (Array.getElem?_eq_some_iff.1 hl3).1, (World.putObj_heap_other (by omega)).trans (hk3.same _ _ (Nat.le_refl _) hk2 rfl)⟩
   rintro e a3 W3 hp
   cases e with
   |normal =>
    obtain ⟨hk3, hi3⟩ := hp
    obtain ⟨hr, hl3, hl4, hk4⟩ := fin none W3 hk3
    exact ⟨_, _, hr, .inl ⟨rfl, hI.putObj _ hi3 (by omega) hl3 rfl, hl4, hk4⟩⟩
   |ret =>
    obtain ⟨hk3, hi3⟩ := hp
    obtain ⟨hr, hl3, hl4, hk4⟩ := fin (some .ret) W3 hk3
    exact ⟨_, _, hr, .inr ⟨rfl, .ret, (hIx _).putObj (s := ()) _ hi3 (by omega) hl3 rfl, hl4, hk4⟩⟩
   |exit id =>
    obtain ⟨hk3, hi3⟩ := hp
    obtain ⟨hr, hl3, hl4, hk4⟩ := fin (some (.exit id)) W3 hk3
    exact ⟨_, _, hr, .inr ⟨rfl, .exit id, (hIx _).putObj (s := ()) _ hi3 (by omega) hl3 rfl, hl4, hk4⟩⟩
   |goto t =>
    obtain ⟨hk3, hi3⟩ := hp
    obtain ⟨hr, hl3, hl4, hk4⟩ := fin (some (.goto t)) W3 hk3
    exact ⟨_, _, hr, .inr ⟨rfl, .goto t, (hIx _).putObj (s := ()) _ hi3 (by omega) hl3 rfl, hl4, hk4⟩⟩
   |panic ch => exact hp.elim
   |outgrown => exact hp.elim
  ·rintro e W2 ⟨⟨v, rfl⟩, (⟨hi, hl, hk⟩ | ⟨c, hi, hl, hk⟩)⟩
   ·exact ⟨none, _, by have := run_endLoop (P := Tryz.prog) hl (by rw [hrec]; simp); rw [hrec] at this; exact this, hdone _ _ (Nat.le_refl _) (hI.putObj _ hi (by omega) hl rfl) ((World.putObj_heap_other (by omega)).trans hk)⟩
   ·exact ⟨some c, _, by have := run_endLoop (P := Tryz.prog) hl (by rw [hrec]; simp); rw [hrec] at this; exact this, hstop _ c _ (Nat.le_refl _) ((hIx c).putObj (s := ()) _ hi (by omega) hl rfl) ((World.putObj_heap_other (by omega)).trans hk)⟩
end Go.Proofs.YtgakfgedaipdmaaGreatDoor.P
