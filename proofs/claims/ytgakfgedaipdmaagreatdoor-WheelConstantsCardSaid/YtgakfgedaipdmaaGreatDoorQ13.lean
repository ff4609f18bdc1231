/- A part of the proof. -/
import Derived.Test.YtgakfgedaipdmaaGreatDoorQ12
import Derived.Deep.RegionHeld3
namespace Go.Proofs.YtgakfgedaipdmaaGreatDoor.P
open Go.RowKit Go.Shelf Go.Proofs.YtgakfgedaipdmaaGreatDoorW.PrintWords Go.Proofs.YtgakfgedaipdmaaGreatDoorW.PrintLast Go.Proofs.YtgakfgedaipdmaaGreatDoorW.PrintMore
set_option linter.unusedVariables false
set_option linter.unusedSimpArgs false
attribute [local go_sem] Oper.semAt_some addr_add
def attainR (D S : Int) (l1 : List S61) (l2 : List S64) (l3 : List S59) (f a : Int) : Int × List Int × Bool × Int :=
 if askErr D S l1 l2 l3 [f] = 0 then
  match (leftTo D S l1 l3 (dists D l2 l3.length) 1000).find? (fun p => holdsR D S p.1 a l3 (dists D l2 l3.length) f.toNat) with
  |some p => (p.1, p.2.set f.toNat a, true, 0)
  |none => (0, [], false, 0)
 else (0, [], false, askErr D S l1 l2 l3 [f])
def wheel_Attain.f (D S : Int) (l1 : List S61) (l2 : List S64) (l3 : List S59) (f a : Int) : Option (Int × List Int × Bool × Int) := some (attainR D S l1 l2 l3 f a)
theorem firstP_len {D S c : Int} {l1 : List S61} {l3 : List S59} {dss : List (List Int)} {a : List Int} (h : firstP D S c l1 l3 dss = some a) : a.length = l3.length := by
 unfold firstP at h
 split at h
 ·cases h; simp
 ·cases h
theorem alloc8 (w : World) (o0 o1 o2 o3 o4 o5 o6 o7 : Obj) :
  ((((((((w.alloc o0).alloc o1).alloc o2).alloc o3).alloc o4).alloc o5).alloc o6).alloc o7).heap[w.heap.size + 1]? = some o1 ∧
  ((((((((w.alloc o0).alloc o1).alloc o2).alloc o3).alloc o4).alloc o5).alloc o6).alloc o7).heap[w.heap.size + 1 + 1]? = some o2 ∧
  ((((((((w.alloc o0).alloc o1).alloc o2).alloc o3).alloc o4).alloc o5).alloc o6).alloc o7).heap[w.heap.size + 1 + 1 + 1]? = some o3 ∧
  ((((((((w.alloc o0).alloc o1).alloc o2).alloc o3).alloc o4).alloc o5).alloc o6).alloc o7).heap[w.heap.size + 1 + 1 + 1 + 1]? = some o4 ∧
  ((((((((w.alloc o0).alloc o1).alloc o2).alloc o3).alloc o4).alloc o5).alloc o6).alloc o7).heap[w.heap.size + 1 + 1 + 1 + 1 + 1]? = some o5 ∧
  ((((((((w.alloc o0).alloc o1).alloc o2).alloc o3).alloc o4).alloc o5).alloc o6).alloc o7).heap[w.heap.size + 1 + 1 + 1 + 1 + 1 + 1]? = some o6 := by
 obtain ⟨_, h1, h2, h3, h4⟩ := alloc5 w o0 o1 o2 o3 o4
 have h5 := blk_new (((((w.alloc o0).alloc o1).alloc o2).alloc o3).alloc o4) o5
 have h6 := blk_new ((((((w.alloc o0).alloc o1).alloc o2).alloc o3).alloc o4).alloc o5) o6
 simp only [World.size_alloc] at h5 h6
 have hb := fun (W : World) (o : Obj) => Below.alloc (Below.refl W.heap.size W) (Nat.le_refl _) o
 have st := fun {W : World} {k : Nat} {x : Obj} (o : Obj) (h : W.heap[k]? = some x) => blk_below h (hb W o)
 exact ⟨st _ (st _ (st _ h1)), st _ (st _ (st _ h2)), st _ (st _ (st _ h3)), st _ (st _ (st _ h4)), st _ (st _ h5), st _ h6⟩
theorem results29 {tmps : Array Value} {W : World} {b8 b9 b10 b11 : Nat} {v8 v9 v10 v11 : Value} (h8 : tmps[12]?.getD undef = .pointer (some ⟨b8, 0, none⟩)) (h9 : tmps[13]?.getD undef = .pointer (some ⟨b9, 0, none⟩)) (h10 : tmps[14]?.getD undef = .pointer (some ⟨b10, 0, none⟩)) (h11 : tmps[15]?.getD undef = .pointer (some ⟨b11, 0, none⟩))
  (x8 : Boxed W b8 3 v8) (x9 : Boxed W b9 36 v9) (x10 : Boxed W b10 4 v10) (x11 : Boxed W b11 28 v11) : (results Tryz.f29 tmps).run Tryz.prog W = .ok (.tuple #[v8, v9, v10, v11]) W := by
 have c8 := x8.cell
 have c9 := x9.cell
 have c10 := x10.cell
 have c11 := x11.cell
 simp [results, show Tryz.f29.results = #[ResultVar.cell 12 3, ResultVar.cell 13 36, ResultVar.cell 14 4, ResultVar.cell 15 28] from rfl, go_sem, h8, h9, h10, h11, c8, c9, c10, c11]
def AttIx (n : Nat) (r : Int × List Int × Bool × Int) (w : World) (code : Code) (W : World) : Prop :=
 code = .ret ∧ ∃ (c : Int) (a : List Int) (v : Value), r = (c, a, true, 0) ∧ Boxed W (n + 1) 3 (.int .i64 c) ∧ Boxed W (n + 1 + 1) 36 v ∧ Boxed W (n + 1 + 1 + 1) 4 (.bool true) ∧ Boxed W (n + 1 + 1 + 1 + 1) 28 (.int .i64 0) ∧ Kd.R (Kd.int .i64) 3 W w.heap.size (fun _ => True) v a ∧ Below w.heap.size w W
theorem AttIx.own (n : Nat) (r : Int × List Int × Bool × Int) (w : World) (code : Code) (B : Nat) (hB : w.heap.size ≤ B) : OwnFrom B (fun (_ : Unit) W => AttIx n r w code W) := by
 refine OwnFrom.and (ownFrom_pure B (fun _ => code = .ret)) (own_ex fun c => own_ex fun a => own_ex fun v => ?_)
 refine OwnFrom.and (ownFrom_pure B (fun _ => _)) ?_
 exact OwnFrom.and ((boxed_own _ _ (fun _ => _)).from B) (OwnFrom.and ((boxed_own _ _ (fun _ => _)).from B) (OwnFrom.and ((boxed_own _ _ (fun _ => _)).from B) (OwnFrom.and ((boxed_own _ _ (fun _ => _)).from B) (OwnFrom.and (R_ownFrom _ _ _ _ _ _ _) (ownFrom_below (Nat.le_refl _) hB)))))
set_option maxHeartbeats 8000000 in
set_option maxRecDepth 100000 in
theorem wheel_Attain.calls (D S : Int) (A1 : Option Addr) (c1 : Nat) (l1 : List S61) (A2 : Option Addr) (c2 : Nat) (l2 : List S64) (A3 : Option Addr) (c3 : Nat) (l3 : List S59) (f a : Int) (r0 : Int) (r1 : List Int) (r2 : Bool) (r3 : Int) (w : World) (hr1 : Kd.C k61 w A1 l1.length l1) (hc1 : l1.length ≤ c1) (hr2 : Kd.C k64 w A2 l2.length l2) (hc2 : l2.length ≤ c2) (hr3 : Kd.C k59 w A3 l3.length l3) (hc3 : l3.length ≤ c3) (h : wheel_Attain.f D S l1 l2 l3 f a = some (r0, r1, r2, r3)) :
  Calls Tryz.prog 29 #[.agg #[.int .i64 D, .int .i64 S], .slice A1 l1.length c1, .slice A2 l2.length c2, .slice A3 l3.length c3, .int .i64 f, .int .i64 a] w fun e w' => ∃ v1_ : Value, e = .returned (.tuple #[.int .i64 r0, v1_, .bool r2, .int .i64 r3]) ∧ Kd.R (Kd.int .i64) 3 w' w.heap.size (fun _ => True) v1_ r1 ∧ Below w.heap.size w w' := by
 refine (callsIn_wide (n := 5)).1 ?_
 refine callsIn_of_wp_marks Tryz.func29 rfl trivial ?_ rfl
 simp only [Tryz.ntmps29, List.size_toArray, List.length_cons, List.length_nil, Nat.reduceAdd, Nat.reduceSub, Array.replicate_succ, Array.replicate_zero, List.push_toArray, List.append_toArray, List.nil_append, List.cons_append]
 by_cases he : askErr D S l1 l2 l3 [f] = 0
 ·obtain ⟨hop0, hfo⟩ := askErr_zero he
  obtain ⟨i, rfl, hi⟩ := fieldOk_nat (hfo f List.mem_cons_self)
  have hop := fun W hB A4 c4 hr4 => asked_ok hr1 hc1 hr2 hc2 hr3 hc3 (fs := [(i : Int)]) (by simp) he W hB A4 c4 hr4
  obtain ⟨g, hg⟩ : ∃ g : Int → Bool, g = fun c => holdsR D S c a l3 (dists D l2 l3.length) i := ⟨_, rfl⟩
  have H := Aside0.mk (show (match (leftTo D S l1 l3 (dists D l2 l3.length) 1000).find? (fun p => g p.1) with
    |some p => (p.1, p.2.set i a, true, 0)
    |none => (0, [], false, 0)) = (r0, r1, r2, r3) by
   have h2 := Option.some.inj h
   unfold attainR at h2
   rw [if_pos he, Int.toNat_natCast] at h2
   rw [hg]
   exact h2)
  have hfa := fun (c : Int) (hc : cOk c) (qb : Nat) (W : World) hq => holds_any D S c a i A1 c1 l1 A3 c3 l3 (dists D l2 l3.length) qb W (inqOk_of hop0) hc hi hq
  have hge : ∀ c, holdsR D S c a l3 (dists D l2 l3.length) i = g c := fun c => by rw [hg]
  simp only [hge] at hfa
  have HFA := Aside0.mk hfa
  have HOK := Aside0.mk (inqOk_of hop0)
  have hi8 := HOK.out.n3.2
  have HI0 := Aside0.mk hi
  clear h hr1 hr2 hr3 hc1 hc2 hc3 he hop0 hfo hg hge hfa
  gi_wp2_with (first | (refine ⟨trivial, ?_⟩; gi_at_call 77; refine (callsIn_wide.2 (hop _ (by repeat (first | exact Below.refl _ _ | apply below_alloc)) (some ⟨w.heap.size + 1 + 1 + 1 + 1 + 1 + 1 + 1, 0, none⟩) 1 (by have := reads_int_one (((((((w.alloc (.cells #[.int .i64 D, .int .i64 S] 23)).alloc (.cells #[.int .i64 (i : Int)] 3)).alloc (.cells #[.int .i64 a] 3)).alloc (.cells #[.int .i64 0] 3)).alloc (.cells #[.slice none 0 0] 36)).alloc (.cells #[.bool false] 4)).alloc (.cells #[.int .i64 0] 28)) (i : Int); simp only [World.size_alloc] at this; exact this))).mono ?_; clear hop; rintro e W2 ⟨hb, hbw, qb, hqb, rfl, hq⟩; have hx := alloc8 w (.cells #[.int .i64 D, .int .i64 S] 23) (.cells #[.int .i64 (i : Int)] 3) (.cells #[.int .i64 a] 3) (.cells #[.int .i64 0] 3) (.cells #[.slice none 0 0] 36) (.cells #[.bool false] 4) (.cells #[.int .i64 0] 28) (.cells #[.int .i64 (i : Int)] 3); have X1 := Aside0.mk (blk_below hx.1 hb); have X2 := Aside0.mk (blk_below hx.2.1 hb); have X8 := Aside0.mk (blk_below hx.2.2.1 hb); have X9 := Aside0.mk (blk_below hx.2.2.2.1 hb); have X10 := Aside0.mk (blk_below hx.2.2.2.2.1 hb); have X11 := Aside0.mk (blk_below hx.2.2.2.2.2 hb); have HB2 := Aside0.mk hbw; have HQ := Aside0.mk hq; clear hx hb hbw hqb hq) | (refine ⟨trivial, ?_⟩; gi_at_call 73; refine (left_in 4 qb _).mono ?_; rintro e W3 ⟨rfl, rfl⟩))
  obtain ⟨hs3, hxq, hbx, hB3⟩ := alloc2 W2 (.cells #[.pointer (some ⟨qb, 0, none⟩)] 102) (.cells #[.pointer (some ⟨qb, 0, none⟩)] 102)
  obtain ⟨W3, hW3⟩ : ∃ W3, (W2.alloc (.cells #[.pointer (some ⟨qb, 0, none⟩)] 102)).alloc (.cells #[.pointer (some ⟨qb, 0, none⟩)] 102) = W3 := ⟨_, rfl⟩
  obtain ⟨bq, hbq⟩ : ∃ bq, W2.heap.size = bq := ⟨_, rfl⟩
  obtain ⟨n, hn⟩ : ∃ n, w.heap.size + 1 + 1 = n := ⟨_, rfl⟩
  have hbc := Boxed.cell (boxed_of_blk hbx)
  rw [hW3] at hs3 hxq hB3 hbc ⊢
  have X1a : Boxed W3 (w.heap.size + 1) 3 (.int .i64 (i : Int)) := blk_below X1.out hB3
  have X2a : Boxed W3 (w.heap.size + 1 + 1) 3 (.int .i64 a) := blk_below X2.out hB3
  have X8a : Boxed W3 (w.heap.size + 1 + 1 + 1) 3 (.int .i64 0) := blk_below X8.out hB3
  have X9a : Boxed W3 (w.heap.size + 1 + 1 + 1 + 1) 36 (.slice none 0 0) := blk_below X9.out hB3
  have X10a : Boxed W3 (w.heap.size + 1 + 1 + 1 + 1 + 1) 4 (.bool false) := blk_below X10.out hB3
  have X11a : Boxed W3 (w.heap.size + 1 + 1 + 1 + 1 + 1 + 1) 28 (.int .i64 0) := blk_below X11.out hB3
  have hb3 := HB2.out.trans (hB3.mono HB2.out.size)
  have HIa := Aside0.mk (HQ.out.below hB3)
  rw [hbq] at hs3 hxq hbc ⊢
  have hwn : w.heap.size + 2 = n := hn
  have hlt11 : n + 5 ≤ W3.heap.size := by have := X11a.lt; omega
  rw [hn] at X2a X8a X9a X10a X11a ⊢
  have HB3 := Aside0.mk hb3
  have HXQ := Aside0.mk (show Boxed W3 bq 102 (.pointer (some ⟨qb, 0, none⟩)) from hxq)
  have HX1 := Aside0.mk X1a
  have HX2 := Aside0.mk X2a
  have Y8 := Aside0.mk X8a
  have Y9 := Aside0.mk X9a
  have Y10 := Aside0.mk X10a
  have Y11 := Aside0.mk X11a
  have HN := Aside0.mk hwn
  have HLT := Aside0.mk hlt11
  have HBC := Aside0.mk hbc
  clear hW3 hbx hbq hB3 hxq X1a X2a X8a X9a X10a X11a X1 X2 X8 X9 X10 X11 HQ HB2 hb3 hn hwn hlt11 hs3 hbc
  refine wpIn_rangeLeft (bq + 1) qb W3.heap.size (D := D) (S := S) (A1 := A1) (c1 := c1) (l1 := l1) (A3 := A3) (c3 := c3) (l3 := l3) (dss := dists D l2 l3.length) rfl rfl HOK.out
   (fun c W => Below W3.heap.size W3 W ∧ (leftTo D S l1 l3 (dists D l2 l3.length) (c.toNat - 1)).find? (fun p => g p.1) = none) (AttIx n (r0, r1, r2, r3) w)
   (OwnFrom.and (ownFrom_below (Nat.le_refl _) (Nat.le_refl _)) (ownFrom_pure _ _)) (fun c => AttIx.own _ _ _ _ _ HB3.out.size)
   (fun c W h => ⟨h.1.size, (pw_cell_below h.1 HBC.out), HIa.out.below h.1⟩)
   (fun c W g1 g2 h hn => ⟨h.1, by rw [leftTo_skip g1 hn]; exact h.2⟩)
   ⟨Below.refl _ _, rfl⟩ ?a1 ?assign ?body ?done ?stop
  case assign =>
   intro l c v W K hK
   gi_wp2
   exact hK
  case body =>
   rintro l c ar v W hl g1 g2 ⟨hB, hn0⟩ hf hr
   have hcall := HFA.out c ⟨g1, g2⟩ qb W (HIa.out.below hB)
   have x1 := Boxed.below HX1.out hB
   have x2 := Boxed.below HX2.out hB
   have xq := Boxed.below HXQ.out hB
   have hc1 := And.intro x1.cell x1.frozen
   have hc2 := And.intro x2.cell x2.frozen
   have hcq := And.intro xq.cell xq.frozen
   have Z1 := Aside0.mk x1
   have Z2 := Aside0.mk x2
   have hal := firstP_len hf
   have hp : 0 < ar.length := by have := HI0.out; omega
   obtain ⟨gb, cap, rfl, hgb, _⟩ := Kd.R_form hr hp
   have HF := Aside0.mk hf
   have HNN := Aside0.mk hn0
   have HRr := Aside0.mk hr
   have HBB := Aside0.mk hB
   have HAL := Aside0.mk hal
   have HGB := Aside0.mk hgb
   have hia : (i : Int) < (ar.length : Int) := by have := HI0.out; omega
   obtain ⟨gv, hgv⟩ : ∃ gv, g c = gv := ⟨_, rfl⟩
   rw [hgv] at hcall
   have HGV := Aside0.mk hgv
   clear hf hn0 hr hB x1 x2 xq hal hp hgb hgv
   cases gv with
   |false =>
    gi_wp2_with (refine ⟨trivial, ?_⟩; gi_at_call 71; refine (CallsIn.inRound l (callsIn_wide.2 hcall)).mono ?_; clear hcall; rintro e W4 ⟨rfl, hb⟩; have HBb := Aside0.mk hb; clear hb)
    refine ⟨(keeps_of_below HBb.out).from _, HBB.out.trans (HBb.out.mono HBB.out.size), ?_⟩
    rw [leftTo_step g1 HF.out, List.find?_append, HNN.out]
    simp [HGV.out]
   |true =>
    gi_wp2_with (refine ⟨trivial, ?_⟩; gi_at_call 71; refine (CallsIn.inRound l (callsIn_wide.2 hcall)).mono ?_; clear hcall; rintro e W4 ⟨rfl, hb⟩; have HBb := Aside0.mk hb; have y1 := Boxed.below Z1.out hb; have y2 := Boxed.below Z2.out hb; have hd1 := And.intro y1.cell y1.frozen; have hd2 := And.intro y2.cell y2.frozen; have hr4 := Kd.R_below HRr.out hb; have hcell := Kd.R_celln 0 hr4 (i : Int) (by omega) hia; simp only [Int.toNat_natCast] at hcell; have HR4 := Aside0.mk hr4; have y8 := Boxed.below (Boxed.below Y8.out HBB.out) hb; have y9 := Boxed.below (Boxed.below Y9.out HBB.out) hb; have y10 := Boxed.below (Boxed.below Y10.out HBB.out) hb; have y11 := Boxed.below (Boxed.below Y11.out HBB.out) hb; have Z8 := Aside0.mk y8; have Z9 := Aside0.mk y9; have Z10 := Aside0.mk y10; have Z11 := Aside0.mk y11; have hd8 := And.intro y8.cell y8.frozen; have hd9 := And.intro y9.cell y9.frozen; have hd10 := And.intro y10.cell y10.frozen; have hd11 := And.intro y11.cell y11.frozen; have hn8 : gb ≠ n + 1 := (by have := HGB.out; have := HLT.out; omega); have hn9 : gb ≠ n + 1 + 1 := (by have := HGB.out; have := HLT.out; omega); have hn10 : gb ≠ n + 1 + 1 + 1 := (by have := HGB.out; have := HLT.out; omega); have hn11 : gb ≠ n + 1 + 1 + 1 + 1 := (by have := HGB.out; have := HLT.out; omega); have hm8 := hn8.symm; have hm9 := hn9.symm; have hm10 := hn10.symm; have hm11 := hn11.symm; clear y1 y2 y8 y9 y10 y11 hr4 hb)
    have hput := Kd.R_putg HR4.out (i : Int) a
    simp only [Int.toNat_natCast] at hput
    have hgl := HGB.out
    have hll := HLT.out
    have k8 := Z8.out.kept hput.2 (fun e => by have := Option.some.inj e; omega)
    have k9 := Z9.out.kept hput.2 (fun e => by have := Option.some.inj e; omega)
    have k10 := Z10.out.kept hput.2 (fun e => by have := Option.some.inj e; omega)
    have k11 := Z11.out.kept hput.2 (fun e => by have := Option.some.inj e; omega)
    obtain ⟨q8, q9, q10, q11, hbb, hko⟩ := set4 k8 k9 k10 k11 (.int .i64 c) (.slice (some ⟨gb, 0, none⟩) ar.length cap) (.bool true) (.int .i64 0)
    have hfind : (leftTo D S l1 l3 (dists D l2 l3.length) 1000).find? (fun p => g p.1) = some (c, ar) := by
     obtain ⟨r, hr⟩ := leftTo_pre D S l1 l3 (dists D l2 l3.length) (show (c + 1).toNat - 1 ≤ 1000 by omega)
     rw [hr, leftTo_step g1 HF.out, List.find?_append, List.find?_append, HNN.out]
     simp [HGV.out]
    have e1 := H.out
    rw [hfind] at e1
    have hb3s := HB3.out.size
    have hbbs := HBB.out.size
    have hbs := HBb.out.size
    have hnw := HN.out
    have hbw1 := below_weaken (below_weaken HB3.out hb3s HBB.out) (by omega) HBb.out
    have hbw2 := (hbw1.grown hput.2 (by omega) (fun k e => by have := Option.some.inj e; omega)).trans (hbb.mono (by omega))
    exact ⟨(((keeps_of_below HBb.out).trans (keeps_of_row HR4.out hput.2)).trans hko).from _, rfl, c, ar.set i a, _, e1.symm, q8, q9, q10, q11, Kd.R_lower (R_set4 hput.1 hll _ _ _ _) hb3s, hbw2⟩
  case done =>
   rintro E W hE ⟨hB, hn0⟩ hK
   have z8 := Boxed.below Y8.out hB
   have z9 := Boxed.below Y9.out hB
   have z10 := Boxed.below Y10.out hB
   have z11 := Boxed.below Y11.out hB
   have x8 := And.intro z8.cell z8.frozen
   have x9 := And.intro z9.cell z9.frozen
   have x10 := And.intro z10.cell z10.frozen
   have x11 := And.intro z11.cell z11.frozen
   have Z8 := Aside0.mk z8
   have Z9 := Aside0.mk z9
   have Z10 := Aside0.mk z10
   have Z11 := Aside0.mk z11
   have HNN := Aside0.mk hn0
   have HBB := Aside0.mk hB
   have HKK := Aside0.mk hK
   clear z8 z9 z10 z11 hn0 hB hK
   gi_wp2
   obtain ⟨y8, y9, y10, y11, hbb, hko⟩ := set4 Z8.out Z9.out Z10.out Z11.out (.int .i64 0) (.slice none 0 0) (.bool false) (.int .i64 0)
   have hK2 := hko.same E _ HKK.out rfl
   have h := H.out
   rw [show (leftTo D S l1 l3 (dists D l2 l3.length) 1000).find? (fun p => g p.1) = none from HNN.out] at h
   simp only [Prod.mk.injEq] at h
   obtain ⟨rfl, rfl, rfl, rfl⟩ := h
   have hnw := HN.out
   have hbw := (below_weaken HB3.out HB3.out.size HBB.out).trans (hbb.mono (by omega))
   exact ⟨by simp, .inl ⟨_, _, rfl, run_takeDeferred hK2, _, results29 rfl rfl rfl rfl (Boxed.putDef y8 hK2 _) (Boxed.putDef y9 hK2 _) (Boxed.putDef y10 hK2 _) (Boxed.putDef y11 hK2 _), _, rfl, Kd.R_nil _ _ _ _ _, below_putDef hbw hbw.size (Nat.le_trans HB3.out.size hE) _⟩⟩
  case stop =>
   rintro E c W hE ⟨rfl, c, a, v, h1, h2, h3, h4, h5, h6, h7⟩ hK
   gi_wp2
   simp only [Prod.mk.injEq] at h1
   obtain ⟨rfl, rfl, rfl, rfl⟩ := h1
   exact ⟨by simp, .inl ⟨_, _, rfl, run_takeDeferred hK, _, results29 rfl rfl rfl rfl (Boxed.putDef h2 hK _) (Boxed.putDef h3 hK _) (Boxed.putDef h4 hK _) (Boxed.putDef h5 hK _), _, rfl, R_putLoop h6 hK rfl _, below_putDef h7 h7.size (Nat.le_trans HB3.out.size hE) _⟩⟩
 ·have hop := fun W hB A4 c4 hr4 => asked_err hr1 hc1 hr2 hc2 hr3 hc3 (fs := [f]) (by simp) he W hB A4 c4 hr4
  unfold wheel_Attain.f attainR at h
  rw [if_neg he] at h
  simp only [Option.some.injEq, Prod.mk.injEq] at h
  obtain ⟨rfl, rfl, rfl, hr3⟩ := h
  rw [hr3] at hop he
  clear hr3 hr1 hr2 hc1 hc2 hc3
  gi_wp2_with (refine ⟨trivial, ?_⟩; gi_at_call 77; refine (callsIn_wide.2 (hop _ (by repeat (first | exact Below.refl _ _ | apply below_alloc)) (some ⟨w.heap.size + 1 + 1 + 1 + 1 + 1 + 1 + 1, 0, none⟩) 1 (by have := reads_int_one (((((((w.alloc (.cells #[.int .i64 D, .int .i64 S] 23)).alloc (.cells #[.int .i64 f] 3)).alloc (.cells #[.int .i64 a] 3)).alloc (.cells #[.int .i64 0] 3)).alloc (.cells #[.slice none 0 0] 36)).alloc (.cells #[.bool false] 4)).alloc (.cells #[.int .i64 0] 28)) f; simp only [World.size_alloc] at this; exact this))).mono ?_; clear hop; rintro e W2 ⟨rfl, hb, hbw⟩; have hx := alloc8 w (.cells #[.int .i64 D, .int .i64 S] 23) (.cells #[.int .i64 f] 3) (.cells #[.int .i64 a] 3) (.cells #[.int .i64 0] 3) (.cells #[.slice none 0 0] 36) (.cells #[.bool false] 4) (.cells #[.int .i64 0] 28) (.cells #[.int .i64 f] 3); have y8 : Boxed _ _ _ _ := blk_below hx.2.2.1 hb; have y9 : Boxed _ _ _ _ := blk_below hx.2.2.2.1 hb; have y10 : Boxed _ _ _ _ := blk_below hx.2.2.2.2.1 hb; have y11 : Boxed _ _ _ _ := blk_below hx.2.2.2.2.2 hb; have hlt := y11.lt; have x8 := Boxed.alloc y8 (.cells #[.pointer none] 102); have x9 := Boxed.alloc y9 (.cells #[.pointer none] 102); have x10 := Boxed.alloc y10 (.cells #[.pointer none] 102); have x11 := Boxed.alloc y11 (.cells #[.pointer none] 102); have X8 := Aside0.mk x8; have X9 := Aside0.mk x9; have X10 := Aside0.mk x10; have X11 := Aside0.mk x11; have HB2 := Aside0.mk hbw; have hc8 := And.intro x8.cell x8.frozen; have hc9 := And.intro x9.cell x9.frozen; have hc10 := And.intro x10.cell x10.frozen; have hc11 := And.intro x11.cell x11.frozen; clear hx hb hbw x8 x9 x10 x11 y8 y9 y10 y11)
  obtain ⟨q8, q9, q10, q11, hbb, _⟩ := set4 (n := w.heap.size + 1 + 1) X8.out X9.out X10.out X11.out (.int .i64 0) (.slice none 0 0) (.bool false) (.int .i64 r3)
  exact ⟨_, results29 rfl rfl rfl rfl q8 q9 q10 q11, _, rfl, Kd.R_nil _ _ _ _ _, (HB2.out.alloc HB2.out.size _).trans (hbb.mono (by omega))⟩
end Go.Proofs.YtgakfgedaipdmaaGreatDoor.P
namespace Go.Proofs.YtgakfgedaipdmaaGreatDoor.P
open Go.RowKit Go.Proofs.YtgakfgedaipdmaaGreatDoorW.PrintWords Go.Proofs.YtgakfgedaipdmaaGreatDoorW.PrintLast Go.Proofs.YtgakfgedaipdmaaGreatDoorW.PrintMore
set_option linter.unusedVariables false
set_option linter.unusedSimpArgs false
def checkR (D S : Int) (l1 : List S61) (l2 : List S64) (l3 : List S59) (c : Int) (as_ : List Int) : Int :=
 if opErr D S l1 l2 l3 = 0 then
  if as_.length = l3.length then
   if decide (1 ≤ c) && decide (c ≤ 1000) then
    if l1.all (fitB D S c) && (List.range as_.length).all (fun i => holdsR D S c (as_.getD i 0) l3 (dists D l2 l3.length) i) then 0 else 52
   else 52
  else 1
 else opErr D S l1 l2 l3
def wheel_CheckCase.f (D S : Int) (l1 : List S61) (l2 : List S64) (l3 : List S59) (c : Int) (as_ : List Int) : Option Int := some (checkR D S l1 l2 l3 c as_)
set_option maxHeartbeats 8000000 in
set_option maxRecDepth 100000 in
theorem wheel_CheckCase.calls (D S : Int) (A1 : Option Addr) (c1 : Nat) (l1 : List S61) (A2 : Option Addr) (c2 : Nat) (l2 : List S64) (A3 : Option Addr) (c3 : Nat) (l3 : List S59) (c : Int) (A5 : Option Addr) (c5 : Nat) (as_ : List Int) (r : Int) (w : World) (hr1 : Kd.C k61 w A1 l1.length l1) (hc1 : l1.length ≤ c1) (hr2 : Kd.C k64 w A2 l2.length l2) (hc2 : l2.length ≤ c2) (hr3 : Kd.C k59 w A3 l3.length l3) (hc3 : l3.length ≤ c3) (hr5 : Kd.C (Kd.int .i64) w A5 as_.length as_) (hc5 : as_.length ≤ c5) (h : wheel_CheckCase.f D S l1 l2 l3 c as_ = some r) :
  Calls Tryz.prog 20 #[.agg #[.int .i64 D, .int .i64 S], .slice A1 l1.length c1, .slice A2 l2.length c2, .slice A3 l3.length c3, .int .i64 c, .slice A5 as_.length c5] w fun e w' => e = .returned (.int .i64 r) ∧ Below w.heap.size w w' := by
 have HB := Aside0.mk (Below.refl w.heap.size w)
 obtain rfl : checkR D S l1 l2 l3 c as_ = r := Option.some.inj h
 by_cases he : opErr D S l1 l2 l3 = 0
 ·have hop := fun W hB => opened_ok hr1 hc1 hr2 hc2 hr3 hc3 he W hB
  have hz := opErr_zero he
  have hl3 : l3.length ≤ 8 := hz.2.2.2.2.2.2.1
  have hl1 : l1.length ≤ 16 := hz.2.2.2.1
  have HE := Aside0.mk he
  have HOK := Aside0.mk (inqOk_of he)
  have HR5 := Aside0.mk hr5
  have HR1 := Aside0.mk hr1
  have hfr := fun W => (wheel_from.calls c 1 1000 _ W (wheel_from.eval c 1 1000)).mono (R' := fun e w' => e = .returned (.bool (decide (1 ≤ c) && decide (c ≤ 1000))) ∧ Below W.heap.size W w') (fun e w' h => ⟨h.1, h.2.below⟩)
  clear he hr1 hc1 hr2 hc2 hr3 hc3 hr5 hc5 h hz
  by_cases hlen : as_.length = l3.length
  ·obtain ⟨b, hb⟩ : ∃ b, (decide (1 ≤ c) && decide (c ≤ 1000)) = b := ⟨_, rfl⟩
   rw [hb] at hfr
   have HBC := Aside0.mk hb
   clear hb
   cases b with
   |false =>
    have hz : checkR D S l1 l2 l3 c as_ = 52 := by
     unfold checkR
     rw [if_pos HE.out, if_pos hlen, HBC.out]
     rfl
    rw [hz]
    have hlen2 : (as_.length : Int) = (l3.length : Int) := by rw [hlen]
    clear hz
    go_enter Tryz.func20, Tryz.ntmps20
    go_wp2_with (first | (go_at_call 68; refine Calls.mono (hop _ (by repeat (first | exact HB.out | apply below_alloc))) ?_; clear hop; rintro e W2 ⟨hb, hbw, qb, hqb, rfl, hq⟩; have HB2 := Aside0.mk hbw; clear hb hbw hqb hq) | (go_at_call 69; refine Calls.mono (hfr _) ?_; clear hfr; rintro e W3 ⟨rfl, hb⟩; have HB3 := Aside0.mk (below_weaken HB2.out HB2.out.size hb); clear hb))
    go_ret
    exact ⟨rfl, HB3.out⟩
   |true =>
    have hck : cOk c := by
     have := HBC.out
     simp only [Bool.and_eq_true, decide_eq_true_eq] at this
     exact this
    have HC := Aside0.mk hck
    have hlen2 : (as_.length : Int) = (l3.length : Int) := by rw [hlen]
    have HL := Aside0.mk hlen
    have h52 : ∀ b : Bool, (l1.all (fitB D S c) && (List.range as_.length).all (fun i => holdsR D S c (as_.getD i 0) l3 (dists D l2 l3.length) i)) = b → checkR D S l1 l2 l3 c as_ = if b then 0 else 52 := fun b hb => by
     unfold checkR
     rw [if_pos HE.out, if_pos HL.out, HBC.out, if_pos rfl, hb]
    have H52 := Aside0.mk h52
    generalize checkR D S l1 l2 l3 c as_ = rr at h52 H52 ⊢
    have hc1' := hck.1
    have hc2' := hck.2
    clear hck h52 hlen
    go_enter Tryz.func20, Tryz.ntmps20
    go_wp2_with (first | (go_at_call 68; refine Calls.mono (hop _ (by repeat (first | exact HB.out | apply below_alloc))) ?_; clear hop; rintro e W2 ⟨hb, hbw, qb, hqb, rfl, hq⟩; have HB2 := Aside0.mk hbw; have HQ := Aside0.mk hq; clear hb hbw hqb hq) | (go_at_call 69; refine Calls.mono (hfr _) ?_; clear hfr; rintro e W3 ⟨rfl, hb⟩; have HB3 := Aside0.mk hb; clear hb))
    have hu108 := Tryz.underlying108
    have hu111 := Tryz.underlying111
    go_loopw [40, 16] (fun v40 v16 W => ∃ k : Nat, v40 = .int .i64 k ∧ k ≤ l1.length ∧ Aside0 ((l1.take k).all (fitB D S c) = true) ∧ Aside0 (Below W2.heap.size W2 W)) (fun v40 _ _ => l1.length - (intOf v40).toNat)
    case atStart => exact ⟨0, rfl, Nat.zero_le _, ⟨by simp⟩, HB3⟩
    case round =>
     clear HB3
     obtain ⟨k, rfl, hk, HT, HW⟩ := hrel
     have HW2 := Aside0.mk (below_weaken HB2.out HB2.out.size HW.out)
     by_cases hlt : k < l1.length
     ·obtain ⟨ad, e0, hx0, hx1, hx2, hx3⟩ := at_T61 (Kd.C_below HR1.out HW2.out) (k : Int) (by omega) (by omega)
      cases e0
      simp only [Int.toNat_natCast] at hx0 hx1 hx2 hx3
      have hid : rd_T61 l1 (k : Int) = l1.getD k z61 := by unfold rd_T61; rw [Int.toNat_natCast]
      rw [hid] at hx0 hx1 hx2 hx3
      have hmem := mem_getD hlt z61
      have hs := take_succ_getD l1 k hlt z61
      generalize hx : l1.getD k z61 = x at hx0 hx1 hx2 hx3 hmem hs
      obtain ⟨kf, hf⟩ := (wheel_dial_fits.eval D S c x HOK.out.w HC.out (HOK.out.tr x hmem)).rounds
      have hcf := fun W => wheel_dial_fits.calls kf D S x.f0.f0 x.f0.f1 x.f1 x.f2 c (fitB D S c x) W hf
      have HMEM := Aside0.mk hmem
      have HS := Aside0.mk hs
      obtain ⟨⟨dA, dc, hqb, _, _⟩, _, _⟩ := HQ.out.below HW.out
      have hq0 : wr.cell? ⟨qb, 0, none⟩ = some (.int .i64 D) := (blk_cell hqb 0).trans rfl
      have hq1 : wr.cell? ⟨qb, 1, none⟩ = some (.int .i64 S) := (blk_cell hqb 1).trans rfl
      have hne := blk_ne_new hqb
      clear hid hf hx hmem hs hqb
      generalize hb : fitB D S c x = b at hcf
      go_wp2_with fail
      go_region_held3 (fun W => W.cell? ⟨qb, 0, none⟩ = some (.int .i64 D) ∧ W.cell? ⟨qb, 1, none⟩ = some (.int .i64 S) ∧ W.cell? ⟨wr.heap.size, 0, none⟩ = some (.int .i64 x.f0.f0) ∧ W.cell? ⟨wr.heap.size, 1, none⟩ = some (.int .i64 x.f0.f1) ∧ W.cell? ⟨wr.heap.size, 2, none⟩ = some (.int .i64 x.f1) ∧ W.cell? ⟨wr.heap.size, 3, none⟩ = some (.int .i64 x.f2)) (first | go_keep | (go_split_ands; (repeat' apply And.intro) <;> exact pw_cell_below hBt (by assumption)))
       (first | (go_at_call 70; refine (hcf _).mono ?_; rintro e W4 ⟨rfl, hBt⟩))
      rename_i hHeld
      have HW3 := Aside0.mk (below_weaken (below_drew1 (below_alloc HW.out _)) (by simp; have := HW.out.size; omega) hBt)
      clear hHeld hBt hcf hq0 hq1 hne hx0 hx1 hx2 hx3
      cases b with
      |false =>
       obtain rfl : rr = 52 := H52.out false (by
        rw [Bool.and_eq_false_iff]
        refine .inl ?_
        rw [List.all_eq_false]
        exact ⟨x, HMEM.out, by rw [hb]; simp⟩)
       clear hb
       go_wp2
       go_ret
       exact ⟨rfl, below_weaken HB2.out HB2.out.size HW3.out⟩
      |true =>
       have HT2 := Aside0.mk (show (l1.take (k + 1)).all (fitB D S c) = true by rw [HS.out, List.all_append, HT.out]; simp [hb])
       clear hb HT
       go_wp2
       go_roundw
       case rel => exact ⟨k + 1, by go_num, by omega, HT2, HW3⟩
       case measure => simp [intOf]; omega
     ·obtain rfl : k = l1.length := by omega
      have ht := HT.out
      rw [List.take_length] at ht
      have HT1 := Aside0.mk ht
      clear ht HT
      go_wp2
      go_loopw [55, 17, 18] (fun v55 v17 v18 W => ∃ k : Nat, v55 = .int .i64 k ∧ k ≤ as_.length ∧ Aside0 ((List.range k).all (fun i => holdsR D S c (as_.getD i 0) l3 (dists D l2 l3.length) i) = true) ∧ Aside0 (Below W2.heap.size W2 W)) (fun v55 _ _ _ => as_.length - (intOf v55).toNat)
      case atStart => exact ⟨0, rfl, Nat.zero_le _, ⟨by simp⟩, HW⟩
      case round =>
       clear HW HW2
       obtain ⟨k, rfl, hk, HT, HW⟩ := hrel
       have HW2 := Aside0.mk (below_weaken HB2.out HB2.out.size HW.out)
       by_cases hlt : k < as_.length
       ·obtain ⟨ad, e0, hx0⟩ := Kd.at_int (Kd.C_below HR5.out HW2.out) (k : Int) (by omega) (by omega)
        cases e0
        have hid : rd as_ (k : Int) = as_.getD k 0 := by unfold rd; rw [Int.toNat_natCast]
        rw [hid] at hx0
        simp only [Int.toNat_natCast] at hx0
        obtain ⟨x, hx⟩ : ∃ x, x = as_.getD k 0 := ⟨_, rfl⟩
        rw [← hx] at hx0
        have hcall := holds_any D S c x k A1 c1 l1 A3 c3 l3 (dists D l2 l3.length) qb wr HOK.out HC.out (by have := HL.out; omega) (HQ.out.below HW.out)
        obtain ⟨b, hb⟩ : ∃ b, holdsR D S c x l3 (dists D l2 l3.length) k = b := ⟨_, rfl⟩
        rw [hb] at hcall
        rw [hx] at hb
        have HBB := Aside0.mk hb
        clear hid hx hb
        cases b with
        |false =>
         obtain rfl : rr = 52 := H52.out false (by
          rw [Bool.and_eq_false_iff]
          refine .inr ?_
          rw [List.all_eq_false]
          exact ⟨k, List.mem_range.2 hlt, by rw [HBB.out]; simp⟩)
         go_wp2_with (go_at_call 71; refine Calls.mono hcall ?_; clear hcall; rintro e W4 ⟨rfl, hb⟩; have HW3 := Aside0.mk (HW.out.trans (hb.mono HW.out.size)); clear hb)
         go_ret
         exact ⟨rfl, below_weaken HB2.out HB2.out.size HW3.out⟩
        |true =>
         have HT2 := Aside0.mk (show (List.range (k + 1)).all (fun i => holdsR D S c (as_.getD i 0) l3 (dists D l2 l3.length) i) = true by rw [List.range_succ, List.all_append, HT.out]; simp [HBB.out, ← List.getD_eq_getElem?_getD])
         clear HT
         go_wp2_with (go_at_call 71; refine Calls.mono hcall ?_; clear hcall; rintro e W4 ⟨rfl, hb⟩; have HW3 := Aside0.mk (HW.out.trans (hb.mono HW.out.size)); clear hb)
         go_roundw
         case rel => exact ⟨k + 1, by go_num, by omega, HT2, HW3⟩
         case measure => simp [intOf]; omega
       ·obtain rfl : k = as_.length := by omega
        obtain rfl : rr = 0 := H52.out true (by rw [HT1.out, HT.out]; rfl)
        clear HT HT1
        go_wp2
        go_ret
        exact ⟨rfl, HW2.out⟩
  ·have hz : checkR D S l1 l2 l3 c as_ = 1 := by
    unfold checkR
    rw [if_pos HE.out, if_neg hlen]
   rw [hz]
   have hlen2 : ¬ (as_.length : Int) = (l3.length : Int) := by omega
   clear hz hlen
   go_enter Tryz.func20, Tryz.ntmps20
   go_wp2_with (go_at_call 68; refine Calls.mono (hop _ (by repeat (first | exact HB.out | apply below_alloc))) ?_; clear hop; rintro e W2 ⟨hb, hbw, qb, hqb, rfl, hq⟩; have HB2 := Aside0.mk hbw; clear hb hbw hqb hq)
   go_ret
   exact ⟨rfl, HB2.out⟩
 ·have hop := fun W hB => opened_err hr1 hc1 hr2 hc2 hr3 hc3 he W hB
  have hz : checkR D S l1 l2 l3 c as_ = opErr D S l1 l2 l3 := by unfold checkR; rw [if_neg he]
  rw [hz]
  generalize opErr D S l1 l2 l3 = er at hop he
  clear hr1 hc1 hr2 hc2 hr3 hc3 hr5 hc5 h hz
  go_enter Tryz.func20, Tryz.ntmps20
  go_wp2_with (go_at_call 68; refine Calls.mono (hop _ (by repeat (first | exact HB.out | apply below_alloc))) ?_; clear hop; rintro e W2 ⟨rfl, hb, hbw⟩; have HB2 := Aside0.mk hbw; clear hb hbw)
  go_ret
  exact ⟨rfl, HB2.out⟩
set_option maxRecDepth 100000
theorem two_boxes {w W : World} {t t' : TypeId} {l l' : Array Value} (hb : Below ((w.alloc (.cells l t)).alloc (.cells l' t')).heap.size ((w.alloc (.cells l t)).alloc (.cells l' t')) W) : W.heap[w.heap.size]? = some (.cells l t) ∧ W.heap[w.heap.size + 1]? = some (.cells l' t') := by
 have b1 := blk_below (blk_new (w.alloc (.cells l t)) (.cells l' t')) hb
 rw [show (w.alloc (.cells l t)).heap.size = w.heap.size + 1 by simp] at b1
 exact ⟨blk_below (blk_alloc (blk_new w (.cells l t)) (.cells l' t')) hb, b1⟩
theorem box_at {W : World} {g : Nat} {t : TypeId} {a b : Int} (h : W.heap[g]? = some (.cells #[.int .i64 a, .int .i64 b] t)) : W.cell? ⟨g, 0, none⟩ = some (.int .i64 a) ∧ W.cell? ⟨g, 1, none⟩ = some (.int .i64 b) := ⟨(blk_cell h 0).trans rfl, (blk_cell h 1).trans rfl⟩
set_option maxHeartbeats 8000000 in
theorem rolled_one (w : World) : Calls Tryz.prog 44 #[.agg #[.int .i64 100, .int .i64 2], .int .i64 95, .int .i64 10, .agg #[.int .i64 0, .int .i64 250]] w fun e w' => ∃ v0 : Value, e = .returned (.tuple #[v0, .int .i64 0]) ∧ Kd.R k59 59 w' w.heap.size (fun _ => True) v0 [⟨13, 17⟩, ⟨113, 117⟩, ⟨213, 217⟩] ∧ Below w.heap.size w w' := by
 have h38 := fun W => wheel_Check.calls 100 2 0 W (by rw [wheel_Check.eval]; rfl)
 have h97 := fun A c W hr hc => wheel_dial_place.calls 3 100 2 A c [95, 10] true W hr hc (by rw [wheel_dial_place.eval2 100 2 95 10 (by omega) (by omega)]; rfl)
 have h98 := fun W => wheel_span.calls 0 250 true W (by rw [wheel_span.eval]; rfl)
 have h100 := fun W => wheel_dial_distance.calls 100 2 95 10 15 W (by rw [wheel_dial_distance.eval 100 2 95 10 (by omega) (by omega) (by omega) (by omega) (by omega) (by omega)]; rfl)
 have h99 := fun A c W hr hc => wheel_dial_areas.calls 200 100 2 A c [15] 1 0 250 [⟨13, 17⟩, ⟨113, 117⟩, ⟨213, 217⟩] 0 W hr hc (by kernel_rfl)
 have HB := Aside0.mk (Below.refl w.heap.size w)
 go_enter Tryz.func44, Tryz.ntmps44
 go_wp2_with (first
  |(go_at_call 38; refine Calls.mono (h38 _) ?_; clear h38; rintro e W2 ⟨rfl, hb⟩; have HB2 := Aside0.mk (below_weaken (below_alloc (below_alloc HB.out _) _) (by simp; omega) hb); obtain ⟨x0, x1⟩ := box_at (two_boxes hb).1; have Y := Aside0.mk (two_boxes hb).2; clear hb)
  |(go_at_call 97; refine Calls.mono (h97 _ _ _ (by have h := reads_int_two (W2.alloc (.cells #[.int .i64 100, .int .i64 2] 108)) 95 10; simpa using h) (by decide)) ?_; clear h97; rintro e W3 ⟨rfl, hb⟩; have HB3 := Aside0.mk (below_weaken (below_alloc (below_alloc HB2.out _) _) (by simp; have := HB2.out.size; omega) hb); have Y3 := Aside0.mk (blk_below (blk_alloc (blk_alloc Y.out _) _) hb); have Z3 := Aside0.mk (two_boxes hb).1; obtain ⟨y0, y1⟩ := box_at Y3.out; clear hb Y)
  |(go_at_call 98; refine Calls.mono (h98 _) ?_; clear h98; rintro e W4 ⟨rfl, hb⟩; have HB4 := Aside0.mk (below_weaken HB3.out HB3.out.size hb); clear y0 y1; obtain ⟨y0, y1⟩ := box_at (blk_below Y3.out hb); obtain ⟨z0, z1⟩ := box_at (blk_below Z3.out hb); clear hb))
 clear x0 x1
 go_region_held3 (fun W => W.cell? ⟨W2.heap.size, 0, none⟩ = some (.int .i64 100) ∧ W.cell? ⟨W2.heap.size, 1, none⟩ = some (.int .i64 2) ∧ W.cell? ⟨w.heap.size + 1, 0, none⟩ = some (.int .i64 0) ∧ W.cell? ⟨w.heap.size + 1, 1, none⟩ = some (.int .i64 250)) (first | go_keep | (go_split_ands; (repeat' apply And.intro) <;> exact pw_cell_below hBt (by assumption)))
  (first
   |(go_at_call 100; refine (h100 _).mono ?_; rintro e W5 ⟨rfl, hBt⟩; have HB5 := Aside0.mk (below_weaken (below_drew1 HB4.out) (by simp; exact HB4.out.size) hBt))
   |(go_at_call 99; refine (h99 _ _ _ (by repeat (first | exact reads_int_one _ _ | apply Kd.C_drew)) (by decide)).mono ?_; rintro e W6 ⟨v0, rfl, hR0, hBt⟩))
 have HB6 := Aside0.mk (below_weaken (below_alloc HB5.out _) (by simp; have := HB5.out.size; omega) hBt)
 have R0 := Aside0.mk (Kd.R_lower hR0 (by simp; have := HB5.out.size; omega : w.heap.size ≤ _))
 clear hR0 hBt
 rename_i hHeld
 clear hHeld
 go_wp2
 go_ret2
 exact ⟨_, rfl, R0.out, HB6.out⟩
theorem box_at3 {W : World} {g : Nat} {t : TypeId} {a b c : Int} (h : W.heap[g]? = some (.cells #[.int .i64 a, .int .i64 b, .int .i64 c] t)) : W.cell? ⟨g, 0, none⟩ = some (.int .i64 a) ∧ W.cell? ⟨g, 1, none⟩ = some (.int .i64 b) ∧ W.cell? ⟨g, 2, none⟩ = some (.int .i64 c) := ⟨(blk_cell h 0).trans rfl, (blk_cell h 1).trans rfl, (blk_cell h 2).trans rfl⟩
set_option maxHeartbeats 8000000 in
theorem reading_one (w : World) : Calls Tryz.prog 42 #[.agg #[.int .i64 100, .int .i64 2], .agg #[.int .i64 0, .int .i64 20, .int .i64 35]] w fun e w' => e = .returned (.int .i64 0) ∧ Below w.heap.size w w' := by
 have h38 := fun W => wheel_Check.calls 100 2 0 W (by rw [wheel_Check.eval]; rfl)
 have h96 := fun W => wheel_dial_reading.calls 3 100 2 0 20 35 true W (by rw [wheel_dial_reading.eval 100 2 0 20 35 (by omega) (by omega)]; rfl)
 have HB := Aside0.mk (Below.refl w.heap.size w)
 go_enter Tryz.func42, Tryz.ntmps42
 go_wp2_with (first
  |(go_at_call 38; refine Calls.mono (h38 _) ?_; clear h38; rintro e W2 ⟨rfl, hb⟩; have HB2 := Aside0.mk (below_weaken (below_alloc (below_alloc HB.out _) _) (by simp; omega) hb); obtain ⟨x0, x1⟩ := box_at (two_boxes hb).1; obtain ⟨y0, y1, y2⟩ := box_at3 (two_boxes hb).2; clear hb)
  |(go_at_call 96; refine Calls.mono (h96 _) ?_; clear h96; rintro e W3 ⟨rfl, hb⟩; have HB3 := Aside0.mk (below_weaken HB2.out HB2.out.size hb); clear hb))
 go_ret
 exact ⟨rfl, HB3.out⟩
theorem three_boxes {w W : World} {t t' t'' : TypeId} {l l' l'' : Array Value} (hb : Below (((w.alloc (.cells l t)).alloc (.cells l' t')).alloc (.cells l'' t'')).heap.size (((w.alloc (.cells l t)).alloc (.cells l' t')).alloc (.cells l'' t'')) W) : W.heap[w.heap.size]? = some (.cells l t) ∧ W.heap[w.heap.size + 1]? = some (.cells l' t') ∧ W.heap[w.heap.size + 1 + 1]? = some (.cells l'' t'') := by
 have b1 := blk_below (blk_alloc (blk_new (w.alloc (.cells l t)) (.cells l' t')) (.cells l'' t'')) hb
 rw [show (w.alloc (.cells l t)).heap.size = w.heap.size + 1 by simp] at b1
 have b2 := blk_below (blk_new ((w.alloc (.cells l t)).alloc (.cells l' t')) (.cells l'' t'')) hb
 rw [show ((w.alloc (.cells l t)).alloc (.cells l' t')).heap.size = w.heap.size + 1 + 1 by simp] at b2
 exact ⟨blk_below (blk_alloc (blk_alloc (blk_new w (.cells l t)) (.cells l' t')) (.cells l'' t'')) hb, b1, b2⟩
set_option maxHeartbeats 8000000 in
theorem areas_one (w : World) : Calls Tryz.prog 48 #[.agg #[.int .i64 100, .int .i64 2], .agg #[.int .i64 0, .int .i64 20, .int .i64 35], .int .i64 60, .agg #[.int .i64 0, .int .i64 2000]] w fun e w' => ∃ v0 : Value, e = .returned (.tuple #[v0, .int .i64 0]) ∧ Kd.R k59 59 w' w.heap.size (fun _ => True) v0 [⟨780, 1079⟩] ∧ Below w.heap.size w w' := by
 have h69 := fun W => (wheel_from.calls 60 1 1000 true W (by rw [wheel_from.eval]; rfl)).mono fun e w' h => (⟨h.1, h.2.below⟩ : e = .returned (.bool true) ∧ Below W.heap.size W w')
 have h98 := fun W => wheel_span.calls 0 2000 true W (by rw [wheel_span.eval]; rfl)
 have h100 := fun W => wheel_dial_distance.calls 100 2 20 35 15 W (by rw [wheel_dial_distance.eval 100 2 20 35 (by omega) (by omega) (by omega) (by omega) (by omega) (by omega)]; rfl)
 have h99 := fun A c W hr hc => wheel_dial_areas.calls 200 100 2 A c [15] 60 0 2000 [⟨780, 1079⟩] 0 W hr hc (by kernel_rfl)
 have HB := Aside0.mk (Below.refl w.heap.size w)
 go_enter Tryz.func48, Tryz.ntmps48
 go_wp2_with (first
  |(go_at_call 42; refine Calls.mono (reading_one _) ?_; rintro e W2 ⟨rfl, hb⟩; have HB2 := Aside0.mk (below_weaken (below_alloc (below_alloc (below_alloc HB.out _) _) _) (by simp; omega) hb); have X := Aside0.mk (three_boxes hb); clear hb)
  |(go_at_call 69; refine Calls.mono (h69 _) ?_; clear h69; rintro e W3 ⟨rfl, hb⟩; have HB3 := Aside0.mk (below_weaken HB2.out HB2.out.size hb); have X3 := Aside0.mk (blk_below X.out.1 hb); have Y3 := Aside0.mk (blk_below X.out.2.1 hb); have Z3 := Aside0.mk (blk_below X.out.2.2 hb); obtain ⟨z0, z1⟩ := box_at Z3.out; clear hb)
  |(go_at_call 98; refine Calls.mono (h98 _) ?_; clear h98; rintro e W4 ⟨rfl, hb⟩; have HB4 := Aside0.mk (below_weaken HB3.out HB3.out.size hb); clear z0 z1; obtain ⟨z0, z1⟩ := box_at (blk_below Z3.out hb); obtain ⟨x0, x1⟩ := box_at (blk_below X3.out hb); obtain ⟨y0, y1, y2⟩ := box_at3 (blk_below Y3.out hb); clear hb))
 clear x0 x1
 go_region_held3 (fun W => W.cell? ⟨W4.heap.size, 0, none⟩ = some (.int .i64 100) ∧ W.cell? ⟨W4.heap.size, 1, none⟩ = some (.int .i64 2) ∧ W.cell? ⟨w.heap.size + 1 + 1, 0, none⟩ = some (.int .i64 0) ∧ W.cell? ⟨w.heap.size + 1 + 1, 1, none⟩ = some (.int .i64 2000) ∧ W.cell? ⟨w.heap.size + 1, 1, none⟩ = some (.int .i64 20) ∧ W.cell? ⟨w.heap.size + 1, 2, none⟩ = some (.int .i64 35)) (first | go_keep | (go_split_ands; (repeat' apply And.intro) <;> exact pw_cell_below hBt (by assumption)))
  (first
   |(go_at_call 100; refine (h100 _).mono ?_; rintro e W5 ⟨rfl, hBt⟩; have HB5 := Aside0.mk (below_weaken (below_drew1 (below_alloc HB4.out _)) (by simp; have := HB4.out.size; omega) hBt))
   |(go_at_call 99; refine (h99 _ _ _ (by repeat (first | exact reads_int_one _ _ | apply Kd.C_drew)) (by decide)).mono ?_; rintro e W6 ⟨v0, rfl, hR0, hBt⟩))
 have HB6 := Aside0.mk (below_weaken (below_alloc HB5.out _) (by simp; have := HB5.out.size; omega) hBt)
 have R0 := Aside0.mk (Kd.R_lower hR0 (by simp; have := HB5.out.size; omega : w.heap.size ≤ _))
 clear hR0 hBt
 rename_i hHeld
 clear hHeld
 go_wp2
 go_ret2
 exact ⟨_, rfl, R0.out, HB6.out⟩
attribute [local go_sem] max2_int min2_int max_two min_two max_three min_three max_four min_four
def wheel_Constants.f (a0_0 : Int) (a0_1 : Int) (l1 : List (S61)) : Option ((List (S59)) × Int) := (wheel_Left.f a0_0 a0_1 l1 ([] : List (S64)) (([(⟨0, 0⟩ : S59)] : List (S59)))).bind fun bt145 => (some (bt145.1, bt145.2))
set_option maxHeartbeats 8000000 in
set_option maxRecDepth 100000 in
theorem wheel_Constants.calls (a0_0 : Int) (a0_1 : Int) (A1 : Option Addr) (c1 : Nat) (l1 : List (S61)) (r1 : List (S59)) (r2 : Int) (w : World) (hr1 : Kd.C k61 w A1 l1.length l1) (hc1 : l1.length ≤ c1) (h : wheel_Constants.f a0_0 a0_1 l1 = some (r1, r2)) :
  Calls Tryz.prog 15 #[.agg #[.int .i64 a0_0, .int .i64 a0_1], .slice A1 l1.length c1] w fun e w' => ∃ v0_ : Value, e = .returned (.tuple #[v0_, .int .i64 r2]) ∧ Kd.R k59 59 w' w.heap.size (fun _ => True) v0_ r1 ∧ Below w.heap.size w w' := by
 have hu23 := Tryz.underlying23
 have hu59 := Tryz.underlying59
 have HR1 := Aside0.mk hr1
 have HC1 := Aside0.mk hc1
 clear hr1 hc1
 have HB := Aside0.mk (Below.refl w.heap.size w)
 have H : ((wheel_Left.f a0_0 a0_1 l1 ([] : List (S64)) (([(⟨0, 0⟩ : S59)] : List (S59)))).bind fun bt145 => (some (bt145.1, bt145.2))) = some (r1, r2) := h
 clear h
 obtain ⟨y142, hy142⟩ : ∃ y_ : List (S59), y_ = (([(⟨0, 0⟩ : S59)] : List (S59))) := ⟨_, rfl⟩
 replace H : ((wheel_Left.f a0_0 a0_1 l1 ([] : List (S64)) y142).bind fun bt145 => (some (bt145.1, bt145.2))) = some (r1, r2) := by first | (rw [hy142]; with_reducible exact H) | (have H2_ := (Option.bind_some _ _).symm.trans H; rw [hy142]; with_reducible exact H2_) | (have H2_ := (Option.bind_some _ _).symm.trans H; with_reducible exact H2_) | with_reducible exact H | (rw [hy142]; exact H) | exact H
 have Ny142 := Aside0.mk hy142
 clear hy142
 replace H := Option.bind_eq_some_iff.mp H
 obtain ⟨⟨t145, t148⟩, A30, H⟩ := H
 replace H : (some (t145, t148)) = some (r1, r2) := H
 have A3 := Aside0.mk A30
 clear A30
 simp only [Option.some.injEq, Prod.mk.injEq] at H
 obtain ⟨rfl, rfl⟩ := H
 go_enter Tryz.func15, Tryz.ntmps15
 go_wp2_with (first | ((with_reducible refine gate_dst (N := 2) rfl ?_); refine box_event ?hg (N := 2) ?hd (cs := #[.int .i64 a0_0, .int .i64 a0_1]) (t := 23) ?hr ?_; (case hd => rfl); (case hg => rfl); (case hr => first | (go_simp; done) | (go_simp; rfl)); intro gb141 hg w4 hbox hb; have n0_ := Aside0.mk (below_step (bw HB.out) hb); have n1_ := Aside0.mk (hbox); have n2_ := Aside0.mk ((by rw [hg]; exact (below_size (bw HB.out)) : w.heap.size ≤ gb141)); have n3_ := Aside0.mk ((by rw [hg]; exact (below_size (bw HB.out)) : w.heap.size ≤ gb141)); clear HB; have HB := n0_; have BK141 := n1_; have GW141 := n2_; have GE141 := n3_; clear n0_ n1_ n2_ n3_; clear hb hbox hg; have hcz5_0 : w4.cell? ⟨gb141, 0, none⟩ = some (.int .i64 a0_0) := (blk_cell BK141.out 0).trans rfl; have hcz5_1 : w4.cell? ⟨gb141, 1, none⟩ = some (.int .i64 a0_1) := (blk_cell BK141.out 1).trans rfl; have hfz5_0 := blk_frozen BK141.out 0; have hfz5_1 := blk_frozen BK141.out 1) | ((with_reducible refine gate_dst (N := 9) rfl ?_); refine Kd.R_lit k59 _ 59 ?hg (N := 9) ?hd (xs := ([(⟨0, 0⟩ : S59)] : List (S59))) (inner := [.int .i64 0, .int .i64 0]) (ok := fun _ => True) (okp := fun _ => True) ?hr ?hp (fun _ hk => hk) trivial (Below.refl _ _) (Nat.le_refl _) (by simp) ?_; (case hd => rfl); (case hg => rfl); (case hr => first | (go_simp; done) | (go_simp; rfl)); (case hp => exact (Reps.c2 (show Kd.M k59 _ _ _ (⟨0, 0⟩ : S59) [.int .i64 0, .int .i64 0] from (k59_mkM _ _ _ (⟨0, 0⟩ : S59) )) (Reps.none _ _))); intro v143 w6 ho7 hb hg_ hnew_; clear hg_ hnew_; (first | rw [← Ny142.out] at ho7 | (simp only [Int.reduceToNat] at ho7; rw [← Ny142.out] at ho7)); have n0_ := Aside0.mk (Kd.R_lower ho7 (below_size (by repeat (first | (with_reducible first | exact HB.out | apply below_alloc | apply pw_below_drewN | apply below_drew1 | refine below_set ?_ GE141.out) | exact HB.out)))); have n1_ := Aside0.mk (blk_below (g := gb141) (o := .cells #[.int .i64 a0_0, .int .i64 a0_1] 23 (0, 0)) (bq BK141.out) hb); have n2_ := Aside0.mk (below_step (by repeat (first | (with_reducible first | exact HB.out | apply below_alloc | apply pw_below_drewN | apply below_drew1 | refine below_set ?_ GE141.out) | exact HB.out)) hb); clear BK141; clear HB; have HO144 := n0_; have BK141 := n1_; have HB := n2_; clear n0_ n1_ n2_; clear hb ho7; obtain ⟨Ao8, co8, eo8⟩ := Kd.R_slice HO144.out; subst eo8) | ((with_reducible refine gate_callee (f := 24) rfl ?_); refine goesL_ (some 10) rfl rfl Tryz.func24 (by kernel_rfl) rfl #[.agg #[.int .i64 a0_0, .int .i64 a0_1], .slice A1 l1.length c1, .slice none 0 0, .slice Ao8 y142.length co8] rfl mq ?_; (refine (wheel_Left.calls a0_0 a0_1 _ _ l1 _ _ ([] : List (S64)) _ _ y142 t145 t148 _ ?side1 ?side2 ?side3 ?side4 ?side5 ?side6 A3.out).mono ?_); (case side1 => repeat (first | exact (Kd.C_below HR1.out HB.out) | (with_reducible refine Kd.C_alloc ?_ _) | (with_reducible refine Kd.C_drewN ?_ _) | (with_reducible refine Kd.C_drew ?_))); (case side2 => exact HC1.out); (case side3 => exact Kd.C_nil _ _); (case side4 => exact Nat.le_refl _); (case side5 => repeat (first | exact (Kd.R_reads' HO144.out).2.2 | (with_reducible refine Kd.C_alloc ?_ _) | (with_reducible refine Kd.C_drewN ?_ _) | (with_reducible refine Kd.C_drew ?_))); (case side6 => exact (Kd.R_reads' HO144.out).2.1); rintro e w9 ⟨v146, rfl, ho0, hb⟩; refine ⟨_, rfl, ?_⟩; have n0_ := Aside0.mk (Kd.R_elder' (rq HO144.out) (Kd.R_base ho0) hb); have n1_ := Aside0.mk (Kd.R_lower (Kd.R_new' ho0 (Kd.R_lt (rq HO144.out))) (below_size (by repeat (first | (with_reducible first | exact HB.out | apply below_alloc | apply pw_below_drewN | apply below_drew1 | refine below_set ?_ GE141.out) | exact HB.out)))); have n2_ := Aside0.mk (blk_below (g := gb141) (o := .cells #[.int .i64 a0_0, .int .i64 a0_1] 23 (0, 0)) (bq BK141.out) hb); have n3_ := Aside0.mk (below_step (by repeat (first | (with_reducible first | exact HB.out | apply below_alloc | apply pw_below_drewN | apply below_drew1 | refine below_set ?_ GE141.out) | exact HB.out)) hb); clear HO144; clear BK141; clear HB; have HO144 := n0_; have HO147 := n1_; have BK141 := n2_; have HB := n3_; clear n0_ n1_ n2_ n3_; (try clear hb); (try clear hb2); (try clear hk); (try clear hi); (try clear ho0)))
 go_ret2
 exact ⟨_, by first | rfl | (simp [errW_none, errW_some] <;> rfl) | (simp [*, errW_none, errW_some] <;> rfl), by (with_reducible repeat (first | apply Kd.R_alloc | apply Kd.R_drewN | apply Kd.R_drew)); exact Kd.R_mono HO147.out (fun _ hk => trivial), by repeat (first | (with_reducible first | exact HB.out | apply below_alloc | apply pw_below_drewN | apply below_drew1 | refine below_set ?_ GE141.out) | exact HB.out)⟩
def acreagelaw05_example.l0 : Nat → Int → Int → Int → Int → Int → List (S61) → List (S64) → List (S59) → Option (Int × Int × (List (S61)) × (List (S64)) × (List (S59)))
 |0, _, _, _, _, _, _, _, _ => none
 |k + 1, x1, x12, x13, x281000, x281001, x281002, x281003, x281004 => if x13 < x12 then (if x281003.length < 5864062014805 then (if x281004.length < 8796093022208 then (acreagelaw05_example.l0 k x1 x12 (wrap64 (x13 + 1)) x281000 x281001 x281002 (x281003 ++ [(⟨x13, 20, 35⟩ : S64)]) (x281004 ++ [(⟨0, x1⟩ : S59)])) else (none)) else (none)) else (some (x281000, x281001, x281002, x281003, x281004))
def acreagelaw05_example.f (k : Nat) (a0 : Int) (a1 : Int) : Option (Int × Int × (List (S61)) × (List (S64)) × (List (S59))) := acreagelaw05_example.l0 k a1 a0 0 100 2 (([(⟨(⟨1000, 1000⟩ : S59), 95, 10⟩ : S61)] : List (S61))) ([] : List (S64)) ([] : List (S59))
theorem acreagelaw05_example.mono_l : ∀ k, (∀ y0 y1 y2 y3 y4 y5 y6 y7, LeO (acreagelaw05_example.l0 k y0 y1 y2 y3 y4 y5 y6 y7) (acreagelaw05_example.l0 (k + 1) y0 y1 y2 y3 y4 y5 y6 y7))
 |0 => fun _ _ _ _ _ _ _ _ r h => by simp [acreagelaw05_example.l0] at h
 |k + 1 => by
  have ih0 := acreagelaw05_example.mono_l k
  ·intro y0 y1 y2 y3 y4 y5 y6 y7
   unfold acreagelaw05_example.l0
   repeat' first
   |(with_reducible exact ih0 _ _ _ _ _ _ _ _)
   |(with_reducible exact LeO.refl _)
   |(with_reducible exact LeO.none _)
   |(with_reducible refine LeO.ite ?_ ?_)
   |(with_reducible refine LeO.bind ?_ (fun _ => ?_))
   |exact ih0 _ _ _ _ _ _ _ _
   |exact LeO.none _
   |refine LeO.ite ?_ ?_
   |refine LeO.bind ?_ (fun _ => ?_)
theorem acreagelaw05_example.mono : ∀ a0 a1 k, LeO (acreagelaw05_example.f k a0 a1) (acreagelaw05_example.f (k + 1) a0 a1) := by
 intro a0 a1 k
 have ih0 := acreagelaw05_example.mono_l k
 unfold acreagelaw05_example.f
 repeat' first
   |(with_reducible exact ih0 _ _ _ _ _ _ _ _)
   |(with_reducible exact LeO.refl _)
   |(with_reducible exact LeO.none _)
   |(with_reducible refine LeO.ite ?_ ?_)
   |(with_reducible refine LeO.bind ?_ (fun _ => ?_))
   |exact ih0 _ _ _ _ _ _ _ _
   |exact LeO.none _
   |refine LeO.ite ?_ ?_
   |refine LeO.bind ?_ (fun _ => ?_)
set_option maxHeartbeats 8000000 in
set_option maxRecDepth 100000 in
theorem acreagelaw05_example.calls (k : Nat) (a0 : Int) (a1 : Int) (r1 : Int) (r2 : Int) (r3 : List (S61)) (r4 : List (S64)) (r5 : List (S59)) (w : World) (h : acreagelaw05_example.f k a0 a1 = some (r1, r2, r3, r4, r5)) :
  Calls Tryz.prog 61 #[.int .i64 a0, .int .i64 a1] w fun e w' => ∃ v2_ v3_ v4_ : Value, e = .returned (.agg #[.int .i64 r1, .int .i64 r2, v2_, v3_, v4_]) ∧ Kd.R k61 61 w' w.heap.size (fun _ => True) v2_ r3 ∧ Kd.R k64 64 w' w.heap.size (fun _ => True) v3_ r4 ∧ Kd.R k59 59 w' w.heap.size (fun _ => True) v4_ r5 ∧ Below w.heap.size w w' := by
 have hu35 := Tryz.underlying35
 have hu23 := Tryz.underlying23
 have hu59 := Tryz.underlying59
 have hu61 := Tryz.underlying61
 have hu64 := Tryz.underlying64
 have HB := Aside0.mk (Below.refl w.heap.size w)
 have H : (acreagelaw05_example.l0 k a1 a0 0 100 2 (([(⟨(⟨1000, 1000⟩ : S59), 95, 10⟩ : S61)] : List (S61))) ([] : List (S64)) ([] : List (S59))) = some (r1, r2, r3, r4, r5) := h
 clear h
 obtain ⟨y277, hy277⟩ : ∃ y_ : List (S61), y_ = (([(⟨(⟨1000, 1000⟩ : S59), 95, 10⟩ : S61)] : List (S61))) := ⟨_, rfl⟩
 replace H : (acreagelaw05_example.l0 k a1 a0 0 100 2 y277 ([] : List (S64)) ([] : List (S59))) = some (r1, r2, r3, r4, r5) := by first | (rw [hy277]; with_reducible exact H) | (have H2_ := (Option.bind_some _ _).symm.trans H; rw [hy277]; with_reducible exact H2_) | (have H2_ := (Option.bind_some _ _).symm.trans H; with_reducible exact H2_) | with_reducible exact H | (rw [hy277]; exact H) | exact H
 have Ny277 := Aside0.mk hy277
 clear hy277
 have H' := Aside0.mk H
 clear H
 go_enter Tryz.func61, Tryz.ntmps61
 go_wp2_with (first | ((with_reducible refine gate_dst (N := 4) rfl ?_); refine box_event ?hg (N := 4) ?hd (cs := #[.int .i64 0, .int .i64 0, .slice none 0 0, .slice none 0 0, .slice none 0 0]) (t := 35) ?hr ?_; (case hd => rfl); (case hg => rfl); (case hr => first | (go_simp; done) | (go_simp; rfl)); intro gb276 hg w3 hbox hb; have n0_ := Aside0.mk (below_step (bw HB.out) hb); have n1_ := Aside0.mk (hbox); have n2_ := Aside0.mk ((by rw [hg]; exact (below_size (bw HB.out)) : w.heap.size ≤ gb276)); have n3_ := Aside0.mk ((by rw [hg]; exact (below_size (bw HB.out)) : w.heap.size ≤ gb276)); clear HB; have HB := n0_; have BK276 := n1_; have GW276 := n2_; have GE276 := n3_; clear n0_ n1_ n2_ n3_; clear hb hbox hg) | ((with_reducible refine gate_dst (N := 10) rfl ?_); refine Kd.R_lit k61 _ 61 ?hg (N := 10) ?hd (xs := ([(⟨(⟨1000, 1000⟩ : S59), 95, 10⟩ : S61)] : List (S61))) (inner := [.int .i64 1000, .int .i64 1000, .int .i64 95, .int .i64 10]) (ok := fun _ => True) (okp := fun _ => True) ?hr ?hp (fun _ hk => hk) trivial (Below.refl _ _) (Nat.le_refl _) (by simp) ?_; (case hd => rfl); (case hg => rfl); (case hr => first | (go_simp; done) | (go_simp; rfl)); (case hp => exact (Reps.c4 (show Kd.M k61 _ _ _ (⟨(⟨1000, 1000⟩ : S59), 95, 10⟩ : S61) [.int .i64 1000, .int .i64 1000, .int .i64 95, .int .i64 10] from (k61_mkM _ _ _ (⟨(⟨1000, 1000⟩ : S59), 95, 10⟩ : S61) )) (Reps.none _ _))); intro v278 w4 ho5 hb hg_ hnew_; clear hg_ hnew_; (first | rw [← Ny277.out] at ho5 | (simp only [Int.reduceToNat] at ho5; rw [← Ny277.out] at ho5)); have n0_ := Aside0.mk (Kd.R_lower ho5 (below_size (by repeat (first | (with_reducible first | exact HB.out | apply below_alloc | apply pw_below_drewN | apply below_drew1 | refine below_set ?_ GE276.out) | exact HB.out)))); have n1_ := Aside0.mk (blk_below (g := gb276) (o := .cells #[.int .i64 0, .int .i64 0, .slice none 0 0, .slice none 0 0, .slice none 0 0] 35 (0, 0)) (bq BK276.out) hb); have n2_ := Aside0.mk (below_step (by repeat (first | (with_reducible first | exact HB.out | apply below_alloc | apply pw_below_drewN | apply below_drew1 | refine below_set ?_ GE276.out) | exact HB.out)) hb); clear BK276; clear HB; have HO279 := n0_; have BK276 := n1_; have HB := n2_; clear n0_ n1_ n2_; clear hb ho5; obtain ⟨Ao6, co6, eo6⟩ := Kd.R_slice HO279.out; subst eo6) | ((with_reducible refine gate_dst (N := 5) rfl ?_); refine box_event ?hg (N := 5) ?hd (cs := #[.int .i64 0, .int .i64 0, .slice none 0 0, .slice none 0 0, .slice none 0 0]) (t := 35) ?hr ?_; (case hd => rfl); (case hg => rfl); (case hr => first | (go_simp; done) | (go_simp; rfl)); intro gb280 hg w7 hbox hb; have n0_ := Aside0.mk (Kd.R_below (rq HO279.out) hb); have n1_ := Aside0.mk (blk_below (g := gb276) (o := .cells #[.int .i64 0, .int .i64 0, .slice none 0 0, .slice none 0 0, .slice none 0 0] 35 (0, 0)) (bq BK276.out) hb); have n2_ := Aside0.mk (below_step (by repeat (first | (with_reducible first | exact HB.out | apply below_alloc | apply pw_below_drewN | apply below_drew1 | refine below_set ?_ GE276.out) | exact HB.out)) hb); have n3_ := Aside0.mk (hbox); have n4_ := Aside0.mk ((by rw [hg]; exact (below_size (by repeat (first | (with_reducible first | exact HB.out | apply below_alloc | apply pw_below_drewN | apply below_drew1 | refine below_set ?_ GE276.out) | exact HB.out))) : w.heap.size ≤ gb280)); have n5_ := Aside0.mk ((by rw [hg]; exact (below_size (by repeat (first | (with_reducible first | exact HB.out | apply below_alloc | apply pw_below_drewN | apply below_drew1 | refine below_set ?_ GE276.out) | exact HB.out))) : w.heap.size ≤ gb280)); have n6_ := Aside0.mk ((by rw [hg]; exact Nat.ne_of_lt (blk_lt (g := gb276) (o := .cells #[.int .i64 0, .int .i64 0, .slice none 0 0, .slice none 0 0, .slice none 0 0] 35 (0, 0)) (bq BK276.out)) : gb276 ≠ gb280)); have n7_ := Aside0.mk ((by rw [hg]; exact Nat.ne_of_gt (blk_lt (g := gb276) (o := .cells #[.int .i64 0, .int .i64 0, .slice none 0 0, .slice none 0 0, .slice none 0 0] 35 (0, 0)) (bq BK276.out)) : gb280 ≠ gb276)); clear HO279; clear BK276; clear HB; have HO279 := n0_; have BK276 := n1_; have HB := n2_; have BK280 := n3_; have GW280 := n4_; have GE280 := n5_; have NB276_280 := n6_; have NB280_276 := n7_; clear n0_ n1_ n2_ n3_ n4_ n5_ n6_ n7_; clear hb hbox hg; have hnb8 := NB280_276.out; have hnc8 := NB276_280.out; have hcz9_0 : w7.cell? ⟨gb280, 0, none⟩ = some (.int .i64 0) := (blk_cell BK280.out 0).trans rfl; have hcz9_1 : w7.cell? ⟨gb280, 1, none⟩ = some (.int .i64 0) := (blk_cell BK280.out 1).trans rfl; have hcz9_2 : w7.cell? ⟨gb280, 2, none⟩ = some (.slice none 0 0) := (blk_cell BK280.out 2).trans rfl; have hcz9_3 : w7.cell? ⟨gb280, 3, none⟩ = some (.slice none 0 0) := (blk_cell BK280.out 3).trans rfl; have hcz9_4 : w7.cell? ⟨gb280, 4, none⟩ = some (.slice none 0 0) := (blk_cell BK280.out 4).trans rfl; have hfz9_0 := blk_frozen BK280.out 0; have hfz9_1 := blk_frozen BK280.out 1; have hfz9_2 := blk_frozen BK280.out 2; have hfz9_3 := blk_frozen BK280.out 3; have hfz9_4 := blk_frozen BK280.out 4))
 go_loopg [13] k (fun kq v13 w' => ∃ (x13_1 : Int) (x281003_1 : List (S64)) (x281004_1 : List (S59)) (u281003 : Value) (u281004 : Value), v13 = .int .i64 x13_1 ∧ Aside0 (acreagelaw05_example.l0 kq a1 a0 x13_1 100 2 y277 x281003_1 x281004_1 = some (r1, r2, r3, r4, r5)) ∧ Aside0 (kq ≤ k) ∧ Aside0 (Kd.R k61 61 w' w.heap.size (fun _ => True) (.slice Ao6 y277.length co6) y277) ∧ Aside0 (Kd.R k64 64 w' w.heap.size (fun _ => True) u281003 x281003_1) ∧ Aside0 (Kd.R k59 59 w' w.heap.size (fun _ => True) u281004 x281004_1) ∧ Aside0 (w'.heap[gb276]? = some (.cells #[.int .i64 0, .int .i64 0, (.slice none 0 0), (.slice none 0 0), (.slice none 0 0)] 35 (0, 0))) ∧ Aside0 (w'.heap[gb280]? = some (.cells #[.int .i64 100, .int .i64 2, (.slice Ao6 y277.length co6), u281003, u281004] 35 (0, 0))) ∧ Aside0 (Below w.heap.size w w'))
 case atStart => exact ⟨(0), (([] : List (S64))), (([] : List (S59))), (.slice none 0 0), (.slice none 0 0), (by first | rfl | (simp; done) | (simp [*]; done)), H', ⟨Nat.le_refl _⟩, ⟨by (with_reducible repeat (first | apply Kd.R_alloc | apply Kd.R_drewN | apply Kd.R_drew)); exact Kd.R_mono (Kd.R_far (p := ⟨gb280, 4, none⟩) (Kd.R_far (p := ⟨gb280, 3, none⟩) (Kd.R_far (p := ⟨gb280, 2, none⟩) (Kd.R_far (p := ⟨gb280, 1, none⟩) (Kd.R_far (p := ⟨gb280, 0, none⟩) (Kd.R_types HO279.out BK280.out (by decide)) (fun _ hk => hk.2) (.int .i64 100)) (fun _ hk => hk.2) (.int .i64 2)) (fun _ hk => hk.2) (.slice Ao6 y277.length co6)) (fun _ hk => hk.2) (.slice none 0 0)) (fun _ hk => hk.2) (.slice none 0 0)) (fun _ hk => trivial)⟩, ⟨by first | exact Kd.R_nil _ _ _ _ _ | exact Kd.N_nil _ _ _ _ _ | exact Kd.V_nil _ _ _ _ _ | exact Kd.Q_nil _ _ _ _ _ | exact Kd.S_nil _ _ _ _ _⟩, ⟨by first | exact Kd.R_nil _ _ _ _ _ | exact Kd.N_nil _ _ _ _ _ | exact Kd.V_nil _ _ _ _ _ | exact Kd.Q_nil _ _ _ _ _ | exact Kd.S_nil _ _ _ _ _⟩, ⟨by (with_reducible repeat (first | refine blk_drewN ?_ _ | refine blk_drew ?_ | refine blk_alloc ?_ _)); refine blk_far ?_ NB276_280.out _; (with_reducible repeat (first | refine blk_drewN ?_ _ | refine blk_drew ?_ | refine blk_alloc ?_ _)); refine blk_far ?_ NB276_280.out _; (with_reducible repeat (first | refine blk_drewN ?_ _ | refine blk_drew ?_ | refine blk_alloc ?_ _)); refine blk_far ?_ NB276_280.out _; (with_reducible repeat (first | refine blk_drewN ?_ _ | refine blk_drew ?_ | refine blk_alloc ?_ _)); refine blk_far ?_ NB276_280.out _; (with_reducible repeat (first | refine blk_drewN ?_ _ | refine blk_drew ?_ | refine blk_alloc ?_ _)); refine blk_far ?_ NB276_280.out _; (with_reducible repeat (first | refine blk_drewN ?_ _ | refine blk_drew ?_ | refine blk_alloc ?_ _)); exact BK276.out⟩, ⟨by (with_reducible repeat (first | refine blk_drewN ?_ _ | refine blk_drew ?_ | refine blk_alloc ?_ _)); refine blk_put (cs := #[.int .i64 100, .int .i64 2, .slice Ao6 y277.length co6, .slice none 0 0, .slice none 0 0]) ?_ 4 _ rfl; (with_reducible repeat (first | refine blk_drewN ?_ _ | refine blk_drew ?_ | refine blk_alloc ?_ _)); refine blk_put (cs := #[.int .i64 100, .int .i64 2, .slice Ao6 y277.length co6, .slice none 0 0, .slice none 0 0]) ?_ 3 _ rfl; (with_reducible repeat (first | refine blk_drewN ?_ _ | refine blk_drew ?_ | refine blk_alloc ?_ _)); refine blk_put (cs := #[.int .i64 100, .int .i64 2, .slice none 0 0, .slice none 0 0, .slice none 0 0]) ?_ 2 _ rfl; (with_reducible repeat (first | refine blk_drewN ?_ _ | refine blk_drew ?_ | refine blk_alloc ?_ _)); refine blk_put (cs := #[.int .i64 100, .int .i64 0, .slice none 0 0, .slice none 0 0, .slice none 0 0]) ?_ 1 _ rfl; (with_reducible repeat (first | refine blk_drewN ?_ _ | refine blk_drew ?_ | refine blk_alloc ?_ _)); refine blk_put (cs := #[.int .i64 0, .int .i64 0, .slice none 0 0, .slice none 0 0, .slice none 0 0]) ?_ 0 _ rfl; (with_reducible repeat (first | refine blk_drewN ?_ _ | refine blk_drew ?_ | refine blk_alloc ?_ _)); exact BK280.out⟩, ⟨by repeat (first | (with_reducible first | exact HB.out | apply below_alloc | apply pw_below_drewN | apply below_drew1 | refine below_set ?_ GE276.out | refine below_set ?_ GE280.out) | exact HB.out)⟩⟩
 case round =>
  clear H'
  try clear p2
  try clear c4
  try clear c6
  try clear c8
  try clear hcz9_0
  try clear hcz9_1
  try clear hcz9_2
  try clear hcz9_3
  try clear hcz9_4
  try clear hfz9_0
  try clear hfz9_1
  try clear hfz9_2
  try clear hfz9_3
  try clear hfz9_4
  obtain ⟨x13_1, x281003_1, x281004_1, u281003, u281004, rfl, HA, HK1, HO_281002, HO_281003, HO_281004, BK276, BK280, HB⟩ := hrel
  cases gk with
  |zero => exact absurd HA.out (by simp [acreagelaw05_example.l0])
  |succ k1 =>
   have H := HA.out
   clear HA
   simp only [acreagelaw05_example.l0] at H
   by_cases c10 : x13_1 < a0
   ·rw [if_pos c10] at H
    have c10b0 : decide (x13_1 < a0) = true := decide_eq_true c10
    clear c10
    by_cases c11 : x281003_1.length < 5864062014805
    ·rw [if_pos c11] at H
     have LMc11 := Aside0.mk c11
     clear c11
     obtain ⟨y281, hy281⟩ : ∃ y_ : List (S64), y_ = (x281003_1 ++ [(⟨x13_1, 20, 35⟩ : S64)]) := ⟨_, rfl⟩
     replace H : (if x281004_1.length < 8796093022208 then (acreagelaw05_example.l0 k1 a1 a0 (wrap64 (x13_1 + 1)) 100 2 y277 y281 (x281004_1 ++ [(⟨0, a1⟩ : S59)])) else (none)) = some (r1, r2, r3, r4, r5) := by first | (rw [hy281]; with_reducible exact H) | (have H2_ := (Option.bind_some _ _).symm.trans H; rw [hy281]; with_reducible exact H2_) | (have H2_ := (Option.bind_some _ _).symm.trans H; with_reducible exact H2_) | with_reducible exact H | (rw [hy281]; exact H) | exact H
     have Ny281 := Aside0.mk hy281
     clear hy281
     by_cases c12 : x281004_1.length < 8796093022208
     ·rw [if_pos c12] at H
      have LMc12 := Aside0.mk c12
      clear c12
      obtain ⟨y284, hy284⟩ : ∃ y_ : List (S59), y_ = (x281004_1 ++ [(⟨0, a1⟩ : S59)]) := ⟨_, rfl⟩
      replace H : (acreagelaw05_example.l0 k1 a1 a0 (wrap64 (x13_1 + 1)) 100 2 y277 y281 y284) = some (r1, r2, r3, r4, r5) := by first | (rw [hy284]; with_reducible exact H) | (have H2_ := (Option.bind_some _ _).symm.trans H; rw [hy284]; with_reducible exact H2_) | (have H2_ := (Option.bind_some _ _).symm.trans H; with_reducible exact H2_) | with_reducible exact H | (rw [hy284]; exact H) | exact H
      have Ny284 := Aside0.mk hy284
      clear hy284
      have H' := Aside0.mk H
      clear H
      have hnb13 := NB280_276.out
      have hnc13 := NB276_280.out
      have hcz14_0 : wr.cell? ⟨gb280, 0, none⟩ = some (.int .i64 100) := (blk_cell BK280.out 0).trans rfl
      have hcz14_1 : wr.cell? ⟨gb280, 1, none⟩ = some (.int .i64 2) := (blk_cell BK280.out 1).trans rfl
      have hcz14_2 : wr.cell? ⟨gb280, 2, none⟩ = some (.slice Ao6 y277.length co6) := (blk_cell BK280.out 2).trans rfl
      have hcz14_3 : wr.cell? ⟨gb280, 3, none⟩ = some (u281003) := (blk_cell BK280.out 3).trans rfl
      have hcz14_4 : wr.cell? ⟨gb280, 4, none⟩ = some (u281004) := (blk_cell BK280.out 4).trans rfl
      have hfz14_0 := blk_frozen BK280.out 0
      have hfz14_1 := blk_frozen BK280.out 1
      have hfz14_2 := blk_frozen BK280.out 2
      have hfz14_3 := blk_frozen BK280.out 3
      have hfz14_4 := blk_frozen BK280.out 4
      go_wp2_with (first | ((with_reducible refine gate_builtin (b := .append) (xs := #[.tmp 17, .tmp 20]) rfl ?_); at_builtin; refine Kd.R_append k64 (w0 := w) w.heap.size rfl (.tmp 17) (.tmp 20) 33 64 (.agg #[(.int .i64 0), (.int .i64 0), (.int .i64 0)]) 24 rfl Tryz.underlying33 info64 rfl (by decide) (by omega) u281003 x281003_1 (⟨x13_1, 20, 35⟩ : S64) [.int .i64 x13_1, .int .i64 20, .int .i64 35] (fun _ => True) (fun _ => False) rfl rfl ?aP (fun _ hk => hk.elim) ?aF ?aO ?aB ?aS ?aL ?_; (case aP => exact k64_mkM _ _ _ (⟨x13_1, 20, 35⟩ : S64)); (case aB => exact (by repeat (first | (with_reducible first | exact HB.out | apply below_alloc | apply pw_below_drewN | apply below_drew1 | refine below_set ?_ GE276.out | refine below_set ?_ GE280.out) | exact HB.out))); (case aF => exact (fun _ _ => trivial)); (case aO => exact (rq HO_281003.out)); (case aS => exact (below_size (by repeat (first | (with_reducible first | exact HB.out | apply below_alloc | apply pw_below_drewN | apply below_drew1 | refine below_set ?_ GE276.out | refine below_set ?_ GE280.out) | exact HB.out)))); (case aL => have := LMc11.out; omega); intro v282 w15 ho hb hg hat; rw [← Ny281.out] at ho; have n0_ := Aside0.mk (Kd.R_over' (rq HO_281002.out) (Kd.R_typed (rq HO_281003.out)) (by decide) hg); have n1_ := Aside0.mk (Kd.R_over' (rq HO_281004.out) (Kd.R_typed (rq HO_281003.out)) (by decide) hg); have n2_ := Aside0.mk (blk_grown (g := gb276) (o := .cells #[.int .i64 0, .int .i64 0, .slice none 0 0, .slice none 0 0, .slice none 0 0] 35 (0, 0)) (bq BK276.out) hg (by first | exact Kd.R_ne HO_281003.out BK276.out (by decide) | exact fun e_ => absurd rfl (HO_281003.out.1 _ e_.symm).2 | exact fun e_ => absurd rfl (HO_281003.out.1 _ e_.symm).1.2)); have n3_ := Aside0.mk (blk_grown (g := gb280) (o := .cells #[.int .i64 100, .int .i64 2, .slice Ao6 y277.length co6, u281003, u281004] 35 (0, 0)) (bq BK280.out) hg (by first | exact Kd.R_ne HO_281003.out BK280.out (by decide) | exact fun e_ => absurd rfl (HO_281003.out.1 _ e_.symm).2 | exact fun e_ => absurd rfl (HO_281003.out.1 _ e_.symm).1.2)); have n4_ := Aside0.mk (hb); have n5_ := Aside0.mk (ho); clear HO_281002; clear HO_281004; clear BK276; clear BK280; clear HB; clear HO_281003; have HO_281002 := n0_; have HO_281004 := n1_; have BK276 := n2_; have BK280 := n3_; have HB := n4_; have HO283 := n5_; clear n0_ n1_ n2_ n3_ n4_ n5_; clear ho hb hg hat; obtain ⟨Ao16, co16, eo16⟩ := Kd.R_slice HO283.out; subst eo16; have hcz17_0 : w15.cell? ⟨gb280, 0, none⟩ = some (.int .i64 100) := (blk_cell BK280.out 0).trans rfl; have hcz17_1 : w15.cell? ⟨gb280, 1, none⟩ = some (.int .i64 2) := (blk_cell BK280.out 1).trans rfl; have hcz17_2 : w15.cell? ⟨gb280, 2, none⟩ = some (.slice Ao6 y277.length co6) := (blk_cell BK280.out 2).trans rfl; have hcz17_3 : w15.cell? ⟨gb280, 3, none⟩ = some (u281003) := (blk_cell BK280.out 3).trans rfl; have hcz17_4 : w15.cell? ⟨gb280, 4, none⟩ = some (u281004) := (blk_cell BK280.out 4).trans rfl; have hfz17_0 := blk_frozen BK280.out 0; have hfz17_1 := blk_frozen BK280.out 1; have hfz17_2 := blk_frozen BK280.out 2; have hfz17_3 := blk_frozen BK280.out 3; have hfz17_4 := blk_frozen BK280.out 4) | ((with_reducible refine gate_builtin (b := .append) (xs := #[.tmp 24, .tmp 27]) rfl ?_); at_builtin; refine Kd.R_append k59 (w0 := w) w.heap.size rfl (.tmp 24) (.tmp 27) 26 59 (.agg #[(.int .i64 0), (.int .i64 0)]) 16 rfl Tryz.underlying26 info59 rfl (by decide) (by omega) u281004 x281004_1 (⟨0, a1⟩ : S59) [.int .i64 0, .int .i64 a1] (fun _ => True) (fun _ => False) rfl (by first | (go_simp; done) | (go_simp; rfl)) ?aP (fun _ hk => hk.elim) ?aF ?aO ?aB ?aS ?aL ?_; (case aP => exact k59_mkM _ _ _ (⟨0, a1⟩ : S59)); (case aB => exact (by repeat (first | (with_reducible first | exact HB.out | apply below_alloc | apply pw_below_drewN | apply below_drew1 | refine below_set ?_ GE276.out | refine below_set ?_ GE280.out) | exact HB.out))); (case aF => exact (fun _ _ => trivial)); (case aO => exact (by (with_reducible repeat (first | apply Kd.R_alloc | apply Kd.R_drewN | apply Kd.R_drew)); exact Kd.R_mono (Kd.R_far (p := ⟨gb280, 3, none⟩) (Kd.R_types HO_281004.out BK280.out (by decide)) (fun _ hk => hk.2) (.slice Ao16 y281.length co16)) (fun _ hk => trivial))); (case aS => exact (below_size (by repeat (first | (with_reducible first | exact HB.out | apply below_alloc | apply pw_below_drewN | apply below_drew1 | refine below_set ?_ GE276.out | refine below_set ?_ GE280.out) | exact HB.out)))); (case aL => have := LMc12.out; omega); intro v285 w18 ho hb hg hat; rw [← Ny284.out] at ho; have n0_ := Aside0.mk (Kd.R_over' (by (with_reducible repeat (first | apply Kd.R_alloc | apply Kd.R_drewN | apply Kd.R_drew)); exact (Kd.R_mono (Kd.R_far (p := ⟨gb280, 3, none⟩) (Kd.R_types HO_281002.out BK280.out (by decide)) (fun _ hk => hk.2) (.slice Ao16 y281.length co16)) (fun _ h_ => h_.1))) (Kd.R_typed (by (with_reducible repeat (first | apply Kd.R_alloc | apply Kd.R_drewN | apply Kd.R_drew)); exact (Kd.R_mono (Kd.R_far (p := ⟨gb280, 3, none⟩) (Kd.R_types HO_281004.out BK280.out (by decide)) (fun _ hk => hk.2) (.slice Ao16 y281.length co16)) (fun _ h_ => h_.1)))) (by decide) hg); have n1_ := Aside0.mk (blk_grown (g := gb276) (o := .cells #[.int .i64 0, .int .i64 0, .slice none 0 0, .slice none 0 0, .slice none 0 0] 35 (0, 0)) (by (with_reducible repeat (first | refine blk_drewN ?_ _ | refine blk_drew ?_ | refine blk_alloc ?_ _)); refine blk_far ?_ NB276_280.out _; (with_reducible repeat (first | refine blk_drewN ?_ _ | refine blk_drew ?_ | refine blk_alloc ?_ _)); exact BK276.out) hg (by first | exact Kd.R_ne HO_281004.out BK276.out (by decide) | exact fun e_ => absurd rfl (HO_281004.out.1 _ e_.symm).2 | exact fun e_ => absurd rfl (HO_281004.out.1 _ e_.symm).1.2)); have n2_ := Aside0.mk (blk_grown (g := gb280) (o := .cells #[.int .i64 100, .int .i64 2, .slice Ao6 y277.length co6, .slice Ao16 y281.length co16, u281004] 35 (0, 0)) (by (with_reducible repeat (first | refine blk_drewN ?_ _ | refine blk_drew ?_ | refine blk_alloc ?_ _)); refine blk_put (cs := #[.int .i64 100, .int .i64 2, .slice Ao6 y277.length co6, u281003, u281004]) ?_ 3 _ rfl; (with_reducible repeat (first | refine blk_drewN ?_ _ | refine blk_drew ?_ | refine blk_alloc ?_ _)); exact BK280.out) hg (by first | exact Kd.R_ne HO_281004.out BK280.out (by decide) | exact fun e_ => absurd rfl (HO_281004.out.1 _ e_.symm).2 | exact fun e_ => absurd rfl (HO_281004.out.1 _ e_.symm).1.2)); have n3_ := Aside0.mk (Kd.R_over' (by (with_reducible repeat (first | apply Kd.R_alloc | apply Kd.R_drewN | apply Kd.R_drew)); exact (Kd.R_mono (Kd.R_far (p := ⟨gb280, 3, none⟩) (Kd.R_types HO283.out BK280.out (by decide)) (fun _ hk => hk.2) (.slice Ao16 y281.length co16)) (fun _ h_ => h_.1))) (Kd.R_typed (by (with_reducible repeat (first | apply Kd.R_alloc | apply Kd.R_drewN | apply Kd.R_drew)); exact (Kd.R_mono (Kd.R_far (p := ⟨gb280, 3, none⟩) (Kd.R_types HO_281004.out BK280.out (by decide)) (fun _ hk => hk.2) (.slice Ao16 y281.length co16)) (fun _ h_ => h_.1)))) (by decide) hg); have n4_ := Aside0.mk (hb); have n5_ := Aside0.mk (ho); clear HO_281002; clear BK276; clear BK280; clear HO283; clear HB; clear HO_281004; have HO_281002 := n0_; have BK276 := n1_; have BK280 := n2_; have HO283 := n3_; have HB := n4_; have HO286 := n5_; clear n0_ n1_ n2_ n3_ n4_ n5_; clear ho hb hg hat; obtain ⟨Ao19, co19, eo19⟩ := Kd.R_slice HO286.out; subst eo19; have hcz20_0 : w18.cell? ⟨gb280, 0, none⟩ = some (.int .i64 100) := (blk_cell BK280.out 0).trans rfl; have hcz20_1 : w18.cell? ⟨gb280, 1, none⟩ = some (.int .i64 2) := (blk_cell BK280.out 1).trans rfl; have hcz20_2 : w18.cell? ⟨gb280, 2, none⟩ = some (.slice Ao6 y277.length co6) := (blk_cell BK280.out 2).trans rfl; have hcz20_3 : w18.cell? ⟨gb280, 3, none⟩ = some (.slice Ao16 y281.length co16) := (blk_cell BK280.out 3).trans rfl; have hcz20_4 : w18.cell? ⟨gb280, 4, none⟩ = some (u281004) := (blk_cell BK280.out 4).trans rfl; have hfz20_0 := blk_frozen BK280.out 0; have hfz20_1 := blk_frozen BK280.out 1; have hfz20_2 := blk_frozen BK280.out 2; have hfz20_3 := blk_frozen BK280.out 3; have hfz20_4 := blk_frozen BK280.out 4))
      go_roundg k1
      case measure => have := HK1.out; omega
      case rel => exact ⟨(wrap64 (x13_1 + 1)), (y281), (y284), (.slice Ao16 y281.length co16), (.slice Ao19 y284.length co19), (by first | rfl | (simp; done) | (simp [*]; done)), H', ⟨by have := HK1.out; omega⟩, ⟨by (with_reducible repeat (first | apply Kd.R_alloc | apply Kd.R_drewN | apply Kd.R_drew)); exact Kd.R_mono (Kd.R_far (p := ⟨gb280, 4, none⟩) (Kd.R_types HO_281002.out BK280.out (by decide)) (fun _ hk => hk.2) (.slice Ao19 y284.length co19)) (fun _ hk => trivial)⟩, ⟨by (with_reducible repeat (first | apply Kd.R_alloc | apply Kd.R_drewN | apply Kd.R_drew)); exact Kd.R_mono (Kd.R_far (p := ⟨gb280, 4, none⟩) (Kd.R_types HO283.out BK280.out (by decide)) (fun _ hk => hk.2) (.slice Ao19 y284.length co19)) (fun _ hk => trivial)⟩, ⟨by (with_reducible repeat (first | apply Kd.R_alloc | apply Kd.R_drewN | apply Kd.R_drew)); exact Kd.R_mono (Kd.R_far (p := ⟨gb280, 4, none⟩) (Kd.R_types HO286.out BK280.out (by decide)) (fun _ hk => hk.2) (.slice Ao19 y284.length co19)) (fun _ hk => trivial)⟩, ⟨by (with_reducible repeat (first | refine blk_drewN ?_ _ | refine blk_drew ?_ | refine blk_alloc ?_ _)); refine blk_far ?_ NB276_280.out _; (with_reducible repeat (first | refine blk_drewN ?_ _ | refine blk_drew ?_ | refine blk_alloc ?_ _)); exact BK276.out⟩, ⟨by (with_reducible repeat (first | refine blk_drewN ?_ _ | refine blk_drew ?_ | refine blk_alloc ?_ _)); refine blk_put (cs := #[.int .i64 100, .int .i64 2, .slice Ao6 y277.length co6, .slice Ao16 y281.length co16, u281004]) ?_ 4 _ rfl; (with_reducible repeat (first | refine blk_drewN ?_ _ | refine blk_drew ?_ | refine blk_alloc ?_ _)); exact BK280.out⟩, ⟨by repeat (first | (with_reducible first | exact HB.out | apply below_alloc | apply pw_below_drewN | apply below_drew1 | refine below_set ?_ GE276.out | refine below_set ?_ GE280.out) | exact HB.out)⟩⟩
     ·rw [if_neg c12] at H
      exact absurd H (by simp)
    ·rw [if_neg c11] at H
     exact absurd H (by simp)
   ·rw [if_neg c10] at H
    have c10b0 : decide (x13_1 < a0) = false := decide_eq_false c10
    clear c10
    simp only [Option.some.injEq, Prod.mk.injEq] at H
    obtain ⟨rfl, rfl, rfl, rfl, rfl⟩ := H
    have hnb21 := NB280_276.out
    have hnc21 := NB276_280.out
    have hcz22_0 : wr.cell? ⟨gb280, 0, none⟩ = some (.int .i64 100) := (blk_cell BK280.out 0).trans rfl
    have hcz22_1 : wr.cell? ⟨gb280, 1, none⟩ = some (.int .i64 2) := (blk_cell BK280.out 1).trans rfl
    have hcz22_2 : wr.cell? ⟨gb280, 2, none⟩ = some (.slice Ao6 y277.length co6) := (blk_cell BK280.out 2).trans rfl
    have hcz22_3 : wr.cell? ⟨gb280, 3, none⟩ = some (u281003) := (blk_cell BK280.out 3).trans rfl
    have hcz22_4 : wr.cell? ⟨gb280, 4, none⟩ = some (u281004) := (blk_cell BK280.out 4).trans rfl
    have hfz22_0 := blk_frozen BK280.out 0
    have hfz22_1 := blk_frozen BK280.out 1
    have hfz22_2 := blk_frozen BK280.out 2
    have hfz22_3 := blk_frozen BK280.out 3
    have hfz22_4 := blk_frozen BK280.out 4
    have hcz23_0 : wr.cell? ⟨gb276, 0, none⟩ = some (.int .i64 0) := (blk_cell BK276.out 0).trans rfl
    have hcz23_1 : wr.cell? ⟨gb276, 1, none⟩ = some (.int .i64 0) := (blk_cell BK276.out 1).trans rfl
    have hcz23_2 : wr.cell? ⟨gb276, 2, none⟩ = some (.slice none 0 0) := (blk_cell BK276.out 2).trans rfl
    have hcz23_3 : wr.cell? ⟨gb276, 3, none⟩ = some (.slice none 0 0) := (blk_cell BK276.out 3).trans rfl
    have hcz23_4 : wr.cell? ⟨gb276, 4, none⟩ = some (.slice none 0 0) := (blk_cell BK276.out 4).trans rfl
    have hfz23_0 := blk_frozen BK276.out 0
    have hfz23_1 := blk_frozen BK276.out 1
    have hfz23_2 := blk_frozen BK276.out 2
    have hfz23_3 := blk_frozen BK276.out 3
    have hfz23_4 := blk_frozen BK276.out 4
    obtain ⟨Ao24, co24, eo24⟩ := Kd.R_slice HO_281003.out
    subst eo24
    obtain ⟨Ao25, co25, eo25⟩ := Kd.R_slice HO_281004.out
    subst eo25
    go_wp2
    refine bodyPost_ret (results_cell_row rfl _ _ gb276 35 #[.int .i64 100, .int .i64 2, .slice Ao6 y277.length co6, .slice Ao24 x281003_1.length co24, .slice Ao25 x281004_1.length co25] (0, 0) _ rfl (by (with_reducible repeat (first | refine blk_drewN ?_ _ | refine blk_drew ?_ | refine blk_alloc ?_ _)); refine blk_put (cs := #[.int .i64 100, .int .i64 2, .slice Ao6 y277.length co6, .slice Ao24 x281003_1.length co24, .slice none 0 0]) ?_ 4 _ rfl; (with_reducible repeat (first | refine blk_drewN ?_ _ | refine blk_drew ?_ | refine blk_alloc ?_ _)); refine blk_put (cs := #[.int .i64 100, .int .i64 2, .slice Ao6 y277.length co6, .slice none 0 0, .slice none 0 0]) ?_ 3 _ rfl; (with_reducible repeat (first | refine blk_drewN ?_ _ | refine blk_drew ?_ | refine blk_alloc ?_ _)); refine blk_put (cs := #[.int .i64 100, .int .i64 2, .slice none 0 0, .slice none 0 0, .slice none 0 0]) ?_ 2 _ rfl; (with_reducible repeat (first | refine blk_drewN ?_ _ | refine blk_drew ?_ | refine blk_alloc ?_ _)); refine blk_put (cs := #[.int .i64 100, .int .i64 0, .slice none 0 0, .slice none 0 0, .slice none 0 0]) ?_ 1 _ rfl; (with_reducible repeat (first | refine blk_drewN ?_ _ | refine blk_drew ?_ | refine blk_alloc ?_ _)); refine blk_put (cs := #[.int .i64 0, .int .i64 0, .slice none 0 0, .slice none 0 0, .slice none 0 0]) ?_ 0 _ rfl; (with_reducible repeat (first | refine blk_drewN ?_ _ | refine blk_drew ?_ | refine blk_alloc ?_ _)); exact BK276.out) Tryz.underlying35 rfl (by kernel_rfl)) rfl ?_
    exact ⟨_, _, _, by first | rfl | (simp [errW_none, errW_some] <;> rfl) | (simp [*, errW_none, errW_some] <;> rfl), by (with_reducible repeat (first | apply Kd.R_alloc | apply Kd.R_drewN | apply Kd.R_drew)); exact Kd.R_mono (Kd.R_far (p := ⟨gb276, 4, none⟩) (Kd.R_far (p := ⟨gb276, 3, none⟩) (Kd.R_far (p := ⟨gb276, 2, none⟩) (Kd.R_far (p := ⟨gb276, 1, none⟩) (Kd.R_far (p := ⟨gb276, 0, none⟩) (Kd.R_types HO_281002.out BK276.out (by decide)) (fun _ hk => hk.2) (.int .i64 100)) (fun _ hk => hk.2) (.int .i64 2)) (fun _ hk => hk.2) (.slice Ao6 y277.length co6)) (fun _ hk => hk.2) (.slice Ao24 x281003_1.length co24)) (fun _ hk => hk.2) (.slice Ao25 x281004_1.length co25)) (fun _ hk => trivial), by (with_reducible repeat (first | apply Kd.R_alloc | apply Kd.R_drewN | apply Kd.R_drew)); exact Kd.R_mono (Kd.R_far (p := ⟨gb276, 4, none⟩) (Kd.R_far (p := ⟨gb276, 3, none⟩) (Kd.R_far (p := ⟨gb276, 2, none⟩) (Kd.R_far (p := ⟨gb276, 1, none⟩) (Kd.R_far (p := ⟨gb276, 0, none⟩) (Kd.R_types HO_281003.out BK276.out (by decide)) (fun _ hk => hk.2) (.int .i64 100)) (fun _ hk => hk.2) (.int .i64 2)) (fun _ hk => hk.2) (.slice Ao6 y277.length co6)) (fun _ hk => hk.2) (.slice Ao24 x281003_1.length co24)) (fun _ hk => hk.2) (.slice Ao25 x281004_1.length co25)) (fun _ hk => trivial), by (with_reducible repeat (first | apply Kd.R_alloc | apply Kd.R_drewN | apply Kd.R_drew)); exact Kd.R_mono (Kd.R_far (p := ⟨gb276, 4, none⟩) (Kd.R_far (p := ⟨gb276, 3, none⟩) (Kd.R_far (p := ⟨gb276, 2, none⟩) (Kd.R_far (p := ⟨gb276, 1, none⟩) (Kd.R_far (p := ⟨gb276, 0, none⟩) (Kd.R_types HO_281004.out BK276.out (by decide)) (fun _ hk => hk.2) (.int .i64 100)) (fun _ hk => hk.2) (.int .i64 2)) (fun _ hk => hk.2) (.slice Ao6 y277.length co6)) (fun _ hk => hk.2) (.slice Ao24 x281003_1.length co24)) (fun _ hk => hk.2) (.slice Ao25 x281004_1.length co25)) (fun _ hk => trivial), by repeat (first | (with_reducible first | exact HB.out | apply below_alloc | apply pw_below_drewN | apply below_drew1 | refine below_set ?_ GE276.out | refine below_set ?_ GE280.out) | exact HB.out)⟩
def exT : List S61 := [⟨⟨1000, 1000⟩, 95, 10⟩]
def exX : List S64 := [⟨0, 20, 35⟩]
def exX2 : List S64 := [⟨0, 20, 35⟩, ⟨1, 20, 35⟩]
def exI : List S59 := [⟨0, 2000⟩]
def exI2 : List S59 := [⟨0, 2000⟩, ⟨0, 2000⟩]
def exI7 : List S59 := [⟨0, 700⟩]
theorem num_const : leftR 100 2 exT [] [z59] = ([⟨56, 76⟩], 0) := by kernel_rfl
theorem num_left : leftR 100 2 exT exX exI = ([⟨56, 76⟩], 0) := by kernel_rfl
theorem num_case : caseR 100 2 exT exX exI = (56, [728], true, 0) := by kernel_rfl
theorem num_attain : attainR 100 2 exT exX exI 0 1367 = (76, [1367], true, 0) := by kernel_rfl
theorem num_check : checkR 100 2 exT exX exI 76 [1367] = 0 := by kernel_rfl
theorem num_check2 : checkR 100 2 exT exX exI 75 [1367] = 52 := by kernel_rfl
theorem num_clash : clashR 100 2 exT exX exI7 = ([0], [0], true, 0) := by kernel_rfl
theorem num_ex1 : acreagelaw05_example.f 4 1 2000 = some (100, 2, exT, exX, exI) := by kernel_rfl
theorem num_ex2 : acreagelaw05_example.f 4 2 2000 = some (100, 2, exT, exX2, exI2) := by kernel_rfl
theorem num_ex7 : acreagelaw05_example.f 4 1 700 = some (100, 2, exT, exX, exI7) := by kernel_rfl
end Go.Proofs.YtgakfgedaipdmaaGreatDoor.P
namespace Go.Proofs.YtgakfgedaipdmaaGreatDoor.P
open Go.RowKit Go.Proofs.YtgakfgedaipdmaaGreatDoorW.PrintWords
set_option linter.unusedVariables false
set_option linter.unusedSimpArgs false
theorem ex_field (c : Int) (h0 : 56 ≤ c) (h1 : c ≤ 76) (l3 : List S59) (dss : List (List Int)) (i : Nat) (h3 : l3.getD i z59 = ⟨0, 2000⟩) (hd : dss.getD i [] = [15]) : fieldAt 100 2 c l3 dss i = ([⟨13 * c, 18 * c - 1⟩], 0) := by
 unfold fieldAt
 rw [h3, hd]
 unfold areasR
 rw [show runsIn (areaCan 100 2 [15] c) 0 2000 = [⟨13 * c, 18 * c - 1⟩] from ?_]
 ·rfl
 ·refine runsIn_eq ⟨fun s hs => ?_, List.pairwise_singleton _ _⟩ fun x => ?_
  ·rw [List.mem_singleton.1 hs]
   show 13 * c ≤ 18 * c - 1
   omega
  ·rw [memR_cons]
   show (13 * c ≤ x ∧ x ≤ 18 * c - 1) ∨ memR x [] ↔ 0 ≤ x ∧ x ≤ 2000 ∧ areaCan 100 2 [15] c x = true
   have cp : 0 < c := by omega
   have e13 : 13 ≤ x / c ↔ 13 * c ≤ x := le_div cp
   have e18 : x / c < 18 ↔ x < 18 * c := div_lt cp
   have e36 : x / c < 36 ↔ x < 36 * c := div_lt cp
   have hcan : areaCan 100 2 [15] c x = true ↔ 0 ≤ x / c ∧ 0 ≤ x / c - 15 + 2 ∧ (x / c - 15 + 2) % 100 ≤ 2 * 2 := by
    unfold areaCan
    rw [canAll_iff]
    constructor
    ·exact fun h => can_iff.1 (h 15 List.mem_cons_self)
    ·intro h d hd
     rw [List.mem_singleton.1 hd]
     exact can_iff.2 h
   rw [hcan]
   constructor
   ·rintro (⟨k1, k2⟩ | h)
    ·have a1 := e13.2 k1
     have a2 := e18.2 (by omega)
     exact ⟨by omega, by omega, by omega, by omega, by omega⟩
    ·exact absurd h memR_nil
   ·rintro ⟨k1, k2, k3, k4, k5⟩
    have a3 := e36.2 (by omega)
    have a2 : x / c < 18 := by omega
    exact .inl ⟨e13.1 (by omega), by have := e18.1 a2; omega⟩
theorem colR_congr {g G : Int → List S59 × Int} {ps : List (Int × List Int)} (h : ∀ p ∈ ps, g p.1 = G p.1) : colR g ps = colR G ps := by
 induction ps with
 |nil => rfl
 |cons p ps ih =>
  have h1 := h p List.mem_cons_self
  have h2 : ps.any (fun p => decide ((g p.1).2 ≠ 0)) = ps.any (fun p => decide ((G p.1).2 ≠ 0)) ∧ ps.flatMap (fun p => (g p.1).1) = ps.flatMap (fun p => (G p.1).1) := by
   clear ih
   induction ps with
   |nil => exact ⟨rfl, rfl⟩
   |cons q ps ih =>
    have hq := h q (List.mem_cons_of_mem _ List.mem_cons_self)
    obtain ⟨i1, i2⟩ := ih (fun r hr => h r (by rcases List.mem_cons.1 hr with rfl | hr; exact List.mem_cons_self; exact List.mem_cons_of_mem _ (List.mem_cons_of_mem _ hr)))
    rw [List.any_cons, List.any_cons, i1, List.flatMap_cons, List.flatMap_cons, i2, hq]
    exact ⟨rfl, rfl⟩
  unfold colR
  rw [List.any_cons, List.any_cons, h2.1, List.flatMap_cons, List.flatMap_cons, h2.2, h1]
def exPs : List (Int × List Int) := (List.range 21).map fun (k : Nat) => (56 + (k : Int), [13 * (56 + (k : Int))])
def exPs2 : List (Int × List Int) := (List.range 21).map fun (k : Nat) => (56 + (k : Int), [13 * (56 + (k : Int)), 13 * (56 + (k : Int))])
theorem ex_left : leftTo 100 2 exT exI (dists 100 exX exI.length) 1000 = exPs := by kernel_rfl
theorem ex_left2 : leftTo 100 2 exT exI2 (dists 100 exX2 exI2.length) 1000 = exPs2 := by kernel_rfl
theorem exPs_bd : ∀ p ∈ exPs, 56 ≤ p.1 ∧ p.1 ≤ 76 := by
 intro p hp
 obtain ⟨k, hk, rfl⟩ := List.mem_map.1 hp
 have := List.mem_range.1 hk
 show (56 : Int) ≤ 56 + (k : Int) ∧ 56 + (k : Int) ≤ 76
 omega
theorem exPs2_bd : ∀ p ∈ exPs2, 56 ≤ p.1 ∧ p.1 ≤ 76 := by
 intro p hp
 obtain ⟨k, hk, rfl⟩ := List.mem_map.1 hp
 have := List.mem_range.1 hk
 show (56 : Int) ≤ 56 + (k : Int) ∧ 56 + (k : Int) ≤ 76
 omega
theorem num_field : fieldR 100 2 exT exX exI 0 = ([⟨728, 1367⟩], 0) := by
 unfold fieldR
 rw [if_pos (by kernel_rfl), ex_left, colR_congr (G := fun c => ([⟨13 * c, 18 * c - 1⟩], 0)) (fun p hp => ex_field p.1 (exPs_bd p hp).1 (exPs_bd p hp).2 exI _ 0 rfl (by kernel_rfl))]
 kernel_rfl
theorem num_tog : togR 100 2 exT exX2 exI2 0 1 = ([⟨1456, 2734⟩], 0) := by
 unfold togR
 rw [if_pos (by kernel_rfl), if_neg (by decide), ex_left2, colR_congr (G := fun c => ([⟨13 * c + 13 * c, 18 * c - 1 + (18 * c - 1)⟩], 0)) (fun p hp => by
  unfold togAt
  obtain ⟨h0, h1⟩ := exPs2_bd p hp
  rw [ex_field p.1 h0 h1 exI2 _ _ rfl (by kernel_rfl), ex_field p.1 h0 h1 exI2 _ _ rfl (by kernel_rfl)]
  rfl)]
 kernel_rfl
end Go.Proofs.YtgakfgedaipdmaaGreatDoor.P
