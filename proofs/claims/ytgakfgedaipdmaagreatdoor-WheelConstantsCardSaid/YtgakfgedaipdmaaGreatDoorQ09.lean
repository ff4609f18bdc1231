/- A part of the proof. -/
import Derived.Test.YtgakfgedaipdmaaGreatDoorQ08
namespace Go.Proofs.YtgakfgedaipdmaaGreatDoor.P
open Go.RowKit Go.Shelf Go.Proofs.YtgakfgedaipdmaaGreatDoorW.PrintWords Go.Proofs.YtgakfgedaipdmaaGreatDoorW.PrintLast Go.Proofs.YtgakfgedaipdmaaGreatDoorW.PrintMore
set_option linter.unusedVariables false
set_option linter.unusedSimpArgs false
attribute [local go_sem] Oper.semAt_some
theorem opErr_zero {D S : Int} {l1 : List S61} {l2 : List S64} {l3 : List S59} (h : opErr D S l1 l2 l3 = 0) :
  wOk D S ∧ (∀ x ∈ l1, trialOk D x = true) ∧ (∀ s ∈ l3, spanOk s = true) ∧ l1.length ≤ 16 ∧ l2.length ≤ 16 ∧ 1 ≤ l3.length ∧ l3.length ≤ 8 ∧ ∀ y ∈ l2, badRead D l3.length y = false := by
 unfold opErr at h
 cases h1 : wOkB D S with
 |false => rw [h1] at h; simp at h
 |true =>
  rw [h1] at h
  simp only [if_true] at h
  cases h2 : (!fewOk l3 || l3.any fun s => !spanOk s) with
  |true => rw [h2] at h; simp at h
  |false =>
   rw [h2] at h
   cases h3 : (decide (16 < l1.length) || decide (16 < l2.length)) with
   |true => rw [h3] at h; simp at h
   |false =>
    rw [h3] at h
    cases h4 : l1.any fun x => !trialOk D x with
    |true => rw [h4] at h; simp at h
    |false =>
     rw [h4] at h
     cases h5 : l2.any (badRead D l3.length) with
     |true => rw [h5] at h; simp at h
     |false =>
      simp only [Bool.or_eq_false_iff, decide_eq_false_iff_not, List.any_eq_false, Bool.not_eq_true', Bool.not_eq_false', fewOk, Bool.and_eq_true, decide_eq_true_eq] at h2 h3 h4 h5
      refine ⟨by simpa [wOkB] using h1, fun x hx => by simpa using h4 x hx, fun s hs => by simpa using h2.2 s hs, by omega, by omega, h2.1.1, h2.1.2, fun y hy => by simpa using h5 y hy⟩
theorem distOf_ok {D : Int} (hD : 0 < D) (l2 : List S64) (hl : l2.length ≤ 16) (i : Nat) : dsOk D (distOf D l2 i) := by
 unfold distOf
 refine ⟨?_, fun d hd => ?_⟩
 ·rw [List.length_map]
  have := List.length_filter_le (fun y : S64 => decide (y.f0 = (i : Int))) l2
  omega
 ·obtain ⟨y, _, rfl⟩ := List.mem_map.1 hd
  exact wDist_bd hD
theorem inqOk_of {D S : Int} {l1 : List S61} {l2 : List S64} {l3 : List S59} (h : opErr D S l1 l2 l3 = 0) : InqOk D S l1 l3 (dists D l2 l3.length) := by
 obtain ⟨h1, h2, h3, h4, h5, h6, h7, h8⟩ := opErr_zero h
 refine ⟨h1, h2, h3, dists_length _ _ _, fun d hd => ?_, h4, h6, h7⟩
 unfold dists at hd
 obtain ⟨i, _, rfl⟩ := List.mem_map.1 hd
 exact distOf_ok (by have := h1.1; omega) l2 h5 i
def pairAt (D S : Int) (l1 : List S61) (l3 : List S59) (dss : List (List Int)) (k : Nat) : Option (Int × List Int) := (firstP D S ((k : Int) + 1) l1 l3 dss).map fun a => ((k : Int) + 1, a)
def leftTo (D S : Int) (l1 : List S61) (l3 : List S59) (dss : List (List Int)) (m : Nat) : List (Int × List Int) := (List.range m).filterMap (pairAt D S l1 l3 dss)
theorem leftTo_succ (D S : Int) (l1 : List S61) (l3 : List S59) (dss : List (List Int)) (m : Nat) : leftTo D S l1 l3 dss (m + 1) = leftTo D S l1 l3 dss m ++ (pairAt D S l1 l3 dss m).toList := by
 unfold leftTo
 rw [List.range_succ, List.filterMap_append]
 cases h : pairAt D S l1 l3 dss m <;> simp [h]
theorem leftTo_skip {D S : Int} {l1 : List S61} {l3 : List S59} {dss : List (List Int)} {c : Int} (h0 : 1 ≤ c) (h : firstP D S c l1 l3 dss = none) : leftTo D S l1 l3 dss ((c + 1).toNat - 1) = leftTo D S l1 l3 dss (c.toNat - 1) := by
 have e : (c + 1).toNat - 1 = (c.toNat - 1) + 1 := by omega
 rw [e, leftTo_succ, pairAt]
 have e2 : ((c.toNat - 1 : Nat) : Int) + 1 = c := by omega
 rw [e2, h]
 simp
theorem leftTo_step {D S : Int} {l1 : List S61} {l3 : List S59} {dss : List (List Int)} {c : Int} {a : List Int} (h0 : 1 ≤ c) (h : firstP D S c l1 l3 dss = some a) : leftTo D S l1 l3 dss ((c + 1).toNat - 1) = leftTo D S l1 l3 dss (c.toNat - 1) ++ [(c, a)] := by
 have e : (c + 1).toNat - 1 = (c.toNat - 1) + 1 := by omega
 rw [e, leftTo_succ, pairAt]
 have e2 : ((c.toNat - 1 : Nat) : Int) + 1 = c := by omega
 rw [e2, h]
 rfl
theorem leftTo_pre (D S : Int) (l1 : List S61) (l3 : List S59) (dss : List (List Int)) {m n : Nat} (h : m ≤ n) : ∃ r, leftTo D S l1 l3 dss n = leftTo D S l1 l3 dss m ++ r := by
  induction n with
  | zero => obtain rfl : m = 0 := by omega
            exact ⟨[], by simp⟩
  | succ n ih =>
    by_cases e : m = n + 1
    · subst e; exact ⟨[], by simp⟩
    · obtain ⟨r, hr⟩ := ih (by omega)
      exact ⟨r ++ (pairAt D S l1 l3 dss n).toList, by rw [leftTo_succ, hr, List.append_assoc]⟩
theorem leftTo_mem {D S : Int} {l1 : List S61} {l3 : List S59} {dss : List (List Int)} {m : Nat} {p : Int × List Int} (h : p ∈ leftTo D S l1 l3 dss m) : 1 ≤ p.1 ∧ p.1 ≤ m ∧ firstP D S p.1 l1 l3 dss = some p.2 := by
 obtain ⟨k, hk, hp⟩ := List.mem_filterMap.1 h
 unfold pairAt at hp
 obtain ⟨a, ha, rfl⟩ := Option.map_eq_some_iff.1 hp
 have := List.mem_range.1 hk
 exact ⟨by show (1 : Int) ≤ (k : Int) + 1; omega, by show (k : Int) + 1 ≤ (m : Int); omega, ha⟩
theorem alloc5 (w : World) (o0 o1 o2 o3 o4 : Obj) : (((((w.alloc o0).alloc o1).alloc o2).alloc o3).alloc o4).heap.size = w.heap.size + 5 ∧
  (((((w.alloc o0).alloc o1).alloc o2).alloc o3).alloc o4).heap[w.heap.size + 1]? = some o1 ∧ (((((w.alloc o0).alloc o1).alloc o2).alloc o3).alloc o4).heap[w.heap.size + 1 + 1]? = some o2 ∧
  (((((w.alloc o0).alloc o1).alloc o2).alloc o3).alloc o4).heap[w.heap.size + 1 + 1 + 1]? = some o3 ∧ (((((w.alloc o0).alloc o1).alloc o2).alloc o3).alloc o4).heap[w.heap.size + 1 + 1 + 1 + 1]? = some o4 := by
 have h1 := blk_new (w.alloc o0) o1
 have h2 := blk_new ((w.alloc o0).alloc o1) o2
 have h3 := blk_new (((w.alloc o0).alloc o1).alloc o2) o3
 have h4 := blk_new ((((w.alloc o0).alloc o1).alloc o2).alloc o3) o4
 simp only [World.size_alloc] at h1 h2 h3 h4
 have hb := fun (W : World) (o : Obj) => Below.alloc (Below.refl W.heap.size W) (Nat.le_refl _) o
 exact ⟨by simp only [World.size_alloc], blk_below (blk_below (blk_below h1 (hb _ _)) (hb _ _)) (hb _ _), blk_below (blk_below h2 (hb _ _)) (hb _ _), blk_below h3 (hb _ _), h4⟩
theorem results22 {tmps : Array Value} {W : World} {b8 b9 b10 b11 : Nat} {v8 v9 v10 v11 : Value} (h8 : tmps[8]?.getD undef = .pointer (some ⟨b8, 0, none⟩)) (h9 : tmps[9]?.getD undef = .pointer (some ⟨b9, 0, none⟩)) (h10 : tmps[10]?.getD undef = .pointer (some ⟨b10, 0, none⟩)) (h11 : tmps[11]?.getD undef = .pointer (some ⟨b11, 0, none⟩))
  (x8 : Boxed W b8 3 v8) (x9 : Boxed W b9 36 v9) (x10 : Boxed W b10 4 v10) (x11 : Boxed W b11 28 v11) : (results Tryz.f22 tmps).run Tryz.prog W = .ok (.tuple #[v8, v9, v10, v11]) W := by
 have c8 := x8.cell
 have c9 := x9.cell
 have c10 := x10.cell
 have c11 := x11.cell
 simp [results, show Tryz.f22.results = #[ResultVar.cell 8 3, ResultVar.cell 9 36, ResultVar.cell 10 4, ResultVar.cell 11 28] from rfl, go_sem, h8, h9, h10, h11, c8, c9, c10, c11]
theorem set4 {W : World} {n : Nat} {u8 u9 u10 u11 : Value} (x8 : Boxed W (n + 1) 3 u8) (x9 : Boxed W (n + 1 + 1) 36 u9) (x10 : Boxed W (n + 1 + 1 + 1) 4 u10) (x11 : Boxed W (n + 1 + 1 + 1 + 1) 28 u11) (v8 v9 v10 v11 : Value) :
  Boxed ((((W.setCell ⟨n + 1, 0, none⟩ v8).setCell ⟨n + 1 + 1, 0, none⟩ v9).setCell ⟨n + 1 + 1 + 1, 0, none⟩ v10).setCell ⟨n + 1 + 1 + 1 + 1, 0, none⟩ v11) (n + 1) 3 v8 ∧
  Boxed ((((W.setCell ⟨n + 1, 0, none⟩ v8).setCell ⟨n + 1 + 1, 0, none⟩ v9).setCell ⟨n + 1 + 1 + 1, 0, none⟩ v10).setCell ⟨n + 1 + 1 + 1 + 1, 0, none⟩ v11) (n + 1 + 1) 36 v9 ∧
  Boxed ((((W.setCell ⟨n + 1, 0, none⟩ v8).setCell ⟨n + 1 + 1, 0, none⟩ v9).setCell ⟨n + 1 + 1 + 1, 0, none⟩ v10).setCell ⟨n + 1 + 1 + 1 + 1, 0, none⟩ v11) (n + 1 + 1 + 1) 4 v10 ∧
  Boxed ((((W.setCell ⟨n + 1, 0, none⟩ v8).setCell ⟨n + 1 + 1, 0, none⟩ v9).setCell ⟨n + 1 + 1 + 1, 0, none⟩ v10).setCell ⟨n + 1 + 1 + 1 + 1, 0, none⟩ v11) (n + 1 + 1 + 1 + 1) 28 v11 ∧
  Below n W ((((W.setCell ⟨n + 1, 0, none⟩ v8).setCell ⟨n + 1 + 1, 0, none⟩ v9).setCell ⟨n + 1 + 1 + 1, 0, none⟩ v10).setCell ⟨n + 1 + 1 + 1 + 1, 0, none⟩ v11) ∧
  KeepsOthers W ((((W.setCell ⟨n + 1, 0, none⟩ v8).setCell ⟨n + 1 + 1, 0, none⟩ v9).setCell ⟨n + 1 + 1 + 1, 0, none⟩ v10).setCell ⟨n + 1 + 1 + 1 + 1, 0, none⟩ v11) := by
 have a8 := ((x8.set v8).other (B' := n + 1 + 1) (by omega) v9 |>.other (B' := n + 1 + 1 + 1) (by omega) v10).other (B' := n + 1 + 1 + 1 + 1) (by omega) v11
 have a9 := (((x9.other (B' := n + 1) (by omega) v8).set v9).other (B' := n + 1 + 1 + 1) (by omega) v10).other (B' := n + 1 + 1 + 1 + 1) (by omega) v11
 have a10 := (((x10.other (B' := n + 1) (by omega) v8).other (B' := n + 1 + 1) (by omega) v9).set v10).other (B' := n + 1 + 1 + 1 + 1) (by omega) v11
 have a11 := (((x11.other (B' := n + 1) (by omega) v8).other (B' := n + 1 + 1) (by omega) v9).other (B' := n + 1 + 1 + 1) (by omega) v10).set v11
 refine ⟨a8, a9, a10, a11, ?_, ?_⟩
 ·exact ((((Below.refl n W).setCell (p := ⟨n + 1, 0, none⟩) (show n ≤ n + 1 from by omega) v8).setCell (p := ⟨n + 1 + 1, 0, none⟩) (show n ≤ n + 1 + 1 from by omega) v9).setCell (p := ⟨n + 1 + 1 + 1, 0, none⟩) (show n ≤ n + 1 + 1 + 1 from by omega) v10).setCell (p := ⟨n + 1 + 1 + 1 + 1, 0, none⟩) (show n ≤ n + 1 + 1 + 1 + 1 from by omega) v11
 ·exact (((KeepsOthers.setCell _ _ _).trans (KeepsOthers.setCell _ _ _)).trans (KeepsOthers.setCell _ _ _)).trans (KeepsOthers.setCell _ _ _)
theorem R_set4 {α : Type} {d : Kd α} {e B : Nat} {ok : Nat → Prop} {W : World} {v : Value} {xs : List α} {n : Nat} (h : d.R e W B ok v xs) (hB : n + 5 ≤ B) (v8 v9 v10 v11 : Value) :
  d.R e ((((W.setCell ⟨n + 1, 0, none⟩ v8).setCell ⟨n + 1 + 1, 0, none⟩ v9).setCell ⟨n + 1 + 1 + 1, 0, none⟩ v10).setCell ⟨n + 1 + 1 + 1 + 1, 0, none⟩ v11) B ok v xs :=
 Kd.R_mono (Kd.R_move (Kd.R_bound h) (fun k hk => by
  have h1 := hk.2.1
  rw [Below.heap_setCell _ _ _ _ (by show k ≠ n + 1 + 1 + 1 + 1; omega), Below.heap_setCell _ _ _ _ (by show k ≠ n + 1 + 1 + 1; omega), Below.heap_setCell _ _ _ _ (by show k ≠ n + 1 + 1; omega), Below.heap_setCell _ _ _ _ (by show k ≠ n + 1; omega)])) (fun _ hk => hk.1)
theorem Boxed.putDef {W : World} {b t E : Nat} {v : Value} {ds : Option (List Deferred)} (h : Boxed W b t v) (hK : W.heap[E]? = some (.deferred ds)) (o : Obj) : Boxed (W.putObj E o) b t v :=
 (boxed_own b t (fun _ : Unit => v)).putObj (s := ()) o h hK rfl
theorem below_putDef {W w0 : World} {n E : Nat} (h : Below n w0 W) (hn : n ≤ W.heap.size) (hE : n ≤ E) (o : Obj) : Below n w0 (W.putObj E o) := h.grown (grownBy_putObj' W E o) hn (fun k e => by cases e; exact hE)
theorem head_left {D S : Int} {l1 : List S61} {l3 : List S59} {dss : List (List Int)} {c : Int} {a : List Int} (g1 : 1 ≤ c) (g2 : c ≤ 1000) (h0 : leftTo D S l1 l3 dss (c.toNat - 1) = []) (hf : firstP D S c l1 l3 dss = some a) : (leftTo D S l1 l3 dss 1000).head? = some (c, a) := by
 obtain ⟨r, hr⟩ := leftTo_pre D S l1 l3 dss (show (c + 1).toNat - 1 ≤ 1000 by omega)
 rw [hr, leftTo_step g1 hf, h0]
 rfl
theorem R_ownFrom {α β : Type} (d : Kd α) (e B base : Nat) (ok : Nat → Prop) (v : Value) (xs : List α) : OwnFrom B (fun (_ : β) W => d.R e W base ok v xs) := fun _ W W' row h hg hr =>
 Kd.R_mono (Kd.R_move (Kd.R_bound h) (fun k hk => by
  obtain ⟨_, _, _, q, _, cells, hc⟩ := hk
  exact grownBy_keeps_cells hg (fun r e => (hr r e).2) hc rfl)) (fun _ hk => hk.1)
theorem own_ex {β γ : Type} {B : Nat} {I : γ → β → World → Prop} (h : ∀ g, OwnFrom B (I g)) : OwnFrom B (fun s W => ∃ g, I g s W) := fun s W W' row hs hg hr => by
 obtain ⟨g, hs⟩ := hs
 exact ⟨g, h g s W W' row hs hg hr⟩
theorem boxed_of_blk {W : World} {b t : Nat} {v : Value} (h : W.heap[b]? = some (.cells #[v] t (0, 0))) : Boxed W b t v := h
theorem Boxed.below {W W1 : World} {b t : Nat} {v : Value} (h : Boxed W b t v) (hB : Below W.heap.size W W1) : Boxed W1 b t v := blk_below h hB
theorem inq_alloc {W : World} {b : Nat} {D S : Int} {A1 A3 : Option Addr} {c1 c3 : Nat} {l1 : List S61} {l3 : List S59} {dss : List (List Int)} (h : Inq W b D S A1 c1 l1 A3 c3 l3 dss) (o : Obj) : Inq (W.alloc o) b D S A1 c1 l1 A3 c3 l3 dss := h.below (Below.alloc (Below.refl _ _) (Nat.le_refl _) o)
def CaseIx (D S : Int) (l1 : List S61) (l3 : List S59) (dss : List (List Int)) (w : World) (code : Code) (W : World) : Prop :=
 code = .ret ∧ ∃ (c : Int) (a : List Int) (v : Value), (leftTo D S l1 l3 dss 1000).head? = some (c, a) ∧ Boxed W (w.heap.size + 1) 3 (.int .i64 c) ∧ Boxed W (w.heap.size + 1 + 1) 36 v ∧ Boxed W (w.heap.size + 1 + 1 + 1) 4 (.bool true) ∧ Boxed W (w.heap.size + 1 + 1 + 1 + 1) 28 (.int .i64 0) ∧ Kd.R (Kd.int .i64) 3 W w.heap.size (fun _ => True) v a ∧ Below w.heap.size w W
theorem CaseIx.own (D S : Int) (l1 : List S61) (l3 : List S59) (dss : List (List Int)) (w : World) (code : Code) (B : Nat) (hB : w.heap.size ≤ B) : OwnFrom B (fun (_ : Unit) W => CaseIx D S l1 l3 dss w code W) := by
 refine OwnFrom.and (ownFrom_pure B (fun _ => code = .ret)) (own_ex fun c => own_ex fun a => own_ex fun v => ?_)
 refine OwnFrom.and (ownFrom_pure B (fun _ => _)) ?_
 exact OwnFrom.and ((boxed_own _ _ (fun _ => _)).from B) (OwnFrom.and ((boxed_own _ _ (fun _ => _)).from B) (OwnFrom.and ((boxed_own _ _ (fun _ => _)).from B) (OwnFrom.and ((boxed_own _ _ (fun _ => _)).from B) (OwnFrom.and (R_ownFrom _ _ _ _ _ _ _) (ownFrom_below (Nat.le_refl _) hB)))))
def caseR (D S : Int) (l1 : List S61) (l2 : List S64) (l3 : List S59) : Int × List Int × Bool × Int :=
 if opErr D S l1 l2 l3 = 0 then
  match (leftTo D S l1 l3 (dists D l2 l3.length) 1000).head? with
  |some p => (p.1, p.2, true, 0)
  |none => (0, [], false, 0)
 else (0, [], false, opErr D S l1 l2 l3)
def wheel_Case.f (D S : Int) (l1 : List S61) (l2 : List S64) (l3 : List S59) : Option (Int × List Int × Bool × Int) := some (caseR D S l1 l2 l3)
set_option maxHeartbeats 8000000 in
set_option maxRecDepth 100000 in
theorem wheel_Case.calls (D S : Int) (A1 : Option Addr) (c1 : Nat) (l1 : List S61) (A2 : Option Addr) (c2 : Nat) (l2 : List S64) (A3 : Option Addr) (c3 : Nat) (l3 : List S59) (r0 : Int) (r1 : List Int) (r2 : Bool) (r3 : Int) (w : World) (hr1 : Kd.C k61 w A1 l1.length l1) (hc1 : l1.length ≤ c1) (hr2 : Kd.C k64 w A2 l2.length l2) (hc2 : l2.length ≤ c2) (hr3 : Kd.C k59 w A3 l3.length l3) (hc3 : l3.length ≤ c3) (h : wheel_Case.f D S l1 l2 l3 = some (r0, r1, r2, r3)) :
  Calls Tryz.prog 22 #[.agg #[.int .i64 D, .int .i64 S], .slice A1 l1.length c1, .slice A2 l2.length c2, .slice A3 l3.length c3] w fun e w' => ∃ v1_ : Value, e = .returned (.tuple #[.int .i64 r0, v1_, .bool r2, .int .i64 r3]) ∧ Kd.R (Kd.int .i64) 3 w' w.heap.size (fun _ => True) v1_ r1 ∧ Below w.heap.size w w' := by
 have hop := fun W (hB : Below w.heap.size w W) => opened_any D S A1 c1 l1 A2 c2 l2 A3 c3 l3 W (Kd.C_below hr1 hB) hc1 (Kd.C_below hr2 hB) hc2 (Kd.C_below hr3 hB) hc3
 have HR1 := Aside0.mk hr1
 have HR3 := Aside0.mk hr3
 have H := Aside0.mk h
 clear h hr1 hr2 hr3 hc1 hc2 hc3
 refine (callsIn_wide (n := 5)).1 ?_
 refine callsIn_of_wp_marks Tryz.func22 rfl trivial ?_ rfl
 simp only [Tryz.ntmps22, List.size_toArray, List.length_cons, List.length_nil, Nat.reduceAdd, Nat.reduceSub, Array.replicate_succ, Array.replicate_zero, List.push_toArray, List.append_toArray, List.nil_append, List.cons_append]
 by_cases he : opErr D S l1 l2 l3 = 0
 ·have hop2 := fun W (hB : Below w.heap.size w W) => (hop W hB).mono (R' := fun e w' => Below W.heap.size W w' ∧ Below w.heap.size w w' ∧ ∃ b, W.heap.size ≤ b ∧ e = .returned (.tuple #[.pointer (some ⟨b, 0, none⟩), .int .i64 0]) ∧ InqAt w' b D S A1 l1.length c1 A3 l3.length c3 (dists D l2 l3.length)) (fun e w' h => by
   obtain ⟨hb, (⟨h0, _⟩ | ⟨_, h⟩)⟩ := h
   ·exact absurd he h0
   ·exact ⟨hb, below_weaken hB hB.size hb, h⟩)
  clear hop
  have HE := Aside0.mk he
  clear he
  gi_wp2_with (first | (refine ⟨trivial, ?_⟩; gi_at_call 68; refine (callsIn_wide.2 (hop2 _ (by repeat (first | exact Below.refl _ _ | apply below_alloc)))).mono ?_; clear hop2; rintro e W2 ⟨hb, hbw, qb, hqb, rfl, hq⟩; have x8 : Boxed _ _ _ _ := blk_below (alloc5 w _ _ _ _ _).2.1 hb; have x9 : Boxed _ _ _ _ := blk_below (alloc5 w _ _ _ _ _).2.2.1 hb; have x10 : Boxed _ _ _ _ := blk_below (alloc5 w _ _ _ _ _).2.2.2.1 hb; have x11 : Boxed _ _ _ _ := blk_below (alloc5 w _ _ _ _ _).2.2.2.2 hb; have hb2 := Aside0.mk hbw; have hs := hbw.size; have X8 := Aside0.mk x8; have X9 := Aside0.mk x9; have X10 := Aside0.mk x10; have X11 := Aside0.mk x11; replace x8 := And.intro x8.cell x8.frozen; replace x9 := And.intro x9.cell x9.frozen; replace x10 := And.intro x10.cell x10.frozen; replace x11 := And.intro x11.cell x11.frozen; clear hb hbw) | (refine ⟨trivial, ?_⟩; gi_at_call 73; refine (left_in 4 qb W2).mono ?_; rintro e W3 ⟨rfl, rfl⟩))
  obtain ⟨n, hn⟩ : ∃ n, n = w.heap.size := ⟨_, rfl⟩
  have hx := boxed_of_blk (blk_new W2 (.cells #[.pointer (some ⟨qb, 0, none⟩)] 102))
  have HI := inq_alloc (Inq.mk hq (Kd.C_below HR1.out hb2.out) (Kd.C_below HR3.out hb2.out)) (.cells #[.pointer (some ⟨qb, 0, none⟩)] 102)
  have Y8 := X8.out.alloc (.cells #[.pointer (some ⟨qb, 0, none⟩)] 102)
  have Y9 := X9.out.alloc (.cells #[.pointer (some ⟨qb, 0, none⟩)] 102)
  have Y10 := X10.out.alloc (.cells #[.pointer (some ⟨qb, 0, none⟩)] 102)
  have Y11 := X11.out.alloc (.cells #[.pointer (some ⟨qb, 0, none⟩)] 102)
  have hb3 := hb2.out.alloc hs (.cells #[.pointer (some ⟨qb, 0, none⟩)] 102)
  have hs3 : (W2.alloc (.cells #[.pointer (some ⟨qb, 0, none⟩)] 102)).heap.size = W2.heap.size + 1 := World.size_alloc _ _
  obtain ⟨W3, hW3⟩ : ∃ W3, W2.alloc (.cells #[.pointer (some ⟨qb, 0, none⟩)] 102) = W3 := ⟨_, rfl⟩
  rw [hW3] at hx HI Y8 Y9 Y10 Y11 hb3 hs3 ⊢
  have HW3 := Aside0.mk (show w.heap.size + 5 ≤ W3.heap.size by have := Y11.lt; omega)
  clear hW3 x8 x9 x10 x11 X8 X9 X10 X11
  refine wpIn_rangeLeft W2.heap.size qb W3.heap.size (D := D) (S := S) (A1 := A1) (c1 := c1) (l1 := l1) (A3 := A3) (c3 := c3) (l3 := l3) (dss := dists D l2 l3.length) rfl rfl (inqOk_of HE.out)
   (fun c W => Below W3.heap.size W3 W ∧ leftTo D S l1 l3 (dists D l2 l3.length) (c.toNat - 1) = []) (CaseIx D S l1 l3 (dists D l2 l3.length) w)
   (OwnFrom.and (ownFrom_below (Nat.le_refl _) (Nat.le_refl _)) (ownFrom_pure _ _)) (fun c => CaseIx.own _ _ _ _ _ _ _ _ hb3.size)
   (fun c W h => ⟨h.1.size, (pw_cell_below h.1 hx.cell), HI.below h.1⟩)
   (fun c W g1 g2 h hn => ⟨h.1, by rw [leftTo_skip g1 hn]; exact h.2⟩)
   ⟨Below.refl _ _, rfl⟩
   (fun c v => { tmps := #[.agg #[.int .i64 D, .int .i64 S], .slice A1 l1.length c1, .slice A2 l2.length c2, .slice A3 l3.length c3, .pointer (some ⟨w.heap.size, 0, none⟩), undef, undef, undef, .pointer (some ⟨w.heap.size + 1, 0, none⟩), .pointer (some ⟨w.heap.size + 1 + 1, 0, none⟩), .pointer (some ⟨w.heap.size + 1 + 1 + 1, 0, none⟩), .pointer (some ⟨w.heap.size + 1 + 1 + 1 + 1, 0, none⟩), .pointer (some ⟨qb, 0, none⟩), .int .i64 0, .int .i64 c, v, .tuple #[.pointer (some ⟨qb, 0, none⟩), .int .i64 0], .agg #[.int .i64 D, .int .i64 S], .slice A1 l1.length c1, .slice A2 l2.length c2, .slice A3 l3.length c3, .tuple #[.pointer (some ⟨qb, 0, none⟩), .int .i64 0], .pointer (some ⟨qb, 0, none⟩), .int .i64 0, .int .i64 0, .bool false, undef, .pointer (some ⟨qb, 0, none⟩), .func (.func 124) #[] #[.pointer (some ⟨W2.heap.size, 0, none⟩)], .int .i64 c, v, undef, undef], defers := [] }) ?assign ?body ?done ?stop
  case assign =>
   intro l c v W K hK
   gi_wp2
   exact hK
  case body =>
   rintro l c ar v W hl g1 g2 ⟨hB, hn0⟩ hf hr
   obtain ⟨A, cc, rfl⟩ := Kd.R_slice hr
   have z8 := Boxed.below Y8 hB
   have z9 := Boxed.below Y9 hB
   have z10 := Boxed.below Y10 hB
   have z11 := Boxed.below Y11 hB
   have x8 := And.intro z8.cell z8.frozen
   have x9 := And.intro z9.cell z9.frozen
   have x10 := And.intro z10.cell z10.frozen
   have x11 := And.intro z11.cell z11.frozen
   have Z8 := Aside0.mk z8
   have Z9 := Aside0.mk z9
   have Z10 := Aside0.mk z10
   have Z11 := Aside0.mk z11
   have HF := Aside0.mk hf
   have HN := Aside0.mk hn0
   have HRr := Aside0.mk hr
   have HBB := Aside0.mk hB
   clear z8 z9 z10 z11 Y8 Y9 Y10 Y11 hx hf hn0 hr hB
   gi_wp2
   obtain ⟨y8, y9, y10, y11, hbb, hko⟩ := set4 Z8.out Z9.out Z10.out Z11.out (.int .i64 c) (.slice A ar.length cc) (.bool true) (.int .i64 0)
   exact ⟨hko.from _, rfl, c, ar, _, head_left g1 g2 HN.out HF.out, y8, y9, y10, y11, Kd.R_lower (R_set4 HRr.out (by have := HW3.out; omega) _ _ _ _) hb3.size, (below_weaken hb3 hb3.size HBB.out).trans hbb⟩
  case done =>
   rintro E W hE ⟨hB, hn0⟩ hK
   have z8 := Boxed.below Y8 hB
   have z9 := Boxed.below Y9 hB
   have z10 := Boxed.below Y10 hB
   have z11 := Boxed.below Y11 hB
   have x8 := And.intro z8.cell z8.frozen
   have x9 := And.intro z9.cell z9.frozen
   have x10 := And.intro z10.cell z10.frozen
   have x11 := And.intro z11.cell z11.frozen
   have Z8 := Aside0.mk z8
   have Z9 := Aside0.mk z9
   have Z10 := Aside0.mk z10
   have Z11 := Aside0.mk z11
   have HN := Aside0.mk hn0
   have HBB := Aside0.mk hB
   have HKK := Aside0.mk hK
   clear z8 z9 z10 z11 Y8 Y9 Y10 Y11 hx hn0 hB hK
   gi_wp2
   obtain ⟨y8, y9, y10, y11, hbb, hko⟩ := set4 Z8.out Z9.out Z10.out Z11.out (.int .i64 0) (.slice none 0 0) (.bool false) (.int .i64 0)
   have hK2 := hko.same E _ HKK.out rfl
   have h := H.out
   unfold wheel_Case.f caseR at h
   rw [if_pos HE.out, show leftTo D S l1 l3 (dists D l2 l3.length) 1000 = [] from HN.out] at h
   simp only [List.head?_nil, Option.some.injEq, Prod.mk.injEq] at h
   obtain ⟨rfl, rfl, rfl, rfl⟩ := h
   have hbw := (below_weaken hb3 hb3.size HBB.out).trans hbb
   exact ⟨by simp, .inl ⟨_, _, rfl, run_takeDeferred hK2, _, results22 rfl rfl rfl rfl (Boxed.putDef y8 hK2 _) (Boxed.putDef y9 hK2 _) (Boxed.putDef y10 hK2 _) (Boxed.putDef y11 hK2 _), _, rfl, Kd.R_nil _ _ _ _ _, below_putDef hbw hbw.size (Nat.le_trans hb3.size hE) _⟩⟩
  case stop =>
   rintro E c W hE ⟨rfl, c, a, v, h1, h2, h3, h4, h5, h6, h7⟩ hK
   gi_wp2
   have h := H.out
   unfold wheel_Case.f caseR at h
   rw [if_pos HE.out, h1] at h
   simp only [Option.some.injEq, Prod.mk.injEq] at h
   obtain ⟨rfl, rfl, rfl, rfl⟩ := h
   exact ⟨by simp, .inl ⟨_, _, rfl, run_takeDeferred hK, _, results22 rfl rfl rfl rfl (Boxed.putDef h2 hK _) (Boxed.putDef h3 hK _) (Boxed.putDef h4 hK _) (Boxed.putDef h5 hK _), _, rfl, R_putLoop h6 hK rfl _, below_putDef h7 h7.size (Nat.le_trans hb3.size hE) _⟩⟩
 ·have hop2 := fun W (hB : Below w.heap.size w W) => (hop W hB).mono (R' := fun e w' => e = .returned (.tuple #[.pointer none, .int .i64 (opErr D S l1 l2 l3)]) ∧ Below W.heap.size W w' ∧ Below w.heap.size w w') (fun e w' h => by
   obtain ⟨hb, (⟨_, h⟩ | ⟨h0, _⟩)⟩ := h
   ·exact ⟨h, hb, below_weaken hB hB.size hb⟩
   ·exact absurd h0 he)
  clear hop
  have h := H.out
  unfold wheel_Case.f caseR at h
  rw [if_neg he] at h
  simp only [Option.some.injEq, Prod.mk.injEq] at h
  obtain ⟨rfl, rfl, rfl, hr3⟩ := h
  rw [hr3] at hop2 he
  clear hr3 H
  gi_wp2_with (refine ⟨trivial, ?_⟩; gi_at_call 68; refine (callsIn_wide.2 (hop2 _ (by repeat (first | exact Below.refl _ _ | apply below_alloc)))).mono ?_; clear hop2; rintro e W2 ⟨rfl, hb, hbw⟩; have x8 : Boxed _ _ _ _ := blk_below (alloc5 w _ _ _ _ _).2.1 hb; have x9 : Boxed _ _ _ _ := blk_below (alloc5 w _ _ _ _ _).2.2.1 hb; have x10 : Boxed _ _ _ _ := blk_below (alloc5 w _ _ _ _ _).2.2.2.1 hb; have x11 : Boxed _ _ _ _ := blk_below (alloc5 w _ _ _ _ _).2.2.2.2 hb; have hb2 := Aside0.mk hbw; have hs := hbw.size; have X8 := Aside0.mk x8; have X9 := Aside0.mk x9; have X10 := Aside0.mk x10; have X11 := Aside0.mk x11; replace x8 := And.intro x8.cell x8.frozen; replace x9 := And.intro x9.cell x9.frozen; replace x10 := And.intro x10.cell x10.frozen; replace x11 := And.intro x11.cell x11.frozen; clear hb hbw)
  obtain ⟨y8, y9, y10, y11, hbb, _⟩ := set4 X8.out X9.out X10.out X11.out (.int .i64 0) (.slice none 0 0) (.bool false) (.int .i64 r3)
  exact ⟨_, results22 rfl rfl rfl rfl y8 y9 y10 y11, _, rfl, Kd.R_nil _ _ _ _ _, hb2.out.trans hbb⟩
end Go.Proofs.YtgakfgedaipdmaaGreatDoor.P
namespace Go.Proofs.YtgakfgedaipdmaaGreatDoor.P
open Go.RowKit Go.Shelf Go.Proofs.YtgakfgedaipdmaaGreatDoorW.PrintWords Go.Proofs.YtgakfgedaipdmaaGreatDoorW.PrintLast Go.Proofs.YtgakfgedaipdmaaGreatDoorW.PrintMore
set_option linter.unusedVariables false
set_option linter.unusedSimpArgs false
section
variable {P : Program} {ops : Array Oper} {rest : List Oper} {o : Oper} {a : Act} {Q : Exit → Act → World → Prop} {α : Type}
theorem run_append_R (d : Kd α) {Rr : α → List Value → Prop} {W : World} (base : Nat) (t u e : TypeId) (z : Value) (bytes : Nat) (ty : TypeId)
  (ht : P.underlying t = some (.slice e)) (hu : P.underlying u = some (.slice e)) (hinfo : (P.info? e).map (fun i => (i.zero, i.size, i.bytes)) = some (some z, d.sz, bytes)) (hz : z.cells.size = d.sz) (hs0 : 0 < d.sz) (hb0 : 0 < bytes)
  (v : Value) (xs ys : List α) (A : Option Addr) (m c : Nat) (ok okp : Nat → Prop)
  (HO : d.R e W base ok v xs) (HR : ReadsRow Rr d.sz W A m ys) (hKM : ∀ x cs, Rr x cs → d.M W base okp x cs) (hokp : ∀ k, okp k → ok k ∧ some k ≠ v.ownBlock) (hfresh : ∀ k, W.heap.size ≤ k → ok k)
  (hbase : base ≤ W.heap.size) (hl : (xs.length + m) * bytes ≤ 140737488355328) :
  ∃ v1 w1, (Builtin.append_ #[t, u] ty #[v, .slice A m c]).run P W = .ok v1 w1 ∧ d.R e w1 base ok v1 (xs ++ ys) ∧ W.grownBy w1 v.ownBlock ∧ (v1.ownBlock = v.ownBlock ∨ ∃ b, v1.ownBlock = some b ∧ W.heap.size ≤ b) := by
 obtain ⟨i0, hi, hzz⟩ := Option.map_eq_some_iff.1 hinfo
 simp only [Prod.mk.injEq] at hzz
 obtain ⟨hz0, hz1, hz2⟩ := hzz
 rw [append_types v (.slice A m c) ty ht hu hi W]
 have hm : ys.length = m := HR.1
 have hlen : xs.length + m ≤ 140737488355328 := Nat.le_trans (Nat.le_mul_of_pos_right _ hb0) hl
 obtain ⟨hok, inner, hown, hr⟩ := HO
 rcases A with _ | ad
 ·have h0 : m = 0 := by
   rcases Nat.eq_zero_or_pos m with h0 | h0
   ·exact h0
   ·obtain ⟨ad, h, _⟩ := HR.2.2 h0
    cases h
  subst h0
  obtain rfl : ys = [] := List.eq_nil_of_length_eq_zero hm
  refine ⟨v, W, ?_, by rw [List.append_nil]; exact ⟨hok, inner, hown, hr⟩, World.grownBy.refl W _, .inl rfl⟩
  rcases hown.2 with ⟨rfl, hn⟩ | ⟨g, cap, cur, rfl, _, _, hnc, _⟩
  ·simp [Builtin.append_, run_underlying ht, sizeOf, typeInfo, hi, Builtin.lenOf, Builtin.firstCells]
  ·simp [Builtin.append_, run_underlying ht, sizeOf, typeInfo, hi, Builtin.lenOf, Builtin.firstCells, hnc, storeCells]
 ·obtain ⟨news, hnr, hnc⟩ := ReadsRow.inner_ HR
  have hnM : Reps (d.M W base okp) d.sz ys news := hnr.imp_ (fun p c hp => hKM p c hp)
  have hone : ∀ u ∈ news, u.oneCell' = true := by
   intro u hu
   obtain ⟨q, hq, rfl⟩ := List.mem_iff_getElem.1 hu
   have hql : q / d.sz < ys.length := by
    rw [Nat.div_lt_iff_lt_mul hs0]
    rw [← hnM.1]
    exact hq
   have hc := hnM.2 (q / d.sz) _ (List.getElem?_eq_getElem hql)
   refine d.K_one (d.K_of_M hc) _ ?_
   rw [List.mem_iff_getElem?]
   refine ⟨q % d.sz, ?_⟩
   rw [List.getElem?_take, if_pos (Nat.mod_lt _ hs0), List.getElem?_drop, Nat.mul_comm, Nat.div_add_mod, List.getElem?_eq_getElem hq]
  obtain ⟨v1, w1, hrun, h2, hg, _, hat⟩ := run_append_own_at (P := P) W base t ty e i0 z d.sz bytes ht hi hz0 hz1 hz2 hz hs0 v xs.length inner hown ad m c news (by rw [hnM.1, hm]) hnc hone (by simp only [maxLen]; omega) hl hbase
  have hat' : v1.ownBlock = v.ownBlock ∨ ∃ b, v1.ownBlock = some b ∧ W.heap.size ≤ b := by
   rcases hat with hat | hat
   ·exact .inl hat
   ·exact .inr ⟨_, hat, Nat.le_refl _⟩
  have hne : ∀ k, some k ≠ v.ownBlock → k < W.heap.size → some k ≠ v1.ownBlock := by
   intro k hk hlt
   rcases hat' with hat | ⟨b, hb, hle⟩
   ·rw [hat]; exact hk
   ·rw [hb]
    intro he
    injection he with he
    omega
  have step : ∀ {q : α} {c : List Value} {o : Nat → Prop}, d.M W base o q c → (∀ k, o k → ok k ∧ some k ≠ v.ownBlock) → d.M w1 base (fun k => ok k ∧ some k ≠ v1.ownBlock) q c := by
   intro q c o hq ho
   have h1 := d.M_move (w1 := w1) (fun k hk => hg.block k hk.2.2.1 (ho k hk.1).2) (d.M_bound hq)
   exact d.M_mono (fun k hk => ⟨(ho k hk.1).1, hne k (ho k hk.1).2 hk.2.2.1⟩) h1
  refine ⟨v1, w1, hrun, ⟨fun k hk => ?_, inner ++ news, by rw [List.length_append, hm]; exact h2, Kd.reps_append (hr.imp_ (fun _ _ hq => step hq (fun _ hk => hk))) (hnM.imp_ (fun _ _ hq => step hq hokp))⟩, hg, hat'⟩
  rcases hat' with hat | ⟨b, hb, hle⟩
  ·exact hok k (hat ▸ hk)
  ·rw [hb] at hk
   injection hk with hk
   exact hfresh k (by omega)
theorem wpListIn_append_R {F : Fence} {n : Nat} (d : Kd α) {Rr : α → List Value → Prop} {W : World} (base : Nat) (hgd : o.guard = none) (s x : Operand) (t u e : TypeId) (z : Value) (bytes : Nat)
  (ho : o.op = .call { callee := .builtin .append, args := #[s, x], argTypes := #[t, u] })
  (ht : P.underlying t = some (.slice e)) (hu : P.underlying u = some (.slice e)) (hinfo : (P.info? e).map (fun i => (i.zero, i.size, i.bytes)) = some (some z, d.sz, bytes)) (hz : z.cells.size = d.sz) (hs0 : 0 < d.sz) (hb0 : 0 < bytes)
  (v : Value) (xs ys : List α) (A : Option Addr) (m c : Nat) (ok okp : Nat → Prop) (hs : a.eval s = v) (hx : a.eval x = .slice A m c)
  (HO : d.R e W base ok v xs) (HR : ReadsRow Rr d.sz W A m ys) (hKM : ∀ x cs, Rr x cs → d.M W base okp x cs) (hokp : ∀ k, okp k → ok k ∧ some k ≠ v.ownBlock) (hfresh : ∀ k, W.heap.size ≤ k → ok k)
  (hbase : base ≤ W.heap.size) (hl : (xs.length + m) * bytes ≤ 140737488355328)
  (h : ∀ v1 w1, d.R e w1 base ok v1 (xs ++ ys) → W.grownBy w1 v.ownBlock → (v1.ownBlock = v.ownBlock ∨ ∃ b, v1.ownBlock = some b ∧ W.heap.size ≤ b) → wpListIn F n P ops Q rest (a.put o.dst v1) w1) :
  wpListIn F n P ops Q (o :: rest) a W := by
 obtain ⟨v1, w1, hr1, h1, hg, hat⟩ := run_append_R (P := P) d base t u e z bytes o.type ht hu hinfo hz hs0 hb0 v xs ys A m c ok okp HO HR hKM hokp hfresh hbase hl
 refine wpListIn_plain hgd fun K hK' => ?_
 unfold Oper.wpIn
 refine ⟨?_, ?_⟩
 ·simp [Oper.about, ho, resolve, Target.leads, Sem.run_pure]
 ·rw [Oper.semAt_plain F _ _ (by rw [ho]; intro c hc'; cases hc')]
  simp [execOp, ho, resolve, invoke, builtin, hs, hx, hr1, Result.andThen]
  exact hK' _ _ (h v1 w1 h1 hg hat)
end
theorem reads_one (W : World) (x : S59) : Kd.C k59 (W.alloc (.cells #[.int .i64 x.f0, .int .i64 x.f1] 59)) (some ⟨W.heap.size, 0, none⟩) 1 [x] := by
 refine ⟨rfl, by omega, fun _ => ⟨_, rfl, fun j p hj => ?_⟩⟩
 have hj1 : j < 1 := (List.getElem?_eq_some_iff.1 hj).1
 obtain rfl : j = 0 := by omega
 obtain rfl : x = p := Option.some.inj hj
 refine ⟨[.int .i64 x.f0, .int .i64 x.f1], rfl, k59_mk _ _, fun i u hi => ?_⟩
 rw [addr_add, blk_cell (blk_new W (.cells #[.int .i64 x.f0, .int .i64 x.f1] 59)), Nat.zero_mul, Nat.zero_add]
 simpa using hi
theorem R_low {α : Type} {d : Kd α} {e B b : Nat} {ok : Nat → Prop} {W : World} {v : Value} {xs : List α} (h : d.R e W B ok v xs) (hb : b < B) (u : Value) : d.R e (W.setCell ⟨b, 0, none⟩ u) B ok v xs :=
 Kd.R_mono (Kd.R_move (Kd.R_bound h) (fun k hk => Below.heap_setCell _ _ _ _ (by show k ≠ b; have := hk.2.1; omega))) (fun _ hk => hk.1)
theorem keeps_of_below {W W1 : World} (h : Below W.heap.size W W1) : KeepsOthers W W1 := ⟨h.size, fun k o hk _ => blk_below hk h⟩
theorem keeps_of_row {W W1 : World} {v : Value} {e B : Nat} {ok : Nat → Prop} {α : Type} {d : Kd α} {xs : List α} (h : d.R e W B ok v xs) (hg : W.grownBy W1 v.ownBlock) : KeepsOthers W W1 :=
 KeepsOthers.of_grownBy hg (fun j o ej hj => by
  obtain ⟨cells, hc⟩ := Kd.R_typed h j ej
  rw [hj] at hc
  cases hc
  rfl)
theorem collect_step {W w1 : World} {b B t : Nat} {ok : Nat → Prop} {v v1 : Value} {xs ys : List S59} (hv : Boxed W b t v) (hlt : b < B) (hBW : B ≤ W.heap.size) (hR : Kd.R k59 59 W B ok v xs) (h1 : Kd.R k59 59 w1 B ok v1 ys) (hg : W.grownBy w1 v.ownBlock) :
  Boxed w1 b t v ∧ Boxed (w1.setCell ⟨b, 0, none⟩ v1) b t v1 ∧ Kd.R k59 59 (w1.setCell ⟨b, 0, none⟩ v1) B ok v1 ys ∧ KeepsOthers W (w1.setCell ⟨b, 0, none⟩ v1) ∧ Below b W (w1.setCell ⟨b, 0, none⟩ v1) ∧ ∀ k, k < B → k ≠ b → (w1.setCell ⟨b, 0, none⟩ v1).heap[k]? = W.heap[k]? := by
 have hne : some b ≠ v.ownBlock := fun e => by have := Kd.R_base hR b e.symm; omega
 have h2 : Boxed w1 b t v := hv.kept hg hne
 refine ⟨h2, h2.set v1, R_low h1 hlt v1, (keeps_of_row hR hg).trans (KeepsOthers.setCell _ _ _), ?_, fun k hk hkb => (Below.heap_setCell _ _ _ _ hkb).trans (hg.block k (by omega) (fun e => by have := Kd.R_base hR k e.symm; omega))⟩
 exact ((Below.refl b W).grown hg (by omega) (fun k e => by have := Kd.R_base hR k e; omega)).setCell (p := ⟨b, 0, none⟩) (Nat.le_refl _) v1
theorem joined_any (B : Nat) (ok : Nat → Prop) (v : Value) (l : List S59) (w : World) (hR : Kd.R k59 59 w B ok v l) (hB : B ≤ w.heap.size) (hl : ∀ s ∈ l, SpIn s) (hlen : l.length ≤ 1000000000) :
  Calls Tryz.prog 75 #[v] w fun e w' => ∃ v0 : Value, e = .returned (.tuple #[v0, .int .i64 (joinR l).2]) ∧ Kd.R k59 59 w' w.heap.size (fun _ => True) v0 (joinR l).1 ∧ Below B w w' ∧ KeepsOthers w w' := by
 refine Calls.mono (wheel_joined.calls (l.length + 1) B ok v l (joinR l).1 (joinR l).2 w hR (fun s hs => (hl s hs).b) (by omega) (fun l' hp hby => wheel_joined.eval hlen hl hp hby)) ?_
 rintro e w' ⟨w1, hg, v0, rfl, h0, hb⟩
 exact ⟨v0, rfl, Kd.R_lower h0 hg.size, ((Below.refl B w).grown hg hB (fun k e => Kd.R_base hR k e)).trans (hb.mono (Nat.le_trans hB hg.size)), (keeps_of_row hR hg).trans (keeps_of_below hb)⟩
theorem gathered_any (B : Nat) (ok : Nat → Prop) (v : Value) (l : List S59) (w : World) (hR : Kd.R k59 59 w B ok v l) (hB : B ≤ w.heap.size) (hl : ∀ s ∈ l, SpIn s) (hlen : l.length ≤ 1000000000) :
  Calls Tryz.prog 116 #[v] w fun e w' => ∃ v0 : Value, e = .returned (.tuple #[v0, .int .i64 (joinR l).2]) ∧ Kd.R k59 59 w' w.heap.size (fun _ => True) v0 (joinR l).1 ∧ Below B w w' ∧ KeepsOthers w w' := by
 refine Calls.mono (ranges_gathered.calls (2 * l.length + 1) B ok v l (joinR l).1 (joinR l).2 w hR (fun s hs => (hl s hs).b) (by omega) (fun l' hp hby => ranges_gathered.eval hlen hl hp hby)) ?_
 rintro e w' ⟨w1, hg, v0, rfl, h0, hb⟩
 exact ⟨v0, rfl, Kd.R_lower h0 hg.size, ((Below.refl B w).grown hg hB (fun k e => Kd.R_base hR k e)).trans (hb.mono (Nat.le_trans hB hg.size)), (keeps_of_row hR hg).trans (keeps_of_below hb)⟩
end Go.Proofs.YtgakfgedaipdmaaGreatDoor.P
namespace Go.Proofs.YtgakfgedaipdmaaGreatDoor.P
open Go.RowKit Go.Shelf Go.Proofs.YtgakfgedaipdmaaGreatDoorW.PrintWords Go.Proofs.YtgakfgedaipdmaaGreatDoorW.PrintLast Go.Proofs.YtgakfgedaipdmaaGreatDoorW.PrintMore
set_option linter.unusedVariables false
set_option linter.unusedSimpArgs false
attribute [local go_sem] Oper.semAt_some
def spanC (p : Int × List Int) : S59 := ⟨p.1, p.1⟩
def leftR (D S : Int) (l1 : List S61) (l2 : List S64) (l3 : List S59) : List S59 × Int :=
 if opErr D S l1 l2 l3 = 0 then joinR ((leftTo D S l1 l3 (dists D l2 l3.length) 1000).map spanC) else ([], opErr D S l1 l2 l3)
def wheel_Left.f (D S : Int) (l1 : List S61) (l2 : List S64) (l3 : List S59) : Option (List S59 × Int) := some (leftR D S l1 l2 l3)
theorem leftTo_len (D S : Int) (l1 : List S61) (l3 : List S59) (dss : List (List Int)) (m : Nat) : (leftTo D S l1 l3 dss m).length ≤ m := by
 unfold leftTo
 exact Nat.le_trans (List.length_filterMap_le _ _) (by simp)
theorem spanC_in {D S : Int} {l1 : List S61} {l3 : List S59} {dss : List (List Int)} {m : Nat} (hm : m ≤ 1000) : ∀ s ∈ (leftTo D S l1 l3 dss m).map spanC, SpIn s := by
 intro s hs
 obtain ⟨p, hp, rfl⟩ := List.mem_map.1 hs
 obtain ⟨h1, h2, _⟩ := leftTo_mem hp
 exact ⟨by show _ ≤ p.1; omega, Int.le_refl _, by show p.1 ≤ _; omega⟩
def leftS (D S : Int) (l1 : List S61) (l3 : List S59) (dss : List (List Int)) (c : Int) : List S59 := (leftTo D S l1 l3 dss (c.toNat - 1)).map spanC
theorem leftS_skip {D S : Int} {l1 : List S61} {l3 : List S59} {dss : List (List Int)} {c : Int} (h0 : 1 ≤ c) (h : firstP D S c l1 l3 dss = none) : leftS D S l1 l3 dss (c + 1) = leftS D S l1 l3 dss c := by
 unfold leftS
 rw [leftTo_skip h0 h]
theorem leftS_step {D S : Int} {l1 : List S61} {l3 : List S59} {dss : List (List Int)} {c : Int} {a : List Int} (h0 : 1 ≤ c) (h : firstP D S c l1 l3 dss = some a) : leftS D S l1 l3 dss (c + 1) = leftS D S l1 l3 dss c ++ [⟨c, c⟩] := by
 unfold leftS
 rw [leftTo_step h0 h, List.map_append]
 rfl
theorem leftS_len (D S : Int) (l1 : List S61) (l3 : List S59) (dss : List (List Int)) (c : Int) (h : c ≤ 1001) : (leftS D S l1 l3 dss c).length ≤ 1000 := by
 unfold leftS
 rw [List.length_map]
 have := leftTo_len D S l1 l3 dss (c.toNat - 1)
 omega
theorem opened_ok {D S : Int} {A1 : Option Addr} {c1 : Nat} {l1 : List S61} {A2 : Option Addr} {c2 : Nat} {l2 : List S64} {A3 : Option Addr} {c3 : Nat} {l3 : List S59} {w : World} (hr1 : Kd.C k61 w A1 l1.length l1) (hc1 : l1.length ≤ c1) (hr2 : Kd.C k64 w A2 l2.length l2) (hc2 : l2.length ≤ c2) (hr3 : Kd.C k59 w A3 l3.length l3) (hc3 : l3.length ≤ c3) (he : opErr D S l1 l2 l3 = 0) (W : World) (hB : Below w.heap.size w W) :
  Calls Tryz.prog 68 #[.agg #[.int .i64 D, .int .i64 S], .slice A1 l1.length c1, .slice A2 l2.length c2, .slice A3 l3.length c3] W fun e w' => Below W.heap.size W w' ∧ Below w.heap.size w w' ∧ ∃ b, W.heap.size ≤ b ∧ e = .returned (.tuple #[.pointer (some ⟨b, 0, none⟩), .int .i64 0]) ∧ Inq w' b D S A1 c1 l1 A3 c3 l3 (dists D l2 l3.length) := by
 refine Calls.mono (opened_any D S A1 c1 l1 A2 c2 l2 A3 c3 l3 W (Kd.C_below hr1 hB) hc1 (Kd.C_below hr2 hB) hc2 (Kd.C_below hr3 hB) hc3) ?_
 rintro e w' ⟨hb, (⟨h0, _⟩ | ⟨_, b, h1, h2, h3⟩)⟩
 ·exact absurd he h0
 ·have hb2 := below_weaken hB hB.size hb
  exact ⟨hb, hb2, b, h1, h2, h3, Kd.C_below hr1 hb2, Kd.C_below hr3 hb2⟩
theorem opened_err {D S : Int} {A1 : Option Addr} {c1 : Nat} {l1 : List S61} {A2 : Option Addr} {c2 : Nat} {l2 : List S64} {A3 : Option Addr} {c3 : Nat} {l3 : List S59} {w : World} (hr1 : Kd.C k61 w A1 l1.length l1) (hc1 : l1.length ≤ c1) (hr2 : Kd.C k64 w A2 l2.length l2) (hc2 : l2.length ≤ c2) (hr3 : Kd.C k59 w A3 l3.length l3) (hc3 : l3.length ≤ c3) (he : opErr D S l1 l2 l3 ≠ 0) (W : World) (hB : Below w.heap.size w W) :
  Calls Tryz.prog 68 #[.agg #[.int .i64 D, .int .i64 S], .slice A1 l1.length c1, .slice A2 l2.length c2, .slice A3 l3.length c3] W fun e w' => e = .returned (.tuple #[.pointer none, .int .i64 (opErr D S l1 l2 l3)]) ∧ Below W.heap.size W w' ∧ Below w.heap.size w w' := by
 refine Calls.mono (opened_any D S A1 c1 l1 A2 c2 l2 A3 c3 l3 W (Kd.C_below hr1 hB) hc1 (Kd.C_below hr2 hB) hc2 (Kd.C_below hr3 hB) hc3) ?_
 rintro e w' ⟨hb, (⟨_, h⟩ | ⟨h0, _⟩)⟩
 ·exact ⟨h, hb, below_weaken hB hB.size hb⟩
 ·exact absurd h0 he
def ColI (W2 : World) (bx : Nat) (qb : Nat) (bo B : Nat) (sp : Int → List S59) (c : Int) (W : World) : Prop :=
 Below W2.heap.size W2 W ∧ W.cell? ⟨bx, 0, none⟩ = some (.pointer (some ⟨qb, 0, none⟩)) ∧ B ≤ W.heap.size ∧ ∃ v, Boxed W bo 26 v ∧ Kd.R k59 59 W B (fun _ => True) v (sp c)
theorem own_size {β : Type} {B n : Nat} : OwnFrom B (fun (_ : β) W => n ≤ W.heap.size) := fun _ _ _ _ hs hg _ => Nat.le_trans hs hg.size
theorem ColI.own (W2 : World) (bx qb bo B : Nat) (sp : Int → List S59) (hB : W2.heap.size ≤ B) : OwnFrom B (ColI W2 bx qb bo B sp) := by
 refine OwnFrom.and (ownFrom_below (Nat.le_refl _) hB) (OwnFrom.and (Own.from (fun s A C row hs hg hr => cell_kept hs hg hr) _) (OwnFrom.and own_size ?_))
 intro c W W' row hs hg hr
 obtain ⟨v, h1, h2⟩ := hs
 exact ⟨v, boxed_own bo 26 (fun _ : Unit => v) () W W' row h1 hg (fun r e => (hr r e).2), R_ownFrom (β := Unit) k59 59 B B _ v (sp c) () W W' row h2 hg hr⟩
theorem alloc2 (W : World) (o0 o1 : Obj) : ((W.alloc o0).alloc o1).heap.size = W.heap.size + 2 ∧ ((W.alloc o0).alloc o1).heap[W.heap.size]? = some o0 ∧ ((W.alloc o0).alloc o1).heap[W.heap.size + 1]? = some o1 ∧ Below W.heap.size W ((W.alloc o0).alloc o1) := by
 have h1 := blk_new (W.alloc o0) o1
 simp only [World.size_alloc] at h1
 refine ⟨by simp only [World.size_alloc], blk_below (blk_new W o0) (Below.alloc (Below.refl _ _) (Nat.le_refl _) o1), h1, ?_⟩
 exact (Below.alloc (Below.refl _ _) (Nat.le_refl _) o0).alloc (by simp) o1
set_option maxHeartbeats 8000000 in
set_option maxRecDepth 100000 in
theorem wheel_Left.calls (D S : Int) (A1 : Option Addr) (c1 : Nat) (l1 : List S61) (A2 : Option Addr) (c2 : Nat) (l2 : List S64) (A3 : Option Addr) (c3 : Nat) (l3 : List S59) (r0 : List S59) (r1 : Int) (w : World) (hr1 : Kd.C k61 w A1 l1.length l1) (hc1 : l1.length ≤ c1) (hr2 : Kd.C k64 w A2 l2.length l2) (hc2 : l2.length ≤ c2) (hr3 : Kd.C k59 w A3 l3.length l3) (hc3 : l3.length ≤ c3) (h : wheel_Left.f D S l1 l2 l3 = some (r0, r1)) :
  Calls Tryz.prog 24 #[.agg #[.int .i64 D, .int .i64 S], .slice A1 l1.length c1, .slice A2 l2.length c2, .slice A3 l3.length c3] w fun e w' => ∃ v0_ : Value, e = .returned (.tuple #[v0_, .int .i64 r1]) ∧ Kd.R k59 59 w' w.heap.size (fun _ => True) v0_ r0 ∧ Below w.heap.size w w' := by
 refine (callsIn_wide (n := 5)).1 ?_
 refine callsIn_of_wp_marks Tryz.func24 rfl trivial ?_ rfl
 simp only [Tryz.ntmps24, List.size_toArray, List.length_cons, List.length_nil, Nat.reduceAdd, Nat.reduceSub, Array.replicate_succ, Array.replicate_zero, List.push_toArray, List.append_toArray, List.nil_append, List.cons_append]
 by_cases he : opErr D S l1 l2 l3 = 0
 ·have hop := fun W hB => opened_ok hr1 hc1 hr2 hc2 hr3 hc3 he W hB
  have H := Aside0.mk h
  have HE := Aside0.mk he
  clear h hr1 hr2 hr3 hc1 hc2 hc3 he
  gi_wp2_with (first | (refine ⟨trivial, ?_⟩; gi_at_call 68; refine (callsIn_wide.2 (hop _ (by repeat (first | exact Below.refl _ _ | apply below_alloc)))).mono ?_; clear hop; rintro e W2 ⟨hb, hbw, qb, hqb, rfl, hq⟩; have HB2 := Aside0.mk hbw; have HQ := Aside0.mk hq; clear hb hbw hqb hq) | (refine ⟨trivial, ?_⟩; gi_at_call 73; refine (left_in 4 qb _).mono ?_; rintro e W3 ⟨rfl, rfl⟩))
  obtain ⟨hs3, hbo, hbx, hB3⟩ := alloc2 W2 (.cells #[.slice none 0 0] 26) (.cells #[.pointer (some ⟨qb, 0, none⟩)] 102)
  obtain ⟨W3, hW3⟩ : ∃ W3, (W2.alloc (.cells #[.slice none 0 0] 26)).alloc (.cells #[.pointer (some ⟨qb, 0, none⟩)] 102) = W3 := ⟨_, rfl⟩
  obtain ⟨bo, hboe⟩ : ∃ bo, W2.heap.size = bo := ⟨_, rfl⟩
  have hbc := Boxed.cell (boxed_of_blk hbx)
  rw [hW3] at hs3 hbo hB3 hbc ⊢
  rw [hboe] at hs3 hbo hbc ⊢
  have HBO := Aside0.mk hboe
  clear hW3 hbx hboe
  have HB3 := Aside0.mk hB3
  clear hB3
  refine wpIn_rangeLeft (bo + 1) qb W3.heap.size (D := D) (S := S) (A1 := A1) (c1 := c1) (l1 := l1) (A3 := A3) (c3 := c3) (l3 := l3) (dss := dists D l2 l3.length) rfl rfl (inqOk_of HE.out)
   (ColI W2 (bo + 1) qb bo W3.heap.size (leftS D S l1 l3 (dists D l2 l3.length))) (fun _ _ => False)
   (ColI.own _ _ _ _ _ _ (by rw [HBO.out]; omega)) (fun _ _ _ _ _ hs _ _ => hs)
   (fun c W h => ⟨h.2.2.1, h.2.1, HQ.out.below h.1⟩)
   (fun c W g1 g2 h hn => ⟨h.1, h.2.1, h.2.2.1, by rw [leftS_skip g1 hn]; exact h.2.2.2⟩)
   ⟨HB3.out, hbc, Nat.le_refl _, _, hbo, Kd.R_nil _ _ _ _ _⟩ ?a1 ?assign ?body ?done ?stop
  case assign =>
   intro l c v W K hK
   gi_wp2
   exact hK
  case body =>
   rintro l c ar v W hl g1 g2 ⟨hB, hcx, hsz, vo, hvo, hRo⟩ hf hr
   have hvc := And.intro hvo.cell hvo.frozen
   have HX := Aside0.mk hcx
   have HBW := Aside0.mk hB
   have HVO := Aside0.mk hvo
   have HRO := Aside0.mk hRo
   have HF := Aside0.mk hf
   have hlen := leftS_len D S l1 l3 (dists D l2 l3.length) c (by omega)
   have HLEN := Aside0.mk hlen
   obtain ⟨Ao, co, rfl⟩ := Kd.R_slice hRo
   clear hcx hB hvo hRo hf hr hlen hbc hbo
   gi_wp2_with (gi_at_builtin; refine wpListIn_append_R k59 (W := W.alloc (.cells #[.int .i64 c, .int .i64 c] 59)) W3.heap.size rfl (.tmp 29) (.tmp 33) 26 26 59 (.agg #[.int .i64 0, .int .i64 0]) 16 rfl Tryz.underlying26 Tryz.underlying26 info59 rfl (by decide) (by omega) (.slice Ao (leftS D S l1 l3 (dists D l2 l3.length) c).length co) (leftS D S l1 l3 (dists D l2 l3.length) c) [⟨c, c⟩] (some ⟨W.heap.size, 0, none⟩) 1 1 (fun _ => True) (fun _ => False) rfl rfl (Kd.R_alloc HRO.out _) (reads_one W ⟨c, c⟩) (fun x cs h => by rw [k59_open h]; exact k59_mkM _ _ _ _) (fun k h => h.elim) (fun _ _ => trivial) (by simp; omega) (by have := HLEN.out; omega) ?_; intro v1 w1 hR1 hg1 hat1; obtain ⟨ys, hys⟩ : ∃ ys, ys = leftS D S l1 l3 (dists D l2 l3.length) c ++ [⟨c, c⟩] := ⟨_, rfl⟩; rw [← hys] at hR1; have HYS := Aside0.mk hys; clear hys; obtain ⟨Av, cv, rfl⟩ := Kd.R_slice hR1; have hq := collect_step HVO.out (by omega) hsz HRO.out hR1 (World.grownBy.trans (World.grownBy_alloc W _ _) hg1); have HC := Aside0.mk hq.2; have hc1 := And.intro hq.1.cell hq.1.frozen; clear hq hR1 hg1 hat1)
   obtain ⟨q2, q3, q4, q5, q6⟩ := HC.out
   refine ⟨q4.from _, HBW.out.trans (by rw [HBO.out]; exact q5), (World.cell?_of_block (q6 (bo + 1) (by omega) (by omega))).trans HX.out, Nat.le_trans hsz q4.size, _, q2, ?_⟩
   rw [leftS_step g1 HF.out, ← HYS.out]
   exact q3
  case done =>
   rintro E W hE ⟨hB, hcx, hsz, vo, hvo, hRo⟩ hK
   have hvc := And.intro hvo.cell hvo.frozen
   have hj := joined_any W3.heap.size _ vo _ W hRo hsz (spanC_in (by omega)) (Nat.le_trans (leftS_len D S l1 l3 (dists D l2 l3.length) 1001 (by omega)) (by omega))
   have h := H.out
   unfold wheel_Left.f leftR at h
   rw [if_pos HE.out] at h
   have e1 : (joinR (leftS D S l1 l3 (dists D l2 l3.length) 1001)) = (r0, r1) := Option.some.inj h
   rw [e1] at hj
   obtain ⟨Ao, co, rfl⟩ := Kd.R_slice hRo
   have HBW := Aside0.mk hB
   have HK := Aside0.mk hK
   clear h e1 hcx hB hvo hRo hK hbc hbo
   gi_wp2_with (refine ⟨trivial, ?_⟩; gi_at_call 75; refine (callsIn_wide.2 hj).mono ?_; clear hj; rintro e W' ⟨v0, rfl, h0, hb0, hk0⟩; have H0 := Aside0.mk h0; have HB0 := Aside0.mk hb0; have hK2 := Aside0.mk (hk0.same E _ HK.out rfl); clear h0 hb0 hk0)
   have hww := HB2.out.size
   have hww2 := HBW.out.size
   exact ⟨by simp, .inl ⟨_, _, rfl, run_takeDeferred hK2.out, _, results_tmp2 rfl _ _ _, _, rfl, Kd.R_lower (R_putLoop H0.out hK2.out rfl _) (Nat.le_trans hww hww2), below_putDef (below_weaken (below_weaken HB2.out hww HBW.out) (by have := HB3.out.size; omega) HB0.out) (by have := HB0.out.size; omega) (by have := HB3.out.size; omega) _⟩⟩
  case stop =>
   rintro E c W hE h
   exact h.elim
 ·have hop := fun W hB => opened_err hr1 hc1 hr2 hc2 hr3 hc3 he W hB
  unfold wheel_Left.f leftR at h
  rw [if_neg he] at h
  simp only [Option.some.injEq, Prod.mk.injEq] at h
  obtain ⟨rfl, hr3⟩ := h
  rw [hr3] at hop he
  clear hr3 hr1 hr2 hc1 hc2 hc3
  gi_wp2_with (refine ⟨trivial, ?_⟩; gi_at_call 68; refine (callsIn_wide.2 (hop _ (by repeat (first | exact Below.refl _ _ | apply below_alloc)))).mono ?_; clear hop; rintro e W2 ⟨rfl, hb, hbw⟩; have HB2 := Aside0.mk hbw; clear hb hbw)
  exact ⟨_, results_tmp2 rfl _ _ _, _, rfl, Kd.R_nil _ _ _ _ _, HB2.out⟩
end Go.Proofs.YtgakfgedaipdmaaGreatDoor.P
namespace Go.Proofs.YtgakfgedaipdmaaGreatDoor.P
open Go.RowKit Go.Proofs.YtgakfgedaipdmaaGreatDoorW.PrintWords
set_option linter.unusedVariables false
set_option linter.unusedSimpArgs false
theorem leftTo_has {D S : Int} {l1 : List S61} {l3 : List S59} {dss : List (List Int)} {m : Nat} {c : Int} {a : List Int} (h0 : 1 ≤ c) (h1 : c ≤ m) (h : firstP D S c l1 l3 dss = some a) : (c, a) ∈ leftTo D S l1 l3 dss m := by
 refine List.mem_filterMap.2 ⟨c.toNat - 1, List.mem_range.2 (by omega), ?_⟩
 unfold pairAt
 rw [show ((c.toNat - 1 : Nat) : Int) + 1 = c by omega, h]
 rfl
theorem left_canon (D S : Int) (l1 : List S61) (l3 : List S59) (dss : List (List Int)) : canonOf ((leftTo D S l1 l3 dss 1000).map spanC) = runsIn (fun c => (firstP D S c l1 l3 dss).isSome) 1 1000 := by
 refine canonOf_eq (fun s hs => ?_) (runsIn_canon _ _ _) fun n => ?_
 ·obtain ⟨p, _, rfl⟩ := List.mem_map.1 hs
  exact Int.le_refl _
 ·rw [runsIn_mem]
  constructor
  ·rintro ⟨h1, h2, h3⟩
   obtain ⟨a, ha⟩ := Option.isSome_iff_exists.1 h3
   exact ⟨⟨n, n⟩, List.mem_map.2 ⟨(n, a), leftTo_has h1 h2 ha, rfl⟩, Int.le_refl _, Int.le_refl _⟩
  ·rintro ⟨s, hs, h1, h2⟩
   obtain ⟨p, hp, rfl⟩ := List.mem_map.1 hs
   obtain ⟨g1, g2, g3⟩ := leftTo_mem hp
   have : p.1 = n := Int.le_antisymm h1 h2
   rw [this] at g1 g2 g3
   exact ⟨g1, g2, by rw [g3]; rfl⟩
theorem left_joinR (D S : Int) (l1 : List S61) (l3 : List S59) (dss : List (List Int)) : joinR ((leftTo D S l1 l3 dss 1000).map spanC) = fitR (runsIn (fun c => (firstP D S c l1 l3 dss).isSome) 1 1000) := by
 unfold joinR
 rw [left_canon]
end Go.Proofs.YtgakfgedaipdmaaGreatDoor.P
namespace Go.Proofs.YtgakfgedaipdmaaGreatDoor.P
open Go.RowKit Go.Proofs.YtgakfgedaipdmaaGreatDoorW.PrintWords Go.Proofs.YtgakfgedaipdmaaGreatDoorW.PrintLast Go.Proofs.YtgakfgedaipdmaaGreatDoorW.PrintMore
attribute [local go_sem] max2_int min2_int max_two min_two max_three min_three max_four min_four
set_option linter.unusedVariables false
set_option linter.unusedSimpArgs false
def acreageref05_Valid.f (a0_0 : Int) (a0_1 : Int) : Option (Bool) := if a0_0 ≥ 10 then (if a0_0 ≤ 10000 then (if a0_1 ≥ 0 then (if a0_1 ≤ 100 then (some (decide ((wrap64 (2 * a0_1)) < a0_0))) else (some false)) else (some false)) else (some false)) else (some false)
set_option maxHeartbeats 8000000 in
set_option maxRecDepth 100000 in
theorem acreageref05_Valid.calls (a0_0 : Int) (a0_1 : Int) (r : Bool) (w : World) (h : acreageref05_Valid.f a0_0 a0_1 = some r) :
  Calls Tryz.prog 64 #[.agg #[.int .i64 a0_0, .int .i64 a0_1]] w fun e w' => e = .returned (.bool r) ∧ Below w.heap.size w w' := by
 have hu23 := Tryz.underlying23
 have HB := Aside0.mk (Below.refl w.heap.size w)
 have H : (if a0_0 ≥ 10 then (if a0_0 ≤ 10000 then (if a0_1 ≥ 0 then (if a0_1 ≤ 100 then (some (decide ((wrap64 (2 * a0_1)) < a0_0))) else (some false)) else (some false)) else (some false)) else (some false)) = some r := h
 clear h
 by_cases c2 : a0_0 ≥ 10
 ·rw [if_pos c2] at H
  have c2b0 : decide (10 ≤ a0_0) = true := decide_eq_true c2
  clear c2
  by_cases c3 : a0_0 ≤ 10000
  ·rw [if_pos c3] at H
   have c3b0 : decide (a0_0 ≤ 10000) = true := decide_eq_true c3
   clear c3
   by_cases c4 : a0_1 ≥ 0
   ·rw [if_pos c4] at H
    have c4b0 : decide (0 ≤ a0_1) = true := decide_eq_true c4
    clear c4
    by_cases c5 : a0_1 ≤ 100
    ·rw [if_pos c5] at H
     have c5b0 : decide (a0_1 ≤ 100) = true := decide_eq_true c5
     clear c5
     obtain rfl := Option.some.inj H
     go_enter Tryz.func64, Tryz.ntmps64
     go_wp2_with (first | ((with_reducible refine gate_dst (N := 1) rfl ?_); refine box_event ?hg (N := 1) ?hd (cs := #[.int .i64 a0_0, .int .i64 a0_1]) (t := 23) ?hr ?_; (case hd => rfl); (case hg => rfl); (case hr => first | (go_simp; done) | (go_simp; rfl)); intro gb307 hg w6 hbox hb; have n0_ := Aside0.mk (below_step (bw HB.out) hb); have n1_ := Aside0.mk (hbox); have n2_ := Aside0.mk ((by rw [hg]; exact (below_size (bw HB.out)) : w.heap.size ≤ gb307)); have n3_ := Aside0.mk ((by rw [hg]; exact (below_size (bw HB.out)) : w.heap.size ≤ gb307)); clear HB; have HB := n0_; have BK307 := n1_; have GW307 := n2_; have GE307 := n3_; clear n0_ n1_ n2_ n3_; clear hb hbox hg; have hcz7_0 : w6.cell? ⟨gb307, 0, none⟩ = some (.int .i64 a0_0) := (blk_cell BK307.out 0).trans rfl; have hcz7_1 : w6.cell? ⟨gb307, 1, none⟩ = some (.int .i64 a0_1) := (blk_cell BK307.out 1).trans rfl; have hfz7_0 := blk_frozen BK307.out 0; have hfz7_1 := blk_frozen BK307.out 1))
     go_ret
     exact ⟨by first | rfl | (simp [errW_none, errW_some] <;> rfl) | (simp [*, errW_none, errW_some] <;> rfl), by repeat (first | (with_reducible first | exact HB.out | apply below_alloc | apply pw_below_drewN | apply below_drew1 | refine below_set ?_ GE307.out) | exact HB.out)⟩
    ·rw [if_neg c5] at H
     have c5b0 : decide (a0_1 ≤ 100) = false := decide_eq_false c5
     clear c5
     obtain rfl := Option.some.inj H
     go_enter Tryz.func64, Tryz.ntmps64
     go_wp2_with (first | ((with_reducible refine gate_dst (N := 1) rfl ?_); refine box_event ?hg (N := 1) ?hd (cs := #[.int .i64 a0_0, .int .i64 a0_1]) (t := 23) ?hr ?_; (case hd => rfl); (case hg => rfl); (case hr => first | (go_simp; done) | (go_simp; rfl)); intro gb307 hg w8 hbox hb; have n0_ := Aside0.mk (below_step (bw HB.out) hb); have n1_ := Aside0.mk (hbox); have n2_ := Aside0.mk ((by rw [hg]; exact (below_size (bw HB.out)) : w.heap.size ≤ gb307)); have n3_ := Aside0.mk ((by rw [hg]; exact (below_size (bw HB.out)) : w.heap.size ≤ gb307)); clear HB; have HB := n0_; have BK307 := n1_; have GW307 := n2_; have GE307 := n3_; clear n0_ n1_ n2_ n3_; clear hb hbox hg; have hcz9_0 : w8.cell? ⟨gb307, 0, none⟩ = some (.int .i64 a0_0) := (blk_cell BK307.out 0).trans rfl; have hcz9_1 : w8.cell? ⟨gb307, 1, none⟩ = some (.int .i64 a0_1) := (blk_cell BK307.out 1).trans rfl; have hfz9_0 := blk_frozen BK307.out 0; have hfz9_1 := blk_frozen BK307.out 1))
     go_ret
     exact ⟨by first | rfl | (simp [errW_none, errW_some] <;> rfl) | (simp [*, errW_none, errW_some] <;> rfl), by repeat (first | (with_reducible first | exact HB.out | apply below_alloc | apply pw_below_drewN | apply below_drew1 | refine below_set ?_ GE307.out) | exact HB.out)⟩
   ·rw [if_neg c4] at H
    have c4b0 : decide (0 ≤ a0_1) = false := decide_eq_false c4
    clear c4
    obtain rfl := Option.some.inj H
    go_enter Tryz.func64, Tryz.ntmps64
    go_wp2_with (first | ((with_reducible refine gate_dst (N := 1) rfl ?_); refine box_event ?hg (N := 1) ?hd (cs := #[.int .i64 a0_0, .int .i64 a0_1]) (t := 23) ?hr ?_; (case hd => rfl); (case hg => rfl); (case hr => first | (go_simp; done) | (go_simp; rfl)); intro gb307 hg w10 hbox hb; have n0_ := Aside0.mk (below_step (bw HB.out) hb); have n1_ := Aside0.mk (hbox); have n2_ := Aside0.mk ((by rw [hg]; exact (below_size (bw HB.out)) : w.heap.size ≤ gb307)); have n3_ := Aside0.mk ((by rw [hg]; exact (below_size (bw HB.out)) : w.heap.size ≤ gb307)); clear HB; have HB := n0_; have BK307 := n1_; have GW307 := n2_; have GE307 := n3_; clear n0_ n1_ n2_ n3_; clear hb hbox hg; have hcz11_0 : w10.cell? ⟨gb307, 0, none⟩ = some (.int .i64 a0_0) := (blk_cell BK307.out 0).trans rfl; have hcz11_1 : w10.cell? ⟨gb307, 1, none⟩ = some (.int .i64 a0_1) := (blk_cell BK307.out 1).trans rfl; have hfz11_0 := blk_frozen BK307.out 0; have hfz11_1 := blk_frozen BK307.out 1))
    go_ret
    exact ⟨by first | rfl | (simp [errW_none, errW_some] <;> rfl) | (simp [*, errW_none, errW_some] <;> rfl), by repeat (first | (with_reducible first | exact HB.out | apply below_alloc | apply pw_below_drewN | apply below_drew1 | refine below_set ?_ GE307.out) | exact HB.out)⟩
  ·rw [if_neg c3] at H
   have c3b0 : decide (a0_0 ≤ 10000) = false := decide_eq_false c3
   clear c3
   obtain rfl := Option.some.inj H
   go_enter Tryz.func64, Tryz.ntmps64
   go_wp2_with (first | ((with_reducible refine gate_dst (N := 1) rfl ?_); refine box_event ?hg (N := 1) ?hd (cs := #[.int .i64 a0_0, .int .i64 a0_1]) (t := 23) ?hr ?_; (case hd => rfl); (case hg => rfl); (case hr => first | (go_simp; done) | (go_simp; rfl)); intro gb307 hg w12 hbox hb; have n0_ := Aside0.mk (below_step (bw HB.out) hb); have n1_ := Aside0.mk (hbox); have n2_ := Aside0.mk ((by rw [hg]; exact (below_size (bw HB.out)) : w.heap.size ≤ gb307)); have n3_ := Aside0.mk ((by rw [hg]; exact (below_size (bw HB.out)) : w.heap.size ≤ gb307)); clear HB; have HB := n0_; have BK307 := n1_; have GW307 := n2_; have GE307 := n3_; clear n0_ n1_ n2_ n3_; clear hb hbox hg; have hcz13_0 : w12.cell? ⟨gb307, 0, none⟩ = some (.int .i64 a0_0) := (blk_cell BK307.out 0).trans rfl; have hcz13_1 : w12.cell? ⟨gb307, 1, none⟩ = some (.int .i64 a0_1) := (blk_cell BK307.out 1).trans rfl; have hfz13_0 := blk_frozen BK307.out 0; have hfz13_1 := blk_frozen BK307.out 1))
   go_ret
   exact ⟨by first | rfl | (simp [errW_none, errW_some] <;> rfl) | (simp [*, errW_none, errW_some] <;> rfl), by repeat (first | (with_reducible first | exact HB.out | apply below_alloc | apply pw_below_drewN | apply below_drew1 | refine below_set ?_ GE307.out) | exact HB.out)⟩
 ·rw [if_neg c2] at H
  have c2b0 : decide (10 ≤ a0_0) = false := decide_eq_false c2
  clear c2
  obtain rfl := Option.some.inj H
  go_enter Tryz.func64, Tryz.ntmps64
  go_wp2_with (first | ((with_reducible refine gate_dst (N := 1) rfl ?_); refine box_event ?hg (N := 1) ?hd (cs := #[.int .i64 a0_0, .int .i64 a0_1]) (t := 23) ?hr ?_; (case hd => rfl); (case hg => rfl); (case hr => first | (go_simp; done) | (go_simp; rfl)); intro gb307 hg w14 hbox hb; have n0_ := Aside0.mk (below_step (bw HB.out) hb); have n1_ := Aside0.mk (hbox); have n2_ := Aside0.mk ((by rw [hg]; exact (below_size (bw HB.out)) : w.heap.size ≤ gb307)); have n3_ := Aside0.mk ((by rw [hg]; exact (below_size (bw HB.out)) : w.heap.size ≤ gb307)); clear HB; have HB := n0_; have BK307 := n1_; have GW307 := n2_; have GE307 := n3_; clear n0_ n1_ n2_ n3_; clear hb hbox hg; have hcz15_0 : w14.cell? ⟨gb307, 0, none⟩ = some (.int .i64 a0_0) := (blk_cell BK307.out 0).trans rfl; have hcz15_1 : w14.cell? ⟨gb307, 1, none⟩ = some (.int .i64 a0_1) := (blk_cell BK307.out 1).trans rfl; have hfz15_0 := blk_frozen BK307.out 0; have hfz15_1 := blk_frozen BK307.out 1))
  go_ret
  exact ⟨by first | rfl | (simp [errW_none, errW_some] <;> rfl) | (simp [*, errW_none, errW_some] <;> rfl), by repeat (first | (with_reducible first | exact HB.out | apply below_alloc | apply pw_below_drewN | apply below_drew1 | refine below_set ?_ GE307.out) | exact HB.out)⟩
def acreageref05_dial.f (a0_0 : Int) (a0_1 : Int) (a1 : Int) (a2 : Int) : Option (Bool) := if a1 ≥ 0 then (if a1 < a0_0 then (if a2 ≥ 0 then (some (decide (a2 < a0_0))) else (some false)) else (some false)) else (some false)
set_option maxHeartbeats 8000000 in
set_option maxRecDepth 100000 in
theorem acreageref05_dial.calls (a0_0 : Int) (a0_1 : Int) (a1 : Int) (a2 : Int) (r : Bool) (w : World) (h : acreageref05_dial.f a0_0 a0_1 a1 a2 = some r) :
  Calls Tryz.prog 101 #[.agg #[.int .i64 a0_0, .int .i64 a0_1], .int .i64 a1, .int .i64 a2] w fun e w' => e = .returned (.bool r) ∧ Below w.heap.size w w' := by
 have hu23 := Tryz.underlying23
 have HB := Aside0.mk (Below.refl w.heap.size w)
 have H : (if a1 ≥ 0 then (if a1 < a0_0 then (if a2 ≥ 0 then (some (decide (a2 < a0_0))) else (some false)) else (some false)) else (some false)) = some r := h
 clear h
 by_cases c4 : a1 ≥ 0
 ·rw [if_pos c4] at H
  have c4b0 : decide (0 ≤ a1) = true := decide_eq_true c4
  clear c4
  by_cases c5 : a1 < a0_0
  ·rw [if_pos c5] at H
   have c5b0 : decide (a1 < a0_0) = true := decide_eq_true c5
   clear c5
   by_cases c6 : a2 ≥ 0
   ·rw [if_pos c6] at H
    have c6b0 : decide (0 ≤ a2) = true := decide_eq_true c6
    clear c6
    obtain rfl := Option.some.inj H
    go_enter Tryz.func101, Tryz.ntmps101
    go_wp2_with (first | ((with_reducible refine gate_dst (N := 3) rfl ?_); refine box_event ?hg (N := 3) ?hd (cs := #[.int .i64 a0_0, .int .i64 a0_1]) (t := 23) ?hr ?_; (case hd => rfl); (case hg => rfl); (case hr => first | (go_simp; done) | (go_simp; rfl)); intro gb309 hg w7 hbox hb; have n0_ := Aside0.mk (below_step (bw HB.out) hb); have n1_ := Aside0.mk (hbox); have n2_ := Aside0.mk ((by rw [hg]; exact (below_size (bw HB.out)) : w.heap.size ≤ gb309)); have n3_ := Aside0.mk ((by rw [hg]; exact (below_size (bw HB.out)) : w.heap.size ≤ gb309)); clear HB; have HB := n0_; have BK309 := n1_; have GW309 := n2_; have GE309 := n3_; clear n0_ n1_ n2_ n3_; clear hb hbox hg; have hcz8_0 : w7.cell? ⟨gb309, 0, none⟩ = some (.int .i64 a0_0) := (blk_cell BK309.out 0).trans rfl; have hcz8_1 : w7.cell? ⟨gb309, 1, none⟩ = some (.int .i64 a0_1) := (blk_cell BK309.out 1).trans rfl; have hfz8_0 := blk_frozen BK309.out 0; have hfz8_1 := blk_frozen BK309.out 1))
    go_ret
    exact ⟨by first | rfl | (simp [errW_none, errW_some] <;> rfl) | (simp [*, errW_none, errW_some] <;> rfl), by repeat (first | (with_reducible first | exact HB.out | apply below_alloc | apply pw_below_drewN | apply below_drew1 | refine below_set ?_ GE309.out) | exact HB.out)⟩
   ·rw [if_neg c6] at H
    have c6b0 : decide (0 ≤ a2) = false := decide_eq_false c6
    clear c6
    obtain rfl := Option.some.inj H
    go_enter Tryz.func101, Tryz.ntmps101
    go_wp2_with (first | ((with_reducible refine gate_dst (N := 3) rfl ?_); refine box_event ?hg (N := 3) ?hd (cs := #[.int .i64 a0_0, .int .i64 a0_1]) (t := 23) ?hr ?_; (case hd => rfl); (case hg => rfl); (case hr => first | (go_simp; done) | (go_simp; rfl)); intro gb309 hg w9 hbox hb; have n0_ := Aside0.mk (below_step (bw HB.out) hb); have n1_ := Aside0.mk (hbox); have n2_ := Aside0.mk ((by rw [hg]; exact (below_size (bw HB.out)) : w.heap.size ≤ gb309)); have n3_ := Aside0.mk ((by rw [hg]; exact (below_size (bw HB.out)) : w.heap.size ≤ gb309)); clear HB; have HB := n0_; have BK309 := n1_; have GW309 := n2_; have GE309 := n3_; clear n0_ n1_ n2_ n3_; clear hb hbox hg; have hcz10_0 : w9.cell? ⟨gb309, 0, none⟩ = some (.int .i64 a0_0) := (blk_cell BK309.out 0).trans rfl; have hcz10_1 : w9.cell? ⟨gb309, 1, none⟩ = some (.int .i64 a0_1) := (blk_cell BK309.out 1).trans rfl; have hfz10_0 := blk_frozen BK309.out 0; have hfz10_1 := blk_frozen BK309.out 1))
    go_ret
    exact ⟨by first | rfl | (simp [errW_none, errW_some] <;> rfl) | (simp [*, errW_none, errW_some] <;> rfl), by repeat (first | (with_reducible first | exact HB.out | apply below_alloc | apply pw_below_drewN | apply below_drew1 | refine below_set ?_ GE309.out) | exact HB.out)⟩
  ·rw [if_neg c5] at H
   have c5b0 : decide (a1 < a0_0) = false := decide_eq_false c5
   clear c5
   obtain rfl := Option.some.inj H
   go_enter Tryz.func101, Tryz.ntmps101
   go_wp2_with (first | ((with_reducible refine gate_dst (N := 3) rfl ?_); refine box_event ?hg (N := 3) ?hd (cs := #[.int .i64 a0_0, .int .i64 a0_1]) (t := 23) ?hr ?_; (case hd => rfl); (case hg => rfl); (case hr => first | (go_simp; done) | (go_simp; rfl)); intro gb309 hg w11 hbox hb; have n0_ := Aside0.mk (below_step (bw HB.out) hb); have n1_ := Aside0.mk (hbox); have n2_ := Aside0.mk ((by rw [hg]; exact (below_size (bw HB.out)) : w.heap.size ≤ gb309)); have n3_ := Aside0.mk ((by rw [hg]; exact (below_size (bw HB.out)) : w.heap.size ≤ gb309)); clear HB; have HB := n0_; have BK309 := n1_; have GW309 := n2_; have GE309 := n3_; clear n0_ n1_ n2_ n3_; clear hb hbox hg; have hcz12_0 : w11.cell? ⟨gb309, 0, none⟩ = some (.int .i64 a0_0) := (blk_cell BK309.out 0).trans rfl; have hcz12_1 : w11.cell? ⟨gb309, 1, none⟩ = some (.int .i64 a0_1) := (blk_cell BK309.out 1).trans rfl; have hfz12_0 := blk_frozen BK309.out 0; have hfz12_1 := blk_frozen BK309.out 1))
   go_ret
   exact ⟨by first | rfl | (simp [errW_none, errW_some] <;> rfl) | (simp [*, errW_none, errW_some] <;> rfl), by repeat (first | (with_reducible first | exact HB.out | apply below_alloc | apply pw_below_drewN | apply below_drew1 | refine below_set ?_ GE309.out) | exact HB.out)⟩
 ·rw [if_neg c4] at H
  have c4b0 : decide (0 ≤ a1) = false := decide_eq_false c4
  clear c4
  obtain rfl := Option.some.inj H
  go_enter Tryz.func101, Tryz.ntmps101
  go_wp2_with (first | ((with_reducible refine gate_dst (N := 3) rfl ?_); refine box_event ?hg (N := 3) ?hd (cs := #[.int .i64 a0_0, .int .i64 a0_1]) (t := 23) ?hr ?_; (case hd => rfl); (case hg => rfl); (case hr => first | (go_simp; done) | (go_simp; rfl)); intro gb309 hg w13 hbox hb; have n0_ := Aside0.mk (below_step (bw HB.out) hb); have n1_ := Aside0.mk (hbox); have n2_ := Aside0.mk ((by rw [hg]; exact (below_size (bw HB.out)) : w.heap.size ≤ gb309)); have n3_ := Aside0.mk ((by rw [hg]; exact (below_size (bw HB.out)) : w.heap.size ≤ gb309)); clear HB; have HB := n0_; have BK309 := n1_; have GW309 := n2_; have GE309 := n3_; clear n0_ n1_ n2_ n3_; clear hb hbox hg))
  go_ret
  exact ⟨by first | rfl | (simp [errW_none, errW_some] <;> rfl) | (simp [*, errW_none, errW_some] <;> rfl), by repeat (first | (with_reducible first | exact HB.out | apply below_alloc | apply pw_below_drewN | apply below_drew1 | refine below_set ?_ GE309.out) | exact HB.out)⟩
def acreageref05_bounds.f (a0_0 : Int) (a0_1 : Int) : Option (Bool) := if a0_0 ≥ 0 then (if a0_0 ≤ a0_1 then (some (decide (a0_1 ≤ 1073741824))) else (some false)) else (some false)
set_option maxHeartbeats 8000000 in
set_option maxRecDepth 100000 in
theorem acreageref05_bounds.calls (a0_0 : Int) (a0_1 : Int) (r : Bool) (w : World) (h : acreageref05_bounds.f a0_0 a0_1 = some r) :
  Calls Tryz.prog 85 #[.agg #[.int .i64 a0_0, .int .i64 a0_1]] w fun e w' => e = .returned (.bool r) ∧ Below w.heap.size w w' := by
 have hu59 := Tryz.underlying59
 have HB := Aside0.mk (Below.refl w.heap.size w)
 have H : (if a0_0 ≥ 0 then (if a0_0 ≤ a0_1 then (some (decide (a0_1 ≤ 1073741824))) else (some false)) else (some false)) = some r := h
 clear h
 by_cases c2 : a0_0 ≥ 0
 ·rw [if_pos c2] at H
  have c2b0 : decide (0 ≤ a0_0) = true := decide_eq_true c2
  clear c2
  by_cases c3 : a0_0 ≤ a0_1
  ·rw [if_pos c3] at H
   have c3b0 : decide (a0_0 ≤ a0_1) = true := decide_eq_true c3
   clear c3
   obtain rfl := Option.some.inj H
   go_enter Tryz.func85, Tryz.ntmps85
   go_wp2_with (first | ((with_reducible refine gate_dst (N := 1) rfl ?_); refine box_event ?hg (N := 1) ?hd (cs := #[.int .i64 a0_0, .int .i64 a0_1]) (t := 59) ?hr ?_; (case hd => rfl); (case hg => rfl); (case hr => first | (go_simp; done) | (go_simp; rfl)); intro gb308 hg w4 hbox hb; have n0_ := Aside0.mk (below_step (bw HB.out) hb); have n1_ := Aside0.mk (hbox); have n2_ := Aside0.mk ((by rw [hg]; exact (below_size (bw HB.out)) : w.heap.size ≤ gb308)); have n3_ := Aside0.mk ((by rw [hg]; exact (below_size (bw HB.out)) : w.heap.size ≤ gb308)); clear HB; have HB := n0_; have BK308 := n1_; have GW308 := n2_; have GE308 := n3_; clear n0_ n1_ n2_ n3_; clear hb hbox hg; have hcz5_0 : w4.cell? ⟨gb308, 0, none⟩ = some (.int .i64 a0_0) := (blk_cell BK308.out 0).trans rfl; have hcz5_1 : w4.cell? ⟨gb308, 1, none⟩ = some (.int .i64 a0_1) := (blk_cell BK308.out 1).trans rfl; have hfz5_0 := blk_frozen BK308.out 0; have hfz5_1 := blk_frozen BK308.out 1))
   go_ret
   exact ⟨by first | rfl | (simp [errW_none, errW_some] <;> rfl) | (simp [*, errW_none, errW_some] <;> rfl), by repeat (first | (with_reducible first | exact HB.out | apply below_alloc | apply pw_below_drewN | apply below_drew1 | refine below_set ?_ GE308.out) | exact HB.out)⟩
  ·rw [if_neg c3] at H
   have c3b0 : decide (a0_0 ≤ a0_1) = false := decide_eq_false c3
   clear c3
   obtain rfl := Option.some.inj H
   go_enter Tryz.func85, Tryz.ntmps85
   go_wp2_with (first | ((with_reducible refine gate_dst (N := 1) rfl ?_); refine box_event ?hg (N := 1) ?hd (cs := #[.int .i64 a0_0, .int .i64 a0_1]) (t := 59) ?hr ?_; (case hd => rfl); (case hg => rfl); (case hr => first | (go_simp; done) | (go_simp; rfl)); intro gb308 hg w6 hbox hb; have n0_ := Aside0.mk (below_step (bw HB.out) hb); have n1_ := Aside0.mk (hbox); have n2_ := Aside0.mk ((by rw [hg]; exact (below_size (bw HB.out)) : w.heap.size ≤ gb308)); have n3_ := Aside0.mk ((by rw [hg]; exact (below_size (bw HB.out)) : w.heap.size ≤ gb308)); clear HB; have HB := n0_; have BK308 := n1_; have GW308 := n2_; have GE308 := n3_; clear n0_ n1_ n2_ n3_; clear hb hbox hg; have hcz7_0 : w6.cell? ⟨gb308, 0, none⟩ = some (.int .i64 a0_0) := (blk_cell BK308.out 0).trans rfl; have hcz7_1 : w6.cell? ⟨gb308, 1, none⟩ = some (.int .i64 a0_1) := (blk_cell BK308.out 1).trans rfl; have hfz7_0 := blk_frozen BK308.out 0; have hfz7_1 := blk_frozen BK308.out 1))
   go_ret
   exact ⟨by first | rfl | (simp [errW_none, errW_some] <;> rfl) | (simp [*, errW_none, errW_some] <;> rfl), by repeat (first | (with_reducible first | exact HB.out | apply below_alloc | apply pw_below_drewN | apply below_drew1 | refine below_set ?_ GE308.out) | exact HB.out)⟩
 ·rw [if_neg c2] at H
  have c2b0 : decide (0 ≤ a0_0) = false := decide_eq_false c2
  clear c2
  obtain rfl := Option.some.inj H
  go_enter Tryz.func85, Tryz.ntmps85
  go_wp2_with (first | ((with_reducible refine gate_dst (N := 1) rfl ?_); refine box_event ?hg (N := 1) ?hd (cs := #[.int .i64 a0_0, .int .i64 a0_1]) (t := 59) ?hr ?_; (case hd => rfl); (case hg => rfl); (case hr => first | (go_simp; done) | (go_simp; rfl)); intro gb308 hg w8 hbox hb; have n0_ := Aside0.mk (below_step (bw HB.out) hb); have n1_ := Aside0.mk (hbox); have n2_ := Aside0.mk ((by rw [hg]; exact (below_size (bw HB.out)) : w.heap.size ≤ gb308)); have n3_ := Aside0.mk ((by rw [hg]; exact (below_size (bw HB.out)) : w.heap.size ≤ gb308)); clear HB; have HB := n0_; have BK308 := n1_; have GW308 := n2_; have GE308 := n3_; clear n0_ n1_ n2_ n3_; clear hb hbox hg; have hcz9_0 : w8.cell? ⟨gb308, 0, none⟩ = some (.int .i64 a0_0) := (blk_cell BK308.out 0).trans rfl; have hcz9_1 : w8.cell? ⟨gb308, 1, none⟩ = some (.int .i64 a0_1) := (blk_cell BK308.out 1).trans rfl; have hfz9_0 := blk_frozen BK308.out 0; have hfz9_1 := blk_frozen BK308.out 1))
  go_ret
  exact ⟨by first | rfl | (simp [errW_none, errW_some] <;> rfl) | (simp [*, errW_none, errW_some] <;> rfl), by repeat (first | (with_reducible first | exact HB.out | apply below_alloc | apply pw_below_drewN | apply below_drew1 | refine below_set ?_ GE308.out) | exact HB.out)⟩
def acreageref05_RightTrial.f (a0_0 : Int) (a0_1 : Int) (a1_0 : Int) (a1_1 : Int) (a1_2 : Int) (a1_3 : Int) : Option (Bool) := (acreageref05_bounds.f a1_0 a1_1).bind fun t312 => (if t312 = true then ((acreageref05_dial.f a0_0 a0_1 a1_2 a1_3).bind fun t313 => (some t313)) else (some false))
set_option maxHeartbeats 8000000 in
set_option maxRecDepth 100000 in
theorem acreageref05_RightTrial.calls (a0_0 : Int) (a0_1 : Int) (a1_0 : Int) (a1_1 : Int) (a1_2 : Int) (a1_3 : Int) (r : Bool) (w : World) (h : acreageref05_RightTrial.f a0_0 a0_1 a1_0 a1_1 a1_2 a1_3 = some r) :
  Calls Tryz.prog 95 #[.agg #[.int .i64 a0_0, .int .i64 a0_1], .agg #[.int .i64 a1_0, .int .i64 a1_1, .int .i64 a1_2, .int .i64 a1_3]] w fun e w' => e = .returned (.bool r) ∧ Below w.heap.size w w' := by
 have hu23 := Tryz.underlying23
 have hu61 := Tryz.underlying61
 have hu59 := Tryz.underlying59
 have HB := Aside0.mk (Below.refl w.heap.size w)
 have H : ((acreageref05_bounds.f a1_0 a1_1).bind fun t312 => (if t312 = true then ((acreageref05_dial.f a0_0 a0_1 a1_2 a1_3).bind fun t313 => (some t313)) else (some false))) = some r := h
 clear h
 replace H := Option.bind_eq_some_iff.mp H
 obtain ⟨t312, A30, H⟩ := H
 replace H : (if t312 = true then ((acreageref05_dial.f a0_0 a0_1 a1_2 a1_3).bind fun t313 => (some t313)) else (some false)) = some r := H
 have A3 := Aside0.mk A30
 clear A30
 by_cases c4 : t312 = true
 ·subst c4
  have H1 : ((acreageref05_dial.f a0_0 a0_1 a1_2 a1_3).bind fun t313 => (some t313)) = some r := by rw [if_pos rfl] at H; exact H
  clear H
  have H := H1
  clear H1
  replace H := Option.bind_eq_some_iff.mp H
  obtain ⟨t313, A50, H⟩ := H
  replace H : (some t313) = some r := H
  have A5 := Aside0.mk A50
  clear A50
  obtain rfl := Option.some.inj H
  go_enter Tryz.func95, Tryz.ntmps95
  go_wp2_with (first | ((with_reducible refine gate_dst (N := 2) rfl ?_); refine box_event ?hg (N := 2) ?hd (cs := #[.int .i64 a0_0, .int .i64 a0_1]) (t := 23) ?hr ?_; (case hd => rfl); (case hg => rfl); (case hr => first | (go_simp; done) | (go_simp; rfl)); intro gb310 hg w6 hbox hb; have n0_ := Aside0.mk (below_step (bw HB.out) hb); have n1_ := Aside0.mk (hbox); have n2_ := Aside0.mk ((by rw [hg]; exact (below_size (bw HB.out)) : w.heap.size ≤ gb310)); have n3_ := Aside0.mk ((by rw [hg]; exact (below_size (bw HB.out)) : w.heap.size ≤ gb310)); clear HB; have HB := n0_; have BK310 := n1_; have GW310 := n2_; have GE310 := n3_; clear n0_ n1_ n2_ n3_; clear hb hbox hg) | ((with_reducible refine gate_dst (N := 3) rfl ?_); refine box_event ?hg (N := 3) ?hd (cs := #[.int .i64 a1_0, .int .i64 a1_1, .int .i64 a1_2, .int .i64 a1_3]) (t := 61) ?hr ?_; (case hd => rfl); (case hg => rfl); (case hr => first | (go_simp; done) | (go_simp; rfl)); intro gb311 hg w7 hbox hb; have n0_ := Aside0.mk (blk_below (g := gb310) (o := .cells #[.int .i64 a0_0, .int .i64 a0_1] 23 (0, 0)) (bq BK310.out) hb); have n1_ := Aside0.mk (below_step (by repeat (first | (with_reducible first | exact HB.out | apply below_alloc | apply pw_below_drewN | apply below_drew1 | refine below_set ?_ GE310.out) | exact HB.out)) hb); have n2_ := Aside0.mk (hbox); have n3_ := Aside0.mk ((by rw [hg]; exact (below_size (by repeat (first | (with_reducible first | exact HB.out | apply below_alloc | apply pw_below_drewN | apply below_drew1 | refine below_set ?_ GE310.out) | exact HB.out))) : w.heap.size ≤ gb311)); have n4_ := Aside0.mk ((by rw [hg]; exact (below_size (by repeat (first | (with_reducible first | exact HB.out | apply below_alloc | apply pw_below_drewN | apply below_drew1 | refine below_set ?_ GE310.out) | exact HB.out))) : w.heap.size ≤ gb311)); have n5_ := Aside0.mk ((by rw [hg]; exact Nat.ne_of_lt (blk_lt (g := gb310) (o := .cells #[.int .i64 a0_0, .int .i64 a0_1] 23 (0, 0)) (bq BK310.out)) : gb310 ≠ gb311)); have n6_ := Aside0.mk ((by rw [hg]; exact Nat.ne_of_gt (blk_lt (g := gb310) (o := .cells #[.int .i64 a0_0, .int .i64 a0_1] 23 (0, 0)) (bq BK310.out)) : gb311 ≠ gb310)); clear BK310; clear HB; have BK310 := n0_; have HB := n1_; have BK311 := n2_; have GW311 := n3_; have GE311 := n4_; have NB310_311 := n5_; have NB311_310 := n6_; clear n0_ n1_ n2_ n3_ n4_ n5_ n6_; clear hb hbox hg; have hnb8 := NB311_310.out; have hnc8 := NB310_311.out; have hcz9_0 : w7.cell? ⟨gb311, 0, none⟩ = some (.int .i64 a1_0) := (blk_cell BK311.out 0).trans rfl; have hcz9_1 : w7.cell? ⟨gb311, 1, none⟩ = some (.int .i64 a1_1) := (blk_cell BK311.out 1).trans rfl; have hcz9_2 : w7.cell? ⟨gb311, 2, none⟩ = some (.int .i64 a1_2) := (blk_cell BK311.out 2).trans rfl; have hcz9_3 : w7.cell? ⟨gb311, 3, none⟩ = some (.int .i64 a1_3) := (blk_cell BK311.out 3).trans rfl; have hfz9_0 := blk_frozen BK311.out 0; have hfz9_1 := blk_frozen BK311.out 1; have hfz9_2 := blk_frozen BK311.out 2; have hfz9_3 := blk_frozen BK311.out 3) | ((with_reducible refine gate_callee (f := 85) rfl ?_); refine goesL_ (some 7) rfl rfl Tryz.func85 (by kernel_rfl) rfl #[.agg #[.int .i64 a1_0, .int .i64 a1_1]] rfl mq ?_; (with_reducible refine (acreageref05_bounds.calls a1_0 a1_1 true _ A3.out).mono ?_); rintro e w10 ⟨rfl, hb⟩; refine ⟨_, rfl, ?_⟩; have n0_ := Aside0.mk (blk_below (g := gb310) (o := .cells #[.int .i64 a0_0, .int .i64 a0_1] 23 (0, 0)) (bq BK310.out) hb); have n1_ := Aside0.mk (blk_below (g := gb311) (o := .cells #[.int .i64 a1_0, .int .i64 a1_1, .int .i64 a1_2, .int .i64 a1_3] 61 (0, 0)) (bq BK311.out) hb); have n2_ := Aside0.mk (below_step (by repeat (first | (with_reducible first | exact HB.out | apply below_alloc | apply pw_below_drewN | apply below_drew1 | refine below_set ?_ GE310.out | refine below_set ?_ GE311.out) | exact HB.out)) hb); clear BK310; clear BK311; clear HB; have BK310 := n0_; have BK311 := n1_; have HB := n2_; clear n0_ n1_ n2_; (try clear hb); (try clear hb2); (try clear hk); (try clear hi); have hcz11_0 : w10.cell? ⟨gb310, 0, none⟩ = some (.int .i64 a0_0) := (blk_cell BK310.out 0).trans rfl; have hcz11_1 : w10.cell? ⟨gb310, 1, none⟩ = some (.int .i64 a0_1) := (blk_cell BK310.out 1).trans rfl; have hfz11_0 := blk_frozen BK310.out 0; have hfz11_1 := blk_frozen BK310.out 1; have hcz12_0 : w10.cell? ⟨gb311, 0, none⟩ = some (.int .i64 a1_0) := (blk_cell BK311.out 0).trans rfl; have hcz12_1 : w10.cell? ⟨gb311, 1, none⟩ = some (.int .i64 a1_1) := (blk_cell BK311.out 1).trans rfl; have hcz12_2 : w10.cell? ⟨gb311, 2, none⟩ = some (.int .i64 a1_2) := (blk_cell BK311.out 2).trans rfl; have hcz12_3 : w10.cell? ⟨gb311, 3, none⟩ = some (.int .i64 a1_3) := (blk_cell BK311.out 3).trans rfl; have hfz12_0 := blk_frozen BK311.out 0; have hfz12_1 := blk_frozen BK311.out 1; have hfz12_2 := blk_frozen BK311.out 2; have hfz12_3 := blk_frozen BK311.out 3) | (go_at_call 101; (with_reducible refine (acreageref05_dial.calls a0_0 a0_1 a1_2 a1_3 t313 _ A5.out).mono ?_); rintro e w13 ⟨rfl, hb⟩; have n0_ := Aside0.mk (blk_below (g := gb310) (o := .cells #[.int .i64 a0_0, .int .i64 a0_1] 23 (0, 0)) (bq BK310.out) hb); have n1_ := Aside0.mk (blk_below (g := gb311) (o := .cells #[.int .i64 a1_0, .int .i64 a1_1, .int .i64 a1_2, .int .i64 a1_3] 61 (0, 0)) (bq BK311.out) hb); have n2_ := Aside0.mk (below_step (by repeat (first | (with_reducible first | exact HB.out | apply below_alloc | apply pw_below_drewN | apply below_drew1 | refine below_set ?_ GE310.out | refine below_set ?_ GE311.out) | exact HB.out)) hb); clear BK310; clear BK311; clear HB; have BK310 := n0_; have BK311 := n1_; have HB := n2_; clear n0_ n1_ n2_; (try clear hb); (try clear hb2); (try clear hk); (try clear hi)))
  go_ret
  exact ⟨by first | rfl | (simp [errW_none, errW_some] <;> rfl) | (simp [*, errW_none, errW_some] <;> rfl), by repeat (first | (with_reducible first | exact HB.out | apply below_alloc | apply pw_below_drewN | apply below_drew1 | refine below_set ?_ GE310.out | refine below_set ?_ GE311.out) | exact HB.out)⟩
 ·replace c4 := Bool.eq_false_iff.mpr c4
  subst c4
  have H1 : (some false) = some r := by rw [if_neg (show ¬ (false = true) by decide)] at H; exact H
  clear H
  have H := H1
  clear H1
  obtain rfl := Option.some.inj H
  go_enter Tryz.func95, Tryz.ntmps95
  go_wp2_with (first | ((with_reducible refine gate_dst (N := 2) rfl ?_); refine box_event ?hg (N := 2) ?hd (cs := #[.int .i64 a0_0, .int .i64 a0_1]) (t := 23) ?hr ?_; (case hd => rfl); (case hg => rfl); (case hr => first | (go_simp; done) | (go_simp; rfl)); intro gb310 hg w14 hbox hb; have n0_ := Aside0.mk (below_step (bw HB.out) hb); have n1_ := Aside0.mk (hbox); have n2_ := Aside0.mk ((by rw [hg]; exact (below_size (bw HB.out)) : w.heap.size ≤ gb310)); have n3_ := Aside0.mk ((by rw [hg]; exact (below_size (bw HB.out)) : w.heap.size ≤ gb310)); clear HB; have HB := n0_; have BK310 := n1_; have GW310 := n2_; have GE310 := n3_; clear n0_ n1_ n2_ n3_; clear hb hbox hg) | ((with_reducible refine gate_dst (N := 3) rfl ?_); refine box_event ?hg (N := 3) ?hd (cs := #[.int .i64 a1_0, .int .i64 a1_1, .int .i64 a1_2, .int .i64 a1_3]) (t := 61) ?hr ?_; (case hd => rfl); (case hg => rfl); (case hr => first | (go_simp; done) | (go_simp; rfl)); intro gb311 hg w15 hbox hb; have n0_ := Aside0.mk (blk_below (g := gb310) (o := .cells #[.int .i64 a0_0, .int .i64 a0_1] 23 (0, 0)) (bq BK310.out) hb); have n1_ := Aside0.mk (below_step (by repeat (first | (with_reducible first | exact HB.out | apply below_alloc | apply pw_below_drewN | apply below_drew1 | refine below_set ?_ GE310.out) | exact HB.out)) hb); have n2_ := Aside0.mk (hbox); have n3_ := Aside0.mk ((by rw [hg]; exact (below_size (by repeat (first | (with_reducible first | exact HB.out | apply below_alloc | apply pw_below_drewN | apply below_drew1 | refine below_set ?_ GE310.out) | exact HB.out))) : w.heap.size ≤ gb311)); have n4_ := Aside0.mk ((by rw [hg]; exact (below_size (by repeat (first | (with_reducible first | exact HB.out | apply below_alloc | apply pw_below_drewN | apply below_drew1 | refine below_set ?_ GE310.out) | exact HB.out))) : w.heap.size ≤ gb311)); have n5_ := Aside0.mk ((by rw [hg]; exact Nat.ne_of_lt (blk_lt (g := gb310) (o := .cells #[.int .i64 a0_0, .int .i64 a0_1] 23 (0, 0)) (bq BK310.out)) : gb310 ≠ gb311)); have n6_ := Aside0.mk ((by rw [hg]; exact Nat.ne_of_gt (blk_lt (g := gb310) (o := .cells #[.int .i64 a0_0, .int .i64 a0_1] 23 (0, 0)) (bq BK310.out)) : gb311 ≠ gb310)); clear BK310; clear HB; have BK310 := n0_; have HB := n1_; have BK311 := n2_; have GW311 := n3_; have GE311 := n4_; have NB310_311 := n5_; have NB311_310 := n6_; clear n0_ n1_ n2_ n3_ n4_ n5_ n6_; clear hb hbox hg; have hnb16 := NB311_310.out; have hnc16 := NB310_311.out; have hcz17_0 : w15.cell? ⟨gb311, 0, none⟩ = some (.int .i64 a1_0) := (blk_cell BK311.out 0).trans rfl; have hcz17_1 : w15.cell? ⟨gb311, 1, none⟩ = some (.int .i64 a1_1) := (blk_cell BK311.out 1).trans rfl; have hcz17_2 : w15.cell? ⟨gb311, 2, none⟩ = some (.int .i64 a1_2) := (blk_cell BK311.out 2).trans rfl; have hcz17_3 : w15.cell? ⟨gb311, 3, none⟩ = some (.int .i64 a1_3) := (blk_cell BK311.out 3).trans rfl; have hfz17_0 := blk_frozen BK311.out 0; have hfz17_1 := blk_frozen BK311.out 1; have hfz17_2 := blk_frozen BK311.out 2; have hfz17_3 := blk_frozen BK311.out 3) | ((with_reducible refine gate_callee (f := 85) rfl ?_); refine goesL_ (some 7) rfl rfl Tryz.func85 (by kernel_rfl) rfl #[.agg #[.int .i64 a1_0, .int .i64 a1_1]] rfl mq ?_; (with_reducible refine (acreageref05_bounds.calls a1_0 a1_1 false _ A3.out).mono ?_); rintro e w18 ⟨rfl, hb⟩; refine ⟨_, rfl, ?_⟩; have n0_ := Aside0.mk (blk_below (g := gb310) (o := .cells #[.int .i64 a0_0, .int .i64 a0_1] 23 (0, 0)) (bq BK310.out) hb); have n1_ := Aside0.mk (blk_below (g := gb311) (o := .cells #[.int .i64 a1_0, .int .i64 a1_1, .int .i64 a1_2, .int .i64 a1_3] 61 (0, 0)) (bq BK311.out) hb); have n2_ := Aside0.mk (below_step (by repeat (first | (with_reducible first | exact HB.out | apply below_alloc | apply pw_below_drewN | apply below_drew1 | refine below_set ?_ GE310.out | refine below_set ?_ GE311.out) | exact HB.out)) hb); clear BK310; clear BK311; clear HB; have BK310 := n0_; have BK311 := n1_; have HB := n2_; clear n0_ n1_ n2_; (try clear hb); (try clear hb2); (try clear hk); (try clear hi)))
  go_ret
  exact ⟨by first | rfl | (simp [errW_none, errW_some] <;> rfl) | (simp [*, errW_none, errW_some] <;> rfl), by repeat (first | (with_reducible first | exact HB.out | apply below_alloc | apply pw_below_drewN | apply below_drew1 | refine below_set ?_ GE310.out | refine below_set ?_ GE311.out) | exact HB.out)⟩
def acreageref05_trials.l0 : Nat → List (S61) → Int → Int → Int → Option (Int)
 |0, _, _, _, _ => none
 |k + 1, x1, x5, x315000, x315001 => if x5 < (x1.length : Int) then (if 0 ≤ x5 then ((acreageref05_RightTrial.f x315000 x315001 ((rd_T61 x1 x5).f0.f0) ((rd_T61 x1 x5).f0.f1) ((rd_T61 x1 x5).f1) ((rd_T61 x1 x5).f2)).bind fun t316 => (if t316 = true then (acreageref05_trials.l0 k x1 (wrap64 (x5 + 1)) x315000 x315001) else (some 51))) else (none)) else (some 0)
def acreageref05_trials.f (k : Nat) (a0_0 : Int) (a0_1 : Int) (l1 : List (S61)) : Option (Int) := if (l1.length : Int) > 16 then (some 51) else (acreageref05_trials.l0 k l1 0 a0_0 a0_1)
theorem acreageref05_trials.mono_l : ∀ k, (∀ y0 y1 y2 y3, LeO (acreageref05_trials.l0 k y0 y1 y2 y3) (acreageref05_trials.l0 (k + 1) y0 y1 y2 y3))
 |0 => fun _ _ _ _ r h => by simp [acreageref05_trials.l0] at h
 |k + 1 => by
  have ih0 := acreageref05_trials.mono_l k
  ·intro y0 y1 y2 y3
   unfold acreageref05_trials.l0
   repeat' first
   |(with_reducible exact ih0 _ _ _ _)
   |(with_reducible exact LeO.refl _)
   |(with_reducible exact LeO.none _)
   |(with_reducible refine LeO.ite ?_ ?_)
   |(with_reducible refine LeO.bind ?_ (fun _ => ?_))
   |exact ih0 _ _ _ _
   |exact LeO.none _
   |refine LeO.ite ?_ ?_
   |refine LeO.bind ?_ (fun _ => ?_)
theorem acreageref05_trials.mono : ∀ a0 a1 a2 k, LeO (acreageref05_trials.f k a0 a1 a2) (acreageref05_trials.f (k + 1) a0 a1 a2) := by
 intro a0 a1 a2 k
 have ih0 := acreageref05_trials.mono_l k
 unfold acreageref05_trials.f
 repeat' first
   |(with_reducible exact ih0 _ _ _ _)
   |(with_reducible exact LeO.refl _)
   |(with_reducible exact LeO.none _)
   |(with_reducible refine LeO.ite ?_ ?_)
   |(with_reducible refine LeO.bind ?_ (fun _ => ?_))
   |exact ih0 _ _ _ _
   |exact LeO.none _
   |refine LeO.ite ?_ ?_
   |refine LeO.bind ?_ (fun _ => ?_)
set_option maxHeartbeats 8000000 in
set_option maxRecDepth 100000 in
theorem acreageref05_trials.calls (k : Nat) (a0_0 : Int) (a0_1 : Int) (A1 : Option Addr) (c1 : Nat) (l1 : List (S61)) (r : Int) (w : World) (hr1 : Kd.C k61 w A1 l1.length l1) (hc1 : l1.length ≤ c1) (h : acreageref05_trials.f k a0_0 a0_1 l1 = some r) :
  Calls Tryz.prog 65 #[.agg #[.int .i64 a0_0, .int .i64 a0_1], .slice A1 l1.length c1] w fun e w' => e = .returned (.int .i64 r) ∧ Below w.heap.size w w' := by
 have hu23 := Tryz.underlying23
 have hu61 := Tryz.underlying61
 have HR1 := Aside0.mk hr1
 have HC1 := Aside0.mk hc1
 clear hr1 hc1
 have HB := Aside0.mk (Below.refl w.heap.size w)
 have H : (if (l1.length : Int) > 16 then (some 51) else (acreageref05_trials.l0 k l1 0 a0_0 a0_1)) = some r := h
 clear h
 by_cases c3 : (l1.length : Int) > 16
 ·rw [if_pos c3] at H
  have c3b0 : decide (16 < (l1.length : Int)) = true := decide_eq_true c3
  have c3b1 : decide (16 < l1.length) = true := decide_eq_true (by omega)
  clear c3
  obtain rfl := Option.some.inj H
  go_enter Tryz.func65, Tryz.ntmps65
  go_wp2_with (first | ((with_reducible refine gate_dst (N := 2) rfl ?_); refine box_event ?hg (N := 2) ?hd (cs := #[.int .i64 a0_0, .int .i64 a0_1]) (t := 23) ?hr ?_; (case hd => rfl); (case hg => rfl); (case hr => first | (go_simp; done) | (go_simp; rfl)); intro gb314 hg w4 hbox hb; have n0_ := Aside0.mk (below_step (bw HB.out) hb); have n1_ := Aside0.mk (hbox); have n2_ := Aside0.mk ((by rw [hg]; exact (below_size (bw HB.out)) : w.heap.size ≤ gb314)); have n3_ := Aside0.mk ((by rw [hg]; exact (below_size (bw HB.out)) : w.heap.size ≤ gb314)); clear HB; have HB := n0_; have BK314 := n1_; have GW314 := n2_; have GE314 := n3_; clear n0_ n1_ n2_ n3_; clear hb hbox hg))
  go_ret
  exact ⟨by first | rfl | (simp [errW_none, errW_some] <;> rfl) | (simp [*, errW_none, errW_some] <;> rfl), by repeat (first | (with_reducible first | exact HB.out | apply below_alloc | apply pw_below_drewN | apply below_drew1 | refine below_set ?_ GE314.out) | exact HB.out)⟩
 ·rw [if_neg c3] at H
  have c3b0 : decide (16 < (l1.length : Int)) = false := decide_eq_false c3
  have c3b1 : decide (16 < l1.length) = false := decide_eq_false (by omega)
  clear c3
  have H' := Aside0.mk H
  clear H
  go_enter Tryz.func65, Tryz.ntmps65
  go_wp2_with (first | ((with_reducible refine gate_dst (N := 2) rfl ?_); refine box_event ?hg (N := 2) ?hd (cs := #[.int .i64 a0_0, .int .i64 a0_1]) (t := 23) ?hr ?_; (case hd => rfl); (case hg => rfl); (case hr => first | (go_simp; done) | (go_simp; rfl)); intro gb314 hg w5 hbox hb; have n0_ := Aside0.mk (below_step (bw HB.out) hb); have n1_ := Aside0.mk (hbox); have n2_ := Aside0.mk ((by rw [hg]; exact (below_size (bw HB.out)) : w.heap.size ≤ gb314)); have n3_ := Aside0.mk ((by rw [hg]; exact (below_size (bw HB.out)) : w.heap.size ≤ gb314)); clear HB; have HB := n0_; have BK314 := n1_; have GW314 := n2_; have GE314 := n3_; clear n0_ n1_ n2_ n3_; clear hb hbox hg))
  go_loopg [5] k (fun kq v5 w' => ∃ (x5_1 : Int), v5 = .int .i64 x5_1 ∧ Aside0 (acreageref05_trials.l0 kq l1 x5_1 a0_0 a0_1 = some r) ∧ Aside0 (kq ≤ k) ∧ Aside0 (w'.heap[gb314]? = some (.cells #[.int .i64 a0_0, .int .i64 a0_1] 23 (0, 0))) ∧ Aside0 (Below w.heap.size w w'))
  case atStart => exact ⟨(0), (by first | rfl | (simp; done) | (simp [*]; done)), H', ⟨Nat.le_refl _⟩, ⟨bq BK314.out⟩, ⟨by repeat (first | (with_reducible first | exact HB.out | apply below_alloc | apply pw_below_drewN | apply below_drew1 | refine below_set ?_ GE314.out) | exact HB.out)⟩⟩
  case round =>
   clear H'
   try clear c1
   try clear p2
   try clear c3
   try clear c3b0
   try clear c3b1
   obtain ⟨x5_1, rfl, HA, HK1, BK314, HB⟩ := hrel
   cases gk with
   |zero => exact absurd HA.out (by simp [acreageref05_trials.l0])
   |succ k1 =>
    have H := HA.out
    clear HA
    simp only [acreageref05_trials.l0] at H
    by_cases c6 : x5_1 < (l1.length : Int)
    ·rw [if_pos c6] at H
     have c6b0 : decide (x5_1 < (l1.length : Int)) = true := decide_eq_true c6
     clear c6
     by_cases c7 : 0 ≤ x5_1
     ·rw [if_pos c7] at H
      have c7b0 : decide (0 ≤ x5_1) = true := decide_eq_true c7
      clear c7
      replace H := Option.bind_eq_some_iff.mp H
      obtain ⟨t316, A80, H⟩ := H
      replace H : (if t316 = true then (acreageref05_trials.l0 k1 l1 (wrap64 (x5_1 + 1)) a0_0 a0_1) else (some 51)) = some r := H
      have A8 := Aside0.mk A80
      clear A80
      by_cases c9 : t316 = true
      ·subst c9
       have H1 : (acreageref05_trials.l0 k1 l1 (wrap64 (x5_1 + 1)) a0_0 a0_1) = some r := by rw [if_pos rfl] at H; exact H
       clear H
       have H := H1
       clear H1
       have H' := Aside0.mk H
       clear H
       try go_wp2
       have n0_ := Aside0.mk (blk_drew BK314.out)
       have n1_ := Aside0.mk (below_drew1 HB.out)
       clear BK314
       clear HB
       have BK314 := n0_
       have HB := n1_
       clear n0_ n1_
       have p315 : 0 ≤ (x5_1 : Int) := of_decide_eq_true aq
       have q315 : x5_1 < (l1.length : Int) := of_decide_eq_true aq
       obtain ⟨ad315, e315, hx315_0, hx315_1, hx315_2, hx315_3⟩ := at_T61 HR1.out x5_1 p315 q315
       have hw315_3 := hx315_3
       have hw315_2 := hx315_2
       have hw315_1 := hx315_1
       have hw315_0 := hx315_0
       cases e315
       replace hx315_0 := (HB.out.cell (World.block_lt_of_cell? w _ hx315_0)).trans hx315_0
       replace hx315_1 := (HB.out.cell (World.block_lt_of_cell? w _ hx315_1)).trans hx315_1
       replace hx315_2 := (HB.out.cell (World.block_lt_of_cell? w _ hx315_2)).trans hx315_2
       replace hx315_3 := (HB.out.cell (World.block_lt_of_cell? w _ hx315_3)).trans hx315_3
       replace p315 := eq_true p315
       replace q315 := eq_true q315
       refine start_ (n := 7) (S := fun w' => w'.cell? ⟨gb314, 0, none⟩ = some (.int .i64 a0_0) ∧ w'.cell? ⟨gb314, 1, none⟩ = some (.int .i64 a0_1) ∧ w'.cell? (ad315.add ((x5_1).toNat * 4)) = some (.int .i64 ((rd_T61 l1 x5_1).f0.f0)) ∧ w'.cell? ⟨(ad315.add ((x5_1).toNat * 4)).block, (ad315.add ((x5_1).toNat * 4)).off + 1, none⟩ = some (.int .i64 ((rd_T61 l1 x5_1).f0.f1)) ∧ w'.cell? ⟨(ad315.add ((x5_1).toNat * 4)).block, (ad315.add ((x5_1).toNat * 4)).off + 2, none⟩ = some (.int .i64 ((rd_T61 l1 x5_1).f1)) ∧ w'.cell? ⟨(ad315.add ((x5_1).toNat * 4)).block, (ad315.add ((x5_1).toNat * 4)).off + 3, none⟩ = some (.int .i64 ((rd_T61 l1 x5_1).f2))) (ds := []) #[false, false, false, false, false, false, false] (by kernel_rfl) rfl rfl ⟨(blk_cell BK314.out 0).trans rfl, (blk_cell BK314.out 1).trans rfl, ((HB.out.cell (World.block_lt_of_cell? w _ hw315_0)).trans hw315_0), ((HB.out.cell (World.block_lt_of_cell? w _ hw315_1)).trans hw315_1), ((HB.out.cell (World.block_lt_of_cell? w _ hw315_2)).trans hw315_2), ((HB.out.cell (World.block_lt_of_cell? w _ hw315_3)).trans hw315_3)⟩ (fun hHeld => ?_)
       generalize wr.drew = w10 at BK314 HB hx315_0 hx315_1 hx315_2 hx315_3 hHeld ⊢
       refine pure_ (i := 1) (N := some 16) (v := ?_) (a' := ?_) #[false, true, false, false, false, false, false] rfl rfl (by kernel_rfl) (fun _ _ _ h => h) (Or.inl ⟨by rfl, ?_⟩) ?_ ?_
       rotate_left
       ·intro w'
        go_simp
        with_reducible rfl
       rotate_left
       ·simp only [pq]
        rfl
       refine pure_ (i := 2) (N := some 17) (v := ?_) (a' := ?_) #[false, true, true, false, false, false, false] rfl rfl (by kernel_rfl) (fun _ _ _ h => h) (Or.inl ⟨by rfl, ?_⟩) ?_ ?_
       rotate_left
       ·intro w'
        go_simp
        with_reducible rfl
       rotate_left
       ·simp only [pq]
        rfl
       refine pure_ (i := 3) (N := some 18) (v := ?_) (a' := ?_) #[false, true, true, true, false, false, false] rfl rfl (by kernel_rfl) (fun _ _ _ h => h) (Or.inl ⟨by rfl, ?_⟩) ?_ ?_
       rotate_left
       ·intro w'
        go_simp
        with_reducible rfl
       rotate_left
       ·simp only [pq]
        rfl
       refine take_ (i := 0) (N := some 15) (v := ?_) (a' := ?_) #[true, true, true, true, false, false, false] rfl rfl (by kernel_rfl) (fun _ _ _ h => h) (Or.inl ⟨by rfl, ?_⟩) hHeld ?_ ?_
       rotate_left
       ·rintro w' ⟨s0, s1, s2, s3, s4, s5⟩
        go_simp
        with_reducible rfl
       rotate_left
       ·simp only [pq]
        rfl
       refine take_ (i := 4) (N := some 19) (v := ?_) (a' := ?_) #[true, true, true, true, true, false, false] rfl rfl (by kernel_rfl) (fun _ _ _ h => h) (Or.inl ⟨by rfl, ?_⟩) hHeld ?_ ?_
       rotate_left
       ·rintro w' ⟨s0, s1, s2, s3, s4, s5⟩
        go_simp
        with_reducible rfl
       rotate_left
       ·simp only [pq]
        rfl
       refine one_ (i := 5) (N := some 20) #[true, true, true, true, true, true, false] rfl rfl (by kernel_rfl) (by decide) (fun K hK => ?_)
       refine goes_ Tryz.func95 (by kernel_rfl) rfl #[.agg #[.int .i64 a0_0, .int .i64 a0_1], .agg #[.int .i64 ((rd_T61 l1 x5_1).f0.f0), .int .i64 ((rd_T61 l1 x5_1).f0.f1), .int .i64 ((rd_T61 l1 x5_1).f1), .int .i64 ((rd_T61 l1 x5_1).f2)]] (by rfl) rfl rfl mq ?_
       with_reducible refine (acreageref05_RightTrial.calls a0_0 a0_1 ((rd_T61 l1 x5_1).f0.f0) ((rd_T61 l1 x5_1).f0.f1) ((rd_T61 l1 x5_1).f1) ((rd_T61 l1 x5_1).f2) true _ A8.out).mono ?_
       rintro e w11 ⟨rfl, hb⟩
       refine ⟨_, rfl, ?_⟩
       have n0_ := Aside0.mk (blk_below (g := gb314) (o := .cells #[.int .i64 a0_0, .int .i64 a0_1] 23 (0, 0)) (bq BK314.out) hb)
       have n1_ := Aside0.mk (below_step (by repeat (first | (with_reducible first | exact HB.out | apply below_alloc | apply pw_below_drewN | apply below_drew1 | refine below_set ?_ GE314.out) | exact HB.out)) hb)
       clear BK314
       clear HB
       have BK314 := n0_
       have HB := n1_
       clear n0_ n1_
       (try clear hb)
       (try clear hb2)
       (try clear hk)
       (try clear hi)
       refine hK.out _ _ ⟨(blk_cell BK314.out 0).trans rfl, (blk_cell BK314.out 1).trans rfl, ((HB.out.cell (World.block_lt_of_cell? w _ hw315_0)).trans hw315_0), ((HB.out.cell (World.block_lt_of_cell? w _ hw315_1)).trans hw315_1), ((HB.out.cell (World.block_lt_of_cell? w _ hw315_2)).trans hw315_2), ((HB.out.cell (World.block_lt_of_cell? w _ hw315_3)).trans hw315_3)⟩ (fun hHeld => ?_)
       clear hK K
       refine norm_ (a' := ?_) ?_ ?_
       rotate_left
       ·show Act.put _ (some 20) _ = _
        simp only [pq]
        rfl
       refine pure_ (i := 6) (N := some 21) (v := ?_) (a' := ?_) #[true, true, true, true, true, true, true] rfl rfl (by kernel_rfl) (fun _ _ _ h => h) (Or.inl ⟨by rfl, ?_⟩) ?_ ?_
       rotate_left
       ·intro w'
        go_simp
        with_reducible rfl
       rotate_left
       ·simp only [pq]
        rfl
       refine done_ (by kernel_rfl) ?_
       try go_wp2
       go_roundg k1
       case measure => have := HK1.out; omega
       case rel => exact ⟨(wrap64 (x5_1 + 1)), (by first | rfl | (simp; done) | (simp [*]; done)), H', ⟨by have := HK1.out; omega⟩, ⟨bq BK314.out⟩, ⟨by repeat (first | (with_reducible first | exact HB.out | apply below_alloc | apply pw_below_drewN | apply below_drew1 | refine below_set ?_ GE314.out) | exact HB.out)⟩⟩
      ·replace c9 := Bool.eq_false_iff.mpr c9
       subst c9
       have H1 : (some 51) = some r := by rw [if_neg (show ¬ (false = true) by decide)] at H; exact H
       clear H
       have H := H1
       clear H1
       obtain rfl := Option.some.inj H
       try go_wp2
       have n0_ := Aside0.mk (blk_drew BK314.out)
       have n1_ := Aside0.mk (below_drew1 HB.out)
       clear BK314
       clear HB
       have BK314 := n0_
       have HB := n1_
       clear n0_ n1_
       have p315 : 0 ≤ (x5_1 : Int) := of_decide_eq_true aq
       have q315 : x5_1 < (l1.length : Int) := of_decide_eq_true aq
       obtain ⟨ad315, e315, hx315_0, hx315_1, hx315_2, hx315_3⟩ := at_T61 HR1.out x5_1 p315 q315
       have hw315_3 := hx315_3
       have hw315_2 := hx315_2
       have hw315_1 := hx315_1
       have hw315_0 := hx315_0
       cases e315
       replace hx315_0 := (HB.out.cell (World.block_lt_of_cell? w _ hx315_0)).trans hx315_0
       replace hx315_1 := (HB.out.cell (World.block_lt_of_cell? w _ hx315_1)).trans hx315_1
       replace hx315_2 := (HB.out.cell (World.block_lt_of_cell? w _ hx315_2)).trans hx315_2
       replace hx315_3 := (HB.out.cell (World.block_lt_of_cell? w _ hx315_3)).trans hx315_3
       replace p315 := eq_true p315
       replace q315 := eq_true q315
       refine start_ (n := 7) (S := fun w' => w'.cell? ⟨gb314, 0, none⟩ = some (.int .i64 a0_0) ∧ w'.cell? ⟨gb314, 1, none⟩ = some (.int .i64 a0_1) ∧ w'.cell? (ad315.add ((x5_1).toNat * 4)) = some (.int .i64 ((rd_T61 l1 x5_1).f0.f0)) ∧ w'.cell? ⟨(ad315.add ((x5_1).toNat * 4)).block, (ad315.add ((x5_1).toNat * 4)).off + 1, none⟩ = some (.int .i64 ((rd_T61 l1 x5_1).f0.f1)) ∧ w'.cell? ⟨(ad315.add ((x5_1).toNat * 4)).block, (ad315.add ((x5_1).toNat * 4)).off + 2, none⟩ = some (.int .i64 ((rd_T61 l1 x5_1).f1)) ∧ w'.cell? ⟨(ad315.add ((x5_1).toNat * 4)).block, (ad315.add ((x5_1).toNat * 4)).off + 3, none⟩ = some (.int .i64 ((rd_T61 l1 x5_1).f2))) (ds := []) #[false, false, false, false, false, false, false] (by kernel_rfl) rfl rfl ⟨(blk_cell BK314.out 0).trans rfl, (blk_cell BK314.out 1).trans rfl, ((HB.out.cell (World.block_lt_of_cell? w _ hw315_0)).trans hw315_0), ((HB.out.cell (World.block_lt_of_cell? w _ hw315_1)).trans hw315_1), ((HB.out.cell (World.block_lt_of_cell? w _ hw315_2)).trans hw315_2), ((HB.out.cell (World.block_lt_of_cell? w _ hw315_3)).trans hw315_3)⟩ (fun hHeld => ?_)
       generalize wr.drew = w12 at BK314 HB hx315_0 hx315_1 hx315_2 hx315_3 hHeld ⊢
       refine pure_ (i := 1) (N := some 16) (v := ?_) (a' := ?_) #[false, true, false, false, false, false, false] rfl rfl (by kernel_rfl) (fun _ _ _ h => h) (Or.inl ⟨by rfl, ?_⟩) ?_ ?_
       rotate_left
       ·intro w'
        go_simp
        with_reducible rfl
       rotate_left
       ·simp only [pq]
        rfl
       refine pure_ (i := 2) (N := some 17) (v := ?_) (a' := ?_) #[false, true, true, false, false, false, false] rfl rfl (by kernel_rfl) (fun _ _ _ h => h) (Or.inl ⟨by rfl, ?_⟩) ?_ ?_
       rotate_left
       ·intro w'
        go_simp
        with_reducible rfl
       rotate_left
       ·simp only [pq]
        rfl
       refine pure_ (i := 3) (N := some 18) (v := ?_) (a' := ?_) #[false, true, true, true, false, false, false] rfl rfl (by kernel_rfl) (fun _ _ _ h => h) (Or.inl ⟨by rfl, ?_⟩) ?_ ?_
       rotate_left
       ·intro w'
        go_simp
        with_reducible rfl
       rotate_left
       ·simp only [pq]
        rfl
       refine take_ (i := 0) (N := some 15) (v := ?_) (a' := ?_) #[true, true, true, true, false, false, false] rfl rfl (by kernel_rfl) (fun _ _ _ h => h) (Or.inl ⟨by rfl, ?_⟩) hHeld ?_ ?_
       rotate_left
       ·rintro w' ⟨s0, s1, s2, s3, s4, s5⟩
        go_simp
        with_reducible rfl
       rotate_left
       ·simp only [pq]
        rfl
       refine take_ (i := 4) (N := some 19) (v := ?_) (a' := ?_) #[true, true, true, true, true, false, false] rfl rfl (by kernel_rfl) (fun _ _ _ h => h) (Or.inl ⟨by rfl, ?_⟩) hHeld ?_ ?_
       rotate_left
       ·rintro w' ⟨s0, s1, s2, s3, s4, s5⟩
        go_simp
        with_reducible rfl
       rotate_left
       ·simp only [pq]
        rfl
       refine one_ (i := 5) (N := some 20) #[true, true, true, true, true, true, false] rfl rfl (by kernel_rfl) (by decide) (fun K hK => ?_)
       refine goes_ Tryz.func95 (by kernel_rfl) rfl #[.agg #[.int .i64 a0_0, .int .i64 a0_1], .agg #[.int .i64 ((rd_T61 l1 x5_1).f0.f0), .int .i64 ((rd_T61 l1 x5_1).f0.f1), .int .i64 ((rd_T61 l1 x5_1).f1), .int .i64 ((rd_T61 l1 x5_1).f2)]] (by rfl) rfl rfl mq ?_
       with_reducible refine (acreageref05_RightTrial.calls a0_0 a0_1 ((rd_T61 l1 x5_1).f0.f0) ((rd_T61 l1 x5_1).f0.f1) ((rd_T61 l1 x5_1).f1) ((rd_T61 l1 x5_1).f2) false _ A8.out).mono ?_
       rintro e w13 ⟨rfl, hb⟩
       refine ⟨_, rfl, ?_⟩
       have n0_ := Aside0.mk (blk_below (g := gb314) (o := .cells #[.int .i64 a0_0, .int .i64 a0_1] 23 (0, 0)) (bq BK314.out) hb)
       have n1_ := Aside0.mk (below_step (by repeat (first | (with_reducible first | exact HB.out | apply below_alloc | apply pw_below_drewN | apply below_drew1 | refine below_set ?_ GE314.out) | exact HB.out)) hb)
       clear BK314
       clear HB
       have BK314 := n0_
       have HB := n1_
       clear n0_ n1_
       (try clear hb)
       (try clear hb2)
       (try clear hk)
       (try clear hi)
       refine hK.out _ _ ⟨(blk_cell BK314.out 0).trans rfl, (blk_cell BK314.out 1).trans rfl, ((HB.out.cell (World.block_lt_of_cell? w _ hw315_0)).trans hw315_0), ((HB.out.cell (World.block_lt_of_cell? w _ hw315_1)).trans hw315_1), ((HB.out.cell (World.block_lt_of_cell? w _ hw315_2)).trans hw315_2), ((HB.out.cell (World.block_lt_of_cell? w _ hw315_3)).trans hw315_3)⟩ (fun hHeld => ?_)
       clear hK K
       refine norm_ (a' := ?_) ?_ ?_
       rotate_left
       ·show Act.put _ (some 20) _ = _
        simp only [pq]
        rfl
       refine pure_ (i := 6) (N := some 21) (v := ?_) (a' := ?_) #[true, true, true, true, true, true, true] rfl rfl (by kernel_rfl) (fun _ _ _ h => h) (Or.inl ⟨by rfl, ?_⟩) ?_ ?_
       rotate_left
       ·intro w'
        go_simp
        with_reducible rfl
       rotate_left
       ·simp only [pq]
        rfl
       refine done_ (by kernel_rfl) ?_
       try go_wp2
       go_ret
       exact ⟨by first | rfl | (simp [errW_none, errW_some] <;> rfl) | (simp [*, errW_none, errW_some] <;> rfl), by repeat (first | (with_reducible first | exact HB.out | apply below_alloc | apply pw_below_drewN | apply below_drew1 | refine below_set ?_ GE314.out) | exact HB.out)⟩
     ·rw [if_neg c7] at H
      exact absurd H (by simp)
    ·rw [if_neg c6] at H
     have c6b0 : decide (x5_1 < (l1.length : Int)) = false := decide_eq_false c6
     clear c6
     obtain rfl := Option.some.inj H
     go_wp2
     go_ret
     exact ⟨by first | rfl | (simp [errW_none, errW_some] <;> rfl) | (simp [*, errW_none, errW_some] <;> rfl), by repeat (first | (with_reducible first | exact HB.out | apply below_alloc | apply pw_below_drewN | apply below_drew1 | refine below_set ?_ GE314.out) | exact HB.out)⟩
end Go.Proofs.YtgakfgedaipdmaaGreatDoor.P
