/- WheelConstants holds for every input that the row lets in. -/
import Derived.Test.YtgakfgedaipdmaaGreatDoorQ14
import Derived.Test.YtgakfgedaipdmaaGreatDoorRows
import Derived.Test.YtgakfgedaipdmaaGreatDoorTie
import Derived.Test.YtgakfgedaipdmaaGreatDoorCards
import Derived.Deep.SlicePairs
import Derived.Lib.SmallJoins
import Derived.WalkKit
import Derived.ProofKit
import Derived.OpenShut
import Derived.ChangeOld
import Derived.Below
import Derived.SizedLaws
import Derived.LaidMore
import Derived.Stop.Joined
import Derived.SevenTiedAt
namespace Go.Proofs.YtgakfgedaipdmaaGreatDoor.P
open Go.RowKit Go.Deep Go.Proofs.YtgakfgedaipdmaaGreatDoorW.PrintWords Go.Proofs.YtgakfgedaipdmaaGreatDoorW.PrintLast Go.Proofs.YtgakfgedaipdmaaGreatDoorW.PrintMore
set_option linter.unusedVariables false
set_option linter.unusedSimpArgs false
set_option maxRecDepth 100000
def Opens {α : Type} (d : Kd α) (e : TypeId) : Prop := ∀ {H : Type} {enc : TypeId × Value → H} {W : World} {base : Nat} {spare : Nat → Bool} {held : Bool} {n : Nat} {cs : List Value} {x : DataW H × List MemPlace}, DataW.trod enc Tryz.prog W base spare held n e cs = some x → ∃ a, d.K W a cs
theorem int_of {H : Type} {enc : TypeId × Value → H} {W : World} {base : Nat} {spare : Nat → Bool} {held : Bool} {n : Nat} {cs : List Value} {x : Option (DataW H × List MemPlace)} (hx : x.isSome = true) (h : DataW.trod enc Tryz.prog W base spare held n 3 cs = x) : ∃ k, cs = [.int .i64 k] := by
 obtain ⟨y, rfl⟩ := Option.isSome_iff_exists.1 hx
 obtain ⟨k, e1, _⟩ := DataW.trod_int Tryz.underlying3 h
 exact ⟨k, e1⟩
theorem opens59 : Opens k59 59 := fun {H enc W base spare held n cs x} h => by
 obtain ⟨xs, m, _, _, hl, hxl, hf⟩ := DataW.trod_struct Tryz.underlying59 h
 have hc : Tryz.prog.cellsOf 59 = 2 := by kernel_rfl
 have c3 : Tryz.prog.cellsOf 3 = 1 := by kernel_rfl
 rw [hc] at hl
 match cs, hl, xs, hxl, hf with
 |[v0, v1], _, [y0, y1], _, hf =>
  obtain ⟨a, ha⟩ := int_of rfl (hf 0 _ rfl)
  obtain ⟨b, hb⟩ := int_of rfl (hf 1 _ rfl)
  simp [c3] at ha hb
  subst ha hb
  exact ⟨⟨a, b⟩, k59_mk _ _⟩
theorem opens61 : Opens k61 61 := fun {H enc W base spare held n cs x} h => by
 obtain ⟨xs, m, _, _, hl, hxl, hf⟩ := DataW.trod_struct Tryz.underlying61 h
 have hc : Tryz.prog.cellsOf 61 = 4 := by kernel_rfl
 have c59 : Tryz.prog.cellsOf 59 = 2 := by kernel_rfl
 have c3 : Tryz.prog.cellsOf 3 = 1 := by kernel_rfl
 rw [hc] at hl
 match cs, hl, xs, hxl, hf with
 |[v0, v1, v2, v3], _, [y0, y1, y2], _, hf =>
  obtain ⟨s, hs⟩ := opens59 (hf 0 _ rfl)
  obtain ⟨a, ha⟩ := int_of rfl (hf 1 _ rfl)
  obtain ⟨b, hb⟩ := int_of rfl (hf 2 _ rfl)
  have hs2 := k59_open hs
  simp [c3] at ha hb
  simp [c59] at hs2
  obtain ⟨rfl, rfl⟩ := hs2
  subst ha hb
  exact ⟨⟨s, a, b⟩, k61_mk _ _⟩
theorem openRow {α : Type} {d : Kd α} {e t : TypeId} (z : α) (ho : Opens d e) (ht : Tryz.prog.underlying t = some (.slice e)) (hsz : Tryz.prog.cellsOf e = d.sz) {H : Type} {enc : TypeId × Value → H} {W : World} {base : Nat} {spare : Nat → Bool} {held : Bool} {n : Nat} {A : Option Addr} {len cap : Nat} {x : DataW H × List MemPlace}
  (h : DataW.trod enc Tryz.prog W base spare held n t [.slice A len cap] = some x) : ∃ xs, xs.length = len ∧ Kd.C d W A xs.length xs ∧ xs.length ≤ cap := by
 rcases open_slice ht h with ⟨hcs, _⟩ | ⟨a, len', cap', m, k, D, Pl, hcs, hb, hl, hm, hmm, _, hx⟩
 ·simp at hcs
  obtain ⟨rfl, rfl, rfl⟩ := hcs
  exact ⟨[], rfl, ⟨rfl, by simp, fun h => absurd h (by simp)⟩, by simp⟩
 ·simp at hcs
  obtain ⟨rfl, rfl, rfl⟩ := hcs
  have hlm : len ≤ m := by rw [hmm]; split <;> omega
  have each : ∀ i, ∃ p : α, i < len → ∃ c, c.length = d.sz ∧ d.K W p c ∧ ∀ j u, c[j]? = some u → W.cell? (a.add (i * d.sz + j)) = some u := by
   intro i
   by_cases hi : i < len
   ·obtain ⟨cs', h1, h2⟩ := hx i (by omega)
    obtain ⟨p, hp⟩ := ho h2
    obtain ⟨_, hlen, hcell⟩ := World.cells?_some h1
    refine ⟨p, fun _ => ⟨cs', by rw [hlen, hsz], hp, fun j u hj => ?_⟩⟩
    have hjl := (List.getElem?_eq_some_iff.1 hj).1
    have := hcell j (by omega)
    rw [Deep.add_add, hsz] at this
    rw [this]
    exact hj
   ·exact ⟨z, fun h => absurd h hi⟩
  obtain ⟨f, hf⟩ : ∃ f : Nat → α, ∀ i, i < len → ∃ c, c.length = d.sz ∧ d.K W (f i) c ∧ ∀ j u, c[j]? = some u → W.cell? (a.add (i * d.sz + j)) = some u := ⟨fun i => Classical.choose (each i), fun i => Classical.choose_spec (each i)⟩
  refine ⟨(List.range len).map f, by simp, ⟨rfl, by simp only [List.length_map, List.length_range]; simp only [maxLen] at hm; omega, fun _ => ⟨a, rfl, fun j p hj => ?_⟩⟩, by simpa using hl⟩
  have hjl : j < len := by have := (List.getElem?_eq_some_iff.1 hj).1; simpa using this
  obtain rfl : f j = p := by
   rw [List.getElem?_map, List.getElem?_range hjl] at hj
   exact Option.some.inj hj
  exact hf j hjl
end Go.Proofs.YtgakfgedaipdmaaGreatDoor.P
namespace Go.Proofs.YtgakfgedaipdmaaGreatDoor.P
open Go.ChangeShapes Go.WideShapes Go.ChangeAt Go.RowKit
set_option linter.unusedVariables false
set_option linter.unusedSimpArgs false
set_option maxRecDepth 100000
theorem own : ownKnob Tryz.prog.godebug = none := by kernel_rfl
theorem laidOut : laidOutB Tryz.prog = true := by kernel_rfl
abbrev laid3 {H : Type} : List (String × DataW H) := [("math/bits.deBruijn32tab", Rows.laid_math_bits_deBruijn32tab), ("math/bits.deBruijn64tab", Rows.laid_math_bits_deBruijn64tab), ("internal/strconv.uint64pow10", Rows.laid_internal_strconv_uint64pow10)]
theorem door_met (os : Os) (args : Array Value) : laidMetH Tryz.prog laid3 ((World.doorLaid Tryz.prog 400 os).forCall (fun _ _ => 0) ⟨#[], args, []⟩).memory :=
 laidMetH_of_parts3 (fuel := 8) (laidMet_of_run' 8 (by kernel_rfl) (by kernel_rfl)) (by kernel_rfl) (by kernel_rfl)
theorem opens23 {H : Type} {enc : TypeId × Value → H} {W : World} {base : Nat} {spare : Nat → Bool} {held : Bool} {n : Nat} {cs : List Value} {x : DataW H × List MemPlace} (h : DataW.trod enc Tryz.prog W base spare held n 23 cs = some x) : ∃ a b, cs = [.int .i64 a, .int .i64 b] := by
 obtain ⟨xs, m, _, _, hl, hxl, hf⟩ := DataW.trod_struct Tryz.underlying23 h
 have hc : Tryz.prog.cellsOf 23 = 2 := by kernel_rfl
 have c3 : Tryz.prog.cellsOf 3 = 1 := by kernel_rfl
 rw [hc] at hl
 match cs, hl, xs, hxl, hf with
 |[v0, v1], _, [y0, y1], _, hf =>
  obtain ⟨a, ha⟩ := int_of rfl (hf 0 _ rfl)
  obtain ⟨b, hb⟩ := int_of rfl (hf 1 _ rfl)
  simp [c3] at ha hb
  subst ha hb
  exact ⟨a, b, rfl⟩
end Go.Proofs.YtgakfgedaipdmaaGreatDoor.P
namespace Go.Proofs.YtgakfgedaipdmaaGreatDoor.P
open Go.RowKit Go.Proofs.YtgakfgedaipdmaaGreatDoorW.PrintWords Go.Proofs.YtgakfgedaipdmaaGreatDoorW.PrintLast Go.Proofs.YtgakfgedaipdmaaGreatDoorW.PrintMore
set_option linter.unusedVariables false
set_option linter.unusedSimpArgs false
set_option maxRecDepth 100000
theorem same_loop (l : List S59) (hl : l.length ≤ 1000) : ∀ (m i : Nat), i + m = l.length → ∀ k, acreageref02_Same.l0 (k + m + 1) l l (i : Int) = some true := by
 intro m
 induction m with
 |zero =>
  intro i hi k
  simp only [acreageref02_Same.l0, Nat.add_zero]
  rw [if_neg (by omega)]
 |succ m ih =>
  intro i hi k
  obtain ⟨K, hK⟩ : ∃ K, K = k + m + 1 := ⟨_, rfl⟩
  rw [show k + (m + 1) + 1 = K + 1 by omega]
  simp only [acreageref02_Same.l0]
  rw [if_pos (by omega), if_pos (by omega), if_pos (by omega), if_neg (by simp), wrap64_id (x := (i : Int) + 1) (by omega) (by omega), show (i : Int) + 1 = ((i + 1 : Nat) : Int) by omega, hK, ih (i + 1) (by omega)]
theorem same_eval (l : List S59) (e : Int) (hl : l.length ≤ 1000) : Ev (fun k => acreagelaw05_same.f k l e l e) true := by
 refine ⟨l.length + 1, fun k hk => ?_⟩
 obtain ⟨j, rfl⟩ : ∃ j, k = j + l.length + 1 := ⟨k - l.length - 1, by omega⟩
 have h := same_loop l hl l.length 0 (by omega) j
 rw [show ((0 : Nat) : Int) = 0 from rfl] at h
 show acreagelaw05_same.f (j + l.length + 1) l e l e = some true
 unfold acreagelaw05_same.f acreageref02_Same.f
 rw [if_pos rfl, if_pos rfl, h]
 rfl
theorem fitR_len (o : List S59) : (fitR o).1.length ≤ 64 := by
 unfold fitR
 split
 ·simp
 ·simp only; omega
end Go.Proofs.YtgakfgedaipdmaaGreatDoor.P
namespace Go.Proofs.YtgakfgedaipdmaaGreatDoor.P
open Go.RowKit Go.Proofs.YtgakfgedaipdmaaGreatDoorW.PrintWords Go.Proofs.YtgakfgedaipdmaaGreatDoorW.PrintLast Go.Proofs.YtgakfgedaipdmaaGreatDoorW.PrintMore
set_option linter.unusedVariables false
set_option linter.unusedSimpArgs false
set_option maxRecDepth 100000
theorem const_true (D S : Int) (l : List S61) : ∃ k, acreagelaw05_WheelConstants.f k D S l = some true := by
 by_cases h40 : (l.length : Int) > 40
 ·refine ⟨0, ?_⟩
  unfold acreagelaw05_WheelConstants.f acreagelaw05_sane.f
  rw [Option.bind_some, if_pos rfl, if_pos h40]
 ·have e1 := ref_Constants.eval D S l
  rw [constR_left] at e1
  have hl : (leftR D S l [] [z59]).1.length ≤ 1000 := by
   unfold leftR
   split
   ·exact Nat.le_trans (fitR_len _) (by omega)
   ·simp
  have e2 := same_eval (leftR D S l [] [z59]).1 (leftR D S l [] [z59]).2 hl
  have e3 : Ev (fun k => (acreageref05_Constants.f k D S l).bind fun bt390 => ((acreagelaw05_same.f k (leftR D S l [] [z59]).1 (leftR D S l [] [z59]).2 bt390.1 bt390.2).bind fun t394 => (some t394))) true := Ev.bind e1 (Ev.bind e2 (Ev.now _))
  obtain ⟨k, hk⟩ := e3.rounds
  refine ⟨k, ?_⟩
  unfold acreagelaw05_WheelConstants.f acreagelaw05_sane.f
  rw [Option.bind_some, if_pos rfl, if_neg h40]
  have hw : wheel_Constants.f D S l = some ((leftR D S l [] [z59]).1, (leftR D S l [] [z59]).2) := rfl
  rw [hw, Option.bind_some]
  exact hk
end Go.Proofs.YtgakfgedaipdmaaGreatDoor.P
namespace Go.Proofs.YtgakfgedaipdmaaGreatDoor.constants
open Go.ChangeShapes Go.WideShapes Go.ChangeAt Go.RowKit P
set_option linter.unusedVariables false
set_option maxRecDepth 100000 in
theorem lifted (os : Os) (started : os.Started) (H : Type) (enc : TypeId × Value → H) :
  ReturnsInHanded {} Tryz.checked os 3 .any (fun w args => (Rows.wheelConstantsSpec.pre enc Tryz.prog Tryz.f3 [] false w args ∧ laidMetH Tryz.prog laid3 w) ∧ sizedMet enc Tryz.prog Tryz.f3 (OpenSpec.ofChange Rows.wheelConstantsSpec) false w args)
   (Rows.wheelConstantsSpec.post enc Tryz.prog Tryz.f3 false true false false) := by
 refine returnsInHanded_of_change_and (C := Tryz.checked) (X := fun w _ => laidMetH Tryz.prog laid3 w) (fun _ _ _ hh h => h.of_heap hh) own started (by kernel_rfl) Tryz.func3
  (ChangeSpec.witness_shaped (enc := enc) (C := Tryz.checked) (os := os) (X := fun w _ => laidMetH Tryz.prog laid3 w) false (World.doorLaid Tryz.prog 400 os) #[.agg #[.int .i64 0, .int .i64 0], .slice none 0 0] 8 rfl (World.shaped_of_RefB (by kernel_rfl) (by kernel_rfl)) (by kernel_rfl) (by kernel_rfl) (by kernel_rfl) (door_met os _)) ?_
 intro W base args ds gs before hval0 hW _ _ hL _
 have hval : ∀ (j : Nat) t v, Tryz.f3.params[j]? = some t → args[j]? = some v → Value.okWide Tryz.prog W .any base t v := hval0
 have hW' := hW
 obtain ⟨p, q, hA0, hV, rfl, hfz, hnd⟩ := hW
 have hA : DataW.TrodAll enc Tryz.prog W 0 (fun _ => true) true Tryz.f3.params.toList args.toList ds p := hA0
 rw [Tryz.params3] at hA hval
 obtain ⟨v0, vs0, d0, ds0, p0, q0, hargs, rfl, rfl, h0, r0⟩ := trodAll_cons hA
 obtain ⟨v1, vs1, d1, ds1, p1, q1, rfl, rfl, rfl, h1, r1⟩ := trodAll_cons r0
 obtain ⟨rfl, rfl, rfl⟩ := trodAll_nil r1
 obtain rfl : args = #[v0, v1] := by cases args; simp_all
 obtain ⟨rfl, rfl⟩ := trodVars_none hV
 have k0 := h0
 have k1 := h1
 have lt0 : ∀ x ∈ p0, x.block < W.heap.size := by obtain ⟨m, hm⟩ := k0; exact DataW.trod_lt m _ _ _ hm
 have lt1 : ∀ x ∈ p1, x.block < W.heap.size := by obtain ⟨m, hm⟩ := k1; exact DataW.trod_lt m _ _ _ hm
 obtain ⟨cs, rfl, _⟩ := okWide_struct Tryz.underlying23 (hval 0 23 v0 rfl rfl)
 obtain ⟨A, len, cap, rfl⟩ := okWide_slice Tryz.underlying24 (hval 1 24 v1 rfl rfl)
 obtain ⟨fu0, hf0⟩ := h0
 obtain ⟨fu1, hf1⟩ := h1
 obtain ⟨D, S, hcs⟩ := opens23 hf0
 obtain ⟨l, hlen, hC, hcap⟩ := openRow z61 opens61 Tryz.underlying24 (by kernel_rfl) hf1
 obtain rfl : cs = #[.int .i64 D, .int .i64 S] := by cases cs; simpa [Value.cells] using hcs
 subst hlen
 obtain ⟨k, hk⟩ := const_true D S l
 clear hA0 hval0
 refine (acreagelaw05_WheelConstants.calls k D S A cap l true W hC hcap hk).mono fun e W' ⟨he, bel⟩ => ?_
 subst he
 exact ⟨_, rfl, _, _, _, [], _, [], hW', trodAll_mk1 (shut_bool Tryz.underlying4 _), (trodAll_cons_mk (Below.trod laidOut (by kernel_rfl) (of_decide_eq_true (by kernel_rfl)) k0 bel lt0) (trodAll_cons_mk (Below.trod laidOut (by kernel_rfl) (of_decide_eq_true (by kernel_rfl)) k1 bel lt1) trodAll_mk0)), rfl, bel.frame _, fun h => by cases h⟩
theorem over : Rows.WheelConstantsSaid :=
 OpenClaim.holds_of_wide 3 Tryz.f3 rfl rfl rfl rfl rfl rfl rfl ⟨rfl, rfl, rfl, rfl, rfl⟩ rfl rfl rfl rfl rfl (by kernel_rfl) Tryz.func3 (by kernel_rfl)
  (of_decide_eq_true (by kernel_rfl)) (by unfold Func.isWrapper; first | (rw [if_pos (by decide +kernel)]; kernel_rfl) | (rw [if_neg (by decide +kernel)]; exact ⟨rfl, rfl⟩))
  (fun os started H enc _ => lifted os started H enc)
end Go.Proofs.YtgakfgedaipdmaaGreatDoor.constants
namespace Go.Proofs.YtgakfgedaipdmaaGreatDoor
open Go
theorem wheelConstants_holds : Rows.WheelConstantsCardSaid :=
 Claim7.holds_tied_plain_at .later [] [.data, .data, .data] true (true, "225888ce6ac7e4e564c1c4498fa141e5c1eba157ce129f3865dca58354bbf5c4") false
  constants.over (fun _ h => by cases h) (by kernel_rfl) (fun _ h => by cases h) wheelConstants_row_tie rfl ⟨rfl, rfl⟩ (by kernel_rfl) rfl
  (fun f fn hf hfn => by
   obtain rfl : f = 3 := Option.some.inj ((show Tryz.prog.funcNamed "acreage/acreagelaw05.WheelConstants" = some 3 by kernel_rfl).symm.trans hf) |>.symm
   obtain rfl : fn = Tryz.f3 := (Option.some.inj (Tryz.func3.symm.trans hfn)).symm
   exact ⟨by kernel_rfl, fun j t ht => by
    rw [Tryz.params3] at ht
    have hm : t ∈ [23, 24] := by simpa using Array.mem_of_getElem? ht
    have hall : ([23, 24].all fun u => !Tryz.prog.wantsStandIn u) = true := by kernel_rfl
    exact (show Tryz.prog.wantsStandIn t = false by simpa using List.all_eq_true.1 hall t hm)⟩)
  (by kernel_rfl)
#print axioms wheelConstants_holds
end Go.Proofs.YtgakfgedaipdmaaGreatDoor
