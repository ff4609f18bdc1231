/- A part of the proof. -/
import Derived.Test.YtgakfgedaipdmaaGreatDoorQ02
import Derived.Test.YtgakfgedaipdmaaGreatDoorProg
import Derived.Below
import Derived.Deep.Draws
import Derived.Deep.AppendLies
import Derived.Maps.AppendAt
import Derived.OwnWalk
import Derived.Laws.BytesArg
import Derived.Laws.MakeOwn
import Derived.Laws.OwnMore
import Derived.Deep.OwnRows
import Derived.Tactics
import Derived.Lib.ConvBytes
import Derived.Laws.Slices
import Derived.WalkKit
import Derived.KernelRfl
import Derived.RowKit3
import Derived.Deep.LoopGhost
import Derived.Deep.QuietTactic
import Derived.BigQuiet
import Derived.WideLaws
import Derived.Deep.DeepCutAuto
import Derived.Deep.CutBlock
import Derived.Deep.RegionHeld3
import Derived.Laws.Rows
import Derived.Lib.AppendStr
import Derived.ArgAppend
import Derived.Laws.IdiomCopy
import Derived.OrdersHeld
import Derived.Laws.BitsLemmas
import Derived.RowKit
namespace Go.Proofs.YtgakfgedaipdmaaGreatDoor.P
open Go.RowKit Go.Proofs.YtgakfgedaipdmaaGreatDoorW.PrintWords Go.Proofs.YtgakfgedaipdmaaGreatDoorW.PrintLast Go.Proofs.YtgakfgedaipdmaaGreatDoorW.PrintMore
attribute [local go_sem] max2_int min2_int max_two min_two max_three min_three max_four min_four
set_option linter.unusedVariables false
set_option linter.unusedSimpArgs false
theorem bq {P Q : Prop} (h : Q) (q : Q → P := by intro h; (with_reducible repeat (first | refine blk_drewN ?_ _ | refine blk_drew ?_ | refine blk_alloc ?_ _)); exact h) : P := q h
theorem bw {P Q : Prop} (h : Q) (q : Q → P := by intro h; repeat (first | (with_reducible first | exact h | apply below_alloc | apply pw_below_drewN | apply below_drew1) | exact h)) : P := q h
theorem rq {P Q : Prop} (h : Q) (q : Q → P := by intro h; (with_reducible repeat (first | apply Kd.R_alloc | apply Kd.R_drewN | apply Kd.R_drew)); exact h) : P := q h
theorem mq {P : Prop} (h : P := by (try simp only [List.map_toArray, List.map_cons, List.map_nil]); first | done | rfl | (simp only [List.length_drop, List.length_take]; rfl)) : P := h
theorem dq {P : Prop} (h : P := by repeat (first | exact Below.refl _ _ | apply below_alloc | apply below_drew1)) : P := h
theorem aq {P : Prop} (h : P := by first | (with_reducible assumption) | assumption) : P := h
theorem pq : (∀ (a : Act) (d : Tmp) (v : Value), a.put (some d) v = { a with tmps := a.tmps.setIfInBounds d v }) ∧ (∀ (a : Act) (v : Value), a.put none v = a) ∧ (∀ {α : Type} (l : List α) (i : Nat) (a : α), l.toArray.setIfInBounds i a = (l.set i a).toArray) ∧ (∀ {α : Type} (x : α) (xs : List α) (a : α), (x :: xs).set 0 a = a :: xs) ∧ (∀ {α : Type} (x : α) (xs : List α) (n : Nat) (a : α), (x :: xs).set (n + 1) a = x :: xs.set n a) ∧ (∀ n : Int, IntKind.i64.wrap n = Go.RowKit.wrap64 n) ∧ (∀ n : Int, IntKind.i32.wrap n = Go.RowKit.wrap32 n) := ⟨fun _ _ _ => rfl, fun _ _ => rfl, fun _ _ _ => List.setIfInBounds_toArray .., fun _ _ _ => rfl, fun _ _ _ _ => rfl, i64_w, i32_w⟩
def errW : Option Int → Value
 |none => .nilIface
 |some c => .iface 0 (.int .i64 c)
theorem errW_none : errW none = .nilIface := rfl
theorem errW_some (c : Int) : errW (some c) = .iface 0 (.int .i64 c) := rfl
theorem info3 : (Tryz.prog.info? 3).map (fun i => (i.zero, i.size, i.bytes)) = some (some (.int .i64 0), 1, 8) := by kernel_rfl
theorem info4 : (Tryz.prog.info? 4).map (fun i => (i.zero, i.size, i.bytes)) = some (some (.bool false), 1, 1) := by kernel_rfl
theorem info59 : (Tryz.prog.info? 59).map (fun i => (i.zero, i.size, i.bytes)) = some (some (.agg #[(.int .i64 0), (.int .i64 0)]), 2, 16) := by kernel_rfl
theorem info61 : (Tryz.prog.info? 61).map (fun i => (i.zero, i.size, i.bytes)) = some (some (.agg #[(.int .i64 0), (.int .i64 0), (.int .i64 0), (.int .i64 0)]), 4, 32) := by kernel_rfl
theorem info64 : (Tryz.prog.info? 64).map (fun i => (i.zero, i.size, i.bytes)) = some (some (.agg #[(.int .i64 0), (.int .i64 0), (.int .i64 0)]), 3, 24) := by kernel_rfl
structure S59 where
 f0 : Int
 f1 : Int
def z59 : S59 := ⟨(0 : Int), (0 : Int)⟩
def k59 : Kd S59 := Kd.iso (Kd.pair (Kd.int .i64) (Kd.int .i64)) (fun x : S59 => (x.f0, x.f1))
theorem k59_open {w : World} {x : S59} {cs : List Value} (h : k59.K w x cs) : cs = [.int .i64 x.f0, .int .i64 x.f1] := by
 obtain ⟨_, _, rfl, rfl, rfl⟩ := h
 exact rfl
theorem k59_openM {w : World} {base : Nat} {ok : Nat → Prop} {x : S59} {cs : List Value} (h : k59.M w base ok x cs) : cs = [.int .i64 x.f0, .int .i64 x.f1] := by
 obtain ⟨_, _, rfl, rfl, rfl⟩ := h
 exact rfl
theorem k59_mk (w : World) (x : S59)  : k59.K w x [.int .i64 x.f0, .int .i64 x.f1] := ⟨[.int .i64 x.f0], [.int .i64 x.f1], rfl, rfl, rfl⟩
theorem k59_mkM (w : World) (base : Nat) (ok : Nat → Prop) (x : S59)  : k59.M w base ok x [.int .i64 x.f0, .int .i64 x.f1] := ⟨[.int .i64 x.f0], [.int .i64 x.f1], rfl, rfl, rfl⟩
def rd_T59 (xs : List S59) (i : Int) : S59 := xs.getD i.toNat z59
theorem at_T59 {w : World} {A : Option Addr} {n : Nat} {xs : List S59} (h : Kd.C k59 w A n xs) (i : Int) (h0 : 0 ≤ i) (h1 : i < n) : ∃ ad , A = some ad ∧ w.cell? (ad.add (i.toNat * 2)) = some (.int .i64 (rd_T59 xs i).f0) ∧ w.cell? ⟨(ad.add (i.toNat * 2)).block, (ad.add (i.toNat * 2)).off + 1, none⟩ = some (.int .i64 (rd_T59 xs i).f1) := by
 obtain ⟨ad, c, e, _, hK, hc0⟩ := Kd.C_get h z59 i h0 h1
 have hc : ∀ j u, c[j]? = some u → w.cell? (ad.add (i.toNat * 2 + j)) = some u := hc0
 obtain rfl := k59_open hK
 exact ⟨ad, e, hc 0 _ rfl, by rw [← add_field _ _ 1 (by omega)]; exact hc 1 _ rfl⟩
def rd_L2 (xs : List (List Int)) (i : Int) : (List Int) := xs.getD i.toNat ([] : List Int)
theorem at_L2 {w : World} {A : Option Addr} {n : Nat} {xs : List (List Int)} (h : Kd.C (Kd.slice 3 (Kd.int .i64)) w A n xs) (i : Int) (h0 : 0 ≤ i) (h1 : i < n) : ∃ ad A0 c0, A = some ad ∧ w.cell? (ad.add i.toNat) = some (.slice A0 (rd_L2 xs i).length c0) ∧ (rd_L2 xs i).length ≤ c0 ∧ (Kd.int .i64).C w A0 (rd_L2 xs i).length (rd_L2 xs i) := by
 obtain ⟨ad, c, e, _, hK, hc0⟩ := Kd.C_get h ([] : List Int) i h0 h1
 have hc : ∀ j u, c[j]? = some u → w.cell? (ad.add (i.toNat * 1 + j)) = some u := hc0
 obtain ⟨A0, c0, rfl, l0, g0⟩ := hK
 exact ⟨ad, A0, c0, e, by have hq := hc 0 _ rfl; rwa [Nat.mul_one, Nat.add_zero] at hq, l0, g0⟩
structure S61 where
 f0 : S59
 f1 : Int
 f2 : Int
def z61 : S61 := ⟨z59, (0 : Int), (0 : Int)⟩
def k61 : Kd S61 := Kd.iso (Kd.pair k59 (Kd.pair (Kd.int .i64) (Kd.int .i64))) (fun x : S61 => (x.f0, x.f1, x.f2))
theorem k61_open {w : World} {x : S61} {cs : List Value} (h : k61.K w x cs) : cs = [.int .i64 x.f0.f0, .int .i64 x.f0.f1, .int .i64 x.f1, .int .i64 x.f2] := by
 obtain ⟨_, _, rfl, s0, ⟨_, _, rfl, rfl, rfl⟩⟩ := h
 obtain rfl := k59_open s0
 exact rfl
theorem k61_mk (w : World) (x : S61)  : k61.K w x [.int .i64 x.f0.f0, .int .i64 x.f0.f1, .int .i64 x.f1, .int .i64 x.f2] := ⟨[.int .i64 x.f0.f0, .int .i64 x.f0.f1], [.int .i64 x.f1, .int .i64 x.f2], rfl, (k59_mk w x.f0 ), ⟨[.int .i64 x.f1], [.int .i64 x.f2], rfl, rfl, rfl⟩⟩
theorem k61_mkM (w : World) (base : Nat) (ok : Nat → Prop) (x : S61)  : k61.M w base ok x [.int .i64 x.f0.f0, .int .i64 x.f0.f1, .int .i64 x.f1, .int .i64 x.f2] := ⟨[.int .i64 x.f0.f0, .int .i64 x.f0.f1], [.int .i64 x.f1, .int .i64 x.f2], rfl, (k59_mkM w base ok x.f0 ), ⟨[.int .i64 x.f1], [.int .i64 x.f2], rfl, rfl, rfl⟩⟩
def rd_T61 (xs : List S61) (i : Int) : S61 := xs.getD i.toNat z61
theorem at_T61 {w : World} {A : Option Addr} {n : Nat} {xs : List S61} (h : Kd.C k61 w A n xs) (i : Int) (h0 : 0 ≤ i) (h1 : i < n) : ∃ ad , A = some ad ∧ w.cell? (ad.add (i.toNat * 4)) = some (.int .i64 (rd_T61 xs i).f0.f0) ∧ w.cell? ⟨(ad.add (i.toNat * 4)).block, (ad.add (i.toNat * 4)).off + 1, none⟩ = some (.int .i64 (rd_T61 xs i).f0.f1) ∧ w.cell? ⟨(ad.add (i.toNat * 4)).block, (ad.add (i.toNat * 4)).off + 2, none⟩ = some (.int .i64 (rd_T61 xs i).f1) ∧ w.cell? ⟨(ad.add (i.toNat * 4)).block, (ad.add (i.toNat * 4)).off + 3, none⟩ = some (.int .i64 (rd_T61 xs i).f2) := by
 obtain ⟨ad, c, e, _, hK, hc0⟩ := Kd.C_get h z61 i h0 h1
 have hc : ∀ j u, c[j]? = some u → w.cell? (ad.add (i.toNat * 4 + j)) = some u := hc0
 obtain rfl := k61_open hK
 exact ⟨ad, e, hc 0 _ rfl, by rw [← add_field _ _ 1 (by omega)]; exact hc 1 _ rfl, by rw [← add_field _ _ 2 (by omega)]; exact hc 2 _ rfl, by rw [← add_field _ _ 3 (by omega)]; exact hc 3 _ rfl⟩
def rd_L4 (xs : List (List S59)) (i : Int) : (List S59) := xs.getD i.toNat ([] : List S59)
theorem at_L4 {w : World} {A : Option Addr} {n : Nat} {xs : List (List S59)} (h : Kd.C (Kd.slice 59 k59) w A n xs) (i : Int) (h0 : 0 ≤ i) (h1 : i < n) : ∃ ad A0 c0, A = some ad ∧ w.cell? (ad.add i.toNat) = some (.slice A0 (rd_L4 xs i).length c0) ∧ (rd_L4 xs i).length ≤ c0 ∧ k59.C w A0 (rd_L4 xs i).length (rd_L4 xs i) := by
 obtain ⟨ad, c, e, _, hK, hc0⟩ := Kd.C_get h ([] : List S59) i h0 h1
 have hc : ∀ j u, c[j]? = some u → w.cell? (ad.add (i.toNat * 1 + j)) = some u := hc0
 obtain ⟨A0, c0, rfl, l0, g0⟩ := hK
 exact ⟨ad, A0, c0, e, by have hq := hc 0 _ rfl; rwa [Nat.mul_one, Nat.add_zero] at hq, l0, g0⟩
structure S64 where
 f0 : Int
 f1 : Int
 f2 : Int
def z64 : S64 := ⟨(0 : Int), (0 : Int), (0 : Int)⟩
def k64 : Kd S64 := Kd.iso (Kd.pair (Kd.int .i64) (Kd.pair (Kd.int .i64) (Kd.int .i64))) (fun x : S64 => (x.f0, x.f1, x.f2))
theorem k64_open {w : World} {x : S64} {cs : List Value} (h : k64.K w x cs) : cs = [.int .i64 x.f0, .int .i64 x.f1, .int .i64 x.f2] := by
 obtain ⟨_, _, rfl, rfl, ⟨_, _, rfl, rfl, rfl⟩⟩ := h
 exact rfl
theorem k64_mkM (w : World) (base : Nat) (ok : Nat → Prop) (x : S64)  : k64.M w base ok x [.int .i64 x.f0, .int .i64 x.f1, .int .i64 x.f2] := ⟨[.int .i64 x.f0], [.int .i64 x.f1, .int .i64 x.f2], rfl, rfl, ⟨[.int .i64 x.f1], [.int .i64 x.f2], rfl, rfl, rfl⟩⟩
def rd_T64 (xs : List S64) (i : Int) : S64 := xs.getD i.toNat z64
theorem at_T64 {w : World} {A : Option Addr} {n : Nat} {xs : List S64} (h : Kd.C k64 w A n xs) (i : Int) (h0 : 0 ≤ i) (h1 : i < n) : ∃ ad , A = some ad ∧ w.cell? (ad.add (i.toNat * 3)) = some (.int .i64 (rd_T64 xs i).f0) ∧ w.cell? ⟨(ad.add (i.toNat * 3)).block, (ad.add (i.toNat * 3)).off + 1, none⟩ = some (.int .i64 (rd_T64 xs i).f1) ∧ w.cell? ⟨(ad.add (i.toNat * 3)).block, (ad.add (i.toNat * 3)).off + 2, none⟩ = some (.int .i64 (rd_T64 xs i).f2) := by
 obtain ⟨ad, c, e, _, hK, hc0⟩ := Kd.C_get h z64 i h0 h1
 have hc : ∀ j u, c[j]? = some u → w.cell? (ad.add (i.toNat * 3 + j)) = some u := hc0
 obtain rfl := k64_open hK
 exact ⟨ad, e, hc 0 _ rfl, by rw [← add_field _ _ 1 (by omega)]; exact hc 1 _ rfl, by rw [← add_field _ _ 2 (by omega)]; exact hc 2 _ rfl⟩
structure S114 where
 f0 : Int
 f1 : Int
def z114 : S114 := ⟨(0 : Int), (0 : Int)⟩
def k114 : Kd S114 := Kd.iso (Kd.pair (Kd.int .i64) (Kd.int .i64)) (fun x : S114 => (x.f0, x.f1))
theorem k114_open {w : World} {x : S114} {cs : List Value} (h : k114.K w x cs) : cs = [.int .i64 x.f0, .int .i64 x.f1] := by
 obtain ⟨_, _, rfl, rfl, rfl⟩ := h
 exact rfl
theorem k114_mkM (w : World) (base : Nat) (ok : Nat → Prop) (x : S114)  : k114.M w base ok x [.int .i64 x.f0, .int .i64 x.f1] := ⟨[.int .i64 x.f0], [.int .i64 x.f1], rfl, rfl, rfl⟩
def rd_T114 (xs : List S114) (i : Int) : S114 := xs.getD i.toNat z114
theorem at_T114 {w : World} {A : Option Addr} {n : Nat} {xs : List S114} (h : Kd.C k114 w A n xs) (i : Int) (h0 : 0 ≤ i) (h1 : i < n) : ∃ ad , A = some ad ∧ w.cell? (ad.add (i.toNat * 2)) = some (.int .i64 (rd_T114 xs i).f0) ∧ w.cell? ⟨(ad.add (i.toNat * 2)).block, (ad.add (i.toNat * 2)).off + 1, none⟩ = some (.int .i64 (rd_T114 xs i).f1) := by
 obtain ⟨ad, c, e, _, hK, hc0⟩ := Kd.C_get h z114 i h0 h1
 have hc : ∀ j u, c[j]? = some u → w.cell? (ad.add (i.toNat * 2 + j)) = some u := hc0
 obtain rfl := k114_open hK
 exact ⟨ad, e, hc 0 _ rfl, by rw [← add_field _ _ 1 (by omega)]; exact hc 1 _ rfl⟩
end Go.Proofs.YtgakfgedaipdmaaGreatDoor.P
namespace Go.Proofs.YtgakfgedaipdmaaGreatDoor.P
open Go.RowKit Go.Proofs.YtgakfgedaipdmaaGreatDoorW.PrintWords Go.Proofs.YtgakfgedaipdmaaGreatDoorW.PrintLast Go.Proofs.YtgakfgedaipdmaaGreatDoorW.PrintMore
set_option linter.unusedVariables false
set_option linter.unusedSimpArgs false
section
variable {P : Program} {ops : Array Oper} {rest : List Oper} {o : Oper} {a : Act} {Q : Exit → Act → World → Prop} {α : Type}
theorem append_types {t u e : TypeId} (v x : Value) (ty : TypeId) (ht : P.underlying t = some (.slice e)) (hu : P.underlying u = some (.slice e)) {i : TypeInfo} (hi : P.info? e = some i) (W : World) :
  (Builtin.append_ #[t, u] ty #[v, x]).run P W = (Builtin.append_ #[t, t] ty #[v, x]).run P W := by
 cases v <;> simp [Builtin.append_, run_underlying ht, run_underlying hu, sizeOf, typeInfo, hi]
theorem Kd.R_append_rows2 (d : Kd α) {Rr : α → List Value → Prop} {w0 W : World} (base : Nat) (hgd : o.guard = none) (s x : Operand) (t u e : TypeId) (z : Value) (bytes : Nat)
  (ho : o.op = .call { callee := .builtin .append, args := #[s, x], argTypes := #[t, u] })
  (ht : P.underlying t = some (.slice e)) (hu : P.underlying u = some (.slice e)) (hinfo : (P.info? e).map (fun i => (i.zero, i.size, i.bytes)) = some (some z, d.sz, bytes)) (hz : z.cells.size = d.sz) (hs0 : 0 < d.sz) (hb0 : 0 < bytes)
  (v : Value) (xs ys : List α) (A : Option Addr) (m c : Nat) (ok okp : Nat → Prop) (hs : a.eval s = v) (hx : a.eval x = .slice A m c)
  (HO : d.R e W base ok v xs) (HR : ReadsRow Rr d.sz W A m ys) (hKM : ∀ x cs, Rr x cs → d.M W base okp x cs) (hokp : ∀ k, okp k → ok k ∧ some k ≠ v.ownBlock) (hfresh : ∀ k, W.heap.size ≤ k → ok k)
  (HB : Below base w0 W) (hbase : base ≤ W.heap.size) (hl : (xs.length + m) * bytes ≤ 140737488355328)
  (h : ∀ v1 w1, d.R e w1 base ok v1 (xs ++ ys) → Below base w0 w1 → W.grownBy w1 v.ownBlock → (v1.ownBlock = v.ownBlock ∨ ∃ b, v1.ownBlock = some b ∧ W.heap.size ≤ b) → wpList P ops Q rest (a.put o.dst v1) w1) :
  wpList P ops Q (o :: rest) a W := by
 obtain ⟨i0, hi, hzz⟩ := Option.map_eq_some_iff.1 hinfo
 simp only [Prod.mk.injEq] at hzz
 obtain ⟨hz0, hz1, hz2⟩ := hzz
 have hm : ys.length = m := HR.1
 have hlen : xs.length + m ≤ 140737488355328 := Nat.le_trans (Nat.le_mul_of_pos_right _ hb0) hl
 obtain ⟨hok, inner, hown, hr⟩ := HO
 have hrun : ∃ v1 w1, (Builtin.append_ #[t, t] o.type #[v, .slice A m c]).run P W = .ok v1 w1 ∧ d.R e w1 base ok v1 (xs ++ ys) ∧ W.grownBy w1 v.ownBlock ∧ (v1.ownBlock = v.ownBlock ∨ ∃ b, v1.ownBlock = some b ∧ W.heap.size ≤ b) := by
  rcases A with _ | ad
  ·have h0 : m = 0 := by
    rcases Nat.eq_zero_or_pos m with h0 | h0
    ·exact h0
    ·obtain ⟨ad, h, _⟩ := HR.2.2 h0
     cases h
   subst h0
   obtain rfl : ys = [] := List.eq_nil_of_length_eq_zero hm
   refine ⟨v, W, ?_, by rw [List.append_nil]; exact ⟨hok, inner, hown, hr⟩, World.grownBy.refl W _, .inl rfl⟩
   rcases hown.2 with ⟨rfl, hn⟩ | ⟨g, cap, cur, rfl, _, _, hnc, _⟩
   ·simp [Builtin.append_, run_underlying ht, sizeOf, typeInfo, hi, Builtin.lenOf, Builtin.firstCells]
   ·simp [Builtin.append_, run_underlying ht, sizeOf, typeInfo, hi, Builtin.lenOf, Builtin.firstCells, hnc, storeCells]
  ·obtain ⟨news, hnr, hnc⟩ := ReadsRow.inner_ HR
   have hnM : Reps (d.M W base okp) d.sz ys news := hnr.imp_ (fun p c hp => hKM p c hp)
   have hone : ∀ u ∈ news, u.oneCell' = true := by
    intro u hu
    obtain ⟨q, hq, rfl⟩ := List.mem_iff_getElem.1 hu
    have hql : q / d.sz < ys.length := by
     rw [Nat.div_lt_iff_lt_mul hs0]
     rw [← hnM.1]
     exact hq
    have hc := hnM.2 (q / d.sz) _ (List.getElem?_eq_getElem hql)
    refine d.K_one (d.K_of_M hc) _ ?_
    rw [List.mem_iff_getElem?]
    refine ⟨q % d.sz, ?_⟩
    rw [List.getElem?_take, if_pos (Nat.mod_lt _ hs0), List.getElem?_drop, Nat.mul_comm, Nat.div_add_mod, List.getElem?_eq_getElem hq]
   obtain ⟨v1, w1, hrun, h2, hg, _, hat⟩ := run_append_own_at (P := P) W base t o.type e i0 z d.sz bytes ht hi hz0 hz1 hz2 hz hs0 v xs.length inner hown ad m c news (by rw [hnM.1, hm]) hnc hone (by simp only [maxLen]; omega) hl hbase
   have hat' : v1.ownBlock = v.ownBlock ∨ ∃ b, v1.ownBlock = some b ∧ W.heap.size ≤ b := by
    rcases hat with hat | hat
    ·exact .inl hat
    ·exact .inr ⟨_, hat, Nat.le_refl _⟩
   have hne : ∀ k, some k ≠ v.ownBlock → k < W.heap.size → some k ≠ v1.ownBlock := by
    intro k hk hlt
    rcases hat' with hat | ⟨b, hb, hle⟩
    ·rw [hat]; exact hk
    ·rw [hb]
     intro he
     injection he with he
     omega
   have step : ∀ {q : α} {c : List Value} {o : Nat → Prop}, d.M W base o q c → (∀ k, o k → ok k ∧ some k ≠ v.ownBlock) → d.M w1 base (fun k => ok k ∧ some k ≠ v1.ownBlock) q c := by
    intro q c o hq ho
    have h1 := d.M_move (w1 := w1) (fun k hk => hg.block k hk.2.2.1 (ho k hk.1).2) (d.M_bound hq)
    exact d.M_mono (fun k hk => ⟨(ho k hk.1).1, hne k (ho k hk.1).2 hk.2.2.1⟩) h1
   refine ⟨v1, w1, hrun, ⟨fun k hk => ?_, inner ++ news, by rw [List.length_append, hm]; exact h2, Kd.reps_append (hr.imp_ (fun _ _ hq => step hq (fun _ hk => hk))) (hnM.imp_ (fun _ _ hq => step hq hokp))⟩, hg, hat'⟩
   rcases hat' with hat | ⟨b, hb, hle⟩
   ·exact hok k (hat ▸ hk)
   ·rw [hb] at hk
    injection hk with hk
    exact hfresh k (by omega)
 obtain ⟨v1, w1, hr1, h1, hg, hat⟩ := hrun
 refine wpList_plain hgd fun K hK => ?_
 unfold Oper.wp execOp
 simp only [ho, resolve, invoke, builtin, Sem.run_bind, Sem.run_pure, Result.andThen_ok, List.map_toArray, List.map_cons, List.map_nil, hs, hx, append_types v (.slice A m c) o.type ht hu hi W, hr1]
 exact hK _ _ (h v1 w1 h1 (HB.grown hg hbase (own_base hown)) hg hat)
end
theorem ret_int2 {k k' : IntKind} {a b a' b' : Int} (h : a = a') (h' : b = b') : Ending.returned (.tuple #[.int k a, .int k' b]) = .returned (.tuple #[.int k a', .int k' b']) := by rw [h, h']
theorem ret_agg2 {k k' : IntKind} {a b a' b' : Int} (h : a = a') (h' : b = b') : Ending.returned (.agg #[.int k a, .int k' b]) = .returned (.agg #[.int k a', .int k' b']) := by rw [h, h']
theorem div_bd (x D : Int) (hD : 0 < D) : x / D * D ≤ x ∧ x - D < x / D * D := by
 have h1 := Int.emod_add_mul_ediv x D
 have h2 := Int.emod_nonneg x (by omega : D ≠ 0)
 have h3 := Int.emod_lt_of_pos x hD
 rw [Int.mul_comm] at h1
 omega
end Go.Proofs.YtgakfgedaipdmaaGreatDoor.P
namespace Go.Proofs.YtgakfgedaipdmaaGreatDoor.P
open Go.RowKit Go.Proofs.YtgakfgedaipdmaaGreatDoorW.PrintWords Go.Proofs.YtgakfgedaipdmaaGreatDoorW.PrintLast Go.Proofs.YtgakfgedaipdmaaGreatDoorW.PrintMore
attribute [local go_sem] max2_int min2_int max_two min_two max_three min_three max_four min_four
set_option linter.unusedVariables false
set_option linter.unusedSimpArgs false
def wOk (D S : Int) : Prop := 10 ≤ D ∧ D ≤ 10000 ∧ 0 ≤ S ∧ S ≤ 100 ∧ 2 * S < D
instance (D S : Int) : Decidable (wOk D S) := by unfold wOk; infer_instance
def wMid (D S d n : Int) : Int := if n ≤ d + S then d else d + (n - d - S + D - 1) / D * D
def wFirst (D S d n : Int) : Int := mx (mx n (wMid D S d n - S)) 0
def wLast (D S d n : Int) : Int := if 2 * S + 1 = D then 1099511627776 else wMid D S d n + S
def runOk (D S d n : Int) : Prop := wOk D S ∧ 0 ≤ d ∧ d < D ∧ 0 ≤ n ∧ n ≤ 4398046511104
instance (D S d n : Int) : Decidable (runOk D S d n) := by unfold runOk; infer_instance
def wheel_dial_run.f (D S d n : Int) : Option (Int × Int) := if runOk D S d n then some (wFirst D S d n, wLast D S d n) else none
set_option maxHeartbeats 4000000 in
set_option maxRecDepth 100000 in
theorem wheel_dial_run.calls (a0_0 : Int) (a0_1 : Int) (a1 : Int) (a2 : Int) (r1 : Int) (r2 : Int) (w : World) (h : wheel_dial_run.f a0_0 a0_1 a1 a2 = some (r1, r2)) :
  Calls Tryz.prog 149 #[.agg #[.int .i64 a0_0, .int .i64 a0_1], .int .i64 a1, .int .i64 a2] w fun e w' => e = .returned (.tuple #[.int .i64 r1, .int .i64 r2]) ∧ Below w.heap.size w w' := by
 unfold wheel_dial_run.f at h
 by_cases hok : runOk a0_0 a0_1 a1 a2
 ·rw [if_pos hok] at h
  simp only [Option.some.injEq, Prod.mk.injEq] at h
  obtain ⟨h1, h2⟩ := h
  obtain ⟨⟨b1, b2, b3, b4, b5⟩, b6, b7, b8, b9⟩ := hok
  have hu108 := Tryz.underlying108
  subst h1; subst h2
  by_cases hn : a2 ≤ a1 + a0_1
  ·have hm : wMid a0_0 a0_1 a1 a2 = a1 := by unfold wMid; rw [if_pos hn]
   unfold wFirst wLast
   rw [hm]
   clear hm
   by_cases hf : 2 * a0_1 + 1 = a0_0
   ·rw [if_pos hf]
    have hf' : (2 * a0_1 + 1 == a0_0) = true := by simpa using hf
    clear hf
    go_enter Tryz.func149, Tryz.ntmps149
    go_wp2
    all_goals
     go_ret2
     exact ⟨ret_int2 (by unfold mx; repeat' split <;> omega) rfl, (Below.refl _ _).alloc (Nat.le_refl _) _⟩
   ·rw [if_neg hf]
    have hf' : (2 * a0_1 + 1 == a0_0) = false := by simpa using hf
    clear hf
    go_enter Tryz.func149, Tryz.ntmps149
    go_wp2
    all_goals
     go_ret2
     exact ⟨ret_int2 (by unfold mx; repeat' split <;> omega) rfl, (Below.refl _ _).alloc (Nat.le_refl _) _⟩
  ·obtain ⟨q, hq⟩ : ∃ q, (a2 - a1 - a0_1 + a0_0 - 1) / a0_0 = q := ⟨_, rfl⟩
   have hqd := div_bd (a2 - a1 - a0_1 + a0_0 - 1) a0_0 (by omega)
   have hq0 : 0 ≤ q := by rw [← hq]; exact Int.ediv_nonneg (by omega) (by omega)
   have hq1 : 1 ≤ q := by rw [← hq]; exact (Int.le_ediv_iff_mul_le (by omega)).2 (by omega)
   have hq2 : q ≤ 4398046521104 := by rw [← hq]; exact Int.le_trans (Int.ediv_le_self _ (by omega)) (by omega)
   have hqt : (a2 - a1 - a0_1 + a0_0 - 1).tdiv a0_0 = q := by rw [← hq]; exact Int.tdiv_eq_ediv_of_nonneg (by omega)
   rw [hq] at hqd
   have hm : wMid a0_0 a0_1 a1 a2 = a1 + q * a0_0 := by unfold wMid; rw [if_neg hn, hq]
   unfold wFirst wLast
   rw [hm]
   clear hm hq
   obtain ⟨z, hz⟩ : ∃ z, q * a0_0 = z := ⟨_, rfl⟩
   rw [hz] at hqd ⊢
   obtain ⟨hz1, hz2⟩ := hqd
   by_cases hf : 2 * a0_1 + 1 = a0_0
   ·rw [if_pos hf]
    have hf' : (2 * a0_1 + 1 == a0_0) = true := by simpa using hf
    clear hf
    go_enter Tryz.func149, Tryz.ntmps149
    go_wp2
    all_goals
     go_ret2
     exact ⟨ret_int2 (by unfold mx; repeat' split <;> omega) rfl, (Below.refl _ _).alloc (Nat.le_refl _) _⟩
   ·rw [if_neg hf]
    have hf' : (2 * a0_1 + 1 == a0_0) = false := by simpa using hf
    clear hf
    go_enter Tryz.func149, Tryz.ntmps149
    go_wp2
    all_goals
     go_ret2
     exact ⟨ret_int2 (by unfold mx; repeat' split <;> omega) rfl, (Below.refl _ _).alloc (Nat.le_refl _) _⟩
 ·rw [if_neg hok] at h
  exact absurd h (by simp)
def wDist (D s e : Int) : Int := (e - s + D) % D
theorem wDist_bd {D s e : Int} (h : 0 < D) : 0 ≤ wDist D s e ∧ wDist D s e < D := ⟨Int.emod_nonneg _ (by omega), Int.emod_lt_of_pos _ h⟩
def nextOk (D S s e n : Int) : Prop := wOk D S ∧ 0 ≤ s ∧ s < D ∧ 0 ≤ e ∧ e < D ∧ 0 ≤ n ∧ n ≤ 4398046511104
instance (D S s e n : Int) : Decidable (nextOk D S s e n) := by unfold nextOk; infer_instance
def acreageref05_next.f (D S s e n : Int) : Option (Int × Int) := if nextOk D S s e n then some (wFirst D S (wDist D s e) n, wMid D S (wDist D s e) n + S) else none
set_option maxHeartbeats 4000000 in
set_option maxRecDepth 100000 in
theorem acreageref05_next.calls (a0_0 : Int) (a0_1 : Int) (a1_0 : Int) (a1_1 : Int) (a2 : Int) (r1 : Int) (r2 : Int) (w : World) (h : acreageref05_next.f a0_0 a0_1 a1_0 a1_1 a2 = some (r1, r2)) :
  Calls Tryz.prog 123 #[.agg #[.int .i64 a0_0, .int .i64 a0_1], .agg #[.int .i64 a1_0, .int .i64 a1_1], .int .i64 a2] w fun e w' => e = .returned (.agg #[.int .i64 r1, .int .i64 r2]) ∧ Below w.heap.size w w' := by
 unfold acreageref05_next.f at h
 by_cases hok : nextOk a0_0 a0_1 a1_0 a1_1 a2
 ·rw [if_pos hok] at h
  simp only [Option.some.injEq, Prod.mk.injEq] at h
  obtain ⟨h1, h2⟩ := h
  obtain ⟨⟨b1, b2, b3, b4, b5⟩, b6, b7, b8, b9, b10, b11⟩ := hok
  subst h1; subst h2
  obtain ⟨hd1, hd2⟩ := wDist_bd (D := a0_0) (s := a1_0) (e := a1_1) (by omega)
  have hdq : (a1_1 - a1_0 + a0_0) % a0_0 = wDist a0_0 a1_0 a1_1 := rfl
  obtain ⟨d, hd⟩ : ∃ d, wDist a0_0 a1_0 a1_1 = d := ⟨_, rfl⟩
  rw [hd] at hd1 hd2 hdq ⊢
  clear hd
  have hu23 := Tryz.underlying23
  have hu114 := Tryz.underlying114
  have hu59 := Tryz.underlying59
  by_cases hn : a2 ≤ d + a0_1
  ·have hm : wMid a0_0 a0_1 d a2 = d := by unfold wMid; rw [if_pos hn]
   unfold wFirst
   rw [hm]
   clear hm
   go_enter Tryz.func123, Tryz.ntmps123
   go_wp2
   all_goals
    refine bodyPost_ret (by simp [results, Tryz.results123, go_sem]; exact ⟨rfl, rfl⟩) rfl ⟨ret_agg2 (by unfold mx; repeat' split <;> omega) (by omega), by repeat (first | exact Below.refl _ _ | apply below_alloc)⟩
  ·obtain ⟨q, hq⟩ : ∃ q, (a2 - d - a0_1 + a0_0 - 1) / a0_0 = q := ⟨_, rfl⟩
   have hqd := div_bd (a2 - d - a0_1 + a0_0 - 1) a0_0 (by omega)
   have hq0 : 0 ≤ q := by rw [← hq]; exact Int.ediv_nonneg (by omega) (by omega)
   have hq2 : q ≤ 4398046521104 := by rw [← hq]; exact Int.le_trans (Int.ediv_le_self _ (by omega)) (by omega)
   rw [hq] at hqd
   have hm : wMid a0_0 a0_1 d a2 = d + q * a0_0 := by unfold wMid; rw [if_neg hn, hq]
   unfold wFirst
   rw [hm]
   clear hm
   obtain ⟨z, hz⟩ : ∃ z, q * a0_0 = z := ⟨_, rfl⟩
   rw [hz] at hqd ⊢
   obtain ⟨hz1, hz2⟩ := hqd
   go_enter Tryz.func123, Tryz.ntmps123
   go_wp2
   all_goals
    refine bodyPost_ret (by simp [results, Tryz.results123, go_sem]; exact ⟨rfl, rfl⟩) rfl ⟨ret_agg2 (by unfold mx; repeat' split <;> omega) (by omega), by repeat (first | exact Below.refl _ _ | apply below_alloc)⟩
 ·rw [if_neg hok] at h
  exact absurd h (by simp)
end Go.Proofs.YtgakfgedaipdmaaGreatDoor.P
namespace Go.Proofs.YtgakfgedaipdmaaGreatDoor.P
open Go.Proofs.YtgakfgedaipdmaaGreatDoorW.PrintWords Go.Proofs.YtgakfgedaipdmaaGreatDoorW.PrintMore
set_option linter.unusedVariables false
set_option linter.unusedSimpArgs false
def can (D S d r : Int) : Bool := decide (0 ≤ r) && (decide (0 ≤ r - d + S) && decide ((r - d + S) % D ≤ 2 * S))
def canAll (D S : Int) (ds : List Int) (r : Int) : Bool := ds.all fun d => can D S d r
theorem can_iff {D S d r : Int} : can D S d r = true ↔ 0 ≤ r ∧ 0 ≤ r - d + S ∧ (r - d + S) % D ≤ 2 * S := by simp [can]
theorem mod_of {m D k x : Int} (hD : 0 < D) (h : m = k * D + x) (h0 : 0 ≤ x) (h1 : x < D) : m % D = x ∧ m / D = k := by
 subst h
 rw [Int.add_comm, Int.mul_comm]
 exact ⟨by rw [Int.add_mul_emod_self_left]; exact Int.emod_eq_of_lt h0 h1, by rw [Int.add_mul_ediv_left _ _ (by omega), Int.ediv_eq_zero_of_lt h0 h1]; omega⟩
theorem can_of {D S d r k : Int} (hw : wOk D S) (hr : 0 ≤ r) (hk : 0 ≤ k) (h0 : d + k * D - S ≤ r) (h1 : r ≤ d + k * D + S) : can D S d r = true := by
 obtain ⟨b1, b2, b3, b4, b5⟩ := hw
 have hkD : 0 ≤ k * D := Int.mul_nonneg hk (by omega)
 obtain ⟨hm, _⟩ := mod_of (m := r - d + S) (D := D) (k := k) (x := r - d + S - k * D) (by omega) (by omega) (by omega) (by omega)
 rw [can_iff, hm]
 omega
theorem of_can {D S d r : Int} (hw : wOk D S) (h : can D S d r = true) : 0 ≤ r ∧ ∃ k, 0 ≤ k ∧ d + k * D - S ≤ r ∧ r ≤ d + k * D + S := by
 obtain ⟨b1, b2, b3, b4, b5⟩ := hw
 obtain ⟨h0, h1, h2⟩ := can_iff.1 h
 have e := Int.emod_add_mul_ediv (r - d + S) D
 have e1 := Int.emod_nonneg (r - d + S) (by omega : D ≠ 0)
 have e2 : 0 ≤ (r - d + S) / D := Int.ediv_nonneg h1 (by omega)
 rw [Int.mul_comm] at e
 exact ⟨h0, _, e2, by omega, by omega⟩
theorem wMid_eq {D S d n : Int} (hw : wOk D S) (hd0 : 0 ≤ d) (hd1 : d < D) (hn : 0 ≤ n) : ∃ k, 0 ≤ k ∧ wMid D S d n = d + k * D ∧ n ≤ d + k * D + S ∧ (k = 0 ∨ d + k * D + S - D < n) := by
 obtain ⟨b1, b2, b3, b4, b5⟩ := hw
 unfold wMid
 by_cases h : n ≤ d + S
 ·rw [if_pos h]
  exact ⟨0, by omega, by omega, by omega, .inl rfl⟩
 ·rw [if_neg h]
  have hq := div_bd (n - d - S + D - 1) D (by omega)
  exact ⟨(n - d - S + D - 1) / D, Int.ediv_nonneg (by omega) (by omega), rfl, by omega, .inr (by omega)⟩
theorem mx_le {a b c : Int} (h : a ≤ c) (h' : b ≤ c) : mx a b ≤ c := by unfold mx; split <;> omega
theorem le_mx_left (a b : Int) : a ≤ mx a b := by unfold mx; split <;> omega
theorem le_mx_right (a b : Int) : b ≤ mx a b := by unfold mx; split <;> omega
theorem mx_cases (a b : Int) : mx a b = a ∨ mx a b = b := by unfold mx; split <;> simp
theorem mn_le_left (a b : Int) : mn a b ≤ a := by unfold mn; split <;> omega
theorem mn_le_right (a b : Int) : mn a b ≤ b := by unfold mn; split <;> omega
theorem le_mn {a b c : Int} (h : c ≤ a) (h' : c ≤ b) : c ≤ mn a b := by unfold mn; split <;> omega
theorem wFirst_ge {D S d n : Int} : n ≤ wFirst D S d n ∧ 0 ≤ wFirst D S d n := ⟨Int.le_trans (le_mx_left _ _) (le_mx_left _ _), le_mx_right _ _⟩
theorem wFirst_no {D S d n r : Int} (hw : wOk D S) (hd0 : 0 ≤ d) (hd1 : d < D) (hn : 0 ≤ n) (h0 : n ≤ r) (h1 : r < wFirst D S d n) : can D S d r = false := by
 obtain ⟨k, hk, hm, h2, h3⟩ := wMid_eq hw hd0 hd1 hn
 cases hc : can D S d r with
 |false => rfl
 |true =>
  obtain ⟨hr, j, hj, h4, h5⟩ := of_can hw hc
  obtain ⟨b1, b2, b3, b4, b5⟩ := hw
  unfold wFirst at h1
  rw [hm] at h1
  have h6 : r < d + k * D - S := by
   rcases mx_cases (mx n (d + k * D - S)) 0 with e | e
   ·rw [e] at h1
    rcases mx_cases n (d + k * D - S) with e | e <;> omega
   ·omega
  have hjk : j < k := by
   rcases Int.lt_or_le j k with h | h
   ·exact h
   ·have := Int.mul_le_mul_of_nonneg_right h (show 0 ≤ D by omega)
    omega
  have : (j + 1) * D ≤ k * D := Int.mul_le_mul_of_nonneg_right (by omega) (by omega)
  rw [Int.add_mul, Int.one_mul] at this
  omega
theorem wFirst_yes {D S d n r : Int} (hw : wOk D S) (hd0 : 0 ≤ d) (hd1 : d < D) (hn : 0 ≤ n) (h0 : wFirst D S d n ≤ r) (h1 : r ≤ wMid D S d n + S) : can D S d r = true := by
 obtain ⟨k, hk, hm, h2, h3⟩ := wMid_eq hw hd0 hd1 hn
 rw [hm] at h1
 have h4 : d + k * D - S ≤ wFirst D S d n := by unfold wFirst; rw [hm]; exact Int.le_trans (le_mx_right n _) (le_mx_left _ _)
 have := (wFirst_ge (D := D) (S := S) (d := d) (n := n)).2
 exact can_of hw (by omega) hk (by omega) h1
theorem wFirst_le {D S d n : Int} (hw : wOk D S) (hd0 : 0 ≤ d) (hd1 : d < D) (hn : 0 ≤ n) : wFirst D S d n ≤ wMid D S d n + S ∧ wFirst D S d n < n + D ∨ wFirst D S d n ≤ wMid D S d n + S ∧ wFirst D S d n < D := by
 obtain ⟨k, hk, hm, h2, h3⟩ := wMid_eq hw hd0 hd1 hn
 obtain ⟨b1, b2, b3, b4, b5⟩ := hw
 have hkD : 0 ≤ k * D := Int.mul_nonneg hk (by omega)
 unfold wFirst
 rw [hm]
 rcases mx_cases (mx n (d + k * D - S)) 0 with e | e
 ·rw [e]
  rcases mx_cases n (d + k * D - S) with e' | e'
  ·rw [e']; exact .inl ⟨by omega, by omega⟩
  ·rw [e']
   rcases h3 with h3 | h3
   ·subst h3; exact .inr ⟨by omega, by omega⟩
   ·exact .inl ⟨by omega, by omega⟩
 ·rw [e]; exact .inr ⟨by omega, by omega⟩
theorem far_yes {D S d n r : Int} (hw : wOk D S) (hf : 2 * S + 1 = D) (hd0 : 0 ≤ d) (hd1 : d < D) (hn : 0 ≤ n) (h0 : wFirst D S d n ≤ r) : can D S d r = true := by
 obtain ⟨k, hk, hm, h2, h3⟩ := wMid_eq hw hd0 hd1 hn
 obtain ⟨b1, b2, b3, b4, b5⟩ := hw
 have h4 : d + k * D - S ≤ wFirst D S d n := by unfold wFirst; rw [hm]; exact Int.le_trans (le_mx_right n _) (le_mx_left _ _)
 have h5 := (wFirst_ge (D := D) (S := S) (d := d) (n := n)).2
 have hkD : 0 ≤ k * D := Int.mul_nonneg hk (by omega)
 rw [can_iff]
 have := Int.emod_lt_of_pos (r - d + S) (show 0 < D by omega)
 omega
theorem wLast_yes {D S d n r : Int} (hw : wOk D S) (hd0 : 0 ≤ d) (hd1 : d < D) (hn : 0 ≤ n) (h0 : wFirst D S d n ≤ r) (h1 : r ≤ wLast D S d n) : can D S d r = true := by
 unfold wLast at h1
 by_cases hf : 2 * S + 1 = D
 ·exact far_yes hw hf hd0 hd1 hn h0
 ·rw [if_neg hf] at h1; exact wFirst_yes hw hd0 hd1 hn h0 h1
theorem wFirst_le_wLast {D S d n : Int} (hw : wOk D S) (hd0 : 0 ≤ d) (hd1 : d < D) (hn : 0 ≤ n) (hn1 : n ≤ 1099511607776) : wFirst D S d n ≤ wLast D S d n := by
 have h := wFirst_le hw hd0 hd1 hn
 obtain ⟨b1, b2, b3, b4, b5⟩ := hw
 unfold wLast
 split <;> omega
theorem can_less {D S d r : Int} (hw : wOk D S) (hd0 : 0 ≤ d) (hd1 : d < D) (h : can D S d r = true) (hr : D + D ≤ r) : can D S d (r - D) = true := by
 obtain ⟨h0, k, hk, h1, h2⟩ := of_can hw h
 have hw' := hw
 obtain ⟨b1, b2, b3, b4, b5⟩ := hw
 have hk1 : 1 ≤ k := by
  rcases Int.lt_or_le k 1 with h | h
  ·have : k = 0 := by omega
   subst this; omega
  ·exact h
 have e : (k - 1) * D = k * D - D := by rw [Int.sub_mul, Int.one_mul]
 exact can_of (k := k - 1) hw' (by omega) (by omega) (by omega) (by omega)
end Go.Proofs.YtgakfgedaipdmaaGreatDoor.P
namespace Go.Proofs.YtgakfgedaipdmaaGreatDoor.P
open Go.RowKit Go.Proofs.YtgakfgedaipdmaaGreatDoorW.PrintWords Go.Proofs.YtgakfgedaipdmaaGreatDoorW.PrintLast Go.Proofs.YtgakfgedaipdmaaGreatDoorW.PrintMore
attribute [local go_sem] max2_int min2_int max_two min_two max_three min_three max_four min_four
set_option linter.unusedVariables false
set_option linter.unusedSimpArgs false
def wheel_span.f (a0_0 : Int) (a0_1 : Int) : Option (Bool) := if a0_0 ≥ 0 then (if a0_0 ≤ a0_1 then (some (decide (a0_1 ≤ 1073741824))) else (some false)) else (some false)
set_option maxHeartbeats 8000000 in
set_option maxRecDepth 100000 in
theorem wheel_span.calls (a0_0 : Int) (a0_1 : Int) (r : Bool) (w : World) (h : wheel_span.f a0_0 a0_1 = some r) :
  Calls Tryz.prog 98 #[.agg #[.int .i64 a0_0, .int .i64 a0_1]] w fun e w' => e = .returned (.bool r) ∧ Below w.heap.size w w' := by
 have hu59 := Tryz.underlying59
 have HB := Aside0.mk (Below.refl w.heap.size w)
 have H : (if a0_0 ≥ 0 then (if a0_0 ≤ a0_1 then (some (decide (a0_1 ≤ 1073741824))) else (some false)) else (some false)) = some r := h
 clear h
 by_cases c2 : a0_0 ≥ 0
 ·rw [if_pos c2] at H
  have c2b0 : decide (0 ≤ a0_0) = true := decide_eq_true c2
  clear c2
  by_cases c3 : a0_0 ≤ a0_1
  ·rw [if_pos c3] at H
   have c3b0 : decide (a0_0 ≤ a0_1) = true := decide_eq_true c3
   clear c3
   obtain rfl := Option.some.inj H
   go_enter Tryz.func98, Tryz.ntmps98
   go_wp2_with (first | ((with_reducible refine gate_dst (N := 1) rfl ?_); refine box_event ?hg (N := 1) ?hd (cs := #[.int .i64 a0_0, .int .i64 a0_1]) (t := 59) ?hr ?_; (case hd => rfl); (case hg => rfl); (case hr => first | (go_simp; done) | (go_simp; rfl)); intro gb109 hg w4 hbox hb; have n0_ := Aside0.mk (below_step (bw HB.out) hb); have n1_ := Aside0.mk (hbox); have n2_ := Aside0.mk ((by rw [hg]; exact (below_size (bw HB.out)) : w.heap.size ≤ gb109)); have n3_ := Aside0.mk ((by rw [hg]; exact (below_size (bw HB.out)) : w.heap.size ≤ gb109)); clear HB; have HB := n0_; have BK109 := n1_; have GW109 := n2_; have GE109 := n3_; clear n0_ n1_ n2_ n3_; clear hb hbox hg; have hcz5_0 : w4.cell? ⟨gb109, 0, none⟩ = some (.int .i64 a0_0) := (blk_cell BK109.out 0).trans rfl; have hcz5_1 : w4.cell? ⟨gb109, 1, none⟩ = some (.int .i64 a0_1) := (blk_cell BK109.out 1).trans rfl; have hfz5_0 := blk_frozen BK109.out 0; have hfz5_1 := blk_frozen BK109.out 1))
   go_ret
   exact ⟨by first | rfl | (simp [errW_none, errW_some] <;> rfl) | (simp [*, errW_none, errW_some] <;> rfl), by repeat (first | (with_reducible first | exact HB.out | apply below_alloc | apply pw_below_drewN | apply below_drew1 | refine below_set ?_ GE109.out) | exact HB.out)⟩
  ·rw [if_neg c3] at H
   have c3b0 : decide (a0_0 ≤ a0_1) = false := decide_eq_false c3
   clear c3
   obtain rfl := Option.some.inj H
   go_enter Tryz.func98, Tryz.ntmps98
   go_wp2_with (first | ((with_reducible refine gate_dst (N := 1) rfl ?_); refine box_event ?hg (N := 1) ?hd (cs := #[.int .i64 a0_0, .int .i64 a0_1]) (t := 59) ?hr ?_; (case hd => rfl); (case hg => rfl); (case hr => first | (go_simp; done) | (go_simp; rfl)); intro gb109 hg w6 hbox hb; have n0_ := Aside0.mk (below_step (bw HB.out) hb); have n1_ := Aside0.mk (hbox); have n2_ := Aside0.mk ((by rw [hg]; exact (below_size (bw HB.out)) : w.heap.size ≤ gb109)); have n3_ := Aside0.mk ((by rw [hg]; exact (below_size (bw HB.out)) : w.heap.size ≤ gb109)); clear HB; have HB := n0_; have BK109 := n1_; have GW109 := n2_; have GE109 := n3_; clear n0_ n1_ n2_ n3_; clear hb hbox hg; have hcz7_0 : w6.cell? ⟨gb109, 0, none⟩ = some (.int .i64 a0_0) := (blk_cell BK109.out 0).trans rfl; have hcz7_1 : w6.cell? ⟨gb109, 1, none⟩ = some (.int .i64 a0_1) := (blk_cell BK109.out 1).trans rfl; have hfz7_0 := blk_frozen BK109.out 0; have hfz7_1 := blk_frozen BK109.out 1))
   go_ret
   exact ⟨by first | rfl | (simp [errW_none, errW_some] <;> rfl) | (simp [*, errW_none, errW_some] <;> rfl), by repeat (first | (with_reducible first | exact HB.out | apply below_alloc | apply pw_below_drewN | apply below_drew1 | refine below_set ?_ GE109.out) | exact HB.out)⟩
 ·rw [if_neg c2] at H
  have c2b0 : decide (0 ≤ a0_0) = false := decide_eq_false c2
  clear c2
  obtain rfl := Option.some.inj H
  go_enter Tryz.func98, Tryz.ntmps98
  go_wp2_with (first | ((with_reducible refine gate_dst (N := 1) rfl ?_); refine box_event ?hg (N := 1) ?hd (cs := #[.int .i64 a0_0, .int .i64 a0_1]) (t := 59) ?hr ?_; (case hd => rfl); (case hg => rfl); (case hr => first | (go_simp; done) | (go_simp; rfl)); intro gb109 hg w8 hbox hb; have n0_ := Aside0.mk (below_step (bw HB.out) hb); have n1_ := Aside0.mk (hbox); have n2_ := Aside0.mk ((by rw [hg]; exact (below_size (bw HB.out)) : w.heap.size ≤ gb109)); have n3_ := Aside0.mk ((by rw [hg]; exact (below_size (bw HB.out)) : w.heap.size ≤ gb109)); clear HB; have HB := n0_; have BK109 := n1_; have GW109 := n2_; have GE109 := n3_; clear n0_ n1_ n2_ n3_; clear hb hbox hg; have hcz9_0 : w8.cell? ⟨gb109, 0, none⟩ = some (.int .i64 a0_0) := (blk_cell BK109.out 0).trans rfl; have hcz9_1 : w8.cell? ⟨gb109, 1, none⟩ = some (.int .i64 a0_1) := (blk_cell BK109.out 1).trans rfl; have hfz9_0 := blk_frozen BK109.out 0; have hfz9_1 := blk_frozen BK109.out 1))
  go_ret
  exact ⟨by first | rfl | (simp [errW_none, errW_some] <;> rfl) | (simp [*, errW_none, errW_some] <;> rfl), by repeat (first | (with_reducible first | exact HB.out | apply below_alloc | apply pw_below_drewN | apply below_drew1 | refine below_set ?_ GE109.out) | exact HB.out)⟩
def wheel_opened_1.f (a0_0 : Int) (a0_1 : Int) : Option (Bool) := (wheel_span.f a0_0 a0_1).bind fun t126 => (some (!t126))
set_option maxHeartbeats 8000000 in
set_option maxRecDepth 100000 in
theorem wheel_opened_1.calls (a0_0 : Int) (a0_1 : Int) (r : Bool) (w : World) (h : wheel_opened_1.f a0_0 a0_1 = some r) :
  Calls Tryz.prog 121 #[.agg #[.int .i64 a0_0, .int .i64 a0_1]] w fun e w' => e = .returned (.bool r) ∧ Below w.heap.size w w' := by
 have hu59 := Tryz.underlying59
 have HB := Aside0.mk (Below.refl w.heap.size w)
 have H : ((wheel_span.f a0_0 a0_1).bind fun t126 => (some (!t126))) = some r := h
 clear h
 replace H := Option.bind_eq_some_iff.mp H
 obtain ⟨t126, A20, H⟩ := H
 replace H : (some (!t126)) = some r := H
 have A2 := Aside0.mk A20
 clear A20
 obtain rfl := Option.some.inj H
 go_enter Tryz.func121, Tryz.ntmps121
 go_wp2_with (first | ((with_reducible refine gate_dst (N := 1) rfl ?_); refine box_event ?hg (N := 1) ?hd (cs := #[.int .i64 a0_0, .int .i64 a0_1]) (t := 59) ?hr ?_; (case hd => rfl); (case hg => rfl); (case hr => first | (go_simp; done) | (go_simp; rfl)); intro gb125 hg w3 hbox hb; have n0_ := Aside0.mk (below_step (bw HB.out) hb); have n1_ := Aside0.mk (hbox); have n2_ := Aside0.mk ((by rw [hg]; exact (below_size (bw HB.out)) : w.heap.size ≤ gb125)); have n3_ := Aside0.mk ((by rw [hg]; exact (below_size (bw HB.out)) : w.heap.size ≤ gb125)); clear HB; have HB := n0_; have BK125 := n1_; have GW125 := n2_; have GE125 := n3_; clear n0_ n1_ n2_ n3_; clear hb hbox hg; have hcz4_0 : w3.cell? ⟨gb125, 0, none⟩ = some (.int .i64 a0_0) := (blk_cell BK125.out 0).trans rfl; have hcz4_1 : w3.cell? ⟨gb125, 1, none⟩ = some (.int .i64 a0_1) := (blk_cell BK125.out 1).trans rfl; have hfz4_0 := blk_frozen BK125.out 0; have hfz4_1 := blk_frozen BK125.out 1) | ((with_reducible refine gate_callee (f := 98) rfl ?_); refine goesL_ (some 4) rfl rfl Tryz.func98 (by kernel_rfl) rfl #[.agg #[.int .i64 a0_0, .int .i64 a0_1]] rfl mq ?_; (with_reducible refine (wheel_span.calls a0_0 a0_1 t126 _ A2.out).mono ?_); rintro e w5 ⟨rfl, hb⟩; refine ⟨_, rfl, ?_⟩; have n0_ := Aside0.mk (blk_below (g := gb125) (o := .cells #[.int .i64 a0_0, .int .i64 a0_1] 59 (0, 0)) (bq BK125.out) hb); have n1_ := Aside0.mk (below_step (by repeat (first | (with_reducible first | exact HB.out | apply below_alloc | apply pw_below_drewN | apply below_drew1 | refine below_set ?_ GE125.out) | exact HB.out)) hb); clear BK125; clear HB; have BK125 := n0_; have HB := n1_; clear n0_ n1_; (try clear hb); (try clear hb2); (try clear hk); (try clear hi)))
 go_ret
 exact ⟨by first | rfl | (simp [errW_none, errW_some] <;> rfl) | (simp [*, errW_none, errW_some] <;> rfl), by repeat (first | (with_reducible first | exact HB.out | apply below_alloc | apply pw_below_drewN | apply below_drew1 | refine below_set ?_ GE125.out) | exact HB.out)⟩
def spanOk (s : S59) : Bool := decide (0 ≤ s.f0) && decide (s.f0 ≤ s.f1) && decide (s.f1 ≤ 1073741824)
theorem wheel_span.eval (a b : Int) : wheel_span.f a b = some (spanOk ⟨a, b⟩) := by
 unfold wheel_span.f spanOk
 by_cases h1 : a ≥ 0
 ·by_cases h2 : a ≤ b
  ·simp [h1, h2]
  ·simp [h1, h2]
 ·simp [h1]
theorem wheel_opened_1.eval (a b : Int) : wheel_opened_1.f a b = some (!spanOk ⟨a, b⟩) := by
 unfold wheel_opened_1.f
 rw [wheel_span.eval]
 rfl
theorem any_take_succ {α : Type} (p : α → Bool) (l : List α) (k : Nat) (h : k < l.length) (d : α) : (l.take (k + 1)).any p = ((l.take k).any p || p (l.getD k d)) := by
 rw [List.take_succ_eq_append_getElem h, List.any_append]
 simp [List.getD_eq_getElem?_getD, h]
theorem any_of_take {α : Type} (p : α → Bool) (l : List α) (k : Nat) (h : k < l.length) (d : α) (hp : p (l.getD k d) = true) : l.any p = true := by
 rw [List.any_eq_true]
 refine ⟨l[k], List.getElem_mem h, ?_⟩
 simpa [List.getD_eq_getElem?_getD, h] using hp
def IdxRes (l : List S59) (w : World) (e : Ending) (w' : World) : Prop := ∃ i : Int, e = .returned (.int .i64 i) ∧ (decide (0 ≤ i) = l.any fun s => !spanOk s) ∧ Below w.heap.size w w'
set_option maxHeartbeats 4000000 in
set_option maxRecDepth 100000 in
theorem idxBad.calls (A0 : Option Addr) (c0 : Nat) (l0 : List S59) (w : World) (hr0 : Kd.C k59 w A0 l0.length l0) (hc0 : l0.length ≤ c0) :
  Calls Tryz.prog 146 #[.slice A0 l0.length c0, .func (.func 121) #[] #[]] w (IdxRes l0 w) := by
 have hmax := Kd.C_max hr0
 have HR0 := Aside0.mk hr0
 have HC0 := Aside0.mk hc0
 clear hr0 hc0
 have hu59 := Tryz.underlying59
 go_enter Tryz.func146, Tryz.ntmps146
 go_wp2
 go_loopw [8, 5] (fun v8 v5 W => ∃ k : Nat, v8 = .int .i64 k ∧ k ≤ l0.length ∧ Aside0 ((l0.take k).any (fun s => !spanOk s) = false) ∧ Aside0 (Below w.heap.size w W)) (fun v8 _ _ => l0.length - (intOf v8).toNat)
 case atStart => exact ⟨0, rfl, Nat.zero_le _, ⟨by simp⟩, ⟨Below.refl _ _⟩⟩
 case round =>
  obtain ⟨k, rfl, hk, HA, HB⟩ := hrel
  by_cases hlt : k < l0.length
  ·obtain ⟨ad, e0, hx0, hx1⟩ := at_T59 (Kd.C_below HR0.out HB.out) (k : Int) (by omega) (by omega)
   cases e0
   simp only [Int.toNat_natCast] at hx0 hx1
   have hc := fun W => wheel_opened_1.calls (rd_T59 l0 k).f0 (rd_T59 l0 k).f1 _ W (wheel_opened_1.eval _ _)
   have hs := any_take_succ (fun s => !spanOk s) l0 k hlt z59
   have hid : (⟨(rd_T59 l0 k).f0, (rd_T59 l0 k).f1⟩ : S59) = l0.getD k z59 := by unfold rd_T59; rw [Int.toNat_natCast]
   rw [hid] at hc
   by_cases hb : spanOk (l0.getD k z59) = true
   ·rw [HA.out, hb] at hs
    have HA' := Aside0.mk hs
    clear hs HA
    rw [hb] at hc
    simp only [Bool.not_true] at hc
    clear hid hb
    go_wp2_with (go_at_call 121; refine (hc _).mono ?_; rintro e W' ⟨rfl, hB⟩)
    go_roundw
    case rel => exact ⟨k + 1, by go_num, by omega, ⟨HA'.out⟩, ⟨below_weaken HB.out HB.out.size hB⟩⟩
    case measure => simp [intOf]; omega
   ·have hany := any_of_take (fun s => !spanOk s) l0 k hlt z59 (by simpa using hb)
    have HN := Aside0.mk hany
    have hb' : spanOk (l0.getD k z59) = false := by simpa using hb
    rw [hb'] at hc
    simp only [Bool.not_false] at hc
    clear hid hb hb' hs hany HA
    go_wp2_with (go_at_call 121; refine (hc _).mono ?_; rintro e W' ⟨rfl, hB⟩)
    go_ret
    exact ⟨k, rfl, by rw [HN.out]; simp, below_weaken HB.out HB.out.size hB⟩
  ·obtain rfl : k = l0.length := by omega
   have hany := HA.out
   rw [List.take_length] at hany
   have HN := Aside0.mk hany
   clear hany HA
   go_wp2
   go_ret
   exact ⟨-1, rfl, by rw [HN.out]; rfl, HB.out⟩
def anyBad.f (l : List S59) : Option Bool := some (l.any fun s => !spanOk s)
set_option maxHeartbeats 4000000 in
set_option maxRecDepth 100000 in
theorem anyBad.calls (A0 : Option Addr) (c0 : Nat) (l0 : List S59) (r : Bool) (w : World) (hr0 : Kd.C k59 w A0 l0.length l0) (hc0 : l0.length ≤ c0) (h : anyBad.f l0 = some r) :
  Calls Tryz.prog 120 #[.slice A0 l0.length c0, .func (.func 121) #[] #[]] w fun e w' => e = .returned (.bool r) ∧ Below w.heap.size w w' := by
 obtain rfl := Option.some.inj h
 have hc := idxBad.calls A0 c0 l0 w hr0 hc0
 clear hr0 hc0 h
 generalize hq : (l0.any fun s => !spanOk s) = q
 go_enter Tryz.func120, Tryz.ntmps120
 go_wp2_with (go_at_call 146; refine hc.mono ?_; rintro e W' ⟨i, rfl, hi, hB⟩; rw [hq] at hi)
 go_ret
 exact ⟨by first | rfl | rw [hi], hB⟩
def wheel_from.f (a0 : Int) (a1 : Int) (a2 : Int) : Option (Bool) := if a0 ≥ a1 then (some (decide (a0 ≤ a2))) else (some false)
set_option maxHeartbeats 8000000 in
set_option maxRecDepth 100000 in
theorem wheel_from.calls (a0 : Int) (a1 : Int) (a2 : Int) (r : Bool) (w : World) (h : wheel_from.f a0 a1 a2 = some r) :
  Calls Tryz.prog 69 #[.int .i64 a0, .int .i64 a1, .int .i64 a2] w fun e w' => e = .returned (.bool r) ∧ Drawn0 w w' := by
 have H : (if a0 ≥ a1 then (some (decide (a0 ≤ a2))) else (some false)) = some r := h
 clear h
 by_cases c4 : a0 ≥ a1
 ·rw [if_pos c4] at H
  have c4b0 : decide (a1 ≤ a0) = true := decide_eq_true c4
  clear c4
  obtain rfl := Option.some.inj H
  go_enter Tryz.func69, Tryz.ntmps69
  go_wp2
  go_ret
  exact ⟨by first | rfl | (simp; done) | (simp [*]; done), by repeat (first | exact Drawn0.refl _ | apply Drawn0.step)⟩
 ·rw [if_neg c4] at H
  have c4b0 : decide (a1 ≤ a0) = false := decide_eq_false c4
  clear c4
  obtain rfl := Option.some.inj H
  go_enter Tryz.func69, Tryz.ntmps69
  go_wp2
  go_ret
  exact ⟨by first | rfl | (simp; done) | (simp [*]; done), by repeat (first | exact Drawn0.refl _ | apply Drawn0.step)⟩
def wheel_dial_place.l0 : Nat → List Int → Int → Int → Int → Int → Option (Bool)
 |0, _, _, _, _, _ => none
 |k + 1, x7, x8, x9, x107000, x107001 => if x9 < x8 then (if 0 ≤ x9 then (if x9 < (x7.length : Int) then ((wheel_from.f (rd x7 x9) 0 (wrap64 (x107000 - 1))).bind fun t108 => (if t108 = true then (wheel_dial_place.l0 k x7 x8 (wrap64 (x9 + 1)) x107000 x107001) else (some false))) else (none)) else (none)) else (some true)
def wheel_dial_place.f (k : Nat) (a0_0 : Int) (a0_1 : Int) (l1 : List Int) : Option (Bool) := wheel_dial_place.l0 k l1 (l1.length : Int) 0 a0_0 a0_1
theorem wheel_dial_place.mono_l : ∀ k, (∀ y0 y1 y2 y3 y4, LeO (wheel_dial_place.l0 k y0 y1 y2 y3 y4) (wheel_dial_place.l0 (k + 1) y0 y1 y2 y3 y4))
 |0 => fun _ _ _ _ _ r h => by simp [wheel_dial_place.l0] at h
 |k + 1 => by
  have ih0 := wheel_dial_place.mono_l k
  ·intro y0 y1 y2 y3 y4
   unfold wheel_dial_place.l0
   repeat' first
   |(with_reducible exact ih0 _ _ _ _ _)
   |(with_reducible exact LeO.refl _)
   |(with_reducible exact LeO.none _)
   |(with_reducible refine LeO.ite ?_ ?_)
   |(with_reducible refine LeO.bind ?_ (fun _ => ?_))
   |exact ih0 _ _ _ _ _
   |exact LeO.none _
   |refine LeO.ite ?_ ?_
   |refine LeO.bind ?_ (fun _ => ?_)
theorem wheel_dial_place.mono : ∀ a0 a1 a2 k, LeO (wheel_dial_place.f k a0 a1 a2) (wheel_dial_place.f (k + 1) a0 a1 a2) := by
 intro a0 a1 a2 k
 have ih0 := wheel_dial_place.mono_l k
 unfold wheel_dial_place.f
 repeat' first
   |(with_reducible exact ih0 _ _ _ _ _)
   |(with_reducible exact LeO.refl _)
   |(with_reducible exact LeO.none _)
   |(with_reducible refine LeO.ite ?_ ?_)
   |(with_reducible refine LeO.bind ?_ (fun _ => ?_))
   |exact ih0 _ _ _ _ _
   |exact LeO.none _
   |refine LeO.ite ?_ ?_
   |refine LeO.bind ?_ (fun _ => ?_)
set_option maxHeartbeats 8000000 in
set_option maxRecDepth 100000 in
theorem wheel_dial_place.calls (k : Nat) (a0_0 : Int) (a0_1 : Int) (A1 : Option Addr) (c1 : Nat) (l1 : List Int) (r : Bool) (w : World) (hr1 : Kd.C (Kd.int .i64) w A1 l1.length l1) (hc1 : l1.length ≤ c1) (h : wheel_dial_place.f k a0_0 a0_1 l1 = some r) :
  Calls Tryz.prog 97 #[.agg #[.int .i64 a0_0, .int .i64 a0_1], .slice A1 l1.length c1] w fun e w' => e = .returned (.bool r) ∧ Below w.heap.size w w' := by
 have hu108 := Tryz.underlying108
 have HR1 := Aside0.mk hr1
 have HC1 := Aside0.mk hc1
 clear hr1 hc1
 have HB := Aside0.mk (Below.refl w.heap.size w)
 have H : (wheel_dial_place.l0 k l1 (l1.length : Int) 0 a0_0 a0_1) = some r := h
 clear h
 have H' := Aside0.mk H
 clear H
 go_enter Tryz.func97, Tryz.ntmps97
 go_wp2_with (first | ((with_reducible refine gate_dst (N := 2) rfl ?_); refine box_event ?hg (N := 2) ?hd (cs := #[.int .i64 a0_0, .int .i64 a0_1]) (t := 108) ?hr ?_; (case hd => rfl); (case hg => rfl); (case hr => first | (go_simp; done) | (go_simp; rfl)); intro gb106 hg w3 hbox hb; have n0_ := Aside0.mk (below_step (bw HB.out) hb); have n1_ := Aside0.mk (hbox); have n2_ := Aside0.mk ((by rw [hg]; exact (below_size (bw HB.out)) : w.heap.size ≤ gb106)); have n3_ := Aside0.mk ((by rw [hg]; exact (below_size (bw HB.out)) : w.heap.size ≤ gb106)); clear HB; have HB := n0_; have BK106 := n1_; have GW106 := n2_; have GE106 := n3_; clear n0_ n1_ n2_ n3_; clear hb hbox hg))
 go_loopg [9] k (fun kq v9 w' => ∃ (x9_1 : Int), v9 = .int .i64 x9_1 ∧ Aside0 (wheel_dial_place.l0 kq l1 (l1.length : Int) x9_1 a0_0 a0_1 = some r) ∧ Aside0 (kq ≤ k) ∧ Aside0 (w'.heap[gb106]? = some (.cells #[.int .i64 a0_0, .int .i64 a0_1] 108 (0, 0))) ∧ Aside0 (Below w.heap.size w w'))
 case atStart => exact ⟨(0), (by first | rfl | (simp; done) | (simp [*]; done)), H', ⟨Nat.le_refl _⟩, ⟨bq BK106.out⟩, ⟨by repeat (first | (with_reducible first | exact HB.out | apply below_alloc | apply pw_below_drewN | apply below_drew1 | refine below_set ?_ GE106.out) | exact HB.out)⟩⟩
 case round =>
  clear H'
  try clear c1
  try clear p2
  obtain ⟨x9_1, rfl, HA, HK1, BK106, HB⟩ := hrel
  cases gk with
  |zero => exact absurd HA.out (by simp [wheel_dial_place.l0])
  |succ k1 =>
   have H := HA.out
   clear HA
   simp only [wheel_dial_place.l0] at H
   by_cases c4 : x9_1 < (l1.length : Int)
   ·rw [if_pos c4] at H
    have c4b0 : decide (x9_1 < (l1.length : Int)) = true := decide_eq_true c4
    clear c4
    by_cases c5 : 0 ≤ x9_1
    ·rw [if_pos c5] at H
     have c5b0 : decide (0 ≤ x9_1) = true := decide_eq_true c5
     clear c5
     by_cases c6 : x9_1 < (l1.length : Int)
     ·rw [if_pos c6] at H
      have c6b0 : decide (x9_1 < (l1.length : Int)) = true := decide_eq_true c6
      clear c6
      replace H := Option.bind_eq_some_iff.mp H
      obtain ⟨t108, A70, H⟩ := H
      replace H : (if t108 = true then (wheel_dial_place.l0 k1 l1 (l1.length : Int) (wrap64 (x9_1 + 1)) a0_0 a0_1) else (some false)) = some r := H
      have A7 := Aside0.mk A70
      clear A70
      by_cases c8 : t108 = true
      ·subst c8
       have H1 : (wheel_dial_place.l0 k1 l1 (l1.length : Int) (wrap64 (x9_1 + 1)) a0_0 a0_1) = some r := by rw [if_pos rfl] at H; exact H
       clear H
       have H := H1
       clear H1
       have H' := Aside0.mk H
       clear H
       have p107 : 0 ≤ (x9_1 : Int) := of_decide_eq_true aq
       have q107 : x9_1 < (l1.length : Int) := of_decide_eq_true aq
       obtain ⟨ad107, e107, hx107_0⟩ := Kd.at_int HR1.out x9_1 p107 q107
       cases e107
       replace hx107_0 := (HB.out.cell (World.block_lt_of_cell? w _ hx107_0)).trans hx107_0
       replace p107 := eq_true p107
       replace q107 := eq_true q107
       have hcz9_0 : wr.cell? ⟨gb106, 0, none⟩ = some (.int .i64 a0_0) := (blk_cell BK106.out 0).trans rfl
       have hcz9_1 : wr.cell? ⟨gb106, 1, none⟩ = some (.int .i64 a0_1) := (blk_cell BK106.out 1).trans rfl
       have hfz9_0 := blk_frozen BK106.out 0
       have hfz9_1 := blk_frozen BK106.out 1
       go_wp2_with (first | ((with_reducible refine gate_callee (f := 69) rfl ?_); refine goesL_ (some 18) rfl rfl Tryz.func69 (by kernel_rfl) rfl #[.int .i64 (rd l1 x9_1), .int .i64 0, .int .i64 (wrap64 (a0_0 - 1))] rfl mq ?_; (with_reducible refine (wheel_from.calls (rd l1 x9_1) 0 (wrap64 (a0_0 - 1)) true _ A7.out).mono ?_); rintro e w' ⟨rfl, ⟨nd, rfl⟩⟩; refine ⟨_, rfl, ?_⟩))
       go_roundg k1
       case measure => have := HK1.out; omega
       case rel => exact ⟨(wrap64 (x9_1 + 1)), (by first | rfl | (simp; done) | (simp [*]; done)), H', ⟨by have := HK1.out; omega⟩, ⟨bq BK106.out⟩, ⟨by repeat (first | (with_reducible first | exact HB.out | apply below_alloc | apply pw_below_drewN | apply below_drew1 | refine below_set ?_ GE106.out) | exact HB.out)⟩⟩
      ·replace c8 := Bool.eq_false_iff.mpr c8
       subst c8
       have H1 : (some false) = some r := by rw [if_neg (show ¬ (false = true) by decide)] at H; exact H
       clear H
       have H := H1
       clear H1
       obtain rfl := Option.some.inj H
       have p107 : 0 ≤ (x9_1 : Int) := of_decide_eq_true aq
       have q107 : x9_1 < (l1.length : Int) := of_decide_eq_true aq
       obtain ⟨ad107, e107, hx107_0⟩ := Kd.at_int HR1.out x9_1 p107 q107
       cases e107
       replace hx107_0 := (HB.out.cell (World.block_lt_of_cell? w _ hx107_0)).trans hx107_0
       replace p107 := eq_true p107
       replace q107 := eq_true q107
       have hcz10_0 : wr.cell? ⟨gb106, 0, none⟩ = some (.int .i64 a0_0) := (blk_cell BK106.out 0).trans rfl
       have hcz10_1 : wr.cell? ⟨gb106, 1, none⟩ = some (.int .i64 a0_1) := (blk_cell BK106.out 1).trans rfl
       have hfz10_0 := blk_frozen BK106.out 0
       have hfz10_1 := blk_frozen BK106.out 1
       go_wp2_with (first | ((with_reducible refine gate_callee (f := 69) rfl ?_); refine goesL_ (some 18) rfl rfl Tryz.func69 (by kernel_rfl) rfl #[.int .i64 (rd l1 x9_1), .int .i64 0, .int .i64 (wrap64 (a0_0 - 1))] rfl mq ?_; (with_reducible refine (wheel_from.calls (rd l1 x9_1) 0 (wrap64 (a0_0 - 1)) false _ A7.out).mono ?_); rintro e w' ⟨rfl, ⟨nd, rfl⟩⟩; refine ⟨_, rfl, ?_⟩))
       go_ret
       exact ⟨by first | rfl | (simp [errW_none, errW_some] <;> rfl) | (simp [*, errW_none, errW_some] <;> rfl), by repeat (first | (with_reducible first | exact HB.out | apply below_alloc | apply pw_below_drewN | apply below_drew1 | refine below_set ?_ GE106.out) | exact HB.out)⟩
     ·rw [if_neg c6] at H
      exact absurd H (by simp)
    ·rw [if_neg c5] at H
     exact absurd H (by simp)
   ·rw [if_neg c4] at H
    have c4b0 : decide (x9_1 < (l1.length : Int)) = false := decide_eq_false c4
    clear c4
    obtain rfl := Option.some.inj H
    go_wp2
    go_ret
    exact ⟨by first | rfl | (simp [errW_none, errW_some] <;> rfl) | (simp [*, errW_none, errW_some] <;> rfl), by repeat (first | (with_reducible first | exact HB.out | apply below_alloc | apply pw_below_drewN | apply below_drew1 | refine below_set ?_ GE106.out) | exact HB.out)⟩
def wheel_dial_trial.f (k : Nat) (a0_0 : Int) (a0_1 : Int) (a1_0 : Int) (a1_1 : Int) (a1_2 : Int) (a1_3 : Int) : Option (Bool) := (wheel_span.f a1_0 a1_1).bind fun t112 => (if t112 = true then ((wheel_dial_place.f k a0_0 a0_1 (([a1_2, a1_3] : List Int))).bind fun t116 => (some t116)) else (some false))
theorem wheel_dial_trial.mono : ∀ a0 a1 a2 a3 a4 a5 k, LeO (wheel_dial_trial.f k a0 a1 a2 a3 a4 a5) (wheel_dial_trial.f (k + 1) a0 a1 a2 a3 a4 a5) := by
 intro a0 a1 a2 a3 a4 a5 k
 unfold wheel_dial_trial.f
 repeat' first
   |(with_reducible exact wheel_dial_place.mono _ _ _ _)
   |(with_reducible exact LeO.refl _)
   |(with_reducible exact LeO.none _)
   |(with_reducible refine LeO.ite ?_ ?_)
   |(with_reducible refine LeO.bind ?_ (fun _ => ?_))
   |exact wheel_dial_place.mono _ _ _ _
   |exact LeO.none _
   |refine LeO.ite ?_ ?_
   |refine LeO.bind ?_ (fun _ => ?_)
set_option maxHeartbeats 8000000 in
set_option maxRecDepth 100000 in
theorem wheel_dial_trial.calls (k : Nat) (a0_0 : Int) (a0_1 : Int) (a1_0 : Int) (a1_1 : Int) (a1_2 : Int) (a1_3 : Int) (r : Bool) (w : World) (h : wheel_dial_trial.f k a0_0 a0_1 a1_0 a1_1 a1_2 a1_3 = some r) :
  Calls Tryz.prog 94 #[.agg #[.int .i64 a0_0, .int .i64 a0_1], .agg #[.int .i64 a1_0, .int .i64 a1_1, .int .i64 a1_2, .int .i64 a1_3]] w fun e w' => e = .returned (.bool r) ∧ Below w.heap.size w w' := by
 have hu108 := Tryz.underlying108
 have hu61 := Tryz.underlying61
 have hu59 := Tryz.underlying59
 have HB := Aside0.mk (Below.refl w.heap.size w)
 have H : ((wheel_span.f a1_0 a1_1).bind fun t112 => (if t112 = true then ((wheel_dial_place.f k a0_0 a0_1 (([a1_2, a1_3] : List Int))).bind fun t116 => (some t116)) else (some false))) = some r := h
 clear h
 replace H := Option.bind_eq_some_iff.mp H
 obtain ⟨t112, A30, H⟩ := H
 replace H : (if t112 = true then ((wheel_dial_place.f k a0_0 a0_1 (([a1_2, a1_3] : List Int))).bind fun t116 => (some t116)) else (some false)) = some r := H
 have A3 := Aside0.mk A30
 clear A30
 by_cases c4 : t112 = true
 ·subst c4
  have H1 : ((wheel_dial_place.f k a0_0 a0_1 (([a1_2, a1_3] : List Int))).bind fun t116 => (some t116)) = some r := by rw [if_pos rfl] at H; exact H
  clear H
  have H := H1
  clear H1
  obtain ⟨y113, hy113⟩ : ∃ y_ : List Int, y_ = (([a1_2, a1_3] : List Int)) := ⟨_, rfl⟩
  replace H : ((wheel_dial_place.f k a0_0 a0_1 y113).bind fun t116 => (some t116)) = some r := by first | (rw [hy113]; with_reducible exact H) | (have H2_ := (Option.bind_some _ _).symm.trans H; rw [hy113]; with_reducible exact H2_) | (have H2_ := (Option.bind_some _ _).symm.trans H; with_reducible exact H2_) | with_reducible exact H | (rw [hy113]; exact H) | exact H
  have Ny113 := Aside0.mk hy113
  clear hy113
  replace H := Option.bind_eq_some_iff.mp H
  obtain ⟨t116, A50, H⟩ := H
  replace H : (some t116) = some r := H
  have A5 := Aside0.mk A50
  clear A50
  obtain rfl := Option.some.inj H
  go_enter Tryz.func94, Tryz.ntmps94
  go_wp2_with (first | ((with_reducible refine gate_dst (N := 2) rfl ?_); (try (refine gate_guard (by rfl) ?_; dsimp only)); refine box_event ?hg (N := 2) ?hd (cs := #[.int .i64 a0_0, .int .i64 a0_1]) (t := 108) ?hr ?_; (case hd => rfl); (case hg => rfl); (case hr => first | (go_simp; done) | (go_simp; rfl)); intro gb110 hg w6 hbox hb; have n0_ := Aside0.mk (below_step (bw HB.out) hb); have n1_ := Aside0.mk (hbox); have n2_ := Aside0.mk ((by rw [hg]; exact (below_size (bw HB.out)) : w.heap.size ≤ gb110)); have n3_ := Aside0.mk ((by rw [hg]; exact (below_size (bw HB.out)) : w.heap.size ≤ gb110)); clear HB; have HB := n0_; have BK110 := n1_; have GW110 := n2_; have GE110 := n3_; clear n0_ n1_ n2_ n3_; clear hb hbox hg) | ((with_reducible refine gate_dst (N := 3) rfl ?_); (try (refine gate_guard (by rfl) ?_; dsimp only)); refine box_event ?hg (N := 3) ?hd (cs := #[.int .i64 a1_0, .int .i64 a1_1, .int .i64 a1_2, .int .i64 a1_3]) (t := 61) ?hr ?_; (case hd => rfl); (case hg => rfl); (case hr => first | (go_simp; done) | (go_simp; rfl)); intro gb111 hg w7 hbox hb; have n0_ := Aside0.mk (blk_below (g := gb110) (o := .cells #[.int .i64 a0_0, .int .i64 a0_1] 108 (0, 0)) (bq BK110.out) hb); have n1_ := Aside0.mk (below_step (by repeat (first | (with_reducible first | exact HB.out | apply below_alloc | apply pw_below_drewN | apply below_drew1 | refine below_set ?_ GE110.out) | exact HB.out)) hb); have n2_ := Aside0.mk (hbox); have n3_ := Aside0.mk ((by rw [hg]; exact (below_size (by repeat (first | (with_reducible first | exact HB.out | apply below_alloc | apply pw_below_drewN | apply below_drew1 | refine below_set ?_ GE110.out) | exact HB.out))) : w.heap.size ≤ gb111)); have n4_ := Aside0.mk ((by rw [hg]; exact (below_size (by repeat (first | (with_reducible first | exact HB.out | apply below_alloc | apply pw_below_drewN | apply below_drew1 | refine below_set ?_ GE110.out) | exact HB.out))) : w.heap.size ≤ gb111)); have n5_ := Aside0.mk ((by rw [hg]; exact Nat.ne_of_lt (blk_lt (g := gb110) (o := .cells #[.int .i64 a0_0, .int .i64 a0_1] 108 (0, 0)) (bq BK110.out)) : gb110 ≠ gb111)); have n6_ := Aside0.mk ((by rw [hg]; exact Nat.ne_of_gt (blk_lt (g := gb110) (o := .cells #[.int .i64 a0_0, .int .i64 a0_1] 108 (0, 0)) (bq BK110.out)) : gb111 ≠ gb110)); clear BK110; clear HB; have BK110 := n0_; have HB := n1_; have BK111 := n2_; have GW111 := n3_; have GE111 := n4_; have NB110_111 := n5_; have NB111_110 := n6_; clear n0_ n1_ n2_ n3_ n4_ n5_ n6_; clear hb hbox hg; have hnb8 := NB111_110.out; have hnc8 := NB110_111.out; have hcz9_0 : w7.cell? ⟨gb111, 0, none⟩ = some (.int .i64 a1_0) := (blk_cell BK111.out 0).trans rfl; have hcz9_1 : w7.cell? ⟨gb111, 1, none⟩ = some (.int .i64 a1_1) := (blk_cell BK111.out 1).trans rfl; have hcz9_2 : w7.cell? ⟨gb111, 2, none⟩ = some (.int .i64 a1_2) := (blk_cell BK111.out 2).trans rfl; have hcz9_3 : w7.cell? ⟨gb111, 3, none⟩ = some (.int .i64 a1_3) := (blk_cell BK111.out 3).trans rfl; have hfz9_0 := blk_frozen BK111.out 0; have hfz9_1 := blk_frozen BK111.out 1; have hfz9_2 := blk_frozen BK111.out 2; have hfz9_3 := blk_frozen BK111.out 3) | ((with_reducible refine gate_callee (f := 98) rfl ?_); refine goesL_ (some 7) rfl rfl Tryz.func98 (by kernel_rfl) rfl #[.agg #[.int .i64 a1_0, .int .i64 a1_1]] rfl mq ?_; (with_reducible refine (wheel_span.calls a1_0 a1_1 true _ A3.out).mono ?_); rintro e w10 ⟨rfl, hb⟩; refine ⟨_, rfl, ?_⟩; have n0_ := Aside0.mk (blk_below (g := gb110) (o := .cells #[.int .i64 a0_0, .int .i64 a0_1] 108 (0, 0)) (bq BK110.out) hb); have n1_ := Aside0.mk (blk_below (g := gb111) (o := .cells #[.int .i64 a1_0, .int .i64 a1_1, .int .i64 a1_2, .int .i64 a1_3] 61 (0, 0)) (bq BK111.out) hb); have n2_ := Aside0.mk (below_step (by repeat (first | (with_reducible first | exact HB.out | apply below_alloc | apply pw_below_drewN | apply below_drew1 | refine below_set ?_ GE110.out | refine below_set ?_ GE111.out) | exact HB.out)) hb); clear BK110; clear BK111; clear HB; have BK110 := n0_; have BK111 := n1_; have HB := n2_; clear n0_ n1_ n2_; (try clear hb); (try clear hb2); (try clear hk); (try clear hi); have hcz11_0 : w10.cell? ⟨gb110, 0, none⟩ = some (.int .i64 a0_0) := (blk_cell BK110.out 0).trans rfl; have hcz11_1 : w10.cell? ⟨gb110, 1, none⟩ = some (.int .i64 a0_1) := (blk_cell BK110.out 1).trans rfl; have hfz11_0 := blk_frozen BK110.out 0; have hfz11_1 := blk_frozen BK110.out 1; have hcz12_0 : w10.cell? ⟨gb111, 0, none⟩ = some (.int .i64 a1_0) := (blk_cell BK111.out 0).trans rfl; have hcz12_1 : w10.cell? ⟨gb111, 1, none⟩ = some (.int .i64 a1_1) := (blk_cell BK111.out 1).trans rfl; have hcz12_2 : w10.cell? ⟨gb111, 2, none⟩ = some (.int .i64 a1_2) := (blk_cell BK111.out 2).trans rfl; have hcz12_3 : w10.cell? ⟨gb111, 3, none⟩ = some (.int .i64 a1_3) := (blk_cell BK111.out 3).trans rfl; have hfz12_0 := blk_frozen BK111.out 0; have hfz12_1 := blk_frozen BK111.out 1; have hfz12_2 := blk_frozen BK111.out 2; have hfz12_3 := blk_frozen BK111.out 3) | ((with_reducible refine gate_dst (N := 14) rfl ?_); (try (refine gate_guard (by rfl) ?_; dsimp only)); refine Kd.R_lit (Kd.int .i64) _ 3 ?hg (N := 14) ?hd (xs := ([a1_2, a1_3] : List Int)) (inner := [.int .i64 a1_2, .int .i64 a1_3]) (ok := fun _ => True) (okp := fun _ => True) ?hr ?hp (fun _ hk => hk) trivial (Below.refl _ _) (Nat.le_refl _) (by simp) ?_; (case hd => rfl); (case hg => rfl); (case hr => first | (go_simp; done) | (go_simp; rfl)); (case hp => exact (Reps.one (show Kd.M (Kd.int .i64) _ _ _ a1_2 [.int .i64 a1_2] from rfl) (Reps.one (show Kd.M (Kd.int .i64) _ _ _ a1_3 [.int .i64 a1_3] from rfl) (Reps.none _ _)))); intro v114 w13 ho14 hb hg_ hnew_; clear hg_ hnew_; (first | rw [← Ny113.out] at ho14 | (simp only [Int.reduceToNat] at ho14; rw [← Ny113.out] at ho14)); have n0_ := Aside0.mk (Kd.R_lower ho14 (below_size (by repeat (first | (with_reducible first | exact HB.out | apply below_alloc | apply pw_below_drewN | apply below_drew1 | refine below_set ?_ GE110.out | refine below_set ?_ GE111.out) | exact HB.out)))); have n1_ := Aside0.mk (blk_below (g := gb110) (o := .cells #[.int .i64 a0_0, .int .i64 a0_1] 108 (0, 0)) (bq BK110.out) hb); have n2_ := Aside0.mk (blk_below (g := gb111) (o := .cells #[.int .i64 a1_0, .int .i64 a1_1, .int .i64 a1_2, .int .i64 a1_3] 61 (0, 0)) (bq BK111.out) hb); have n3_ := Aside0.mk (below_step (by repeat (first | (with_reducible first | exact HB.out | apply below_alloc | apply pw_below_drewN | apply below_drew1 | refine below_set ?_ GE110.out | refine below_set ?_ GE111.out) | exact HB.out)) hb); clear BK110; clear BK111; clear HB; have HO115 := n0_; have BK110 := n1_; have BK111 := n2_; have HB := n3_; clear n0_ n1_ n2_ n3_; clear hb ho14; obtain ⟨Ao15, co15, eo15⟩ := Kd.R_slice HO115.out; subst eo15) | (go_at_call 97; (with_reducible refine (wheel_dial_place.calls k a0_0 a0_1 _ _ y113 t116 _ ?side1 ?side2 A5.out).mono ?_); (case side1 => repeat (first | exact (Kd.R_reads' HO115.out).2.2 | (with_reducible refine Kd.C_alloc ?_ _) | (with_reducible refine Kd.C_drewN ?_ _) | (with_reducible refine Kd.C_drew ?_))); (case side2 => exact (Kd.R_reads' HO115.out).2.1); rintro e w16 ⟨rfl, hb⟩; have n0_ := Aside0.mk (Kd.R_below (rq HO115.out) hb); have n1_ := Aside0.mk (blk_below (g := gb110) (o := .cells #[.int .i64 a0_0, .int .i64 a0_1] 108 (0, 0)) (bq BK110.out) hb); have n2_ := Aside0.mk (blk_below (g := gb111) (o := .cells #[.int .i64 a1_0, .int .i64 a1_1, .int .i64 a1_2, .int .i64 a1_3] 61 (0, 0)) (bq BK111.out) hb); have n3_ := Aside0.mk (below_step (by repeat (first | (with_reducible first | exact HB.out | apply below_alloc | apply pw_below_drewN | apply below_drew1 | refine below_set ?_ GE110.out | refine below_set ?_ GE111.out) | exact HB.out)) hb); clear HO115; clear BK110; clear BK111; clear HB; have HO115 := n0_; have BK110 := n1_; have BK111 := n2_; have HB := n3_; clear n0_ n1_ n2_ n3_; (try clear hb); (try clear hb2); (try clear hk); (try clear hi)))
  go_ret
  exact ⟨by first | rfl | (simp [errW_none, errW_some] <;> rfl) | (simp [*, errW_none, errW_some] <;> rfl), by repeat (first | (with_reducible first | exact HB.out | apply below_alloc | apply pw_below_drewN | apply below_drew1 | refine below_set ?_ GE110.out | refine below_set ?_ GE111.out) | exact HB.out)⟩
 ·replace c4 := Bool.eq_false_iff.mpr c4
  subst c4
  have H1 : (some false) = some r := by rw [if_neg (show ¬ (false = true) by decide)] at H; exact H
  clear H
  have H := H1
  clear H1
  obtain rfl := Option.some.inj H
  go_enter Tryz.func94, Tryz.ntmps94
  go_wp2_with (first | ((with_reducible refine gate_dst (N := 2) rfl ?_); (try (refine gate_guard (by rfl) ?_; dsimp only)); refine box_event ?hg (N := 2) ?hd (cs := #[.int .i64 a0_0, .int .i64 a0_1]) (t := 108) ?hr ?_; (case hd => rfl); (case hg => rfl); (case hr => first | (go_simp; done) | (go_simp; rfl)); intro gb110 hg w17 hbox hb; have n0_ := Aside0.mk (below_step (bw HB.out) hb); have n1_ := Aside0.mk (hbox); have n2_ := Aside0.mk ((by rw [hg]; exact (below_size (bw HB.out)) : w.heap.size ≤ gb110)); have n3_ := Aside0.mk ((by rw [hg]; exact (below_size (bw HB.out)) : w.heap.size ≤ gb110)); clear HB; have HB := n0_; have BK110 := n1_; have GW110 := n2_; have GE110 := n3_; clear n0_ n1_ n2_ n3_; clear hb hbox hg) | ((with_reducible refine gate_dst (N := 3) rfl ?_); (try (refine gate_guard (by rfl) ?_; dsimp only)); refine box_event ?hg (N := 3) ?hd (cs := #[.int .i64 a1_0, .int .i64 a1_1, .int .i64 a1_2, .int .i64 a1_3]) (t := 61) ?hr ?_; (case hd => rfl); (case hg => rfl); (case hr => first | (go_simp; done) | (go_simp; rfl)); intro gb111 hg w18 hbox hb; have n0_ := Aside0.mk (blk_below (g := gb110) (o := .cells #[.int .i64 a0_0, .int .i64 a0_1] 108 (0, 0)) (bq BK110.out) hb); have n1_ := Aside0.mk (below_step (by repeat (first | (with_reducible first | exact HB.out | apply below_alloc | apply pw_below_drewN | apply below_drew1 | refine below_set ?_ GE110.out) | exact HB.out)) hb); have n2_ := Aside0.mk (hbox); have n3_ := Aside0.mk ((by rw [hg]; exact (below_size (by repeat (first | (with_reducible first | exact HB.out | apply below_alloc | apply pw_below_drewN | apply below_drew1 | refine below_set ?_ GE110.out) | exact HB.out))) : w.heap.size ≤ gb111)); have n4_ := Aside0.mk ((by rw [hg]; exact (below_size (by repeat (first | (with_reducible first | exact HB.out | apply below_alloc | apply pw_below_drewN | apply below_drew1 | refine below_set ?_ GE110.out) | exact HB.out))) : w.heap.size ≤ gb111)); have n5_ := Aside0.mk ((by rw [hg]; exact Nat.ne_of_lt (blk_lt (g := gb110) (o := .cells #[.int .i64 a0_0, .int .i64 a0_1] 108 (0, 0)) (bq BK110.out)) : gb110 ≠ gb111)); have n6_ := Aside0.mk ((by rw [hg]; exact Nat.ne_of_gt (blk_lt (g := gb110) (o := .cells #[.int .i64 a0_0, .int .i64 a0_1] 108 (0, 0)) (bq BK110.out)) : gb111 ≠ gb110)); clear BK110; clear HB; have BK110 := n0_; have HB := n1_; have BK111 := n2_; have GW111 := n3_; have GE111 := n4_; have NB110_111 := n5_; have NB111_110 := n6_; clear n0_ n1_ n2_ n3_ n4_ n5_ n6_; clear hb hbox hg; have hnb19 := NB111_110.out; have hnc19 := NB110_111.out; have hcz20_0 : w18.cell? ⟨gb111, 0, none⟩ = some (.int .i64 a1_0) := (blk_cell BK111.out 0).trans rfl; have hcz20_1 : w18.cell? ⟨gb111, 1, none⟩ = some (.int .i64 a1_1) := (blk_cell BK111.out 1).trans rfl; have hcz20_2 : w18.cell? ⟨gb111, 2, none⟩ = some (.int .i64 a1_2) := (blk_cell BK111.out 2).trans rfl; have hcz20_3 : w18.cell? ⟨gb111, 3, none⟩ = some (.int .i64 a1_3) := (blk_cell BK111.out 3).trans rfl; have hfz20_0 := blk_frozen BK111.out 0; have hfz20_1 := blk_frozen BK111.out 1; have hfz20_2 := blk_frozen BK111.out 2; have hfz20_3 := blk_frozen BK111.out 3) | ((with_reducible refine gate_callee (f := 98) rfl ?_); refine goesL_ (some 7) rfl rfl Tryz.func98 (by kernel_rfl) rfl #[.agg #[.int .i64 a1_0, .int .i64 a1_1]] rfl mq ?_; (with_reducible refine (wheel_span.calls a1_0 a1_1 false _ A3.out).mono ?_); rintro e w21 ⟨rfl, hb⟩; refine ⟨_, rfl, ?_⟩; have n0_ := Aside0.mk (blk_below (g := gb110) (o := .cells #[.int .i64 a0_0, .int .i64 a0_1] 108 (0, 0)) (bq BK110.out) hb); have n1_ := Aside0.mk (blk_below (g := gb111) (o := .cells #[.int .i64 a1_0, .int .i64 a1_1, .int .i64 a1_2, .int .i64 a1_3] 61 (0, 0)) (bq BK111.out) hb); have n2_ := Aside0.mk (below_step (by repeat (first | (with_reducible first | exact HB.out | apply below_alloc | apply pw_below_drewN | apply below_drew1 | refine below_set ?_ GE110.out | refine below_set ?_ GE111.out) | exact HB.out)) hb); clear BK110; clear BK111; clear HB; have BK110 := n0_; have BK111 := n1_; have HB := n2_; clear n0_ n1_ n2_; (try clear hb); (try clear hb2); (try clear hk); (try clear hi)))
  go_ret
  exact ⟨by first | rfl | (simp [errW_none, errW_some] <;> rfl) | (simp [*, errW_none, errW_some] <;> rfl), by repeat (first | (with_reducible first | exact HB.out | apply below_alloc | apply pw_below_drewN | apply below_drew1 | refine below_set ?_ GE110.out | refine below_set ?_ GE111.out) | exact HB.out)⟩
def wheel_dial_reading.f (k : Nat) (a0_0 : Int) (a0_1 : Int) (a1_0 : Int) (a1_1 : Int) (a1_2 : Int) : Option (Bool) := (wheel_from.f a1_0 0 7).bind fun t119 => (if t119 = true then ((wheel_dial_place.f k a0_0 a0_1 (([a1_1, a1_2] : List Int))).bind fun t123 => (some t123)) else (some false))
theorem wheel_dial_reading.mono : ∀ a0 a1 a2 a3 a4 k, LeO (wheel_dial_reading.f k a0 a1 a2 a3 a4) (wheel_dial_reading.f (k + 1) a0 a1 a2 a3 a4) := by
 intro a0 a1 a2 a3 a4 k
 unfold wheel_dial_reading.f
 repeat' first
   |(with_reducible exact wheel_dial_place.mono _ _ _ _)
   |(with_reducible exact LeO.refl _)
   |(with_reducible exact LeO.none _)
   |(with_reducible refine LeO.ite ?_ ?_)
   |(with_reducible refine LeO.bind ?_ (fun _ => ?_))
   |exact wheel_dial_place.mono _ _ _ _
   |exact LeO.none _
   |refine LeO.ite ?_ ?_
   |refine LeO.bind ?_ (fun _ => ?_)
set_option maxHeartbeats 8000000 in
set_option maxRecDepth 100000 in
theorem wheel_dial_reading.calls (k : Nat) (a0_0 : Int) (a0_1 : Int) (a1_0 : Int) (a1_1 : Int) (a1_2 : Int) (r : Bool) (w : World) (h : wheel_dial_reading.f k a0_0 a0_1 a1_0 a1_1 a1_2 = some r) :
  Calls Tryz.prog 96 #[.agg #[.int .i64 a0_0, .int .i64 a0_1], .agg #[.int .i64 a1_0, .int .i64 a1_1, .int .i64 a1_2]] w fun e w' => e = .returned (.bool r) ∧ Below w.heap.size w w' := by
 have hu108 := Tryz.underlying108
 have hu64 := Tryz.underlying64
 have HB := Aside0.mk (Below.refl w.heap.size w)
 have H : ((wheel_from.f a1_0 0 7).bind fun t119 => (if t119 = true then ((wheel_dial_place.f k a0_0 a0_1 (([a1_1, a1_2] : List Int))).bind fun t123 => (some t123)) else (some false))) = some r := h
 clear h
 replace H := Option.bind_eq_some_iff.mp H
 obtain ⟨t119, A30, H⟩ := H
 replace H : (if t119 = true then ((wheel_dial_place.f k a0_0 a0_1 (([a1_1, a1_2] : List Int))).bind fun t123 => (some t123)) else (some false)) = some r := H
 have A3 := Aside0.mk A30
 clear A30
 by_cases c4 : t119 = true
 ·subst c4
  have H1 : ((wheel_dial_place.f k a0_0 a0_1 (([a1_1, a1_2] : List Int))).bind fun t123 => (some t123)) = some r := by rw [if_pos rfl] at H; exact H
  clear H
  have H := H1
  clear H1
  obtain ⟨y120, hy120⟩ : ∃ y_ : List Int, y_ = (([a1_1, a1_2] : List Int)) := ⟨_, rfl⟩
  replace H : ((wheel_dial_place.f k a0_0 a0_1 y120).bind fun t123 => (some t123)) = some r := by first | (rw [hy120]; with_reducible exact H) | (have H2_ := (Option.bind_some _ _).symm.trans H; rw [hy120]; with_reducible exact H2_) | (have H2_ := (Option.bind_some _ _).symm.trans H; with_reducible exact H2_) | with_reducible exact H | (rw [hy120]; exact H) | exact H
  have Ny120 := Aside0.mk hy120
  clear hy120
  replace H := Option.bind_eq_some_iff.mp H
  obtain ⟨t123, A50, H⟩ := H
  replace H : (some t123) = some r := H
  have A5 := Aside0.mk A50
  clear A50
  obtain rfl := Option.some.inj H
  go_enter Tryz.func96, Tryz.ntmps96
  go_wp2_with (first | ((with_reducible refine gate_dst (N := 2) rfl ?_); (try (refine gate_guard (by rfl) ?_; dsimp only)); refine box_event ?hg (N := 2) ?hd (cs := #[.int .i64 a0_0, .int .i64 a0_1]) (t := 108) ?hr ?_; (case hd => rfl); (case hg => rfl); (case hr => first | (go_simp; done) | (go_simp; rfl)); intro gb117 hg w6 hbox hb; have n0_ := Aside0.mk (below_step (bw HB.out) hb); have n1_ := Aside0.mk (hbox); have n2_ := Aside0.mk ((by rw [hg]; exact (below_size (bw HB.out)) : w.heap.size ≤ gb117)); have n3_ := Aside0.mk ((by rw [hg]; exact (below_size (bw HB.out)) : w.heap.size ≤ gb117)); clear HB; have HB := n0_; have BK117 := n1_; have GW117 := n2_; have GE117 := n3_; clear n0_ n1_ n2_ n3_; clear hb hbox hg) | ((with_reducible refine gate_dst (N := 3) rfl ?_); (try (refine gate_guard (by rfl) ?_; dsimp only)); refine box_event ?hg (N := 3) ?hd (cs := #[.int .i64 a1_0, .int .i64 a1_1, .int .i64 a1_2]) (t := 64) ?hr ?_; (case hd => rfl); (case hg => rfl); (case hr => first | (go_simp; done) | (go_simp; rfl)); intro gb118 hg w7 hbox hb; have n0_ := Aside0.mk (blk_below (g := gb117) (o := .cells #[.int .i64 a0_0, .int .i64 a0_1] 108 (0, 0)) (bq BK117.out) hb); have n1_ := Aside0.mk (below_step (by repeat (first | (with_reducible first | exact HB.out | apply below_alloc | apply pw_below_drewN | apply below_drew1 | refine below_set ?_ GE117.out) | exact HB.out)) hb); have n2_ := Aside0.mk (hbox); have n3_ := Aside0.mk ((by rw [hg]; exact (below_size (by repeat (first | (with_reducible first | exact HB.out | apply below_alloc | apply pw_below_drewN | apply below_drew1 | refine below_set ?_ GE117.out) | exact HB.out))) : w.heap.size ≤ gb118)); have n4_ := Aside0.mk ((by rw [hg]; exact (below_size (by repeat (first | (with_reducible first | exact HB.out | apply below_alloc | apply pw_below_drewN | apply below_drew1 | refine below_set ?_ GE117.out) | exact HB.out))) : w.heap.size ≤ gb118)); have n5_ := Aside0.mk ((by rw [hg]; exact Nat.ne_of_lt (blk_lt (g := gb117) (o := .cells #[.int .i64 a0_0, .int .i64 a0_1] 108 (0, 0)) (bq BK117.out)) : gb117 ≠ gb118)); have n6_ := Aside0.mk ((by rw [hg]; exact Nat.ne_of_gt (blk_lt (g := gb117) (o := .cells #[.int .i64 a0_0, .int .i64 a0_1] 108 (0, 0)) (bq BK117.out)) : gb118 ≠ gb117)); clear BK117; clear HB; have BK117 := n0_; have HB := n1_; have BK118 := n2_; have GW118 := n3_; have GE118 := n4_; have NB117_118 := n5_; have NB118_117 := n6_; clear n0_ n1_ n2_ n3_ n4_ n5_ n6_; clear hb hbox hg; have hnb8 := NB118_117.out; have hnc8 := NB117_118.out; have hcz9_0 : w7.cell? ⟨gb118, 0, none⟩ = some (.int .i64 a1_0) := (blk_cell BK118.out 0).trans rfl; have hcz9_1 : w7.cell? ⟨gb118, 1, none⟩ = some (.int .i64 a1_1) := (blk_cell BK118.out 1).trans rfl; have hcz9_2 : w7.cell? ⟨gb118, 2, none⟩ = some (.int .i64 a1_2) := (blk_cell BK118.out 2).trans rfl; have hfz9_0 := blk_frozen BK118.out 0; have hfz9_1 := blk_frozen BK118.out 1; have hfz9_2 := blk_frozen BK118.out 2) | ((with_reducible refine gate_callee (f := 69) rfl ?_); refine goesL_ (some 7) rfl rfl Tryz.func69 (by kernel_rfl) rfl #[.int .i64 a1_0, .int .i64 0, .int .i64 7] rfl mq ?_; (with_reducible refine (wheel_from.calls a1_0 0 7 true _ A3.out).mono ?_); rintro e w' ⟨rfl, ⟨nd, rfl⟩⟩; refine ⟨_, rfl, ?_⟩; have hcz10_0 : w7.cell? ⟨gb117, 0, none⟩ = some (.int .i64 a0_0) := (blk_cell BK117.out 0).trans rfl; have hcz10_1 : w7.cell? ⟨gb117, 1, none⟩ = some (.int .i64 a0_1) := (blk_cell BK117.out 1).trans rfl; have hfz10_0 := blk_frozen BK117.out 0; have hfz10_1 := blk_frozen BK117.out 1) | ((with_reducible refine gate_dst (N := 14) rfl ?_); (try (refine gate_guard (by rfl) ?_; dsimp only)); refine Kd.R_lit (Kd.int .i64) _ 3 ?hg (N := 14) ?hd (xs := ([a1_1, a1_2] : List Int)) (inner := [.int .i64 a1_1, .int .i64 a1_2]) (ok := fun _ => True) (okp := fun _ => True) ?hr ?hp (fun _ hk => hk) trivial (Below.refl _ _) (Nat.le_refl _) (by simp) ?_; (case hd => rfl); (case hg => rfl); (case hr => first | (go_simp; done) | (go_simp; rfl)); (case hp => exact (Reps.one (show Kd.M (Kd.int .i64) _ _ _ a1_1 [.int .i64 a1_1] from rfl) (Reps.one (show Kd.M (Kd.int .i64) _ _ _ a1_2 [.int .i64 a1_2] from rfl) (Reps.none _ _)))); intro v121 w11 ho12 hb hg_ hnew_; clear hg_ hnew_; (first | rw [← Ny120.out] at ho12 | (simp only [Int.reduceToNat] at ho12; rw [← Ny120.out] at ho12)); have n0_ := Aside0.mk (Kd.R_lower ho12 (below_size (by repeat (first | (with_reducible first | exact HB.out | apply below_alloc | apply pw_below_drewN | apply below_drew1 | refine below_set ?_ GE117.out | refine below_set ?_ GE118.out) | exact HB.out)))); have n1_ := Aside0.mk (blk_below (g := gb117) (o := .cells #[.int .i64 a0_0, .int .i64 a0_1] 108 (0, 0)) (bq BK117.out) hb); have n2_ := Aside0.mk (blk_below (g := gb118) (o := .cells #[.int .i64 a1_0, .int .i64 a1_1, .int .i64 a1_2] 64 (0, 0)) (bq BK118.out) hb); have n3_ := Aside0.mk (below_step (by repeat (first | (with_reducible first | exact HB.out | apply below_alloc | apply pw_below_drewN | apply below_drew1 | refine below_set ?_ GE117.out | refine below_set ?_ GE118.out) | exact HB.out)) hb); clear BK117; clear BK118; clear HB; have HO122 := n0_; have BK117 := n1_; have BK118 := n2_; have HB := n3_; clear n0_ n1_ n2_ n3_; clear hb ho12; obtain ⟨Ao13, co13, eo13⟩ := Kd.R_slice HO122.out; subst eo13) | (go_at_call 97; (with_reducible refine (wheel_dial_place.calls k a0_0 a0_1 _ _ y120 t123 _ ?side1 ?side2 A5.out).mono ?_); (case side1 => repeat (first | exact (Kd.R_reads' HO122.out).2.2 | (with_reducible refine Kd.C_alloc ?_ _) | (with_reducible refine Kd.C_drewN ?_ _) | (with_reducible refine Kd.C_drew ?_))); (case side2 => exact (Kd.R_reads' HO122.out).2.1); rintro e w14 ⟨rfl, hb⟩; have n0_ := Aside0.mk (Kd.R_below (rq HO122.out) hb); have n1_ := Aside0.mk (blk_below (g := gb117) (o := .cells #[.int .i64 a0_0, .int .i64 a0_1] 108 (0, 0)) (bq BK117.out) hb); have n2_ := Aside0.mk (blk_below (g := gb118) (o := .cells #[.int .i64 a1_0, .int .i64 a1_1, .int .i64 a1_2] 64 (0, 0)) (bq BK118.out) hb); have n3_ := Aside0.mk (below_step (by repeat (first | (with_reducible first | exact HB.out | apply below_alloc | apply pw_below_drewN | apply below_drew1 | refine below_set ?_ GE117.out | refine below_set ?_ GE118.out) | exact HB.out)) hb); clear HO122; clear BK117; clear BK118; clear HB; have HO122 := n0_; have BK117 := n1_; have BK118 := n2_; have HB := n3_; clear n0_ n1_ n2_ n3_; (try clear hb); (try clear hb2); (try clear hk); (try clear hi)))
  go_ret
  exact ⟨by first | rfl | (simp [errW_none, errW_some] <;> rfl) | (simp [*, errW_none, errW_some] <;> rfl), by repeat (first | (with_reducible first | exact HB.out | apply below_alloc | apply pw_below_drewN | apply below_drew1 | refine below_set ?_ GE117.out | refine below_set ?_ GE118.out) | exact HB.out)⟩
 ·replace c4 := Bool.eq_false_iff.mpr c4
  subst c4
  have H1 : (some false) = some r := by rw [if_neg (show ¬ (false = true) by decide)] at H; exact H
  clear H
  have H := H1
  clear H1
  obtain rfl := Option.some.inj H
  go_enter Tryz.func96, Tryz.ntmps96
  go_wp2_with (first | ((with_reducible refine gate_dst (N := 2) rfl ?_); (try (refine gate_guard (by rfl) ?_; dsimp only)); refine box_event ?hg (N := 2) ?hd (cs := #[.int .i64 a0_0, .int .i64 a0_1]) (t := 108) ?hr ?_; (case hd => rfl); (case hg => rfl); (case hr => first | (go_simp; done) | (go_simp; rfl)); intro gb117 hg w15 hbox hb; have n0_ := Aside0.mk (below_step (bw HB.out) hb); have n1_ := Aside0.mk (hbox); have n2_ := Aside0.mk ((by rw [hg]; exact (below_size (bw HB.out)) : w.heap.size ≤ gb117)); have n3_ := Aside0.mk ((by rw [hg]; exact (below_size (bw HB.out)) : w.heap.size ≤ gb117)); clear HB; have HB := n0_; have BK117 := n1_; have GW117 := n2_; have GE117 := n3_; clear n0_ n1_ n2_ n3_; clear hb hbox hg) | ((with_reducible refine gate_dst (N := 3) rfl ?_); (try (refine gate_guard (by rfl) ?_; dsimp only)); refine box_event ?hg (N := 3) ?hd (cs := #[.int .i64 a1_0, .int .i64 a1_1, .int .i64 a1_2]) (t := 64) ?hr ?_; (case hd => rfl); (case hg => rfl); (case hr => first | (go_simp; done) | (go_simp; rfl)); intro gb118 hg w16 hbox hb; have n0_ := Aside0.mk (blk_below (g := gb117) (o := .cells #[.int .i64 a0_0, .int .i64 a0_1] 108 (0, 0)) (bq BK117.out) hb); have n1_ := Aside0.mk (below_step (by repeat (first | (with_reducible first | exact HB.out | apply below_alloc | apply pw_below_drewN | apply below_drew1 | refine below_set ?_ GE117.out) | exact HB.out)) hb); have n2_ := Aside0.mk (hbox); have n3_ := Aside0.mk ((by rw [hg]; exact (below_size (by repeat (first | (with_reducible first | exact HB.out | apply below_alloc | apply pw_below_drewN | apply below_drew1 | refine below_set ?_ GE117.out) | exact HB.out))) : w.heap.size ≤ gb118)); have n4_ := Aside0.mk ((by rw [hg]; exact (below_size (by repeat (first | (with_reducible first | exact HB.out | apply below_alloc | apply pw_below_drewN | apply below_drew1 | refine below_set ?_ GE117.out) | exact HB.out))) : w.heap.size ≤ gb118)); have n5_ := Aside0.mk ((by rw [hg]; exact Nat.ne_of_lt (blk_lt (g := gb117) (o := .cells #[.int .i64 a0_0, .int .i64 a0_1] 108 (0, 0)) (bq BK117.out)) : gb117 ≠ gb118)); have n6_ := Aside0.mk ((by rw [hg]; exact Nat.ne_of_gt (blk_lt (g := gb117) (o := .cells #[.int .i64 a0_0, .int .i64 a0_1] 108 (0, 0)) (bq BK117.out)) : gb118 ≠ gb117)); clear BK117; clear HB; have BK117 := n0_; have HB := n1_; have BK118 := n2_; have GW118 := n3_; have GE118 := n4_; have NB117_118 := n5_; have NB118_117 := n6_; clear n0_ n1_ n2_ n3_ n4_ n5_ n6_; clear hb hbox hg; have hnb17 := NB118_117.out; have hnc17 := NB117_118.out; have hcz18_0 : w16.cell? ⟨gb118, 0, none⟩ = some (.int .i64 a1_0) := (blk_cell BK118.out 0).trans rfl; have hcz18_1 : w16.cell? ⟨gb118, 1, none⟩ = some (.int .i64 a1_1) := (blk_cell BK118.out 1).trans rfl; have hcz18_2 : w16.cell? ⟨gb118, 2, none⟩ = some (.int .i64 a1_2) := (blk_cell BK118.out 2).trans rfl; have hfz18_0 := blk_frozen BK118.out 0; have hfz18_1 := blk_frozen BK118.out 1; have hfz18_2 := blk_frozen BK118.out 2) | ((with_reducible refine gate_callee (f := 69) rfl ?_); refine goesL_ (some 7) rfl rfl Tryz.func69 (by kernel_rfl) rfl #[.int .i64 a1_0, .int .i64 0, .int .i64 7] rfl mq ?_; (with_reducible refine (wheel_from.calls a1_0 0 7 false _ A3.out).mono ?_); rintro e w' ⟨rfl, ⟨nd, rfl⟩⟩; refine ⟨_, rfl, ?_⟩))
  go_ret
  exact ⟨by first | rfl | (simp [errW_none, errW_some] <;> rfl) | (simp [*, errW_none, errW_some] <;> rfl), by repeat (first | (with_reducible first | exact HB.out | apply below_alloc | apply pw_below_drewN | apply below_drew1 | refine below_set ?_ GE117.out | refine below_set ?_ GE118.out) | exact HB.out)⟩
def wheel_dial_right.f (a0_0 : Int) (a0_1 : Int) : Option (Bool) := (wheel_from.f a0_0 10 10000).bind fun t102 => (if t102 = true then ((wheel_from.f a0_1 0 100).bind fun t103 => (if t103 = true then (some (decide ((wrap64 (2 * a0_1)) < a0_0))) else (some false))) else (some false))
set_option maxHeartbeats 8000000 in
set_option maxRecDepth 100000 in
theorem wheel_dial_right.calls (a0_0 : Int) (a0_1 : Int) (r : Bool) (w : World) (h : wheel_dial_right.f a0_0 a0_1 = some r) :
  Calls Tryz.prog 93 #[.agg #[.int .i64 a0_0, .int .i64 a0_1]] w fun e w' => e = .returned (.bool r) ∧ Below w.heap.size w w' := by
 have hu108 := Tryz.underlying108
 have HB := Aside0.mk (Below.refl w.heap.size w)
 have H : ((wheel_from.f a0_0 10 10000).bind fun t102 => (if t102 = true then ((wheel_from.f a0_1 0 100).bind fun t103 => (if t103 = true then (some (decide ((wrap64 (2 * a0_1)) < a0_0))) else (some false))) else (some false))) = some r := h
 clear h
 replace H := Option.bind_eq_some_iff.mp H
 obtain ⟨t102, A20, H⟩ := H
 replace H : (if t102 = true then ((wheel_from.f a0_1 0 100).bind fun t103 => (if t103 = true then (some (decide ((wrap64 (2 * a0_1)) < a0_0))) else (some false))) else (some false)) = some r := H
 have A2 := Aside0.mk A20
 clear A20
 by_cases c3 : t102 = true
 ·subst c3
  have H1 : ((wheel_from.f a0_1 0 100).bind fun t103 => (if t103 = true then (some (decide ((wrap64 (2 * a0_1)) < a0_0))) else (some false))) = some r := by rw [if_pos rfl] at H; exact H
  clear H
  have H := H1
  clear H1
  replace H := Option.bind_eq_some_iff.mp H
  obtain ⟨t103, A40, H⟩ := H
  replace H : (if t103 = true then (some (decide ((wrap64 (2 * a0_1)) < a0_0))) else (some false)) = some r := H
  have A4 := Aside0.mk A40
  clear A40
  by_cases c5 : t103 = true
  ·subst c5
   have H1 : (some (decide ((wrap64 (2 * a0_1)) < a0_0))) = some r := by rw [if_pos rfl] at H; exact H
   clear H
   have H := H1
   clear H1
   obtain rfl := Option.some.inj H
   go_enter Tryz.func93, Tryz.ntmps93
   go_wp2_with (first | ((with_reducible refine gate_dst (N := 1) rfl ?_); refine box_event ?hg (N := 1) ?hd (cs := #[.int .i64 a0_0, .int .i64 a0_1]) (t := 108) ?hr ?_; (case hd => rfl); (case hg => rfl); (case hr => first | (go_simp; done) | (go_simp; rfl)); intro gb101 hg w6 hbox hb; have n0_ := Aside0.mk (below_step (bw HB.out) hb); have n1_ := Aside0.mk (hbox); have n2_ := Aside0.mk ((by rw [hg]; exact (below_size (bw HB.out)) : w.heap.size ≤ gb101)); have n3_ := Aside0.mk ((by rw [hg]; exact (below_size (bw HB.out)) : w.heap.size ≤ gb101)); clear HB; have HB := n0_; have BK101 := n1_; have GW101 := n2_; have GE101 := n3_; clear n0_ n1_ n2_ n3_; clear hb hbox hg; have hcz7_0 : w6.cell? ⟨gb101, 0, none⟩ = some (.int .i64 a0_0) := (blk_cell BK101.out 0).trans rfl; have hcz7_1 : w6.cell? ⟨gb101, 1, none⟩ = some (.int .i64 a0_1) := (blk_cell BK101.out 1).trans rfl; have hfz7_0 := blk_frozen BK101.out 0; have hfz7_1 := blk_frozen BK101.out 1) | ((with_reducible refine gate_callee (f := 69) rfl ?_); refine goesL_ (some 6) rfl rfl Tryz.func69 (by kernel_rfl) rfl #[.int .i64 a0_0, .int .i64 10, .int .i64 10000] rfl mq ?_; (with_reducible refine (wheel_from.calls a0_0 10 10000 true _ A2.out).mono ?_); rintro e w' ⟨rfl, ⟨nd, rfl⟩⟩; refine ⟨_, rfl, ?_⟩) | (go_at_call 69; (with_reducible refine (wheel_from.calls a0_1 0 100 true _ A4.out).mono ?_); rintro e w' ⟨rfl, ⟨nd, rfl⟩⟩))
   go_ret
   exact ⟨by first | rfl | (simp [errW_none, errW_some] <;> rfl) | (simp [*, errW_none, errW_some] <;> rfl), by repeat (first | (with_reducible first | exact HB.out | apply below_alloc | apply pw_below_drewN | apply below_drew1 | refine below_set ?_ GE101.out) | exact HB.out)⟩
  ·replace c5 := Bool.eq_false_iff.mpr c5
   subst c5
   have H1 : (some false) = some r := by rw [if_neg (show ¬ (false = true) by decide)] at H; exact H
   clear H
   have H := H1
   clear H1
   obtain rfl := Option.some.inj H
   go_enter Tryz.func93, Tryz.ntmps93
   go_wp2_with (first | ((with_reducible refine gate_dst (N := 1) rfl ?_); refine box_event ?hg (N := 1) ?hd (cs := #[.int .i64 a0_0, .int .i64 a0_1]) (t := 108) ?hr ?_; (case hd => rfl); (case hg => rfl); (case hr => first | (go_simp; done) | (go_simp; rfl)); intro gb101 hg w8 hbox hb; have n0_ := Aside0.mk (below_step (bw HB.out) hb); have n1_ := Aside0.mk (hbox); have n2_ := Aside0.mk ((by rw [hg]; exact (below_size (bw HB.out)) : w.heap.size ≤ gb101)); have n3_ := Aside0.mk ((by rw [hg]; exact (below_size (bw HB.out)) : w.heap.size ≤ gb101)); clear HB; have HB := n0_; have BK101 := n1_; have GW101 := n2_; have GE101 := n3_; clear n0_ n1_ n2_ n3_; clear hb hbox hg; have hcz9_0 : w8.cell? ⟨gb101, 0, none⟩ = some (.int .i64 a0_0) := (blk_cell BK101.out 0).trans rfl; have hcz9_1 : w8.cell? ⟨gb101, 1, none⟩ = some (.int .i64 a0_1) := (blk_cell BK101.out 1).trans rfl; have hfz9_0 := blk_frozen BK101.out 0; have hfz9_1 := blk_frozen BK101.out 1) | ((with_reducible refine gate_callee (f := 69) rfl ?_); refine goesL_ (some 6) rfl rfl Tryz.func69 (by kernel_rfl) rfl #[.int .i64 a0_0, .int .i64 10, .int .i64 10000] rfl mq ?_; (with_reducible refine (wheel_from.calls a0_0 10 10000 true _ A2.out).mono ?_); rintro e w' ⟨rfl, ⟨nd, rfl⟩⟩; refine ⟨_, rfl, ?_⟩) | (go_at_call 69; (with_reducible refine (wheel_from.calls a0_1 0 100 false _ A4.out).mono ?_); rintro e w' ⟨rfl, ⟨nd, rfl⟩⟩))
   go_ret
   exact ⟨by first | rfl | (simp [errW_none, errW_some] <;> rfl) | (simp [*, errW_none, errW_some] <;> rfl), by repeat (first | (with_reducible first | exact HB.out | apply below_alloc | apply pw_below_drewN | apply below_drew1 | refine below_set ?_ GE101.out) | exact HB.out)⟩
 ·replace c3 := Bool.eq_false_iff.mpr c3
  subst c3
  have H1 : (some false) = some r := by rw [if_neg (show ¬ (false = true) by decide)] at H; exact H
  clear H
  have H := H1
  clear H1
  obtain rfl := Option.some.inj H
  go_enter Tryz.func93, Tryz.ntmps93
  go_wp2_with (first | ((with_reducible refine gate_dst (N := 1) rfl ?_); refine box_event ?hg (N := 1) ?hd (cs := #[.int .i64 a0_0, .int .i64 a0_1]) (t := 108) ?hr ?_; (case hd => rfl); (case hg => rfl); (case hr => first | (go_simp; done) | (go_simp; rfl)); intro gb101 hg w10 hbox hb; have n0_ := Aside0.mk (below_step (bw HB.out) hb); have n1_ := Aside0.mk (hbox); have n2_ := Aside0.mk ((by rw [hg]; exact (below_size (bw HB.out)) : w.heap.size ≤ gb101)); have n3_ := Aside0.mk ((by rw [hg]; exact (below_size (bw HB.out)) : w.heap.size ≤ gb101)); clear HB; have HB := n0_; have BK101 := n1_; have GW101 := n2_; have GE101 := n3_; clear n0_ n1_ n2_ n3_; clear hb hbox hg; have hcz11_0 : w10.cell? ⟨gb101, 0, none⟩ = some (.int .i64 a0_0) := (blk_cell BK101.out 0).trans rfl; have hcz11_1 : w10.cell? ⟨gb101, 1, none⟩ = some (.int .i64 a0_1) := (blk_cell BK101.out 1).trans rfl; have hfz11_0 := blk_frozen BK101.out 0; have hfz11_1 := blk_frozen BK101.out 1) | ((with_reducible refine gate_callee (f := 69) rfl ?_); refine goesL_ (some 6) rfl rfl Tryz.func69 (by kernel_rfl) rfl #[.int .i64 a0_0, .int .i64 10, .int .i64 10000] rfl mq ?_; (with_reducible refine (wheel_from.calls a0_0 10 10000 false _ A2.out).mono ?_); rintro e w' ⟨rfl, ⟨nd, rfl⟩⟩; refine ⟨_, rfl, ?_⟩))
  go_ret
  exact ⟨by first | rfl | (simp [errW_none, errW_some] <;> rfl) | (simp [*, errW_none, errW_some] <;> rfl), by repeat (first | (with_reducible first | exact HB.out | apply below_alloc | apply pw_below_drewN | apply below_drew1 | refine below_set ?_ GE101.out) | exact HB.out)⟩
def wheel_Check.f (a0_0 : Int) (a0_1 : Int) : Option (Int) := (wheel_dial_right.f a0_0 a0_1).bind fun t105 => (if t105 = true then (some 0) else (some 50))
set_option maxHeartbeats 8000000 in
set_option maxRecDepth 100000 in
theorem wheel_Check.calls (a0_0 : Int) (a0_1 : Int) (r : Int) (w : World) (h : wheel_Check.f a0_0 a0_1 = some r) :
  Calls Tryz.prog 38 #[.agg #[.int .i64 a0_0, .int .i64 a0_1]] w fun e w' => e = .returned (.int .i64 r) ∧ Below w.heap.size w w' := by
 have hu23 := Tryz.underlying23
 have hu108 := Tryz.underlying108
 have HB := Aside0.mk (Below.refl w.heap.size w)
 have H : ((wheel_dial_right.f a0_0 a0_1).bind fun t105 => (if t105 = true then (some 0) else (some 50))) = some r := h
 clear h
 replace H := Option.bind_eq_some_iff.mp H
 obtain ⟨t105, A20, H⟩ := H
 replace H : (if t105 = true then (some 0) else (some 50)) = some r := H
 have A2 := Aside0.mk A20
 clear A20
 by_cases c3 : t105 = true
 ·subst c3
  have H1 : (some 0) = some r := by rw [if_pos rfl] at H; exact H
  clear H
  have H := H1
  clear H1
  obtain rfl := Option.some.inj H
  go_enter Tryz.func38, Tryz.ntmps38
  go_wp2_with (first | ((with_reducible refine gate_dst (N := 1) rfl ?_); refine box_event ?hg (N := 1) ?hd (cs := #[.int .i64 a0_0, .int .i64 a0_1]) (t := 23) ?hr ?_; (case hd => rfl); (case hg => rfl); (case hr => first | (go_simp; done) | (go_simp; rfl)); intro gb104 hg w4 hbox hb; have n0_ := Aside0.mk (below_step (bw HB.out) hb); have n1_ := Aside0.mk (hbox); have n2_ := Aside0.mk ((by rw [hg]; exact (below_size (bw HB.out)) : w.heap.size ≤ gb104)); have n3_ := Aside0.mk ((by rw [hg]; exact (below_size (bw HB.out)) : w.heap.size ≤ gb104)); clear HB; have HB := n0_; have BK104 := n1_; have GW104 := n2_; have GE104 := n3_; clear n0_ n1_ n2_ n3_; clear hb hbox hg; have hcz5_0 : w4.cell? ⟨gb104, 0, none⟩ = some (.int .i64 a0_0) := (blk_cell BK104.out 0).trans rfl; have hcz5_1 : w4.cell? ⟨gb104, 1, none⟩ = some (.int .i64 a0_1) := (blk_cell BK104.out 1).trans rfl; have hfz5_0 := blk_frozen BK104.out 0; have hfz5_1 := blk_frozen BK104.out 1) | ((with_reducible refine gate_callee (f := 93) rfl ?_); refine goesL_ (some 5) rfl rfl Tryz.func93 (by kernel_rfl) rfl #[.agg #[.int .i64 a0_0, .int .i64 a0_1]] rfl mq ?_; (with_reducible refine (wheel_dial_right.calls a0_0 a0_1 true _ A2.out).mono ?_); rintro e w6 ⟨rfl, hb⟩; refine ⟨_, rfl, ?_⟩; have n0_ := Aside0.mk (blk_below (g := gb104) (o := .cells #[.int .i64 a0_0, .int .i64 a0_1] 23 (0, 0)) (bq BK104.out) hb); have n1_ := Aside0.mk (below_step (by repeat (first | (with_reducible first | exact HB.out | apply below_alloc | apply pw_below_drewN | apply below_drew1 | refine below_set ?_ GE104.out) | exact HB.out)) hb); clear BK104; clear HB; have BK104 := n0_; have HB := n1_; clear n0_ n1_; (try clear hb); (try clear hb2); (try clear hk); (try clear hi)))
  go_ret
  exact ⟨by first | rfl | (simp [errW_none, errW_some] <;> rfl) | (simp [*, errW_none, errW_some] <;> rfl), by repeat (first | (with_reducible first | exact HB.out | apply below_alloc | apply pw_below_drewN | apply below_drew1 | refine below_set ?_ GE104.out) | exact HB.out)⟩
 ·replace c3 := Bool.eq_false_iff.mpr c3
  subst c3
  have H1 : (some 50) = some r := by rw [if_neg (show ¬ (false = true) by decide)] at H; exact H
  clear H
  have H := H1
  clear H1
  obtain rfl := Option.some.inj H
  go_enter Tryz.func38, Tryz.ntmps38
  go_wp2_with (first | ((with_reducible refine gate_dst (N := 1) rfl ?_); refine box_event ?hg (N := 1) ?hd (cs := #[.int .i64 a0_0, .int .i64 a0_1]) (t := 23) ?hr ?_; (case hd => rfl); (case hg => rfl); (case hr => first | (go_simp; done) | (go_simp; rfl)); intro gb104 hg w7 hbox hb; have n0_ := Aside0.mk (below_step (bw HB.out) hb); have n1_ := Aside0.mk (hbox); have n2_ := Aside0.mk ((by rw [hg]; exact (below_size (bw HB.out)) : w.heap.size ≤ gb104)); have n3_ := Aside0.mk ((by rw [hg]; exact (below_size (bw HB.out)) : w.heap.size ≤ gb104)); clear HB; have HB := n0_; have BK104 := n1_; have GW104 := n2_; have GE104 := n3_; clear n0_ n1_ n2_ n3_; clear hb hbox hg; have hcz8_0 : w7.cell? ⟨gb104, 0, none⟩ = some (.int .i64 a0_0) := (blk_cell BK104.out 0).trans rfl; have hcz8_1 : w7.cell? ⟨gb104, 1, none⟩ = some (.int .i64 a0_1) := (blk_cell BK104.out 1).trans rfl; have hfz8_0 := blk_frozen BK104.out 0; have hfz8_1 := blk_frozen BK104.out 1) | ((with_reducible refine gate_callee (f := 93) rfl ?_); refine goesL_ (some 5) rfl rfl Tryz.func93 (by kernel_rfl) rfl #[.agg #[.int .i64 a0_0, .int .i64 a0_1]] rfl mq ?_; (with_reducible refine (wheel_dial_right.calls a0_0 a0_1 false _ A2.out).mono ?_); rintro e w9 ⟨rfl, hb⟩; refine ⟨_, rfl, ?_⟩; have n0_ := Aside0.mk (blk_below (g := gb104) (o := .cells #[.int .i64 a0_0, .int .i64 a0_1] 23 (0, 0)) (bq BK104.out) hb); have n1_ := Aside0.mk (below_step (by repeat (first | (with_reducible first | exact HB.out | apply below_alloc | apply pw_below_drewN | apply below_drew1 | refine below_set ?_ GE104.out) | exact HB.out)) hb); clear BK104; clear HB; have BK104 := n0_; have HB := n1_; clear n0_ n1_; (try clear hb); (try clear hb2); (try clear hk); (try clear hi)))
  go_ret
  exact ⟨by first | rfl | (simp [errW_none, errW_some] <;> rfl) | (simp [*, errW_none, errW_some] <;> rfl), by repeat (first | (with_reducible first | exact HB.out | apply below_alloc | apply pw_below_drewN | apply below_drew1 | refine below_set ?_ GE104.out) | exact HB.out)⟩
def wheel_dial_distance.f (a0_0 : Int) (a0_1 : Int) (a1 : Int) (a2 : Int) : Option (Int) := if a0_0 = 0 then (none) else (some (Int.tmod (wrap64 ((wrap64 (a2 - a1)) + a0_0)) a0_0))
set_option maxHeartbeats 8000000 in
set_option maxRecDepth 100000 in
theorem wheel_dial_distance.calls (a0_0 : Int) (a0_1 : Int) (a1 : Int) (a2 : Int) (r : Int) (w : World) (h : wheel_dial_distance.f a0_0 a0_1 a1 a2 = some r) :
  Calls Tryz.prog 100 #[.agg #[.int .i64 a0_0, .int .i64 a0_1], .int .i64 a1, .int .i64 a2] w fun e w' => e = .returned (.int .i64 r) ∧ Below w.heap.size w w' := by
 have hu108 := Tryz.underlying108
 have HB := Aside0.mk (Below.refl w.heap.size w)
 have H : (if a0_0 = 0 then (none) else (some (Int.tmod (wrap64 ((wrap64 (a2 - a1)) + a0_0)) a0_0))) = some r := h
 clear h
 by_cases c4 : a0_0 = 0
 ·rw [if_pos c4] at H
  exact absurd H (by simp)
 ·rw [if_neg c4] at H
  have c4b0 : (a0_0 == 0) = false := beq_eq_false_iff_ne.mpr c4
  have c4b1 : (a0_0 != 0) = true := bne_iff_ne.mpr c4
  obtain rfl := Option.some.inj H
  go_enter Tryz.func100, Tryz.ntmps100
  go_wp2_with (first | ((with_reducible refine gate_dst (N := 3) rfl ?_); refine box_event ?hg (N := 3) ?hd (cs := #[.int .i64 a0_0, .int .i64 a0_1]) (t := 108) ?hr ?_; (case hd => rfl); (case hg => rfl); (case hr => first | (go_simp; done) | (go_simp; rfl)); intro gb124 hg w5 hbox hb; have n0_ := Aside0.mk (below_step (bw HB.out) hb); have n1_ := Aside0.mk (hbox); have n2_ := Aside0.mk ((by rw [hg]; exact (below_size (bw HB.out)) : w.heap.size ≤ gb124)); have n3_ := Aside0.mk ((by rw [hg]; exact (below_size (bw HB.out)) : w.heap.size ≤ gb124)); clear HB; have HB := n0_; have BK124 := n1_; have GW124 := n2_; have GE124 := n3_; clear n0_ n1_ n2_ n3_; clear hb hbox hg; have hcz6_0 : w5.cell? ⟨gb124, 0, none⟩ = some (.int .i64 a0_0) := (blk_cell BK124.out 0).trans rfl; have hcz6_1 : w5.cell? ⟨gb124, 1, none⟩ = some (.int .i64 a0_1) := (blk_cell BK124.out 1).trans rfl; have hfz6_0 := blk_frozen BK124.out 0; have hfz6_1 := blk_frozen BK124.out 1))
  go_ret
  exact ⟨by first | rfl | (simp [errW_none, errW_some] <;> rfl) | (simp [*, errW_none, errW_some] <;> rfl), by repeat (first | (with_reducible first | exact HB.out | apply below_alloc | apply pw_below_drewN | apply below_drew1 | refine below_set ?_ GE124.out) | exact HB.out)⟩
theorem wrap64_id {x : Int} (h0 : -9223372036854775808 ≤ x) (h1 : x ≤ 9223372036854775807) : wrap64 x = x := by unfold wrap64; omega
def wOkB (D S : Int) : Bool := decide (wOk D S)
def placeOk (D s : Int) : Bool := decide (0 ≤ s) && decide (s ≤ D - 1)
def trialOk (D : Int) (x : S61) : Bool := spanOk x.f0 && (placeOk D x.f1 && placeOk D x.f2)
def readOk (D : Int) (x : S64) : Bool := (decide (0 ≤ x.f0) && decide (x.f0 ≤ 7)) && (placeOk D x.f1 && placeOk D x.f2)
theorem wheel_from.eval (n lo hi : Int) : wheel_from.f n lo hi = some (decide (lo ≤ n) && decide (n ≤ hi)) := by
 unfold wheel_from.f
 by_cases h : n ≥ lo
 ·simp [h]
 ·simp [h]
theorem wheel_dial_right.eval (D S : Int) : wheel_dial_right.f D S = some (wOkB D S) := by
 unfold wheel_dial_right.f wOkB wOk
 simp only [wheel_from.eval, Option.bind_some]
 by_cases h1 : 10 ≤ D
 ·by_cases h2 : D ≤ 10000
  ·by_cases h3 : 0 ≤ S
   ·by_cases h4 : S ≤ 100
    ·simp [h1, h2, h3, h4, wrap64_id (x := 2 * S) (by omega) (by omega)]
    ·simp [h1, h2, h3, h4]
   ·simp [h1, h2, h3]
  ·simp [h1, h2]
 ·simp [h1]
theorem wheel_Check.eval (D S : Int) : wheel_Check.f D S = some (if wOkB D S then 0 else 50) := by
 unfold wheel_Check.f
 rw [wheel_dial_right.eval D S]
 cases wOkB D S <;> rfl
theorem wheel_dial_place.eval2 (D S a b : Int) (h0 : 10 ≤ D) (h1 : D ≤ 10000) : wheel_dial_place.f 3 D S [a, b] = some (placeOk D a && placeOk D b) := by
 have hw : wrap64 (D - 1) = D - 1 := wrap64_id (by omega) (by omega)
 have h2 : wrap64 ((0 : Int) + 1) = 1 := wrap64_id (by omega) (by omega)
 have h3 : wrap64 ((1 : Int) + 1) = 2 := wrap64_id (by omega) (by omega)
 unfold wheel_dial_place.f
 simp only [wheel_dial_place.l0, hw, wheel_from.eval, Option.bind_some, List.length_cons, List.length_nil, h2, h3]
 simp [rd, placeOk, h3]
 by_cases ha : 0 ≤ a ∧ a ≤ D - 1
 ·by_cases hb : 0 ≤ b ∧ b ≤ D - 1
  ·simp [ha, hb]
  ·simp only [ha, hb, if_false]
   by_cases h0' : 0 ≤ b
   ·have : ¬ b ≤ D - 1 := fun h => hb ⟨h0', h⟩
    simp [ha, h0', this]
   ·simp [ha, h0']
 ·simp [ha]
theorem wheel_dial_trial.eval (D S lo hi s e : Int) (h0 : 10 ≤ D) (h1 : D ≤ 10000) : wheel_dial_trial.f 3 D S lo hi s e = some (trialOk D ⟨⟨lo, hi⟩, s, e⟩) := by
 unfold wheel_dial_trial.f trialOk
 rw [wheel_span.eval, wheel_dial_place.eval2 D S s e h0 h1]
 simp only [Option.bind_some]
 cases spanOk ⟨lo, hi⟩ <;> rfl
theorem wheel_dial_reading.eval (D S f s e : Int) (h0 : 10 ≤ D) (h1 : D ≤ 10000) : wheel_dial_reading.f 3 D S f s e = some (readOk D ⟨f, s, e⟩) := by
 unfold wheel_dial_reading.f readOk
 rw [wheel_from.eval, wheel_dial_place.eval2 D S s e h0 h1]
 simp only [Option.bind_some]
 cases (decide ((0 : Int) ≤ f) && decide (f ≤ 7)) <;> rfl
theorem wheel_dial_distance.eval (D S a b : Int) (h0 : 10 ≤ D) (h1 : D ≤ 10000) (ha : 0 ≤ a) (ha1 : a < D) (hb : 0 ≤ b) (hb1 : b < D) : wheel_dial_distance.f D S a b = some (wDist D a b) := by
 unfold wheel_dial_distance.f wDist
 rw [if_neg (by omega), wrap64_id (x := b - a) (by omega) (by omega), wrap64_id (by omega) (by omega), Int.tmod_eq_emod_of_nonneg (by omega)]
end Go.Proofs.YtgakfgedaipdmaaGreatDoor.P
