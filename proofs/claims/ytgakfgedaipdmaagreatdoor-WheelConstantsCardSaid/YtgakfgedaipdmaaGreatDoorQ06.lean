/- A part of the proof. -/
import Derived.Test.YtgakfgedaipdmaaGreatDoorQ05
import Derived.Shelf.SlSortCmp.WholeK
import Derived.Shelf.SlSortCmp.NoneTotal
import Derived.Shelf.SlicesG.Cmp
import Derived.Shelf.SlGeneric
import Derived.Ground.SlgcProg
import Derived.Ground.SlsfProg
namespace Go.Proofs
open Go.Shelf
def Tryz.sortSpans_ren : Go.Shelf.Ren := ⟨fun | 6 => 126 | 15 => 148 | 14 => 147 | 28 => 161 | 29 => 162 | 20 => 153 | 21 => 154 | 22 => 155 | 23 => 156 | 24 => 157 | 25 => 158 | 26 => 159 | 27 => 160 | 46 => 167 | 47 => 168 | 48 => 169 | 49 => 170 | 50 => 171 | 57 => 176 | n => n, fun | 22 => 26 | 24 => 59 | 25 => 166 | 3 => 3 | 39 => 188 | 0 => 0 | 53 => 200 | 55 => 202 | 4 => 4 | 46 => 194 | 45 => 193 | 50 => 159 | 5 => 5 | 9 => 9 | 66 => 208 | 70 => 212 | 76 => 218 | 77 => 189 | n => n, fun | n => n⟩
theorem Tryz.sortSpans : Go.Proofs.SlLaysF0.n6 Tryz.prog Tryz.sortSpans_ren := {
 mixed := by kernel_rfl
 f6 := ⟨Tryz.f126.name, by decide, Tryz.func126.trans (congrArg some (by kernel_rfl))⟩
 f14 := ⟨Tryz.f147.name, by decide, Tryz.func147.trans (congrArg some (by kernel_rfl))⟩
 f15 := Tryz.func148.trans (congrArg some (by kernel_rfl))
 f20 := ⟨Tryz.f153.name, by decide, Tryz.func153.trans (congrArg some (by kernel_rfl))⟩
 f21 := ⟨Tryz.f154.name, by decide, Tryz.func154.trans (congrArg some (by kernel_rfl))⟩
 f22 := ⟨Tryz.f155.name, by decide, Tryz.func155.trans (congrArg some (by kernel_rfl))⟩
 f23 := ⟨Tryz.f156.name, by decide, Tryz.func156.trans (congrArg some (by kernel_rfl))⟩
 f24 := ⟨Tryz.f157.name, by decide, Tryz.func157.trans (congrArg some (by kernel_rfl))⟩
 f25 := ⟨Tryz.f158.name, by decide, Tryz.func158.trans (congrArg some (by kernel_rfl))⟩
 f26 := ⟨Tryz.f159.name, by decide, Tryz.func159.trans (congrArg some (by kernel_rfl))⟩
 f27 := ⟨Tryz.f160.name, by decide, Tryz.func160.trans (congrArg some (by kernel_rfl))⟩
 f28 := Tryz.func161.trans (congrArg some (by kernel_rfl))
 f29 := Tryz.func162.trans (congrArg some (by kernel_rfl))
 f46 := ⟨Tryz.f167.name, by decide, Tryz.func167.trans (congrArg some (by kernel_rfl))⟩
 f47 := Tryz.func168.trans (congrArg some (by kernel_rfl))
 f48 := Tryz.func169.trans (congrArg some (by kernel_rfl))
 f49 := ⟨Tryz.f170.name, by decide, Tryz.func170.trans (congrArg some (by kernel_rfl))⟩
 f50 := ⟨Tryz.f171.name, by decide, Tryz.func171.trans (congrArg some (by kernel_rfl))⟩
 f57 := ⟨Tryz.f176.name, by decide, Tryz.func176.trans (congrArg some (by kernel_rfl))⟩
 t0 := Tryz.underlying0
 a0 := Tryz.isAgg0
 z0 := Tryz.sizeOf0
 v0 := Tryz.zeroValue0
 t3 := Tryz.underlying3
 a3 := Tryz.isAgg3
 z3 := Tryz.sizeOf3
 v3 := Tryz.zeroValue3
 t4 := Tryz.underlying4
 a4 := Tryz.isAgg4
 z4 := Tryz.sizeOf4
 v4 := Tryz.zeroValue4
 t5 := Tryz.underlying5
 a5 := Tryz.isAgg5
 z5 := Tryz.sizeOf5
 v5 := Tryz.zeroValue5
 t9 := Tryz.underlying9
 a9 := Tryz.isAgg9
 z9 := Tryz.sizeOf9
 v9 := Tryz.zeroValue9
 t22 := Tryz.underlying26
 a22 := Tryz.isAgg26
 z22 := Tryz.sizeOf26
 v22 := Tryz.zeroValue26
 t25 := Tryz.underlying166
 a25 := Tryz.isAgg166
 z25 := Tryz.sizeOf166
 v25 := Tryz.zeroValue166
 t39 := Tryz.underlying188
 a39 := Tryz.isAgg188
 z39 := Tryz.sizeOf188
 v39 := Tryz.zeroValue188
 t45 := Tryz.underlying193
 a45 := Tryz.isAgg193
 z45 := Tryz.sizeOf193
 v45 := Tryz.zeroValue193
 t46 := Tryz.underlying194
 a46 := Tryz.isAgg194
 z46 := Tryz.sizeOf194
 v46 := Tryz.zeroValue194
 t50 := Tryz.underlying159
 a50 := Tryz.isAgg159
 z50 := Tryz.sizeOf159
 v50 := Tryz.zeroValue159
 t53 := Tryz.underlying200
 a53 := Tryz.isAgg200
 z53 := Tryz.sizeOf200
 v53 := Tryz.zeroValue200
 t55 := Tryz.underlying202
 a55 := Tryz.isAgg202
 z55 := Tryz.sizeOf202
 v55 := Tryz.zeroValue202
 t66 := Tryz.underlying208
 a66 := Tryz.isAgg208
 z66 := Tryz.sizeOf208
 v66 := Tryz.zeroValue208
 t70 := Tryz.underlying212
 a70 := Tryz.isAgg212
 z70 := Tryz.sizeOf212
 v70 := Tryz.zeroValue212
 t76 := Tryz.underlying218
 a76 := Tryz.isAgg218
 z76 := Tryz.sizeOf218
 v76 := Tryz.zeroValue218
 t77 := Tryz.underlying189
 a77 := Tryz.isAgg189
 z77 := Tryz.sizeOf189
 v77 := Tryz.zeroValue189 }
def Tryz.cmpInt_ren : Go.Shelf.Ren := ⟨fun | 5 => 143 | 7 => 151 | n => n, fun | 22 => 3 | 3 => 3 | 4 => 4 | n => n, fun | n => n⟩
theorem Tryz.cmpInt : Go.Proofs.SlLaysC2.n5 Tryz.prog Tryz.cmpInt_ren := {
 mixed := by kernel_rfl
 f5 := ⟨Tryz.f143.name, by decide, Tryz.func143.trans (congrArg some (by kernel_rfl))⟩
 f7 := ⟨Tryz.f151.name, by decide, Tryz.func151.trans (congrArg some (by kernel_rfl))⟩
 t3 := Tryz.underlying3
 a3 := Tryz.isAgg3
 z3 := Tryz.sizeOf3
 v3 := Tryz.zeroValue3
 t4 := Tryz.underlying4
 a4 := Tryz.isAgg4
 z4 := Tryz.sizeOf4
 v4 := Tryz.zeroValue4
 t22 := Tryz.underlying3
 a22 := Tryz.isAgg3
 z22 := Tryz.sizeOf3
 v22 := Tryz.zeroValue3 }
end Go.Proofs
namespace Go.Proofs.YtgakfgedaipdmaaGreatDoor.P
open Go.RowKit Go.Shelf Go.Lib Go.Sort Go.Proofs.YtgakfgedaipdmaaGreatDoorW.PrintWords Go.Proofs.YtgakfgedaipdmaaGreatDoorW.PrintLast Go.Proofs.YtgakfgedaipdmaaGreatDoorW.PrintMore
set_option linter.unusedVariables false
set_option linter.unusedSimpArgs false
def SpB (s : S59) : Prop := -2305843009213693952 ≤ s.f0 ∧ s.f0 ≤ 2305843009213693952
abbrev Sp := { s : S59 // SpB s }
instance : Inhabited Sp := ⟨⟨z59, by constructor <;> decide⟩⟩
def encSp (s : Sp) : List Value := [.int .i64 s.1.f0, .int .i64 s.1.f1]
def cfSp (x y : Sp) : Int := x.1.f0 - y.1.f0
theorem ltSp (x y : Sp) : ltOf cfSp x y = decide (x.1.f0 < y.1.f0) := by
 unfold ltOf cfSp
 simp only [decide_eq_decide]
 omega
theorem swo_of {cf : Sp → Sp → Int} (h : ∀ x y, ltOf cf x y = decide (x.1.f0 < y.1.f0)) : SWO (ltOf cf) where
 irrefl x := by rw [h]; simp
 trans x y z h1 h2 := by rw [h] at *; simp at *; omega
 ntrans x y z h1 h2 := by rw [h] at *; simp at *; omega
def cfCmp (x y : Sp) : Int := Lib.compareInt x.1.f0 y.1.f0
theorem ltCmp (x y : Sp) : ltOf cfCmp x y = decide (x.1.f0 < y.1.f0) := by
 unfold ltOf cfCmp Lib.compareInt
 by_cases h1 : x.1.f0 < y.1.f0
 ·simp [h1]
 ·by_cases h2 : y.1.f0 < x.1.f0 <;> simp [h1, h2]
theorem encSp_len (s : Sp) : (encSp s).length = 2 := rfl
theorem encSp_one (s : Sp) : ∀ v ∈ encSp s, v.oneCell' = true := by
 intro v hv
 simp only [encSp, List.mem_cons, List.not_mem_nil, or_false] at hv
 rcases hv with rfl | rfl <;> rfl
set_option maxHeartbeats 1000000 in
theorem closure127 (x y : Sp) (W : World) : Calls Tryz.prog 127 #[.agg #[.int .i64 x.1.f0, .int .i64 x.1.f1], .agg #[.int .i64 y.1.f0, .int .i64 y.1.f1]] W fun e w' => e = .returned (.int .i64 (cfSp x y)) ∧ ∃ q os', w' = grow (W.drewN q) os' := by
 have hw : wrap64 (x.1.f0 - y.1.f0) = cfSp x y := by
  have h1 := x.2.1
  have h2 := x.2.2
  have h3 := y.2.1
  have h4 := y.2.2
  unfold cfSp wrap64
  omega
 obtain ⟨r, hr⟩ : ∃ r, cfSp x y = r := ⟨_, rfl⟩
 rw [hr] at hw ⊢
 clear hr
 go_enter Tryz.func127, Tryz.ntmps127
 go_wp2
 go_ret
 exact ⟨congrArg (fun z => Ending.returned (.int .i64 z)) hw, 0, _, by rw [alloc_eq_grow, alloc_eq_grow, grow_grow]; rfl⟩
theorem cmpLays127 (blk off size : Nat) (w : World) : CmpLays Tryz.prog 127 #[] encSp 2 cfSp blk off size w :=
 fun _ _ _ _ x y => closure127 x y _
set_option maxHeartbeats 1000000 in
theorem closure142 (x y : Sp) (W : World) : Calls Tryz.prog 142 #[.agg #[.int .i64 x.1.f0, .int .i64 x.1.f1], .agg #[.int .i64 y.1.f0, .int .i64 y.1.f1]] W fun e w' => e = .returned (.int .i64 (cfCmp x y)) ∧ ∃ q os', w' = grow (W.drewN q) os' := by
 have hcon := fun W' => AnyG.cmp_Compare_int (P := Tryz.prog) (ρ := Tryz.cmpInt_ren) Tryz.cmpInt x.1.f0 y.1.f0 W'
 change ∀ W', Calls Tryz.prog 143 _ _ _ at hcon
 unfold cfCmp
 generalize Lib.compareInt x.1.f0 y.1.f0 = r at hcon ⊢
 go_enter Tryz.func142, Tryz.ntmps142
 go_wp2_with (go_at_call 143; refine Calls.mono (hcon _) ?_; rintro e w' ⟨rfl, rfl⟩)
 go_ret
 exact ⟨rfl, 0, _, by rw [alloc_eq_grow, alloc_eq_grow, grow_grow]; rfl⟩
theorem cmpLays142 (blk off size : Nat) (w : World) : CmpLays Tryz.prog 142 #[] encSp 2 cfCmp blk off size w :=
 fun _ _ _ _ x y => closure142 x y _
theorem flat_get (d : Array Sp) (j c : Nat) (hj : j < d.size) (hc : c < 2) : (flatK encSp 2 d)[j * 2 + c]! = (encSp d[j]!)[c]! := by
 rw [get_flatK _ _ _ _ (by omega), show (j * 2 + c) / 2 = j by omega, show (j * 2 + c) % 2 = c by omega]
theorem flat_list (d : Array Sp) (j : Nat) (hj : j < d.size) : ((flatK encSp 2 d).toList.drop (j * 2)).take 2 = [.int .i64 d[j]!.1.f0, .int .i64 d[j]!.1.f1] := by
 have hs : (flatK encSp 2 d).size = d.size * 2 := size_flatK _ _ _
 have g := fun c (hc : c < 2) => flat_get d j c hj hc
 have e : ∀ c, c < 2 → (flatK encSp 2 d).toList[j * 2 + c]? = some ((encSp d[j]!)[c]!) := fun c hc => by
  rw [Array.getElem?_toList, ← g c hc, getElem!_pos _ _ (by omega), Array.getElem?_eq_getElem (by omega)]
 apply List.ext_getElem?
 intro i
 match i with
 |0 => rw [List.getElem?_take_of_lt (by omega), List.getElem?_drop, e 0 (by omega)]; rfl
 |1 => rw [List.getElem?_take_of_lt (by omega), List.getElem?_drop, e 1 (by omega)]; rfl
 |i + 2 => rw [List.getElem?_take_eq_none (by omega)]; rfl
theorem addr_add (g n : Nat) : (⟨g, 0, none⟩ : Addr).add n = ⟨g, n, none⟩ := by
 unfold Addr.add
 split
 ·rename_i h
  subst h
  rfl
 ·simp
theorem holds_of_R {w : World} {base g cap : Nat} {ok : Nat → Prop} {d : Array Sp} (h : Kd.R k59 59 w base ok (.slice (some ⟨g, 0, none⟩) d.size cap) (d.toList.map (·.1))) : HoldsK encSp 2 w g 0 d := by
 obtain ⟨cells, hcells⟩ : ∃ cells, w.heap[g]? = some (.cells cells 59 (0, 0)) := Kd.R_typed h g (by simp [Value.ownBlock])
 obtain ⟨_, _, hr⟩ := Kd.R_reads' h
 intro t ht
 have ht' : t < d.size * 2 := by simpa using ht
 refine ⟨?_, blk_frozen hcells _⟩
 obtain ⟨ad, hA, h0, h1⟩ := at_T59 hr ((t / 2 : Nat) : Int) (by omega) (by simp; omega)
 cases hA
 simp only [Int.toNat_natCast, addr_add] at h0 h1
 have hrd : rd_T59 (d.toList.map (·.1)) ((t / 2 : Nat) : Int) = d[t / 2]!.1 := by
  unfold rd_T59
  rw [Int.toNat_natCast, List.getD_eq_getElem?_getD, List.getElem?_map, Array.getElem?_toList, Array.getElem?_eq_getElem (by omega), getElem!_pos _ _ (by omega)]
  rfl
 rw [hrd] at h0 h1
 rw [get_flatK _ _ _ _ ht']
 rcases (by omega : t % 2 = 0 ∨ t % 2 = 1) with hm | hm
 ·rw [hm]
  rw [show (0 + t : Nat) = t / 2 * 2 by omega]
  exact h0
 ·rw [hm]
  rw [show (0 + t : Nat) = t / 2 * 2 + 1 by omega]
  exact h1
theorem heap_sortedK {w : World} {g n : Nat} {os : Array Obj} {cur : Array Value} {e : TypeId} {fr : Nat × Nat} (d : Array Sp) (hb : w.heap[g]? = some (.cells cur e fr)) :
  (sortWorldK encSp 2 w g 0 n d os).heap[g]? = some (.cells (putCells id 0 (flatK encSp 2 d) cur) e fr) := by
 have hg : g < w.heap.size := (Array.getElem?_eq_some_iff.1 hb).1
 unfold sortWorldK
 rw [heap_grow_old _ _ (by simpa [putRowK] using hg)]
 simp [putRowK, putRow, mapBlock, Sort.ahead, Array.getElem?_modify, hb, onCells]
theorem grownBy_sortedK {w : World} {g n : Nat} {os : Array Obj} (d : Array Sp) : w.grownBy (sortWorldK encSp 2 w g 0 n d os) (some g) := by
 unfold sortWorldK
 refine ⟨rfl, rfl, rfl, by simp [putRowK], fun k hk hne => ?_⟩
 rw [heap_grow_old _ _ (by simpa [putRowK] using hk)]
 have : g ≠ k := fun e => hne (by rw [e])
 simp [putRowK, putRow, mapBlock, Sort.ahead, Array.getElem?_modify, this]
theorem R_sorted {w : World} {base g cap n : Nat} {ok : Nat → Prop} {os : Array Obj} {l : List S59} {d : Array Sp} (h : Kd.R k59 59 w base ok (.slice (some ⟨g, 0, none⟩) l.length cap) l) (hd : d.size = l.length) :
  Kd.R k59 59 (sortWorldK encSp 2 w g 0 n d os) base ok (.slice (some ⟨g, 0, none⟩) l.length cap) (d.toList.map (·.1)) := by
 obtain ⟨h0, inner, ⟨hx, ho⟩, hr⟩ := h
 rcases ho with ⟨ho, _⟩ | ⟨g', cap', cur, hv, hb, hh, h1, h2, h3, h4⟩
 ·cases ho
 cases hv
 have hl : (d.toList.map (·.1)).length = l.length := by simp [hd]
 have hsz : k59.sz = 2 := rfl
 refine ⟨h0, (flatK encSp 2 d).toList, ⟨?_, .inr ⟨g, cap, _, by rw [hl], hb, heap_sortedK d hh, by rw [hl]; exact h1, h2, by simpa [putCells] using h3, ?_⟩⟩, ?_⟩
 ·rw [hl, hsz]; simp [hd]
 ·rw [hl, hsz]
  rw [hsz] at h3
  apply List.ext_getElem?
  intro j
  by_cases hj : j < l.length * 2
  ·rw [List.getElem?_take_of_lt hj, Array.getElem?_toList, Array.getElem?_toList]
   have hjc : j < cur.size := by omega
   have hjf : j < (flatK encSp 2 d).size := by rw [size_flatK]; omega
   rw [Array.getElem?_eq_getElem hjf]
   simp only [putCells, Array.getElem?_mapIdx, Array.getElem?_eq_getElem hjc, Option.map_some]
   rw [if_pos ⟨Nat.zero_le _, by simpa using hjf⟩]
   simp only [id, Nat.sub_zero]
   rw [getElem!_pos (flatK encSp 2 d) j hjf]
  ·rw [List.getElem?_take_eq_none (by omega), List.getElem?_eq_none (by simp; omega)]
 ·refine ⟨by rw [hl, hsz]; simp [hd], fun j p hj => ?_⟩
  rw [List.getElem?_map, Option.map_eq_some_iff] at hj
  obtain ⟨s, hs, rfl⟩ := hj
  have hjl : j < d.size := by
   have := (List.getElem?_eq_some_iff.1 hs).1
   simpa using this
  have hsd : d[j]! = s := by
   rw [Array.getElem?_toList] at hs
   rw [getElem!_pos d j hjl]
   have := Array.getElem?_eq_getElem hjl
   rw [hs] at this
   exact (Option.some.inj this).symm
  rw [hsz, flat_list d j hjl, hsd]
  exact k59_mkM _ _ _ _
def ByLo (l : List S59) : Prop := l.Pairwise fun x y => x.f0 ≤ y.f0
theorem sorted_byLo {cf : Sp → Sp → Int} (hlt : ∀ x y, ltOf cf x y = decide (x.1.f0 < y.1.f0)) {d : Array Sp} (h : SortedIn (ltOf cf) 0 d.size d) : ByLo (d.toList.map (·.1)) := by
 unfold ByLo
 rw [List.pairwise_map, List.pairwise_iff_getElem]
 intro i j hi hj hij
 have h1 := h i j (Nat.zero_le _) hij (by simpa using hj)
 rw [hlt, getElem!_pos d j (by simpa using hj), getElem!_pos d i (by simpa using hi)] at h1
 simpa using h1
theorem exists_sp (l : List S59) (h : ∀ s ∈ l, SpB s) : ∃ d : Array Sp, d.toList.map (·.1) = l := by
 induction l with
 |nil => exact ⟨#[], rfl⟩
 |cons s l ih =>
  obtain ⟨d, hd⟩ := ih (fun t ht => h t (List.mem_cons_of_mem _ ht))
  exact ⟨(⟨s, h s List.mem_cons_self⟩ :: d.toList).toArray, by simp [hd]⟩
theorem sort_spans (cf : Sp → Sp → Int) (hlt : ∀ x y, ltOf cf x y = decide (x.1.f0 < y.1.f0)) (cmp : Nat) (eg : ∀ args w, (callFunc cmp args).run Tryz.prog w = .ok (.enter cmp args) w) (hcmp : ∀ blk off size w, CmpLays Tryz.prog cmp #[] encSp 2 cf blk off size w)
  (base : Nat) (ok : Nat → Prop) (v : Value) (l : List S59) (w : World) (h : Kd.R k59 59 w base ok v l) (hl : ∀ s ∈ l, SpB s) (hn : l.length < 4611686018427387904) :
  Calls Tryz.prog 126 #[v, .func (.func cmp) #[] #[]] w fun e w' => e = .returned (.tuple #[]) ∧ ∃ l', l'.Perm l ∧ ByLo l' ∧ Kd.R k59 59 w' base ok v l' ∧ w.grownBy w' v.ownBlock := by
 rcases Nat.eq_zero_or_pos l.length with h0 | hp
 ·have hl0 : l = [] := List.length_eq_zero_iff.1 h0
  obtain ⟨A, c, rfl⟩ := Kd.R_slice h
  have hc := AnyF.slices_SortFunc_none (P := Tryz.prog) (ρ := Tryz.sortSpans_ren) Tryz.sortSpans A c (.func (.func cmp) #[] #[]) w
  rw [← h0] at hc
  refine Calls.mono hc ?_
  rintro e w' ⟨rfl, rfl⟩
  exact ⟨rfl, l, List.Perm.refl _, by rw [hl0]; exact List.Pairwise.nil, h, ⟨rfl, rfl, rfl, Nat.le_refl _, fun _ _ _ => rfl⟩⟩
 ·obtain ⟨g, cap, rfl, hb, hg, cells, hcells⟩ := Kd.R_form h hp
  obtain ⟨d, rfl⟩ := exists_sp l hl
  have hsz : (d.toList.map (·.1)).length = d.size := by simp
  have hH : HoldsK encSp 2 w g 0 d := holds_of_R (cap := cap) (by rw [hsz] at h; exact h)
  have hc := AnyQ.slices_SortFunc (P := Tryz.prog) (ρ := Tryz.sortSpans_ren) Tryz.sortSpans 2 Tryz.isAgg59 Tryz.sizeOf59 encSp encSp_len encSp_one cf (swo_of hlt) cmp #[] g 0 cap d w eg (hcmp g 0 d.size w) hH hg (by omega)
  rw [← hsz] at hc
  refine Calls.mono hc ?_
  rintro e w' ⟨rfl, d', n, os, hpm, hso, rfl⟩
  have hds : d'.size = d.size := hpm.1
  rw [hsz] at hpm hso
  refine ⟨rfl, d'.toList.map (·.1), ?_, sorted_byLo hlt (by rw [hds]; exact hso), R_sorted h (by rw [hsz]; exact hds), grownBy_sortedK d'⟩
  have := hpm.2.2
  simp only [Array.extract_eq_self_of_le (Nat.le_refl d.size), Array.extract_eq_self_of_le (Nat.le_of_eq hds)] at this
  exact this.map _
end Go.Proofs.YtgakfgedaipdmaaGreatDoor.P
namespace Go.Proofs.YtgakfgedaipdmaaGreatDoor.P
open Go.RowKit Go.Proofs.YtgakfgedaipdmaaGreatDoorW.PrintWords
set_option linter.unusedVariables false
set_option linter.unusedSimpArgs false
def memR (n : Int) (l : List S59) : Prop := ∃ s ∈ l, s.f0 ≤ n ∧ n ≤ s.f1
structure Canon (l : List S59) : Prop where
 ne : ∀ s ∈ l, s.f0 ≤ s.f1
 gap : l.Pairwise fun s t => s.f1 + 1 < t.f0
theorem Canon.nil : Canon [] := ⟨by simp, List.Pairwise.nil⟩
theorem Canon.tail {s : S59} {l : List S59} (h : Canon (s :: l)) : Canon l := ⟨fun t ht => h.ne t (List.mem_cons_of_mem _ ht), (List.pairwise_cons.1 h.gap).2⟩
theorem memR_cons {n : Int} {s : S59} {l : List S59} : memR n (s :: l) ↔ (s.f0 ≤ n ∧ n ≤ s.f1) ∨ memR n l := by
 unfold memR
 constructor
 ·rintro ⟨t, ht, h⟩
  rcases List.mem_cons.1 ht with rfl | ht
  ·exact .inl h
  ·exact .inr ⟨t, ht, h⟩
 ·rintro (h | ⟨t, ht, h⟩)
  ·exact ⟨s, List.mem_cons_self, h⟩
  ·exact ⟨t, List.mem_cons_of_mem _ ht, h⟩
theorem memR_nil {n : Int} : ¬ memR n [] := fun ⟨s, hs, _⟩ => by simp at hs
theorem memR_perm {n : Int} {a b : List S59} (h : a.Perm b) : memR n a ↔ memR n b := by
 unfold memR
 constructor
 ·rintro ⟨t, ht, hh⟩
  exact ⟨t, h.mem_iff.1 ht, hh⟩
 ·rintro ⟨t, ht, hh⟩
  exact ⟨t, h.mem_iff.2 ht, hh⟩
theorem Canon.above {s : S59} {l : List S59} (h : Canon (s :: l)) {n : Int} (hn : memR n l) : s.f1 + 1 < n := by
 obtain ⟨t, ht, h1, _⟩ := hn
 have := (List.pairwise_cons.1 h.gap).1 t ht
 omega
theorem canon_unique : ∀ {a b : List S59}, Canon a → Canon b → (∀ n, memR n a ↔ memR n b) → a = b
 |[], [], _, _, _ => rfl
 |[], t :: b, _, hb, h => absurd ((h t.f0).2 (memR_cons.2 (.inl ⟨Int.le_refl _, hb.ne t List.mem_cons_self⟩))) memR_nil
 |s :: a, [], ha, _, h => absurd ((h s.f0).1 (memR_cons.2 (.inl ⟨Int.le_refl _, ha.ne s List.mem_cons_self⟩))) memR_nil
 |s :: a, t :: b, ha, hb, h => by
  have hs := ha.ne s List.mem_cons_self
  have ht := hb.ne t List.mem_cons_self
  have lo : ∀ {s t : S59} {a b : List S59}, Canon (s :: a) → Canon (t :: b) → (∀ n, memR n (s :: a) ↔ memR n (t :: b)) → s.f0 ≤ t.f0 := fun {s t a b} ha hb h => by
   have ht := hb.ne t List.mem_cons_self
   rcases memR_cons.1 ((h t.f0).2 (memR_cons.2 (.inl ⟨Int.le_refl _, ht⟩))) with h1 | h1
   ·exact h1.1
   ·have := ha.above h1
    have := ha.ne s List.mem_cons_self
    omega
  have e0 : s.f0 = t.f0 := Int.le_antisymm (lo ha hb h) (lo hb ha (fun n => (h n).symm))
  have hi : ∀ {s t : S59} {a b : List S59}, Canon (s :: a) → Canon (t :: b) → s.f0 = t.f0 → (∀ n, memR n (s :: a) ↔ memR n (t :: b)) → t.f1 ≤ s.f1 := fun {s t a b} ha hb e h => by
   have hs := ha.ne s List.mem_cons_self
   rcases Int.lt_or_le s.f1 t.f1 with hlt | hle
   ·rcases memR_cons.1 ((h (s.f1 + 1)).2 (memR_cons.2 (.inl ⟨by omega, by omega⟩))) with h1 | h1
    ·omega
    ·have := ha.above h1
     omega
   ·exact hle
  have e1 : s.f1 = t.f1 := Int.le_antisymm (hi hb ha e0.symm (fun n => (h n).symm)) (hi ha hb e0 h)
  have est : s = t := by cases s; cases t; simp_all
  subst est
  congr 1
  refine canon_unique ha.tail hb.tail fun n => ?_
  constructor
  ·intro hn
   have := ha.above hn
   rcases memR_cons.1 ((h n).1 (memR_cons.2 (.inr hn))) with h1 | h1
   ·omega
   ·exact h1
  ·intro hn
   have := hb.above hn
   rcases memR_cons.1 ((h n).2 (memR_cons.2 (.inr hn))) with h1 | h1
   ·omega
   ·exact h1
def jstep (o : List S59) (x : S59) : List S59 :=
 match o with
 |y :: r => if x.f0 ≤ y.f1 + 1 then ⟨y.f0, max y.f1 x.f1⟩ :: r else x :: y :: r
 |[] => [x]
def jfold (l : List S59) : List S59 := (l.foldl jstep []).reverse
theorem canon_rev_cons {y : S59} {r : List S59} : Canon ((y :: r).reverse) ↔ y.f0 ≤ y.f1 ∧ (∀ t ∈ r, t.f1 + 1 < y.f0) ∧ Canon r.reverse := by
 rw [List.reverse_cons]
 constructor
 ·rintro ⟨h1, h2⟩
  rw [List.pairwise_append] at h2
  exact ⟨h1 y (by simp), fun t ht => h2.2.2 t (by simpa using ht) y (by simp), ⟨fun s hs => h1 s (by simp at hs ⊢; exact .inl hs), h2.1⟩⟩
 ·rintro ⟨h1, h2, h3⟩
  refine ⟨fun s hs => ?_, ?_⟩
  ·rcases List.mem_append.1 hs with hs | hs
   ·exact h3.ne s hs
   ·rw [List.mem_singleton.1 hs]; exact h1
  ·rw [List.pairwise_append]
   exact ⟨h3.gap, by simp, fun a ha b hb => by rw [List.mem_singleton.1 hb]; exact h2 a (by simpa using ha)⟩
theorem memR_reverse {n : Int} {l : List S59} : memR n l.reverse ↔ memR n l := memR_perm (List.reverse_perm l)
theorem jstep_spec {o : List S59} {x : S59} (ho : Canon o.reverse) (hx : x.f0 ≤ x.f1) (hlo : ∀ s ∈ o, s.f0 ≤ x.f0) : Canon (jstep o x).reverse ∧ (∀ n, memR n (jstep o x) ↔ memR n o ∨ (x.f0 ≤ n ∧ n ≤ x.f1)) ∧ (∀ s ∈ jstep o x, s.f0 ≤ x.f0) := by
 cases o with
 |nil =>
  refine ⟨⟨by simp [jstep]; exact hx, by simp [jstep]⟩, fun n => ?_, by simp [jstep]⟩
  show memR n [x] ↔ _
  rw [memR_cons]
  exact ⟨fun h => h.elim .inr (fun h => absurd h memR_nil), fun h => h.elim (fun h => absurd h memR_nil) .inl⟩
 |cons y r =>
  obtain ⟨h1, h2, h3⟩ := canon_rev_cons.1 ho
  have hy := hlo y List.mem_cons_self
  have e : jstep (y :: r) x = if x.f0 ≤ y.f1 + 1 then ⟨y.f0, max y.f1 x.f1⟩ :: r else x :: y :: r := rfl
  by_cases hc : x.f0 ≤ y.f1 + 1
  ·rw [e, if_pos hc]
   refine ⟨canon_rev_cons.2 ⟨by show y.f0 ≤ max y.f1 x.f1; omega, h2, h3⟩, fun n => ?_, fun s hs => ?_⟩
   ·rw [memR_cons, memR_cons]
    show (y.f0 ≤ n ∧ n ≤ max y.f1 x.f1) ∨ memR n r ↔ ((y.f0 ≤ n ∧ n ≤ y.f1) ∨ memR n r) ∨ (x.f0 ≤ n ∧ n ≤ x.f1)
    constructor
    ·rintro (h | h)
     ·by_cases hn : n ≤ y.f1
      ·exact .inl (.inl ⟨h.1, hn⟩)
      ·exact .inr ⟨by omega, by omega⟩
     ·exact .inl (.inr h)
    ·rintro ((h | h) | h)
     ·exact .inl ⟨h.1, by omega⟩
     ·exact .inr h
     ·exact .inl ⟨by omega, by omega⟩
   ·rcases List.mem_cons.1 hs with rfl | hs
    ·exact hy
    ·exact hlo s (List.mem_cons_of_mem _ hs)
  ·rw [e, if_neg hc]
   refine ⟨canon_rev_cons.2 ⟨hx, fun t ht => ?_, ho⟩, fun n => ?_, fun s hs => ?_⟩
   ·rcases List.mem_cons.1 ht with rfl | ht
    ·omega
    ·have := h2 t ht
     omega
   ·rw [memR_cons]
    exact Or.comm
   ·rcases List.mem_cons.1 hs with rfl | hs
    ·exact Int.le_refl _
    ·exact hlo s hs
theorem jfoldl_spec : ∀ (l : List S59) (o : List S59), Canon o.reverse → (∀ s ∈ l, s.f0 ≤ s.f1) → ByLo l → (∀ s ∈ o, ∀ x ∈ l, s.f0 ≤ x.f0) → Canon (l.foldl jstep o).reverse ∧ ∀ n, memR n (l.foldl jstep o) ↔ memR n o ∨ memR n l
 |[], o, ho, _, _, _ => ⟨ho, fun n => ⟨.inl, fun h => h.elim id (fun h => absurd h memR_nil)⟩⟩
 |x :: l, o, ho, hne, hby, hlo => by
  obtain ⟨h1, h2, h3⟩ := jstep_spec ho (hne x List.mem_cons_self) (fun s hs => hlo s hs x List.mem_cons_self)
  have hby' := List.pairwise_cons.1 hby
  obtain ⟨g1, g2⟩ := jfoldl_spec l (jstep o x) h1 (fun s hs => hne s (List.mem_cons_of_mem _ hs)) hby'.2 (fun s hs y hy => Int.le_trans (h3 s hs) (hby'.1 y hy))
  refine ⟨g1, fun n => ?_⟩
  rw [List.foldl_cons, g2, h2, memR_cons, or_assoc]
theorem jfold_spec {l : List S59} (hne : ∀ s ∈ l, s.f0 ≤ s.f1) (hby : ByLo l) : Canon (jfold l) ∧ ∀ n, memR n (jfold l) ↔ memR n l := by
 obtain ⟨h1, h2⟩ := jfoldl_spec l [] Canon.nil hne hby (by simp)
 refine ⟨h1, fun n => ?_⟩
 unfold jfold
 rw [memR_reverse, h2]
 exact ⟨fun h => h.elim (fun h => absurd h memR_nil) id, .inr⟩
def sIns (x : S59) : List S59 → List S59
 |[] => [x]
 |y :: r => if x.f0 ≤ y.f0 then x :: y :: r else y :: sIns x r
def sSort (l : List S59) : List S59 := l.foldr sIns []
theorem sIns_perm (x : S59) : ∀ l, (sIns x l).Perm (x :: l)
 |[] => List.Perm.refl _
 |y :: r => by
  unfold sIns
  split
  ·exact List.Perm.refl _
  ·exact ((sIns_perm x r).cons y).trans (List.Perm.swap x y r)
theorem sIns_by (x : S59) : ∀ l, ByLo l → ByLo (sIns x l)
 |[], _ => by simp [sIns, ByLo]
 |y :: r, h => by
  have h' := List.pairwise_cons.1 h
  unfold sIns
  split
  ·rename_i hc
   exact List.pairwise_cons.2 ⟨fun z hz => by
    rcases List.mem_cons.1 hz with rfl | hz
    ·exact hc
    ·exact Int.le_trans hc (h'.1 z hz), h⟩
  ·rename_i hc
   refine List.pairwise_cons.2 ⟨fun z hz => ?_, sIns_by x r h'.2⟩
   rcases List.mem_cons.1 ((sIns_perm x r).mem_iff.1 hz) with rfl | hz
   ·omega
   ·exact h'.1 z hz
theorem sSort_perm : ∀ l, (sSort l).Perm l
 |[] => List.Perm.refl _
 |x :: l => (sIns_perm x (sSort l)).trans ((sSort_perm l).cons x)
theorem sSort_by : ∀ l, ByLo (sSort l)
 |[] => List.Pairwise.nil
 |x :: l => sIns_by x _ (sSort_by l)
def canonOf (l : List S59) : List S59 := jfold (sSort l)
theorem canonOf_spec {l : List S59} (hne : ∀ s ∈ l, s.f0 ≤ s.f1) : Canon (canonOf l) ∧ ∀ n, memR n (canonOf l) ↔ memR n l := by
 obtain ⟨h1, h2⟩ := jfold_spec (l := sSort l) (fun s hs => hne s ((sSort_perm l).mem_iff.1 hs)) (sSort_by l)
 exact ⟨h1, fun n => (h2 n).trans (memR_perm (sSort_perm l))⟩
theorem jfold_eq {l l' : List S59} (hne : ∀ s ∈ l, s.f0 ≤ s.f1) (hp : l'.Perm l) (hby : ByLo l') : jfold l' = canonOf l := by
 obtain ⟨h1, h2⟩ := jfold_spec (l := l') (fun s hs => hne s (hp.mem_iff.1 hs)) hby
 obtain ⟨g1, g2⟩ := canonOf_spec hne
 exact canon_unique h1 g1 fun n => (h2 n).trans ((memR_perm hp).trans (g2 n).symm)
theorem canonOf_eq {l o : List S59} (hne : ∀ s ∈ l, s.f0 ≤ s.f1) (ho : Canon o) (h : ∀ n, memR n o ↔ memR n l) : canonOf l = o := by
 obtain ⟨g1, g2⟩ := canonOf_spec hne
 exact canon_unique g1 ho fun n => (g2 n).trans (h n).symm
end Go.Proofs.YtgakfgedaipdmaaGreatDoor.P
namespace Go.Proofs.YtgakfgedaipdmaaGreatDoor.P
open Go.RowKit Go.Shelf Go.Proofs.YtgakfgedaipdmaaGreatDoorW.PrintWords Go.Proofs.YtgakfgedaipdmaaGreatDoorW.PrintLast Go.Proofs.YtgakfgedaipdmaaGreatDoorW.PrintMore
attribute [local go_sem] max2_int min2_int max_two min_two max_three min_three max_four min_four
set_option linter.unusedVariables false
set_option linter.unusedSimpArgs false
def wheel_joined.l0 : Nat → List (S59) → List (S59) → Int → Int → Option ((List (S59)) × Int)
 |0, _, _, _, _ => none
 |k + 1, x4, x10, x11, x12 => if x12 < x11 then (if 0 ≤ x12 then (if x12 < (x10.length : Int) then (if (x4.length : Int) > 0 then (if 0 ≤ (wrap64 ((x4.length : Int) - 1)) then (if (wrap64 ((x4.length : Int) - 1)) < (x4.length : Int) then (if (wrap64 (((rd_T59 x4 (wrap64 ((x4.length : Int) - 1))).f1) + 1)) ≥ ((rd_T59 x10 x12).f0) then (wheel_joined.l0 k (x4.set ((wrap64 ((x4.length : Int) - 1)) : Int).toNat (⟨(rd_T59 x4 (wrap64 ((x4.length : Int) - 1))).f0, mx ((rd_T59 x4 (wrap64 ((x4.length : Int) - 1))).f1) ((rd_T59 x10 x12).f1)⟩ : S59)) x10 x11 (wrap64 (x12 + 1))) else (if x4.length < 8796093022208 then (wheel_joined.l0 k (x4 ++ [(⟨(rd_T59 x10 x12).f0, (rd_T59 x10 x12).f1⟩ : S59)]) x10 x11 (wrap64 (x12 + 1))) else (none))) else (none)) else (none)) else (if x4.length < 8796093022208 then (wheel_joined.l0 k (x4 ++ [(⟨(rd_T59 x10 x12).f0, (rd_T59 x10 x12).f1⟩ : S59)]) x10 x11 (wrap64 (x12 + 1))) else (none))) else (none)) else (none)) else (if (x4.length : Int) > 64 then (some (([] : List (S59)), 2)) else (some (x4, 0)))
def wheel_joined.f (k : Nat) (l0 : List (S59)) : Option ((List (S59)) × Int) := wheel_joined.l0 k ([] : List (S59)) l0 (l0.length : Int) 0
theorem wheel_joined.mono_l : ∀ k, (∀ y0 y1 y2 y3, LeO (wheel_joined.l0 k y0 y1 y2 y3) (wheel_joined.l0 (k + 1) y0 y1 y2 y3))
 |0 => fun _ _ _ _ r h => by simp [wheel_joined.l0] at h
 |k + 1 => by
  have ih0 := wheel_joined.mono_l k
  ·intro y0 y1 y2 y3
   unfold wheel_joined.l0
   repeat' first
   |(with_reducible exact ih0 _ _ _ _)
   |(with_reducible exact LeO.refl _)
   |(with_reducible exact LeO.none _)
   |(with_reducible refine LeO.ite ?_ ?_)
   |(with_reducible refine LeO.bind ?_ (fun _ => ?_))
   |exact ih0 _ _ _ _
   |exact LeO.none _
   |refine LeO.ite ?_ ?_
   |refine LeO.bind ?_ (fun _ => ?_)
theorem wheel_joined.mono : ∀ a0 k, LeO (wheel_joined.f k a0) (wheel_joined.f (k + 1) a0) := by
 intro a0 k
 have ih0 := wheel_joined.mono_l k
 unfold wheel_joined.f
 repeat' first
   |(with_reducible exact ih0 _ _ _ _)
   |(with_reducible exact LeO.refl _)
   |(with_reducible exact LeO.none _)
   |(with_reducible refine LeO.ite ?_ ?_)
   |(with_reducible refine LeO.bind ?_ (fun _ => ?_))
   |exact ih0 _ _ _ _
   |exact LeO.none _
   |refine LeO.ite ?_ ?_
   |refine LeO.bind ?_ (fun _ => ?_)
def wheel_joined.T7 : Bool × List (List Nat × List Nat) := (true, [([], []), ([0], [0]), ([1], [1]), ([2], [2]), ([2], [2]), ([4, 2], [2, 4]), ([3, 5, 2], [2, 3, 5]), ([6, 2], [2, 6]), ([7, 2], [2, 7]), ([8, 2], [2, 8]), ([2], [2]), ([10, 2], [2, 10]), ([9, 11, 2], [2, 9, 11]), ([2, 12], [2, 12])])
def wheel_joined.B7 : List Nat := [0, 1, 3, 7, 7, 23, 63, 127, 255, 511, 7, 1031, 4095, 8191]
theorem wheel_joined.tab7 : rtab .any (opsOf Tryz.f75 7) = wheel_joined.T7 := by kernel_rfl
theorem wheel_joined.bits7 : waitsOk wheel_joined.T7.2 wheel_joined.B7 = true := by kernel_rfl
def wheel_joined.T8 : Bool × List (List Nat × List Nat) := (true, [([], []), ([], []), ([1], [1]), ([], []), ([], []), ([4], [4]), ([3, 5], [3, 5]), ([6], [6]), ([7], [7]), ([], []), ([9], [9]), ([8, 10], [8, 10]), ([0, 2, 0, 1, 2, 3, 4, 5, 6, 7, 8, 9, 10, 11], [0, 2]), ([12, 0, 1, 2, 3, 4, 5, 6, 7, 8, 9, 10, 11], [12]), ([13, 11, 0, 1, 2, 3, 4, 5, 6, 7, 8, 9, 10, 11], [11, 13])])
def wheel_joined.B8 : List Nat := [0, 0, 2, 0, 0, 16, 56, 120, 248, 0, 512, 2040, 4095, 8191, 16383]
theorem wheel_joined.tab8 : rtab .any (opsOf Tryz.f75 8) = wheel_joined.T8 := by kernel_rfl
theorem wheel_joined.bits8 : waitsOk wheel_joined.T8.2 wheel_joined.B8 = true := by kernel_rfl
set_option maxHeartbeats 8000000 in
set_option maxRecDepth 100000 in
theorem wheel_joined.calls (k : Nat) (base : Nat) (ok : Nat → Prop) (v : Value) (l : List S59) (r1 : List S59) (r2 : Int) (wz : World) (hR0 : Kd.R k59 59 wz base ok v l) (hSp : ∀ s ∈ l, SpB s) (hn : l.length < 4611686018427387904) (hf : ∀ l', l'.Perm l → ByLo l' → wheel_joined.f k l' = some (r1, r2)) :
  Calls Tryz.prog 75 #[v] wz fun e w' => ∃ w, wz.grownBy w v.ownBlock ∧ ∃ v0_ : Value, e = .returned (.tuple #[v0_, .int .i64 r2]) ∧ Kd.R k59 59 w' w.heap.size (fun _ => True) v0_ r1 ∧ Below w.heap.size w w' := by
 have hu59 := Tryz.underlying59
 have hso := sort_spans cfSp ltSp 127 (enters_of Tryz.func127 (by kernel_rfl) rfl) cmpLays127 base ok v l wz hR0 hSp hn
 obtain ⟨A0, c0, rfl⟩ := Kd.R_slice hR0
 clear hR0 hSp hn
 have HF := Aside0.mk hf
 clear hf
 go_enter Tryz.func75, Tryz.ntmps75
 go_wp2_with (go_at_call 126; refine Calls.mono hso ?_; clear hso; rintro e w ⟨rfl, l0, hpm, hby, hRs, hg⟩; have hlen : l.length = l0.length := hpm.length_eq.symm; rw [hlen] at hRs hg ⊢; have HG := Aside0.mk hg; have HP := Aside0.mk hpm; have HY := Aside0.mk hby; have HR0 := Aside0.mk (Kd.R_reads' hRs).2.2; have HC0 := Aside0.mk (Kd.R_reads' hRs).2.1; have HL := Aside0.mk hlen; clear hRs hg hpm hby hlen)
 have HB := Aside0.mk (Below.refl w.heap.size w)
 have H : (wheel_joined.l0 k ([] : List (S59)) l0 (l0.length : Int) 0) = some (r1, r2) := HF.out l0 HP.out HY.out
 clear HF HP HY
 have H' := Aside0.mk H
 clear H
 go_loopg [4, 12] k (fun kq v4 v12 w' => ∃ (x4_1 : List (S59)) (x12_1 : Int), v12 = .int .i64 x12_1 ∧ Aside0 (wheel_joined.l0 kq x4_1 l0 (l0.length : Int) x12_1 = some (r1, r2)) ∧ Aside0 (kq ≤ k) ∧ Aside0 (Kd.R k59 59 w' w.heap.size (fun _ => True) v4 x4_1) ∧ Aside0 (Below w.heap.size w w'))
 case atStart => exact ⟨(([] : List (S59))), (0), (by first | rfl | (simp; done) | (simp [*]; done)), H', ⟨Nat.le_refl _⟩, ⟨by first | exact Kd.R_nil _ _ _ _ _ | exact Kd.N_nil _ _ _ _ _ | exact Kd.V_nil _ _ _ _ _ | exact Kd.Q_nil _ _ _ _ _ | exact Kd.S_nil _ _ _ _ _⟩, ⟨by repeat (first | (with_reducible first | exact HB.out | apply below_alloc | apply pw_below_drewN | apply below_drew1) | exact HB.out)⟩⟩
 case round =>
  clear H'
  obtain ⟨x4_1, x12_1, rfl, HA, HK1, HO_4, HB⟩ := hrel
  cases gk with
  |zero => exact absurd HA.out (by simp [wheel_joined.l0])
  |succ k1 =>
   have H := HA.out
   clear HA
   simp only [wheel_joined.l0] at H
   by_cases c2 : x12_1 < (l0.length : Int)
   ·rw [if_pos c2] at H
    have c2b0 : decide (x12_1 < (l0.length : Int)) = true := decide_eq_true c2
    clear c2
    by_cases c3 : 0 ≤ x12_1
    ·rw [if_pos c3] at H
     have c3b0 : decide (0 ≤ x12_1) = true := decide_eq_true c3
     clear c3
     by_cases c4 : x12_1 < (l0.length : Int)
     ·rw [if_pos c4] at H
      have c4b0 : decide (x12_1 < (l0.length : Int)) = true := decide_eq_true c4
      clear c4
      by_cases c5 : (x4_1.length : Int) > 0
      ·rw [if_pos c5] at H
       have c5b0 : decide (0 < (x4_1.length : Int)) = true := decide_eq_true c5
       have c5b1 : decide (0 < x4_1.length) = true := decide_eq_true (by omega)
       clear c5
       obtain ⟨ji6, hji6⟩ : ∃ j_ : Int, (wrap64 ((x4_1.length : Int) - 1)) = j_ := ⟨_, rfl⟩
       replace H : (if 0 ≤ (ji6) then (if (ji6) < (x4_1.length : Int) then (if (wrap64 (((rd_T59 x4_1 (ji6)).f1) + 1)) ≥ ((rd_T59 l0 x12_1).f0) then (wheel_joined.l0 k1 (x4_1.set ((ji6) : Int).toNat (⟨(rd_T59 x4_1 (ji6)).f0, mx ((rd_T59 x4_1 (ji6)).f1) ((rd_T59 l0 x12_1).f1)⟩ : S59)) l0 (l0.length : Int) (wrap64 (x12_1 + 1))) else (if x4_1.length < 8796093022208 then (wheel_joined.l0 k1 (x4_1 ++ [(⟨(rd_T59 l0 x12_1).f0, (rd_T59 l0 x12_1).f1⟩ : S59)]) l0 (l0.length : Int) (wrap64 (x12_1 + 1))) else (none))) else (none)) else (none)) = some (r1, r2) := by first | (rw [hji6] at H; exact H) | (simp only [hji6] at H ⊢; exact H)
       have hji6w : (IntKind.i64.wrap ((x4_1.length : Int) - 1)) = ji6 := (i64_w _).trans hji6
       by_cases c7 : 0 ≤ (ji6)
       ·rw [if_pos c7] at H
        have c7b0 : decide (0 ≤ (ji6)) = true := decide_eq_true c7
        clear c7
        by_cases c8 : (ji6) < (x4_1.length : Int)
        ·rw [if_pos c8] at H
         have c8b0 : decide ((ji6) < (x4_1.length : Int)) = true := decide_eq_true c8
         clear c8
         by_cases c9 : (wrap64 (((rd_T59 x4_1 (ji6)).f1) + 1)) ≥ ((rd_T59 l0 x12_1).f0)
         ·rw [if_pos c9] at H
          have c9b0 : decide (((rd_T59 l0 x12_1).f0) ≤ (wrap64 (((rd_T59 x4_1 (ji6)).f1) + 1))) = true := decide_eq_true c9
          clear c9
          obtain ⟨ji10, hji10⟩ : ∃ j_ : Int, (mx ((rd_T59 x4_1 (ji6)).f1) ((rd_T59 l0 x12_1).f1)) = j_ := ⟨_, rfl⟩
          replace H : (wheel_joined.l0 k1 (x4_1.set ((ji6) : Int).toNat (⟨(rd_T59 x4_1 (ji6)).f0, ji10⟩ : S59)) l0 (l0.length : Int) (wrap64 (x12_1 + 1))) = some (r1, r2) := by first | (rw [hji10] at H; exact H) | (simp only [hji10] at H ⊢; exact H)
          have hji10_ : (if ((rd_T59 x4_1 (ji6)).f1) < ((rd_T59 l0 x12_1).f1) then ((rd_T59 l0 x12_1).f1) else ((rd_T59 x4_1 (ji6)).f1)) = ji10 := hji10
          obtain ⟨y105, hy105⟩ : ∃ y_ : List (S59), y_ = (x4_1.set ((ji6) : Int).toNat (⟨(rd_T59 x4_1 (ji6)).f0, ji10⟩ : S59)) := ⟨_, rfl⟩
          replace H : (wheel_joined.l0 k1 y105 l0 (l0.length : Int) (wrap64 (x12_1 + 1))) = some (r1, r2) := by first | (rw [hy105]; with_reducible exact H) | (have H2_ := (Option.bind_some _ _).symm.trans H; rw [hy105]; with_reducible exact H2_) | (have H2_ := (Option.bind_some _ _).symm.trans H; with_reducible exact H2_) | with_reducible exact H | (rw [hy105]; exact H) | exact H
          have Ny105 := Aside0.mk hy105
          clear hy105
          have H' := Aside0.mk H
          clear H
          have p101 : 0 ≤ (x12_1 : Int) := of_decide_eq_true aq
          have q101 : x12_1 < (l0.length : Int) := of_decide_eq_true aq
          obtain ⟨ad101, e101, hx101_0, hx101_1⟩ := at_T59 HR0.out x12_1 p101 q101
          cases e101
          replace hx101_0 := (HB.out.cell (World.block_lt_of_cell? w _ hx101_0)).trans hx101_0
          replace hx101_1 := (HB.out.cell (World.block_lt_of_cell? w _ hx101_1)).trans hx101_1
          replace p101 := eq_true p101
          replace q101 := eq_true q101
          try go_wp2_with (first | ((with_reducible refine gate_dst (N := 6) rfl ?_); refine box_event ?hg (N := 6) ?hd (cs := #[.int .i64 0, .int .i64 0]) (t := 59) ?hr ?_; (case hd => rfl); (case hg => rfl); (case hr => first | (go_simp; done) | (go_simp; rfl)); intro gb102 hg w12 hbox hb; have n0_ := Aside0.mk (Kd.R_below (Kd.R_elderB (rq HO_4.out) gb102 (Nat.le_of_eq hg.symm)) hb); have n1_ := Aside0.mk (below_step (bw HB.out) hb); have n2_ := Aside0.mk (hbox); have n3_ := Aside0.mk ((by rw [hg]; exact (below_size (bw HB.out)) : w.heap.size ≤ gb102)); have n4_ := Aside0.mk ((by rw [hg]; exact (below_size (bw HB.out)) : w.heap.size ≤ gb102)); clear HO_4; clear HB; have HO_4 := n0_; have HB := n1_; have BK102 := n2_; have GW102 := n3_; have GE102 := n4_; clear n0_ n1_ n2_ n3_ n4_; clear hb hbox hg; have hcz13_0 : w12.cell? ⟨gb102, 0, none⟩ = some (.int .i64 0) := (blk_cell BK102.out 0).trans rfl; have hcz13_1 : w12.cell? ⟨gb102, 1, none⟩ = some (.int .i64 0) := (blk_cell BK102.out 1).trans rfl; have hfz13_0 := blk_frozen BK102.out 0; have hfz13_1 := blk_frozen BK102.out 1; obtain ⟨Ao14, co14, eo14⟩ := Kd.R_slice HO_4.out; subst eo14))
          have n0_ : Aside0 (Kd.R k59 59 ((w12.setCell ⟨gb102, 0, none⟩ (.int .i64 ((rd_T59 l0 x12_1).f0))).setCell ⟨gb102, 1, none⟩ (.int .i64 ((rd_T59 l0 x12_1).f1))) w.heap.size (fun k_ => k_ ≠ gb102) (.slice Ao14 x4_1.length co14) x4_1) := ⟨by (with_reducible repeat (first | apply Kd.R_alloc | apply Kd.R_drewN | apply Kd.R_drew)); exact Kd.R_mono (Kd.R_far (p := ⟨gb102, 1, none⟩) (Kd.R_far (p := ⟨gb102, 0, none⟩) (Kd.R_mono HO_4.out (fun k_ hk => (⟨hk, hk.2⟩ : _ ∧ k_ ≠ gb102))) (fun _ hk => hk.2) (.int .i64 ((rd_T59 l0 x12_1).f0))) (fun _ hk => hk.2) (.int .i64 ((rd_T59 l0 x12_1).f1))) (fun _ hk => hk.1.2)⟩
          have n1_ : Aside0 (((w12.setCell ⟨gb102, 0, none⟩ (.int .i64 ((rd_T59 l0 x12_1).f0))).setCell ⟨gb102, 1, none⟩ (.int .i64 ((rd_T59 l0 x12_1).f1))).heap[gb102]? = some (.cells #[.int .i64 ((rd_T59 l0 x12_1).f0), .int .i64 ((rd_T59 l0 x12_1).f1)] 59 (0, 0))) := ⟨by (with_reducible repeat (first | refine blk_drewN ?_ _ | refine blk_drew ?_ | refine blk_alloc ?_ _)); refine blk_put (cs := #[.int .i64 ((rd_T59 l0 x12_1).f0), .int .i64 0]) ?_ 1 _ rfl; (with_reducible repeat (first | refine blk_drewN ?_ _ | refine blk_drew ?_ | refine blk_alloc ?_ _)); refine blk_put (cs := #[.int .i64 0, .int .i64 0]) ?_ 0 _ rfl; (with_reducible repeat (first | refine blk_drewN ?_ _ | refine blk_drew ?_ | refine blk_alloc ?_ _)); exact BK102.out⟩
          have n2_ : Aside0 (Below w.heap.size w ((w12.setCell ⟨gb102, 0, none⟩ (.int .i64 ((rd_T59 l0 x12_1).f0))).setCell ⟨gb102, 1, none⟩ (.int .i64 ((rd_T59 l0 x12_1).f1)))) := ⟨by repeat (first | (with_reducible first | exact HB.out | apply below_alloc | apply pw_below_drewN | apply below_drew1 | refine below_set ?_ GE102.out) | exact HB.out)⟩
          (try clear HO_4)
          (try clear BK102)
          (try clear HB)
          generalize ((w12.setCell ⟨gb102, 0, none⟩ (.int .i64 ((rd_T59 l0 x12_1).f0))).setCell ⟨gb102, 1, none⟩ (.int .i64 ((rd_T59 l0 x12_1).f1))) = w15 at n0_ n1_ n2_ ⊢
          have HO_4 := n0_
          have BK102 := n1_
          have HB := n2_
          clear n0_ n1_ n2_
          have n0_ := Aside0.mk (Kd.R_drew HO_4.out)
          have n1_ := Aside0.mk (blk_drew BK102.out)
          have n2_ := Aside0.mk (below_drew1 HB.out)
          clear HO_4
          clear BK102
          clear HB
          have HO_4 := n0_
          have BK102 := n1_
          have HB := n2_
          clear n0_ n1_ n2_
          have p103 : 0 ≤ ((ji6) : Int) := of_decide_eq_true aq
          have q103 : (ji6) < (x4_1.length : Int) := of_decide_eq_true aq
          obtain ⟨ad103, e103, hx103_0, hx103_1⟩ := at_T59 (Kd.R_reads' HO_4.out).2.2 (ji6) p103 q103
          cases e103
          replace p103 := eq_true p103
          replace q103 := eq_true q103
          refine start_ (n := 14) (S := fun w' => w'.cell? ⟨gb102, 0, none⟩ = some (.int .i64 ((rd_T59 l0 x12_1).f0)) ∧ w'.cell? ⟨gb102, 1, none⟩ = some (.int .i64 ((rd_T59 l0 x12_1).f1)) ∧ w'.cell? (ad103.add (((ji6)).toNat * 2)) = some (.int .i64 ((rd_T59 x4_1 (ji6)).f0)) ∧ w'.cell? ⟨(ad103.add (((ji6)).toNat * 2)).block, (ad103.add (((ji6)).toNat * 2)).off + 1, none⟩ = some (.int .i64 ((rd_T59 x4_1 (ji6)).f1))) (ds := []) #[false, false, false, false, false, false, false, false, false, false, false, false, false, false] (by kernel_rfl) rfl rfl ⟨(blk_cell BK102.out 0).trans rfl, (blk_cell BK102.out 1).trans rfl, hx103_0, hx103_1⟩ (fun hHeld => ?_); refine with_tabW wheel_joined.tab7 wheel_joined.bits7 (fun HT_ HW_ => ?_)
          generalize w15.drew = w16 at HO_4 BK102 HB hx103_0 hx103_1 hHeld ⊢
          refine pure_ (i := 0) (N := some 18) (v := ?_) (a' := ?_) #[true, false, false, false, false, false, false, false, false, false, false, false, false, false] rfl rfl (any_of HT_.out (by kernel_rfl)) (fun _ _ _ h => h) (Or.inl ⟨by rfl, ?_⟩) ?_ ?_
          rotate_left
          ·intro w'
           go_simp
           with_reducible rfl
          rotate_left
          ·simp only [pq]
           rfl
          refine pure_ (i := 1) (N := some 19) (v := ?_) (a' := ?_) #[true, true, false, false, false, false, false, false, false, false, false, false, false, false] rfl rfl (any_of HT_.out (by kernel_rfl)) (fun _ _ _ h => h) (Or.inl ⟨by rfl, ?_⟩) ?_ ?_
          rotate_left
          ·intro w'
           go_simp
           with_reducible rfl
          rotate_left
          ·simp only [pq]
           rfl
          refine pure_ (i := 2) (N := some 20) (v := ?_) (a' := ?_) #[true, true, true, false, false, false, false, false, false, false, false, false, false, false] rfl rfl (any_of HT_.out (by kernel_rfl)) (fun _ _ _ h => h) (Or.inl ⟨by rfl, ?_⟩) ?_ ?_
          rotate_left
          ·intro w'
           go_simp
           with_reducible rfl
          rotate_left
          ·simp only [pq]
           rfl
          refine pure_ (i := 3) (N := some 21) (v := ?_) (a' := ?_) #[true, true, true, true, false, false, false, false, false, false, false, false, false, false] rfl rfl (any_of HT_.out (by kernel_rfl)) (fun _ _ _ h => h) (Or.inl ⟨by rfl, ?_⟩) ?_ ?_
          rotate_left
          ·intro w'
           go_simp
           with_reducible rfl
          rotate_left
          ·simp only [pq]
           rfl
          refine pure_ (i := 4) (N := some 22) (v := ?_) (a' := ?_) #[true, true, true, true, true, false, false, false, false, false, false, false, false, false] rfl rfl (any_of HT_.out (by kernel_rfl)) (fun _ _ _ h => h) (Or.inl ⟨by rfl, ?_⟩) ?_ ?_
          rotate_left
          ·intro w'
           go_simp
           with_reducible rfl
          rotate_left
          ·simp only [pq]
           rfl
          refine pure_ (i := 5) (N := some 23) (v := ?_) (a' := ?_) #[true, true, true, true, true, true, false, false, false, false, false, false, false, false] rfl rfl (any_of HT_.out (by kernel_rfl)) (fun _ _ _ h => h) (Or.inl ⟨by rfl, ?_⟩) ?_ ?_
          rotate_left
          ·intro w'
           go_simp
           with_reducible rfl
          rotate_left
          ·simp only [pq]
           rfl
          refine pure_ (i := 6) (N := some 24) (v := ?_) (a' := ?_) #[true, true, true, true, true, true, true, false, false, false, false, false, false, false] rfl rfl (any_of HT_.out (by kernel_rfl)) (fun _ _ _ h => h) (Or.inl ⟨by rfl, ?_⟩) ?_ ?_
          rotate_left
          ·intro w'
           go_simp
           with_reducible rfl
          rotate_left
          ·simp only [pq]
           rfl
          refine pure_ (i := 7) (N := some 25) (v := ?_) (a' := ?_) #[true, true, true, true, true, true, true, true, false, false, false, false, false, false] rfl rfl (any_of HT_.out (by kernel_rfl)) (fun _ _ _ h => h) (Or.inl ⟨by rfl, ?_⟩) ?_ ?_
          rotate_left
          ·intro w'
           go_simp
           with_reducible rfl
          rotate_left
          ·simp only [pq]
           rfl
          refine pure_ (i := 10) (N := some 28) (v := ?_) (a' := ?_) #[true, true, true, true, true, true, true, true, false, false, true, false, false, false] rfl rfl (any_of HT_.out (by kernel_rfl)) (fun _ _ _ h => h) (Or.inl ⟨by rfl, ?_⟩) ?_ ?_
          rotate_left
          ·intro w'
           go_simp
           with_reducible rfl
          rotate_left
          ·simp only [pq]
           rfl
          refine take_ (i := 8) (N := some 26) (v := ?_) (a' := ?_) #[true, true, true, true, true, true, true, true, true, false, true, false, false, false] rfl rfl (take_ofW HT_.out HW_.out (by kernel_rfl)) (fun _ _ _ h => h) (Or.inl ⟨by rfl, ?_⟩) hHeld ?_ ?_
          rotate_left
          ·rintro w' ⟨s0, s1, s2, s3⟩
           go_simp
           with_reducible rfl
          rotate_left
          ·simp only [pq]
           rfl
          refine pure_ (i := 9) (N := some 27) (v := ?_) (a' := ?_) #[true, true, true, true, true, true, true, true, true, true, true, false, false, false] rfl rfl (any_of HT_.out (by kernel_rfl)) (fun _ _ _ h => h) (Or.inl ⟨by rfl, ?_⟩) ?_ ?_
          rotate_left
          ·intro w'
           go_simp
           with_reducible rfl
          rotate_left
          ·simp only [pq]
           rfl
          refine take_ (i := 11) (N := some 29) (v := ?_) (a' := ?_) #[true, true, true, true, true, true, true, true, true, true, true, true, false, false] rfl rfl (take_ofW HT_.out HW_.out (by kernel_rfl)) (fun _ _ _ h => h) (Or.inl ⟨by rfl, ?_⟩) hHeld ?_ ?_
          rotate_left
          ·rintro w' ⟨s0, s1, s2, s3⟩
           go_simp
           with_reducible rfl
          rotate_left
          ·simp only [pq]
           rfl
          refine pure_ (i := 12) (N := some 30) (v := ?_) (a' := ?_) #[true, true, true, true, true, true, true, true, true, true, true, true, true, false] rfl rfl (any_of HT_.out (by kernel_rfl)) (fun _ _ _ h => h) (Or.inl ⟨by rfl, ?_⟩) ?_ ?_
          rotate_left
          ·intro w'
           go_simp
           with_reducible rfl
          rotate_left
          ·simp only [pq]
           rfl
          refine pure_ (i := 13) (N := some 31) (v := ?_) (a' := ?_) #[true, true, true, true, true, true, true, true, true, true, true, true, true, true] rfl rfl (any_of HT_.out (by kernel_rfl)) (fun _ _ _ h => h) (Or.inl ⟨by rfl, ?_⟩) ?_ ?_
          rotate_left
          ·intro w'
           go_simp
           with_reducible rfl
          rotate_left
          ·simp only [pq]
           rfl
          refine done_ (done_of HT_.out (by kernel_rfl)) ?_
          try go_wp2
          have n0_ := Aside0.mk (Kd.R_drew HO_4.out)
          have n1_ := Aside0.mk (blk_drew BK102.out)
          have n2_ := Aside0.mk (below_drew1 HB.out)
          clear HO_4
          clear BK102
          clear HB
          have HO_4 := n0_
          have BK102 := n1_
          have HB := n2_
          clear n0_ n1_ n2_
          have p104 : 0 ≤ ((ji6) : Int) := of_decide_eq_true aq
          have q104 : (ji6) < (x4_1.length : Int) := of_decide_eq_true aq
          obtain ⟨ad104, e104, hx104_0, hx104_1⟩ := at_T59 (Kd.R_reads' HO_4.out).2.2 (ji6) p104 q104
          obtain rfl : ad103 = ad104 := (by injection e104)
          replace p104 := eq_true p104
          replace q104 := eq_true q104
          have p11 : 0 ≤ ((ji6) : Int) := of_decide_eq_true aq
          have q11 : ((ji6) : Int) < ((x4_1.length : Int) : Int) := of_decide_eq_true aq
          obtain ⟨go11, co11, eo11, gb11, gl11, cl11, HG11⟩ := Kd.R_form HO_4.out (by omega)
          (first | cases eo11 | (injection eo11 with ea_ en_ ec_; (first | subst ea_ | (injection ea_ with ea_; subst ea_)); subst ec_; clear en_))
          have GB11 := Aside0.mk gb11
          have GG11 := Aside0.mk HG11
          clear gb11 gl11 HG11
          (first | simp only [add_plain] at hx103_0 | skip)
          (first | simp only [add_plain] at hx103_1 | skip)
          (first | simp only [add_plain] at hx104_0 | skip)
          (first | simp only [add_plain] at hx104_1 | skip)
          obtain ⟨ce11, hcl11, hM11, hcc11, hfr11⟩ := Kd.R_elem HO_4.out z59 ((ji6) : Int) p11 q11
          obtain rfl := k59_openM hM11
          have hx11_0 : World.cell? _ ⟨go11, ((ji6) : Int).toNat * 2, none⟩ = some (.int .i64 ((rd_T59 x4_1 (ji6)).f0)) := hcc11 0 _ rfl
          have hx11_1 : World.cell? _ ⟨go11, ((ji6) : Int).toNat * 2 + 1, none⟩ = some (.int .i64 ((rd_T59 x4_1 (ji6)).f1)) := hcc11 1 _ rfl
          have hf11_0 : World.frozen? _ ⟨go11, ((ji6) : Int).toNat * 2, none⟩ = false := hfr11 0
          have hf11_1 : World.frozen? _ ⟨go11, ((ji6) : Int).toNat * 2 + 1, none⟩ = false := hfr11 1
          clear hcl11 hcc11 hfr11 hM11
          replace p11 := eq_true p11
          replace q11 := eq_true q11
          obtain ⟨ce18, hcl18, hM18, hcc18, hfr18⟩ := Kd.R_elem HO_4.out z59 ((ji6) : Int) (of_decide_eq_true aq) (by have h_ : ((ji6) : Int) < ((x4_1.length : Int) : Int) := of_decide_eq_true aq; first | exact h_ | (have e_ := (Kd.R_reads' HO_4.out).1; omega) | simpa using h_)
          obtain rfl := k59_openM hM18
          have HP18 := (Kd.R_seg HO_4.out ((ji6) : Int) (of_decide_eq_true aq) (by have h_ : ((ji6) : Int) < ((x4_1.length : Int) : Int) := of_decide_eq_true aq; first | exact h_ | (have e_ := (Kd.R_reads' HO_4.out).1; omega) | simpa using h_) (seg := [.int .i64 ji10]) (j := 1) hcl18 hcc18 (show 2 ≤ 2 from by decide) (x' := (⟨(rd_T59 x4_1 (ji6)).f0, ji10⟩ : S59)) (k59_mkM _ _ _ (⟨(rd_T59 x4_1 (ji6)).f0, ji10⟩ : S59) ) (fun _ hk => hk)).1
          rw [← Ny105.out] at HP18
          have HQ18 := Aside0.mk HP18
          clear hcl18 hcc18 hfr18 hM18 HP18
          refine start_ (n := 15) (S := fun w' => w'.cell? ⟨gb102, 0, none⟩ = some (.int .i64 ((rd_T59 l0 x12_1).f0)) ∧ w'.cell? ⟨gb102, 1, none⟩ = some (.int .i64 ((rd_T59 l0 x12_1).f1)) ∧ w'.cell? ⟨go11, ((ji6)).toNat * 2, none⟩ = some (.int .i64 ((rd_T59 x4_1 (ji6)).f0)) ∧ w'.cell? ⟨go11, ((ji6)).toNat * 2 + 1, none⟩ = some (.int .i64 ((rd_T59 x4_1 (ji6)).f1))) (ds := [14]) #[false, false, false, false, false, false, false, false, false, false, false, false, false, false, false] (by kernel_rfl) rfl rfl ⟨(blk_cell BK102.out 0).trans rfl, (blk_cell BK102.out 1).trans rfl, hx104_0, hx104_1⟩ (fun hHeld => ?_); refine with_tabW wheel_joined.tab8 wheel_joined.bits8 (fun HT_ HW_ => ?_)
          generalize w16.drew = w17 at HO_4 BK102 HB GG11 HQ18 hf11_0 hf11_1 hx103_0 hx103_1 hx104_0 hx104_1 hx11_0 hx11_1 hHeld ⊢
          refine pure_ (i := 0) (N := some 32) (v := ?_) (a' := ?_) #[true, false, false, false, false, false, false, false, false, false, false, false, false, false, false] rfl rfl (any_of HT_.out (by kernel_rfl)) (fun _ _ _ h => h) (Or.inl ⟨by rfl, ?_⟩) ?_ ?_
          rotate_left
          ·intro w'
           go_simp
           with_reducible rfl
          rotate_left
          ·simp only [pq]
           rfl
          refine pure_ (i := 1) (N := some 33) (v := ?_) (a' := ?_) #[true, true, false, false, false, false, false, false, false, false, false, false, false, false, false] rfl rfl (any_of HT_.out (by kernel_rfl)) (fun _ _ _ h => h) (Or.inl ⟨by rfl, ?_⟩) ?_ ?_
          rotate_left
          ·intro w'
           go_simp
           with_reducible rfl
          rotate_left
          ·simp only [pq]
           rfl
          refine pure_ (i := 2) (N := some 34) (v := ?_) (a' := ?_) #[true, true, true, false, false, false, false, false, false, false, false, false, false, false, false] rfl rfl (any_of HT_.out (by kernel_rfl)) (fun _ _ _ h => h) (Or.inl ⟨by rfl, ?_⟩) ?_ ?_
          rotate_left
          ·intro w'
           go_simp
           with_reducible rfl
          rotate_left
          ·simp only [pq]
           rfl
          refine pure_ (i := 3) (N := some 35) (v := ?_) (a' := ?_) #[true, true, true, true, false, false, false, false, false, false, false, false, false, false, false] rfl rfl (any_of HT_.out (by kernel_rfl)) (fun _ _ _ h => h) (Or.inl ⟨by rfl, ?_⟩) ?_ ?_
          rotate_left
          ·intro w'
           go_simp
           with_reducible rfl
          rotate_left
          ·simp only [pq]
           rfl
          refine pure_ (i := 4) (N := some 36) (v := ?_) (a' := ?_) #[true, true, true, true, true, false, false, false, false, false, false, false, false, false, false] rfl rfl (any_of HT_.out (by kernel_rfl)) (fun _ _ _ h => h) (Or.inl ⟨by rfl, ?_⟩) ?_ ?_
          rotate_left
          ·intro w'
           go_simp
           with_reducible rfl
          rotate_left
          ·simp only [pq]
           rfl
          refine pure_ (i := 5) (N := some 37) (v := ?_) (a' := ?_) #[true, true, true, true, true, true, false, false, false, false, false, false, false, false, false] rfl rfl (any_of HT_.out (by kernel_rfl)) (fun _ _ _ h => h) (Or.inl ⟨by rfl, ?_⟩) ?_ ?_
          rotate_left
          ·intro w'
           go_simp
           with_reducible rfl
          rotate_left
          ·simp only [pq]
           rfl
          refine pure_ (i := 6) (N := some 38) (v := ?_) (a' := ?_) #[true, true, true, true, true, true, true, false, false, false, false, false, false, false, false] rfl rfl (any_of HT_.out (by kernel_rfl)) (fun _ _ _ h => h) (Or.inl ⟨by rfl, ?_⟩) ?_ ?_
          rotate_left
          ·intro w'
           go_simp
           with_reducible rfl
          rotate_left
          ·simp only [pq]
           rfl
          refine pure_ (i := 7) (N := some 39) (v := ?_) (a' := ?_) #[true, true, true, true, true, true, true, true, false, false, false, false, false, false, false] rfl rfl (any_of HT_.out (by kernel_rfl)) (fun _ _ _ h => h) (Or.inl ⟨by rfl, ?_⟩) ?_ ?_
          rotate_left
          ·intro w'
           go_simp
           with_reducible rfl
          rotate_left
          ·simp only [pq]
           rfl
          refine pure_ (i := 9) (N := some 41) (v := ?_) (a' := ?_) #[true, true, true, true, true, true, true, true, false, true, false, false, false, false, false] rfl rfl (any_of HT_.out (by kernel_rfl)) (fun _ _ _ h => h) (Or.inl ⟨by rfl, ?_⟩) ?_ ?_
          rotate_left
          ·intro w'
           go_simp
           with_reducible rfl
          rotate_left
          ·simp only [pq]
           rfl
          refine take_ (i := 8) (N := some 40) (v := ?_) (a' := ?_) #[true, true, true, true, true, true, true, true, true, true, false, false, false, false, false] rfl rfl (take_ofW HT_.out HW_.out (by kernel_rfl)) (fun _ _ _ h => h) (Or.inl ⟨by rfl, ?_⟩) hHeld ?_ ?_
          rotate_left
          ·rintro w' ⟨s0, s1, s2, s3⟩
           go_simp
           with_reducible rfl
          rotate_left
          ·simp only [pq]
           rfl
          refine take_ (i := 10) (N := some 42) (v := ?_) (a' := ?_) #[true, true, true, true, true, true, true, true, true, true, true, false, false, false, false] rfl rfl (take_ofW HT_.out HW_.out (by kernel_rfl)) (fun _ _ _ h => h) (Or.inl ⟨by rfl, ?_⟩) hHeld ?_ ?_
          rotate_left
          ·rintro w' ⟨s0, s1, s2, s3⟩
           go_simp
           with_reducible rfl
          rotate_left
          ·simp only [pq]
           rfl
          refine pure_ (i := 11) (N := some 43) (v := ?_) (a' := ?_) #[true, true, true, true, true, true, true, true, true, true, true, true, false, false, false] rfl rfl (any_of HT_.out (by kernel_rfl)) (fun _ _ _ h => h) (Or.inl ⟨by rfl, ?_⟩) ?_ ?_
          rotate_left
          ·intro w'
           go_simp
           with_reducible rfl
          rotate_left
          ·simp only [pq]
           rfl
          refine pure_ (i := 12) (N := some 44) (v := ?_) (a' := ?_) #[true, true, true, true, true, true, true, true, true, true, true, true, true, false, false] rfl rfl (any_of HT_.out (by kernel_rfl)) (fun _ _ _ h => h) (Or.inl ⟨by rfl, ?_⟩) ?_ ?_
          rotate_left
          ·intro w'
           go_simp
           with_reducible rfl
          rotate_left
          ·simp only [pq]
           rfl
          refine pure_ (i := 13) (N := some 45) (v := ?_) (a' := ?_) #[true, true, true, true, true, true, true, true, true, true, true, true, true, true, false] rfl rfl (any_of HT_.out (by kernel_rfl)) (fun _ _ _ h => h) (Or.inl ⟨by rfl, ?_⟩) ?_ ?_
          rotate_left
          ·intro w'
           go_simp
           with_reducible rfl
          rotate_left
          ·simp only [pq]
           rfl
          refine last_ (i := 14) (N := none) #[true, true, true, true, true, true, true, true, true, true, true, true, true, true, true] rfl rfl (one_of HT_.out (by kernel_rfl)) (by decide) (fun K hK => ?_)
          refine skip_ (w1 := ?_) (by rfl) rfl ?_ ?_
          rotate_left
          ·go_simp
           rfl
          refine hK.out _ _ ?_
          clear hK K
          refine done_ (done_of HT_.out (by kernel_rfl)) ?_
          try go_wp2
          go_roundg k1
          case measure => have := HK1.out; omega
          case rel => exact ⟨(y105), (wrap64 (x12_1 + 1)), (by first | rfl | (simp; done) | (simp [*]; done)), H', ⟨by have := HK1.out; omega⟩, ⟨by (with_reducible repeat (first | apply Kd.R_alloc | apply Kd.R_drewN | apply Kd.R_drew)); exact Kd.R_mono HQ18.out (fun _ hk => trivial)⟩, ⟨by repeat (first | (with_reducible first | exact HB.out | apply below_alloc | apply pw_below_drewN | apply below_drew1 | refine below_set ?_ GB11.out | refine below_set ?_ GE102.out) | exact HB.out)⟩⟩
         ·rw [if_neg c9] at H
          have c9b0 : decide (((rd_T59 l0 x12_1).f0) ≤ (wrap64 (((rd_T59 x4_1 (ji6)).f1) + 1))) = false := decide_eq_false c9
          clear c9
          by_cases c19 : x4_1.length < 8796093022208
          ·rw [if_pos c19] at H
           have LMc19 := Aside0.mk c19
           clear c19
           obtain ⟨y106, hy106⟩ : ∃ y_ : List (S59), y_ = (x4_1 ++ [(⟨(rd_T59 l0 x12_1).f0, (rd_T59 l0 x12_1).f1⟩ : S59)]) := ⟨_, rfl⟩
           replace H : (wheel_joined.l0 k1 y106 l0 (l0.length : Int) (wrap64 (x12_1 + 1))) = some (r1, r2) := by first | (rw [hy106]; with_reducible exact H) | (have H2_ := (Option.bind_some _ _).symm.trans H; rw [hy106]; with_reducible exact H2_) | (have H2_ := (Option.bind_some _ _).symm.trans H; with_reducible exact H2_) | with_reducible exact H | (rw [hy106]; exact H) | exact H
           have Ny106 := Aside0.mk hy106
           clear hy106
           have H' := Aside0.mk H
           clear H
           have p101 : 0 ≤ (x12_1 : Int) := of_decide_eq_true aq
           have q101 : x12_1 < (l0.length : Int) := of_decide_eq_true aq
           obtain ⟨ad101, e101, hx101_0, hx101_1⟩ := at_T59 HR0.out x12_1 p101 q101
           cases e101
           replace hx101_0 := (HB.out.cell (World.block_lt_of_cell? w _ hx101_0)).trans hx101_0
           replace hx101_1 := (HB.out.cell (World.block_lt_of_cell? w _ hx101_1)).trans hx101_1
           replace p101 := eq_true p101
           replace q101 := eq_true q101
           try go_wp2_with (first | ((with_reducible refine gate_dst (N := 6) rfl ?_); refine box_event ?hg (N := 6) ?hd (cs := #[.int .i64 0, .int .i64 0]) (t := 59) ?hr ?_; (case hd => rfl); (case hg => rfl); (case hr => first | (go_simp; done) | (go_simp; rfl)); intro gb102 hg w20 hbox hb; have n0_ := Aside0.mk (Kd.R_below (Kd.R_elderB (rq HO_4.out) gb102 (Nat.le_of_eq hg.symm)) hb); have n1_ := Aside0.mk (below_step (bw HB.out) hb); have n2_ := Aside0.mk (hbox); have n3_ := Aside0.mk ((by rw [hg]; exact (below_size (bw HB.out)) : w.heap.size ≤ gb102)); have n4_ := Aside0.mk ((by rw [hg]; exact (below_size (bw HB.out)) : w.heap.size ≤ gb102)); clear HO_4; clear HB; have HO_4 := n0_; have HB := n1_; have BK102 := n2_; have GW102 := n3_; have GE102 := n4_; clear n0_ n1_ n2_ n3_ n4_; clear hb hbox hg; have hcz21_0 : w20.cell? ⟨gb102, 0, none⟩ = some (.int .i64 0) := (blk_cell BK102.out 0).trans rfl; have hcz21_1 : w20.cell? ⟨gb102, 1, none⟩ = some (.int .i64 0) := (blk_cell BK102.out 1).trans rfl; have hfz21_0 := blk_frozen BK102.out 0; have hfz21_1 := blk_frozen BK102.out 1; obtain ⟨Ao22, co22, eo22⟩ := Kd.R_slice HO_4.out; subst eo22))
           have n0_ : Aside0 (Kd.R k59 59 ((w20.setCell ⟨gb102, 0, none⟩ (.int .i64 ((rd_T59 l0 x12_1).f0))).setCell ⟨gb102, 1, none⟩ (.int .i64 ((rd_T59 l0 x12_1).f1))) w.heap.size (fun k_ => k_ ≠ gb102) (.slice Ao22 x4_1.length co22) x4_1) := ⟨by (with_reducible repeat (first | apply Kd.R_alloc | apply Kd.R_drewN | apply Kd.R_drew)); exact Kd.R_mono (Kd.R_far (p := ⟨gb102, 1, none⟩) (Kd.R_far (p := ⟨gb102, 0, none⟩) (Kd.R_mono HO_4.out (fun k_ hk => (⟨hk, hk.2⟩ : _ ∧ k_ ≠ gb102))) (fun _ hk => hk.2) (.int .i64 ((rd_T59 l0 x12_1).f0))) (fun _ hk => hk.2) (.int .i64 ((rd_T59 l0 x12_1).f1))) (fun _ hk => hk.1.2)⟩
           have n1_ : Aside0 (((w20.setCell ⟨gb102, 0, none⟩ (.int .i64 ((rd_T59 l0 x12_1).f0))).setCell ⟨gb102, 1, none⟩ (.int .i64 ((rd_T59 l0 x12_1).f1))).heap[gb102]? = some (.cells #[.int .i64 ((rd_T59 l0 x12_1).f0), .int .i64 ((rd_T59 l0 x12_1).f1)] 59 (0, 0))) := ⟨by (with_reducible repeat (first | refine blk_drewN ?_ _ | refine blk_drew ?_ | refine blk_alloc ?_ _)); refine blk_put (cs := #[.int .i64 ((rd_T59 l0 x12_1).f0), .int .i64 0]) ?_ 1 _ rfl; (with_reducible repeat (first | refine blk_drewN ?_ _ | refine blk_drew ?_ | refine blk_alloc ?_ _)); refine blk_put (cs := #[.int .i64 0, .int .i64 0]) ?_ 0 _ rfl; (with_reducible repeat (first | refine blk_drewN ?_ _ | refine blk_drew ?_ | refine blk_alloc ?_ _)); exact BK102.out⟩
           have n2_ : Aside0 (Below w.heap.size w ((w20.setCell ⟨gb102, 0, none⟩ (.int .i64 ((rd_T59 l0 x12_1).f0))).setCell ⟨gb102, 1, none⟩ (.int .i64 ((rd_T59 l0 x12_1).f1)))) := ⟨by repeat (first | (with_reducible first | exact HB.out | apply below_alloc | apply pw_below_drewN | apply below_drew1 | refine below_set ?_ GE102.out) | exact HB.out)⟩
           (try clear HO_4)
           (try clear BK102)
           (try clear HB)
           generalize ((w20.setCell ⟨gb102, 0, none⟩ (.int .i64 ((rd_T59 l0 x12_1).f0))).setCell ⟨gb102, 1, none⟩ (.int .i64 ((rd_T59 l0 x12_1).f1))) = w23 at n0_ n1_ n2_ ⊢
           have HO_4 := n0_
           have BK102 := n1_
           have HB := n2_
           clear n0_ n1_ n2_
           have n0_ := Aside0.mk (Kd.R_drew HO_4.out)
           have n1_ := Aside0.mk (blk_drew BK102.out)
           have n2_ := Aside0.mk (below_drew1 HB.out)
           clear HO_4
           clear BK102
           clear HB
           have HO_4 := n0_
           have BK102 := n1_
           have HB := n2_
           clear n0_ n1_ n2_
           have p103 : 0 ≤ ((ji6) : Int) := of_decide_eq_true aq
           have q103 : (ji6) < (x4_1.length : Int) := of_decide_eq_true aq
           obtain ⟨ad103, e103, hx103_0, hx103_1⟩ := at_T59 (Kd.R_reads' HO_4.out).2.2 (ji6) p103 q103
           cases e103
           replace p103 := eq_true p103
           replace q103 := eq_true q103
           refine start_ (n := 14) (S := fun w' => w'.cell? ⟨gb102, 0, none⟩ = some (.int .i64 ((rd_T59 l0 x12_1).f0)) ∧ w'.cell? ⟨gb102, 1, none⟩ = some (.int .i64 ((rd_T59 l0 x12_1).f1)) ∧ w'.cell? (ad103.add (((ji6)).toNat * 2)) = some (.int .i64 ((rd_T59 x4_1 (ji6)).f0)) ∧ w'.cell? ⟨(ad103.add (((ji6)).toNat * 2)).block, (ad103.add (((ji6)).toNat * 2)).off + 1, none⟩ = some (.int .i64 ((rd_T59 x4_1 (ji6)).f1))) (ds := []) #[false, false, false, false, false, false, false, false, false, false, false, false, false, false] (by kernel_rfl) rfl rfl ⟨(blk_cell BK102.out 0).trans rfl, (blk_cell BK102.out 1).trans rfl, hx103_0, hx103_1⟩ (fun hHeld => ?_); refine with_tabW wheel_joined.tab7 wheel_joined.bits7 (fun HT_ HW_ => ?_)
           generalize w23.drew = w24 at HO_4 BK102 HB hx103_0 hx103_1 hHeld ⊢
           refine pure_ (i := 0) (N := some 18) (v := ?_) (a' := ?_) #[true, false, false, false, false, false, false, false, false, false, false, false, false, false] rfl rfl (any_of HT_.out (by kernel_rfl)) (fun _ _ _ h => h) (Or.inl ⟨by rfl, ?_⟩) ?_ ?_
           rotate_left
           ·intro w'
            go_simp
            with_reducible rfl
           rotate_left
           ·simp only [pq]
            rfl
           refine pure_ (i := 1) (N := some 19) (v := ?_) (a' := ?_) #[true, true, false, false, false, false, false, false, false, false, false, false, false, false] rfl rfl (any_of HT_.out (by kernel_rfl)) (fun _ _ _ h => h) (Or.inl ⟨by rfl, ?_⟩) ?_ ?_
           rotate_left
           ·intro w'
            go_simp
            with_reducible rfl
           rotate_left
           ·simp only [pq]
            rfl
           refine pure_ (i := 2) (N := some 20) (v := ?_) (a' := ?_) #[true, true, true, false, false, false, false, false, false, false, false, false, false, false] rfl rfl (any_of HT_.out (by kernel_rfl)) (fun _ _ _ h => h) (Or.inl ⟨by rfl, ?_⟩) ?_ ?_
           rotate_left
           ·intro w'
            go_simp
            with_reducible rfl
           rotate_left
           ·simp only [pq]
            rfl
           refine pure_ (i := 3) (N := some 21) (v := ?_) (a' := ?_) #[true, true, true, true, false, false, false, false, false, false, false, false, false, false] rfl rfl (any_of HT_.out (by kernel_rfl)) (fun _ _ _ h => h) (Or.inl ⟨by rfl, ?_⟩) ?_ ?_
           rotate_left
           ·intro w'
            go_simp
            with_reducible rfl
           rotate_left
           ·simp only [pq]
            rfl
           refine pure_ (i := 4) (N := some 22) (v := ?_) (a' := ?_) #[true, true, true, true, true, false, false, false, false, false, false, false, false, false] rfl rfl (any_of HT_.out (by kernel_rfl)) (fun _ _ _ h => h) (Or.inl ⟨by rfl, ?_⟩) ?_ ?_
           rotate_left
           ·intro w'
            go_simp
            with_reducible rfl
           rotate_left
           ·simp only [pq]
            rfl
           refine pure_ (i := 5) (N := some 23) (v := ?_) (a' := ?_) #[true, true, true, true, true, true, false, false, false, false, false, false, false, false] rfl rfl (any_of HT_.out (by kernel_rfl)) (fun _ _ _ h => h) (Or.inl ⟨by rfl, ?_⟩) ?_ ?_
           rotate_left
           ·intro w'
            go_simp
            with_reducible rfl
           rotate_left
           ·simp only [pq]
            rfl
           refine pure_ (i := 6) (N := some 24) (v := ?_) (a' := ?_) #[true, true, true, true, true, true, true, false, false, false, false, false, false, false] rfl rfl (any_of HT_.out (by kernel_rfl)) (fun _ _ _ h => h) (Or.inl ⟨by rfl, ?_⟩) ?_ ?_
           rotate_left
           ·intro w'
            go_simp
            with_reducible rfl
           rotate_left
           ·simp only [pq]
            rfl
           refine pure_ (i := 7) (N := some 25) (v := ?_) (a' := ?_) #[true, true, true, true, true, true, true, true, false, false, false, false, false, false] rfl rfl (any_of HT_.out (by kernel_rfl)) (fun _ _ _ h => h) (Or.inl ⟨by rfl, ?_⟩) ?_ ?_
           rotate_left
           ·intro w'
            go_simp
            with_reducible rfl
           rotate_left
           ·simp only [pq]
            rfl
           refine pure_ (i := 10) (N := some 28) (v := ?_) (a' := ?_) #[true, true, true, true, true, true, true, true, false, false, true, false, false, false] rfl rfl (any_of HT_.out (by kernel_rfl)) (fun _ _ _ h => h) (Or.inl ⟨by rfl, ?_⟩) ?_ ?_
           rotate_left
           ·intro w'
            go_simp
            with_reducible rfl
           rotate_left
           ·simp only [pq]
            rfl
           refine take_ (i := 8) (N := some 26) (v := ?_) (a' := ?_) #[true, true, true, true, true, true, true, true, true, false, true, false, false, false] rfl rfl (take_ofW HT_.out HW_.out (by kernel_rfl)) (fun _ _ _ h => h) (Or.inl ⟨by rfl, ?_⟩) hHeld ?_ ?_
           rotate_left
           ·rintro w' ⟨s0, s1, s2, s3⟩
            go_simp
            with_reducible rfl
           rotate_left
           ·simp only [pq]
            rfl
           refine pure_ (i := 9) (N := some 27) (v := ?_) (a' := ?_) #[true, true, true, true, true, true, true, true, true, true, true, false, false, false] rfl rfl (any_of HT_.out (by kernel_rfl)) (fun _ _ _ h => h) (Or.inl ⟨by rfl, ?_⟩) ?_ ?_
           rotate_left
           ·intro w'
            go_simp
            with_reducible rfl
           rotate_left
           ·simp only [pq]
            rfl
           refine take_ (i := 11) (N := some 29) (v := ?_) (a' := ?_) #[true, true, true, true, true, true, true, true, true, true, true, true, false, false] rfl rfl (take_ofW HT_.out HW_.out (by kernel_rfl)) (fun _ _ _ h => h) (Or.inl ⟨by rfl, ?_⟩) hHeld ?_ ?_
           rotate_left
           ·rintro w' ⟨s0, s1, s2, s3⟩
            go_simp
            with_reducible rfl
           rotate_left
           ·simp only [pq]
            rfl
           refine pure_ (i := 12) (N := some 30) (v := ?_) (a' := ?_) #[true, true, true, true, true, true, true, true, true, true, true, true, true, false] rfl rfl (any_of HT_.out (by kernel_rfl)) (fun _ _ _ h => h) (Or.inl ⟨by rfl, ?_⟩) ?_ ?_
           rotate_left
           ·intro w'
            go_simp
            with_reducible rfl
           rotate_left
           ·simp only [pq]
            rfl
           refine pure_ (i := 13) (N := some 31) (v := ?_) (a' := ?_) #[true, true, true, true, true, true, true, true, true, true, true, true, true, true] rfl rfl (any_of HT_.out (by kernel_rfl)) (fun _ _ _ h => h) (Or.inl ⟨by rfl, ?_⟩) ?_ ?_
           rotate_left
           ·intro w'
            go_simp
            with_reducible rfl
           rotate_left
           ·simp only [pq]
            rfl
           refine done_ (done_of HT_.out (by kernel_rfl)) ?_
           have hcz25_0 : w24.cell? ⟨gb102, 0, none⟩ = some (.int .i64 ((rd_T59 l0 x12_1).f0)) := (blk_cell BK102.out 0).trans rfl
           have hcz25_1 : w24.cell? ⟨gb102, 1, none⟩ = some (.int .i64 ((rd_T59 l0 x12_1).f1)) := (blk_cell BK102.out 1).trans rfl
           have hfz25_0 := blk_frozen BK102.out 0
           have hfz25_1 := blk_frozen BK102.out 1
           try go_wp2_with (first | ((with_reducible refine gate_builtin (b := .append) (xs := #[.tmp 46, .tmp 48]) rfl ?_); at_builtin; refine Kd.R_append k59 (w0 := w) w.heap.size rfl (.tmp 46) (.tmp 48) 27 59 (.agg #[(.int .i64 0), (.int .i64 0)]) 16 rfl Tryz.underlying27 info59 rfl (by decide) (by omega) (.slice (some ad103) x4_1.length co22) x4_1 (⟨(rd_T59 l0 x12_1).f0, (rd_T59 l0 x12_1).f1⟩ : S59) [.int .i64 ((rd_T59 l0 x12_1).f0), .int .i64 ((rd_T59 l0 x12_1).f1)] (fun k_ => k_ ≠ gb102) (fun _ => False) rfl rfl ?aP (fun _ hk => hk.elim) ?aF ?aO ?aB ?aS ?aL ?_; (case aP => exact k59_mkM _ _ _ (⟨(rd_T59 l0 x12_1).f0, (rd_T59 l0 x12_1).f1⟩ : S59)); (case aB => exact (by repeat (first | (with_reducible first | exact HB.out | apply below_alloc | apply pw_below_drewN | apply below_drew1 | refine below_set ?_ GE102.out) | exact HB.out))); (case aF => exact (fun k_ hk => Kd.freshB (g := gb102) (o := .cells #[.int .i64 ((rd_T59 l0 x12_1).f0), .int .i64 ((rd_T59 l0 x12_1).f1)] 59 (0, 0)) (bq BK102.out) k_ hk)); (case aO => exact (rq HO_4.out)); (case aS => exact (below_size (by repeat (first | (with_reducible first | exact HB.out | apply below_alloc | apply pw_below_drewN | apply below_drew1 | refine below_set ?_ GE102.out) | exact HB.out)))); (case aL => have := LMc19.out; omega); intro v107 w26 ho hb hg hat; rw [← Ny106.out] at ho; have n0_ := Aside0.mk (blk_grown (g := gb102) (o := .cells #[.int .i64 ((rd_T59 l0 x12_1).f0), .int .i64 ((rd_T59 l0 x12_1).f1)] 59 (0, 0)) (bq BK102.out) hg (Kd.R_away HO_4.out (fun _ hk => hk))); have n1_ := Aside0.mk (hb); have n2_ := Aside0.mk (ho); clear BK102; clear HB; clear HO_4; have BK102 := n0_; have HB := n1_; have HO108 := n2_; clear n0_ n1_ n2_; clear ho hb hg hat))
           go_roundg k1
           case measure => have := HK1.out; omega
           case rel => exact ⟨(y106), (wrap64 (x12_1 + 1)), (by first | rfl | (simp; done) | (simp [*]; done)), H', ⟨by have := HK1.out; omega⟩, ⟨by (with_reducible repeat (first | apply Kd.R_alloc | apply Kd.R_drewN | apply Kd.R_drew)); exact Kd.R_mono HO108.out (fun _ hk => trivial)⟩, ⟨by repeat (first | (with_reducible first | exact HB.out | apply below_alloc | apply pw_below_drewN | apply below_drew1 | refine below_set ?_ GE102.out) | exact HB.out)⟩⟩
          ·rw [if_neg c19] at H
           exact absurd H (by simp)
        ·rw [if_neg c8] at H
         exact absurd H (by simp)
       ·rw [if_neg c7] at H
        exact absurd H (by simp)
      ·rw [if_neg c5] at H
       have c5b0 : decide (0 < (x4_1.length : Int)) = false := decide_eq_false c5
       have c5b1 : decide (0 < x4_1.length) = false := decide_eq_false (by omega)
       clear c5
       by_cases c27 : x4_1.length < 8796093022208
       ·rw [if_pos c27] at H
        have LMc27 := Aside0.mk c27
        clear c27
        obtain ⟨y109, hy109⟩ : ∃ y_ : List (S59), y_ = (x4_1 ++ [(⟨(rd_T59 l0 x12_1).f0, (rd_T59 l0 x12_1).f1⟩ : S59)]) := ⟨_, rfl⟩
        replace H : (wheel_joined.l0 k1 y109 l0 (l0.length : Int) (wrap64 (x12_1 + 1))) = some (r1, r2) := by first | (rw [hy109]; with_reducible exact H) | (have H2_ := (Option.bind_some _ _).symm.trans H; rw [hy109]; with_reducible exact H2_) | (have H2_ := (Option.bind_some _ _).symm.trans H; with_reducible exact H2_) | with_reducible exact H | (rw [hy109]; exact H) | exact H
        have Ny109 := Aside0.mk hy109
        clear hy109
        have H' := Aside0.mk H
        clear H
        have p101 : 0 ≤ (x12_1 : Int) := of_decide_eq_true aq
        have q101 : x12_1 < (l0.length : Int) := of_decide_eq_true aq
        obtain ⟨ad101, e101, hx101_0, hx101_1⟩ := at_T59 HR0.out x12_1 p101 q101
        cases e101
        replace hx101_0 := (HB.out.cell (World.block_lt_of_cell? w _ hx101_0)).trans hx101_0
        replace hx101_1 := (HB.out.cell (World.block_lt_of_cell? w _ hx101_1)).trans hx101_1
        replace p101 := eq_true p101
        replace q101 := eq_true q101
        try go_wp2_with (first | ((with_reducible refine gate_dst (N := 6) rfl ?_); refine box_event ?hg (N := 6) ?hd (cs := #[.int .i64 0, .int .i64 0]) (t := 59) ?hr ?_; (case hd => rfl); (case hg => rfl); (case hr => first | (go_simp; done) | (go_simp; rfl)); intro gb102 hg w28 hbox hb; have n0_ := Aside0.mk (Kd.R_below (Kd.R_elderB (rq HO_4.out) gb102 (Nat.le_of_eq hg.symm)) hb); have n1_ := Aside0.mk (below_step (bw HB.out) hb); have n2_ := Aside0.mk (hbox); have n3_ := Aside0.mk ((by rw [hg]; exact (below_size (bw HB.out)) : w.heap.size ≤ gb102)); have n4_ := Aside0.mk ((by rw [hg]; exact (below_size (bw HB.out)) : w.heap.size ≤ gb102)); clear HO_4; clear HB; have HO_4 := n0_; have HB := n1_; have BK102 := n2_; have GW102 := n3_; have GE102 := n4_; clear n0_ n1_ n2_ n3_ n4_; clear hb hbox hg; have hcz29_0 : w28.cell? ⟨gb102, 0, none⟩ = some (.int .i64 0) := (blk_cell BK102.out 0).trans rfl; have hcz29_1 : w28.cell? ⟨gb102, 1, none⟩ = some (.int .i64 0) := (blk_cell BK102.out 1).trans rfl; have hfz29_0 := blk_frozen BK102.out 0; have hfz29_1 := blk_frozen BK102.out 1; obtain ⟨Ao30, co30, eo30⟩ := Kd.R_slice HO_4.out; subst eo30))
        have n0_ : Aside0 (Kd.R k59 59 ((w28.setCell ⟨gb102, 0, none⟩ (.int .i64 ((rd_T59 l0 x12_1).f0))).setCell ⟨gb102, 1, none⟩ (.int .i64 ((rd_T59 l0 x12_1).f1))) w.heap.size (fun k_ => k_ ≠ gb102) (.slice Ao30 x4_1.length co30) x4_1) := ⟨by (with_reducible repeat (first | apply Kd.R_alloc | apply Kd.R_drewN | apply Kd.R_drew)); exact Kd.R_mono (Kd.R_far (p := ⟨gb102, 1, none⟩) (Kd.R_far (p := ⟨gb102, 0, none⟩) (Kd.R_mono HO_4.out (fun k_ hk => (⟨hk, hk.2⟩ : _ ∧ k_ ≠ gb102))) (fun _ hk => hk.2) (.int .i64 ((rd_T59 l0 x12_1).f0))) (fun _ hk => hk.2) (.int .i64 ((rd_T59 l0 x12_1).f1))) (fun _ hk => hk.1.2)⟩
        have n1_ : Aside0 (((w28.setCell ⟨gb102, 0, none⟩ (.int .i64 ((rd_T59 l0 x12_1).f0))).setCell ⟨gb102, 1, none⟩ (.int .i64 ((rd_T59 l0 x12_1).f1))).heap[gb102]? = some (.cells #[.int .i64 ((rd_T59 l0 x12_1).f0), .int .i64 ((rd_T59 l0 x12_1).f1)] 59 (0, 0))) := ⟨by (with_reducible repeat (first | refine blk_drewN ?_ _ | refine blk_drew ?_ | refine blk_alloc ?_ _)); refine blk_put (cs := #[.int .i64 ((rd_T59 l0 x12_1).f0), .int .i64 0]) ?_ 1 _ rfl; (with_reducible repeat (first | refine blk_drewN ?_ _ | refine blk_drew ?_ | refine blk_alloc ?_ _)); refine blk_put (cs := #[.int .i64 0, .int .i64 0]) ?_ 0 _ rfl; (with_reducible repeat (first | refine blk_drewN ?_ _ | refine blk_drew ?_ | refine blk_alloc ?_ _)); exact BK102.out⟩
        have n2_ : Aside0 (Below w.heap.size w ((w28.setCell ⟨gb102, 0, none⟩ (.int .i64 ((rd_T59 l0 x12_1).f0))).setCell ⟨gb102, 1, none⟩ (.int .i64 ((rd_T59 l0 x12_1).f1)))) := ⟨by repeat (first | (with_reducible first | exact HB.out | apply below_alloc | apply pw_below_drewN | apply below_drew1 | refine below_set ?_ GE102.out) | exact HB.out)⟩
        (try clear HO_4)
        (try clear BK102)
        (try clear HB)
        generalize ((w28.setCell ⟨gb102, 0, none⟩ (.int .i64 ((rd_T59 l0 x12_1).f0))).setCell ⟨gb102, 1, none⟩ (.int .i64 ((rd_T59 l0 x12_1).f1))) = w31 at n0_ n1_ n2_ ⊢
        have HO_4 := n0_
        have BK102 := n1_
        have HB := n2_
        clear n0_ n1_ n2_
        have n0_ := Aside0.mk (Kd.R_drew HO_4.out)
        have n1_ := Aside0.mk (blk_drew BK102.out)
        have n2_ := Aside0.mk (below_drew1 HB.out)
        clear HO_4
        clear BK102
        clear HB
        have HO_4 := n0_
        have BK102 := n1_
        have HB := n2_
        clear n0_ n1_ n2_
        refine start_ (n := 14) (S := fun w' => True) (ds := []) #[false, false, false, false, false, false, false, false, false, false, false, false, false, false] (by kernel_rfl) rfl rfl trivial (fun hHeld => ?_); refine with_tabW wheel_joined.tab7 wheel_joined.bits7 (fun HT_ HW_ => ?_)
        generalize w31.drew = w32 at HO_4 BK102 HB hHeld ⊢
        refine pure_ (i := 0) (N := some 18) (v := ?_) (a' := ?_) #[true, false, false, false, false, false, false, false, false, false, false, false, false, false] rfl rfl (any_of HT_.out (by kernel_rfl)) (fun _ _ _ h => h) (Or.inl ⟨by rfl, ?_⟩) ?_ ?_
        rotate_left
        ·intro w'
         go_simp
         with_reducible rfl
        rotate_left
        ·simp only [pq]
         rfl
        refine pure_ (i := 1) (N := some 19) (v := ?_) (a' := ?_) #[true, true, false, false, false, false, false, false, false, false, false, false, false, false] rfl rfl (any_of HT_.out (by kernel_rfl)) (fun _ _ _ h => h) (Or.inl ⟨by rfl, ?_⟩) ?_ ?_
        rotate_left
        ·intro w'
         go_simp
         with_reducible rfl
        rotate_left
        ·simp only [pq]
         rfl
        refine pure_ (i := 2) (N := some 20) (v := ?_) (a' := ?_) #[true, true, true, false, false, false, false, false, false, false, false, false, false, false] rfl rfl (any_of HT_.out (by kernel_rfl)) (fun _ _ _ h => h) (Or.inl ⟨by rfl, ?_⟩) ?_ ?_
        rotate_left
        ·intro w'
         go_simp
         with_reducible rfl
        rotate_left
        ·simp only [pq]
         rfl
        refine pure_ (i := 3) (N := some 21) (v := undef) (a' := ?_) #[true, true, true, true, false, false, false, false, false, false, false, false, false, false] rfl rfl (any_of HT_.out (by kernel_rfl)) (fun _ _ _ h => h) (Or.inr ⟨by rfl, rfl⟩) ?_ ?_
        rotate_left
        ·simp only [pq]
         rfl
        refine pure_ (i := 4) (N := some 22) (v := undef) (a' := ?_) #[true, true, true, true, true, false, false, false, false, false, false, false, false, false] rfl rfl (any_of HT_.out (by kernel_rfl)) (fun _ _ _ h => h) (Or.inr ⟨by rfl, rfl⟩) ?_ ?_
        rotate_left
        ·simp only [pq]
         rfl
        refine pure_ (i := 5) (N := some 23) (v := undef) (a' := ?_) #[true, true, true, true, true, true, false, false, false, false, false, false, false, false] rfl rfl (any_of HT_.out (by kernel_rfl)) (fun _ _ _ h => h) (Or.inr ⟨by rfl, rfl⟩) ?_ ?_
        rotate_left
        ·simp only [pq]
         rfl
        refine pure_ (i := 6) (N := some 24) (v := undef) (a' := ?_) #[true, true, true, true, true, true, true, false, false, false, false, false, false, false] rfl rfl (any_of HT_.out (by kernel_rfl)) (fun _ _ _ h => h) (Or.inr ⟨by rfl, rfl⟩) ?_ ?_
        rotate_left
        ·simp only [pq]
         rfl
        refine pure_ (i := 7) (N := some 25) (v := undef) (a' := ?_) #[true, true, true, true, true, true, true, true, false, false, false, false, false, false] rfl rfl (any_of HT_.out (by kernel_rfl)) (fun _ _ _ h => h) (Or.inr ⟨by rfl, rfl⟩) ?_ ?_
        rotate_left
        ·simp only [pq]
         rfl
        refine pure_ (i := 8) (N := some 26) (v := undef) (a' := ?_) #[true, true, true, true, true, true, true, true, true, false, false, false, false, false] rfl rfl (any_of HT_.out (by kernel_rfl)) (fun _ _ _ h => h) (Or.inr ⟨by rfl, rfl⟩) ?_ ?_
        rotate_left
        ·simp only [pq]
         rfl
        refine pure_ (i := 9) (N := some 27) (v := undef) (a' := ?_) #[true, true, true, true, true, true, true, true, true, true, false, false, false, false] rfl rfl (any_of HT_.out (by kernel_rfl)) (fun _ _ _ h => h) (Or.inr ⟨by rfl, rfl⟩) ?_ ?_
        rotate_left
        ·simp only [pq]
         rfl
        refine pure_ (i := 10) (N := some 28) (v := undef) (a' := ?_) #[true, true, true, true, true, true, true, true, true, true, true, false, false, false] rfl rfl (any_of HT_.out (by kernel_rfl)) (fun _ _ _ h => h) (Or.inr ⟨by rfl, rfl⟩) ?_ ?_
        rotate_left
        ·simp only [pq]
         rfl
        refine pure_ (i := 11) (N := some 29) (v := undef) (a' := ?_) #[true, true, true, true, true, true, true, true, true, true, true, true, false, false] rfl rfl (any_of HT_.out (by kernel_rfl)) (fun _ _ _ h => h) (Or.inr ⟨by rfl, rfl⟩) ?_ ?_
        rotate_left
        ·simp only [pq]
         rfl
        refine pure_ (i := 12) (N := some 30) (v := undef) (a' := ?_) #[true, true, true, true, true, true, true, true, true, true, true, true, true, false] rfl rfl (any_of HT_.out (by kernel_rfl)) (fun _ _ _ h => h) (Or.inr ⟨by rfl, rfl⟩) ?_ ?_
        rotate_left
        ·simp only [pq]
         rfl
        refine pure_ (i := 13) (N := some 31) (v := ?_) (a' := ?_) #[true, true, true, true, true, true, true, true, true, true, true, true, true, true] rfl rfl (any_of HT_.out (by kernel_rfl)) (fun _ _ _ h => h) (Or.inl ⟨by rfl, ?_⟩) ?_ ?_
        rotate_left
        ·intro w'
         go_simp
         with_reducible rfl
        rotate_left
        ·simp only [pq]
         rfl
        refine done_ (done_of HT_.out (by kernel_rfl)) ?_
        have hcz33_0 : w32.cell? ⟨gb102, 0, none⟩ = some (.int .i64 ((rd_T59 l0 x12_1).f0)) := (blk_cell BK102.out 0).trans rfl
        have hcz33_1 : w32.cell? ⟨gb102, 1, none⟩ = some (.int .i64 ((rd_T59 l0 x12_1).f1)) := (blk_cell BK102.out 1).trans rfl
        have hfz33_0 := blk_frozen BK102.out 0
        have hfz33_1 := blk_frozen BK102.out 1
        try go_wp2_with (first | ((with_reducible refine gate_builtin (b := .append) (xs := #[.tmp 46, .tmp 48]) rfl ?_); at_builtin; refine Kd.R_append k59 (w0 := w) w.heap.size rfl (.tmp 46) (.tmp 48) 27 59 (.agg #[(.int .i64 0), (.int .i64 0)]) 16 rfl Tryz.underlying27 info59 rfl (by decide) (by omega) (.slice Ao30 x4_1.length co30) x4_1 (⟨(rd_T59 l0 x12_1).f0, (rd_T59 l0 x12_1).f1⟩ : S59) [.int .i64 ((rd_T59 l0 x12_1).f0), .int .i64 ((rd_T59 l0 x12_1).f1)] (fun k_ => k_ ≠ gb102) (fun _ => False) rfl rfl ?aP (fun _ hk => hk.elim) ?aF ?aO ?aB ?aS ?aL ?_; (case aP => exact k59_mkM _ _ _ (⟨(rd_T59 l0 x12_1).f0, (rd_T59 l0 x12_1).f1⟩ : S59)); (case aB => exact (by repeat (first | (with_reducible first | exact HB.out | apply below_alloc | apply pw_below_drewN | apply below_drew1 | refine below_set ?_ GE102.out) | exact HB.out))); (case aF => exact (fun k_ hk => Kd.freshB (g := gb102) (o := .cells #[.int .i64 ((rd_T59 l0 x12_1).f0), .int .i64 ((rd_T59 l0 x12_1).f1)] 59 (0, 0)) (bq BK102.out) k_ hk)); (case aO => exact (rq HO_4.out)); (case aS => exact (below_size (by repeat (first | (with_reducible first | exact HB.out | apply below_alloc | apply pw_below_drewN | apply below_drew1 | refine below_set ?_ GE102.out) | exact HB.out)))); (case aL => have := LMc27.out; omega); intro v110 w34 ho hb hg hat; rw [← Ny109.out] at ho; have n0_ := Aside0.mk (blk_grown (g := gb102) (o := .cells #[.int .i64 ((rd_T59 l0 x12_1).f0), .int .i64 ((rd_T59 l0 x12_1).f1)] 59 (0, 0)) (bq BK102.out) hg (Kd.R_away HO_4.out (fun _ hk => hk))); have n1_ := Aside0.mk (hb); have n2_ := Aside0.mk (ho); clear BK102; clear HB; clear HO_4; have BK102 := n0_; have HB := n1_; have HO111 := n2_; clear n0_ n1_ n2_; clear ho hb hg hat))
        go_roundg k1
        case measure => have := HK1.out; omega
        case rel => exact ⟨(y109), (wrap64 (x12_1 + 1)), (by first | rfl | (simp; done) | (simp [*]; done)), H', ⟨by have := HK1.out; omega⟩, ⟨by (with_reducible repeat (first | apply Kd.R_alloc | apply Kd.R_drewN | apply Kd.R_drew)); exact Kd.R_mono HO111.out (fun _ hk => trivial)⟩, ⟨by repeat (first | (with_reducible first | exact HB.out | apply below_alloc | apply pw_below_drewN | apply below_drew1 | refine below_set ?_ GE102.out) | exact HB.out)⟩⟩
       ·rw [if_neg c27] at H
        exact absurd H (by simp)
     ·rw [if_neg c4] at H
      exact absurd H (by simp)
    ·rw [if_neg c3] at H
     exact absurd H (by simp)
   ·rw [if_neg c2] at H
    have c2b0 : decide (x12_1 < (l0.length : Int)) = false := decide_eq_false c2
    clear c2
    by_cases c35 : (x4_1.length : Int) > 64
    ·rw [if_pos c35] at H
     have c35b0 : decide (64 < (x4_1.length : Int)) = true := decide_eq_true c35
     have c35b1 : decide (64 < x4_1.length) = true := decide_eq_true (by omega)
     clear c35
     simp only [Option.some.injEq, Prod.mk.injEq] at H
     obtain ⟨rfl, rfl⟩ := H
     obtain ⟨Ao36, co36, eo36⟩ := Kd.R_slice HO_4.out
     subst eo36
     go_wp2
     go_ret2
     exact ⟨w, by rw [show l.length = l0.length from HL.out]; exact HG.out, _, by first | rfl | (simp [errW_none, errW_some] <;> rfl) | (simp [*, errW_none, errW_some] <;> rfl), by first | exact Kd.R_nil _ _ _ _ _ | exact Kd.N_nil _ _ _ _ _ | exact Kd.V_nil _ _ _ _ _ | exact Kd.Q_nil _ _ _ _ _ | exact Kd.S_nil _ _ _ _ _, by repeat (first | (with_reducible first | exact HB.out | apply below_alloc | apply pw_below_drewN | apply below_drew1) | exact HB.out)⟩
    ·rw [if_neg c35] at H
     have c35b0 : decide (64 < (x4_1.length : Int)) = false := decide_eq_false c35
     have c35b1 : decide (64 < x4_1.length) = false := decide_eq_false (by omega)
     clear c35
     simp only [Option.some.injEq, Prod.mk.injEq] at H
     obtain ⟨rfl, rfl⟩ := H
     obtain ⟨Ao37, co37, eo37⟩ := Kd.R_slice HO_4.out
     subst eo37
     go_wp2
     go_ret2
     exact ⟨w, by rw [show l.length = l0.length from HL.out]; exact HG.out, _, by first | rfl | (simp [errW_none, errW_some] <;> rfl) | (simp [*, errW_none, errW_some] <;> rfl), by (with_reducible repeat (first | apply Kd.R_alloc | apply Kd.R_drewN | apply Kd.R_drew)); exact HO_4.out, by repeat (first | (with_reducible first | exact HB.out | apply below_alloc | apply pw_below_drewN | apply below_drew1) | exact HB.out)⟩
end Go.Proofs.YtgakfgedaipdmaaGreatDoor.P
namespace Go.Proofs.YtgakfgedaipdmaaGreatDoor.P
open Go.RowKit Go.Proofs.YtgakfgedaipdmaaGreatDoorW.PrintWords Go.Proofs.YtgakfgedaipdmaaGreatDoorW.PrintLast Go.Proofs.YtgakfgedaipdmaaGreatDoorW.PrintMore
attribute [local go_sem] max2_int min2_int max_two min_two max_three min_three max_four min_four
set_option linter.unusedVariables false
set_option linter.unusedSimpArgs false
def ranges_in.f (a0 : Int) (a1 : Int) (a2 : Int) : Option (Bool) := if a0 ≥ a1 then (some (decide (a0 ≤ a2))) else (some false)
set_option maxHeartbeats 8000000 in
set_option maxRecDepth 100000 in
theorem ranges_in.calls (a0 : Int) (a1 : Int) (a2 : Int) (r : Bool) (w : World) (h : ranges_in.f a0 a1 a2 = some r) :
  Calls Tryz.prog 92 #[.int .i64 a0, .int .i64 a1, .int .i64 a2] w fun e w' => e = .returned (.bool r) ∧ Drawn0 w w' := by
 have H : (if a0 ≥ a1 then (some (decide (a0 ≤ a2))) else (some false)) = some r := h
 clear h
 by_cases c4 : a0 ≥ a1
 ·rw [if_pos c4] at H
  have c4b0 : decide (a1 ≤ a0) = true := decide_eq_true c4
  clear c4
  obtain rfl := Option.some.inj H
  go_enter Tryz.func92, Tryz.ntmps92
  go_wp2
  go_ret
  exact ⟨by first | rfl | (simp; done) | (simp [*]; done), by repeat (first | exact Drawn0.refl _ | apply Drawn0.step)⟩
 ·rw [if_neg c4] at H
  have c4b0 : decide (a1 ≤ a0) = false := decide_eq_false c4
  clear c4
  obtain rfl := Option.some.inj H
  go_enter Tryz.func92, Tryz.ntmps92
  go_wp2
  go_ret
  exact ⟨by first | rfl | (simp; done) | (simp [*]; done), by repeat (first | exact Drawn0.refl _ | apply Drawn0.step)⟩
def ranges_area.f (a0 : Int) : Option (Bool) := (ranges_in.f a0 (-1099511627776) 1099511627776).bind fun t179 => (some t179)
set_option maxHeartbeats 8000000 in
set_option maxRecDepth 100000 in
theorem ranges_area.calls (a0 : Int) (r : Bool) (w : World) (h : ranges_area.f a0 = some r) :
  Calls Tryz.prog 132 #[.int .i64 a0] w fun e w' => e = .returned (.bool r) ∧ Drawn0 w w' := by
 have H : ((ranges_in.f a0 (-1099511627776) 1099511627776).bind fun t179 => (some t179)) = some r := h
 clear h
 replace H := Option.bind_eq_some_iff.mp H
 obtain ⟨t179, A20, H⟩ := H
 replace H : (some t179) = some r := H
 have A2 := Aside0.mk A20
 clear A20
 obtain rfl := Option.some.inj H
 go_enter Tryz.func132, Tryz.ntmps132
 go_wp2_with (first | ((with_reducible refine gate_callee (f := 92) rfl ?_); refine goesL_ (some 4) rfl rfl Tryz.func92 (by kernel_rfl) rfl #[.int .i64 a0, .int .i64 (-1099511627776), .int .i64 1099511627776] rfl mq ?_; (with_reducible refine (ranges_in.calls a0 (-1099511627776) 1099511627776 t179 _ A2.out).mono ?_); rintro e w' ⟨rfl, ⟨nd, rfl⟩⟩; refine ⟨_, rfl, ?_⟩))
 go_ret
 exact ⟨by first | rfl | (simp; done) | (simp [*]; done), by repeat (first | exact Drawn0.refl _ | apply Drawn0.step)⟩
end Go.Proofs.YtgakfgedaipdmaaGreatDoor.P
namespace Go.Proofs.YtgakfgedaipdmaaGreatDoor.P
open Go.RowKit Go.Shelf Go.Proofs.YtgakfgedaipdmaaGreatDoorW.PrintWords Go.Proofs.YtgakfgedaipdmaaGreatDoorW.PrintLast Go.Proofs.YtgakfgedaipdmaaGreatDoorW.PrintMore
attribute [local go_sem] max2_int min2_int max_two min_two max_three min_three max_four min_four
set_option linter.unusedVariables false
set_option linter.unusedSimpArgs false
mutual
def ranges_gathered.l0 : Nat → List (S59) → List (S59) → Int → Int → Option ((List (S59)) × Int)
  | 0, _, _, _, _ => none
  | k + 1, x4, x10, x11, x12 => if x12 < x11 then (if 0 ≤ x12 then (if x12 < (x10.length : Int) then ((ranges_area.f ((rd_T59 x10 x12).f0)).bind fun t115 => (if t115 = true then ((ranges_area.f ((rd_T59 x10 x12).f1)).bind fun t116 => (ranges_gathered.j1 k x4 x10 x11 x12 (!t116) ((rd_T59 x10 x12).f0) ((rd_T59 x10 x12).f1))) else (ranges_gathered.j1 k x4 x10 x11 x12 true ((rd_T59 x10 x12).f0) ((rd_T59 x10 x12).f1)))) else (none)) else (none)) else (if (x4.length : Int) > 64 then (some (([] : List (S59)), 2)) else (some (x4, 0)))
def ranges_gathered.j1 : Nat → List (S59) → List (S59) → Int → Int → Bool → Int → Int → Option ((List (S59)) × Int)
  | 0, _, _, _, _, _, _, _ => none
  | k + 1, x4, x10, x11, x12, x25, x115000, x115001 => if x25 = true then (some (([] : List (S59)), 2)) else (if (x4.length : Int) > 0 then (if 0 ≤ (wrap64 ((x4.length : Int) - 1)) then (if (wrap64 ((x4.length : Int) - 1)) < (x4.length : Int) then (if x115000 ≤ (wrap64 (((rd_T59 x4 (wrap64 ((x4.length : Int) - 1))).f1) + 1)) then (ranges_gathered.l0 k (x4.set ((wrap64 ((x4.length : Int) - 1)) : Int).toNat (⟨(rd_T59 x4 (wrap64 ((x4.length : Int) - 1))).f0, mx ((rd_T59 x4 (wrap64 ((x4.length : Int) - 1))).f1) x115001⟩ : S59)) x10 x11 (wrap64 (x12 + 1))) else (if x4.length < 8796093022208 then (ranges_gathered.l0 k (x4 ++ [(⟨x115000, x115001⟩ : S59)]) x10 x11 (wrap64 (x12 + 1))) else (none))) else (none)) else (none)) else (if x4.length < 8796093022208 then (ranges_gathered.l0 k (x4 ++ [(⟨x115000, x115001⟩ : S59)]) x10 x11 (wrap64 (x12 + 1))) else (none)))
end
def ranges_gathered.f (k : Nat) (l0 : List (S59)) : Option ((List (S59)) × Int) := ranges_gathered.l0 k ([] : List (S59)) l0 (l0.length : Int) 0
theorem ranges_gathered.mono_l : ∀ k, (∀ y0 y1 y2 y3, LeO (ranges_gathered.l0 k y0 y1 y2 y3) (ranges_gathered.l0 (k + 1) y0 y1 y2 y3)) ∧ (∀ y0 y1 y2 y3 y4 y5 y6, LeO (ranges_gathered.j1 k y0 y1 y2 y3 y4 y5 y6) (ranges_gathered.j1 (k + 1) y0 y1 y2 y3 y4 y5 y6))
 |0 => ⟨fun _ _ _ _ r h => by simp [ranges_gathered.l0] at h, fun _ _ _ _ _ _ _ r h => by simp [ranges_gathered.j1] at h⟩
 |k + 1 => by
  obtain ⟨ih0, ih1⟩ := ranges_gathered.mono_l k
  refine ⟨?_, ?_⟩
  ·intro y0 y1 y2 y3
   unfold ranges_gathered.l0
   repeat' first
   |(with_reducible exact ih0 _ _ _ _)
   |(with_reducible exact ih1 _ _ _ _ _ _ _)
   |(with_reducible exact LeO.refl _)
   |(with_reducible exact LeO.none _)
   |(with_reducible refine LeO.ite ?_ ?_)
   |(with_reducible refine LeO.bind ?_ (fun _ => ?_))
   |exact ih0 _ _ _ _
   |exact ih1 _ _ _ _ _ _ _
   |exact LeO.none _
   |refine LeO.ite ?_ ?_
   |refine LeO.bind ?_ (fun _ => ?_)
  ·intro y0 y1 y2 y3 y4 y5 y6
   unfold ranges_gathered.j1
   repeat' first
   |(with_reducible exact ih0 _ _ _ _)
   |(with_reducible exact ih1 _ _ _ _ _ _ _)
   |(with_reducible exact LeO.refl _)
   |(with_reducible exact LeO.none _)
   |(with_reducible refine LeO.ite ?_ ?_)
   |(with_reducible refine LeO.bind ?_ (fun _ => ?_))
   |exact ih0 _ _ _ _
   |exact ih1 _ _ _ _ _ _ _
   |exact LeO.none _
   |refine LeO.ite ?_ ?_
   |refine LeO.bind ?_ (fun _ => ?_)
theorem ranges_gathered.mono : ∀ a0 k, LeO (ranges_gathered.f k a0) (ranges_gathered.f (k + 1) a0) := by
 intro a0 k
 obtain ⟨ih0, ih1⟩ := ranges_gathered.mono_l k
 unfold ranges_gathered.f
 repeat' first
   |(with_reducible exact ih0 _ _ _ _)
   |(with_reducible exact ih1 _ _ _ _ _ _ _)
   |(with_reducible exact LeO.refl _)
   |(with_reducible exact LeO.none _)
   |(with_reducible refine LeO.ite ?_ ?_)
   |(with_reducible refine LeO.bind ?_ (fun _ => ?_))
   |exact ih0 _ _ _ _
   |exact ih1 _ _ _ _ _ _ _
   |exact LeO.none _
   |refine LeO.ite ?_ ?_
   |refine LeO.bind ?_ (fun _ => ?_)
def ranges_gathered.T9 : Bool × List (List Nat × List Nat) := (true, [([], []), ([0], [0]), ([1], [1]), ([2], [2]), ([3, 2], [2, 3]), ([2], [2]), ([2], [2]), ([6, 2], [2, 6]), ([5, 7, 2], [2, 5, 7]), ([8, 2], [2, 8]), ([9, 2], [2, 9]), ([10, 2], [2, 10]), ([4, 11, 2], [2, 4, 11]), ([2, 12], [2, 12])])
def ranges_gathered.B9 : List Nat := [0, 1, 3, 7, 15, 7, 7, 71, 231, 487, 999, 2023, 4095, 8191]
theorem ranges_gathered.tab9 : rtab .any (opsOf Tryz.f116 9) = ranges_gathered.T9 := by kernel_rfl
theorem ranges_gathered.bits9 : waitsOk ranges_gathered.T9.2 ranges_gathered.B9 = true := by kernel_rfl
def ranges_gathered.T10 : Bool × List (List Nat × List Nat) := (true, [([], []), ([], []), ([1], [1]), ([], []), ([], []), ([4], [4]), ([3, 5], [3, 5]), ([6], [6]), ([7], [7]), ([], []), ([9], [9]), ([8, 10], [8, 10]), ([0, 2, 0, 1, 2, 3, 4, 5, 6, 7, 8, 9, 10, 11], [0, 2]), ([12, 0, 1, 2, 3, 4, 5, 6, 7, 8, 9, 10, 11], [12]), ([13, 11, 0, 1, 2, 3, 4, 5, 6, 7, 8, 9, 10, 11], [11, 13])])
def ranges_gathered.B10 : List Nat := [0, 0, 2, 0, 0, 16, 56, 120, 248, 0, 512, 2040, 4095, 8191, 16383]
theorem ranges_gathered.tab10 : rtab .any (opsOf Tryz.f116 10) = ranges_gathered.T10 := by kernel_rfl
theorem ranges_gathered.bits10 : waitsOk ranges_gathered.T10.2 ranges_gathered.B10 = true := by kernel_rfl
set_option maxHeartbeats 8000000 in
set_option maxRecDepth 100000 in
theorem ranges_gathered.calls (k : Nat) (base : Nat) (ok : Nat → Prop) (v : Value) (l : List S59) (r1 : List S59) (r2 : Int) (wz : World) (hR0 : Kd.R k59 59 wz base ok v l) (hSp : ∀ s ∈ l, SpB s) (hn : l.length < 4611686018427387904) (hf : ∀ l', l'.Perm l → ByLo l' → ranges_gathered.f k l' = some (r1, r2)) :
  Calls Tryz.prog 116 #[v] wz fun e w' => ∃ w, wz.grownBy w v.ownBlock ∧ ∃ v0_ : Value, e = .returned (.tuple #[v0_, .int .i64 r2]) ∧ Kd.R k59 59 w' w.heap.size (fun _ => True) v0_ r1 ∧ Below w.heap.size w w' := by
 have hu59 := Tryz.underlying59
 have hso := sort_spans cfCmp ltCmp 142 (enters_of Tryz.func142 (by kernel_rfl) rfl) cmpLays142 base ok v l wz hR0 hSp hn
 obtain ⟨A0, c0, rfl⟩ := Kd.R_slice hR0
 clear hR0 hSp hn
 have HF := Aside0.mk hf
 clear hf
 go_enter Tryz.func116, Tryz.ntmps116
 go_wp2_with (go_at_call 126; refine Calls.mono hso ?_; clear hso; rintro e w ⟨rfl, l0, hpm, hby, hRs, hg⟩; have hlen : l.length = l0.length := hpm.length_eq.symm; rw [hlen] at hRs hg ⊢; have HG := Aside0.mk hg; have HP := Aside0.mk hpm; have HY := Aside0.mk hby; have HR0 := Aside0.mk (Kd.R_reads' hRs).2.2; have HC0 := Aside0.mk (Kd.R_reads' hRs).2.1; have HL := Aside0.mk hlen; clear hRs hg hpm hby hlen)
 have HB := Aside0.mk (Below.refl w.heap.size w)
 have H : (ranges_gathered.l0 k ([] : List (S59)) l0 (l0.length : Int) 0) = some (r1, r2) := HF.out l0 HP.out HY.out
 clear HF HP HY
 have H' := Aside0.mk H
 clear H
 go_loopg [4, 12] k (fun kq v4 v12 w' => ∃ (x4_1 : List (S59)) (x12_1 : Int), v12 = .int .i64 x12_1 ∧ Aside0 (ranges_gathered.l0 kq x4_1 l0 (l0.length : Int) x12_1 = some (r1, r2)) ∧ Aside0 (kq ≤ k) ∧ Aside0 (Kd.R k59 59 w' w.heap.size (fun _ => True) v4 x4_1) ∧ Aside0 (Below w.heap.size w w'))
 case atStart => exact ⟨(([] : List (S59))), (0), (by first | rfl | (simp; done) | (simp [*]; done)), H', ⟨Nat.le_refl _⟩, ⟨by first | exact Kd.R_nil _ _ _ _ _ | exact Kd.N_nil _ _ _ _ _ | exact Kd.V_nil _ _ _ _ _ | exact Kd.Q_nil _ _ _ _ _ | exact Kd.S_nil _ _ _ _ _⟩, ⟨by repeat (first | (with_reducible first | exact HB.out | apply below_alloc | apply pw_below_drewN | apply below_drew1) | exact HB.out)⟩⟩
 case round =>
  clear H'
  try clear c1
  obtain ⟨x4_1, x12_1, rfl, HA, HK1, HO_4, HB⟩ := hrel
  cases gk with
  |zero => exact absurd HA.out (by simp [ranges_gathered.l0])
  |succ k1 =>
   have H := HA.out
   clear HA
   simp only [ranges_gathered.l0] at H
   by_cases c2 : x12_1 < (l0.length : Int)
   ·rw [if_pos c2] at H
    have c2b0 : decide (x12_1 < (l0.length : Int)) = true := decide_eq_true c2
    clear c2
    by_cases c3 : 0 ≤ x12_1
    ·rw [if_pos c3] at H
     have c3b0 : decide (0 ≤ x12_1) = true := decide_eq_true c3
     clear c3
     by_cases c4 : x12_1 < (l0.length : Int)
     ·rw [if_pos c4] at H
      have c4b0 : decide (x12_1 < (l0.length : Int)) = true := decide_eq_true c4
      clear c4
      have HC5 := Aside0.mk H
      clear H
      have p113 : 0 ≤ (x12_1 : Int) := of_decide_eq_true aq
      have q113 : x12_1 < (l0.length : Int) := of_decide_eq_true aq
      obtain ⟨ad113, e113, hx113_0, hx113_1⟩ := at_T59 HR0.out x12_1 p113 q113
      cases e113
      replace hx113_0 := (HB.out.cell (World.block_lt_of_cell? w _ hx113_0)).trans hx113_0
      replace hx113_1 := (HB.out.cell (World.block_lt_of_cell? w _ hx113_1)).trans hx113_1
      replace p113 := eq_true p113
      replace q113 := eq_true q113
      go_upto_region 6 with (first | ((with_reducible refine gate_dst (N := 6) rfl ?_); refine box_event ?hg (N := 6) ?hd (cs := #[.int .i64 0, .int .i64 0]) (t := 59) ?hr ?_; (case hd => rfl); (case hg => rfl); (case hr => first | (go_simp; done) | (go_simp; rfl)); intro gb114 hg w6 hbox hb; have n0_ := Aside0.mk (Kd.R_below (Kd.R_elderB (rq HO_4.out) gb114 (Nat.le_of_eq hg.symm)) hb); have n1_ := Aside0.mk (below_step (bw HB.out) hb); have n2_ := Aside0.mk (hbox); have n3_ := Aside0.mk ((by rw [hg]; exact (below_size (bw HB.out)) : w.heap.size ≤ gb114)); have n4_ := Aside0.mk ((by rw [hg]; exact (below_size (bw HB.out)) : w.heap.size ≤ gb114)); clear HO_4; clear HB; have HO_4 := n0_; have HB := n1_; have BK114 := n2_; have GW114 := n3_; have GE114 := n4_; clear n0_ n1_ n2_ n3_ n4_; clear hb hbox hg; have hcz7_0 : w6.cell? ⟨gb114, 0, none⟩ = some (.int .i64 0) := (blk_cell BK114.out 0).trans rfl; have hcz7_1 : w6.cell? ⟨gb114, 1, none⟩ = some (.int .i64 0) := (blk_cell BK114.out 1).trans rfl; have hfz7_0 := blk_frozen BK114.out 0; have hfz7_1 := blk_frozen BK114.out 1))
      (try simp only [Act.put, List.setIfInBounds_toArray, List.set_cons_zero, List.set_cons_succ])
      go_cut [25] (fun v25 wc => ∃ (kq : Nat) (x25_4 : Bool), v25 = .bool x25_4 ∧ Aside0 (ranges_gathered.j1 kq x4_1 l0 (l0.length : Int) x12_1 x25_4 ((rd_T59 l0 x12_1).f0) ((rd_T59 l0 x12_1).f1) = some (r1, r2)) ∧ Aside0 (kq ≤ k1) ∧ Aside0 (Kd.R k59 59 wc w.heap.size (fun k_ => k_ ≠ gb114) u4 x4_1) ∧ Aside0 (wc.heap[gb114]? = some (.cells #[.int .i64 ((rd_T59 l0 x12_1).f0), .int .i64 ((rd_T59 l0 x12_1).f1)] 59 (0, 0))) ∧ Aside0 (Below w.heap.size w wc))
      case first =>
       have H := HC5.out
       clear HC5
       replace H := Option.bind_eq_some_iff.mp H
       obtain ⟨t115, A80, H⟩ := H
       replace H : (if t115 = true then ((ranges_area.f ((rd_T59 l0 x12_1).f1)).bind fun t116 => (ranges_gathered.j1 k1 x4_1 l0 (l0.length : Int) x12_1 (!t116) ((rd_T59 l0 x12_1).f0) ((rd_T59 l0 x12_1).f1))) else (ranges_gathered.j1 k1 x4_1 l0 (l0.length : Int) x12_1 true ((rd_T59 l0 x12_1).f0) ((rd_T59 l0 x12_1).f1))) = some (r1, r2) := H
       have A8 := Aside0.mk A80
       clear A80
       by_cases c9 : t115 = true
       ·subst c9
        have H1 : ((ranges_area.f ((rd_T59 l0 x12_1).f1)).bind fun t116 => (ranges_gathered.j1 k1 x4_1 l0 (l0.length : Int) x12_1 (!t116) ((rd_T59 l0 x12_1).f0) ((rd_T59 l0 x12_1).f1))) = some (r1, r2) := by rw [if_pos rfl] at H; exact H
        clear H
        have H := H1
        clear H1
        replace H := Option.bind_eq_some_iff.mp H
        obtain ⟨t116, A100, H⟩ := H
        replace H : (ranges_gathered.j1 k1 x4_1 l0 (l0.length : Int) x12_1 (!t116) ((rd_T59 l0 x12_1).f0) ((rd_T59 l0 x12_1).f1)) = some (r1, r2) := H
        have A10 := Aside0.mk A100
        clear A100
        have H' := Aside0.mk H
        clear H
        have hcz11_0 : w6.cell? ⟨gb114, 0, none⟩ = some (.int .i64 0) := (blk_cell BK114.out 0).trans rfl
        have hcz11_1 : w6.cell? ⟨gb114, 1, none⟩ = some (.int .i64 0) := (blk_cell BK114.out 1).trans rfl
        have hfz11_0 := blk_frozen BK114.out 0
        have hfz11_1 := blk_frozen BK114.out 1
        go_wp2_with (first | ((with_reducible refine gate_callee (f := 132) rfl ?_); refine goesL_ (some 18) rfl rfl Tryz.func132 (by kernel_rfl) rfl #[.int .i64 ((rd_T59 l0 x12_1).f0)] rfl mq ?_; (with_reducible refine (ranges_area.calls ((rd_T59 l0 x12_1).f0) true _ A8.out).mono ?_); rintro e w' ⟨rfl, ⟨nd, rfl⟩⟩; refine ⟨_, rfl, ?_⟩) | (go_at_call 132; (with_reducible refine (ranges_area.calls ((rd_T59 l0 x12_1).f1) t116 _ A10.out).mono ?_); rintro e w' ⟨rfl, ⟨nd, rfl⟩⟩))
        go_meet
        case rel => exact ⟨_, (!t116), (by first | rfl | (simp; done) | (simp [*]; done)), H', ⟨by have := HK1.out; first | omega | exact Nat.le_refl _⟩, ⟨by (with_reducible repeat (first | apply Kd.R_alloc | apply Kd.R_drewN | apply Kd.R_drew)); exact Kd.R_mono (Kd.R_far (p := ⟨gb114, 1, none⟩) (Kd.R_far (p := ⟨gb114, 0, none⟩) (Kd.R_mono HO_4.out (fun k_ hk => (⟨hk, hk.2⟩ : _ ∧ k_ ≠ gb114))) (fun _ hk => hk.2) (.int .i64 ((rd_T59 l0 x12_1).f0))) (fun _ hk => hk.2) (.int .i64 ((rd_T59 l0 x12_1).f1))) (fun _ hk => hk.1.2)⟩, ⟨by (with_reducible repeat (first | refine blk_drewN ?_ _ | refine blk_drew ?_ | refine blk_alloc ?_ _)); refine blk_put (cs := #[.int .i64 ((rd_T59 l0 x12_1).f0), .int .i64 0]) ?_ 1 _ rfl; (with_reducible repeat (first | refine blk_drewN ?_ _ | refine blk_drew ?_ | refine blk_alloc ?_ _)); refine blk_put (cs := #[.int .i64 0, .int .i64 0]) ?_ 0 _ rfl; (with_reducible repeat (first | refine blk_drewN ?_ _ | refine blk_drew ?_ | refine blk_alloc ?_ _)); exact BK114.out⟩, ⟨by repeat (first | (with_reducible first | exact HB.out | apply below_alloc | apply pw_below_drewN | apply below_drew1 | refine below_set ?_ GE114.out) | exact HB.out)⟩⟩
       ·replace c9 := Bool.eq_false_iff.mpr c9
        subst c9
        have H1 : (ranges_gathered.j1 k1 x4_1 l0 (l0.length : Int) x12_1 true ((rd_T59 l0 x12_1).f0) ((rd_T59 l0 x12_1).f1)) = some (r1, r2) := by rw [if_neg (show ¬ (false = true) by decide)] at H; exact H
        clear H
        have H := H1
        clear H1
        have H' := Aside0.mk H
        clear H
        have hcz12_0 : w6.cell? ⟨gb114, 0, none⟩ = some (.int .i64 0) := (blk_cell BK114.out 0).trans rfl
        have hcz12_1 : w6.cell? ⟨gb114, 1, none⟩ = some (.int .i64 0) := (blk_cell BK114.out 1).trans rfl
        have hfz12_0 := blk_frozen BK114.out 0
        have hfz12_1 := blk_frozen BK114.out 1
        go_wp2_with (first | ((with_reducible refine gate_callee (f := 132) rfl ?_); refine goesL_ (some 18) rfl rfl Tryz.func132 (by kernel_rfl) rfl #[.int .i64 ((rd_T59 l0 x12_1).f0)] rfl mq ?_; (with_reducible refine (ranges_area.calls ((rd_T59 l0 x12_1).f0) false _ A8.out).mono ?_); rintro e w' ⟨rfl, ⟨nd, rfl⟩⟩; refine ⟨_, rfl, ?_⟩))
        go_meet
        case rel => exact ⟨_, (true), (by first | rfl | (simp; done) | (simp [*]; done)), H', ⟨by have := HK1.out; first | omega | exact Nat.le_refl _⟩, ⟨by (with_reducible repeat (first | apply Kd.R_alloc | apply Kd.R_drewN | apply Kd.R_drew)); exact Kd.R_mono (Kd.R_far (p := ⟨gb114, 1, none⟩) (Kd.R_far (p := ⟨gb114, 0, none⟩) (Kd.R_mono HO_4.out (fun k_ hk => (⟨hk, hk.2⟩ : _ ∧ k_ ≠ gb114))) (fun _ hk => hk.2) (.int .i64 ((rd_T59 l0 x12_1).f0))) (fun _ hk => hk.2) (.int .i64 ((rd_T59 l0 x12_1).f1))) (fun _ hk => hk.1.2)⟩, ⟨by (with_reducible repeat (first | refine blk_drewN ?_ _ | refine blk_drew ?_ | refine blk_alloc ?_ _)); refine blk_put (cs := #[.int .i64 ((rd_T59 l0 x12_1).f0), .int .i64 0]) ?_ 1 _ rfl; (with_reducible repeat (first | refine blk_drewN ?_ _ | refine blk_drew ?_ | refine blk_alloc ?_ _)); refine blk_put (cs := #[.int .i64 0, .int .i64 0]) ?_ 0 _ rfl; (with_reducible repeat (first | refine blk_drewN ?_ _ | refine blk_drew ?_ | refine blk_alloc ?_ _)); exact BK114.out⟩, ⟨by repeat (first | (with_reducible first | exact HB.out | apply below_alloc | apply pw_below_drewN | apply below_drew1 | refine below_set ?_ GE114.out) | exact HB.out)⟩⟩
      case rest =>
       clear HC5
       try clear c1
       try clear p1
       try clear q1
       try clear hx1
       try clear c2
       try clear c2b0
       try clear p2
       try clear c3
       try clear c3b0
       try clear c4
       try clear c4b0
       try clear c9
       try clear c11
       try clear p11
       try clear q11
       try clear hx11
       try clear hcz11_0
       try clear hcz11_1
       try clear hcz12_0
       try clear hcz12_1
       try clear hcz7_0
       try clear hcz7_1
       try clear hfz11_0
       try clear hfz11_1
       try clear hfz12_0
       try clear hfz12_1
       try clear hfz7_0
       try clear hfz7_1
       try clear hx113_0
       try clear hx113_1
       try clear p113
       try clear q113
       obtain ⟨kq, x25_4, rfl, HA, HJ4, HO_4, BK114, HB⟩ := hcut
       cases kq with
       |zero => exact absurd HA.out (by simp [ranges_gathered.j1])
       |succ kj4 =>
        have H := HA.out
        clear HA
        simp only [ranges_gathered.j1] at H
        by_cases c13 : x25_4 = true
        ·subst c13
         have H1 : (some (([] : List (S59)), 2)) = some (r1, r2) := by rw [if_pos rfl] at H; exact H
         clear H
         have H := H1
         clear H1
         simp only [Option.some.injEq, Prod.mk.injEq] at H
         obtain ⟨rfl, rfl⟩ := H
         go_wp2
         go_ret2
         exact ⟨w, by rw [show l.length = l0.length from HL.out]; exact HG.out, _, by first | rfl | (simp [errW_none, errW_some] <;> rfl) | (simp [*, errW_none, errW_some] <;> rfl), by first | exact Kd.R_nil _ _ _ _ _ | exact Kd.N_nil _ _ _ _ _ | exact Kd.V_nil _ _ _ _ _ | exact Kd.Q_nil _ _ _ _ _ | exact Kd.S_nil _ _ _ _ _, by repeat (first | (with_reducible first | exact HB.out | apply below_alloc | apply pw_below_drewN | apply below_drew1 | refine below_set ?_ GE114.out) | exact HB.out)⟩
        ·replace c13 := Bool.eq_false_iff.mpr c13
         subst c13
         have H1 : (if (x4_1.length : Int) > 0 then (if 0 ≤ (wrap64 ((x4_1.length : Int) - 1)) then (if (wrap64 ((x4_1.length : Int) - 1)) < (x4_1.length : Int) then (if ((rd_T59 l0 x12_1).f0) ≤ (wrap64 (((rd_T59 x4_1 (wrap64 ((x4_1.length : Int) - 1))).f1) + 1)) then (ranges_gathered.l0 kj4 (x4_1.set ((wrap64 ((x4_1.length : Int) - 1)) : Int).toNat (⟨(rd_T59 x4_1 (wrap64 ((x4_1.length : Int) - 1))).f0, mx ((rd_T59 x4_1 (wrap64 ((x4_1.length : Int) - 1))).f1) ((rd_T59 l0 x12_1).f1)⟩ : S59)) l0 (l0.length : Int) (wrap64 (x12_1 + 1))) else (if x4_1.length < 8796093022208 then (ranges_gathered.l0 kj4 (x4_1 ++ [(⟨((rd_T59 l0 x12_1).f0), ((rd_T59 l0 x12_1).f1)⟩ : S59)]) l0 (l0.length : Int) (wrap64 (x12_1 + 1))) else (none))) else (none)) else (none)) else (if x4_1.length < 8796093022208 then (ranges_gathered.l0 kj4 (x4_1 ++ [(⟨((rd_T59 l0 x12_1).f0), ((rd_T59 l0 x12_1).f1)⟩ : S59)]) l0 (l0.length : Int) (wrap64 (x12_1 + 1))) else (none))) = some (r1, r2) := by rw [if_neg (show ¬ (false = true) by decide)] at H; exact H
         clear H
         have H := H1
         clear H1
         by_cases c14 : (x4_1.length : Int) > 0
         ·rw [if_pos c14] at H
          have c14b0 : decide (0 < (x4_1.length : Int)) = true := decide_eq_true c14
          have c14b1 : decide (0 < x4_1.length) = true := decide_eq_true (by omega)
          clear c14
          obtain ⟨ji15, hji15⟩ : ∃ j_ : Int, (wrap64 ((x4_1.length : Int) - 1)) = j_ := ⟨_, rfl⟩
          replace H : (if 0 ≤ (ji15) then (if (ji15) < (x4_1.length : Int) then (if ((rd_T59 l0 x12_1).f0) ≤ (wrap64 (((rd_T59 x4_1 (ji15)).f1) + 1)) then (ranges_gathered.l0 kj4 (x4_1.set ((ji15) : Int).toNat (⟨(rd_T59 x4_1 (ji15)).f0, mx ((rd_T59 x4_1 (ji15)).f1) ((rd_T59 l0 x12_1).f1)⟩ : S59)) l0 (l0.length : Int) (wrap64 (x12_1 + 1))) else (if x4_1.length < 8796093022208 then (ranges_gathered.l0 kj4 (x4_1 ++ [(⟨((rd_T59 l0 x12_1).f0), ((rd_T59 l0 x12_1).f1)⟩ : S59)]) l0 (l0.length : Int) (wrap64 (x12_1 + 1))) else (none))) else (none)) else (none)) = some (r1, r2) := by first | (rw [hji15] at H; exact H) | (simp only [hji15] at H ⊢; exact H)
          have hji15w : (IntKind.i64.wrap ((x4_1.length : Int) - 1)) = ji15 := (i64_w _).trans hji15
          by_cases c16 : 0 ≤ (ji15)
          ·rw [if_pos c16] at H
           have c16b0 : decide (0 ≤ (ji15)) = true := decide_eq_true c16
           clear c16
           by_cases c17 : (ji15) < (x4_1.length : Int)
           ·rw [if_pos c17] at H
            have c17b0 : decide ((ji15) < (x4_1.length : Int)) = true := decide_eq_true c17
            clear c17
            by_cases c18 : ((rd_T59 l0 x12_1).f0) ≤ (wrap64 (((rd_T59 x4_1 (ji15)).f1) + 1))
            ·rw [if_pos c18] at H
             have c18b0 : decide (((rd_T59 l0 x12_1).f0) ≤ (wrap64 (((rd_T59 x4_1 (ji15)).f1) + 1))) = true := decide_eq_true c18
             clear c18
             obtain ⟨ji19, hji19⟩ : ∃ j_ : Int, (mx ((rd_T59 x4_1 (ji15)).f1) ((rd_T59 l0 x12_1).f1)) = j_ := ⟨_, rfl⟩
             replace H : (ranges_gathered.l0 kj4 (x4_1.set ((ji15) : Int).toNat (⟨(rd_T59 x4_1 (ji15)).f0, ji19⟩ : S59)) l0 (l0.length : Int) (wrap64 (x12_1 + 1))) = some (r1, r2) := by first | (rw [hji19] at H; exact H) | (simp only [hji19] at H ⊢; exact H)
             have hji19_ : (if ((rd_T59 x4_1 (ji15)).f1) < ((rd_T59 l0 x12_1).f1) then ((rd_T59 l0 x12_1).f1) else ((rd_T59 x4_1 (ji15)).f1)) = ji19 := hji19
             obtain ⟨y119, hy119⟩ : ∃ y_ : List (S59), y_ = (x4_1.set ((ji15) : Int).toNat (⟨(rd_T59 x4_1 (ji15)).f0, ji19⟩ : S59)) := ⟨_, rfl⟩
             replace H : (ranges_gathered.l0 kj4 y119 l0 (l0.length : Int) (wrap64 (x12_1 + 1))) = some (r1, r2) := by first | (rw [hy119]; with_reducible exact H) | (have H2_ := (Option.bind_some _ _).symm.trans H; rw [hy119]; with_reducible exact H2_) | (have H2_ := (Option.bind_some _ _).symm.trans H; with_reducible exact H2_) | with_reducible exact H | (rw [hy119]; exact H) | exact H
             have Ny119 := Aside0.mk hy119
             clear hy119
             have H' := Aside0.mk H
             clear H
             obtain ⟨Ao21, co21, eo21⟩ := Kd.R_slice HO_4.out
             subst eo21
             try go_wp2
             have n0_ := Aside0.mk (Kd.R_drew HO_4.out)
             have n1_ := Aside0.mk (blk_drew BK114.out)
             have n2_ := Aside0.mk (below_drew1 HB.out)
             clear HO_4
             clear BK114
             clear HB
             have HO_4 := n0_
             have BK114 := n1_
             have HB := n2_
             clear n0_ n1_ n2_
             have p117 : 0 ≤ ((ji15) : Int) := of_decide_eq_true aq
             have q117 : (ji15) < (x4_1.length : Int) := of_decide_eq_true aq
             obtain ⟨ad117, e117, hx117_0, hx117_1⟩ := at_T59 (Kd.R_reads' HO_4.out).2.2 (ji15) p117 q117
             cases e117
             replace p117 := eq_true p117
             replace q117 := eq_true q117
             refine start_ (n := 14) (S := fun w' => w'.cell? ⟨gb114, 0, none⟩ = some (.int .i64 ((rd_T59 l0 x12_1).f0)) ∧ w'.cell? ⟨gb114, 1, none⟩ = some (.int .i64 ((rd_T59 l0 x12_1).f1)) ∧ w'.cell? (ad117.add (((ji15)).toNat * 2)) = some (.int .i64 ((rd_T59 x4_1 (ji15)).f0)) ∧ w'.cell? ⟨(ad117.add (((ji15)).toNat * 2)).block, (ad117.add (((ji15)).toNat * 2)).off + 1, none⟩ = some (.int .i64 ((rd_T59 x4_1 (ji15)).f1))) (ds := []) #[false, false, false, false, false, false, false, false, false, false, false, false, false, false] (by kernel_rfl) rfl rfl ⟨(blk_cell BK114.out 0).trans rfl, (blk_cell BK114.out 1).trans rfl, hx117_0, hx117_1⟩ (fun hHeld => ?_); refine with_tabW ranges_gathered.tab9 ranges_gathered.bits9 (fun HT_ HW_ => ?_)
             generalize wc.drew = w22 at HO_4 BK114 HB hx117_0 hx117_1 hHeld ⊢
             refine pure_ (i := 0) (N := some 28) (v := ?_) (a' := ?_) #[true, false, false, false, false, false, false, false, false, false, false, false, false, false] rfl rfl (any_of HT_.out (by kernel_rfl)) (fun _ _ _ h => h) (Or.inl ⟨by rfl, ?_⟩) ?_ ?_
             rotate_left
             ·intro w'
              go_simp
              with_reducible rfl
             rotate_left
             ·simp only [pq]
              rfl
             refine pure_ (i := 1) (N := some 29) (v := ?_) (a' := ?_) #[true, true, false, false, false, false, false, false, false, false, false, false, false, false] rfl rfl (any_of HT_.out (by kernel_rfl)) (fun _ _ _ h => h) (Or.inl ⟨by rfl, ?_⟩) ?_ ?_
             rotate_left
             ·intro w'
              go_simp
              with_reducible rfl
             rotate_left
             ·simp only [pq]
              rfl
             refine pure_ (i := 2) (N := some 30) (v := ?_) (a' := ?_) #[true, true, true, false, false, false, false, false, false, false, false, false, false, false] rfl rfl (any_of HT_.out (by kernel_rfl)) (fun _ _ _ h => h) (Or.inl ⟨by rfl, ?_⟩) ?_ ?_
             rotate_left
             ·intro w'
              go_simp
              with_reducible rfl
             rotate_left
             ·simp only [pq]
              rfl
             refine pure_ (i := 3) (N := some 31) (v := ?_) (a' := ?_) #[true, true, true, true, false, false, false, false, false, false, false, false, false, false] rfl rfl (any_of HT_.out (by kernel_rfl)) (fun _ _ _ h => h) (Or.inl ⟨by rfl, ?_⟩) ?_ ?_
             rotate_left
             ·intro w'
              go_simp
              with_reducible rfl
             rotate_left
             ·simp only [pq]
              rfl
             refine pure_ (i := 5) (N := some 33) (v := ?_) (a' := ?_) #[true, true, true, true, false, true, false, false, false, false, false, false, false, false] rfl rfl (any_of HT_.out (by kernel_rfl)) (fun _ _ _ h => h) (Or.inl ⟨by rfl, ?_⟩) ?_ ?_
             rotate_left
             ·intro w'
              go_simp
              with_reducible rfl
             rotate_left
             ·simp only [pq]
              rfl
             refine pure_ (i := 6) (N := some 34) (v := ?_) (a' := ?_) #[true, true, true, true, false, true, true, false, false, false, false, false, false, false] rfl rfl (any_of HT_.out (by kernel_rfl)) (fun _ _ _ h => h) (Or.inl ⟨by rfl, ?_⟩) ?_ ?_
             rotate_left
             ·intro w'
              go_simp
              with_reducible rfl
             rotate_left
             ·simp only [pq]
              rfl
             refine pure_ (i := 7) (N := some 35) (v := ?_) (a' := ?_) #[true, true, true, true, false, true, true, true, false, false, false, false, false, false] rfl rfl (any_of HT_.out (by kernel_rfl)) (fun _ _ _ h => h) (Or.inl ⟨by rfl, ?_⟩) ?_ ?_
             rotate_left
             ·intro w'
              go_simp
              with_reducible rfl
             rotate_left
             ·simp only [pq]
              rfl
             refine pure_ (i := 8) (N := some 36) (v := ?_) (a' := ?_) #[true, true, true, true, false, true, true, true, true, false, false, false, false, false] rfl rfl (any_of HT_.out (by kernel_rfl)) (fun _ _ _ h => h) (Or.inl ⟨by rfl, ?_⟩) ?_ ?_
             rotate_left
             ·intro w'
              go_simp
              with_reducible rfl
             rotate_left
             ·simp only [pq]
              rfl
             refine pure_ (i := 9) (N := some 37) (v := ?_) (a' := ?_) #[true, true, true, true, false, true, true, true, true, true, false, false, false, false] rfl rfl (any_of HT_.out (by kernel_rfl)) (fun _ _ _ h => h) (Or.inl ⟨by rfl, ?_⟩) ?_ ?_
             rotate_left
             ·intro w'
              go_simp
              with_reducible rfl
             rotate_left
             ·simp only [pq]
              rfl
             refine take_ (i := 4) (N := some 32) (v := ?_) (a' := ?_) #[true, true, true, true, true, true, true, true, true, true, false, false, false, false] rfl rfl (take_ofW HT_.out HW_.out (by kernel_rfl)) (fun _ _ _ h => h) (Or.inl ⟨by rfl, ?_⟩) hHeld ?_ ?_
             rotate_left
             ·rintro w' ⟨s0, s1, s2, s3⟩
              go_simp
              with_reducible rfl
             rotate_left
             ·simp only [pq]
              rfl
             refine take_ (i := 10) (N := some 38) (v := ?_) (a' := ?_) #[true, true, true, true, true, true, true, true, true, true, true, false, false, false] rfl rfl (take_ofW HT_.out HW_.out (by kernel_rfl)) (fun _ _ _ h => h) (Or.inl ⟨by rfl, ?_⟩) hHeld ?_ ?_
             rotate_left
             ·rintro w' ⟨s0, s1, s2, s3⟩
              go_simp
              with_reducible rfl
             rotate_left
             ·simp only [pq]
              rfl
             refine pure_ (i := 11) (N := some 39) (v := ?_) (a' := ?_) #[true, true, true, true, true, true, true, true, true, true, true, true, false, false] rfl rfl (any_of HT_.out (by kernel_rfl)) (fun _ _ _ h => h) (Or.inl ⟨by rfl, ?_⟩) ?_ ?_
             rotate_left
             ·intro w'
              go_simp
              with_reducible rfl
             rotate_left
             ·simp only [pq]
              rfl
             refine pure_ (i := 12) (N := some 40) (v := ?_) (a' := ?_) #[true, true, true, true, true, true, true, true, true, true, true, true, true, false] rfl rfl (any_of HT_.out (by kernel_rfl)) (fun _ _ _ h => h) (Or.inl ⟨by rfl, ?_⟩) ?_ ?_
             rotate_left
             ·intro w'
              go_simp
              with_reducible rfl
             rotate_left
             ·simp only [pq]
              rfl
             refine pure_ (i := 13) (N := some 41) (v := ?_) (a' := ?_) #[true, true, true, true, true, true, true, true, true, true, true, true, true, true] rfl rfl (any_of HT_.out (by kernel_rfl)) (fun _ _ _ h => h) (Or.inl ⟨by rfl, ?_⟩) ?_ ?_
             rotate_left
             ·intro w'
              go_simp
              with_reducible rfl
             rotate_left
             ·simp only [pq]
              rfl
             refine done_ (done_of HT_.out (by kernel_rfl)) ?_
             try go_wp2
             have n0_ := Aside0.mk (Kd.R_drew HO_4.out)
             have n1_ := Aside0.mk (blk_drew BK114.out)
             have n2_ := Aside0.mk (below_drew1 HB.out)
             clear HO_4
             clear BK114
             clear HB
             have HO_4 := n0_
             have BK114 := n1_
             have HB := n2_
             clear n0_ n1_ n2_
             have p118 : 0 ≤ ((ji15) : Int) := of_decide_eq_true aq
             have q118 : (ji15) < (x4_1.length : Int) := of_decide_eq_true aq
             obtain ⟨ad118, e118, hx118_0, hx118_1⟩ := at_T59 (Kd.R_reads' HO_4.out).2.2 (ji15) p118 q118
             obtain rfl : ad117 = ad118 := (by injection e118)
             replace p118 := eq_true p118
             replace q118 := eq_true q118
             have p20 : 0 ≤ ((ji15) : Int) := of_decide_eq_true aq
             have q20 : ((ji15) : Int) < ((x4_1.length : Int) : Int) := of_decide_eq_true aq
             obtain ⟨go20, co20, eo20, gb20, gl20, cl20, HG20⟩ := Kd.R_form HO_4.out (by omega)
             (first | cases eo20 | (injection eo20 with ea_ en_ ec_; (first | subst ea_ | (injection ea_ with ea_; subst ea_)); subst ec_; clear en_))
             have GB20 := Aside0.mk gb20
             have GG20 := Aside0.mk HG20
             clear gb20 gl20 HG20
             (first | simp only [add_plain] at hx117_0 | skip)
             (first | simp only [add_plain] at hx117_1 | skip)
             (first | simp only [add_plain] at hx118_0 | skip)
             (first | simp only [add_plain] at hx118_1 | skip)
             obtain ⟨ce20, hcl20, hM20, hcc20, hfr20⟩ := Kd.R_elem HO_4.out z59 ((ji15) : Int) p20 q20
             obtain rfl := k59_openM hM20
             have hx20_0 : World.cell? _ ⟨go20, ((ji15) : Int).toNat * 2, none⟩ = some (.int .i64 ((rd_T59 x4_1 (ji15)).f0)) := hcc20 0 _ rfl
             have hx20_1 : World.cell? _ ⟨go20, ((ji15) : Int).toNat * 2 + 1, none⟩ = some (.int .i64 ((rd_T59 x4_1 (ji15)).f1)) := hcc20 1 _ rfl
             have hf20_0 : World.frozen? _ ⟨go20, ((ji15) : Int).toNat * 2, none⟩ = false := hfr20 0
             have hf20_1 : World.frozen? _ ⟨go20, ((ji15) : Int).toNat * 2 + 1, none⟩ = false := hfr20 1
             clear hcl20 hcc20 hfr20 hM20
             replace p20 := eq_true p20
             replace q20 := eq_true q20
             obtain ⟨ce24, hcl24, hM24, hcc24, hfr24⟩ := Kd.R_elem HO_4.out z59 ((ji15) : Int) (of_decide_eq_true aq) (by have h_ : ((ji15) : Int) < ((x4_1.length : Int) : Int) := of_decide_eq_true aq; first | exact h_ | (have e_ := (Kd.R_reads' HO_4.out).1; omega) | simpa using h_)
             obtain rfl := k59_openM hM24
             have HP24 := (Kd.R_seg HO_4.out ((ji15) : Int) (of_decide_eq_true aq) (by have h_ : ((ji15) : Int) < ((x4_1.length : Int) : Int) := of_decide_eq_true aq; first | exact h_ | (have e_ := (Kd.R_reads' HO_4.out).1; omega) | simpa using h_) (seg := [.int .i64 ji19]) (j := 1) hcl24 hcc24 (show 2 ≤ 2 from by decide) (x' := (⟨(rd_T59 x4_1 (ji15)).f0, ji19⟩ : S59)) (k59_mkM _ _ _ (⟨(rd_T59 x4_1 (ji15)).f0, ji19⟩ : S59) ) (fun _ hk => hk)).1
             rw [← Ny119.out] at HP24
             have HQ24 := Aside0.mk HP24
             clear hcl24 hcc24 hfr24 hM24 HP24
             refine start_ (n := 15) (S := fun w' => w'.cell? ⟨gb114, 0, none⟩ = some (.int .i64 ((rd_T59 l0 x12_1).f0)) ∧ w'.cell? ⟨gb114, 1, none⟩ = some (.int .i64 ((rd_T59 l0 x12_1).f1)) ∧ w'.cell? ⟨go20, ((ji15)).toNat * 2, none⟩ = some (.int .i64 ((rd_T59 x4_1 (ji15)).f0)) ∧ w'.cell? ⟨go20, ((ji15)).toNat * 2 + 1, none⟩ = some (.int .i64 ((rd_T59 x4_1 (ji15)).f1))) (ds := [14]) #[false, false, false, false, false, false, false, false, false, false, false, false, false, false, false] (by kernel_rfl) rfl rfl ⟨(blk_cell BK114.out 0).trans rfl, (blk_cell BK114.out 1).trans rfl, hx118_0, hx118_1⟩ (fun hHeld => ?_); refine with_tabW ranges_gathered.tab10 ranges_gathered.bits10 (fun HT_ HW_ => ?_)
             generalize w22.drew = w23 at HO_4 BK114 HB GG20 HQ24 hf20_0 hf20_1 hx117_0 hx117_1 hx118_0 hx118_1 hx20_0 hx20_1 hHeld ⊢
             refine pure_ (i := 0) (N := some 42) (v := ?_) (a' := ?_) #[true, false, false, false, false, false, false, false, false, false, false, false, false, false, false] rfl rfl (any_of HT_.out (by kernel_rfl)) (fun _ _ _ h => h) (Or.inl ⟨by rfl, ?_⟩) ?_ ?_
             rotate_left
             ·intro w'
              go_simp
              with_reducible rfl
             rotate_left
             ·simp only [pq]
              rfl
             refine pure_ (i := 1) (N := some 43) (v := ?_) (a' := ?_) #[true, true, false, false, false, false, false, false, false, false, false, false, false, false, false] rfl rfl (any_of HT_.out (by kernel_rfl)) (fun _ _ _ h => h) (Or.inl ⟨by rfl, ?_⟩) ?_ ?_
             rotate_left
             ·intro w'
              go_simp
              with_reducible rfl
             rotate_left
             ·simp only [pq]
              rfl
             refine pure_ (i := 2) (N := some 44) (v := ?_) (a' := ?_) #[true, true, true, false, false, false, false, false, false, false, false, false, false, false, false] rfl rfl (any_of HT_.out (by kernel_rfl)) (fun _ _ _ h => h) (Or.inl ⟨by rfl, ?_⟩) ?_ ?_
             rotate_left
             ·intro w'
              go_simp
              with_reducible rfl
             rotate_left
             ·simp only [pq]
              rfl
             refine pure_ (i := 3) (N := some 45) (v := ?_) (a' := ?_) #[true, true, true, true, false, false, false, false, false, false, false, false, false, false, false] rfl rfl (any_of HT_.out (by kernel_rfl)) (fun _ _ _ h => h) (Or.inl ⟨by rfl, ?_⟩) ?_ ?_
             rotate_left
             ·intro w'
              go_simp
              with_reducible rfl
             rotate_left
             ·simp only [pq]
              rfl
             refine pure_ (i := 4) (N := some 46) (v := ?_) (a' := ?_) #[true, true, true, true, true, false, false, false, false, false, false, false, false, false, false] rfl rfl (any_of HT_.out (by kernel_rfl)) (fun _ _ _ h => h) (Or.inl ⟨by rfl, ?_⟩) ?_ ?_
             rotate_left
             ·intro w'
              go_simp
              with_reducible rfl
             rotate_left
             ·simp only [pq]
              rfl
             refine pure_ (i := 5) (N := some 47) (v := ?_) (a' := ?_) #[true, true, true, true, true, true, false, false, false, false, false, false, false, false, false] rfl rfl (any_of HT_.out (by kernel_rfl)) (fun _ _ _ h => h) (Or.inl ⟨by rfl, ?_⟩) ?_ ?_
             rotate_left
             ·intro w'
              go_simp
              with_reducible rfl
             rotate_left
             ·simp only [pq]
              rfl
             refine pure_ (i := 6) (N := some 48) (v := ?_) (a' := ?_) #[true, true, true, true, true, true, true, false, false, false, false, false, false, false, false] rfl rfl (any_of HT_.out (by kernel_rfl)) (fun _ _ _ h => h) (Or.inl ⟨by rfl, ?_⟩) ?_ ?_
             rotate_left
             ·intro w'
              go_simp
              with_reducible rfl
             rotate_left
             ·simp only [pq]
              rfl
             refine pure_ (i := 7) (N := some 49) (v := ?_) (a' := ?_) #[true, true, true, true, true, true, true, true, false, false, false, false, false, false, false] rfl rfl (any_of HT_.out (by kernel_rfl)) (fun _ _ _ h => h) (Or.inl ⟨by rfl, ?_⟩) ?_ ?_
             rotate_left
             ·intro w'
              go_simp
              with_reducible rfl
             rotate_left
             ·simp only [pq]
              rfl
             refine pure_ (i := 9) (N := some 51) (v := ?_) (a' := ?_) #[true, true, true, true, true, true, true, true, false, true, false, false, false, false, false] rfl rfl (any_of HT_.out (by kernel_rfl)) (fun _ _ _ h => h) (Or.inl ⟨by rfl, ?_⟩) ?_ ?_
             rotate_left
             ·intro w'
              go_simp
              with_reducible rfl
             rotate_left
             ·simp only [pq]
              rfl
             refine take_ (i := 8) (N := some 50) (v := ?_) (a' := ?_) #[true, true, true, true, true, true, true, true, true, true, false, false, false, false, false] rfl rfl (take_ofW HT_.out HW_.out (by kernel_rfl)) (fun _ _ _ h => h) (Or.inl ⟨by rfl, ?_⟩) hHeld ?_ ?_
             rotate_left
             ·rintro w' ⟨s0, s1, s2, s3⟩
              go_simp
              with_reducible rfl
             rotate_left
             ·simp only [pq]
              rfl
             refine take_ (i := 10) (N := some 52) (v := ?_) (a' := ?_) #[true, true, true, true, true, true, true, true, true, true, true, false, false, false, false] rfl rfl (take_ofW HT_.out HW_.out (by kernel_rfl)) (fun _ _ _ h => h) (Or.inl ⟨by rfl, ?_⟩) hHeld ?_ ?_
             rotate_left
             ·rintro w' ⟨s0, s1, s2, s3⟩
              go_simp
              with_reducible rfl
             rotate_left
             ·simp only [pq]
              rfl
             refine pure_ (i := 11) (N := some 53) (v := ?_) (a' := ?_) #[true, true, true, true, true, true, true, true, true, true, true, true, false, false, false] rfl rfl (any_of HT_.out (by kernel_rfl)) (fun _ _ _ h => h) (Or.inl ⟨by rfl, ?_⟩) ?_ ?_
             rotate_left
             ·intro w'
              go_simp
              with_reducible rfl
             rotate_left
             ·simp only [pq]
              rfl
             refine pure_ (i := 12) (N := some 54) (v := ?_) (a' := ?_) #[true, true, true, true, true, true, true, true, true, true, true, true, true, false, false] rfl rfl (any_of HT_.out (by kernel_rfl)) (fun _ _ _ h => h) (Or.inl ⟨by rfl, ?_⟩) ?_ ?_
             rotate_left
             ·intro w'
              go_simp
              with_reducible rfl
             rotate_left
             ·simp only [pq]
              rfl
             refine pure_ (i := 13) (N := some 55) (v := ?_) (a' := ?_) #[true, true, true, true, true, true, true, true, true, true, true, true, true, true, false] rfl rfl (any_of HT_.out (by kernel_rfl)) (fun _ _ _ h => h) (Or.inl ⟨by rfl, ?_⟩) ?_ ?_
             rotate_left
             ·intro w'
              go_simp
              with_reducible rfl
             rotate_left
             ·simp only [pq]
              rfl
             refine last_ (i := 14) (N := none) #[true, true, true, true, true, true, true, true, true, true, true, true, true, true, true] rfl rfl (one_of HT_.out (by kernel_rfl)) (by decide) (fun K hK => ?_)
             refine skip_ (w1 := ?_) (by rfl) rfl ?_ ?_
             rotate_left
             ·go_simp
              rfl
             refine hK.out _ _ ?_
             clear hK K
             refine done_ (done_of HT_.out (by kernel_rfl)) ?_
             try go_wp2
             go_roundg kj4
             case measure => have := HK1.out; have := HJ4.out; omega
             case rel => exact ⟨(y119), (wrap64 (x12_1 + 1)), (by first | rfl | (simp; done) | (simp [*]; done)), H', ⟨by have := HK1.out; have := HJ4.out; omega⟩, ⟨by (with_reducible repeat (first | apply Kd.R_alloc | apply Kd.R_drewN | apply Kd.R_drew)); exact Kd.R_mono HQ24.out (fun _ hk => trivial)⟩, ⟨by repeat (first | (with_reducible first | exact HB.out | apply below_alloc | apply pw_below_drewN | apply below_drew1 | refine below_set ?_ GB20.out | refine below_set ?_ GE114.out) | exact HB.out)⟩⟩
            ·rw [if_neg c18] at H
             have c18b0 : decide (((rd_T59 l0 x12_1).f0) ≤ (wrap64 (((rd_T59 x4_1 (ji15)).f1) + 1))) = false := decide_eq_false c18
             clear c18
             by_cases c25 : x4_1.length < 8796093022208
             ·rw [if_pos c25] at H
              have LMc25 := Aside0.mk c25
              clear c25
              obtain ⟨y120, hy120⟩ : ∃ y_ : List (S59), y_ = (x4_1 ++ [(⟨((rd_T59 l0 x12_1).f0), ((rd_T59 l0 x12_1).f1)⟩ : S59)]) := ⟨_, rfl⟩
              replace H : (ranges_gathered.l0 kj4 y120 l0 (l0.length : Int) (wrap64 (x12_1 + 1))) = some (r1, r2) := by first | (rw [hy120]; with_reducible exact H) | (have H2_ := (Option.bind_some _ _).symm.trans H; rw [hy120]; with_reducible exact H2_) | (have H2_ := (Option.bind_some _ _).symm.trans H; with_reducible exact H2_) | with_reducible exact H | (rw [hy120]; exact H) | exact H
              have Ny120 := Aside0.mk hy120
              clear hy120
              have H' := Aside0.mk H
              clear H
              obtain ⟨Ao26, co26, eo26⟩ := Kd.R_slice HO_4.out
              subst eo26
              try go_wp2
              have n0_ := Aside0.mk (Kd.R_drew HO_4.out)
              have n1_ := Aside0.mk (blk_drew BK114.out)
              have n2_ := Aside0.mk (below_drew1 HB.out)
              clear HO_4
              clear BK114
              clear HB
              have HO_4 := n0_
              have BK114 := n1_
              have HB := n2_
              clear n0_ n1_ n2_
              have p117 : 0 ≤ ((ji15) : Int) := of_decide_eq_true aq
              have q117 : (ji15) < (x4_1.length : Int) := of_decide_eq_true aq
              obtain ⟨ad117, e117, hx117_0, hx117_1⟩ := at_T59 (Kd.R_reads' HO_4.out).2.2 (ji15) p117 q117
              cases e117
              replace p117 := eq_true p117
              replace q117 := eq_true q117
              refine start_ (n := 14) (S := fun w' => w'.cell? ⟨gb114, 0, none⟩ = some (.int .i64 ((rd_T59 l0 x12_1).f0)) ∧ w'.cell? ⟨gb114, 1, none⟩ = some (.int .i64 ((rd_T59 l0 x12_1).f1)) ∧ w'.cell? (ad117.add (((ji15)).toNat * 2)) = some (.int .i64 ((rd_T59 x4_1 (ji15)).f0)) ∧ w'.cell? ⟨(ad117.add (((ji15)).toNat * 2)).block, (ad117.add (((ji15)).toNat * 2)).off + 1, none⟩ = some (.int .i64 ((rd_T59 x4_1 (ji15)).f1))) (ds := []) #[false, false, false, false, false, false, false, false, false, false, false, false, false, false] (by kernel_rfl) rfl rfl ⟨(blk_cell BK114.out 0).trans rfl, (blk_cell BK114.out 1).trans rfl, hx117_0, hx117_1⟩ (fun hHeld => ?_); refine with_tabW ranges_gathered.tab9 ranges_gathered.bits9 (fun HT_ HW_ => ?_)
              generalize wc.drew = w27 at HO_4 BK114 HB hx117_0 hx117_1 hHeld ⊢
              refine pure_ (i := 0) (N := some 28) (v := ?_) (a' := ?_) #[true, false, false, false, false, false, false, false, false, false, false, false, false, false] rfl rfl (any_of HT_.out (by kernel_rfl)) (fun _ _ _ h => h) (Or.inl ⟨by rfl, ?_⟩) ?_ ?_
              rotate_left
              ·intro w'
               go_simp
               with_reducible rfl
              rotate_left
              ·simp only [pq]
               rfl
              refine pure_ (i := 1) (N := some 29) (v := ?_) (a' := ?_) #[true, true, false, false, false, false, false, false, false, false, false, false, false, false] rfl rfl (any_of HT_.out (by kernel_rfl)) (fun _ _ _ h => h) (Or.inl ⟨by rfl, ?_⟩) ?_ ?_
              rotate_left
              ·intro w'
               go_simp
               with_reducible rfl
              rotate_left
              ·simp only [pq]
               rfl
              refine pure_ (i := 2) (N := some 30) (v := ?_) (a' := ?_) #[true, true, true, false, false, false, false, false, false, false, false, false, false, false] rfl rfl (any_of HT_.out (by kernel_rfl)) (fun _ _ _ h => h) (Or.inl ⟨by rfl, ?_⟩) ?_ ?_
              rotate_left
              ·intro w'
               go_simp
               with_reducible rfl
              rotate_left
              ·simp only [pq]
               rfl
              refine pure_ (i := 3) (N := some 31) (v := ?_) (a' := ?_) #[true, true, true, true, false, false, false, false, false, false, false, false, false, false] rfl rfl (any_of HT_.out (by kernel_rfl)) (fun _ _ _ h => h) (Or.inl ⟨by rfl, ?_⟩) ?_ ?_
              rotate_left
              ·intro w'
               go_simp
               with_reducible rfl
              rotate_left
              ·simp only [pq]
               rfl
              refine pure_ (i := 5) (N := some 33) (v := ?_) (a' := ?_) #[true, true, true, true, false, true, false, false, false, false, false, false, false, false] rfl rfl (any_of HT_.out (by kernel_rfl)) (fun _ _ _ h => h) (Or.inl ⟨by rfl, ?_⟩) ?_ ?_
              rotate_left
              ·intro w'
               go_simp
               with_reducible rfl
              rotate_left
              ·simp only [pq]
               rfl
              refine pure_ (i := 6) (N := some 34) (v := ?_) (a' := ?_) #[true, true, true, true, false, true, true, false, false, false, false, false, false, false] rfl rfl (any_of HT_.out (by kernel_rfl)) (fun _ _ _ h => h) (Or.inl ⟨by rfl, ?_⟩) ?_ ?_
              rotate_left
              ·intro w'
               go_simp
               with_reducible rfl
              rotate_left
              ·simp only [pq]
               rfl
              refine pure_ (i := 7) (N := some 35) (v := ?_) (a' := ?_) #[true, true, true, true, false, true, true, true, false, false, false, false, false, false] rfl rfl (any_of HT_.out (by kernel_rfl)) (fun _ _ _ h => h) (Or.inl ⟨by rfl, ?_⟩) ?_ ?_
              rotate_left
              ·intro w'
               go_simp
               with_reducible rfl
              rotate_left
              ·simp only [pq]
               rfl
              refine pure_ (i := 8) (N := some 36) (v := ?_) (a' := ?_) #[true, true, true, true, false, true, true, true, true, false, false, false, false, false] rfl rfl (any_of HT_.out (by kernel_rfl)) (fun _ _ _ h => h) (Or.inl ⟨by rfl, ?_⟩) ?_ ?_
              rotate_left
              ·intro w'
               go_simp
               with_reducible rfl
              rotate_left
              ·simp only [pq]
               rfl
              refine pure_ (i := 9) (N := some 37) (v := ?_) (a' := ?_) #[true, true, true, true, false, true, true, true, true, true, false, false, false, false] rfl rfl (any_of HT_.out (by kernel_rfl)) (fun _ _ _ h => h) (Or.inl ⟨by rfl, ?_⟩) ?_ ?_
              rotate_left
              ·intro w'
               go_simp
               with_reducible rfl
              rotate_left
              ·simp only [pq]
               rfl
              refine take_ (i := 4) (N := some 32) (v := ?_) (a' := ?_) #[true, true, true, true, true, true, true, true, true, true, false, false, false, false] rfl rfl (take_ofW HT_.out HW_.out (by kernel_rfl)) (fun _ _ _ h => h) (Or.inl ⟨by rfl, ?_⟩) hHeld ?_ ?_
              rotate_left
              ·rintro w' ⟨s0, s1, s2, s3⟩
               go_simp
               with_reducible rfl
              rotate_left
              ·simp only [pq]
               rfl
              refine take_ (i := 10) (N := some 38) (v := ?_) (a' := ?_) #[true, true, true, true, true, true, true, true, true, true, true, false, false, false] rfl rfl (take_ofW HT_.out HW_.out (by kernel_rfl)) (fun _ _ _ h => h) (Or.inl ⟨by rfl, ?_⟩) hHeld ?_ ?_
              rotate_left
              ·rintro w' ⟨s0, s1, s2, s3⟩
               go_simp
               with_reducible rfl
              rotate_left
              ·simp only [pq]
               rfl
              refine pure_ (i := 11) (N := some 39) (v := ?_) (a' := ?_) #[true, true, true, true, true, true, true, true, true, true, true, true, false, false] rfl rfl (any_of HT_.out (by kernel_rfl)) (fun _ _ _ h => h) (Or.inl ⟨by rfl, ?_⟩) ?_ ?_
              rotate_left
              ·intro w'
               go_simp
               with_reducible rfl
              rotate_left
              ·simp only [pq]
               rfl
              refine pure_ (i := 12) (N := some 40) (v := ?_) (a' := ?_) #[true, true, true, true, true, true, true, true, true, true, true, true, true, false] rfl rfl (any_of HT_.out (by kernel_rfl)) (fun _ _ _ h => h) (Or.inl ⟨by rfl, ?_⟩) ?_ ?_
              rotate_left
              ·intro w'
               go_simp
               with_reducible rfl
              rotate_left
              ·simp only [pq]
               rfl
              refine pure_ (i := 13) (N := some 41) (v := ?_) (a' := ?_) #[true, true, true, true, true, true, true, true, true, true, true, true, true, true] rfl rfl (any_of HT_.out (by kernel_rfl)) (fun _ _ _ h => h) (Or.inl ⟨by rfl, ?_⟩) ?_ ?_
              rotate_left
              ·intro w'
               go_simp
               with_reducible rfl
              rotate_left
              ·simp only [pq]
               rfl
              refine done_ (done_of HT_.out (by kernel_rfl)) ?_
              have hcz28_0 : w27.cell? ⟨gb114, 0, none⟩ = some (.int .i64 ((rd_T59 l0 x12_1).f0)) := (blk_cell BK114.out 0).trans rfl
              have hcz28_1 : w27.cell? ⟨gb114, 1, none⟩ = some (.int .i64 ((rd_T59 l0 x12_1).f1)) := (blk_cell BK114.out 1).trans rfl
              have hfz28_0 := blk_frozen BK114.out 0
              have hfz28_1 := blk_frozen BK114.out 1
              try go_wp2_with (first | ((with_reducible refine gate_builtin (b := .append) (xs := #[.tmp 56, .tmp 58]) rfl ?_); at_builtin; refine Kd.R_append k59 (w0 := w) w.heap.size rfl (.tmp 56) (.tmp 58) 27 59 (.agg #[(.int .i64 0), (.int .i64 0)]) 16 rfl Tryz.underlying27 info59 rfl (by decide) (by omega) (.slice (some ad117) x4_1.length co26) x4_1 (⟨((rd_T59 l0 x12_1).f0), ((rd_T59 l0 x12_1).f1)⟩ : S59) [.int .i64 ((rd_T59 l0 x12_1).f0), .int .i64 ((rd_T59 l0 x12_1).f1)] (fun k_ => k_ ≠ gb114) (fun _ => False) rfl rfl ?aP (fun _ hk => hk.elim) ?aF ?aO ?aB ?aS ?aL ?_; (case aP => exact k59_mkM _ _ _ (⟨((rd_T59 l0 x12_1).f0), ((rd_T59 l0 x12_1).f1)⟩ : S59)); (case aB => exact (by repeat (first | (with_reducible first | exact HB.out | apply below_alloc | apply pw_below_drewN | apply below_drew1 | refine below_set ?_ GE114.out) | exact HB.out))); (case aF => exact (fun k_ hk => Kd.freshB (g := gb114) (o := .cells #[.int .i64 ((rd_T59 l0 x12_1).f0), .int .i64 ((rd_T59 l0 x12_1).f1)] 59 (0, 0)) (bq BK114.out) k_ hk)); (case aO => exact (rq HO_4.out)); (case aS => exact (below_size (by repeat (first | (with_reducible first | exact HB.out | apply below_alloc | apply pw_below_drewN | apply below_drew1 | refine below_set ?_ GE114.out) | exact HB.out)))); (case aL => have := LMc25.out; omega); intro v121 w29 ho hb hg hat; rw [← Ny120.out] at ho; have n0_ := Aside0.mk (blk_grown (g := gb114) (o := .cells #[.int .i64 ((rd_T59 l0 x12_1).f0), .int .i64 ((rd_T59 l0 x12_1).f1)] 59 (0, 0)) (bq BK114.out) hg (Kd.R_away HO_4.out (fun _ hk => hk))); have n1_ := Aside0.mk (hb); have n2_ := Aside0.mk (ho); clear BK114; clear HB; clear HO_4; have BK114 := n0_; have HB := n1_; have HO122 := n2_; clear n0_ n1_ n2_; clear ho hb hg hat))
              go_roundg kj4
              case measure => have := HK1.out; have := HJ4.out; omega
              case rel => exact ⟨(y120), (wrap64 (x12_1 + 1)), (by first | rfl | (simp; done) | (simp [*]; done)), H', ⟨by have := HK1.out; have := HJ4.out; omega⟩, ⟨by (with_reducible repeat (first | apply Kd.R_alloc | apply Kd.R_drewN | apply Kd.R_drew)); exact Kd.R_mono HO122.out (fun _ hk => trivial)⟩, ⟨by repeat (first | (with_reducible first | exact HB.out | apply below_alloc | apply pw_below_drewN | apply below_drew1 | refine below_set ?_ GE114.out) | exact HB.out)⟩⟩
             ·rw [if_neg c25] at H
              exact absurd H (by simp)
           ·rw [if_neg c17] at H
            exact absurd H (by simp)
          ·rw [if_neg c16] at H
           exact absurd H (by simp)
         ·rw [if_neg c14] at H
          have c14b0 : decide (0 < (x4_1.length : Int)) = false := decide_eq_false c14
          have c14b1 : decide (0 < x4_1.length) = false := decide_eq_false (by omega)
          clear c14
          by_cases c30 : x4_1.length < 8796093022208
          ·rw [if_pos c30] at H
           have LMc30 := Aside0.mk c30
           clear c30
           obtain ⟨y123, hy123⟩ : ∃ y_ : List (S59), y_ = (x4_1 ++ [(⟨((rd_T59 l0 x12_1).f0), ((rd_T59 l0 x12_1).f1)⟩ : S59)]) := ⟨_, rfl⟩
           replace H : (ranges_gathered.l0 kj4 y123 l0 (l0.length : Int) (wrap64 (x12_1 + 1))) = some (r1, r2) := by first | (rw [hy123]; with_reducible exact H) | (have H2_ := (Option.bind_some _ _).symm.trans H; rw [hy123]; with_reducible exact H2_) | (have H2_ := (Option.bind_some _ _).symm.trans H; with_reducible exact H2_) | with_reducible exact H | (rw [hy123]; exact H) | exact H
           have Ny123 := Aside0.mk hy123
           clear hy123
           have H' := Aside0.mk H
           clear H
           obtain ⟨Ao31, co31, eo31⟩ := Kd.R_slice HO_4.out
           subst eo31
           try go_wp2
           have n0_ := Aside0.mk (Kd.R_drew HO_4.out)
           have n1_ := Aside0.mk (blk_drew BK114.out)
           have n2_ := Aside0.mk (below_drew1 HB.out)
           clear HO_4
           clear BK114
           clear HB
           have HO_4 := n0_
           have BK114 := n1_
           have HB := n2_
           clear n0_ n1_ n2_
           refine start_ (n := 14) (S := fun w' => True) (ds := []) #[false, false, false, false, false, false, false, false, false, false, false, false, false, false] (by kernel_rfl) rfl rfl trivial (fun hHeld => ?_); refine with_tabW ranges_gathered.tab9 ranges_gathered.bits9 (fun HT_ HW_ => ?_)
           generalize wc.drew = w32 at HO_4 BK114 HB hHeld ⊢
           refine pure_ (i := 0) (N := some 28) (v := ?_) (a' := ?_) #[true, false, false, false, false, false, false, false, false, false, false, false, false, false] rfl rfl (any_of HT_.out (by kernel_rfl)) (fun _ _ _ h => h) (Or.inl ⟨by rfl, ?_⟩) ?_ ?_
           rotate_left
           ·intro w'
            go_simp
            with_reducible rfl
           rotate_left
           ·simp only [pq]
            rfl
           refine pure_ (i := 1) (N := some 29) (v := ?_) (a' := ?_) #[true, true, false, false, false, false, false, false, false, false, false, false, false, false] rfl rfl (any_of HT_.out (by kernel_rfl)) (fun _ _ _ h => h) (Or.inl ⟨by rfl, ?_⟩) ?_ ?_
           rotate_left
           ·intro w'
            go_simp
            with_reducible rfl
           rotate_left
           ·simp only [pq]
            rfl
           refine pure_ (i := 2) (N := some 30) (v := ?_) (a' := ?_) #[true, true, true, false, false, false, false, false, false, false, false, false, false, false] rfl rfl (any_of HT_.out (by kernel_rfl)) (fun _ _ _ h => h) (Or.inl ⟨by rfl, ?_⟩) ?_ ?_
           rotate_left
           ·intro w'
            go_simp
            with_reducible rfl
           rotate_left
           ·simp only [pq]
            rfl
           refine pure_ (i := 3) (N := some 31) (v := undef) (a' := ?_) #[true, true, true, true, false, false, false, false, false, false, false, false, false, false] rfl rfl (any_of HT_.out (by kernel_rfl)) (fun _ _ _ h => h) (Or.inr ⟨by rfl, rfl⟩) ?_ ?_
           rotate_left
           ·simp only [pq]
            rfl
           refine pure_ (i := 4) (N := some 32) (v := undef) (a' := ?_) #[true, true, true, true, true, false, false, false, false, false, false, false, false, false] rfl rfl (any_of HT_.out (by kernel_rfl)) (fun _ _ _ h => h) (Or.inr ⟨by rfl, rfl⟩) ?_ ?_
           rotate_left
           ·simp only [pq]
            rfl
           refine pure_ (i := 5) (N := some 33) (v := undef) (a' := ?_) #[true, true, true, true, true, true, false, false, false, false, false, false, false, false] rfl rfl (any_of HT_.out (by kernel_rfl)) (fun _ _ _ h => h) (Or.inr ⟨by rfl, rfl⟩) ?_ ?_
           rotate_left
           ·simp only [pq]
            rfl
           refine pure_ (i := 6) (N := some 34) (v := undef) (a' := ?_) #[true, true, true, true, true, true, true, false, false, false, false, false, false, false] rfl rfl (any_of HT_.out (by kernel_rfl)) (fun _ _ _ h => h) (Or.inr ⟨by rfl, rfl⟩) ?_ ?_
           rotate_left
           ·simp only [pq]
            rfl
           refine pure_ (i := 7) (N := some 35) (v := undef) (a' := ?_) #[true, true, true, true, true, true, true, true, false, false, false, false, false, false] rfl rfl (any_of HT_.out (by kernel_rfl)) (fun _ _ _ h => h) (Or.inr ⟨by rfl, rfl⟩) ?_ ?_
           rotate_left
           ·simp only [pq]
            rfl
           refine pure_ (i := 8) (N := some 36) (v := undef) (a' := ?_) #[true, true, true, true, true, true, true, true, true, false, false, false, false, false] rfl rfl (any_of HT_.out (by kernel_rfl)) (fun _ _ _ h => h) (Or.inr ⟨by rfl, rfl⟩) ?_ ?_
           rotate_left
           ·simp only [pq]
            rfl
           refine pure_ (i := 9) (N := some 37) (v := undef) (a' := ?_) #[true, true, true, true, true, true, true, true, true, true, false, false, false, false] rfl rfl (any_of HT_.out (by kernel_rfl)) (fun _ _ _ h => h) (Or.inr ⟨by rfl, rfl⟩) ?_ ?_
           rotate_left
           ·simp only [pq]
            rfl
           refine pure_ (i := 10) (N := some 38) (v := undef) (a' := ?_) #[true, true, true, true, true, true, true, true, true, true, true, false, false, false] rfl rfl (any_of HT_.out (by kernel_rfl)) (fun _ _ _ h => h) (Or.inr ⟨by rfl, rfl⟩) ?_ ?_
           rotate_left
           ·simp only [pq]
            rfl
           refine pure_ (i := 11) (N := some 39) (v := undef) (a' := ?_) #[true, true, true, true, true, true, true, true, true, true, true, true, false, false] rfl rfl (any_of HT_.out (by kernel_rfl)) (fun _ _ _ h => h) (Or.inr ⟨by rfl, rfl⟩) ?_ ?_
           rotate_left
           ·simp only [pq]
            rfl
           refine pure_ (i := 12) (N := some 40) (v := undef) (a' := ?_) #[true, true, true, true, true, true, true, true, true, true, true, true, true, false] rfl rfl (any_of HT_.out (by kernel_rfl)) (fun _ _ _ h => h) (Or.inr ⟨by rfl, rfl⟩) ?_ ?_
           rotate_left
           ·simp only [pq]
            rfl
           refine pure_ (i := 13) (N := some 41) (v := ?_) (a' := ?_) #[true, true, true, true, true, true, true, true, true, true, true, true, true, true] rfl rfl (any_of HT_.out (by kernel_rfl)) (fun _ _ _ h => h) (Or.inl ⟨by rfl, ?_⟩) ?_ ?_
           rotate_left
           ·intro w'
            go_simp
            with_reducible rfl
           rotate_left
           ·simp only [pq]
            rfl
           refine done_ (done_of HT_.out (by kernel_rfl)) ?_
           have hcz33_0 : w32.cell? ⟨gb114, 0, none⟩ = some (.int .i64 ((rd_T59 l0 x12_1).f0)) := (blk_cell BK114.out 0).trans rfl
           have hcz33_1 : w32.cell? ⟨gb114, 1, none⟩ = some (.int .i64 ((rd_T59 l0 x12_1).f1)) := (blk_cell BK114.out 1).trans rfl
           have hfz33_0 := blk_frozen BK114.out 0
           have hfz33_1 := blk_frozen BK114.out 1
           try go_wp2_with (first | ((with_reducible refine gate_builtin (b := .append) (xs := #[.tmp 56, .tmp 58]) rfl ?_); at_builtin; refine Kd.R_append k59 (w0 := w) w.heap.size rfl (.tmp 56) (.tmp 58) 27 59 (.agg #[(.int .i64 0), (.int .i64 0)]) 16 rfl Tryz.underlying27 info59 rfl (by decide) (by omega) (.slice Ao31 x4_1.length co31) x4_1 (⟨((rd_T59 l0 x12_1).f0), ((rd_T59 l0 x12_1).f1)⟩ : S59) [.int .i64 ((rd_T59 l0 x12_1).f0), .int .i64 ((rd_T59 l0 x12_1).f1)] (fun k_ => k_ ≠ gb114) (fun _ => False) rfl rfl ?aP (fun _ hk => hk.elim) ?aF ?aO ?aB ?aS ?aL ?_; (case aP => exact k59_mkM _ _ _ (⟨((rd_T59 l0 x12_1).f0), ((rd_T59 l0 x12_1).f1)⟩ : S59)); (case aB => exact (by repeat (first | (with_reducible first | exact HB.out | apply below_alloc | apply pw_below_drewN | apply below_drew1 | refine below_set ?_ GE114.out) | exact HB.out))); (case aF => exact (fun k_ hk => Kd.freshB (g := gb114) (o := .cells #[.int .i64 ((rd_T59 l0 x12_1).f0), .int .i64 ((rd_T59 l0 x12_1).f1)] 59 (0, 0)) (bq BK114.out) k_ hk)); (case aO => exact (rq HO_4.out)); (case aS => exact (below_size (by repeat (first | (with_reducible first | exact HB.out | apply below_alloc | apply pw_below_drewN | apply below_drew1 | refine below_set ?_ GE114.out) | exact HB.out)))); (case aL => have := LMc30.out; omega); intro v124 w34 ho hb hg hat; rw [← Ny123.out] at ho; have n0_ := Aside0.mk (blk_grown (g := gb114) (o := .cells #[.int .i64 ((rd_T59 l0 x12_1).f0), .int .i64 ((rd_T59 l0 x12_1).f1)] 59 (0, 0)) (bq BK114.out) hg (Kd.R_away HO_4.out (fun _ hk => hk))); have n1_ := Aside0.mk (hb); have n2_ := Aside0.mk (ho); clear BK114; clear HB; clear HO_4; have BK114 := n0_; have HB := n1_; have HO125 := n2_; clear n0_ n1_ n2_; clear ho hb hg hat))
           go_roundg kj4
           case measure => have := HK1.out; have := HJ4.out; omega
           case rel => exact ⟨(y123), (wrap64 (x12_1 + 1)), (by first | rfl | (simp; done) | (simp [*]; done)), H', ⟨by have := HK1.out; have := HJ4.out; omega⟩, ⟨by (with_reducible repeat (first | apply Kd.R_alloc | apply Kd.R_drewN | apply Kd.R_drew)); exact Kd.R_mono HO125.out (fun _ hk => trivial)⟩, ⟨by repeat (first | (with_reducible first | exact HB.out | apply below_alloc | apply pw_below_drewN | apply below_drew1 | refine below_set ?_ GE114.out) | exact HB.out)⟩⟩
          ·rw [if_neg c30] at H
           exact absurd H (by simp)
     ·rw [if_neg c4] at H
      exact absurd H (by simp)
    ·rw [if_neg c3] at H
     exact absurd H (by simp)
   ·rw [if_neg c2] at H
    have c2b0 : decide (x12_1 < (l0.length : Int)) = false := decide_eq_false c2
    clear c2
    by_cases c35 : (x4_1.length : Int) > 64
    ·rw [if_pos c35] at H
     have c35b0 : decide (64 < (x4_1.length : Int)) = true := decide_eq_true c35
     have c35b1 : decide (64 < x4_1.length) = true := decide_eq_true (by omega)
     clear c35
     simp only [Option.some.injEq, Prod.mk.injEq] at H
     obtain ⟨rfl, rfl⟩ := H
     obtain ⟨Ao36, co36, eo36⟩ := Kd.R_slice HO_4.out
     subst eo36
     go_wp2
     go_ret2
     exact ⟨w, by rw [show l.length = l0.length from HL.out]; exact HG.out, _, by first | rfl | (simp [errW_none, errW_some] <;> rfl) | (simp [*, errW_none, errW_some] <;> rfl), by first | exact Kd.R_nil _ _ _ _ _ | exact Kd.N_nil _ _ _ _ _ | exact Kd.V_nil _ _ _ _ _ | exact Kd.Q_nil _ _ _ _ _ | exact Kd.S_nil _ _ _ _ _, by repeat (first | (with_reducible first | exact HB.out | apply below_alloc | apply pw_below_drewN | apply below_drew1) | exact HB.out)⟩
    ·rw [if_neg c35] at H
     have c35b0 : decide (64 < (x4_1.length : Int)) = false := decide_eq_false c35
     have c35b1 : decide (64 < x4_1.length) = false := decide_eq_false (by omega)
     clear c35
     simp only [Option.some.injEq, Prod.mk.injEq] at H
     obtain ⟨rfl, rfl⟩ := H
     obtain ⟨Ao37, co37, eo37⟩ := Kd.R_slice HO_4.out
     subst eo37
     go_wp2
     go_ret2
     exact ⟨w, by rw [show l.length = l0.length from HL.out]; exact HG.out, _, by first | rfl | (simp [errW_none, errW_some] <;> rfl) | (simp [*, errW_none, errW_some] <;> rfl), by (with_reducible repeat (first | apply Kd.R_alloc | apply Kd.R_drewN | apply Kd.R_drew)); exact HO_4.out, by repeat (first | (with_reducible first | exact HB.out | apply below_alloc | apply pw_below_drewN | apply below_drew1) | exact HB.out)⟩
end Go.Proofs.YtgakfgedaipdmaaGreatDoor.P
