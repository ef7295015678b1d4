/- What stores, places, windows, queries and the order of hits are, for any arguments.
 Proved for every input that the statement's row lets in; it has no further conditions. -/
import Derived.Test.YtkeddnagijjbaaaGreatRows
import Derived.ProofKit
import Derived.OpenShut
import Derived.ShutString
import Derived.ChangeOld
import Derived.Below
import Derived.SizedLaws
import Derived.Test.YtkeddnagijjbaaaGreatPStoreRaw
namespace Go.Proofs.YtkeddnagijjbaaaGreat.storeRaw
open Go Go.ChangeShapes Go.WideShapes Go.ChangeAt Go.RowKit
open Go.ChangeMaps (open_string shut_string)
set_option linter.unusedVariables false
theorem own : ownKnob Tryz.prog.godebug = none := by kernel_rfl
theorem laidOut : laidOutB Tryz.prog = true := by kernel_rfl
theorem orders : Tryz.prog.follows .mixedOrders = true := by kernel_rfl
def IsRow (k : IntKind) (w : World) (a : Option Addr) (len cap : Nat) (zs : List Int) : Prop :=
 (a = none ∧ len = 0 ∧ cap = 0 ∧ zs = []) ∨
 ∃ x, a = some x ∧ len ≤ cap ∧ cap ≤ maxLen ∧ zs.length = cap ∧ (∀ i, i < zs.length → w.cell? (x.add i) = some (.int k (zs.getD i 0))) ∧ ∀ n ∈ zs, (Lit.int k n).wf = true
set_option maxRecDepth 100000 in
theorem lifted (os : Os) (started : os.Started) (H : Type) (enc : TypeId × Value → H) :
 ReturnsInHanded {} Tryz.checked os 4 .any (Rows.storeRawSpec.pre6 enc Tryz.prog Tryz.f4 Rows.storeRawRow.domain false) (Rows.storeRawSpec.post enc Tryz.prog Tryz.f4 false true false false) := by
 refine returnsInHanded_of_change_sized (C := Tryz.checked) own started (by kernel_rfl) Tryz.func4
  (ChangeSpec.witness6 (enc := enc) (C := Tryz.checked) false ⟨#[], #[.agg #[.slice none 0 0], .agg #[.int .i64 0, .int .i64 0], .int .i64 0, .agg #[.int .i64 0, .int .i64 0, .int .i64 0], .slice none 0 0, .agg #[.int .i64 0, .int .i64 0, .int .i64 0, .int .i64 0], .agg #[.int .i64 0, .int .i64 0, .int .i64 0, .int .i64 0]], []⟩ 8 (by kernel_rfl) (by kernel_rfl) (by kernel_rfl) (by kernel_rfl)) ?_
 intro W base args ds gs before hval0 hW hcnd hsz0 _
 have hval : ∀ (j : Nat) t v, Tryz.f4.params[j]? = some t → args[j]? = some v → Value.okWide Tryz.prog W .any base t v := hval0
 have hW' := hW
 obtain ⟨p, q, hA0, hV, rfl, hfz, hnd⟩ := hW
 have hA : DataW.TrodAll enc Tryz.prog W 0 (fun _ => true) true Tryz.f4.params.toList args.toList ds p := hA0
 rw [Tryz.params4] at hA hval
 obtain ⟨v0, vs0, d0, ds0, p0, q0, hargs, rfl, rfl, h0, r0⟩ := trodAll_cons hA
 obtain ⟨v1, vs1, d1, ds1, p1, q1, rfl, rfl, rfl, h1, r1⟩ := trodAll_cons r0
 obtain ⟨v2, vs2, d2, ds2, p2, q2, rfl, rfl, rfl, h2, r2⟩ := trodAll_cons r1
 obtain ⟨v3, vs3, d3, ds3, p3, q3, rfl, rfl, rfl, h3, r3⟩ := trodAll_cons r2
 obtain ⟨v4, vs4, d4, ds4, p4, q4, rfl, rfl, rfl, h4, r4⟩ := trodAll_cons r3
 obtain ⟨v5, vs5, d5, ds5, p5, q5, rfl, rfl, rfl, h5, r5⟩ := trodAll_cons r4
 obtain ⟨v6, vs6, d6, ds6, p6, q6, rfl, rfl, rfl, h6, r6⟩ := trodAll_cons r5
 obtain ⟨rfl, rfl, rfl⟩ := trodAll_nil r6
 obtain rfl : args = #[v0, v1, v2, v3, v4, v5, v6] := by cases args; simp_all
 obtain ⟨rfl, rfl⟩ := trodVars_none hV
 obtain ⟨b0, rfl, sz0⟩ := okWide_struct Tryz.underlying29 (hval 0 29 v0 rfl rfl)
 have k0 := h0
 have lt0 : ∀ x ∈ p0, x.block < W.heap.size := by obtain ⟨m, hm⟩ := k0; exact DataW.trod_lt m _ _ _ hm
 have sz0' : b0.toList.length = 1 := by rw [Array.length_toList, sz0]; kernel_rfl
 obtain ⟨c0_0, hb0⟩ : ∃ c0_0, b0.toList = [c0_0] := by
  match b0.toList, sz0' with
  | [c0_0], _ => exact ⟨_, rfl⟩
 obtain rfl : b0 = #[c0_0] := by cases b0; simp_all
 obtain ⟨fuel0, hf0⟩ := h0
 have hf0' : DataW.trod enc Tryz.prog W 0 (fun _ => true) true fuel0 29 [c0_0] = some (d0, p0) := hf0
 obtain ⟨xs0_1, n0_1, _, hx0_1, _, hl0_1, hg0_1⟩ := DataW.trod_struct Tryz.underlying29 hf0'
 have hw0_1 := weights_arg hsz0 (j := 0) (t := 29) (d := d0) rfl rfl
 rw [show d0 = .agg (xs0_1.map (·.1)) from congrArg Prod.fst hx0_1] at hw0_1
 obtain ⟨y0_2, hy0_2⟩ : ∃ y, xs0_1[0]? = some y := ⟨_, List.getElem?_eq_getElem (by rw [hl0_1]; decide)⟩
 have g0_2 : DataW.trod enc Tryz.prog W 0 (fun _ => true) true n0_1 27 ((([c0_0] : List Value).drop 0).take (Tryz.prog.cellsOf 27)) = some y0_2 := (hg0_1 0 _ rfl).trans hy0_2
 have e0_2 : (([c0_0] : List Value).drop 0).take (Tryz.prog.cellsOf 27) = [c0_0] := by kernel_rfl
 rw [e0_2] at g0_2
 obtain ⟨a0_2, len0_2, cap0_2, z0_2, q0_2, w0_2⟩ := open_rows (k := .i64) Tryz.underlying27 Tryz.underlying22 Tryz.underlying3 (by kernel_rfl) (by kernel_rfl) (by kernel_rfl) (weights_field Tryz.underlying29 hw0_1 (j := 0) rfl (by rw [List.getElem?_map, hy0_2]; rfl)) g0_2
 obtain rfl : c0_0 = _ := q0_2
 obtain ⟨b1, rfl, sz1⟩ := okWide_struct Tryz.underlying50 (hval 1 50 v1 rfl rfl)
 have k1 := h1
 have lt1 : ∀ x ∈ p1, x.block < W.heap.size := by obtain ⟨m, hm⟩ := k1; exact DataW.trod_lt m _ _ _ hm
 have sz1' : b1.toList.length = 2 := by rw [Array.length_toList, sz1]; kernel_rfl
 obtain ⟨c1_0, c1_1, hb1⟩ : ∃ c1_0 c1_1, b1.toList = [c1_0, c1_1] := by
  match b1.toList, sz1' with
  | [c1_0, c1_1], _ => exact ⟨_, _, rfl⟩
 obtain rfl : b1 = #[c1_0, c1_1] := by cases b1; simp_all
 obtain ⟨fuel1, hf1⟩ := h1
 have hf1' : DataW.trod enc Tryz.prog W 0 (fun _ => true) true fuel1 50 [c1_0, c1_1] = some (d1, p1) := hf1
 obtain ⟨xs1_1, n1_1, _, _, _, hl1_1, hg1_1⟩ := DataW.trod_struct Tryz.underlying50 hf1'
 obtain ⟨y1_2, hy1_2⟩ : ∃ y, xs1_1[0]? = some y := ⟨_, List.getElem?_eq_getElem (by rw [hl1_1]; decide)⟩
 have g1_2 : DataW.trod enc Tryz.prog W 0 (fun _ => true) true n1_1 3 ((([c1_0, c1_1] : List Value).drop 0).take (Tryz.prog.cellsOf 3)) = some y1_2 := (hg1_1 0 _ rfl).trans hy1_2
 have e1_2 : (([c1_0, c1_1] : List Value).drop 0).take (Tryz.prog.cellsOf 3) = [c1_0] := by kernel_rfl
 rw [e1_2] at g1_2
 obtain ⟨a1_2, q1_2, _, w1_2⟩ := DataW.trod_int Tryz.underlying3 g1_2
 obtain ⟨y1_3, hy1_3⟩ : ∃ y, xs1_1[1]? = some y := ⟨_, List.getElem?_eq_getElem (by rw [hl1_1]; decide)⟩
 have g1_3 : DataW.trod enc Tryz.prog W 0 (fun _ => true) true n1_1 3 ((([c1_0, c1_1] : List Value).drop 1).take (Tryz.prog.cellsOf 3)) = some y1_3 := (hg1_1 1 _ rfl).trans hy1_3
 have e1_3 : (([c1_0, c1_1] : List Value).drop 1).take (Tryz.prog.cellsOf 3) = [c1_1] := by kernel_rfl
 rw [e1_3] at g1_3
 obtain ⟨a1_3, q1_3, _, w1_3⟩ := DataW.trod_int Tryz.underlying3 g1_3
 obtain rfl : c1_0 = .int .i64 a1_2 := by simpa using q1_2
 obtain rfl : c1_1 = .int .i64 a1_3 := by simpa using q1_3
 obtain ⟨a2, rfl, rfl, rfl, w2⟩ := open_int Tryz.underlying3 (hval 2 3 v2 rfl rfl) h2
 obtain ⟨b3, rfl, sz3⟩ := okWide_struct Tryz.underlying32 (hval 3 32 v3 rfl rfl)
 have k3 := h3
 have lt3 : ∀ x ∈ p3, x.block < W.heap.size := by obtain ⟨m, hm⟩ := k3; exact DataW.trod_lt m _ _ _ hm
 have sz3' : b3.toList.length = 3 := by rw [Array.length_toList, sz3]; kernel_rfl
 obtain ⟨c3_0, c3_1, c3_2, hb3⟩ : ∃ c3_0 c3_1 c3_2, b3.toList = [c3_0, c3_1, c3_2] := by
  match b3.toList, sz3' with
  | [c3_0, c3_1, c3_2], _ => exact ⟨_, _, _, rfl⟩
 obtain rfl : b3 = #[c3_0, c3_1, c3_2] := by cases b3; simp_all
 obtain ⟨fuel3, hf3⟩ := h3
 have hf3' : DataW.trod enc Tryz.prog W 0 (fun _ => true) true fuel3 32 [c3_0, c3_1, c3_2] = some (d3, p3) := hf3
 obtain ⟨xs3_1, n3_1, _, _, _, hl3_1, hg3_1⟩ := DataW.trod_struct Tryz.underlying32 hf3'
 obtain ⟨y3_2, hy3_2⟩ : ∃ y, xs3_1[0]? = some y := ⟨_, List.getElem?_eq_getElem (by rw [hl3_1]; decide)⟩
 have g3_2 : DataW.trod enc Tryz.prog W 0 (fun _ => true) true n3_1 3 ((([c3_0, c3_1, c3_2] : List Value).drop 0).take (Tryz.prog.cellsOf 3)) = some y3_2 := (hg3_1 0 _ rfl).trans hy3_2
 have e3_2 : (([c3_0, c3_1, c3_2] : List Value).drop 0).take (Tryz.prog.cellsOf 3) = [c3_0] := by kernel_rfl
 rw [e3_2] at g3_2
 obtain ⟨a3_2, q3_2, _, w3_2⟩ := DataW.trod_int Tryz.underlying3 g3_2
 obtain ⟨y3_3, hy3_3⟩ : ∃ y, xs3_1[1]? = some y := ⟨_, List.getElem?_eq_getElem (by rw [hl3_1]; decide)⟩
 have g3_3 : DataW.trod enc Tryz.prog W 0 (fun _ => true) true n3_1 3 ((([c3_0, c3_1, c3_2] : List Value).drop 1).take (Tryz.prog.cellsOf 3)) = some y3_3 := (hg3_1 1 _ rfl).trans hy3_3
 have e3_3 : (([c3_0, c3_1, c3_2] : List Value).drop 1).take (Tryz.prog.cellsOf 3) = [c3_1] := by kernel_rfl
 rw [e3_3] at g3_3
 obtain ⟨a3_3, q3_3, _, w3_3⟩ := DataW.trod_int Tryz.underlying3 g3_3
 obtain ⟨y3_4, hy3_4⟩ : ∃ y, xs3_1[2]? = some y := ⟨_, List.getElem?_eq_getElem (by rw [hl3_1]; decide)⟩
 have g3_4 : DataW.trod enc Tryz.prog W 0 (fun _ => true) true n3_1 3 ((([c3_0, c3_1, c3_2] : List Value).drop 2).take (Tryz.prog.cellsOf 3)) = some y3_4 := (hg3_1 2 _ rfl).trans hy3_4
 have e3_4 : (([c3_0, c3_1, c3_2] : List Value).drop 2).take (Tryz.prog.cellsOf 3) = [c3_2] := by kernel_rfl
 rw [e3_4] at g3_4
 obtain ⟨a3_4, q3_4, _, w3_4⟩ := DataW.trod_int Tryz.underlying3 g3_4
 obtain rfl : c3_0 = .int .i64 a3_2 := by simpa using q3_2
 obtain rfl : c3_1 = .int .i64 a3_3 := by simpa using q3_3
 obtain rfl : c3_2 = .int .i64 a3_4 := by simpa using q3_4
 obtain ⟨a4, len4, cap4, rfl⟩ := okWide_slice Tryz.underlying22 (hval 4 22 v4 rfl rfl)
 have k4 := h4
 have lt4 : ∀ x ∈ p4, x.block < W.heap.size := by obtain ⟨m, hm⟩ := k4; exact DataW.trod_lt m _ _ _ hm
 obtain ⟨z4, w4⟩ : ∃ zs, IsRow .i64 W a4 len4 cap4 zs := by
  obtain ⟨fuel, hf⟩ := h4
  rcases open_ints Tryz.underlying22 Tryz.underlying3 (by kernel_rfl) hf with ⟨hcs, _⟩ | ⟨x, l, c, zs, hcs, _, hl, hm, hz, _, hcell, hwz⟩
  · simp [Value.cells] at hcs
    obtain ⟨rfl, rfl, rfl⟩ := hcs
    exact ⟨[], .inl ⟨rfl, rfl, rfl, rfl⟩⟩
  · simp [Value.cells] at hcs
    obtain ⟨rfl, rfl, rfl⟩ := hcs
    exact ⟨zs, .inr ⟨_, rfl, hl, hm, by simpa using hz, hcell, hwz⟩⟩
 obtain ⟨b5, rfl, sz5⟩ := okWide_struct Tryz.underlying52 (hval 5 52 v5 rfl rfl)
 have k5 := h5
 have lt5 : ∀ x ∈ p5, x.block < W.heap.size := by obtain ⟨m, hm⟩ := k5; exact DataW.trod_lt m _ _ _ hm
 have sz5' : b5.toList.length = 4 := by rw [Array.length_toList, sz5]; kernel_rfl
 obtain ⟨c5_0, c5_1, c5_2, c5_3, hb5⟩ : ∃ c5_0 c5_1 c5_2 c5_3, b5.toList = [c5_0, c5_1, c5_2, c5_3] := by
  match b5.toList, sz5' with
  | [c5_0, c5_1, c5_2, c5_3], _ => exact ⟨_, _, _, _, rfl⟩
 obtain rfl : b5 = #[c5_0, c5_1, c5_2, c5_3] := by cases b5; simp_all
 obtain ⟨fuel5, hf5⟩ := h5
 have hf5' : DataW.trod enc Tryz.prog W 0 (fun _ => true) true fuel5 52 [c5_0, c5_1, c5_2, c5_3] = some (d5, p5) := hf5
 obtain ⟨xs5_1, n5_1, _, _, _, hl5_1, hg5_1⟩ := DataW.trod_struct Tryz.underlying52 hf5'
 obtain ⟨y5_2, hy5_2⟩ : ∃ y, xs5_1[0]? = some y := ⟨_, List.getElem?_eq_getElem (by rw [hl5_1]; decide)⟩
 have g5_2 : DataW.trod enc Tryz.prog W 0 (fun _ => true) true n5_1 37 ((([c5_0, c5_1, c5_2, c5_3] : List Value).drop 0).take (Tryz.prog.cellsOf 37)) = some y5_2 := (hg5_1 0 _ rfl).trans hy5_2
 have e5_2 : (([c5_0, c5_1, c5_2, c5_3] : List Value).drop 0).take (Tryz.prog.cellsOf 37) = [c5_0, c5_1] := by kernel_rfl
 rw [e5_2] at g5_2
 obtain ⟨xs5_3, n5_3, _, _, _, hl5_3, hg5_3⟩ := DataW.trod_struct Tryz.underlying37 g5_2
 obtain ⟨y5_4, hy5_4⟩ : ∃ y, xs5_3[0]? = some y := ⟨_, List.getElem?_eq_getElem (by rw [hl5_3]; decide)⟩
 have g5_4 : DataW.trod enc Tryz.prog W 0 (fun _ => true) true n5_3 3 ((([c5_0, c5_1] : List Value).drop 0).take (Tryz.prog.cellsOf 3)) = some y5_4 := (hg5_3 0 _ rfl).trans hy5_4
 have e5_4 : (([c5_0, c5_1] : List Value).drop 0).take (Tryz.prog.cellsOf 3) = [c5_0] := by kernel_rfl
 rw [e5_4] at g5_4
 obtain ⟨a5_4, q5_4, _, w5_4⟩ := DataW.trod_int Tryz.underlying3 g5_4
 obtain ⟨y5_5, hy5_5⟩ : ∃ y, xs5_3[1]? = some y := ⟨_, List.getElem?_eq_getElem (by rw [hl5_3]; decide)⟩
 have g5_5 : DataW.trod enc Tryz.prog W 0 (fun _ => true) true n5_3 3 ((([c5_0, c5_1] : List Value).drop 1).take (Tryz.prog.cellsOf 3)) = some y5_5 := (hg5_3 1 _ rfl).trans hy5_5
 have e5_5 : (([c5_0, c5_1] : List Value).drop 1).take (Tryz.prog.cellsOf 3) = [c5_1] := by kernel_rfl
 rw [e5_5] at g5_5
 obtain ⟨a5_5, q5_5, _, w5_5⟩ := DataW.trod_int Tryz.underlying3 g5_5
 obtain ⟨y5_6, hy5_6⟩ : ∃ y, xs5_1[1]? = some y := ⟨_, List.getElem?_eq_getElem (by rw [hl5_1]; decide)⟩
 have g5_6 : DataW.trod enc Tryz.prog W 0 (fun _ => true) true n5_1 50 ((([c5_0, c5_1, c5_2, c5_3] : List Value).drop 2).take (Tryz.prog.cellsOf 50)) = some y5_6 := (hg5_1 1 _ rfl).trans hy5_6
 have e5_6 : (([c5_0, c5_1, c5_2, c5_3] : List Value).drop 2).take (Tryz.prog.cellsOf 50) = [c5_2, c5_3] := by kernel_rfl
 rw [e5_6] at g5_6
 obtain ⟨xs5_7, n5_7, _, _, _, hl5_7, hg5_7⟩ := DataW.trod_struct Tryz.underlying50 g5_6
 obtain ⟨y5_8, hy5_8⟩ : ∃ y, xs5_7[0]? = some y := ⟨_, List.getElem?_eq_getElem (by rw [hl5_7]; decide)⟩
 have g5_8 : DataW.trod enc Tryz.prog W 0 (fun _ => true) true n5_7 3 ((([c5_2, c5_3] : List Value).drop 0).take (Tryz.prog.cellsOf 3)) = some y5_8 := (hg5_7 0 _ rfl).trans hy5_8
 have e5_8 : (([c5_2, c5_3] : List Value).drop 0).take (Tryz.prog.cellsOf 3) = [c5_2] := by kernel_rfl
 rw [e5_8] at g5_8
 obtain ⟨a5_8, q5_8, _, w5_8⟩ := DataW.trod_int Tryz.underlying3 g5_8
 obtain ⟨y5_9, hy5_9⟩ : ∃ y, xs5_7[1]? = some y := ⟨_, List.getElem?_eq_getElem (by rw [hl5_7]; decide)⟩
 have g5_9 : DataW.trod enc Tryz.prog W 0 (fun _ => true) true n5_7 3 ((([c5_2, c5_3] : List Value).drop 1).take (Tryz.prog.cellsOf 3)) = some y5_9 := (hg5_7 1 _ rfl).trans hy5_9
 have e5_9 : (([c5_2, c5_3] : List Value).drop 1).take (Tryz.prog.cellsOf 3) = [c5_3] := by kernel_rfl
 rw [e5_9] at g5_9
 obtain ⟨a5_9, q5_9, _, w5_9⟩ := DataW.trod_int Tryz.underlying3 g5_9
 obtain rfl : c5_0 = .int .i64 a5_4 := by simpa using q5_4
 obtain rfl : c5_1 = .int .i64 a5_5 := by simpa using q5_5
 obtain rfl : c5_2 = .int .i64 a5_8 := by simpa using q5_8
 obtain rfl : c5_3 = .int .i64 a5_9 := by simpa using q5_9
 obtain ⟨b6, rfl, sz6⟩ := okWide_struct Tryz.underlying52 (hval 6 52 v6 rfl rfl)
 have k6 := h6
 have lt6 : ∀ x ∈ p6, x.block < W.heap.size := by obtain ⟨m, hm⟩ := k6; exact DataW.trod_lt m _ _ _ hm
 have sz6' : b6.toList.length = 4 := by rw [Array.length_toList, sz6]; kernel_rfl
 obtain ⟨c6_0, c6_1, c6_2, c6_3, hb6⟩ : ∃ c6_0 c6_1 c6_2 c6_3, b6.toList = [c6_0, c6_1, c6_2, c6_3] := by
  match b6.toList, sz6' with
  | [c6_0, c6_1, c6_2, c6_3], _ => exact ⟨_, _, _, _, rfl⟩
 obtain rfl : b6 = #[c6_0, c6_1, c6_2, c6_3] := by cases b6; simp_all
 obtain ⟨fuel6, hf6⟩ := h6
 have hf6' : DataW.trod enc Tryz.prog W 0 (fun _ => true) true fuel6 52 [c6_0, c6_1, c6_2, c6_3] = some (d6, p6) := hf6
 obtain ⟨xs6_1, n6_1, _, _, _, hl6_1, hg6_1⟩ := DataW.trod_struct Tryz.underlying52 hf6'
 obtain ⟨y6_2, hy6_2⟩ : ∃ y, xs6_1[0]? = some y := ⟨_, List.getElem?_eq_getElem (by rw [hl6_1]; decide)⟩
 have g6_2 : DataW.trod enc Tryz.prog W 0 (fun _ => true) true n6_1 37 ((([c6_0, c6_1, c6_2, c6_3] : List Value).drop 0).take (Tryz.prog.cellsOf 37)) = some y6_2 := (hg6_1 0 _ rfl).trans hy6_2
 have e6_2 : (([c6_0, c6_1, c6_2, c6_3] : List Value).drop 0).take (Tryz.prog.cellsOf 37) = [c6_0, c6_1] := by kernel_rfl
 rw [e6_2] at g6_2
 obtain ⟨xs6_3, n6_3, _, _, _, hl6_3, hg6_3⟩ := DataW.trod_struct Tryz.underlying37 g6_2
 obtain ⟨y6_4, hy6_4⟩ : ∃ y, xs6_3[0]? = some y := ⟨_, List.getElem?_eq_getElem (by rw [hl6_3]; decide)⟩
 have g6_4 : DataW.trod enc Tryz.prog W 0 (fun _ => true) true n6_3 3 ((([c6_0, c6_1] : List Value).drop 0).take (Tryz.prog.cellsOf 3)) = some y6_4 := (hg6_3 0 _ rfl).trans hy6_4
 have e6_4 : (([c6_0, c6_1] : List Value).drop 0).take (Tryz.prog.cellsOf 3) = [c6_0] := by kernel_rfl
 rw [e6_4] at g6_4
 obtain ⟨a6_4, q6_4, _, w6_4⟩ := DataW.trod_int Tryz.underlying3 g6_4
 obtain ⟨y6_5, hy6_5⟩ : ∃ y, xs6_3[1]? = some y := ⟨_, List.getElem?_eq_getElem (by rw [hl6_3]; decide)⟩
 have g6_5 : DataW.trod enc Tryz.prog W 0 (fun _ => true) true n6_3 3 ((([c6_0, c6_1] : List Value).drop 1).take (Tryz.prog.cellsOf 3)) = some y6_5 := (hg6_3 1 _ rfl).trans hy6_5
 have e6_5 : (([c6_0, c6_1] : List Value).drop 1).take (Tryz.prog.cellsOf 3) = [c6_1] := by kernel_rfl
 rw [e6_5] at g6_5
 obtain ⟨a6_5, q6_5, _, w6_5⟩ := DataW.trod_int Tryz.underlying3 g6_5
 obtain ⟨y6_6, hy6_6⟩ : ∃ y, xs6_1[1]? = some y := ⟨_, List.getElem?_eq_getElem (by rw [hl6_1]; decide)⟩
 have g6_6 : DataW.trod enc Tryz.prog W 0 (fun _ => true) true n6_1 50 ((([c6_0, c6_1, c6_2, c6_3] : List Value).drop 2).take (Tryz.prog.cellsOf 50)) = some y6_6 := (hg6_1 1 _ rfl).trans hy6_6
 have e6_6 : (([c6_0, c6_1, c6_2, c6_3] : List Value).drop 2).take (Tryz.prog.cellsOf 50) = [c6_2, c6_3] := by kernel_rfl
 rw [e6_6] at g6_6
 obtain ⟨xs6_7, n6_7, _, _, _, hl6_7, hg6_7⟩ := DataW.trod_struct Tryz.underlying50 g6_6
 obtain ⟨y6_8, hy6_8⟩ : ∃ y, xs6_7[0]? = some y := ⟨_, List.getElem?_eq_getElem (by rw [hl6_7]; decide)⟩
 have g6_8 : DataW.trod enc Tryz.prog W 0 (fun _ => true) true n6_7 3 ((([c6_2, c6_3] : List Value).drop 0).take (Tryz.prog.cellsOf 3)) = some y6_8 := (hg6_7 0 _ rfl).trans hy6_8
 have e6_8 : (([c6_2, c6_3] : List Value).drop 0).take (Tryz.prog.cellsOf 3) = [c6_2] := by kernel_rfl
 rw [e6_8] at g6_8
 obtain ⟨a6_8, q6_8, _, w6_8⟩ := DataW.trod_int Tryz.underlying3 g6_8
 obtain ⟨y6_9, hy6_9⟩ : ∃ y, xs6_7[1]? = some y := ⟨_, List.getElem?_eq_getElem (by rw [hl6_7]; decide)⟩
 have g6_9 : DataW.trod enc Tryz.prog W 0 (fun _ => true) true n6_7 3 ((([c6_2, c6_3] : List Value).drop 1).take (Tryz.prog.cellsOf 3)) = some y6_9 := (hg6_7 1 _ rfl).trans hy6_9
 have e6_9 : (([c6_2, c6_3] : List Value).drop 1).take (Tryz.prog.cellsOf 3) = [c6_3] := by kernel_rfl
 rw [e6_9] at g6_9
 obtain ⟨a6_9, q6_9, _, w6_9⟩ := DataW.trod_int Tryz.underlying3 g6_9
 obtain rfl : c6_0 = .int .i64 a6_4 := by simpa using q6_4
 obtain rfl : c6_1 = .int .i64 a6_5 := by simpa using q6_5
 obtain rfl : c6_2 = .int .i64 a6_8 := by simpa using q6_8
 obtain rfl : c6_3 = .int .i64 a6_9 := by simpa using q6_9
 clear hA0 hval0 hsz0
 obtain ⟨k, hk⟩ := pure_storeRaw z0_2 (rows_wf w0_2) a1_2 w1_2 a1_3 w1_3 a2 w2 a3_2 w3_2 a3_3 w3_3 a3_4 w3_4 (z4.take len4) (ints_wf w4) a5_4 w5_4 a5_5 w5_5 a5_8 w5_8 a5_9 w5_9 a6_4 w6_4 a6_5 w6_5 a6_8 w6_8 a6_9 w6_9
 refine (law_walk orders X_ok (us := [.agg #[.slice a0_2 len0_2 cap0_2], .agg #[.int .i64 a1_2, .int .i64 a1_3], .int .i64 a2, .agg #[.int .i64 a3_2, .int .i64 a3_3, .int .i64 a3_4], .slice a4 len4 cap4, .agg #[.int .i64 a5_4, .int .i64 a5_5, .int .i64 a5_8, .int .i64 a5_9], .agg #[.int .i64 a6_4, .int .i64 a6_5, .int .i64 a6_8, .int .i64 a6_9]]) rfl (T_law23_StoreRaw_ok k z0_2 a1_2 a1_3 a2 a3_2 a3_3 a3_4 (z4.take len4) a5_4 a5_5 a5_8 a5_9 a6_4 a6_5 a6_8 a6_9 true hk) (All2.cons (agg_rep (All2.cons (rows_repC w0_2) All2.nil)) (All2.cons (agg_rep (All2.cons int_repC (All2.cons int_repC All2.nil))) (All2.cons int_rep (All2.cons (agg_rep (All2.cons int_repC (All2.cons int_repC (All2.cons int_repC All2.nil)))) (All2.cons (ints_rep w4) (All2.cons (agg_rep (All2.cons int_repC (All2.cons int_repC (All2.cons int_repC (All2.cons int_repC All2.nil))))) (All2.cons (agg_rep (All2.cons int_repC (All2.cons int_repC (All2.cons int_repC (All2.cons int_repC All2.nil))))) All2.nil)))))))).mono fun e W' ⟨he, bel⟩ => ?_
 subst he
 exact ⟨_, rfl, _, _, _, [], _, [], hW', trodAll_mk1 (shut_bool Tryz.underlying4 _), (trodAll_cons_mk (Below.trod laidOut (by kernel_rfl) (of_decide_eq_true (by kernel_rfl)) k0 bel lt0) (trodAll_cons_mk (Below.trod laidOut (by kernel_rfl) (of_decide_eq_true (by kernel_rfl)) k1 bel lt1) (trodAll_cons_mk (shut_int Tryz.underlying3 w2) (trodAll_cons_mk (Below.trod laidOut (by kernel_rfl) (of_decide_eq_true (by kernel_rfl)) k3 bel lt3) (trodAll_cons_mk (Below.trod laidOut (by kernel_rfl) (of_decide_eq_true (by kernel_rfl)) k4 bel lt4) (trodAll_cons_mk (Below.trod laidOut (by kernel_rfl) (of_decide_eq_true (by kernel_rfl)) k5 bel lt5) (trodAll_cons_mk (Below.trod laidOut (by kernel_rfl) (of_decide_eq_true (by kernel_rfl)) k6 bel lt6) trodAll_mk0))))))), rfl, bel.frame _, fun h => by cases h⟩
theorem over : Rows.storeRawRow.holds Tryz.pinned (OpenSpec.ofChange Rows.storeRawSpec) :=
 OpenClaim.holds_of_wide 4 Tryz.f4 rfl rfl rfl rfl rfl rfl rfl ⟨rfl, rfl, rfl, rfl, rfl⟩ rfl rfl rfl rfl rfl (by kernel_rfl) Tryz.func4 (by kernel_rfl)
  (of_decide_eq_true (by kernel_rfl)) (by unfold Func.isWrapper; first | (rw [if_pos (by decide +kernel)]; kernel_rfl) | (rw [if_neg (by decide +kernel)]; exact ⟨rfl, rfl⟩))
  (fun os started H enc _ => lifted os started H enc)
theorem proved : Rows.StoreRawSaid := over
#print axioms proved
end Go.Proofs.YtkeddnagijjbaaaGreat.storeRaw
namespace Go.Proofs.YtkeddnagijjbaaaGreat
/-- The row, under a short name, for the claim. -/
theorem storeRaw_holds : Rows.StoreRawSaid := storeRaw.proved
end Go.Proofs.YtkeddnagijjbaaaGreat
