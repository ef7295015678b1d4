/- Valid, Belongs, Split, Region and Cmp of chapter 19 return what its reference returns, errors included: WordParts returns true for all schemes, words, piece numbers and lists.
 Proved for every input that the statement's row lets in; it has no further conditions. -/
import Derived.Test.YtdnegloonbanpaaRows
import Derived.ProofKit
import Derived.OpenShut
import Derived.ShutString
import Derived.ChangeOld
import Derived.Below
import Derived.SizedLaws
import Derived.Test.YtdnegloonbanpaaPWordParts
namespace Go.Proofs.Ytdnegloonbanpaa.wordParts
open Go Go.ChangeShapes Go.WideShapes Go.ChangeAt Go.RowKit
open Go.ChangeMaps (open_string shut_string)
set_option linter.unusedVariables false
theorem own : ownKnob Try.prog.godebug = none := by kernel_rfl
theorem laidOut : laidOutB Try.prog = true := by kernel_rfl
theorem orders : Try.prog.follows .mixedOrders = true := by kernel_rfl
def IsRow (k : IntKind) (w : World) (a : Option Addr) (len cap : Nat) (zs : List Int) : Prop :=
 (a = none ∧ len = 0 ∧ cap = 0 ∧ zs = []) ∨
 ∃ x, a = some x ∧ len ≤ cap ∧ cap ≤ maxLen ∧ zs.length = cap ∧ (∀ i, i < zs.length → w.cell? (x.add i) = some (.int k (zs.getD i 0))) ∧ ∀ n ∈ zs, (Lit.int k n).wf = true
set_option maxRecDepth 100000 in
theorem lifted (os : Os) (started : os.Started) (H : Type) (enc : TypeId × Value → H) :
 ReturnsInHanded {} Try.checked os 9 .any (Rows.wordPartsSpec.pre6 enc Try.prog Try.f9 Rows.wordPartsRow.domain false) (Rows.wordPartsSpec.post enc Try.prog Try.f9 false true false false) := by
 refine returnsInHanded_of_change_sized (C := Try.checked) own started (by kernel_rfl) Try.func9
  (ChangeSpec.witness6 (enc := enc) (C := Try.checked) false ⟨#[], #[.agg #[.int .i64 0, .int .i64 0, .int .i64 0, .int .i64 0, .int .i64 0, .slice none 0 0], .agg #[.slice none 0 0, .slice none 0 0], .agg #[.slice none 0 0, .slice none 0 0], .int .i64 0, .slice none 0 0], []⟩ 8 (by kernel_rfl) (by kernel_rfl) (by kernel_rfl) (by kernel_rfl)) ?_
 intro W base args ds gs before hval0 hW hcnd hsz0 _
 have hval : ∀ (j : Nat) t v, Try.f9.params[j]? = some t → args[j]? = some v → Value.okWide Try.prog W .any base t v := hval0
 have hW' := hW
 obtain ⟨p, q, hA0, hV, rfl, hfz, hnd⟩ := hW
 have hA : DataW.TrodAll enc Try.prog W 0 (fun _ => true) true Try.f9.params.toList args.toList ds p := hA0
 rw [Try.params9] at hA hval
 obtain ⟨v0, vs0, d0, ds0, p0, q0, hargs, rfl, rfl, h0, r0⟩ := trodAll_cons hA
 obtain ⟨v1, vs1, d1, ds1, p1, q1, rfl, rfl, rfl, h1, r1⟩ := trodAll_cons r0
 obtain ⟨v2, vs2, d2, ds2, p2, q2, rfl, rfl, rfl, h2, r2⟩ := trodAll_cons r1
 obtain ⟨v3, vs3, d3, ds3, p3, q3, rfl, rfl, rfl, h3, r3⟩ := trodAll_cons r2
 obtain ⟨v4, vs4, d4, ds4, p4, q4, rfl, rfl, rfl, h4, r4⟩ := trodAll_cons r3
 obtain ⟨rfl, rfl, rfl⟩ := trodAll_nil r4
 obtain rfl : args = #[v0, v1, v2, v3, v4] := by cases args; simp_all
 obtain ⟨rfl, rfl⟩ := trodVars_none hV
 obtain ⟨b0, rfl, sz0⟩ := okWide_struct Try.underlying29 (hval 0 29 v0 rfl rfl)
 have k0 := h0
 have lt0 : ∀ x ∈ p0, x.block < W.heap.size := by obtain ⟨m, hm⟩ := k0; exact DataW.trod_lt m _ _ _ hm
 have sz0' : b0.toList.length = 6 := by rw [Array.length_toList, sz0]; kernel_rfl
 obtain ⟨c0_0, c0_1, c0_2, c0_3, c0_4, c0_5, hb0⟩ : ∃ c0_0 c0_1 c0_2 c0_3 c0_4 c0_5, b0.toList = [c0_0, c0_1, c0_2, c0_3, c0_4, c0_5] := by
  match b0.toList, sz0' with
  | [c0_0, c0_1, c0_2, c0_3, c0_4, c0_5], _ => exact ⟨_, _, _, _, _, _, rfl⟩
 obtain rfl : b0 = #[c0_0, c0_1, c0_2, c0_3, c0_4, c0_5] := by cases b0; simp_all
 obtain ⟨fuel0, hf0⟩ := h0
 have hf0' : DataW.trod enc Try.prog W 0 (fun _ => true) true fuel0 29 [c0_0, c0_1, c0_2, c0_3, c0_4, c0_5] = some (d0, p0) := hf0
 obtain ⟨xs0_1, n0_1, _, _, _, hl0_1, hg0_1⟩ := DataW.trod_struct Try.underlying29 hf0'
 obtain ⟨y0_2, hy0_2⟩ : ∃ y, xs0_1[0]? = some y := ⟨_, List.getElem?_eq_getElem (by rw [hl0_1]; decide)⟩
 have g0_2 : DataW.trod enc Try.prog W 0 (fun _ => true) true n0_1 27 ((([c0_0, c0_1, c0_2, c0_3, c0_4, c0_5] : List Value).drop 0).take (Try.prog.cellsOf 27)) = some y0_2 := (hg0_1 0 _ rfl).trans hy0_2
 have e0_2 : (([c0_0, c0_1, c0_2, c0_3, c0_4, c0_5] : List Value).drop 0).take (Try.prog.cellsOf 27) = [c0_0, c0_1, c0_2] := by kernel_rfl
 rw [e0_2] at g0_2
 obtain ⟨xs0_3, n0_3, _, _, _, hl0_3, hg0_3⟩ := DataW.trod_struct Try.underlying27 g0_2
 obtain ⟨y0_4, hy0_4⟩ : ∃ y, xs0_3[0]? = some y := ⟨_, List.getElem?_eq_getElem (by rw [hl0_3]; decide)⟩
 have g0_4 : DataW.trod enc Try.prog W 0 (fun _ => true) true n0_3 3 ((([c0_0, c0_1, c0_2] : List Value).drop 0).take (Try.prog.cellsOf 3)) = some y0_4 := (hg0_3 0 _ rfl).trans hy0_4
 have e0_4 : (([c0_0, c0_1, c0_2] : List Value).drop 0).take (Try.prog.cellsOf 3) = [c0_0] := by kernel_rfl
 rw [e0_4] at g0_4
 obtain ⟨a0_4, q0_4, _, w0_4⟩ := DataW.trod_int Try.underlying3 g0_4
 obtain ⟨y0_5, hy0_5⟩ : ∃ y, xs0_3[1]? = some y := ⟨_, List.getElem?_eq_getElem (by rw [hl0_3]; decide)⟩
 have g0_5 : DataW.trod enc Try.prog W 0 (fun _ => true) true n0_3 3 ((([c0_0, c0_1, c0_2] : List Value).drop 1).take (Try.prog.cellsOf 3)) = some y0_5 := (hg0_3 1 _ rfl).trans hy0_5
 have e0_5 : (([c0_0, c0_1, c0_2] : List Value).drop 1).take (Try.prog.cellsOf 3) = [c0_1] := by kernel_rfl
 rw [e0_5] at g0_5
 obtain ⟨a0_5, q0_5, _, w0_5⟩ := DataW.trod_int Try.underlying3 g0_5
 obtain ⟨y0_6, hy0_6⟩ : ∃ y, xs0_3[2]? = some y := ⟨_, List.getElem?_eq_getElem (by rw [hl0_3]; decide)⟩
 have g0_6 : DataW.trod enc Try.prog W 0 (fun _ => true) true n0_3 3 ((([c0_0, c0_1, c0_2] : List Value).drop 2).take (Try.prog.cellsOf 3)) = some y0_6 := (hg0_3 2 _ rfl).trans hy0_6
 have e0_6 : (([c0_0, c0_1, c0_2] : List Value).drop 2).take (Try.prog.cellsOf 3) = [c0_2] := by kernel_rfl
 rw [e0_6] at g0_6
 obtain ⟨a0_6, q0_6, _, w0_6⟩ := DataW.trod_int Try.underlying3 g0_6
 obtain ⟨y0_7, hy0_7⟩ : ∃ y, xs0_1[1]? = some y := ⟨_, List.getElem?_eq_getElem (by rw [hl0_1]; decide)⟩
 have g0_7 : DataW.trod enc Try.prog W 0 (fun _ => true) true n0_1 3 ((([c0_0, c0_1, c0_2, c0_3, c0_4, c0_5] : List Value).drop 3).take (Try.prog.cellsOf 3)) = some y0_7 := (hg0_1 1 _ rfl).trans hy0_7
 have e0_7 : (([c0_0, c0_1, c0_2, c0_3, c0_4, c0_5] : List Value).drop 3).take (Try.prog.cellsOf 3) = [c0_3] := by kernel_rfl
 rw [e0_7] at g0_7
 obtain ⟨a0_7, q0_7, _, w0_7⟩ := DataW.trod_int Try.underlying3 g0_7
 obtain ⟨y0_8, hy0_8⟩ : ∃ y, xs0_1[2]? = some y := ⟨_, List.getElem?_eq_getElem (by rw [hl0_1]; decide)⟩
 have g0_8 : DataW.trod enc Try.prog W 0 (fun _ => true) true n0_1 3 ((([c0_0, c0_1, c0_2, c0_3, c0_4, c0_5] : List Value).drop 4).take (Try.prog.cellsOf 3)) = some y0_8 := (hg0_1 2 _ rfl).trans hy0_8
 have e0_8 : (([c0_0, c0_1, c0_2, c0_3, c0_4, c0_5] : List Value).drop 4).take (Try.prog.cellsOf 3) = [c0_4] := by kernel_rfl
 rw [e0_8] at g0_8
 obtain ⟨a0_8, q0_8, _, w0_8⟩ := DataW.trod_int Try.underlying3 g0_8
 obtain ⟨y0_9, hy0_9⟩ : ∃ y, xs0_1[3]? = some y := ⟨_, List.getElem?_eq_getElem (by rw [hl0_1]; decide)⟩
 have g0_9 : DataW.trod enc Try.prog W 0 (fun _ => true) true n0_1 22 ((([c0_0, c0_1, c0_2, c0_3, c0_4, c0_5] : List Value).drop 5).take (Try.prog.cellsOf 22)) = some y0_9 := (hg0_1 3 _ rfl).trans hy0_9
 have e0_9 : (([c0_0, c0_1, c0_2, c0_3, c0_4, c0_5] : List Value).drop 5).take (Try.prog.cellsOf 22) = [c0_5] := by kernel_rfl
 rw [e0_9] at g0_9
 obtain ⟨a0_9, len0_9, cap0_9, z0_9, q0_9, w0_9⟩ : ∃ a len cap zs, [c0_5] = [Value.slice a len cap] ∧ IsRow .i64 W a len cap zs := by
  rcases open_ints Try.underlying22 Try.underlying3 (by kernel_rfl) g0_9 with ⟨hcs, _⟩ | ⟨x, l, c, zs, hcs, _, hl, hm, hz, _, hcell, hwz⟩
  · exact ⟨none, 0, 0, [], hcs, .inl ⟨rfl, rfl, rfl, rfl⟩⟩
  · exact ⟨_, _, _, zs, hcs, .inr ⟨_, rfl, hl, hm, by simpa using hz, hcell, hwz⟩⟩
 obtain rfl : c0_0 = .int .i64 a0_4 := by simpa using q0_4
 obtain rfl : c0_1 = .int .i64 a0_5 := by simpa using q0_5
 obtain rfl : c0_2 = .int .i64 a0_6 := by simpa using q0_6
 obtain rfl : c0_3 = .int .i64 a0_7 := by simpa using q0_7
 obtain rfl : c0_4 = .int .i64 a0_8 := by simpa using q0_8
 obtain rfl : c0_5 = .slice a0_9 len0_9 cap0_9 := by simpa using q0_9
 obtain ⟨b1, rfl, sz1⟩ := okWide_struct Try.underlying41 (hval 1 41 v1 rfl rfl)
 have k1 := h1
 have lt1 : ∀ x ∈ p1, x.block < W.heap.size := by obtain ⟨m, hm⟩ := k1; exact DataW.trod_lt m _ _ _ hm
 have sz1' : b1.toList.length = 2 := by rw [Array.length_toList, sz1]; kernel_rfl
 obtain ⟨c1_0, c1_1, hb1⟩ : ∃ c1_0 c1_1, b1.toList = [c1_0, c1_1] := by
  match b1.toList, sz1' with
  | [c1_0, c1_1], _ => exact ⟨_, _, rfl⟩
 obtain rfl : b1 = #[c1_0, c1_1] := by cases b1; simp_all
 obtain ⟨fuel1, hf1⟩ := h1
 have hf1' : DataW.trod enc Try.prog W 0 (fun _ => true) true fuel1 41 [c1_0, c1_1] = some (d1, p1) := hf1
 obtain ⟨xs1_1, n1_1, _, _, _, hl1_1, hg1_1⟩ := DataW.trod_struct Try.underlying41 hf1'
 obtain ⟨y1_2, hy1_2⟩ : ∃ y, xs1_1[0]? = some y := ⟨_, List.getElem?_eq_getElem (by rw [hl1_1]; decide)⟩
 have g1_2 : DataW.trod enc Try.prog W 0 (fun _ => true) true n1_1 22 ((([c1_0, c1_1] : List Value).drop 0).take (Try.prog.cellsOf 22)) = some y1_2 := (hg1_1 0 _ rfl).trans hy1_2
 have e1_2 : (([c1_0, c1_1] : List Value).drop 0).take (Try.prog.cellsOf 22) = [c1_0] := by kernel_rfl
 rw [e1_2] at g1_2
 obtain ⟨a1_2, len1_2, cap1_2, z1_2, q1_2, w1_2⟩ : ∃ a len cap zs, [c1_0] = [Value.slice a len cap] ∧ IsRow .i64 W a len cap zs := by
  rcases open_ints Try.underlying22 Try.underlying3 (by kernel_rfl) g1_2 with ⟨hcs, _⟩ | ⟨x, l, c, zs, hcs, _, hl, hm, hz, _, hcell, hwz⟩
  · exact ⟨none, 0, 0, [], hcs, .inl ⟨rfl, rfl, rfl, rfl⟩⟩
  · exact ⟨_, _, _, zs, hcs, .inr ⟨_, rfl, hl, hm, by simpa using hz, hcell, hwz⟩⟩
 obtain ⟨y1_3, hy1_3⟩ : ∃ y, xs1_1[1]? = some y := ⟨_, List.getElem?_eq_getElem (by rw [hl1_1]; decide)⟩
 have g1_3 : DataW.trod enc Try.prog W 0 (fun _ => true) true n1_1 22 ((([c1_0, c1_1] : List Value).drop 1).take (Try.prog.cellsOf 22)) = some y1_3 := (hg1_1 1 _ rfl).trans hy1_3
 have e1_3 : (([c1_0, c1_1] : List Value).drop 1).take (Try.prog.cellsOf 22) = [c1_1] := by kernel_rfl
 rw [e1_3] at g1_3
 obtain ⟨a1_3, len1_3, cap1_3, z1_3, q1_3, w1_3⟩ : ∃ a len cap zs, [c1_1] = [Value.slice a len cap] ∧ IsRow .i64 W a len cap zs := by
  rcases open_ints Try.underlying22 Try.underlying3 (by kernel_rfl) g1_3 with ⟨hcs, _⟩ | ⟨x, l, c, zs, hcs, _, hl, hm, hz, _, hcell, hwz⟩
  · exact ⟨none, 0, 0, [], hcs, .inl ⟨rfl, rfl, rfl, rfl⟩⟩
  · exact ⟨_, _, _, zs, hcs, .inr ⟨_, rfl, hl, hm, by simpa using hz, hcell, hwz⟩⟩
 obtain rfl : c1_0 = .slice a1_2 len1_2 cap1_2 := by simpa using q1_2
 obtain rfl : c1_1 = .slice a1_3 len1_3 cap1_3 := by simpa using q1_3
 obtain ⟨b2, rfl, sz2⟩ := okWide_struct Try.underlying41 (hval 2 41 v2 rfl rfl)
 have k2 := h2
 have lt2 : ∀ x ∈ p2, x.block < W.heap.size := by obtain ⟨m, hm⟩ := k2; exact DataW.trod_lt m _ _ _ hm
 have sz2' : b2.toList.length = 2 := by rw [Array.length_toList, sz2]; kernel_rfl
 obtain ⟨c2_0, c2_1, hb2⟩ : ∃ c2_0 c2_1, b2.toList = [c2_0, c2_1] := by
  match b2.toList, sz2' with
  | [c2_0, c2_1], _ => exact ⟨_, _, rfl⟩
 obtain rfl : b2 = #[c2_0, c2_1] := by cases b2; simp_all
 obtain ⟨fuel2, hf2⟩ := h2
 have hf2' : DataW.trod enc Try.prog W 0 (fun _ => true) true fuel2 41 [c2_0, c2_1] = some (d2, p2) := hf2
 obtain ⟨xs2_1, n2_1, _, _, _, hl2_1, hg2_1⟩ := DataW.trod_struct Try.underlying41 hf2'
 obtain ⟨y2_2, hy2_2⟩ : ∃ y, xs2_1[0]? = some y := ⟨_, List.getElem?_eq_getElem (by rw [hl2_1]; decide)⟩
 have g2_2 : DataW.trod enc Try.prog W 0 (fun _ => true) true n2_1 22 ((([c2_0, c2_1] : List Value).drop 0).take (Try.prog.cellsOf 22)) = some y2_2 := (hg2_1 0 _ rfl).trans hy2_2
 have e2_2 : (([c2_0, c2_1] : List Value).drop 0).take (Try.prog.cellsOf 22) = [c2_0] := by kernel_rfl
 rw [e2_2] at g2_2
 obtain ⟨a2_2, len2_2, cap2_2, z2_2, q2_2, w2_2⟩ : ∃ a len cap zs, [c2_0] = [Value.slice a len cap] ∧ IsRow .i64 W a len cap zs := by
  rcases open_ints Try.underlying22 Try.underlying3 (by kernel_rfl) g2_2 with ⟨hcs, _⟩ | ⟨x, l, c, zs, hcs, _, hl, hm, hz, _, hcell, hwz⟩
  · exact ⟨none, 0, 0, [], hcs, .inl ⟨rfl, rfl, rfl, rfl⟩⟩
  · exact ⟨_, _, _, zs, hcs, .inr ⟨_, rfl, hl, hm, by simpa using hz, hcell, hwz⟩⟩
 obtain ⟨y2_3, hy2_3⟩ : ∃ y, xs2_1[1]? = some y := ⟨_, List.getElem?_eq_getElem (by rw [hl2_1]; decide)⟩
 have g2_3 : DataW.trod enc Try.prog W 0 (fun _ => true) true n2_1 22 ((([c2_0, c2_1] : List Value).drop 1).take (Try.prog.cellsOf 22)) = some y2_3 := (hg2_1 1 _ rfl).trans hy2_3
 have e2_3 : (([c2_0, c2_1] : List Value).drop 1).take (Try.prog.cellsOf 22) = [c2_1] := by kernel_rfl
 rw [e2_3] at g2_3
 obtain ⟨a2_3, len2_3, cap2_3, z2_3, q2_3, w2_3⟩ : ∃ a len cap zs, [c2_1] = [Value.slice a len cap] ∧ IsRow .i64 W a len cap zs := by
  rcases open_ints Try.underlying22 Try.underlying3 (by kernel_rfl) g2_3 with ⟨hcs, _⟩ | ⟨x, l, c, zs, hcs, _, hl, hm, hz, _, hcell, hwz⟩
  · exact ⟨none, 0, 0, [], hcs, .inl ⟨rfl, rfl, rfl, rfl⟩⟩
  · exact ⟨_, _, _, zs, hcs, .inr ⟨_, rfl, hl, hm, by simpa using hz, hcell, hwz⟩⟩
 obtain rfl : c2_0 = .slice a2_2 len2_2 cap2_2 := by simpa using q2_2
 obtain rfl : c2_1 = .slice a2_3 len2_3 cap2_3 := by simpa using q2_3
 obtain ⟨a3, rfl, rfl, rfl, w3⟩ := open_int Try.underlying3 (hval 3 3 v3 rfl rfl) h3
 obtain ⟨a4, len4, cap4, rfl⟩ := okWide_slice Try.underlying22 (hval 4 22 v4 rfl rfl)
 have k4 := h4
 have lt4 : ∀ x ∈ p4, x.block < W.heap.size := by obtain ⟨m, hm⟩ := k4; exact DataW.trod_lt m _ _ _ hm
 obtain ⟨z4, w4⟩ : ∃ zs, IsRow .i64 W a4 len4 cap4 zs := by
  obtain ⟨fuel, hf⟩ := h4
  rcases open_ints Try.underlying22 Try.underlying3 (by kernel_rfl) hf with ⟨hcs, _⟩ | ⟨x, l, c, zs, hcs, _, hl, hm, hz, _, hcell, hwz⟩
  · simp [Value.cells] at hcs
    obtain ⟨rfl, rfl, rfl⟩ := hcs
    exact ⟨[], .inl ⟨rfl, rfl, rfl, rfl⟩⟩
  · simp [Value.cells] at hcs
    obtain ⟨rfl, rfl, rfl⟩ := hcs
    exact ⟨zs, .inr ⟨_, rfl, hl, hm, by simpa using hz, hcell, hwz⟩⟩
 clear hA0 hval0 hsz0
 obtain ⟨k, hk⟩ := pure_wordParts a0_4 w0_4 a0_5 w0_5 a0_6 w0_6 a0_7 w0_7 a0_8 w0_8 (z0_9.take len0_9) (ints_wf w0_9) (z1_2.take len1_2) (ints_wf w1_2) (z1_3.take len1_3) (ints_wf w1_3) (z2_2.take len2_2) (ints_wf w2_2) (z2_3.take len2_3) (ints_wf w2_3) a3 w3 (z4.take len4) (ints_wf w4)
 refine (law_walk orders X_ok (us := [.agg #[.int .i64 a0_4, .int .i64 a0_5, .int .i64 a0_6, .int .i64 a0_7, .int .i64 a0_8, .slice a0_9 len0_9 cap0_9], .agg #[.slice a1_2 len1_2 cap1_2, .slice a1_3 len1_3 cap1_3], .agg #[.slice a2_2 len2_2 cap2_2, .slice a2_3 len2_3 cap2_3], .int .i64 a3, .slice a4 len4 cap4]) rfl (T_law19_WordParts_ok k a0_4 a0_5 a0_6 a0_7 a0_8 (z0_9.take len0_9) (z1_2.take len1_2) (z1_3.take len1_3) (z2_2.take len2_2) (z2_3.take len2_3) a3 (z4.take len4) true hk) (All2.cons (agg_rep (All2.cons int_repC (All2.cons int_repC (All2.cons int_repC (All2.cons int_repC (All2.cons int_repC (All2.cons (ints_repC w0_9) All2.nil))))))) (All2.cons (agg_rep (All2.cons (ints_repC w1_2) (All2.cons (ints_repC w1_3) All2.nil))) (All2.cons (agg_rep (All2.cons (ints_repC w2_2) (All2.cons (ints_repC w2_3) All2.nil))) (All2.cons int_rep (All2.cons (ints_rep w4) All2.nil)))))).mono fun e W' ⟨he, bel⟩ => ?_
 subst he
 exact ⟨_, rfl, _, _, _, [], _, [], hW', trodAll_mk1 (shut_bool Try.underlying4 _), (trodAll_cons_mk (Below.trod laidOut (by kernel_rfl) (of_decide_eq_true (by kernel_rfl)) k0 bel lt0) (trodAll_cons_mk (Below.trod laidOut (by kernel_rfl) (of_decide_eq_true (by kernel_rfl)) k1 bel lt1) (trodAll_cons_mk (Below.trod laidOut (by kernel_rfl) (of_decide_eq_true (by kernel_rfl)) k2 bel lt2) (trodAll_cons_mk (shut_int Try.underlying3 w3) (trodAll_cons_mk (Below.trod laidOut (by kernel_rfl) (of_decide_eq_true (by kernel_rfl)) k4 bel lt4) trodAll_mk0))))), rfl, bel.frame _, fun h => by cases h⟩
theorem over : Rows.wordPartsRow.holds Try.pinned (OpenSpec.ofChange Rows.wordPartsSpec) :=
 OpenClaim.holds_of_wide 9 Try.f9 rfl rfl rfl rfl rfl rfl rfl ⟨rfl, rfl, rfl, rfl, rfl⟩ rfl rfl rfl rfl rfl (by kernel_rfl) Try.func9 (by kernel_rfl)
  (of_decide_eq_true (by kernel_rfl)) (by unfold Func.isWrapper; first | (rw [if_pos (by decide +kernel)]; kernel_rfl) | (rw [if_neg (by decide +kernel)]; exact ⟨rfl, rfl⟩))
  (fun os started H enc _ => lifted os started H enc)
theorem proved : Rows.WordPartsSaid := over
#print axioms proved
end Go.Proofs.Ytdnegloonbanpaa.wordParts
namespace Go.Proofs.Ytdnegloonbanpaa
/-- The row, under a short name, for the claim. -/
theorem wordParts_holds : Rows.WordPartsSaid := wordParts.proved
end Go.Proofs.Ytdnegloonbanpaa
