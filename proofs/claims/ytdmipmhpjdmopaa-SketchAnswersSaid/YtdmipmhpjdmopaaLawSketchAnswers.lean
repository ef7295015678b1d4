/- All functions of chapter 21 return what its reference returns, errors included: SketchAnswers returns true for all lists, sketches, intervals and numbers.
 Proved for every input that the statement's row lets in; it has no further conditions. -/
import Derived.Test.YtdmipmhpjdmopaaRows
import Derived.ProofKit
import Derived.OpenShut
import Derived.ShutString
import Derived.ChangeOld
import Derived.Below
import Derived.SizedLaws
import Derived.Test.YtdmipmhpjdmopaaPSketchAnswers
namespace Go.Proofs.Ytdmipmhpjdmopaa.sketchAnswers
open Go Go.ChangeShapes Go.WideShapes Go.ChangeAt Go.RowKit
open Go.ChangeMaps (open_string shut_string)
set_option linter.unusedVariables false
theorem own : ownKnob Try.prog.godebug = none := by kernel_rfl
theorem laidOut : laidOutB Try.prog = true := by kernel_rfl
theorem orders : Try.prog.follows .mixedOrders = true := by kernel_rfl
def IsRow (k : IntKind) (w : World) (a : Option Addr) (len cap : Nat) (zs : List Int) : Prop :=
 (a = none ∧ len = 0 ∧ cap = 0 ∧ zs = []) ∨
 ∃ x, a = some x ∧ len ≤ cap ∧ cap ≤ maxLen ∧ zs.length = cap ∧ (∀ i, i < zs.length → w.cell? (x.add i) = some (.int k (zs.getD i 0))) ∧ ∀ n ∈ zs, (Lit.int k n).wf = true
set_option maxRecDepth 100000 in
theorem lifted (os : Os) (started : os.Started) (H : Type) (enc : TypeId × Value → H) :
 ReturnsInHanded {} Try.checked os 6 .any (Rows.sketchAnswersSpec.pre6 enc Try.prog Try.f6 Rows.sketchAnswersRow.domain false) (Rows.sketchAnswersSpec.post enc Try.prog Try.f6 false true false false) := by
 refine returnsInHanded_of_change_sized (C := Try.checked) own started (by kernel_rfl) Try.func6
  (ChangeSpec.witness6 (enc := enc) (C := Try.checked) false ⟨#[], #[.slice none 0 0, .int .i64 0, .agg #[.int .i64 0, .slice none 0 0, .int .i64 0], .slice none 0 0, .slice none 0 0], []⟩ 8 (by kernel_rfl) (by kernel_rfl) (by kernel_rfl) (by kernel_rfl)) ?_
 intro W base args ds gs before hval0 hW hcnd hsz0 _
 have hval : ∀ (j : Nat) t v, Try.f6.params[j]? = some t → args[j]? = some v → Value.okWide Try.prog W .any base t v := hval0
 have hW' := hW
 obtain ⟨p, q, hA0, hV, rfl, hfz, hnd⟩ := hW
 have hA : DataW.TrodAll enc Try.prog W 0 (fun _ => true) true Try.f6.params.toList args.toList ds p := hA0
 rw [Try.params6] at hA hval
 obtain ⟨v0, vs0, d0, ds0, p0, q0, hargs, rfl, rfl, h0, r0⟩ := trodAll_cons hA
 obtain ⟨v1, vs1, d1, ds1, p1, q1, rfl, rfl, rfl, h1, r1⟩ := trodAll_cons r0
 obtain ⟨v2, vs2, d2, ds2, p2, q2, rfl, rfl, rfl, h2, r2⟩ := trodAll_cons r1
 obtain ⟨v3, vs3, d3, ds3, p3, q3, rfl, rfl, rfl, h3, r3⟩ := trodAll_cons r2
 obtain ⟨v4, vs4, d4, ds4, p4, q4, rfl, rfl, rfl, h4, r4⟩ := trodAll_cons r3
 obtain ⟨rfl, rfl, rfl⟩ := trodAll_nil r4
 obtain rfl : args = #[v0, v1, v2, v3, v4] := by cases args; simp_all
 obtain ⟨rfl, rfl⟩ := trodVars_none hV
 obtain ⟨a0, len0, cap0, rfl⟩ := okWide_slice Try.underlying22 (hval 0 22 v0 rfl rfl)
 have k0 := h0
 have lt0 : ∀ x ∈ p0, x.block < W.heap.size := by obtain ⟨m, hm⟩ := k0; exact DataW.trod_lt m _ _ _ hm
 obtain ⟨z0, w0⟩ : ∃ zs, IsRow .i64 W a0 len0 cap0 zs := by
  obtain ⟨fuel, hf⟩ := h0
  rcases open_ints Try.underlying22 Try.underlying3 (by kernel_rfl) hf with ⟨hcs, _⟩ | ⟨x, l, c, zs, hcs, _, hl, hm, hz, _, hcell, hwz⟩
  · simp [Value.cells] at hcs
    obtain ⟨rfl, rfl, rfl⟩ := hcs
    exact ⟨[], .inl ⟨rfl, rfl, rfl, rfl⟩⟩
  · simp [Value.cells] at hcs
    obtain ⟨rfl, rfl, rfl⟩ := hcs
    exact ⟨zs, .inr ⟨_, rfl, hl, hm, by simpa using hz, hcell, hwz⟩⟩
 obtain ⟨a1, rfl, rfl, rfl, w1⟩ := open_int Try.underlying3 (hval 1 3 v1 rfl rfl) h1
 obtain ⟨b2, rfl, sz2⟩ := okWide_struct Try.underlying29 (hval 2 29 v2 rfl rfl)
 have k2 := h2
 have lt2 : ∀ x ∈ p2, x.block < W.heap.size := by obtain ⟨m, hm⟩ := k2; exact DataW.trod_lt m _ _ _ hm
 have sz2' : b2.toList.length = 3 := by rw [Array.length_toList, sz2]; kernel_rfl
 obtain ⟨c2_0, c2_1, c2_2, hb2⟩ : ∃ c2_0 c2_1 c2_2, b2.toList = [c2_0, c2_1, c2_2] := by
  match b2.toList, sz2' with
  | [c2_0, c2_1, c2_2], _ => exact ⟨_, _, _, rfl⟩
 obtain rfl : b2 = #[c2_0, c2_1, c2_2] := by cases b2; simp_all
 obtain ⟨fuel2, hf2⟩ := h2
 have hf2' : DataW.trod enc Try.prog W 0 (fun _ => true) true fuel2 29 [c2_0, c2_1, c2_2] = some (d2, p2) := hf2
 obtain ⟨xs2_1, n2_1, _, _, _, hl2_1, hg2_1⟩ := DataW.trod_struct Try.underlying29 hf2'
 obtain ⟨y2_2, hy2_2⟩ : ∃ y, xs2_1[0]? = some y := ⟨_, List.getElem?_eq_getElem (by rw [hl2_1]; decide)⟩
 have g2_2 : DataW.trod enc Try.prog W 0 (fun _ => true) true n2_1 3 ((([c2_0, c2_1, c2_2] : List Value).drop 0).take (Try.prog.cellsOf 3)) = some y2_2 := (hg2_1 0 _ rfl).trans hy2_2
 have e2_2 : (([c2_0, c2_1, c2_2] : List Value).drop 0).take (Try.prog.cellsOf 3) = [c2_0] := by kernel_rfl
 rw [e2_2] at g2_2
 obtain ⟨a2_2, q2_2, _, w2_2⟩ := DataW.trod_int Try.underlying3 g2_2
 obtain ⟨y2_3, hy2_3⟩ : ∃ y, xs2_1[1]? = some y := ⟨_, List.getElem?_eq_getElem (by rw [hl2_1]; decide)⟩
 have g2_3 : DataW.trod enc Try.prog W 0 (fun _ => true) true n2_1 22 ((([c2_0, c2_1, c2_2] : List Value).drop 1).take (Try.prog.cellsOf 22)) = some y2_3 := (hg2_1 1 _ rfl).trans hy2_3
 have e2_3 : (([c2_0, c2_1, c2_2] : List Value).drop 1).take (Try.prog.cellsOf 22) = [c2_1] := by kernel_rfl
 rw [e2_3] at g2_3
 obtain ⟨a2_3, len2_3, cap2_3, z2_3, q2_3, w2_3⟩ : ∃ a len cap zs, [c2_1] = [Value.slice a len cap] ∧ IsRow .i64 W a len cap zs := by
  rcases open_ints Try.underlying22 Try.underlying3 (by kernel_rfl) g2_3 with ⟨hcs, _⟩ | ⟨x, l, c, zs, hcs, _, hl, hm, hz, _, hcell, hwz⟩
  · exact ⟨none, 0, 0, [], hcs, .inl ⟨rfl, rfl, rfl, rfl⟩⟩
  · exact ⟨_, _, _, zs, hcs, .inr ⟨_, rfl, hl, hm, by simpa using hz, hcell, hwz⟩⟩
 obtain ⟨y2_4, hy2_4⟩ : ∃ y, xs2_1[2]? = some y := ⟨_, List.getElem?_eq_getElem (by rw [hl2_1]; decide)⟩
 have g2_4 : DataW.trod enc Try.prog W 0 (fun _ => true) true n2_1 3 ((([c2_0, c2_1, c2_2] : List Value).drop 2).take (Try.prog.cellsOf 3)) = some y2_4 := (hg2_1 2 _ rfl).trans hy2_4
 have e2_4 : (([c2_0, c2_1, c2_2] : List Value).drop 2).take (Try.prog.cellsOf 3) = [c2_2] := by kernel_rfl
 rw [e2_4] at g2_4
 obtain ⟨a2_4, q2_4, _, w2_4⟩ := DataW.trod_int Try.underlying3 g2_4
 obtain rfl : c2_0 = .int .i64 a2_2 := by simpa using q2_2
 obtain rfl : c2_1 = .slice a2_3 len2_3 cap2_3 := by simpa using q2_3
 obtain rfl : c2_2 = .int .i64 a2_4 := by simpa using q2_4
 obtain ⟨a3, len3, cap3, rfl⟩ := okWide_slice Try.underlying51 (hval 3 51 v3 rfl rfl)
 have k3 := h3
 have lt3 : ∀ x ∈ p3, x.block < W.heap.size := by obtain ⟨m, hm⟩ := k3; exact DataW.trod_lt m _ _ _ hm
 obtain ⟨z3, w3⟩ : ∃ zs, Row2 .i64 .i64 W a3 len3 cap3 zs := by
  obtain ⟨fuel, hf⟩ := h3
  obtain ⟨a, l, c, zs, hv, hr⟩ := open_pairs Try.underlying51 Try.underlying66 (by kernel_rfl) rfl rfl (by kernel_rfl) (by kernel_rfl) Try.underlying3 Try.underlying3 hf
  obtain ⟨rfl, rfl, rfl⟩ := Value.slice.inj hv
  exact ⟨zs, hr⟩
 obtain ⟨a4, len4, cap4, rfl⟩ := okWide_slice Try.underlying22 (hval 4 22 v4 rfl rfl)
 have k4 := h4
 have lt4 : ∀ x ∈ p4, x.block < W.heap.size := by obtain ⟨m, hm⟩ := k4; exact DataW.trod_lt m _ _ _ hm
 obtain ⟨z4, w4⟩ : ∃ zs, IsRow .i64 W a4 len4 cap4 zs := by
  obtain ⟨fuel, hf⟩ := h4
  rcases open_ints Try.underlying22 Try.underlying3 (by kernel_rfl) hf with ⟨hcs, _⟩ | ⟨x, l, c, zs, hcs, _, hl, hm, hz, _, hcell, hwz⟩
  · simp [Value.cells] at hcs
    obtain ⟨rfl, rfl, rfl⟩ := hcs
    exact ⟨[], .inl ⟨rfl, rfl, rfl, rfl⟩⟩
  · simp [Value.cells] at hcs
    obtain ⟨rfl, rfl, rfl⟩ := hcs
    exact ⟨zs, .inr ⟨_, rfl, hl, hm, by simpa using hz, hcell, hwz⟩⟩
 clear hA0 hval0 hsz0
 obtain ⟨k, hk⟩ := pure_sketchAnswers (z0.take len0) (ints_wf w0) a1 w1 a2_2 w2_2 (z2_3.take len2_3) (ints_wf w2_3) a2_4 w2_4 (z3.take len3) (pairs_wf w3) (z4.take len4) (ints_wf w4)
 refine (law_walk orders X_ok (us := [.slice a0 len0 cap0, .int .i64 a1, .agg #[.int .i64 a2_2, .slice a2_3 len2_3 cap2_3, .int .i64 a2_4], .slice a3 len3 cap3, .slice a4 len4 cap4]) rfl (T_law21_SketchAnswers_ok k (z0.take len0) a1 a2_2 (z2_3.take len2_3) a2_4 (z3.take len3) (z4.take len4) true hk) (All2.cons (ints_rep w0) (All2.cons int_rep (All2.cons (agg_rep (All2.cons int_repC (All2.cons (ints_repC w2_3) (All2.cons int_repC All2.nil)))) (All2.cons (pairs_rep w3) (All2.cons (ints_rep w4) All2.nil)))))).mono fun e W' ⟨he, bel⟩ => ?_
 subst he
 exact ⟨_, rfl, _, _, _, [], _, [], hW', trodAll_mk1 (shut_bool Try.underlying4 _), (trodAll_cons_mk (Below.trod laidOut (by kernel_rfl) (of_decide_eq_true (by kernel_rfl)) k0 bel lt0) (trodAll_cons_mk (shut_int Try.underlying3 w1) (trodAll_cons_mk (Below.trod laidOut (by kernel_rfl) (of_decide_eq_true (by kernel_rfl)) k2 bel lt2) (trodAll_cons_mk (Below.trod laidOut (by kernel_rfl) (of_decide_eq_true (by kernel_rfl)) k3 bel lt3) (trodAll_cons_mk (Below.trod laidOut (by kernel_rfl) (of_decide_eq_true (by kernel_rfl)) k4 bel lt4) trodAll_mk0))))), rfl, bel.frame _, fun h => by cases h⟩
theorem over : Rows.sketchAnswersRow.holds Try.pinned (OpenSpec.ofChange Rows.sketchAnswersSpec) :=
 OpenClaim.holds_of_wide 6 Try.f6 rfl rfl rfl rfl rfl rfl rfl ⟨rfl, rfl, rfl, rfl, rfl⟩ rfl rfl rfl rfl rfl (by kernel_rfl) Try.func6 (by kernel_rfl)
  (of_decide_eq_true (by kernel_rfl)) (by unfold Func.isWrapper; first | (rw [if_pos (by decide +kernel)]; kernel_rfl) | (rw [if_neg (by decide +kernel)]; exact ⟨rfl, rfl⟩))
  (fun os started H enc _ => lifted os started H enc)
theorem proved : Rows.SketchAnswersSaid := over
#print axioms proved
end Go.Proofs.Ytdmipmhpjdmopaa.sketchAnswers
namespace Go.Proofs.Ytdmipmhpjdmopaa
/-- The row, under a short name, for the claim. -/
theorem sketchAnswers_holds : Rows.SketchAnswersSaid := sketchAnswers.proved
end Go.Proofs.Ytdmipmhpjdmopaa
