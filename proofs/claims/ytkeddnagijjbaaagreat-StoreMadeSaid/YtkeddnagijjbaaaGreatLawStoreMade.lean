/- What stores, places, windows and the order of hits are, for stores that are made of numbers, with one number that may be wrong.
 Proved for every input that the statement's row lets in; it has no further conditions. -/
import Derived.Test.YtkeddnagijjbaaaGreatRows
import Derived.ProofKit
import Derived.OpenShut
import Derived.ShutString
import Derived.ChangeOld
import Derived.Below
import Derived.SizedLaws
import Derived.Test.YtkeddnagijjbaaaGreatPStoreMade
namespace Go.Proofs.YtkeddnagijjbaaaGreat.storeMade
open Go Go.ChangeShapes Go.WideShapes Go.ChangeAt Go.RowKit
open Go.ChangeMaps (open_string shut_string)
set_option linter.unusedVariables false
theorem own : ownKnob Tryz.prog.godebug = none := by kernel_rfl
theorem laidOut : laidOutB Tryz.prog = true := by kernel_rfl
theorem orders : Tryz.prog.follows .mixedOrders = true := by kernel_rfl
def IsRow (k : IntKind) (w : World) (a : Option Addr) (len cap : Nat) (zs : List Int) : Prop :=
 (a = none ∧ len = 0 ∧ cap = 0 ∧ zs = []) ∨
 ∃ x, a = some x ∧ len ≤ cap ∧ cap ≤ maxLen ∧ zs.length = cap ∧ (∀ i, i < zs.length → w.cell? (x.add i) = some (.int k (zs.getD i 0))) ∧ ∀ n ∈ zs, (Lit.int k n).wf = true
set_option maxRecDepth 100000 in
theorem lifted (os : Os) (started : os.Started) (H : Type) (enc : TypeId × Value → H) :
 ReturnsInHanded {} Tryz.checked os 5 .any (Rows.storeMadeSpec.pre6 enc Tryz.prog Tryz.f5 Rows.storeMadeRow.domain false) (Rows.storeMadeSpec.post enc Tryz.prog Tryz.f5 false true false false) := by
 refine returnsInHanded_of_change_sized (C := Tryz.checked) own started (by kernel_rfl) Tryz.func5
  (ChangeSpec.witness6 (enc := enc) (C := Tryz.checked) false ⟨#[], #[.slice none 0 0, .int .i64 0, .int .i64 0, .agg #[.int .i64 0, .int .i64 0]], []⟩ 8 (by kernel_rfl) (by kernel_rfl) (by kernel_rfl) (by kernel_rfl)) ?_
 intro W base args ds gs before hval0 hW hcnd hsz0 _
 have hval : ∀ (j : Nat) t v, Tryz.f5.params[j]? = some t → args[j]? = some v → Value.okWide Tryz.prog W .any base t v := hval0
 have hW' := hW
 obtain ⟨p, q, hA0, hV, rfl, hfz, hnd⟩ := hW
 have hA : DataW.TrodAll enc Tryz.prog W 0 (fun _ => true) true Tryz.f5.params.toList args.toList ds p := hA0
 rw [Tryz.params5] at hA hval
 obtain ⟨v0, vs0, d0, ds0, p0, q0, hargs, rfl, rfl, h0, r0⟩ := trodAll_cons hA
 obtain ⟨v1, vs1, d1, ds1, p1, q1, rfl, rfl, rfl, h1, r1⟩ := trodAll_cons r0
 obtain ⟨v2, vs2, d2, ds2, p2, q2, rfl, rfl, rfl, h2, r2⟩ := trodAll_cons r1
 obtain ⟨v3, vs3, d3, ds3, p3, q3, rfl, rfl, rfl, h3, r3⟩ := trodAll_cons r2
 obtain ⟨rfl, rfl, rfl⟩ := trodAll_nil r3
 obtain rfl : args = #[v0, v1, v2, v3] := by cases args; simp_all
 obtain ⟨rfl, rfl⟩ := trodVars_none hV
 obtain ⟨a0, len0, cap0, rfl⟩ := okWide_slice Tryz.underlying22 (hval 0 22 v0 rfl rfl)
 have k0 := h0
 have lt0 : ∀ x ∈ p0, x.block < W.heap.size := by obtain ⟨m, hm⟩ := k0; exact DataW.trod_lt m _ _ _ hm
 obtain ⟨z0, w0⟩ : ∃ zs, IsRow .i64 W a0 len0 cap0 zs := by
  obtain ⟨fuel, hf⟩ := h0
  rcases open_ints Tryz.underlying22 Tryz.underlying3 (by kernel_rfl) hf with ⟨hcs, _⟩ | ⟨x, l, c, zs, hcs, _, hl, hm, hz, _, hcell, hwz⟩
  · simp [Value.cells] at hcs
    obtain ⟨rfl, rfl, rfl⟩ := hcs
    exact ⟨[], .inl ⟨rfl, rfl, rfl, rfl⟩⟩
  · simp [Value.cells] at hcs
    obtain ⟨rfl, rfl, rfl⟩ := hcs
    exact ⟨zs, .inr ⟨_, rfl, hl, hm, by simpa using hz, hcell, hwz⟩⟩
 obtain ⟨a1, rfl, rfl, rfl, w1⟩ := open_int Tryz.underlying3 (hval 1 3 v1 rfl rfl) h1
 obtain ⟨a2, rfl, rfl, rfl, w2⟩ := open_int Tryz.underlying3 (hval 2 3 v2 rfl rfl) h2
 obtain ⟨b3, rfl, sz3⟩ := okWide_struct Tryz.underlying50 (hval 3 50 v3 rfl rfl)
 have k3 := h3
 have lt3 : ∀ x ∈ p3, x.block < W.heap.size := by obtain ⟨m, hm⟩ := k3; exact DataW.trod_lt m _ _ _ hm
 have sz3' : b3.toList.length = 2 := by rw [Array.length_toList, sz3]; kernel_rfl
 obtain ⟨c3_0, c3_1, hb3⟩ : ∃ c3_0 c3_1, b3.toList = [c3_0, c3_1] := by
  match b3.toList, sz3' with
  | [c3_0, c3_1], _ => exact ⟨_, _, rfl⟩
 obtain rfl : b3 = #[c3_0, c3_1] := by cases b3; simp_all
 obtain ⟨fuel3, hf3⟩ := h3
 have hf3' : DataW.trod enc Tryz.prog W 0 (fun _ => true) true fuel3 50 [c3_0, c3_1] = some (d3, p3) := hf3
 obtain ⟨xs3_1, n3_1, _, _, _, hl3_1, hg3_1⟩ := DataW.trod_struct Tryz.underlying50 hf3'
 obtain ⟨y3_2, hy3_2⟩ : ∃ y, xs3_1[0]? = some y := ⟨_, List.getElem?_eq_getElem (by rw [hl3_1]; decide)⟩
 have g3_2 : DataW.trod enc Tryz.prog W 0 (fun _ => true) true n3_1 3 ((([c3_0, c3_1] : List Value).drop 0).take (Tryz.prog.cellsOf 3)) = some y3_2 := (hg3_1 0 _ rfl).trans hy3_2
 have e3_2 : (([c3_0, c3_1] : List Value).drop 0).take (Tryz.prog.cellsOf 3) = [c3_0] := by kernel_rfl
 rw [e3_2] at g3_2
 obtain ⟨a3_2, q3_2, _, w3_2⟩ := DataW.trod_int Tryz.underlying3 g3_2
 obtain ⟨y3_3, hy3_3⟩ : ∃ y, xs3_1[1]? = some y := ⟨_, List.getElem?_eq_getElem (by rw [hl3_1]; decide)⟩
 have g3_3 : DataW.trod enc Tryz.prog W 0 (fun _ => true) true n3_1 3 ((([c3_0, c3_1] : List Value).drop 1).take (Tryz.prog.cellsOf 3)) = some y3_3 := (hg3_1 1 _ rfl).trans hy3_3
 have e3_3 : (([c3_0, c3_1] : List Value).drop 1).take (Tryz.prog.cellsOf 3) = [c3_1] := by kernel_rfl
 rw [e3_3] at g3_3
 obtain ⟨a3_3, q3_3, _, w3_3⟩ := DataW.trod_int Tryz.underlying3 g3_3
 obtain rfl : c3_0 = .int .i64 a3_2 := by simpa using q3_2
 obtain rfl : c3_1 = .int .i64 a3_3 := by simpa using q3_3
 clear hA0 hval0 hsz0
 obtain ⟨k, hk⟩ := pure_storeMade (z0.take len0) (ints_wf w0) a1 w1 a2 w2 a3_2 w3_2 a3_3 w3_3
 refine (law_walk orders X_ok (us := [.slice a0 len0 cap0, .int .i64 a1, .int .i64 a2, .agg #[.int .i64 a3_2, .int .i64 a3_3]]) rfl (T_law23_StoreMade_ok k (z0.take len0) a1 a2 a3_2 a3_3 true hk) (All2.cons (ints_rep w0) (All2.cons int_rep (All2.cons int_rep (All2.cons (agg_rep (All2.cons int_repC (All2.cons int_repC All2.nil))) All2.nil))))).mono fun e W' ⟨he, bel⟩ => ?_
 subst he
 exact ⟨_, rfl, _, _, _, [], _, [], hW', trodAll_mk1 (shut_bool Tryz.underlying4 _), (trodAll_cons_mk (Below.trod laidOut (by kernel_rfl) (of_decide_eq_true (by kernel_rfl)) k0 bel lt0) (trodAll_cons_mk (shut_int Tryz.underlying3 w1) (trodAll_cons_mk (shut_int Tryz.underlying3 w2) (trodAll_cons_mk (Below.trod laidOut (by kernel_rfl) (of_decide_eq_true (by kernel_rfl)) k3 bel lt3) trodAll_mk0)))), rfl, bel.frame _, fun h => by cases h⟩
theorem over : Rows.storeMadeRow.holds Tryz.pinned (OpenSpec.ofChange Rows.storeMadeSpec) :=
 OpenClaim.holds_of_wide 5 Tryz.f5 rfl rfl rfl rfl rfl rfl rfl ⟨rfl, rfl, rfl, rfl, rfl⟩ rfl rfl rfl rfl rfl (by kernel_rfl) Tryz.func5 (by kernel_rfl)
  (of_decide_eq_true (by kernel_rfl)) (by unfold Func.isWrapper; first | (rw [if_pos (by decide +kernel)]; kernel_rfl) | (rw [if_neg (by decide +kernel)]; exact ⟨rfl, rfl⟩))
  (fun os started H enc _ => lifted os started H enc)
theorem proved : Rows.StoreMadeSaid := over
#print axioms proved
end Go.Proofs.YtkeddnagijjbaaaGreat.storeMade
namespace Go.Proofs.YtkeddnagijjbaaaGreat
/-- The row, under a short name, for the claim. -/
theorem storeMade_holds : Rows.StoreMadeSaid := storeMade.proved
end Go.Proofs.YtkeddnagijjbaaaGreat
