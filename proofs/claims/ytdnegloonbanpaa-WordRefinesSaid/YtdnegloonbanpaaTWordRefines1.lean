/- What the functions that the statement WordRefines reaches compute, told as functions of Lean, and that the theory's language computes the same: part 2 of 2. There are no conditions. -/
import Derived.Test.YtdnegloonbanpaaTWordRefines0
set_option maxRecDepth 100000
set_option linter.unusedVariables false
set_option linter.unusedSimpArgs false
namespace Go.Proofs.Ytdnegloonbanpaa.wordRefines
open Go
def T_word_Of_l1 (k : Nat) (p1 : Int) (p2 : Int) (x3 : List Int) (p3 : Int) (p4 : Int) (x4 : Int) (p5 : Int) (p6 : List Int) (x23 : Int × Nat × Nat × (List Int) × (List Int)) : Option ((Int × Nat × Nat × (List Int) × (List Int)) ⊕ ((Nat × Nat × (List Int) × (List Int)))) :=
 (if x23.1 < x4 then (at? x3 x23.1).bind fun x25 => (T_slices_BinarySearch_b354 k p6 x25).bind fun x26 => ((if x26.2 = true then some (w64 (x26.1 + 1)) else some x26.1)).bind fun x28 => (if x23.2.1 + 1 ≤ LIM then (if x23.2.2.1 + 1 ≤ LIM then some (.inl ((w64 (x23.1 + 1)), (x23.2.1 + 1), (x23.2.2.1 + 1), ((x23.2.2.2.1.drop 0).take x23.2.1 ++ ([x28] : List Int)), ((x23.2.2.2.2.drop 0).take x23.2.2.1 ++ ([4] : List Int)))) else none) else none) else some (.inr (x23.2.1, x23.2.2.1, x23.2.2.2.1, x23.2.2.2.2)))
theorem T_word_Of_l1_ok (k : Nat) (p1 : Int) (p2 : Int) (x3 : List Int) (p3 : Int) (p4 : Int) (x4 : Int) (p5 : Int) (p6 : List Int) : ∀ (x23 : Int × Nat × Nat × (List Int) × (List Int)) (x : (Int × Nat × Nat × (List Int) × (List Int)) ⊕ ((Nat × Nat × (List Int) × (List Int)))), T_word_Of_l1 k p1 p2 x3 p3 p4 x4 p5 p6 x23 = some x → evC X (evF X k) k 0 l_word_Of_1 ⟨[(2, (.one (.ptr 0 0 0))), (4, (.one (.ptr 1 0 0))), (8, (.one (.ptr 2 0 0))), (23, (LI x3)), (24, (I x4)), (25, (I x23.1))], [.cells [.d (.int .i64 p1), .d (.int .i64 p2), .d (.int .i64 p3), .d (.int .i64 p4), .d (.int .i64 p5), .d (.list (p6.map (D.int .i64)))], .cells [.nil, .nil], .cells [.own 3 0 x23.2.1, .own 4 0 x23.2.2.1], VI x23.2.2.2.1, VI x23.2.2.2.2]⟩ = some (outS (fun (s : Int × Nat × Nat × (List Int) × (List Int)) => ⟨[(2, (.one (.ptr 0 0 0))), (4, (.one (.ptr 1 0 0))), (8, (.one (.ptr 2 0 0))), (23, (LI x3)), (24, (I x4)), (25, (I s.1))], [.cells [.d (.int .i64 p1), .d (.int .i64 p2), .d (.int .i64 p3), .d (.int .i64 p4), .d (.int .i64 p5), .d (.list (p6.map (D.int .i64)))], .cells [.nil, .nil], .cells [.own 3 0 s.2.1, .own 4 0 s.2.2.1], VI s.2.2.2.1, VI s.2.2.2.2]⟩) (fun (r : (Nat × Nat × (List Int) × (List Int))) => (.exit 0, ⟨[(4, (.one (.ptr 0 0 0))), (8, (.one (.ptr 1 0 0)))], [.cells [.nil, .nil], .cells [.own 2 0 r.1, .own 3 0 r.2.1], VI r.2.2.1, VI r.2.2.2]⟩)) x) := by
 intro x23 x H
 unfold T_word_Of_l1 at H
 refine K_in ?_
 refine K_seq ?_
 refine K_reg [] [] ⟨[(2, (.one (.ptr 0 0 0))), (4, (.one (.ptr 1 0 0))), (8, (.one (.ptr 2 0 0))), (23, (LI x3)), (24, (I x4)), (25, (I x23.1)), (26, (B (decide (x23.1 < x4))))], [.cells [.d (.int .i64 p1), .d (.int .i64 p2), .d (.int .i64 p3), .d (.int .i64 p4), .d (.int .i64 p5), .d (.list (p6.map (D.int .i64)))], .cells [.nil, .nil], .cells [.own 3 0 x23.2.1, .own 4 0 x23.2.2.1], VI x23.2.2.2.1, VI x23.2.2.2.2]⟩ (by kernel_rfl) trivial ?_
 refine K_seq ?_
 rcases ite_some H with ⟨hx24, H⟩ | ⟨hx24, H⟩
 · refine K_t rfl (decide_eq_true hx24) ?_
   refine K_gh ⟨[(2, (.one (.ptr 0 0 0))), (4, (.one (.ptr 1 0 0))), (8, (.one (.ptr 2 0 0))), (23, (LI x3)), (24, (I x4)), (25, (I x23.1))], [.cells [.d (.int .i64 p1), .d (.int .i64 p2), .d (.int .i64 p3), .d (.int .i64 p4), .d (.int .i64 p5), .d (.list (p6.map (D.int .i64)))], .cells [.nil, .nil], .cells [.own 3 0 x23.2.1, .own 4 0 x23.2.2.1], VI x23.2.2.2.1, VI x23.2.2.2.2]⟩ (by kernel_rfl) ?_
   refine K_skip ?_
   refine K_seq ?_
   refine K_block ?_
   refine K_seq ?_
   obtain ⟨x25, hx25, H⟩ := bind_some' H
   refine K_reg [.l [.int .i64 x25]] [(0 : Int) ≤ x23.1 ∧ x23.1 < (((x3.map (D.int .i64))).length : Int), ((x3.map (D.int .i64)).getD x23.1.toNat (.int .i64 0)).cells = [.int .i64 x25]] ⟨[(2, (.one (.ptr 0 0 0))), (4, (.one (.ptr 1 0 0))), (8, (.one (.ptr 2 0 0))), (10, (I x25)), (23, (LI x3)), (24, (I x4)), (25, (I x23.1))], [.cells [.d (.int .i64 p1), .d (.int .i64 p2), .d (.int .i64 p3), .d (.int .i64 p4), .d (.int .i64 p5), .d (.list (p6.map (D.int .i64)))], .cells [.nil, .nil], .cells [.own 3 0 x23.2.1, .own 4 0 x23.2.2.1], VI x23.2.2.2.1, VI x23.2.2.2.2]⟩ (by kernel_rfl) (AC (at_ok hx25 (D.int .i64) (.int .i64 0)).1 (A1 (at_ok hx25 (D.int .i64) (.int .i64 0)).2)) ?_
   refine K_seq ?_
   obtain ⟨x26, hx26, H⟩ := bind_some' H
   refine K_reg [.r (.tup [(false, [.d (.int .i64 x26.1)]), (false, [.d (.bool x26.2)])]) []] [evF X k n_slices_BinarySearch_b354 [(LI p6), (I x25)] [] = some ((.tup [(false, [.d (.int .i64 x26.1)]), (false, [.d (.bool x26.2)])]), [])] ⟨[(2, (.one (.ptr 0 0 0))), (4, (.one (.ptr 1 0 0))), (8, (.one (.ptr 2 0 0))), (11, (I x26.1)), (12, (B x26.2)), (23, (LI x3)), (24, (I x4)), (25, (I x23.1))], [.cells [.d (.int .i64 p1), .d (.int .i64 p2), .d (.int .i64 p3), .d (.int .i64 p4), .d (.int .i64 p5), .d (.list (p6.map (D.int .i64)))], .cells [.nil, .nil], .cells [.own 3 0 x23.2.1, .own 4 0 x23.2.2.1], VI x23.2.2.2.1, VI x23.2.2.2.2]⟩ (by kernel_rfl) (A1 (T_slices_BinarySearch_b354_ok k p6 x25 x26 hx26)) ?_
   refine K_seq ?_
   refine K_seq ?_
   refine K_reg [] [] ⟨[(2, (.one (.ptr 0 0 0))), (4, (.one (.ptr 1 0 0))), (8, (.one (.ptr 2 0 0))), (11, (I x26.1)), (23, (LI x3)), (24, (I x4)), (25, (I x23.1)), (36, (B x26.2))], [.cells [.d (.int .i64 p1), .d (.int .i64 p2), .d (.int .i64 p3), .d (.int .i64 p4), .d (.int .i64 p5), .d (.list (p6.map (D.int .i64)))], .cells [.nil, .nil], .cells [.own 3 0 x23.2.1, .own 4 0 x23.2.2.1], VI x23.2.2.2.1, VI x23.2.2.2.2]⟩ (by kernel_rfl) trivial ?_
   obtain ⟨x28, hx28, H⟩ := bind_some' H
   refine K_of ⟨[(2, (.one (.ptr 0 0 0))), (4, (.one (.ptr 1 0 0))), (8, (.one (.ptr 2 0 0))), (11, (I x28)), (23, (LI x3)), (24, (I x4)), (25, (I x23.1))], [.cells [.d (.int .i64 p1), .d (.int .i64 p2), .d (.int .i64 p3), .d (.int .i64 p4), .d (.int .i64 p5), .d (.list (p6.map (D.int .i64)))], .cells [.nil, .nil], .cells [.own 3 0 x23.2.1, .own 4 0 x23.2.2.1], VI x23.2.2.2.1, VI x23.2.2.2.2]⟩ ?_ ?_
   · clear H; have H := hx28; clear hx28; refine K_in ?_
     rcases ite_some H with ⟨hx27, H⟩ | ⟨hx27, H⟩
     · refine K_t rfl hx27 ?_
       refine K_reg [] [] ⟨[(2, (.one (.ptr 0 0 0))), (4, (.one (.ptr 1 0 0))), (8, (.one (.ptr 2 0 0))), (11, (I (w64 (x26.1 + 1)))), (23, (LI x3)), (24, (I x4)), (25, (I x23.1))], [.cells [.d (.int .i64 p1), .d (.int .i64 p2), .d (.int .i64 p3), .d (.int .i64 p4), .d (.int .i64 p5), .d (.list (p6.map (D.int .i64)))], .cells [.nil, .nil], .cells [.own 3 0 x23.2.1, .own 4 0 x23.2.2.1], VI x23.2.2.2.1, VI x23.2.2.2.2]⟩ (by kernel_rfl) trivial ?_
       cases H
       exact K_end rfl
     · refine K_f rfl (Bool.eq_false_iff.2 hx27) ?_
       refine K_gh ⟨[(2, (.one (.ptr 0 0 0))), (4, (.one (.ptr 1 0 0))), (8, (.one (.ptr 2 0 0))), (11, (I x26.1)), (23, (LI x3)), (24, (I x4)), (25, (I x23.1))], [.cells [.d (.int .i64 p1), .d (.int .i64 p2), .d (.int .i64 p3), .d (.int .i64 p4), .d (.int .i64 p5), .d (.list (p6.map (D.int .i64)))], .cells [.nil, .nil], .cells [.own 3 0 x23.2.1, .own 4 0 x23.2.2.1], VI x23.2.2.2.1, VI x23.2.2.2.2]⟩ (by kernel_rfl) ?_
       refine K_skip ?_
       cases H
       exact K_end rfl
   refine K_seq ?_
   obtain ⟨hx29, H⟩ := guard_some H
   refine K_reg [.n 1, .l (((x23.2.2.2.1.drop 0).take x23.2.1 ++ ([x28] : List Int)).map (D.int .i64))] [(List.all (([x28] : List Int).map (D.int .i64)) fun d => d.cells.length == (D.cells (.int .i64 0)).length) = true, x23.2.1 + 1 ≤ LIM, (([x28] : List Int).map (D.int .i64)).length = 1, ((x23.2.2.2.1.map (D.int .i64)).drop 0).take x23.2.1 ++ (([x28] : List Int).map (D.int .i64)) = ((x23.2.2.2.1.drop 0).take x23.2.1 ++ ([x28] : List Int)).map (D.int .i64)] ⟨[(2, (.one (.ptr 0 0 0))), (4, (.one (.ptr 1 0 0))), (8, (.one (.ptr 2 0 0))), (23, (LI x3)), (24, (I x4)), (25, (I x23.1))], [.cells [.d (.int .i64 p1), .d (.int .i64 p2), .d (.int .i64 p3), .d (.int .i64 p4), .d (.int .i64 p5), .d (.list (p6.map (D.int .i64)))], .cells [.nil, .nil], .cells [.own 3 0 (x23.2.1 + 1), .own 4 0 x23.2.2.1], VI ((x23.2.2.2.1.drop 0).take x23.2.1 ++ ([x28] : List Int)), VI x23.2.2.2.2]⟩ (by kernel_rfl) (AC (all_ok (D.int .i64) 1 ([x28] : List Int) (fun _ => rfl)) (AC hx29 (AC (by simp) (A1 (ap_map (D.int .i64) x23.2.2.2.1 ([x28] : List Int) 0 x23.2.1))))) ?_
   obtain ⟨hx30, H⟩ := guard_some H
   refine K_reg [.n 1, .l (((x23.2.2.2.2.drop 0).take x23.2.2.1 ++ ([4] : List Int)).map (D.int .i64))] [(List.all (([4] : List Int).map (D.int .i64)) fun d => d.cells.length == (D.cells (.int .i64 0)).length) = true, x23.2.2.1 + 1 ≤ LIM, (([4] : List Int).map (D.int .i64)).length = 1, ((x23.2.2.2.2.map (D.int .i64)).drop 0).take x23.2.2.1 ++ (([4] : List Int).map (D.int .i64)) = ((x23.2.2.2.2.drop 0).take x23.2.2.1 ++ ([4] : List Int)).map (D.int .i64)] ⟨[(2, (.one (.ptr 0 0 0))), (4, (.one (.ptr 1 0 0))), (8, (.one (.ptr 2 0 0))), (23, (LI x3)), (24, (I x4)), (25, (I x23.1))], [.cells [.d (.int .i64 p1), .d (.int .i64 p2), .d (.int .i64 p3), .d (.int .i64 p4), .d (.int .i64 p5), .d (.list (p6.map (D.int .i64)))], .cells [.nil, .nil], .cells [.own 3 0 (x23.2.1 + 1), .own 4 0 (x23.2.2.1 + 1)], VI ((x23.2.2.2.1.drop 0).take x23.2.1 ++ ([x28] : List Int)), VI ((x23.2.2.2.2.drop 0).take x23.2.2.1 ++ ([4] : List Int))]⟩ (by kernel_rfl) (AC (all_ok (D.int .i64) 1 ([4] : List Int) (fun _ => rfl)) (AC hx30 (AC (by simp) (A1 (ap_map (D.int .i64) x23.2.2.2.2 ([4] : List Int) 0 x23.2.2.1))))) ?_
   refine K_blk ?_
   refine K_reg [] [] ⟨[(2, (.one (.ptr 0 0 0))), (4, (.one (.ptr 1 0 0))), (8, (.one (.ptr 2 0 0))), (23, (LI x3)), (24, (I x4)), (25, (I (w64 (x23.1 + 1))))], [.cells [.d (.int .i64 p1), .d (.int .i64 p2), .d (.int .i64 p3), .d (.int .i64 p4), .d (.int .i64 p5), .d (.list (p6.map (D.int .i64)))], .cells [.nil, .nil], .cells [.own 3 0 (x23.2.1 + 1), .own 4 0 (x23.2.2.1 + 1)], VI ((x23.2.2.2.1.drop 0).take x23.2.1 ++ ([x28] : List Int)), VI ((x23.2.2.2.2.drop 0).take x23.2.2.1 ++ ([4] : List Int))]⟩ (by kernel_rfl) trivial ?_
   cases H
   exact K_end rfl
 · refine K_f rfl (decide_eq_false hx24) ?_
   refine K_gh ⟨[(4, (.one (.ptr 0 0 0))), (8, (.one (.ptr 1 0 0)))], [.cells [.nil, .nil], .cells [.own 2 0 x23.2.1, .own 3 0 x23.2.2.1], VI x23.2.2.2.1, VI x23.2.2.2.2]⟩ (by kernel_rfl) ?_
   cases H
   exact K_exit0 rfl rfl
def T_word_Of (k : Nat) (p1 : Int) (p2 : Int) (p3 : Int) (p4 : Int) (p5 : Int) (p6 : List Int) (p7 : List Int) : Option ((List Int) × (List Int) × Int) := match k with
 | 0 => none
 | k + 1 => ((T_word_Coordinates k p1 p2 p3 p4 p5 p6 p7).bind fun x1 => (if (!decide (x1.2 = 0)) = true then some ([], [], x1.2) else ((loopT (T_word_Of_l1 k p1 p2 x1.1 p3 p4 (x1.1.length : Int) p5 p6) k (0, 0, 0, [], [])).bind fun x31 => some (((x31.2.2.1.drop 0).take x31.1), ((x31.2.2.2.drop 0).take x31.2.1), 0))))
theorem T_word_Of_ok (k : Nat) (p1 : Int) (p2 : Int) (p3 : Int) (p4 : Int) (p5 : Int) (p6 : List Int) (p7 : List Int) (r : (List Int) × (List Int) × Int) : T_word_Of k p1 p2 p3 p4 p5 p6 p7 = some r → evF X k n_word_Of [(.agg [.d (.int .i64 p1), .d (.int .i64 p2), .d (.int .i64 p3), .d (.int .i64 p4), .d (.int .i64 p5), .d (.list (p6.map (D.int .i64)))]), (LI p7)] [] = some ((.tup [(true, [.d (.list (r.1.map (D.int .i64))), .d (.list (r.2.1.map (D.int .i64)))]), (false, [.d (.int .i64 r.2.2)])]), []) := by
 intro H
 cases k with
 | zero => simp [T_word_Of] at H
 | succ k =>
  simp only [T_word_Of] at H
  refine F_in X_word_Of rfl ?_
  refine K_seq ?_
  refine K_reg [] [] ⟨[(1, (LI p7)), (2, (.one (.ptr 0 0 0))), (4, (.one (.ptr 1 0 0)))], [.cells [.d (.int .i64 p1), .d (.int .i64 p2), .d (.int .i64 p3), .d (.int .i64 p4), .d (.int .i64 p5), .d (.list (p6.map (D.int .i64)))], .cells [.nil, .nil]]⟩ (by kernel_rfl) trivial ?_
  refine K_seq ?_
  obtain ⟨x1, hx1, H⟩ := bind_some' H
  refine K_reg [.r (.tup [(false, [.d (.list (x1.1.map (D.int .i64)))]), (false, [.d (.int .i64 x1.2)])]) []] [evF X k n_word_Coordinates [(.agg [.d (.int .i64 p1), .d (.int .i64 p2), .d (.int .i64 p3), .d (.int .i64 p4), .d (.int .i64 p5), .d (.list (p6.map (D.int .i64)))]), (LI p7)] [] = some ((.tup [(false, [.d (.list (x1.1.map (D.int .i64)))]), (false, [.d (.int .i64 x1.2)])]), [])] ⟨[(2, (.one (.ptr 0 0 0))), (4, (.one (.ptr 1 0 0))), (6, (LI x1.1)), (7, (I x1.2))], [.cells [.d (.int .i64 p1), .d (.int .i64 p2), .d (.int .i64 p3), .d (.int .i64 p4), .d (.int .i64 p5), .d (.list (p6.map (D.int .i64)))], .cells [.nil, .nil]]⟩ (by kernel_rfl) (A1 (T_word_Coordinates_ok k p1 p2 p3 p4 p5 p6 p7 x1 hx1)) ?_
  refine K_seq ?_
  refine K_seq ?_
  refine K_reg [] [] ⟨[(2, (.one (.ptr 0 0 0))), (4, (.one (.ptr 1 0 0))), (6, (LI x1.1)), (7, (I x1.2)), (20, (B (!decide (x1.2 = 0))))], [.cells [.d (.int .i64 p1), .d (.int .i64 p2), .d (.int .i64 p3), .d (.int .i64 p4), .d (.int .i64 p5), .d (.list (p6.map (D.int .i64)))], .cells [.nil, .nil]]⟩ (by kernel_rfl) trivial ?_
  rcases ite_some H with ⟨hx2, H⟩ | ⟨hx2, H⟩
  · refine K_t rfl hx2 ?_
    refine K_seq ?_
    refine K_reg [] [] ⟨[(4, (.one (.ptr 0 0 0))), (5, (I x1.2))], [.cells [.nil, .nil]]⟩ (by kernel_rfl) trivial ?_
    refine K_gh ⟨[(4, (.one (.ptr 0 0 0))), (5, (I x1.2))], [.cells [.nil, .nil]]⟩ (by kernel_rfl) ?_
    cases H
    refine K_ret ?_
    kernel_rfl
  · refine K_f rfl (Bool.eq_false_iff.2 hx2) ?_
    refine K_gh ⟨[(2, (.one (.ptr 0 0 0))), (4, (.one (.ptr 1 0 0))), (6, (LI x1.1))], [.cells [.d (.int .i64 p1), .d (.int .i64 p2), .d (.int .i64 p3), .d (.int .i64 p4), .d (.int .i64 p5), .d (.list (p6.map (D.int .i64)))], .cells [.nil, .nil]]⟩ (by kernel_rfl) ?_
    refine K_skip ?_
    refine K_seq ?_
    refine K_reg [] [] ⟨[(2, (.one (.ptr 0 0 0))), (4, (.one (.ptr 1 0 0))), (6, (LI x1.1)), (8, (.one (.ptr 2 0 0)))], [.cells [.d (.int .i64 p1), .d (.int .i64 p2), .d (.int .i64 p3), .d (.int .i64 p4), .d (.int .i64 p5), .d (.list (p6.map (D.int .i64)))], .cells [.nil, .nil], .cells [.nil, .nil]]⟩ (by kernel_rfl) trivial ?_
    refine K_seq ?_
    refine K_seq ?_
    refine K_reg [.n x1.1.length] [((x1.1.map (D.int .i64))).length = x1.1.length] ⟨[(2, (.one (.ptr 0 0 0))), (4, (.one (.ptr 1 0 0))), (8, (.one (.ptr 2 0 0))), (23, (LI x1.1)), (24, (I (x1.1.length : Int))), (25, (I 0))], [.cells [.d (.int .i64 p1), .d (.int .i64 p2), .d (.int .i64 p3), .d (.int .i64 p4), .d (.int .i64 p5), .d (.list (p6.map (D.int .i64)))], .cells [.nil, .nil], .cells [.nil, .nil]]⟩ (by kernel_rfl) (A1 (List.length_map _)) ?_
    refine K_block ?_
    refine K_gh ⟨[(2, (.one (.ptr 0 0 0))), (4, (.one (.ptr 1 0 0))), (8, (.one (.ptr 2 0 0))), (23, (LI x1.1)), (24, (I (x1.1.length : Int))), (25, (I 0))], [.cells [.d (.int .i64 p1), .d (.int .i64 p2), .d (.int .i64 p3), .d (.int .i64 p4), .d (.int .i64 p5), .d (.list (p6.map (D.int .i64)))], .cells [.nil, .nil], .cells [.own 3 0 0, .own 4 0 0], VI [], VI []]⟩ (by kernel_rfl) ?_
    obtain ⟨x31, hx31, H⟩ := bind_some' H
    refine K_loop ⟨[(4, (.one (.ptr 0 0 0))), (8, (.one (.ptr 1 0 0)))], [.cells [.nil, .nil], .cells [.own 2 0 x31.1, .own 3 0 x31.2.1], VI x31.2.2.1, VI x31.2.2.2]⟩ (loop_ok (fun (s : Int × Nat × Nat × (List Int) × (List Int)) => ⟨[(2, (.one (.ptr 0 0 0))), (4, (.one (.ptr 1 0 0))), (8, (.one (.ptr 2 0 0))), (23, (LI x1.1)), (24, (I (x1.1.length : Int))), (25, (I s.1))], [.cells [.d (.int .i64 p1), .d (.int .i64 p2), .d (.int .i64 p3), .d (.int .i64 p4), .d (.int .i64 p5), .d (.list (p6.map (D.int .i64)))], .cells [.nil, .nil], .cells [.own 3 0 s.2.1, .own 4 0 s.2.2.1], VI s.2.2.2.1, VI s.2.2.2.2]⟩) (fun (r : (Nat × Nat × (List Int) × (List Int))) => (.exit 0, ⟨[(4, (.one (.ptr 0 0 0))), (8, (.one (.ptr 1 0 0)))], [.cells [.nil, .nil], .cells [.own 2 0 r.1, .own 3 0 r.2.1], VI r.2.2.1, VI r.2.2.2]⟩)) (fun r h => by cases h) (T_word_Of_l1_ok k p1 p2 x1.1 p3 p4 (x1.1.length : Int) p5 p6) k (0, 0, 0, [], []) x31 hx31) rfl ?_
    refine K_seq ?_
    refine K_reg [] [] ⟨[(4, (.one (.ptr 0 0 0))), (5, (I 0))], [.cells [.own 1 0 x31.1, .own 2 0 x31.2.1], VI x31.2.2.1, VI x31.2.2.2]⟩ (by kernel_rfl) trivial ?_
    refine K_gh ⟨[(4, (.one (.ptr 0 0 0))), (5, (I 0))], [.cells [.own 1 0 x31.1, .own 2 0 x31.2.1], VI x31.2.2.1, VI x31.2.2.2]⟩ (by kernel_rfl) ?_
    cases H
    refine K_ret ?_
    exact Eq.trans (b := some ((.tup [(true, [.d (.list (((x31.2.2.1.map (D.int .i64)).drop 0).take x31.1)), .d (.list (((x31.2.2.2.map (D.int .i64)).drop 0).take x31.2.1))]), (false, [.d (.int .i64 0)])]), [])) (by kernel_rfl) (by simp only [dt_map, LI, VI])
def T_word_interval (k : Nat) (p1 : List Int) (p2 : Int) (p3 : Int) : Option (Int × Int) := match k with
 | 0 => none
 | k + 1 => (if (0 : Int) ≤ (w64 (4 - p3)) then (if (p1.length : Int) < (w64 (p2 * 2 ^ (Nat.min (w64 (4 - p3)).toNat (IntKind.bits .i64)))) then some (1, 0) else (((if 0 < (w64 (p2 * 2 ^ (Nat.min (w64 (4 - p3)).toNat (IntKind.bits .i64)))) then ((at? p1 (w64 ((w64 (p2 * 2 ^ (Nat.min (w64 (4 - p3)).toNat (IntKind.bits .i64)))) - 1))).bind fun x4 => some x4) else some (-1099511627776))).bind fun x5 => ((if (w64 ((w64 ((w64 (p2 + 1)) * 2 ^ (Nat.min (w64 (4 - p3)).toNat (IntKind.bits .i64)))) - 1)) < (p1.length : Int) then ((at? p1 (w64 ((w64 ((w64 (p2 + 1)) * 2 ^ (Nat.min (w64 (4 - p3)).toNat (IntKind.bits .i64)))) - 1))).bind fun x7 => some (w64 (x7 - 1))) else some 1099511627776)).bind fun x8 => some (x5, x8))) else none)
theorem T_word_interval_ok (k : Nat) (p1 : List Int) (p2 : Int) (p3 : Int) (r : Int × Int) : T_word_interval k p1 p2 p3 = some r → evF X k n_word_interval [(LI p1), (I p2), (I p3)] [] = some ((.agg [.d (.int .i64 r.1), .d (.int .i64 r.2)]), []) := by
 intro H
 cases k with
 | zero => simp [T_word_interval] at H
 | succ k =>
  simp only [T_word_interval] at H
  refine F_in X_word_interval rfl ?_
  refine K_seq ?_
  refine K_reg [] [] ⟨[(0, (LI p1)), (1, (I p2)), (2, (I p3)), (6, (.one (.ptr 0 0 0)))], [.cells [.d (.int .i64 0), .d (.int .i64 0)]]⟩ (by kernel_rfl) trivial ?_
  refine K_seq ?_
  refine K_reg [] [] ⟨[(0, (LI p1)), (1, (I p2)), (6, (.one (.ptr 0 0 0))), (7, (I (w64 (4 - p3))))], [.cells [.d (.int .i64 0), .d (.int .i64 0)]]⟩ (by kernel_rfl) trivial ?_
  refine K_seq ?_
  obtain ⟨hx1, H⟩ := guard_some H
  refine K_reg [] [(0 : Int) ≤ (w64 (4 - p3)), (0 : Int) ≤ (w64 (4 - p3))] ⟨[(0, (LI p1)), (6, (.one (.ptr 0 0 0))), (8, (I (w64 (p2 * 2 ^ (Nat.min (w64 (4 - p3)).toNat (IntKind.bits .i64)))))), (9, (I (w64 ((w64 ((w64 (p2 + 1)) * 2 ^ (Nat.min (w64 (4 - p3)).toNat (IntKind.bits .i64)))) - 1))))], [.cells [.d (.int .i64 0), .d (.int .i64 0)]]⟩ (by kernel_rfl) (AC hx1 (A1 hx1)) ?_
  refine K_seq ?_
  refine K_seq ?_
  refine K_reg [.n p1.length] [((p1.map (D.int .i64))).length = p1.length] ⟨[(0, (LI p1)), (6, (.one (.ptr 0 0 0))), (8, (I (w64 (p2 * 2 ^ (Nat.min (w64 (4 - p3)).toNat (IntKind.bits .i64)))))), (9, (I (w64 ((w64 ((w64 (p2 + 1)) * 2 ^ (Nat.min (w64 (4 - p3)).toNat (IntKind.bits .i64)))) - 1)))), (24, (B (decide ((p1.length : Int) < (w64 (p2 * 2 ^ (Nat.min (w64 (4 - p3)).toNat (IntKind.bits .i64))))))))], [.cells [.d (.int .i64 0), .d (.int .i64 0)]]⟩ (by kernel_rfl) (A1 (List.length_map _)) ?_
  rcases ite_some H with ⟨hx2, H⟩ | ⟨hx2, H⟩
  · refine K_t rfl (decide_eq_true hx2) ?_
    refine K_seq ?_
    refine K_reg [] [] ⟨[(6, (.one (.ptr 0 0 0)))], [.cells [.d (.int .i64 1), .d (.int .i64 0)]]⟩ (by kernel_rfl) trivial ?_
    refine K_gh ⟨[(6, (.one (.ptr 0 0 0)))], [.cells [.d (.int .i64 1), .d (.int .i64 0)]]⟩ (by kernel_rfl) ?_
    cases H
    refine K_ret ?_
    kernel_rfl
  · refine K_f rfl (decide_eq_false hx2) ?_
    refine K_gh ⟨[(0, (LI p1)), (6, (.one (.ptr 0 0 0))), (8, (I (w64 (p2 * 2 ^ (Nat.min (w64 (4 - p3)).toNat (IntKind.bits .i64)))))), (9, (I (w64 ((w64 ((w64 (p2 + 1)) * 2 ^ (Nat.min (w64 (4 - p3)).toNat (IntKind.bits .i64)))) - 1))))], [.cells [.d (.int .i64 0), .d (.int .i64 0)]]⟩ (by kernel_rfl) ?_
    refine K_skip ?_
    refine K_seq ?_
    refine K_reg [] [] ⟨[(0, (LI p1)), (6, (.one (.ptr 0 0 0))), (8, (I (w64 (p2 * 2 ^ (Nat.min (w64 (4 - p3)).toNat (IntKind.bits .i64)))))), (9, (I (w64 ((w64 ((w64 (p2 + 1)) * 2 ^ (Nat.min (w64 (4 - p3)).toNat (IntKind.bits .i64)))) - 1)))), (10, (.one (.ptr 1 0 0)))], [.cells [.d (.int .i64 0), .d (.int .i64 0)], .cells [.d (.int .i64 (-1099511627776)), .d (.int .i64 1099511627776)]]⟩ (by kernel_rfl) trivial ?_
    refine K_seq ?_
    refine K_seq ?_
    refine K_reg [] [] ⟨[(0, (LI p1)), (6, (.one (.ptr 0 0 0))), (8, (I (w64 (p2 * 2 ^ (Nat.min (w64 (4 - p3)).toNat (IntKind.bits .i64)))))), (9, (I (w64 ((w64 ((w64 (p2 + 1)) * 2 ^ (Nat.min (w64 (4 - p3)).toNat (IntKind.bits .i64)))) - 1)))), (10, (.one (.ptr 1 0 0))), (28, (B (decide (0 < (w64 (p2 * 2 ^ (Nat.min (w64 (4 - p3)).toNat (IntKind.bits .i64))))))))], [.cells [.d (.int .i64 0), .d (.int .i64 0)], .cells [.d (.int .i64 (-1099511627776)), .d (.int .i64 1099511627776)]]⟩ (by kernel_rfl) trivial ?_
    obtain ⟨x5, hx5, H⟩ := bind_some' H
    refine K_of ⟨[(0, (LI p1)), (6, (.one (.ptr 0 0 0))), (9, (I (w64 ((w64 ((w64 (p2 + 1)) * 2 ^ (Nat.min (w64 (4 - p3)).toNat (IntKind.bits .i64)))) - 1)))), (10, (.one (.ptr 1 0 0)))], [.cells [.d (.int .i64 0), .d (.int .i64 0)], .cells [.d (.int .i64 x5), .d (.int .i64 1099511627776)]]⟩ ?_ ?_
    · clear H; have H := hx5; clear hx5; refine K_in ?_
      rcases ite_some H with ⟨hx3, H⟩ | ⟨hx3, H⟩
      · refine K_t rfl (decide_eq_true hx3) ?_
        obtain ⟨x4, hx4, H⟩ := bind_some' H
        refine K_reg [.l [.int .i64 x4]] [(0 : Int) ≤ (w64 ((w64 (p2 * 2 ^ (Nat.min (w64 (4 - p3)).toNat (IntKind.bits .i64)))) - 1)) ∧ (w64 ((w64 (p2 * 2 ^ (Nat.min (w64 (4 - p3)).toNat (IntKind.bits .i64)))) - 1)) < (((p1.map (D.int .i64))).length : Int), ((p1.map (D.int .i64)).getD (w64 ((w64 (p2 * 2 ^ (Nat.min (w64 (4 - p3)).toNat (IntKind.bits .i64)))) - 1)).toNat (.int .i64 0)).cells = [.int .i64 x4]] ⟨[(0, (LI p1)), (6, (.one (.ptr 0 0 0))), (9, (I (w64 ((w64 ((w64 (p2 + 1)) * 2 ^ (Nat.min (w64 (4 - p3)).toNat (IntKind.bits .i64)))) - 1)))), (10, (.one (.ptr 1 0 0)))], [.cells [.d (.int .i64 0), .d (.int .i64 0)], .cells [.d (.int .i64 x4), .d (.int .i64 1099511627776)]]⟩ (by kernel_rfl) (AC (at_ok hx4 (D.int .i64) (.int .i64 0)).1 (A1 (at_ok hx4 (D.int .i64) (.int .i64 0)).2)) ?_
        cases H
        exact K_end rfl
      · refine K_f rfl (decide_eq_false hx3) ?_
        refine K_gh ⟨[(0, (LI p1)), (6, (.one (.ptr 0 0 0))), (9, (I (w64 ((w64 ((w64 (p2 + 1)) * 2 ^ (Nat.min (w64 (4 - p3)).toNat (IntKind.bits .i64)))) - 1)))), (10, (.one (.ptr 1 0 0)))], [.cells [.d (.int .i64 0), .d (.int .i64 0)], .cells [.d (.int .i64 (-1099511627776)), .d (.int .i64 1099511627776)]]⟩ (by kernel_rfl) ?_
        refine K_skip ?_
        cases H
        exact K_end rfl
    refine K_seq ?_
    refine K_seq ?_
    refine K_reg [.n p1.length] [((p1.map (D.int .i64))).length = p1.length] ⟨[(0, (LI p1)), (6, (.one (.ptr 0 0 0))), (9, (I (w64 ((w64 ((w64 (p2 + 1)) * 2 ^ (Nat.min (w64 (4 - p3)).toNat (IntKind.bits .i64)))) - 1)))), (10, (.one (.ptr 1 0 0))), (38, (B (decide ((w64 ((w64 ((w64 (p2 + 1)) * 2 ^ (Nat.min (w64 (4 - p3)).toNat (IntKind.bits .i64)))) - 1)) < (p1.length : Int)))))], [.cells [.d (.int .i64 0), .d (.int .i64 0)], .cells [.d (.int .i64 x5), .d (.int .i64 1099511627776)]]⟩ (by kernel_rfl) (A1 (List.length_map _)) ?_
    obtain ⟨x8, hx8, H⟩ := bind_some' H
    refine K_of ⟨[(6, (.one (.ptr 0 0 0))), (10, (.one (.ptr 1 0 0)))], [.cells [.d (.int .i64 0), .d (.int .i64 0)], .cells [.d (.int .i64 x5), .d (.int .i64 x8)]]⟩ ?_ ?_
    · clear H; have H := hx8; clear hx8; refine K_in ?_
      rcases ite_some H with ⟨hx6, H⟩ | ⟨hx6, H⟩
      · refine K_t rfl (decide_eq_true hx6) ?_
        obtain ⟨x7, hx7, H⟩ := bind_some' H
        refine K_reg [.l [.int .i64 x7]] [(0 : Int) ≤ (w64 ((w64 ((w64 (p2 + 1)) * 2 ^ (Nat.min (w64 (4 - p3)).toNat (IntKind.bits .i64)))) - 1)) ∧ (w64 ((w64 ((w64 (p2 + 1)) * 2 ^ (Nat.min (w64 (4 - p3)).toNat (IntKind.bits .i64)))) - 1)) < (((p1.map (D.int .i64))).length : Int), ((p1.map (D.int .i64)).getD (w64 ((w64 ((w64 (p2 + 1)) * 2 ^ (Nat.min (w64 (4 - p3)).toNat (IntKind.bits .i64)))) - 1)).toNat (.int .i64 0)).cells = [.int .i64 x7]] ⟨[(6, (.one (.ptr 0 0 0))), (10, (.one (.ptr 1 0 0)))], [.cells [.d (.int .i64 0), .d (.int .i64 0)], .cells [.d (.int .i64 x5), .d (.int .i64 (w64 (x7 - 1)))]]⟩ (by kernel_rfl) (AC (at_ok hx7 (D.int .i64) (.int .i64 0)).1 (A1 (at_ok hx7 (D.int .i64) (.int .i64 0)).2)) ?_
        cases H
        exact K_end rfl
      · refine K_f rfl (decide_eq_false hx6) ?_
        refine K_gh ⟨[(6, (.one (.ptr 0 0 0))), (10, (.one (.ptr 1 0 0)))], [.cells [.d (.int .i64 0), .d (.int .i64 0)], .cells [.d (.int .i64 x5), .d (.int .i64 1099511627776)]]⟩ (by kernel_rfl) ?_
        refine K_skip ?_
        cases H
        exact K_end rfl
    refine K_seq ?_
    refine K_reg [] [] ⟨[(6, (.one (.ptr 0 0 0)))], [.cells [.d (.int .i64 x5), .d (.int .i64 x8)]]⟩ (by kernel_rfl) trivial ?_
    refine K_gh ⟨[(6, (.one (.ptr 0 0 0)))], [.cells [.d (.int .i64 x5), .d (.int .i64 x8)]]⟩ (by kernel_rfl) ?_
    cases H
    refine K_ret ?_
    kernel_rfl
def T_word_Region_l1 (k : Nat) (p1 : Int) (p2 : Int) (p3 : Int) (p4 : Int) (p5 : Int) (x5 : Int) (p6 : List Int) (p7 : List Int) (p8 : List Int) (x21 : Nat × Int × (List (Int × Int))) : Option ((Nat × Int × (List (Int × Int))) ⊕ ((Nat × (List (Int × Int))))) :=
 (if x21.2.1 < x5 then (at? p8 x21.2.1).bind fun x23 => (at? p7 x21.2.1).bind fun x24 => (T_word_interval k p6 x24 x23).bind fun x25 => (if x21.1 + 1 ≤ LIM then some (.inl ((x21.1 + 1), (w64 (x21.2.1 + 1)), ((x21.2.2.drop 0).take x21.1 ++ ([(x25.1, x25.2)] : List (Int × Int))))) else none) else some (.inr (x21.1, x21.2.2)))
theorem T_word_Region_l1_ok (k : Nat) (p1 : Int) (p2 : Int) (p3 : Int) (p4 : Int) (p5 : Int) (x5 : Int) (p6 : List Int) (p7 : List Int) (p8 : List Int) : ∀ (x21 : Nat × Int × (List (Int × Int))) (x : (Nat × Int × (List (Int × Int))) ⊕ ((Nat × (List (Int × Int))))), T_word_Region_l1 k p1 p2 p3 p4 p5 x5 p6 p7 p8 x21 = some x → evC X (evF X k) k 0 l_word_Region_1 ⟨[(2, (.one (.ptr 0 0 0))), (3, (.one (.ptr 1 0 0))), (6, (.one (.own 2 0 x21.1))), (14, (LI p8)), (15, (I x5)), (16, (I x21.2.1))], [.cells [.d (.int .i64 p1), .d (.int .i64 p2), .d (.int .i64 p3), .d (.int .i64 p4), .d (.int .i64 p5), .d (.list (p6.map (D.int .i64)))], .cells [.d (.list (p7.map (D.int .i64))), .d (.list (p8.map (D.int .i64)))], .vals (.agg [(.int .i64 0), (.int .i64 0)]) (x21.2.2.map e_st1)]⟩ = some (outS (fun (s : Nat × Int × (List (Int × Int))) => ⟨[(2, (.one (.ptr 0 0 0))), (3, (.one (.ptr 1 0 0))), (6, (.one (.own 2 0 s.1))), (14, (LI p8)), (15, (I x5)), (16, (I s.2.1))], [.cells [.d (.int .i64 p1), .d (.int .i64 p2), .d (.int .i64 p3), .d (.int .i64 p4), .d (.int .i64 p5), .d (.list (p6.map (D.int .i64)))], .cells [.d (.list (p7.map (D.int .i64))), .d (.list (p8.map (D.int .i64)))], .vals (.agg [(.int .i64 0), (.int .i64 0)]) (s.2.2.map e_st1)]⟩) (fun (r : (Nat × (List (Int × Int)))) => (.exit 0, ⟨[(6, (.one (.own 0 0 r.1)))], [.vals (.agg [(.int .i64 0), (.int .i64 0)]) (r.2.map e_st1)]⟩)) x) := by
 intro x21 x H
 unfold T_word_Region_l1 at H
 refine K_in ?_
 refine K_seq ?_
 refine K_reg [] [] ⟨[(2, (.one (.ptr 0 0 0))), (3, (.one (.ptr 1 0 0))), (6, (.one (.own 2 0 x21.1))), (14, (LI p8)), (15, (I x5)), (16, (I x21.2.1)), (17, (B (decide (x21.2.1 < x5))))], [.cells [.d (.int .i64 p1), .d (.int .i64 p2), .d (.int .i64 p3), .d (.int .i64 p4), .d (.int .i64 p5), .d (.list (p6.map (D.int .i64)))], .cells [.d (.list (p7.map (D.int .i64))), .d (.list (p8.map (D.int .i64)))], .vals (.agg [(.int .i64 0), (.int .i64 0)]) (x21.2.2.map e_st1)]⟩ (by kernel_rfl) trivial ?_
 refine K_seq ?_
 rcases ite_some H with ⟨hx22, H⟩ | ⟨hx22, H⟩
 · refine K_t rfl (decide_eq_true hx22) ?_
   refine K_gh ⟨[(2, (.one (.ptr 0 0 0))), (3, (.one (.ptr 1 0 0))), (6, (.one (.own 2 0 x21.1))), (14, (LI p8)), (15, (I x5)), (16, (I x21.2.1))], [.cells [.d (.int .i64 p1), .d (.int .i64 p2), .d (.int .i64 p3), .d (.int .i64 p4), .d (.int .i64 p5), .d (.list (p6.map (D.int .i64)))], .cells [.d (.list (p7.map (D.int .i64))), .d (.list (p8.map (D.int .i64)))], .vals (.agg [(.int .i64 0), (.int .i64 0)]) (x21.2.2.map e_st1)]⟩ (by kernel_rfl) ?_
   refine K_skip ?_
   refine K_seq ?_
   refine K_block ?_
   refine K_seq ?_
   obtain ⟨x23, hx23, H⟩ := bind_some' H
   refine K_reg [.l [.int .i64 x23]] [(0 : Int) ≤ x21.2.1 ∧ x21.2.1 < (((p8.map (D.int .i64))).length : Int), ((p8.map (D.int .i64)).getD x21.2.1.toNat (.int .i64 0)).cells = [.int .i64 x23]] ⟨[(2, (.one (.ptr 0 0 0))), (3, (.one (.ptr 1 0 0))), (6, (.one (.own 2 0 x21.1))), (7, (I x21.2.1)), (8, (I x23)), (14, (LI p8)), (15, (I x5)), (16, (I x21.2.1))], [.cells [.d (.int .i64 p1), .d (.int .i64 p2), .d (.int .i64 p3), .d (.int .i64 p4), .d (.int .i64 p5), .d (.list (p6.map (D.int .i64)))], .cells [.d (.list (p7.map (D.int .i64))), .d (.list (p8.map (D.int .i64)))], .vals (.agg [(.int .i64 0), (.int .i64 0)]) (x21.2.2.map e_st1)]⟩ (by kernel_rfl) (AC (at_ok hx23 (D.int .i64) (.int .i64 0)).1 (A1 (at_ok hx23 (D.int .i64) (.int .i64 0)).2)) ?_
   obtain ⟨x24, hx24, H⟩ := bind_some' H
   obtain ⟨x25, hx25, H⟩ := bind_some' H
   obtain ⟨hx26, H⟩ := guard_some H
   refine K_reg [.l [.int .i64 x24], .r (.agg [.d (.int .i64 x25.1), .d (.int .i64 x25.2)]) [], .n 1, .l (((x21.2.2.drop 0).take x21.1 ++ ([(x25.1, x25.2)] : List (Int × Int))).map e_st1)] [(0 : Int) ≤ x21.2.1 ∧ x21.2.1 < (((p7.map (D.int .i64))).length : Int), ((p7.map (D.int .i64)).getD x21.2.1.toNat (.int .i64 0)).cells = [.int .i64 x24], evF X k n_word_interval [(LI p6), (I x24), (I x23)] [] = some ((.agg [.d (.int .i64 x25.1), .d (.int .i64 x25.2)]), []), (List.all (([(x25.1, x25.2)] : List (Int × Int)).map e_st1) fun d => d.cells.length == (D.cells (.agg [(.int .i64 0), (.int .i64 0)])).length) = true, x21.1 + 1 ≤ LIM, (([(x25.1, x25.2)] : List (Int × Int)).map e_st1).length = 1, ((x21.2.2.map e_st1).drop 0).take x21.1 ++ (([(x25.1, x25.2)] : List (Int × Int)).map e_st1) = ((x21.2.2.drop 0).take x21.1 ++ ([(x25.1, x25.2)] : List (Int × Int))).map e_st1] ⟨[(2, (.one (.ptr 0 0 0))), (3, (.one (.ptr 1 0 0))), (6, (.one (.own 2 0 (x21.1 + 1)))), (14, (LI p8)), (15, (I x5)), (16, (I x21.2.1))], [.cells [.d (.int .i64 p1), .d (.int .i64 p2), .d (.int .i64 p3), .d (.int .i64 p4), .d (.int .i64 p5), .d (.list (p6.map (D.int .i64)))], .cells [.d (.list (p7.map (D.int .i64))), .d (.list (p8.map (D.int .i64)))], .vals (.agg [(.int .i64 0), (.int .i64 0)]) (((x21.2.2.drop 0).take x21.1 ++ ([(x25.1, x25.2)] : List (Int × Int))).map e_st1)]⟩ (by kernel_rfl) (AC (at_ok hx24 (D.int .i64) (.int .i64 0)).1 (AC (at_ok hx24 (D.int .i64) (.int .i64 0)).2 (AC (T_word_interval_ok k p6 x24 x23 x25 hx25) (AC (all_ok e_st1 2 ([(x25.1, x25.2)] : List (Int × Int)) (fun _ => rfl)) (AC hx26 (AC (by simp) (A1 (ap_map e_st1 x21.2.2 ([(x25.1, x25.2)] : List (Int × Int)) 0 x21.1)))))))) ?_
   refine K_blk ?_
   refine K_reg [] [] ⟨[(2, (.one (.ptr 0 0 0))), (3, (.one (.ptr 1 0 0))), (6, (.one (.own 2 0 (x21.1 + 1)))), (14, (LI p8)), (15, (I x5)), (16, (I (w64 (x21.2.1 + 1))))], [.cells [.d (.int .i64 p1), .d (.int .i64 p2), .d (.int .i64 p3), .d (.int .i64 p4), .d (.int .i64 p5), .d (.list (p6.map (D.int .i64)))], .cells [.d (.list (p7.map (D.int .i64))), .d (.list (p8.map (D.int .i64)))], .vals (.agg [(.int .i64 0), (.int .i64 0)]) (((x21.2.2.drop 0).take x21.1 ++ ([(x25.1, x25.2)] : List (Int × Int))).map e_st1)]⟩ (by kernel_rfl) trivial ?_
   cases H
   exact K_end rfl
 · refine K_f rfl (decide_eq_false hx22) ?_
   refine K_gh ⟨[(6, (.one (.own 0 0 x21.1)))], [.vals (.agg [(.int .i64 0), (.int .i64 0)]) (x21.2.2.map e_st1)]⟩ (by kernel_rfl) ?_
   cases H
   exact K_exit0 rfl rfl
def T_word_Region (k : Nat) (p1 : Int) (p2 : Int) (p3 : Int) (p4 : Int) (p5 : Int) (p6 : List Int) (p7 : List Int) (p8 : List Int) : Option ((List (Int × Int)) × Int) := match k with
 | 0 => none
 | k + 1 => ((T_word_Valid k p1 p2 p3 p4 p5 p6 p7 p8).bind fun x1 => (if (!x1) = true then some ([], 10) else ((loopT (T_word_Region_l1 k p1 p2 p3 p4 p5 (p8.length : Int) p6 p7 p8) k (0, 0, [])).bind fun x27 => some (((x27.2.drop 0).take x27.1), 0))))
theorem T_word_Region_ok (k : Nat) (p1 : Int) (p2 : Int) (p3 : Int) (p4 : Int) (p5 : Int) (p6 : List Int) (p7 : List Int) (p8 : List Int) (r : (List (Int × Int)) × Int) : T_word_Region k p1 p2 p3 p4 p5 p6 p7 p8 = some r → evF X k n_word_Region [(.agg [.d (.int .i64 p1), .d (.int .i64 p2), .d (.int .i64 p3), .d (.int .i64 p4), .d (.int .i64 p5), .d (.list (p6.map (D.int .i64)))]), (.agg [.d (.list (p7.map (D.int .i64))), .d (.list (p8.map (D.int .i64)))])] [] = some ((.tup [(false, [.d (.list (r.1.map e_st1))]), (false, [.d (.int .i64 r.2)])]), []) := by
 intro H
 cases k with
 | zero => simp [T_word_Region] at H
 | succ k =>
  simp only [T_word_Region] at H
  refine F_in X_word_Region rfl ?_
  refine K_seq ?_
  refine K_reg [] [] ⟨[(2, (.one (.ptr 0 0 0))), (3, (.one (.ptr 1 0 0)))], [.cells [.d (.int .i64 p1), .d (.int .i64 p2), .d (.int .i64 p3), .d (.int .i64 p4), .d (.int .i64 p5), .d (.list (p6.map (D.int .i64)))], .cells [.d (.list (p7.map (D.int .i64))), .d (.list (p8.map (D.int .i64)))]]⟩ (by kernel_rfl) trivial ?_
  refine K_seq ?_
  refine K_seq ?_
  obtain ⟨x1, hx1, H⟩ := bind_some' H
  refine K_reg [.r (B x1) []] [evF X k n_word_Valid [(.agg [.d (.int .i64 p1), .d (.int .i64 p2), .d (.int .i64 p3), .d (.int .i64 p4), .d (.int .i64 p5), .d (.list (p6.map (D.int .i64)))]), (.agg [.d (.list (p7.map (D.int .i64))), .d (.list (p8.map (D.int .i64)))])] [] = some ((B x1), [])] ⟨[(2, (.one (.ptr 0 0 0))), (3, (.one (.ptr 1 0 0))), (12, (B (!x1)))], [.cells [.d (.int .i64 p1), .d (.int .i64 p2), .d (.int .i64 p3), .d (.int .i64 p4), .d (.int .i64 p5), .d (.list (p6.map (D.int .i64)))], .cells [.d (.list (p7.map (D.int .i64))), .d (.list (p8.map (D.int .i64)))]]⟩ (by kernel_rfl) (A1 (T_word_Valid_ok k p1 p2 p3 p4 p5 p6 p7 p8 x1 hx1)) ?_
  rcases ite_some H with ⟨hx2, H⟩ | ⟨hx2, H⟩
  · refine K_t rfl hx2 ?_
    refine K_seq ?_
    refine K_reg [] [] ⟨[(4, (.one (.nil))), (5, (I 10))], []⟩ (by kernel_rfl) trivial ?_
    refine K_gh ⟨[(4, (.one (.nil))), (5, (I 10))], []⟩ (by kernel_rfl) ?_
    cases H
    refine K_ret ?_
    kernel_rfl
  · refine K_f rfl (Bool.eq_false_iff.2 hx2) ?_
    refine K_gh ⟨[(2, (.one (.ptr 0 0 0))), (3, (.one (.ptr 1 0 0)))], [.cells [.d (.int .i64 p1), .d (.int .i64 p2), .d (.int .i64 p3), .d (.int .i64 p4), .d (.int .i64 p5), .d (.list (p6.map (D.int .i64)))], .cells [.d (.list (p7.map (D.int .i64))), .d (.list (p8.map (D.int .i64)))]]⟩ (by kernel_rfl) ?_
    refine K_skip ?_
    refine K_seq ?_
    refine K_reg [] [] ⟨[(2, (.one (.ptr 0 0 0))), (3, (.one (.ptr 1 0 0))), (6, (.one (.nil)))], [.cells [.d (.int .i64 p1), .d (.int .i64 p2), .d (.int .i64 p3), .d (.int .i64 p4), .d (.int .i64 p5), .d (.list (p6.map (D.int .i64)))], .cells [.d (.list (p7.map (D.int .i64))), .d (.list (p8.map (D.int .i64)))]]⟩ (by kernel_rfl) trivial ?_
    refine K_seq ?_
    refine K_seq ?_
    refine K_reg [.n p8.length] [((p8.map (D.int .i64))).length = p8.length] ⟨[(2, (.one (.ptr 0 0 0))), (3, (.one (.ptr 1 0 0))), (6, (.one (.nil))), (14, (LI p8)), (15, (I (p8.length : Int))), (16, (I 0))], [.cells [.d (.int .i64 p1), .d (.int .i64 p2), .d (.int .i64 p3), .d (.int .i64 p4), .d (.int .i64 p5), .d (.list (p6.map (D.int .i64)))], .cells [.d (.list (p7.map (D.int .i64))), .d (.list (p8.map (D.int .i64)))]]⟩ (by kernel_rfl) (A1 (List.length_map _)) ?_
    refine K_block ?_
    refine K_gh ⟨[(2, (.one (.ptr 0 0 0))), (3, (.one (.ptr 1 0 0))), (6, (.one (.own 2 0 0))), (14, (LI p8)), (15, (I (p8.length : Int))), (16, (I 0))], [.cells [.d (.int .i64 p1), .d (.int .i64 p2), .d (.int .i64 p3), .d (.int .i64 p4), .d (.int .i64 p5), .d (.list (p6.map (D.int .i64)))], .cells [.d (.list (p7.map (D.int .i64))), .d (.list (p8.map (D.int .i64)))], .vals (.agg [(.int .i64 0), (.int .i64 0)]) ([].map e_st1)]⟩ (by kernel_rfl) ?_
    obtain ⟨x27, hx27, H⟩ := bind_some' H
    refine K_loop ⟨[(6, (.one (.own 0 0 x27.1)))], [.vals (.agg [(.int .i64 0), (.int .i64 0)]) (x27.2.map e_st1)]⟩ (loop_ok (fun (s : Nat × Int × (List (Int × Int))) => ⟨[(2, (.one (.ptr 0 0 0))), (3, (.one (.ptr 1 0 0))), (6, (.one (.own 2 0 s.1))), (14, (LI p8)), (15, (I (p8.length : Int))), (16, (I s.2.1))], [.cells [.d (.int .i64 p1), .d (.int .i64 p2), .d (.int .i64 p3), .d (.int .i64 p4), .d (.int .i64 p5), .d (.list (p6.map (D.int .i64)))], .cells [.d (.list (p7.map (D.int .i64))), .d (.list (p8.map (D.int .i64)))], .vals (.agg [(.int .i64 0), (.int .i64 0)]) (s.2.2.map e_st1)]⟩) (fun (r : (Nat × (List (Int × Int)))) => (.exit 0, ⟨[(6, (.one (.own 0 0 r.1)))], [.vals (.agg [(.int .i64 0), (.int .i64 0)]) (r.2.map e_st1)]⟩)) (fun r h => by cases h) (T_word_Region_l1_ok k p1 p2 p3 p4 p5 (p8.length : Int) p6 p7 p8) k (0, 0, []) x27 hx27) rfl ?_
    refine K_seq ?_
    refine K_reg [] [] ⟨[(4, (.one (.own 0 0 x27.1))), (5, (I 0))], [.vals (.agg [(.int .i64 0), (.int .i64 0)]) (x27.2.map e_st1)]⟩ (by kernel_rfl) trivial ?_
    refine K_gh ⟨[(4, (.one (.own 0 0 x27.1))), (5, (I 0))], [.vals (.agg [(.int .i64 0), (.int .i64 0)]) (x27.2.map e_st1)]⟩ (by kernel_rfl) ?_
    cases H
    refine K_ret ?_
    exact Eq.trans (b := some ((.tup [(false, [.d (.list (((x27.2.map e_st1).drop 0).take x27.1))]), (false, [.d (.int .i64 0)])]), [])) (by kernel_rfl) (by simp only [dt_map, LI, VI])
def T_keep_Ints_l1 (k : Nat) (p1 : List Int) (p2 : List Int) (x4 : Int) (x10 : Int) : Option (Int ⊕ (Unit ⊕ Unit)) :=
 (if x10 < x4 then ((at? p1 x10).bind fun x12 => (at? p2 x10).bind fun x13 => (if (!decide (x12 = x13)) = true then some (.inr (.inr ())) else some (.inl (w64 (x10 + 1))))) else some (.inr (.inl ())))
theorem T_keep_Ints_l1_ok (k : Nat) (p1 : List Int) (p2 : List Int) (x4 : Int) : ∀ (x10 : Int) (x : Int ⊕ (Unit ⊕ Unit)), T_keep_Ints_l1 k p1 p2 x4 x10 = some x → evC X (evF X k) k 0 l_keep_Ints_1 ⟨[(0, (LI p1)), (1, (LI p2)), (12, (I x4)), (13, (I x10))], []⟩ = some (outS (fun (s : Int) => ⟨[(0, (LI p1)), (1, (LI p2)), (12, (I x4)), (13, (I s))], []⟩) (fun (r : Unit ⊕ Unit) => Sum.elim (fun y => (.exit 0, ⟨[], []⟩)) (fun y => (.ret, ⟨[(4, (B false))], []⟩)) r) x) := by
 intro x10 x H
 unfold T_keep_Ints_l1 at H
 refine K_in ?_
 refine K_seq ?_
 refine K_reg [] [] ⟨[(0, (LI p1)), (1, (LI p2)), (12, (I x4)), (13, (I x10)), (14, (B (decide (x10 < x4))))], []⟩ (by kernel_rfl) trivial ?_
 refine K_seq ?_
 rcases ite_some H with ⟨hx11, H⟩ | ⟨hx11, H⟩
 · refine K_t rfl (decide_eq_true hx11) ?_
   refine K_gh ⟨[(0, (LI p1)), (1, (LI p2)), (12, (I x4)), (13, (I x10))], []⟩ (by kernel_rfl) ?_
   refine K_skip ?_
   refine K_seq ?_
   refine K_block ?_
   refine K_seq ?_
   refine K_reg [] [] ⟨[(0, (LI p1)), (1, (LI p2)), (5, (I x10)), (12, (I x4)), (13, (I x10))], []⟩ (by kernel_rfl) trivial ?_
   refine K_seq ?_
   obtain ⟨x12, hx12, H⟩ := bind_some' H
   obtain ⟨x13, hx13, H⟩ := bind_some' H
   refine K_reg [.l [.int .i64 x12], .l [.int .i64 x13]] [(0 : Int) ≤ x10 ∧ x10 < (((p1.map (D.int .i64))).length : Int), ((p1.map (D.int .i64)).getD x10.toNat (.int .i64 0)).cells = [.int .i64 x12], (0 : Int) ≤ x10 ∧ x10 < (((p2.map (D.int .i64))).length : Int), ((p2.map (D.int .i64)).getD x10.toNat (.int .i64 0)).cells = [.int .i64 x13]] ⟨[(0, (LI p1)), (1, (LI p2)), (12, (I x4)), (13, (I x10)), (24, (B (!decide (x12 = x13))))], []⟩ (by kernel_rfl) (AC (at_ok hx12 (D.int .i64) (.int .i64 0)).1 (AC (at_ok hx12 (D.int .i64) (.int .i64 0)).2 (AC (at_ok hx13 (D.int .i64) (.int .i64 0)).1 (A1 (at_ok hx13 (D.int .i64) (.int .i64 0)).2)))) ?_
   rcases ite_some H with ⟨hx14, H⟩ | ⟨hx14, H⟩
   · refine K_t rfl hx14 ?_
     refine K_seq ?_
     refine K_reg [] [] ⟨[(4, (B false))], []⟩ (by kernel_rfl) trivial ?_
     refine K_gh ⟨[(4, (B false))], []⟩ (by kernel_rfl) ?_
     cases H
     exact K_ret rfl
   · refine K_f rfl (Bool.eq_false_iff.2 hx14) ?_
     refine K_gh ⟨[(0, (LI p1)), (1, (LI p2)), (12, (I x4)), (13, (I x10))], []⟩ (by kernel_rfl) ?_
     refine K_skip ?_
     refine K_blk ?_
     refine K_reg [] [] ⟨[(0, (LI p1)), (1, (LI p2)), (12, (I x4)), (13, (I (w64 (x10 + 1))))], []⟩ (by kernel_rfl) trivial ?_
     cases H
     exact K_end rfl
 · refine K_f rfl (decide_eq_false hx11) ?_
   refine K_gh ⟨[], []⟩ (by kernel_rfl) ?_
   cases H
   exact K_exit0 rfl rfl
def T_keep_Ints (k : Nat) (p1 : List Int) (p2 : List Int) : Option Bool := match k with
 | 0 => none
 | k + 1 => (if (!decide ((p1.length : Int) = (p2.length : Int))) = true then some false else ((loopT (T_keep_Ints_l1 k p1 p2 (p1.length : Int)) k 0).bind fun x15 => (match x15 with | .inl x16 => some true | .inr x17 => some false)))
theorem T_keep_Ints_ok (k : Nat) (p1 : List Int) (p2 : List Int) (r : Bool) : T_keep_Ints k p1 p2 = some r → evF X k n_keep_Ints [(LI p1), (LI p2)] [] = some ((B r), []) := by
 intro H
 cases k with
 | zero => simp [T_keep_Ints] at H
 | succ k =>
  simp only [T_keep_Ints] at H
  refine F_in X_keep_Ints rfl ?_
  refine K_seq ?_
  refine K_reg [] [] ⟨[(0, (LI p1)), (1, (LI p2))], []⟩ (by kernel_rfl) trivial ?_
  refine K_seq ?_
  refine K_seq ?_
  refine K_reg [.n p1.length, .n p2.length] [((p1.map (D.int .i64))).length = p1.length, ((p2.map (D.int .i64))).length = p2.length] ⟨[(0, (LI p1)), (1, (LI p2)), (10, (B (!decide ((p1.length : Int) = (p2.length : Int)))))], []⟩ (by kernel_rfl) (AC (List.length_map _) (A1 (List.length_map _))) ?_
  rcases ite_some H with ⟨hx1, H⟩ | ⟨hx1, H⟩
  · refine K_t rfl hx1 ?_
    refine K_seq ?_
    refine K_reg [] [] ⟨[(4, (B false))], []⟩ (by kernel_rfl) trivial ?_
    refine K_gh ⟨[(4, (B false))], []⟩ (by kernel_rfl) ?_
    cases H
    refine K_ret ?_
    kernel_rfl
  · refine K_f rfl (Bool.eq_false_iff.2 hx1) ?_
    refine K_gh ⟨[(0, (LI p1)), (1, (LI p2))], []⟩ (by kernel_rfl) ?_
    refine K_skip ?_
    refine K_seq ?_
    refine K_seq ?_
    refine K_reg [.n p1.length] [((p1.map (D.int .i64))).length = p1.length] ⟨[(0, (LI p1)), (1, (LI p2)), (12, (I (p1.length : Int))), (13, (I 0))], []⟩ (by kernel_rfl) (A1 (List.length_map _)) ?_
    refine K_block ?_
    obtain ⟨x15, hx15, H⟩ := bind_some' H
    cases x15 with
    | inl x16 =>
     dsimp only at H
     refine K_loop ⟨[], []⟩ (loop_ok (fun (s : Int) => ⟨[(0, (LI p1)), (1, (LI p2)), (12, (I (p1.length : Int))), (13, (I s))], []⟩) (fun (r : Unit ⊕ Unit) => Sum.elim (fun y => (.exit 0, ⟨[], []⟩)) (fun y => (.ret, ⟨[(4, (B false))], []⟩)) r) (fun r h => by cases r <;> cases h) (T_keep_Ints_l1_ok k p1 p2 (p1.length : Int)) k 0 (.inl x16) hx15) rfl ?_
     refine K_seq ?_
     refine K_reg [] [] ⟨[(4, (B true))], []⟩ (by kernel_rfl) trivial ?_
     refine K_gh ⟨[(4, (B true))], []⟩ (by kernel_rfl) ?_
     cases H
     refine K_ret ?_
     kernel_rfl
    | inr x17 =>
     dsimp only at H
     cases H
     refine K_loopr ⟨[(4, (B false))], []⟩ (loop_ok (fun (s : Int) => ⟨[(0, (LI p1)), (1, (LI p2)), (12, (I (p1.length : Int))), (13, (I s))], []⟩) (fun (r : Unit ⊕ Unit) => Sum.elim (fun y => (.exit 0, ⟨[], []⟩)) (fun y => (.ret, ⟨[(4, (B false))], []⟩)) r) (fun r h => by cases r <;> cases h) (T_keep_Ints_l1_ok k p1 p2 (p1.length : Int)) k 0 (.inr x17) hx15) ?_
     kernel_rfl
def T_ref19_Same (k : Nat) (p1 : List Int) (p2 : List Int) (p3 : List Int) (p4 : List Int) : Option Bool := match k with
 | 0 => none
 | k + 1 => ((((T_keep_Ints k p1 p3).bind fun x1 => (if x1 = true then ((T_keep_Ints k p2 p4).bind fun x4 => some x4) else some false))).bind fun x5 => some x5)
theorem T_ref19_Same_ok (k : Nat) (p1 : List Int) (p2 : List Int) (p3 : List Int) (p4 : List Int) (r : Bool) : T_ref19_Same k p1 p2 p3 p4 = some r → evF X k n_ref19_Same [(.agg [.d (.list (p1.map (D.int .i64))), .d (.list (p2.map (D.int .i64)))]), (.agg [.d (.list (p3.map (D.int .i64))), .d (.list (p4.map (D.int .i64)))])] [] = some ((B r), []) := by
 intro H
 cases k with
 | zero => simp [T_ref19_Same] at H
 | succ k =>
  simp only [T_ref19_Same] at H
  refine F_in X_ref19_Same rfl ?_
  refine K_seq ?_
  refine K_reg [] [] ⟨[(2, (.one (.ptr 0 0 0))), (3, (.one (.ptr 1 0 0)))], [.cells [.d (.list (p1.map (D.int .i64))), .d (.list (p2.map (D.int .i64)))], .cells [.d (.list (p3.map (D.int .i64))), .d (.list (p4.map (D.int .i64)))]]⟩ (by kernel_rfl) trivial ?_
  refine K_seq ?_
  obtain ⟨x5, hx5, H⟩ := bind_some' H
  refine K_of ⟨[(4, (B x5))], []⟩ ?_ ?_
  · clear H; have H := hx5; clear hx5; refine K_in ?_
    obtain ⟨x1, hx1, H⟩ := bind_some' H
    rcases ite_some H with ⟨hx3, H⟩ | ⟨hx3, H⟩
    · obtain ⟨x4, hx4, H⟩ := bind_some' H
      refine K_reg [.r (B x1) [], .b true, .r (B x4) []] [evF X k n_keep_Ints [(LI p1), (LI p3)] [] = some ((B x1), []), x1 = true, evF X k n_keep_Ints [(LI p2), (LI p4)] [] = some ((B x4), [])] ⟨[(4, (B x4))], []⟩ (by kernel_rfl) (AC (T_keep_Ints_ok k p1 p3 x1 hx1) (AC hx3 (A1 (T_keep_Ints_ok k p2 p4 x4 hx4)))) ?_
      cases H
      exact K_end rfl
    · refine K_reg [.r (B x1) [], .b false] [evF X k n_keep_Ints [(LI p1), (LI p3)] [] = some ((B x1), []), x1 = false] ⟨[(4, (B false))], []⟩ (by kernel_rfl) (AC (T_keep_Ints_ok k p1 p3 x1 hx1) (A1 (Bool.eq_false_iff.2 hx3))) ?_
      cases H
      exact K_end rfl
  refine K_gh ⟨[(4, (B x5))], []⟩ (by kernel_rfl) ?_
  cases H
  refine K_ret ?_
  kernel_rfl
def T_ref19_SameRegion_l1 (k : Nat) (p1 : List (Int × Int)) (p2 : List (Int × Int)) (x4 : Int) (x10 : Int) : Option (Int ⊕ (Unit ⊕ Unit)) :=
 (if x10 < x4 then ((at? p1 x10).bind fun x12 => (at? p2 x10).bind fun x13 => (if (!(decide (x12.1 = x13.1) && (decide (x12.2 = x13.2) && true))) = true then some (.inr (.inr ())) else some (.inl (w64 (x10 + 1))))) else some (.inr (.inl ())))
theorem T_ref19_SameRegion_l1_ok (k : Nat) (p1 : List (Int × Int)) (p2 : List (Int × Int)) (x4 : Int) : ∀ (x10 : Int) (x : Int ⊕ (Unit ⊕ Unit)), T_ref19_SameRegion_l1 k p1 p2 x4 x10 = some x → evC X (evF X k) k 0 l_ref19_SameRegion_1 ⟨[(0, (.one (.d (.list (p1.map e_st1))))), (1, (.one (.d (.list (p2.map e_st1))))), (12, (I x4)), (13, (I x10))], []⟩ = some (outS (fun (s : Int) => ⟨[(0, (.one (.d (.list (p1.map e_st1))))), (1, (.one (.d (.list (p2.map e_st1))))), (12, (I x4)), (13, (I s))], []⟩) (fun (r : Unit ⊕ Unit) => Sum.elim (fun y => (.exit 0, ⟨[], []⟩)) (fun y => (.ret, ⟨[(4, (B false))], []⟩)) r) x) := by
 intro x10 x H
 unfold T_ref19_SameRegion_l1 at H
 refine K_in ?_
 refine K_seq ?_
 refine K_reg [] [] ⟨[(0, (.one (.d (.list (p1.map e_st1))))), (1, (.one (.d (.list (p2.map e_st1))))), (12, (I x4)), (13, (I x10)), (14, (B (decide (x10 < x4))))], []⟩ (by kernel_rfl) trivial ?_
 refine K_seq ?_
 rcases ite_some H with ⟨hx11, H⟩ | ⟨hx11, H⟩
 · refine K_t rfl (decide_eq_true hx11) ?_
   refine K_gh ⟨[(0, (.one (.d (.list (p1.map e_st1))))), (1, (.one (.d (.list (p2.map e_st1))))), (12, (I x4)), (13, (I x10))], []⟩ (by kernel_rfl) ?_
   refine K_skip ?_
   refine K_seq ?_
   refine K_block ?_
   refine K_seq ?_
   refine K_reg [] [] ⟨[(0, (.one (.d (.list (p1.map e_st1))))), (1, (.one (.d (.list (p2.map e_st1))))), (5, (I x10)), (12, (I x4)), (13, (I x10))], []⟩ (by kernel_rfl) trivial ?_
   refine K_seq ?_
   obtain ⟨x12, hx12, H⟩ := bind_some' H
   obtain ⟨x13, hx13, H⟩ := bind_some' H
   refine K_reg [.l [.int .i64 x12.1, .int .i64 x12.2], .l [.int .i64 x13.1, .int .i64 x13.2]] [(0 : Int) ≤ x10 ∧ x10 < (((p1.map e_st1)).length : Int), ((p1.map e_st1).getD x10.toNat (.agg [(.int .i64 0), (.int .i64 0)])).cells = [.int .i64 x12.1, .int .i64 x12.2], (0 : Int) ≤ x10 ∧ x10 < (((p2.map e_st1)).length : Int), ((p2.map e_st1).getD x10.toNat (.agg [(.int .i64 0), (.int .i64 0)])).cells = [.int .i64 x13.1, .int .i64 x13.2]] ⟨[(0, (.one (.d (.list (p1.map e_st1))))), (1, (.one (.d (.list (p2.map e_st1))))), (12, (I x4)), (13, (I x10)), (24, (B (!(decide (x12.1 = x13.1) && (decide (x12.2 = x13.2) && true)))))], []⟩ (by kernel_rfl) (AC (at_ok hx12 e_st1 (.agg [(.int .i64 0), (.int .i64 0)])).1 (AC (at_ok hx12 e_st1 (.agg [(.int .i64 0), (.int .i64 0)])).2 (AC (at_ok hx13 e_st1 (.agg [(.int .i64 0), (.int .i64 0)])).1 (A1 (at_ok hx13 e_st1 (.agg [(.int .i64 0), (.int .i64 0)])).2)))) ?_
   rcases ite_some H with ⟨hx14, H⟩ | ⟨hx14, H⟩
   · refine K_t rfl hx14 ?_
     refine K_seq ?_
     refine K_reg [] [] ⟨[(4, (B false))], []⟩ (by kernel_rfl) trivial ?_
     refine K_gh ⟨[(4, (B false))], []⟩ (by kernel_rfl) ?_
     cases H
     exact K_ret rfl
   · refine K_f rfl (Bool.eq_false_iff.2 hx14) ?_
     refine K_gh ⟨[(0, (.one (.d (.list (p1.map e_st1))))), (1, (.one (.d (.list (p2.map e_st1))))), (12, (I x4)), (13, (I x10))], []⟩ (by kernel_rfl) ?_
     refine K_skip ?_
     refine K_blk ?_
     refine K_reg [] [] ⟨[(0, (.one (.d (.list (p1.map e_st1))))), (1, (.one (.d (.list (p2.map e_st1))))), (12, (I x4)), (13, (I (w64 (x10 + 1))))], []⟩ (by kernel_rfl) trivial ?_
     cases H
     exact K_end rfl
 · refine K_f rfl (decide_eq_false hx11) ?_
   refine K_gh ⟨[], []⟩ (by kernel_rfl) ?_
   cases H
   exact K_exit0 rfl rfl
def T_ref19_SameRegion (k : Nat) (p1 : List (Int × Int)) (p2 : List (Int × Int)) : Option Bool := match k with
 | 0 => none
 | k + 1 => (if (!decide ((p1.length : Int) = (p2.length : Int))) = true then some false else ((loopT (T_ref19_SameRegion_l1 k p1 p2 (p1.length : Int)) k 0).bind fun x15 => (match x15 with | .inl x16 => some true | .inr x17 => some false)))
theorem T_ref19_SameRegion_ok (k : Nat) (p1 : List (Int × Int)) (p2 : List (Int × Int)) (r : Bool) : T_ref19_SameRegion k p1 p2 = some r → evF X k n_ref19_SameRegion [(.one (.d (.list (p1.map e_st1)))), (.one (.d (.list (p2.map e_st1))))] [] = some ((B r), []) := by
 intro H
 cases k with
 | zero => simp [T_ref19_SameRegion] at H
 | succ k =>
  simp only [T_ref19_SameRegion] at H
  refine F_in X_ref19_SameRegion rfl ?_
  refine K_seq ?_
  refine K_reg [] [] ⟨[(0, (.one (.d (.list (p1.map e_st1))))), (1, (.one (.d (.list (p2.map e_st1)))))], []⟩ (by kernel_rfl) trivial ?_
  refine K_seq ?_
  refine K_seq ?_
  refine K_reg [.n p1.length, .n p2.length] [((p1.map e_st1)).length = p1.length, ((p2.map e_st1)).length = p2.length] ⟨[(0, (.one (.d (.list (p1.map e_st1))))), (1, (.one (.d (.list (p2.map e_st1))))), (10, (B (!decide ((p1.length : Int) = (p2.length : Int)))))], []⟩ (by kernel_rfl) (AC (List.length_map _) (A1 (List.length_map _))) ?_
  rcases ite_some H with ⟨hx1, H⟩ | ⟨hx1, H⟩
  · refine K_t rfl hx1 ?_
    refine K_seq ?_
    refine K_reg [] [] ⟨[(4, (B false))], []⟩ (by kernel_rfl) trivial ?_
    refine K_gh ⟨[(4, (B false))], []⟩ (by kernel_rfl) ?_
    cases H
    refine K_ret ?_
    kernel_rfl
  · refine K_f rfl (Bool.eq_false_iff.2 hx1) ?_
    refine K_gh ⟨[(0, (.one (.d (.list (p1.map e_st1))))), (1, (.one (.d (.list (p2.map e_st1)))))], []⟩ (by kernel_rfl) ?_
    refine K_skip ?_
    refine K_seq ?_
    refine K_seq ?_
    refine K_reg [.n p1.length] [((p1.map e_st1)).length = p1.length] ⟨[(0, (.one (.d (.list (p1.map e_st1))))), (1, (.one (.d (.list (p2.map e_st1))))), (12, (I (p1.length : Int))), (13, (I 0))], []⟩ (by kernel_rfl) (A1 (List.length_map _)) ?_
    refine K_block ?_
    obtain ⟨x15, hx15, H⟩ := bind_some' H
    cases x15 with
    | inl x16 =>
     dsimp only at H
     refine K_loop ⟨[], []⟩ (loop_ok (fun (s : Int) => ⟨[(0, (.one (.d (.list (p1.map e_st1))))), (1, (.one (.d (.list (p2.map e_st1))))), (12, (I (p1.length : Int))), (13, (I s))], []⟩) (fun (r : Unit ⊕ Unit) => Sum.elim (fun y => (.exit 0, ⟨[], []⟩)) (fun y => (.ret, ⟨[(4, (B false))], []⟩)) r) (fun r h => by cases r <;> cases h) (T_ref19_SameRegion_l1_ok k p1 p2 (p1.length : Int)) k 0 (.inl x16) hx15) rfl ?_
     refine K_seq ?_
     refine K_reg [] [] ⟨[(4, (B true))], []⟩ (by kernel_rfl) trivial ?_
     refine K_gh ⟨[(4, (B true))], []⟩ (by kernel_rfl) ?_
     cases H
     refine K_ret ?_
     kernel_rfl
    | inr x17 =>
     dsimp only at H
     cases H
     refine K_loopr ⟨[(4, (B false))], []⟩ (loop_ok (fun (s : Int) => ⟨[(0, (.one (.d (.list (p1.map e_st1))))), (1, (.one (.d (.list (p2.map e_st1))))), (12, (I (p1.length : Int))), (13, (I s))], []⟩) (fun (r : Unit ⊕ Unit) => Sum.elim (fun y => (.exit 0, ⟨[], []⟩)) (fun y => (.ret, ⟨[(4, (B false))], []⟩)) r) (fun r h => by cases r <;> cases h) (T_ref19_SameRegion_l1_ok k p1 p2 (p1.length : Int)) k 0 (.inr x17) hx15) ?_
     kernel_rfl
def T_law19_awake (k : Nat) : Option Bool := match k with
 | 0 => none
 | k + 1 => ((T_law19_example k).bind fun x1 => (T_word_Of k 1 0 0 4 2 ([0, 10] : List Int) ([1, 2, (-5), (-6)] : List Int)).bind fun x2 => (T_law19_example k).bind fun x3 => (T_word_Region k 1 0 0 4 2 ([0, 10] : List Int) ([0, 3] : List Int) ([3, 4] : List Int)).bind fun x4 => ((if x2.2.2 = 0 then ((T_ref19_Same k x2.1 x2.2.1 ([1, 0] : List Int) ([4, 4] : List Int)).bind fun x7 => (if (x7 && decide (x4.2 = 0)) = true then ((T_ref19_SameRegion k x4.1 ([((-1099511627776), 9), (1, 0)] : List (Int × Int))).bind fun x10 => some x10) else some false)) else some false)).bind fun x11 => some x11)
theorem T_law19_awake_ok (k : Nat) (r : Bool) : T_law19_awake k = some r → evF X k n_law19_awake [] [] = some ((B r), []) := by
 intro H
 cases k with
 | zero => simp [T_law19_awake] at H
 | succ k =>
  simp only [T_law19_awake] at H
  refine F_in X_law19_awake rfl ?_
  refine K_seq ?_
  refine K_reg [] [] ⟨[], []⟩ (by kernel_rfl) trivial ?_
  refine K_seq ?_
  obtain ⟨x1, hx1, H⟩ := bind_some' H
  obtain ⟨x2, hx2, H⟩ := bind_some' H
  refine K_reg [.r (.agg [.d (.int .i64 1), .d (.int .i64 0), .d (.int .i64 0), .d (.int .i64 4), .d (.int .i64 2), .d (.list (([0, 10] : List Int).map (D.int .i64)))]) [], .r (.tup [(true, [.d (.list (x2.1.map (D.int .i64))), .d (.list (x2.2.1.map (D.int .i64)))]), (false, [.d (.int .i64 x2.2.2)])]) []] [evF X k n_law19_example [] [] = some ((.agg [.d (.int .i64 1), .d (.int .i64 0), .d (.int .i64 0), .d (.int .i64 4), .d (.int .i64 2), .d (.list (([0, 10] : List Int).map (D.int .i64)))]), []), evF X k n_word_Of [(.agg [.d (.int .i64 1), .d (.int .i64 0), .d (.int .i64 0), .d (.int .i64 4), .d (.int .i64 2), .d (.list (([0, 10] : List Int).map (D.int .i64)))]), (LI ([1, 2, (-5), (-6)] : List Int))] [] = some ((.tup [(true, [.d (.list (x2.1.map (D.int .i64))), .d (.list (x2.2.1.map (D.int .i64)))]), (false, [.d (.int .i64 x2.2.2)])]), [])] ⟨[(1, (.one (.ptr 0 0 0))), (2, (I x2.2.2))], [.cells [.d (.list (x2.1.map (D.int .i64))), .d (.list (x2.2.1.map (D.int .i64)))]]⟩ (by kernel_rfl) (AC (T_law19_example_ok k x1 hx1) (A1 (T_word_Of_ok k 1 0 0 4 2 ([0, 10] : List Int) ([1, 2, (-5), (-6)] : List Int) x2 hx2))) ?_
  refine K_seq ?_
  obtain ⟨x3, hx3, H⟩ := bind_some' H
  obtain ⟨x4, hx4, H⟩ := bind_some' H
  refine K_reg [.r (.agg [.d (.int .i64 1), .d (.int .i64 0), .d (.int .i64 0), .d (.int .i64 4), .d (.int .i64 2), .d (.list (([0, 10] : List Int).map (D.int .i64)))]) [], .r (.tup [(false, [.d (.list (x4.1.map e_st1))]), (false, [.d (.int .i64 x4.2)])]) []] [evF X k n_law19_example [] [] = some ((.agg [.d (.int .i64 1), .d (.int .i64 0), .d (.int .i64 0), .d (.int .i64 4), .d (.int .i64 2), .d (.list (([0, 10] : List Int).map (D.int .i64)))]), []), evF X k n_word_Region [(.agg [.d (.int .i64 1), .d (.int .i64 0), .d (.int .i64 0), .d (.int .i64 4), .d (.int .i64 2), .d (.list (([0, 10] : List Int).map (D.int .i64)))]), (.agg [.d (.list (([0, 3] : List Int).map (D.int .i64))), .d (.list (([3, 4] : List Int).map (D.int .i64)))])] [] = some ((.tup [(false, [.d (.list (x4.1.map e_st1))]), (false, [.d (.int .i64 x4.2)])]), [])] ⟨[(1, (.one (.ptr 0 0 0))), (2, (I x2.2.2)), (3, (.one (.d (.list (x4.1.map e_st1))))), (4, (I x4.2))], [.cells [.d (.list (x2.1.map (D.int .i64))), .d (.list (x2.2.1.map (D.int .i64)))]]⟩ (by kernel_rfl) (AC (T_law19_example_ok k x3 hx3) (A1 (T_word_Region_ok k 1 0 0 4 2 ([0, 10] : List Int) ([0, 3] : List Int) ([3, 4] : List Int) x4 hx4))) ?_
  refine K_seq ?_
  obtain ⟨x11, hx11, H⟩ := bind_some' H
  refine K_of ⟨[(0, (B x11))], []⟩ ?_ ?_
  · clear H; have H := hx11; clear hx11; refine K_in ?_
    rcases ite_some H with ⟨hx6, H⟩ | ⟨hx6, H⟩
    · obtain ⟨x7, hx7, H⟩ := bind_some' H
      rcases ite_some H with ⟨hx9, H⟩ | ⟨hx9, H⟩
      · obtain ⟨x10, hx10, H⟩ := bind_some' H
        refine K_reg [.b true, .r (B x7) [], .m, .b true, .r (B x10) []] [decide (x2.2.2 = 0) = true, evF X k n_ref19_Same [(.agg [.d (.list (x2.1.map (D.int .i64))), .d (.list (x2.2.1.map (D.int .i64)))]), (.agg [.d (.list (([1, 0] : List Int).map (D.int .i64))), .d (.list (([4, 4] : List Int).map (D.int .i64)))])] [] = some ((B x7), []), ([.cells [.d (.list (x2.1.map (D.int .i64))), .d (.list (x2.2.1.map (D.int .i64)))]] : Heap) = [.cells [.d (.list (x2.1.map (D.int .i64))), .d (.list (x2.2.1.map (D.int .i64)))]], (x7 && decide (x4.2 = 0)) = true, evF X k n_ref19_SameRegion [(.one (.d (.list (x4.1.map e_st1)))), (.one (.d (.list (([((-1099511627776), 9), (1, 0)] : List (Int × Int)).map e_st1))))] [] = some ((B x10), [])] ⟨[(0, (B x10))], []⟩ (by kernel_rfl) (AC (decide_eq_true hx6) (AC (T_ref19_Same_ok k x2.1 x2.2.1 ([1, 0] : List Int) ([4, 4] : List Int) x7 hx7) (AC rfl (AC hx9 (A1 (T_ref19_SameRegion_ok k x4.1 ([((-1099511627776), 9), (1, 0)] : List (Int × Int)) x10 hx10)))))) ?_
        cases H
        exact K_end rfl
      · refine K_reg [.b true, .r (B x7) [], .m, .b false] [decide (x2.2.2 = 0) = true, evF X k n_ref19_Same [(.agg [.d (.list (x2.1.map (D.int .i64))), .d (.list (x2.2.1.map (D.int .i64)))]), (.agg [.d (.list (([1, 0] : List Int).map (D.int .i64))), .d (.list (([4, 4] : List Int).map (D.int .i64)))])] [] = some ((B x7), []), ([.cells [.d (.list (x2.1.map (D.int .i64))), .d (.list (x2.2.1.map (D.int .i64)))]] : Heap) = [.cells [.d (.list (x2.1.map (D.int .i64))), .d (.list (x2.2.1.map (D.int .i64)))]], (x7 && decide (x4.2 = 0)) = false] ⟨[(0, (B false))], []⟩ (by kernel_rfl) (AC (decide_eq_true hx6) (AC (T_ref19_Same_ok k x2.1 x2.2.1 ([1, 0] : List Int) ([4, 4] : List Int) x7 hx7) (AC rfl (A1 (Bool.eq_false_iff.2 hx9))))) ?_
        cases H
        exact K_end rfl
    · refine K_reg [.b false, .b false, .b false] [decide (x2.2.2 = 0) = false, false = false, false = false] ⟨[(0, (B false))], []⟩ (by kernel_rfl) (AC (decide_eq_false hx6) (AC rfl (A1 rfl))) ?_
      cases H
      exact K_end rfl
  refine K_gh ⟨[(0, (B x11))], []⟩ (by kernel_rfl) ?_
  cases H
  refine K_ret ?_
  kernel_rfl
def T_law19_WordRefines_l1 (k : Nat) (x16 : Int) (x17 : List (Int × Int)) (x18 : List (Int × Int)) (x19 : List (Int × Int)) (x20 : Int) (x21 : Int) (x42 : Int) : Option (Int ⊕ (Unit ⊕ Unit)) :=
 (if x42 < x21 then ((at? x17 x42).bind fun x44 => (at? x18 x42).bind fun x45 => (at? x19 x42).bind fun x46 => ((if (decide (x42 = x16) && ((!(((decide (x44.1 ≤ x20) && decide (x20 ≤ x44.2)) == ((decide (x45.1 ≤ x20) && decide (x20 ≤ x45.2)) || (decide (x46.1 ≤ x20) && decide (x20 ≤ x46.2)))) && true)) || ((decide (x45.1 ≤ x20) && decide (x20 ≤ x45.2)) && (decide (x46.1 ≤ x20) && decide (x20 ≤ x46.2))))) = true then some true else (if (!decide (x42 = x16)) = true then ((at? x18 x42).bind fun x55 => (at? x17 x42).bind fun x56 => (if (!(decide (x55.1 = x56.1) && (decide (x55.2 = x56.2) && true))) = true then some true else ((at? x19 x42).bind fun x59 => some (!(decide (x59.1 = x56.1) && (decide (x59.2 = x56.2) && true)))))) else some false))).bind fun x60 => (if x60 = true then some (.inr (.inr ())) else some (.inl (w64 (x42 + 1))))) else some (.inr (.inl ())))
theorem T_law19_WordRefines_l1_ok (k : Nat) (x16 : Int) (x17 : List (Int × Int)) (x18 : List (Int × Int)) (x19 : List (Int × Int)) (x20 : Int) (x21 : Int) : ∀ (x42 : Int) (x : Int ⊕ (Unit ⊕ Unit)), T_law19_WordRefines_l1 k x16 x17 x18 x19 x20 x21 x42 = some x → evC X (evF X k) k 0 l_law19_WordRefines_1 ⟨[(8, (I x16)), (12, (.one (.d (.list (x17.map e_st1))))), (14, (.one (.d (.list (x18.map e_st1))))), (16, (.one (.d (.list (x19.map e_st1))))), (18, (I x20)), (110, (I x21)), (111, (I x42))], []⟩ = some (outS (fun (s : Int) => ⟨[(8, (I x16)), (12, (.one (.d (.list (x17.map e_st1))))), (14, (.one (.d (.list (x18.map e_st1))))), (16, (.one (.d (.list (x19.map e_st1))))), (18, (I x20)), (110, (I x21)), (111, (I s))], []⟩) (fun (r : Unit ⊕ Unit) => Sum.elim (fun y => (.exit 0, ⟨[], []⟩)) (fun y => (.ret, ⟨[(4, (B false))], []⟩)) r) x) := by
 intro x42 x H
 unfold T_law19_WordRefines_l1 at H
 refine K_in ?_
 refine K_seq ?_
 refine K_reg [] [] ⟨[(8, (I x16)), (12, (.one (.d (.list (x17.map e_st1))))), (14, (.one (.d (.list (x18.map e_st1))))), (16, (.one (.d (.list (x19.map e_st1))))), (18, (I x20)), (110, (I x21)), (111, (I x42)), (112, (B (decide (x42 < x21))))], []⟩ (by kernel_rfl) trivial ?_
 refine K_seq ?_
 rcases ite_some H with ⟨hx43, H⟩ | ⟨hx43, H⟩
 · refine K_t rfl (decide_eq_true hx43) ?_
   refine K_gh ⟨[(8, (I x16)), (12, (.one (.d (.list (x17.map e_st1))))), (14, (.one (.d (.list (x18.map e_st1))))), (16, (.one (.d (.list (x19.map e_st1))))), (18, (I x20)), (110, (I x21)), (111, (I x42))], []⟩ (by kernel_rfl) ?_
   refine K_skip ?_
   refine K_seq ?_
   refine K_block ?_
   refine K_seq ?_
   refine K_reg [] [] ⟨[(8, (I x16)), (12, (.one (.d (.list (x17.map e_st1))))), (14, (.one (.d (.list (x18.map e_st1))))), (16, (.one (.d (.list (x19.map e_st1))))), (18, (I x20)), (19, (I x42)), (110, (I x21)), (111, (I x42))], []⟩ (by kernel_rfl) trivial ?_
   refine K_seq ?_
   obtain ⟨x44, hx44, H⟩ := bind_some' H
   refine K_reg [.l [.int .i64 x44.1, .int .i64 x44.2], .m, .l [.int .i64 x44.1, .int .i64 x44.2]] [(0 : Int) ≤ x42 ∧ x42 < (((x17.map e_st1)).length : Int), ((x17.map e_st1).getD x42.toNat (.agg [(.int .i64 0), (.int .i64 0)])).cells = [.int .i64 x44.1, .int .i64 x44.2], decide (x44.1 ≤ x20) = true → AllT [(0 : Int) ≤ x42 ∧ x42 < (((x17.map e_st1)).length : Int), ((x17.map e_st1).getD x42.toNat (.agg [(.int .i64 0), (.int .i64 0)])).cells = [.int .i64 x44.1, .int .i64 x44.2]], ([] : Heap) = []] ⟨[(8, (I x16)), (12, (.one (.d (.list (x17.map e_st1))))), (14, (.one (.d (.list (x18.map e_st1))))), (16, (.one (.d (.list (x19.map e_st1))))), (18, (I x20)), (19, (I x42)), (20, (B (decide (x44.1 ≤ x20) && decide (x20 ≤ x44.2)))), (110, (I x21)), (111, (I x42))], []⟩ (by kernel_rfl) (AC (at_ok hx44 e_st1 (.agg [(.int .i64 0), (.int .i64 0)])).1 (AC (at_ok hx44 e_st1 (.agg [(.int .i64 0), (.int .i64 0)])).2 (AC (fun _ => (AC (at_ok hx44 e_st1 (.agg [(.int .i64 0), (.int .i64 0)])).1 (A1 (at_ok hx44 e_st1 (.agg [(.int .i64 0), (.int .i64 0)])).2))) (A1 rfl)))) ?_
   refine K_seq ?_
   obtain ⟨x45, hx45, H⟩ := bind_some' H
   obtain ⟨x46, hx46, H⟩ := bind_some' H
   refine K_reg [.l [.int .i64 x45.1, .int .i64 x45.2], .m, .l [.int .i64 x45.1, .int .i64 x45.2], .l [.int .i64 x46.1, .int .i64 x46.2], .m, .l [.int .i64 x46.1, .int .i64 x46.2]] [(0 : Int) ≤ x42 ∧ x42 < (((x18.map e_st1)).length : Int), ((x18.map e_st1).getD x42.toNat (.agg [(.int .i64 0), (.int .i64 0)])).cells = [.int .i64 x45.1, .int .i64 x45.2], decide (x45.1 ≤ x20) = true → AllT [(0 : Int) ≤ x42 ∧ x42 < (((x18.map e_st1)).length : Int), ((x18.map e_st1).getD x42.toNat (.agg [(.int .i64 0), (.int .i64 0)])).cells = [.int .i64 x45.1, .int .i64 x45.2]], ([] : Heap) = [], (0 : Int) ≤ x42 ∧ x42 < (((x19.map e_st1)).length : Int), ((x19.map e_st1).getD x42.toNat (.agg [(.int .i64 0), (.int .i64 0)])).cells = [.int .i64 x46.1, .int .i64 x46.2], decide (x46.1 ≤ x20) = true → AllT [(0 : Int) ≤ x42 ∧ x42 < (((x19.map e_st1)).length : Int), ((x19.map e_st1).getD x42.toNat (.agg [(.int .i64 0), (.int .i64 0)])).cells = [.int .i64 x46.1, .int .i64 x46.2]], ([] : Heap) = []] ⟨[(8, (I x16)), (12, (.one (.d (.list (x17.map e_st1))))), (14, (.one (.d (.list (x18.map e_st1))))), (16, (.one (.d (.list (x19.map e_st1))))), (18, (I x20)), (19, (I x42)), (20, (B (decide (x44.1 ≤ x20) && decide (x20 ≤ x44.2)))), (21, (B (decide (x45.1 ≤ x20) && decide (x20 ≤ x45.2)))), (22, (B (decide (x46.1 ≤ x20) && decide (x20 ≤ x46.2)))), (110, (I x21)), (111, (I x42))], []⟩ (by kernel_rfl) (AC (at_ok hx45 e_st1 (.agg [(.int .i64 0), (.int .i64 0)])).1 (AC (at_ok hx45 e_st1 (.agg [(.int .i64 0), (.int .i64 0)])).2 (AC (fun _ => (AC (at_ok hx45 e_st1 (.agg [(.int .i64 0), (.int .i64 0)])).1 (A1 (at_ok hx45 e_st1 (.agg [(.int .i64 0), (.int .i64 0)])).2))) (AC rfl (AC (at_ok hx46 e_st1 (.agg [(.int .i64 0), (.int .i64 0)])).1 (AC (at_ok hx46 e_st1 (.agg [(.int .i64 0), (.int .i64 0)])).2 (AC (fun _ => (AC (at_ok hx46 e_st1 (.agg [(.int .i64 0), (.int .i64 0)])).1 (A1 (at_ok hx46 e_st1 (.agg [(.int .i64 0), (.int .i64 0)])).2))) (A1 rfl)))))))) ?_
   refine K_seq ?_
   obtain ⟨x60, hx60, H⟩ := bind_some' H
   refine K_of ⟨[(8, (I x16)), (12, (.one (.d (.list (x17.map e_st1))))), (14, (.one (.d (.list (x18.map e_st1))))), (16, (.one (.d (.list (x19.map e_st1))))), (18, (I x20)), (110, (I x21)), (111, (I x42)), (205, (B x60))], []⟩ ?_ ?_
   · clear H; have H := hx60; clear hx60; refine K_in ?_
     rcases ite_some H with ⟨hx50, H⟩ | ⟨hx50, H⟩
     · refine K_reg [.m, .m, .m, .m, .b true] [decide (x42 = x16) = true → AllT [([] : Heap) = [], (!(((decide (x44.1 ≤ x20) && decide (x20 ≤ x44.2)) == ((decide (x45.1 ≤ x20) && decide (x20 ≤ x45.2)) || (decide (x46.1 ≤ x20) && decide (x20 ≤ x46.2)))) && true)) = false → AllT [([] : Heap) = []], ([] : Heap) = []], ([] : Heap) = [], (decide (x42 = x16) && ((!(((decide (x44.1 ≤ x20) && decide (x20 ≤ x44.2)) == ((decide (x45.1 ≤ x20) && decide (x20 ≤ x45.2)) || (decide (x46.1 ≤ x20) && decide (x20 ≤ x46.2)))) && true)) || ((decide (x45.1 ≤ x20) && decide (x20 ≤ x45.2)) && (decide (x46.1 ≤ x20) && decide (x20 ≤ x46.2))))) = true] ⟨[(8, (I x16)), (12, (.one (.d (.list (x17.map e_st1))))), (14, (.one (.d (.list (x18.map e_st1))))), (16, (.one (.d (.list (x19.map e_st1))))), (18, (I x20)), (110, (I x21)), (111, (I x42)), (205, (B true))], []⟩ (by kernel_rfl) (AC (fun _ => (AC rfl (AC (fun _ => (A1 rfl)) (A1 rfl)))) (AC rfl (A1 hx50))) ?_
       cases H
       exact K_end rfl
     · rcases ite_some H with ⟨hx54, H⟩ | ⟨hx54, H⟩
       · obtain ⟨x55, hx55, H⟩ := bind_some' H
         obtain ⟨x56, hx56, H⟩ := bind_some' H
         rcases ite_some H with ⟨hx58, H⟩ | ⟨hx58, H⟩
         · refine K_reg [.m, .m, .m, .m, .b false, .b true, .l [.int .i64 x55.1, .int .i64 x55.2], .l [.int .i64 x56.1, .int .i64 x56.2], .b true] [decide (x42 = x16) = true → AllT [([] : Heap) = [], (!(((decide (x44.1 ≤ x20) && decide (x20 ≤ x44.2)) == ((decide (x45.1 ≤ x20) && decide (x20 ≤ x45.2)) || (decide (x46.1 ≤ x20) && decide (x20 ≤ x46.2)))) && true)) = false → AllT [([] : Heap) = []], ([] : Heap) = []], ([] : Heap) = [], (decide (x42 = x16) && ((!(((decide (x44.1 ≤ x20) && decide (x20 ≤ x44.2)) == ((decide (x45.1 ≤ x20) && decide (x20 ≤ x45.2)) || (decide (x46.1 ≤ x20) && decide (x20 ≤ x46.2)))) && true)) || ((decide (x45.1 ≤ x20) && decide (x20 ≤ x45.2)) && (decide (x46.1 ≤ x20) && decide (x20 ≤ x46.2))))) = false, (!decide (x42 = x16)) = true, (0 : Int) ≤ x42 ∧ x42 < (((x18.map e_st1)).length : Int), ((x18.map e_st1).getD x42.toNat (.agg [(.int .i64 0), (.int .i64 0)])).cells = [.int .i64 x55.1, .int .i64 x55.2], (0 : Int) ≤ x42 ∧ x42 < (((x17.map e_st1)).length : Int), ((x17.map e_st1).getD x42.toNat (.agg [(.int .i64 0), (.int .i64 0)])).cells = [.int .i64 x56.1, .int .i64 x56.2], (!(decide (x55.1 = x56.1) && (decide (x55.2 = x56.2) && true))) = true] ⟨[(8, (I x16)), (12, (.one (.d (.list (x17.map e_st1))))), (14, (.one (.d (.list (x18.map e_st1))))), (16, (.one (.d (.list (x19.map e_st1))))), (18, (I x20)), (110, (I x21)), (111, (I x42)), (205, (B true))], []⟩ (by kernel_rfl) (AC (fun _ => (AC rfl (AC (fun _ => (A1 rfl)) (A1 rfl)))) (AC rfl (AC (Bool.eq_false_iff.2 hx50) (AC hx54 (AC (at_ok hx55 e_st1 (.agg [(.int .i64 0), (.int .i64 0)])).1 (AC (at_ok hx55 e_st1 (.agg [(.int .i64 0), (.int .i64 0)])).2 (AC (at_ok hx56 e_st1 (.agg [(.int .i64 0), (.int .i64 0)])).1 (AC (at_ok hx56 e_st1 (.agg [(.int .i64 0), (.int .i64 0)])).2 (A1 hx58))))))))) ?_
           cases H
           exact K_end rfl
         · obtain ⟨x59, hx59, H⟩ := bind_some' H
           refine K_reg [.m, .m, .m, .m, .b false, .b true, .l [.int .i64 x55.1, .int .i64 x55.2], .l [.int .i64 x56.1, .int .i64 x56.2], .b false, .l [.int .i64 x59.1, .int .i64 x59.2], .l [.int .i64 x56.1, .int .i64 x56.2]] [decide (x42 = x16) = true → AllT [([] : Heap) = [], (!(((decide (x44.1 ≤ x20) && decide (x20 ≤ x44.2)) == ((decide (x45.1 ≤ x20) && decide (x20 ≤ x45.2)) || (decide (x46.1 ≤ x20) && decide (x20 ≤ x46.2)))) && true)) = false → AllT [([] : Heap) = []], ([] : Heap) = []], ([] : Heap) = [], (decide (x42 = x16) && ((!(((decide (x44.1 ≤ x20) && decide (x20 ≤ x44.2)) == ((decide (x45.1 ≤ x20) && decide (x20 ≤ x45.2)) || (decide (x46.1 ≤ x20) && decide (x20 ≤ x46.2)))) && true)) || ((decide (x45.1 ≤ x20) && decide (x20 ≤ x45.2)) && (decide (x46.1 ≤ x20) && decide (x20 ≤ x46.2))))) = false, (!decide (x42 = x16)) = true, (0 : Int) ≤ x42 ∧ x42 < (((x18.map e_st1)).length : Int), ((x18.map e_st1).getD x42.toNat (.agg [(.int .i64 0), (.int .i64 0)])).cells = [.int .i64 x55.1, .int .i64 x55.2], (0 : Int) ≤ x42 ∧ x42 < (((x17.map e_st1)).length : Int), ((x17.map e_st1).getD x42.toNat (.agg [(.int .i64 0), (.int .i64 0)])).cells = [.int .i64 x56.1, .int .i64 x56.2], (!(decide (x55.1 = x56.1) && (decide (x55.2 = x56.2) && true))) = false, (0 : Int) ≤ x42 ∧ x42 < (((x19.map e_st1)).length : Int), ((x19.map e_st1).getD x42.toNat (.agg [(.int .i64 0), (.int .i64 0)])).cells = [.int .i64 x59.1, .int .i64 x59.2], (0 : Int) ≤ x42 ∧ x42 < (((x17.map e_st1)).length : Int), ((x17.map e_st1).getD x42.toNat (.agg [(.int .i64 0), (.int .i64 0)])).cells = [.int .i64 x56.1, .int .i64 x56.2]] ⟨[(8, (I x16)), (12, (.one (.d (.list (x17.map e_st1))))), (14, (.one (.d (.list (x18.map e_st1))))), (16, (.one (.d (.list (x19.map e_st1))))), (18, (I x20)), (110, (I x21)), (111, (I x42)), (205, (B (!(decide (x59.1 = x56.1) && (decide (x59.2 = x56.2) && true)))))], []⟩ (by kernel_rfl) (AC (fun _ => (AC rfl (AC (fun _ => (A1 rfl)) (A1 rfl)))) (AC rfl (AC (Bool.eq_false_iff.2 hx50) (AC hx54 (AC (at_ok hx55 e_st1 (.agg [(.int .i64 0), (.int .i64 0)])).1 (AC (at_ok hx55 e_st1 (.agg [(.int .i64 0), (.int .i64 0)])).2 (AC (at_ok hx56 e_st1 (.agg [(.int .i64 0), (.int .i64 0)])).1 (AC (at_ok hx56 e_st1 (.agg [(.int .i64 0), (.int .i64 0)])).2 (AC (Bool.eq_false_iff.2 hx58) (AC (at_ok hx59 e_st1 (.agg [(.int .i64 0), (.int .i64 0)])).1 (AC (at_ok hx59 e_st1 (.agg [(.int .i64 0), (.int .i64 0)])).2 (AC (at_ok hx56 e_st1 (.agg [(.int .i64 0), (.int .i64 0)])).1 (A1 (at_ok hx56 e_st1 (.agg [(.int .i64 0), (.int .i64 0)])).2))))))))))))) ?_
           cases H
           exact K_end rfl
       · refine K_reg [.m, .m, .m, .m, .b false, .b false] [decide (x42 = x16) = true → AllT [([] : Heap) = [], (!(((decide (x44.1 ≤ x20) && decide (x20 ≤ x44.2)) == ((decide (x45.1 ≤ x20) && decide (x20 ≤ x45.2)) || (decide (x46.1 ≤ x20) && decide (x20 ≤ x46.2)))) && true)) = false → AllT [([] : Heap) = []], ([] : Heap) = []], ([] : Heap) = [], (decide (x42 = x16) && ((!(((decide (x44.1 ≤ x20) && decide (x20 ≤ x44.2)) == ((decide (x45.1 ≤ x20) && decide (x20 ≤ x45.2)) || (decide (x46.1 ≤ x20) && decide (x20 ≤ x46.2)))) && true)) || ((decide (x45.1 ≤ x20) && decide (x20 ≤ x45.2)) && (decide (x46.1 ≤ x20) && decide (x20 ≤ x46.2))))) = false, (!decide (x42 = x16)) = false] ⟨[(8, (I x16)), (12, (.one (.d (.list (x17.map e_st1))))), (14, (.one (.d (.list (x18.map e_st1))))), (16, (.one (.d (.list (x19.map e_st1))))), (18, (I x20)), (110, (I x21)), (111, (I x42)), (205, (B false))], []⟩ (by kernel_rfl) (AC (fun _ => (AC rfl (AC (fun _ => (A1 rfl)) (A1 rfl)))) (AC rfl (AC (Bool.eq_false_iff.2 hx50) (A1 (Bool.eq_false_iff.2 hx54))))) ?_
         cases H
         exact K_end rfl
   rcases ite_some H with ⟨hx61, H⟩ | ⟨hx61, H⟩
   · refine K_t rfl hx61 ?_
     refine K_seq ?_
     refine K_reg [] [] ⟨[(4, (B false))], []⟩ (by kernel_rfl) trivial ?_
     refine K_gh ⟨[(4, (B false))], []⟩ (by kernel_rfl) ?_
     cases H
     exact K_ret rfl
   · refine K_f rfl (Bool.eq_false_iff.2 hx61) ?_
     refine K_gh ⟨[(8, (I x16)), (12, (.one (.d (.list (x17.map e_st1))))), (14, (.one (.d (.list (x18.map e_st1))))), (16, (.one (.d (.list (x19.map e_st1))))), (18, (I x20)), (110, (I x21)), (111, (I x42))], []⟩ (by kernel_rfl) ?_
     refine K_skip ?_
     refine K_blk ?_
     refine K_reg [] [] ⟨[(8, (I x16)), (12, (.one (.d (.list (x17.map e_st1))))), (14, (.one (.d (.list (x18.map e_st1))))), (16, (.one (.d (.list (x19.map e_st1))))), (18, (I x20)), (110, (I x21)), (111, (I (w64 (x42 + 1))))], []⟩ (by kernel_rfl) trivial ?_
     cases H
     exact K_end rfl
 · refine K_f rfl (decide_eq_false hx43) ?_
   refine K_gh ⟨[], []⟩ (by kernel_rfl) ?_
   cases H
   exact K_exit0 rfl rfl
def T_law19_WordRefines (k : Nat) (p1 : List Int) (p2 : Int) : Option Bool := match k with
 | 0 => none
 | k + 1 => ((T_keep_New k p1).bind fun x1 => (T_keep_Src_Scheme k ((p1.drop 0).take ((imin (p1.length : Int) 2000).toNat - 0)) 0).bind fun x2 => (T_keep_Src_Word k x2.1 x2.2.1 x2.2.2.1 x2.2.2.2.1 x2.2.2.2.2.1 x2.2.2.2.2.2.1 ((p1.drop 0).take ((imin (p1.length : Int) 2000).toNat - 0)) x2.2.2.2.2.2.2).bind fun x3 => (T_keep_Src_N k x2.2.2.2.2.1 ((p1.drop 0).take ((imin (p1.length : Int) 2000).toNat - 0)) x3.2.2).bind fun x4 => (T_word_Split k x2.1 x2.2.1 x2.2.2.1 x2.2.2.2.1 x2.2.2.2.2.1 x2.2.2.2.2.2.1 x3.1 x3.2.1 x4.1).bind fun x5 => (at? x3.2.1 x4.1).bind fun x6 => (if x6 = 4 then (((if x5.2.2.2.2 = 4 then ((T_law19_awake k).bind fun x10 => some x10) else some false)).bind fun x11 => some x11) else ((T_word_Region k x2.1 x2.2.1 x2.2.2.1 x2.2.2.2.1 x2.2.2.2.2.1 x2.2.2.2.2.2.1 x3.1 x3.2.1).bind fun x12 => (T_word_Region k x2.1 x2.2.1 x2.2.2.1 x2.2.2.2.1 x2.2.2.2.2.1 x2.2.2.2.2.2.1 x5.1 x5.2.1).bind fun x13 => (T_word_Region k x2.1 x2.2.1 x2.2.2.1 x2.2.2.2.1 x2.2.2.2.2.1 x2.2.2.2.2.2.1 x5.2.2.1 x5.2.2.2.1).bind fun x14 => (if (((((((!decide (x5.2.2.2.2 = 0)) || (!decide (x12.2 = 0))) || (!decide (x13.2 = 0))) || (!decide (x14.2 = 0))) || (!decide ((x12.1.length : Int) = x2.2.2.2.2.1))) || (!decide ((x13.1.length : Int) = x2.2.2.2.2.1))) || (!decide ((x14.1.length : Int) = x2.2.2.2.2.1))) = true then some false else ((loopT (T_law19_WordRefines_l1 k x4.1 x12.1 x13.1 x14.1 ((w64 (p2)).tmod 700) (x12.1.length : Int)) k 0).bind fun x62 => (match x62 with | .inl x63 => ((T_law19_awake k).bind fun x64 => some x64) | .inr x65 => some false))))))
theorem T_law19_WordRefines_ok (k : Nat) (p1 : List Int) (p2 : Int) (r : Bool) : T_law19_WordRefines k p1 p2 = some r → evF X k n_law19_WordRefines [(LI p1), (.one (.d (.int .i16 p2)))] [] = some ((B r), []) := by
 intro H
 cases k with
 | zero => simp [T_law19_WordRefines] at H
 | succ k =>
  simp only [T_law19_WordRefines] at H
  refine F_in X_law19_WordRefines rfl ?_
  refine K_seq ?_
  refine K_reg [] [] ⟨[(0, (LI p1)), (1, (.one (.d (.int .i16 p2))))], []⟩ (by kernel_rfl) trivial ?_
  refine K_seq ?_
  obtain ⟨x1, hx1, H⟩ := bind_some' H
  refine K_reg [.r (.one (.ptr 0 0 0)) [.cells [.d (.list (((p1.drop 0).take ((imin (p1.length : Int) 2000).toNat - 0)).map (D.int .i64))), .d (.int .i64 0)]]] [evF X k n_keep_New [(LI p1)] [] = some ((.one (.ptr 0 0 0)), [.cells [.d (.list (((p1.drop 0).take ((imin (p1.length : Int) 2000).toNat - 0)).map (D.int .i64))), .d (.int .i64 0)]])] ⟨[(1, (.one (.d (.int .i16 p2)))), (5, (.one (.ptr 0 0 0)))], [.cells [.d (.list (((p1.drop 0).take ((imin (p1.length : Int) 2000).toNat - 0)).map (D.int .i64))), .d (.int .i64 0)]]⟩ (by kernel_rfl) (A1 (T_keep_New_ok k p1 x1 hx1)) ?_
  refine K_seq ?_
  obtain ⟨x2, hx2, H⟩ := bind_some' H
  refine K_reg [.r (.agg [.d (.int .i64 x2.1), .d (.int .i64 x2.2.1), .d (.int .i64 x2.2.2.1), .d (.int .i64 x2.2.2.2.1), .d (.int .i64 x2.2.2.2.2.1), .d (.list (x2.2.2.2.2.2.1.map (D.int .i64)))]) [.cells [.d (.list (((p1.drop 0).take ((imin (p1.length : Int) 2000).toNat - 0)).map (D.int .i64))), .d (.int .i64 x2.2.2.2.2.2.2)]]] [evF X k n_keep_Src_Scheme [(.one (.ptr 0 0 0))] [.cells [.d (.list (((p1.drop 0).take ((imin (p1.length : Int) 2000).toNat - 0)).map (D.int .i64))), .d (.int .i64 0)]] = some ((.agg [.d (.int .i64 x2.1), .d (.int .i64 x2.2.1), .d (.int .i64 x2.2.2.1), .d (.int .i64 x2.2.2.2.1), .d (.int .i64 x2.2.2.2.2.1), .d (.list (x2.2.2.2.2.2.1.map (D.int .i64)))]), [.cells [.d (.list (((p1.drop 0).take ((imin (p1.length : Int) 2000).toNat - 0)).map (D.int .i64))), .d (.int .i64 x2.2.2.2.2.2.2)]])] ⟨[(1, (.one (.d (.int .i16 p2)))), (5, (.one (.ptr 0 0 0))), (6, (.one (.ptr 1 0 0)))], [.cells [.d (.list (((p1.drop 0).take ((imin (p1.length : Int) 2000).toNat - 0)).map (D.int .i64))), .d (.int .i64 x2.2.2.2.2.2.2)], .cells [.d (.int .i64 x2.1), .d (.int .i64 x2.2.1), .d (.int .i64 x2.2.2.1), .d (.int .i64 x2.2.2.2.1), .d (.int .i64 x2.2.2.2.2.1), .d (.list (x2.2.2.2.2.2.1.map (D.int .i64)))]]⟩ (by kernel_rfl) (A1 (T_keep_Src_Scheme_ok k ((p1.drop 0).take ((imin (p1.length : Int) 2000).toNat - 0)) 0 x2 hx2)) ?_
  refine K_seq ?_
  obtain ⟨x3, hx3, H⟩ := bind_some' H
  refine K_reg [.r (.agg [.d (.list (x3.1.map (D.int .i64))), .d (.list (x3.2.1.map (D.int .i64)))]) [.cells [.d (.list (((p1.drop 0).take ((imin (p1.length : Int) 2000).toNat - 0)).map (D.int .i64))), .d (.int .i64 x3.2.2)]]] [evF X k n_keep_Src_Word [(.one (.ptr 0 0 0)), (.agg [.d (.int .i64 x2.1), .d (.int .i64 x2.2.1), .d (.int .i64 x2.2.2.1), .d (.int .i64 x2.2.2.2.1), .d (.int .i64 x2.2.2.2.2.1), .d (.list (x2.2.2.2.2.2.1.map (D.int .i64)))])] [.cells [.d (.list (((p1.drop 0).take ((imin (p1.length : Int) 2000).toNat - 0)).map (D.int .i64))), .d (.int .i64 x2.2.2.2.2.2.2)]] = some ((.agg [.d (.list (x3.1.map (D.int .i64))), .d (.list (x3.2.1.map (D.int .i64)))]), [.cells [.d (.list (((p1.drop 0).take ((imin (p1.length : Int) 2000).toNat - 0)).map (D.int .i64))), .d (.int .i64 x3.2.2)]])] ⟨[(1, (.one (.d (.int .i16 p2)))), (5, (.one (.ptr 0 0 0))), (6, (.one (.ptr 1 0 0))), (7, (.one (.ptr 2 0 0)))], [.cells [.d (.list (((p1.drop 0).take ((imin (p1.length : Int) 2000).toNat - 0)).map (D.int .i64))), .d (.int .i64 x3.2.2)], .cells [.d (.int .i64 x2.1), .d (.int .i64 x2.2.1), .d (.int .i64 x2.2.2.1), .d (.int .i64 x2.2.2.2.1), .d (.int .i64 x2.2.2.2.2.1), .d (.list (x2.2.2.2.2.2.1.map (D.int .i64)))], .cells [.d (.list (x3.1.map (D.int .i64))), .d (.list (x3.2.1.map (D.int .i64)))]]⟩ (by kernel_rfl) (A1 (T_keep_Src_Word_ok k x2.1 x2.2.1 x2.2.2.1 x2.2.2.2.1 x2.2.2.2.2.1 x2.2.2.2.2.2.1 ((p1.drop 0).take ((imin (p1.length : Int) 2000).toNat - 0)) x2.2.2.2.2.2.2 x3 hx3)) ?_
  refine K_seq ?_
  obtain ⟨x4, hx4, H⟩ := bind_some' H
  refine K_reg [.r (I x4.1) [.cells [.d (.list (((p1.drop 0).take ((imin (p1.length : Int) 2000).toNat - 0)).map (D.int .i64))), .d (.int .i64 x4.2)]]] [evF X k n_keep_Src_N [(.one (.ptr 0 0 0)), (I x2.2.2.2.2.1)] [.cells [.d (.list (((p1.drop 0).take ((imin (p1.length : Int) 2000).toNat - 0)).map (D.int .i64))), .d (.int .i64 x3.2.2)]] = some ((I x4.1), [.cells [.d (.list (((p1.drop 0).take ((imin (p1.length : Int) 2000).toNat - 0)).map (D.int .i64))), .d (.int .i64 x4.2)]])] ⟨[(1, (.one (.d (.int .i16 p2)))), (6, (.one (.ptr 0 0 0))), (7, (.one (.ptr 1 0 0))), (8, (I x4.1))], [.cells [.d (.int .i64 x2.1), .d (.int .i64 x2.2.1), .d (.int .i64 x2.2.2.1), .d (.int .i64 x2.2.2.2.1), .d (.int .i64 x2.2.2.2.2.1), .d (.list (x2.2.2.2.2.2.1.map (D.int .i64)))], .cells [.d (.list (x3.1.map (D.int .i64))), .d (.list (x3.2.1.map (D.int .i64)))]]⟩ (by kernel_rfl) (A1 (T_keep_Src_N_ok k x2.2.2.2.2.1 ((p1.drop 0).take ((imin (p1.length : Int) 2000).toNat - 0)) x3.2.2 x4 hx4)) ?_
  refine K_seq ?_
  obtain ⟨x5, hx5, H⟩ := bind_some' H
  refine K_reg [.r (.tup [(true, [.d (.list (x5.1.map (D.int .i64))), .d (.list (x5.2.1.map (D.int .i64)))]), (true, [.d (.list (x5.2.2.1.map (D.int .i64))), .d (.list (x5.2.2.2.1.map (D.int .i64)))]), (false, [.d (.int .i64 x5.2.2.2.2)])]) []] [evF X k n_word_Split [(.agg [.d (.int .i64 x2.1), .d (.int .i64 x2.2.1), .d (.int .i64 x2.2.2.1), .d (.int .i64 x2.2.2.2.1), .d (.int .i64 x2.2.2.2.2.1), .d (.list (x2.2.2.2.2.2.1.map (D.int .i64)))]), (.agg [.d (.list (x3.1.map (D.int .i64))), .d (.list (x3.2.1.map (D.int .i64)))]), (I x4.1)] [] = some ((.tup [(true, [.d (.list (x5.1.map (D.int .i64))), .d (.list (x5.2.1.map (D.int .i64)))]), (true, [.d (.list (x5.2.2.1.map (D.int .i64))), .d (.list (x5.2.2.2.1.map (D.int .i64)))]), (false, [.d (.int .i64 x5.2.2.2.2)])]), [])] ⟨[(1, (.one (.d (.int .i16 p2)))), (6, (.one (.ptr 0 0 0))), (7, (.one (.ptr 1 0 0))), (8, (I x4.1)), (9, (.one (.ptr 2 0 0))), (10, (.one (.ptr 3 0 0))), (11, (I x5.2.2.2.2))], [.cells [.d (.int .i64 x2.1), .d (.int .i64 x2.2.1), .d (.int .i64 x2.2.2.1), .d (.int .i64 x2.2.2.2.1), .d (.int .i64 x2.2.2.2.2.1), .d (.list (x2.2.2.2.2.2.1.map (D.int .i64)))], .cells [.d (.list (x3.1.map (D.int .i64))), .d (.list (x3.2.1.map (D.int .i64)))], .cells [.d (.list (x5.1.map (D.int .i64))), .d (.list (x5.2.1.map (D.int .i64)))], .cells [.d (.list (x5.2.2.1.map (D.int .i64))), .d (.list (x5.2.2.2.1.map (D.int .i64)))]]⟩ (by kernel_rfl) (A1 (T_word_Split_ok k x2.1 x2.2.1 x2.2.2.1 x2.2.2.2.1 x2.2.2.2.2.1 x2.2.2.2.2.2.1 x3.1 x3.2.1 x4.1 x5 hx5)) ?_
  refine K_seq ?_
  refine K_seq ?_
  obtain ⟨x6, hx6, H⟩ := bind_some' H
  refine K_reg [.l [.int .i64 x6]] [(0 : Int) ≤ x4.1 ∧ x4.1 < (((x3.2.1.map (D.int .i64))).length : Int), ((x3.2.1.map (D.int .i64)).getD x4.1.toNat (.int .i64 0)).cells = [.int .i64 x6]] ⟨[(1, (.one (.d (.int .i16 p2)))), (6, (.one (.ptr 0 0 0))), (7, (.one (.ptr 1 0 0))), (8, (I x4.1)), (9, (.one (.ptr 2 0 0))), (10, (.one (.ptr 3 0 0))), (11, (I x5.2.2.2.2)), (47, (B (decide (x6 = 4))))], [.cells [.d (.int .i64 x2.1), .d (.int .i64 x2.2.1), .d (.int .i64 x2.2.2.1), .d (.int .i64 x2.2.2.2.1), .d (.int .i64 x2.2.2.2.2.1), .d (.list (x2.2.2.2.2.2.1.map (D.int .i64)))], .cells [.d (.list (x3.1.map (D.int .i64))), .d (.list (x3.2.1.map (D.int .i64)))], .cells [.d (.list (x5.1.map (D.int .i64))), .d (.list (x5.2.1.map (D.int .i64)))], .cells [.d (.list (x5.2.2.1.map (D.int .i64))), .d (.list (x5.2.2.2.1.map (D.int .i64)))]]⟩ (by kernel_rfl) (AC (at_ok hx6 (D.int .i64) (.int .i64 0)).1 (A1 (at_ok hx6 (D.int .i64) (.int .i64 0)).2)) ?_
  rcases ite_some H with ⟨hx7, H⟩ | ⟨hx7, H⟩
  · refine K_t rfl (decide_eq_true hx7) ?_
    refine K_seq ?_
    obtain ⟨x11, hx11, H⟩ := bind_some' H
    refine K_of ⟨[(4, (B x11))], []⟩ ?_ ?_
    · clear H; have H := hx11; clear hx11; refine K_in ?_
      rcases ite_some H with ⟨hx9, H⟩ | ⟨hx9, H⟩
      · obtain ⟨x10, hx10, H⟩ := bind_some' H
        refine K_reg [.b true, .r (B x10) []] [decide (x5.2.2.2.2 = 4) = true, evF X k n_law19_awake [] [] = some ((B x10), [])] ⟨[(4, (B x10))], []⟩ (by kernel_rfl) (AC (decide_eq_true hx9) (A1 (T_law19_awake_ok k x10 hx10))) ?_
        cases H
        exact K_end rfl
      · refine K_reg [.b false] [decide (x5.2.2.2.2 = 4) = false] ⟨[(4, (B false))], []⟩ (by kernel_rfl) (A1 (decide_eq_false hx9)) ?_
        cases H
        exact K_end rfl
    refine K_gh ⟨[(4, (B x11))], []⟩ (by kernel_rfl) ?_
    cases H
    refine K_ret ?_
    kernel_rfl
  · refine K_f rfl (decide_eq_false hx7) ?_
    refine K_gh ⟨[(1, (.one (.d (.int .i16 p2)))), (6, (.one (.ptr 0 0 0))), (7, (.one (.ptr 1 0 0))), (8, (I x4.1)), (9, (.one (.ptr 2 0 0))), (10, (.one (.ptr 3 0 0))), (11, (I x5.2.2.2.2))], [.cells [.d (.int .i64 x2.1), .d (.int .i64 x2.2.1), .d (.int .i64 x2.2.2.1), .d (.int .i64 x2.2.2.2.1), .d (.int .i64 x2.2.2.2.2.1), .d (.list (x2.2.2.2.2.2.1.map (D.int .i64)))], .cells [.d (.list (x3.1.map (D.int .i64))), .d (.list (x3.2.1.map (D.int .i64)))], .cells [.d (.list (x5.1.map (D.int .i64))), .d (.list (x5.2.1.map (D.int .i64)))], .cells [.d (.list (x5.2.2.1.map (D.int .i64))), .d (.list (x5.2.2.2.1.map (D.int .i64)))]]⟩ (by kernel_rfl) ?_
    refine K_skip ?_
    refine K_seq ?_
    obtain ⟨x12, hx12, H⟩ := bind_some' H
    refine K_reg [.r (.tup [(false, [.d (.list (x12.1.map e_st1))]), (false, [.d (.int .i64 x12.2)])]) []] [evF X k n_word_Region [(.agg [.d (.int .i64 x2.1), .d (.int .i64 x2.2.1), .d (.int .i64 x2.2.2.1), .d (.int .i64 x2.2.2.2.1), .d (.int .i64 x2.2.2.2.2.1), .d (.list (x2.2.2.2.2.2.1.map (D.int .i64)))]), (.agg [.d (.list (x3.1.map (D.int .i64))), .d (.list (x3.2.1.map (D.int .i64)))])] [] = some ((.tup [(false, [.d (.list (x12.1.map e_st1))]), (false, [.d (.int .i64 x12.2)])]), [])] ⟨[(1, (.one (.d (.int .i16 p2)))), (6, (.one (.ptr 0 0 0))), (8, (I x4.1)), (9, (.one (.ptr 1 0 0))), (10, (.one (.ptr 2 0 0))), (11, (I x5.2.2.2.2)), (12, (.one (.d (.list (x12.1.map e_st1))))), (13, (I x12.2))], [.cells [.d (.int .i64 x2.1), .d (.int .i64 x2.2.1), .d (.int .i64 x2.2.2.1), .d (.int .i64 x2.2.2.2.1), .d (.int .i64 x2.2.2.2.2.1), .d (.list (x2.2.2.2.2.2.1.map (D.int .i64)))], .cells [.d (.list (x5.1.map (D.int .i64))), .d (.list (x5.2.1.map (D.int .i64)))], .cells [.d (.list (x5.2.2.1.map (D.int .i64))), .d (.list (x5.2.2.2.1.map (D.int .i64)))]]⟩ (by kernel_rfl) (A1 (T_word_Region_ok k x2.1 x2.2.1 x2.2.2.1 x2.2.2.2.1 x2.2.2.2.2.1 x2.2.2.2.2.2.1 x3.1 x3.2.1 x12 hx12)) ?_
    refine K_seq ?_
    obtain ⟨x13, hx13, H⟩ := bind_some' H
    refine K_reg [.r (.tup [(false, [.d (.list (x13.1.map e_st1))]), (false, [.d (.int .i64 x13.2)])]) []] [evF X k n_word_Region [(.agg [.d (.int .i64 x2.1), .d (.int .i64 x2.2.1), .d (.int .i64 x2.2.2.1), .d (.int .i64 x2.2.2.2.1), .d (.int .i64 x2.2.2.2.2.1), .d (.list (x2.2.2.2.2.2.1.map (D.int .i64)))]), (.agg [.d (.list (x5.1.map (D.int .i64))), .d (.list (x5.2.1.map (D.int .i64)))])] [] = some ((.tup [(false, [.d (.list (x13.1.map e_st1))]), (false, [.d (.int .i64 x13.2)])]), [])] ⟨[(1, (.one (.d (.int .i16 p2)))), (6, (.one (.ptr 0 0 0))), (8, (I x4.1)), (10, (.one (.ptr 1 0 0))), (11, (I x5.2.2.2.2)), (12, (.one (.d (.list (x12.1.map e_st1))))), (13, (I x12.2)), (14, (.one (.d (.list (x13.1.map e_st1))))), (15, (I x13.2))], [.cells [.d (.int .i64 x2.1), .d (.int .i64 x2.2.1), .d (.int .i64 x2.2.2.1), .d (.int .i64 x2.2.2.2.1), .d (.int .i64 x2.2.2.2.2.1), .d (.list (x2.2.2.2.2.2.1.map (D.int .i64)))], .cells [.d (.list (x5.2.2.1.map (D.int .i64))), .d (.list (x5.2.2.2.1.map (D.int .i64)))]]⟩ (by kernel_rfl) (A1 (T_word_Region_ok k x2.1 x2.2.1 x2.2.2.1 x2.2.2.2.1 x2.2.2.2.2.1 x2.2.2.2.2.2.1 x5.1 x5.2.1 x13 hx13)) ?_
    refine K_seq ?_
    obtain ⟨x14, hx14, H⟩ := bind_some' H
    refine K_reg [.r (.tup [(false, [.d (.list (x14.1.map e_st1))]), (false, [.d (.int .i64 x14.2)])]) []] [evF X k n_word_Region [(.agg [.d (.int .i64 x2.1), .d (.int .i64 x2.2.1), .d (.int .i64 x2.2.2.1), .d (.int .i64 x2.2.2.2.1), .d (.int .i64 x2.2.2.2.2.1), .d (.list (x2.2.2.2.2.2.1.map (D.int .i64)))]), (.agg [.d (.list (x5.2.2.1.map (D.int .i64))), .d (.list (x5.2.2.2.1.map (D.int .i64)))])] [] = some ((.tup [(false, [.d (.list (x14.1.map e_st1))]), (false, [.d (.int .i64 x14.2)])]), [])] ⟨[(1, (.one (.d (.int .i16 p2)))), (6, (.one (.ptr 0 0 0))), (8, (I x4.1)), (11, (I x5.2.2.2.2)), (12, (.one (.d (.list (x12.1.map e_st1))))), (13, (I x12.2)), (14, (.one (.d (.list (x13.1.map e_st1))))), (15, (I x13.2)), (16, (.one (.d (.list (x14.1.map e_st1))))), (17, (I x14.2))], [.cells [.d (.int .i64 x2.1), .d (.int .i64 x2.2.1), .d (.int .i64 x2.2.2.1), .d (.int .i64 x2.2.2.2.1), .d (.int .i64 x2.2.2.2.2.1), .d (.list (x2.2.2.2.2.2.1.map (D.int .i64)))]]⟩ (by kernel_rfl) (A1 (T_word_Region_ok k x2.1 x2.2.1 x2.2.2.1 x2.2.2.2.1 x2.2.2.2.2.1 x2.2.2.2.2.2.1 x5.2.2.1 x5.2.2.2.1 x14 hx14)) ?_
    refine K_seq ?_
    refine K_seq ?_
    refine K_reg [.m, .m, .m, .m, .n x12.1.length, .m, .n x13.1.length, .m, .n x14.1.length] [([.cells [.d (.int .i64 x2.1), .d (.int .i64 x2.2.1), .d (.int .i64 x2.2.2.1), .d (.int .i64 x2.2.2.2.1), .d (.int .i64 x2.2.2.2.2.1), .d (.list (x2.2.2.2.2.2.1.map (D.int .i64)))]] : Heap) = [.cells [.d (.int .i64 x2.1), .d (.int .i64 x2.2.1), .d (.int .i64 x2.2.2.1), .d (.int .i64 x2.2.2.2.1), .d (.int .i64 x2.2.2.2.2.1), .d (.list (x2.2.2.2.2.2.1.map (D.int .i64)))]], ([.cells [.d (.int .i64 x2.1), .d (.int .i64 x2.2.1), .d (.int .i64 x2.2.2.1), .d (.int .i64 x2.2.2.2.1), .d (.int .i64 x2.2.2.2.2.1), .d (.list (x2.2.2.2.2.2.1.map (D.int .i64)))]] : Heap) = [.cells [.d (.int .i64 x2.1), .d (.int .i64 x2.2.1), .d (.int .i64 x2.2.2.1), .d (.int .i64 x2.2.2.2.1), .d (.int .i64 x2.2.2.2.2.1), .d (.list (x2.2.2.2.2.2.1.map (D.int .i64)))]], ([.cells [.d (.int .i64 x2.1), .d (.int .i64 x2.2.1), .d (.int .i64 x2.2.2.1), .d (.int .i64 x2.2.2.2.1), .d (.int .i64 x2.2.2.2.2.1), .d (.list (x2.2.2.2.2.2.1.map (D.int .i64)))]] : Heap) = [.cells [.d (.int .i64 x2.1), .d (.int .i64 x2.2.1), .d (.int .i64 x2.2.2.1), .d (.int .i64 x2.2.2.2.1), .d (.int .i64 x2.2.2.2.2.1), .d (.list (x2.2.2.2.2.2.1.map (D.int .i64)))]], ((((!decide (x5.2.2.2.2 = 0)) || (!decide (x12.2 = 0))) || (!decide (x13.2 = 0))) || (!decide (x14.2 = 0))) = false → AllT [((x12.1.map e_st1)).length = x12.1.length], ([.cells [.d (.int .i64 x2.1), .d (.int .i64 x2.2.1), .d (.int .i64 x2.2.2.1), .d (.int .i64 x2.2.2.2.1), .d (.int .i64 x2.2.2.2.2.1), .d (.list (x2.2.2.2.2.2.1.map (D.int .i64)))]] : Heap) = [.cells [.d (.int .i64 x2.1), .d (.int .i64 x2.2.1), .d (.int .i64 x2.2.2.1), .d (.int .i64 x2.2.2.2.1), .d (.int .i64 x2.2.2.2.2.1), .d (.list (x2.2.2.2.2.2.1.map (D.int .i64)))]], (((((!decide (x5.2.2.2.2 = 0)) || (!decide (x12.2 = 0))) || (!decide (x13.2 = 0))) || (!decide (x14.2 = 0))) || (!decide ((x12.1.length : Int) = x2.2.2.2.2.1))) = false → AllT [((x13.1.map e_st1)).length = x13.1.length], ([.cells [.d (.int .i64 x2.1), .d (.int .i64 x2.2.1), .d (.int .i64 x2.2.2.1), .d (.int .i64 x2.2.2.2.1), .d (.int .i64 x2.2.2.2.2.1), .d (.list (x2.2.2.2.2.2.1.map (D.int .i64)))]] : Heap) = [.cells [.d (.int .i64 x2.1), .d (.int .i64 x2.2.1), .d (.int .i64 x2.2.2.1), .d (.int .i64 x2.2.2.2.1), .d (.int .i64 x2.2.2.2.2.1), .d (.list (x2.2.2.2.2.2.1.map (D.int .i64)))]], ((((((!decide (x5.2.2.2.2 = 0)) || (!decide (x12.2 = 0))) || (!decide (x13.2 = 0))) || (!decide (x14.2 = 0))) || (!decide ((x12.1.length : Int) = x2.2.2.2.2.1))) || (!decide ((x13.1.length : Int) = x2.2.2.2.2.1))) = false → AllT [((x14.1.map e_st1)).length = x14.1.length], ([.cells [.d (.int .i64 x2.1), .d (.int .i64 x2.2.1), .d (.int .i64 x2.2.2.1), .d (.int .i64 x2.2.2.2.1), .d (.int .i64 x2.2.2.2.2.1), .d (.list (x2.2.2.2.2.2.1.map (D.int .i64)))]] : Heap) = [.cells [.d (.int .i64 x2.1), .d (.int .i64 x2.2.1), .d (.int .i64 x2.2.2.1), .d (.int .i64 x2.2.2.2.1), .d (.int .i64 x2.2.2.2.2.1), .d (.list (x2.2.2.2.2.2.1.map (D.int .i64)))]]] ⟨[(1, (.one (.d (.int .i16 p2)))), (8, (I x4.1)), (12, (.one (.d (.list (x12.1.map e_st1))))), (14, (.one (.d (.list (x13.1.map e_st1))))), (16, (.one (.d (.list (x14.1.map e_st1))))), (105, (B (((((((!decide (x5.2.2.2.2 = 0)) || (!decide (x12.2 = 0))) || (!decide (x13.2 = 0))) || (!decide (x14.2 = 0))) || (!decide ((x12.1.length : Int) = x2.2.2.2.2.1))) || (!decide ((x13.1.length : Int) = x2.2.2.2.2.1))) || (!decide ((x14.1.length : Int) = x2.2.2.2.2.1)))))], []⟩ (by kernel_rfl) (AC rfl (AC rfl (AC rfl (AC (fun _ => (A1 (List.length_map _))) (AC rfl (AC (fun _ => (A1 (List.length_map _))) (AC rfl (AC (fun _ => (A1 (List.length_map _))) (A1 rfl))))))))) ?_
    rcases ite_some H with ⟨hx15, H⟩ | ⟨hx15, H⟩
    · refine K_t rfl hx15 ?_
      refine K_seq ?_
      refine K_reg [] [] ⟨[(4, (B false))], []⟩ (by kernel_rfl) trivial ?_
      refine K_gh ⟨[(4, (B false))], []⟩ (by kernel_rfl) ?_
      cases H
      refine K_ret ?_
      kernel_rfl
    · refine K_f rfl (Bool.eq_false_iff.2 hx15) ?_
      refine K_gh ⟨[(1, (.one (.d (.int .i16 p2)))), (8, (I x4.1)), (12, (.one (.d (.list (x12.1.map e_st1))))), (14, (.one (.d (.list (x13.1.map e_st1))))), (16, (.one (.d (.list (x14.1.map e_st1)))))], []⟩ (by kernel_rfl) ?_
      refine K_skip ?_
      refine K_seq ?_
      refine K_reg [] [700 ≠ (0 : Int)] ⟨[(8, (I x4.1)), (12, (.one (.d (.list (x12.1.map e_st1))))), (14, (.one (.d (.list (x13.1.map e_st1))))), (16, (.one (.d (.list (x14.1.map e_st1))))), (18, (I ((w64 (p2)).tmod 700)))], []⟩ (by kernel_rfl) (A1 (by decide)) ?_
      refine K_seq ?_
      refine K_seq ?_
      refine K_reg [.n x12.1.length] [((x12.1.map e_st1)).length = x12.1.length] ⟨[(8, (I x4.1)), (12, (.one (.d (.list (x12.1.map e_st1))))), (14, (.one (.d (.list (x13.1.map e_st1))))), (16, (.one (.d (.list (x14.1.map e_st1))))), (18, (I ((w64 (p2)).tmod 700))), (110, (I (x12.1.length : Int))), (111, (I 0))], []⟩ (by kernel_rfl) (A1 (List.length_map _)) ?_
      refine K_block ?_
      obtain ⟨x62, hx62, H⟩ := bind_some' H
      cases x62 with
      | inl x63 =>
       dsimp only at H
       refine K_loop ⟨[], []⟩ (loop_ok (fun (s : Int) => ⟨[(8, (I x4.1)), (12, (.one (.d (.list (x12.1.map e_st1))))), (14, (.one (.d (.list (x13.1.map e_st1))))), (16, (.one (.d (.list (x14.1.map e_st1))))), (18, (I ((w64 (p2)).tmod 700))), (110, (I (x12.1.length : Int))), (111, (I s))], []⟩) (fun (r : Unit ⊕ Unit) => Sum.elim (fun y => (.exit 0, ⟨[], []⟩)) (fun y => (.ret, ⟨[(4, (B false))], []⟩)) r) (fun r h => by cases r <;> cases h) (T_law19_WordRefines_l1_ok k x4.1 x12.1 x13.1 x14.1 ((w64 (p2)).tmod 700) (x12.1.length : Int)) k 0 (.inl x63) hx62) rfl ?_
       refine K_seq ?_
       obtain ⟨x64, hx64, H⟩ := bind_some' H
       refine K_reg [.r (B x64) []] [evF X k n_law19_awake [] [] = some ((B x64), [])] ⟨[(4, (B x64))], []⟩ (by kernel_rfl) (A1 (T_law19_awake_ok k x64 hx64)) ?_
       refine K_gh ⟨[(4, (B x64))], []⟩ (by kernel_rfl) ?_
       cases H
       refine K_ret ?_
       kernel_rfl
      | inr x65 =>
       dsimp only at H
       cases H
       refine K_loopr ⟨[(4, (B false))], []⟩ (loop_ok (fun (s : Int) => ⟨[(8, (I x4.1)), (12, (.one (.d (.list (x12.1.map e_st1))))), (14, (.one (.d (.list (x13.1.map e_st1))))), (16, (.one (.d (.list (x14.1.map e_st1))))), (18, (I ((w64 (p2)).tmod 700))), (110, (I (x12.1.length : Int))), (111, (I s))], []⟩) (fun (r : Unit ⊕ Unit) => Sum.elim (fun y => (.exit 0, ⟨[], []⟩)) (fun y => (.ret, ⟨[(4, (B false))], []⟩)) r) (fun r h => by cases r <;> cases h) (T_law19_WordRefines_l1_ok k x4.1 x12.1 x13.1 x14.1 ((w64 (p2)).tmod 700) (x12.1.length : Int)) k 0 (.inr x65) hx62) ?_
       kernel_rfl
end Go.Proofs.Ytdnegloonbanpaa.wordRefines
