/- What the functions that the statement PiecesAnswers reaches compute, told as functions of Lean, and that the theory's language computes the same: part 2 of 2. There are no conditions. -/
import Derived.Test.YtkiacebcedpljaaTPiecesAnswers0
set_option maxRecDepth 100000
set_option linter.unusedVariables false
set_option linter.unusedSimpArgs false
namespace Go.Proofs.Ytkiacebcedpljaa.piecesAnswers
open Go
def T_ref18_Fold_l1 (k : Nat) (p1 : List Int) (p2 : List Int) (x29 : Nat) (x30 : Int) (x33 : List Int) (x37 : Int × Int) : Option ((Int × Int) ⊕ Int) :=
  ((at? p2 x30).bind fun x38 => (if x37.2 < x38 then ((at? p1 x37.2).bind fun x40 => some (.inl ((w64 (x37.1 + x40)), (w64 (x37.2 + 1))))) else some (.inr x37.1)))
theorem T_ref18_Fold_l1_ok (k : Nat) (p1 : List Int) (p2 : List Int) (x29 : Nat) (x30 : Int) (x33 : List Int) : ∀ (x37 : Int × Int) (x : (Int × Int) ⊕ Int), T_ref18_Fold_l1 k p1 p2 x29 x30 x33 x37 = some x → evC X (evF X k) k 0 l_ref18_Fold_1 ⟨[(0, (.one (.d (.list (p1.map (D.int .i64)))))), (1, (.one (.d (.list (p2.map (D.int .i64)))))), (5, (.one (.own 0 0 x29))), (6, (I x30)), (7, (I x37.1)), (8, (I x37.2))], [.vals (.int .i64 0) (x33.map (D.int .i64))]⟩ = some (outS (fun (s : Int × Int) => ⟨[(0, (.one (.d (.list (p1.map (D.int .i64)))))), (1, (.one (.d (.list (p2.map (D.int .i64)))))), (5, (.one (.own 0 0 x29))), (6, (I x30)), (7, (I s.1)), (8, (I s.2))], [.vals (.int .i64 0) (x33.map (D.int .i64))]⟩) (fun (r : Int) => (.exit 2, ⟨[(0, (.one (.d (.list (p1.map (D.int .i64)))))), (1, (.one (.d (.list (p2.map (D.int .i64)))))), (5, (.one (.own 0 0 x29))), (6, (I x30)), (7, (I r))], [.vals (.int .i64 0) (x33.map (D.int .i64))]⟩)) x) := by
  intro x37 x H
  unfold T_ref18_Fold_l1 at H
  refine K_in ?_
  refine K_seq ?_
  refine K_seq ?_
  obtain ⟨x38, hx38, H⟩ := bind_some' H
  refine K_reg [.l [.int .i64 x38]] [(0 : Int) ≤ x30 ∧ x30 < (((p2.map (D.int .i64))).length : Int), ((p2.map (D.int .i64)).getD x30.toNat (.int .i64 0)).cells = [.int .i64 x38]] ⟨[(0, (.one (.d (.list (p1.map (D.int .i64)))))), (1, (.one (.d (.list (p2.map (D.int .i64)))))), (5, (.one (.own 0 0 x29))), (6, (I x30)), (7, (I x37.1)), (8, (I x37.2)), (25, (B (decide (x37.2 < x38))))], [.vals (.int .i64 0) (x33.map (D.int .i64))]⟩ (by kernel_rfl) (AC (at_ok hx38 (D.int .i64) (.int .i64 0)).1 (A1 (at_ok hx38 (D.int .i64) (.int .i64 0)).2)) ?_
  rcases ite_some H with ⟨hx39, H⟩ | ⟨hx39, H⟩
  · refine K_t rfl (decide_eq_true hx39) ?_
    refine K_gh ⟨[(0, (.one (.d (.list (p1.map (D.int .i64)))))), (1, (.one (.d (.list (p2.map (D.int .i64)))))), (5, (.one (.own 0 0 x29))), (6, (I x30)), (7, (I x37.1)), (8, (I x37.2))], [.vals (.int .i64 0) (x33.map (D.int .i64))]⟩ (by kernel_rfl) ?_
    refine K_skip ?_
    refine K_seq ?_
    refine K_block ?_
    obtain ⟨x40, hx40, H⟩ := bind_some' H
    refine K_reg [.l [.int .i64 x40]] [(0 : Int) ≤ x37.2 ∧ x37.2 < (((p1.map (D.int .i64))).length : Int), ((p1.map (D.int .i64)).getD x37.2.toNat (.int .i64 0)).cells = [.int .i64 x40]] ⟨[(0, (.one (.d (.list (p1.map (D.int .i64)))))), (1, (.one (.d (.list (p2.map (D.int .i64)))))), (5, (.one (.own 0 0 x29))), (6, (I x30)), (7, (I (w64 (x37.1 + x40)))), (8, (I x37.2))], [.vals (.int .i64 0) (x33.map (D.int .i64))]⟩ (by kernel_rfl) (AC (at_ok hx40 (D.int .i64) (.int .i64 0)).1 (A1 (at_ok hx40 (D.int .i64) (.int .i64 0)).2)) ?_
    refine K_blk ?_
    refine K_reg [] [] ⟨[(0, (.one (.d (.list (p1.map (D.int .i64)))))), (1, (.one (.d (.list (p2.map (D.int .i64)))))), (5, (.one (.own 0 0 x29))), (6, (I x30)), (7, (I (w64 (x37.1 + x40)))), (8, (I (w64 (x37.2 + 1))))], [.vals (.int .i64 0) (x33.map (D.int .i64))]⟩ (by kernel_rfl) trivial ?_
    cases H
    exact K_end rfl
  · refine K_f rfl (decide_eq_false hx39) ?_
    refine K_gh ⟨[(0, (.one (.d (.list (p1.map (D.int .i64)))))), (1, (.one (.d (.list (p2.map (D.int .i64)))))), (5, (.one (.own 0 0 x29))), (6, (I x30)), (7, (I x37.1))], [.vals (.int .i64 0) (x33.map (D.int .i64))]⟩ (by kernel_rfl) ?_
    cases H
    exact K_exit0 rfl rfl
def T_ref18_Fold_l2 (k : Nat) (p1 : List Int) (p2 : List Int) (x24 : Nat × Int × (List Int)) : Option ((Nat × Int × (List Int)) ⊕ ((Nat × (List Int)))) :=
  (if x24.2.1 < (p2.length : Int) then (at? p2 (w64 (x24.2.1 - 1))).bind fun x26 => (loopT (T_ref18_Fold_l1 k p1 p2 x24.1 x24.2.1 x24.2.2) k (0, x26)).bind fun x41 => (if x24.1 + 1 ≤ LIM then some (.inl ((x24.1 + 1), (w64 (x24.2.1 + 1)), ((x24.2.2.drop 0).take x24.1 ++ ([x41] : List Int)))) else none) else some (.inr (x24.1, x24.2.2)))
theorem T_ref18_Fold_l2_ok (k : Nat) (p1 : List Int) (p2 : List Int) : ∀ (x24 : Nat × Int × (List Int)) (x : (Nat × Int × (List Int)) ⊕ ((Nat × (List Int)))), T_ref18_Fold_l2 k p1 p2 x24 = some x → evC X (evF X k) k 0 l_ref18_Fold_2 ⟨[(0, (.one (.d (.list (p1.map (D.int .i64)))))), (1, (.one (.d (.list (p2.map (D.int .i64)))))), (5, (.one (.own 0 0 x24.1))), (6, (I x24.2.1))], [.vals (.int .i64 0) (x24.2.2.map (D.int .i64))]⟩ = some (outS (fun (s : Nat × Int × (List Int)) => ⟨[(0, (.one (.d (.list (p1.map (D.int .i64)))))), (1, (.one (.d (.list (p2.map (D.int .i64)))))), (5, (.one (.own 0 0 s.1))), (6, (I s.2.1))], [.vals (.int .i64 0) (s.2.2.map (D.int .i64))]⟩) (fun (r : (Nat × (List Int))) => (.exit 0, ⟨[(5, (.one (.own 0 0 r.1)))], [.vals (.int .i64 0) (r.2.map (D.int .i64))]⟩)) x) := by
  intro x24 x H
  unfold T_ref18_Fold_l2 at H
  refine K_in ?_
  refine K_seq ?_
  refine K_seq ?_
  refine K_reg [.n p2.length] [((p2.map (D.int .i64))).length = p2.length] ⟨[(0, (.one (.d (.list (p1.map (D.int .i64)))))), (1, (.one (.d (.list (p2.map (D.int .i64)))))), (5, (.one (.own 0 0 x24.1))), (6, (I x24.2.1)), (12, (B (decide (x24.2.1 < (p2.length : Int)))))], [.vals (.int .i64 0) (x24.2.2.map (D.int .i64))]⟩ (by kernel_rfl) (A1 (List.length_map _)) ?_
  rcases ite_some H with ⟨hx25, H⟩ | ⟨hx25, H⟩
  · refine K_t rfl (decide_eq_true hx25) ?_
    refine K_gh ⟨[(0, (.one (.d (.list (p1.map (D.int .i64)))))), (1, (.one (.d (.list (p2.map (D.int .i64)))))), (5, (.one (.own 0 0 x24.1))), (6, (I x24.2.1))], [.vals (.int .i64 0) (x24.2.2.map (D.int .i64))]⟩ (by kernel_rfl) ?_
    refine K_skip ?_
    refine K_seq ?_
    refine K_block ?_
    refine K_seq ?_
    refine K_reg [] [] ⟨[(0, (.one (.d (.list (p1.map (D.int .i64)))))), (1, (.one (.d (.list (p2.map (D.int .i64)))))), (5, (.one (.own 0 0 x24.1))), (6, (I x24.2.1)), (7, (I 0))], [.vals (.int .i64 0) (x24.2.2.map (D.int .i64))]⟩ (by kernel_rfl) trivial ?_
    refine K_seq ?_
    refine K_seq ?_
    obtain ⟨x26, hx26, H⟩ := bind_some' H
    refine K_reg [.l [.int .i64 x26]] [(0 : Int) ≤ (w64 (x24.2.1 - 1)) ∧ (w64 (x24.2.1 - 1)) < (((p2.map (D.int .i64))).length : Int), ((p2.map (D.int .i64)).getD (w64 (x24.2.1 - 1)).toNat (.int .i64 0)).cells = [.int .i64 x26]] ⟨[(0, (.one (.d (.list (p1.map (D.int .i64)))))), (1, (.one (.d (.list (p2.map (D.int .i64)))))), (5, (.one (.own 0 0 x24.1))), (6, (I x24.2.1)), (7, (I 0)), (8, (I x26))], [.vals (.int .i64 0) (x24.2.2.map (D.int .i64))]⟩ (by kernel_rfl) (AC (at_ok hx26 (D.int .i64) (.int .i64 0)).1 (A1 (at_ok hx26 (D.int .i64) (.int .i64 0)).2)) ?_
    refine K_block ?_
    obtain ⟨x41, hx41, H⟩ := bind_some' H
    refine K_loop ⟨[(0, (.one (.d (.list (p1.map (D.int .i64)))))), (1, (.one (.d (.list (p2.map (D.int .i64)))))), (5, (.one (.own 0 0 x24.1))), (6, (I x24.2.1)), (7, (I x41))], [.vals (.int .i64 0) (x24.2.2.map (D.int .i64))]⟩ (loop_ok (fun (s : Int × Int) => ⟨[(0, (.one (.d (.list (p1.map (D.int .i64)))))), (1, (.one (.d (.list (p2.map (D.int .i64)))))), (5, (.one (.own 0 0 x24.1))), (6, (I x24.2.1)), (7, (I s.1)), (8, (I s.2))], [.vals (.int .i64 0) (x24.2.2.map (D.int .i64))]⟩) (fun (r : Int) => (.exit 2, ⟨[(0, (.one (.d (.list (p1.map (D.int .i64)))))), (1, (.one (.d (.list (p2.map (D.int .i64)))))), (5, (.one (.own 0 0 x24.1))), (6, (I x24.2.1)), (7, (I r))], [.vals (.int .i64 0) (x24.2.2.map (D.int .i64))]⟩)) (fun r h => by cases h) (T_ref18_Fold_l1_ok k p1 p2 x24.1 x24.2.1 x24.2.2) k (0, x26) x41 hx41) rfl ?_
    obtain ⟨hx42, H⟩ := guard_some H
    refine K_reg [.n 1, .l (((x24.2.2.drop 0).take x24.1 ++ ([x41] : List Int)).map (D.int .i64))] [(List.all (([x41] : List Int).map (D.int .i64)) fun d => d.cells.length == (D.cells (.int .i64 0)).length) = true, x24.1 + 1 ≤ LIM, (([x41] : List Int).map (D.int .i64)).length = 1, ((x24.2.2.map (D.int .i64)).drop 0).take x24.1 ++ (([x41] : List Int).map (D.int .i64)) = ((x24.2.2.drop 0).take x24.1 ++ ([x41] : List Int)).map (D.int .i64)] ⟨[(0, (.one (.d (.list (p1.map (D.int .i64)))))), (1, (.one (.d (.list (p2.map (D.int .i64)))))), (5, (.one (.own 0 0 (x24.1 + 1)))), (6, (I x24.2.1))], [.vals (.int .i64 0) (((x24.2.2.drop 0).take x24.1 ++ ([x41] : List Int)).map (D.int .i64))]⟩ (by kernel_rfl) (AC (all_ok (D.int .i64) 1 ([x41] : List Int) (fun _ => rfl)) (AC hx42 (AC (by simp) (A1 (ap_map (D.int .i64) x24.2.2 ([x41] : List Int) 0 x24.1))))) ?_
    refine K_blk ?_
    refine K_reg [] [] ⟨[(0, (.one (.d (.list (p1.map (D.int .i64)))))), (1, (.one (.d (.list (p2.map (D.int .i64)))))), (5, (.one (.own 0 0 (x24.1 + 1)))), (6, (I (w64 (x24.2.1 + 1))))], [.vals (.int .i64 0) (((x24.2.2.drop 0).take x24.1 ++ ([x41] : List Int)).map (D.int .i64))]⟩ (by kernel_rfl) trivial ?_
    cases H
    exact K_end rfl
  · refine K_f rfl (decide_eq_false hx25) ?_
    refine K_gh ⟨[(5, (.one (.own 0 0 x24.1)))], [.vals (.int .i64 0) (x24.2.2.map (D.int .i64))]⟩ (by kernel_rfl) ?_
    cases H
    exact K_exit0 rfl rfl
def T_ref18_Fold (k : Nat) (p1 : List Int) (p2 : List Int) : Option ((List Int)) := match k with
  | 0 => none
  | k + 1 => ((loopT (T_ref18_Fold_l2 k p1 p2) k (0, 1, [])).bind fun x43 => some ((x43.2.drop 0).take x43.1))
theorem T_ref18_Fold_ok (k : Nat) (p1 : List Int) (p2 : List Int) (r : (List Int)) : T_ref18_Fold k p1 p2 = some r → evF X k n_ref18_Fold [(.one (.d (.list (p1.map (D.int .i64))))), (.one (.d (.list (p2.map (D.int .i64)))))] [] = some ((.one (.d (.list (r.map (D.int .i64))))), []) := by
  intro H
  cases k with
  | zero => simp [T_ref18_Fold] at H
  | succ k =>
    simp only [T_ref18_Fold] at H
    refine F_in X_ref18_Fold rfl ?_
    refine K_seq ?_
    refine K_reg [] [] ⟨[(0, (.one (.d (.list (p1.map (D.int .i64)))))), (1, (.one (.d (.list (p2.map (D.int .i64))))))], []⟩ (by kernel_rfl) trivial ?_
    refine K_seq ?_
    refine K_reg [] [] ⟨[(0, (.one (.d (.list (p1.map (D.int .i64)))))), (1, (.one (.d (.list (p2.map (D.int .i64)))))), (5, (.one (.nil)))], []⟩ (by kernel_rfl) trivial ?_
    refine K_seq ?_
    refine K_seq ?_
    refine K_reg [] [] ⟨[(0, (.one (.d (.list (p1.map (D.int .i64)))))), (1, (.one (.d (.list (p2.map (D.int .i64)))))), (5, (.one (.nil))), (6, (I 1))], []⟩ (by kernel_rfl) trivial ?_
    refine K_block ?_
    refine K_gh ⟨[(0, (.one (.d (.list (p1.map (D.int .i64)))))), (1, (.one (.d (.list (p2.map (D.int .i64)))))), (5, (.one (.own 0 0 0))), (6, (I 1))], [.vals (.int .i64 0) ([].map (D.int .i64))]⟩ (by kernel_rfl) ?_
    obtain ⟨x43, hx43, H⟩ := bind_some' H
    refine K_loop ⟨[(5, (.one (.own 0 0 x43.1)))], [.vals (.int .i64 0) (x43.2.map (D.int .i64))]⟩ (loop_ok (fun (s : Nat × Int × (List Int)) => ⟨[(0, (.one (.d (.list (p1.map (D.int .i64)))))), (1, (.one (.d (.list (p2.map (D.int .i64)))))), (5, (.one (.own 0 0 s.1))), (6, (I s.2.1))], [.vals (.int .i64 0) (s.2.2.map (D.int .i64))]⟩) (fun (r : (Nat × (List Int))) => (.exit 0, ⟨[(5, (.one (.own 0 0 r.1)))], [.vals (.int .i64 0) (r.2.map (D.int .i64))]⟩)) (fun r h => by cases h) (T_ref18_Fold_l2_ok k p1 p2) k (0, 1, []) x43 hx43) rfl ?_
    refine K_seq ?_
    refine K_reg [] [] ⟨[(4, (.one (.own 0 0 x43.1)))], [.vals (.int .i64 0) (x43.2.map (D.int .i64))]⟩ (by kernel_rfl) trivial ?_
    refine K_gh ⟨[(4, (.one (.own 0 0 x43.1)))], [.vals (.int .i64 0) (x43.2.map (D.int .i64))]⟩ (by kernel_rfl) ?_
    cases H
    refine K_ret ?_
    exact Eq.trans (b := some ((.one (.d (.list (((x43.2.map (D.int .i64)).drop 0).take x43.1)))), [])) (by kernel_rfl) (by simp only [dt_map])
def T_ref18_Sums (k : Nat) (p1 : List Int) (p2 : Int) : Option ((List Int) × Int) := match k with
  | 0 => none
  | k + 1 => ((T_ref12_Window k p1).bind fun x1 => (if (!decide (x1 = 0)) = true then some ([], x1) else ((T_ref18_Starts k (p1.length : Int) p2).bind fun x3 => (if (!decide (x3.2 = 0)) = true then some ([], x3.2) else ((T_ref18_Fold k p1 x3.1).bind fun x5 => some (x5, 0))))))
theorem T_ref18_Sums_ok (k : Nat) (p1 : List Int) (p2 : Int) (r : (List Int) × Int) : T_ref18_Sums k p1 p2 = some r → evF X k n_ref18_Sums [(.one (.d (.list (p1.map (D.int .i64))))), (I p2)] [] = some ((.tup [(false, [.d (.list (r.1.map (D.int .i64)))]), (false, [.d (.int .i64 r.2)])]), []) := by
  intro H
  cases k with
  | zero => simp [T_ref18_Sums] at H
  | succ k =>
    simp only [T_ref18_Sums] at H
    refine F_in X_ref18_Sums rfl ?_
    refine K_seq ?_
    refine K_reg [] [] ⟨[(0, (.one (.d (.list (p1.map (D.int .i64)))))), (1, (I p2))], []⟩ (by kernel_rfl) trivial ?_
    refine K_seq ?_
    refine K_seq ?_
    obtain ⟨x1, hx1, H⟩ := bind_some' H
    refine K_reg [.r (I x1) []] [evF X k n_ref12_Window [(.one (.d (.list (p1.map (D.int .i64)))))] [] = some ((I x1), [])] ⟨[(0, (.one (.d (.list (p1.map (D.int .i64)))))), (1, (I p2)), (6, (I x1))], []⟩ (by kernel_rfl) (A1 (T_ref12_Window_ok k p1 x1 hx1)) ?_
    refine K_seq ?_
    refine K_reg [] [] ⟨[(0, (.one (.d (.list (p1.map (D.int .i64)))))), (1, (I p2)), (6, (I x1)), (12, (B (!decide (x1 = 0))))], []⟩ (by kernel_rfl) trivial ?_
    rcases ite_some H with ⟨hx2, H⟩ | ⟨hx2, H⟩
    · refine K_t rfl hx2 ?_
      refine K_seq ?_
      refine K_reg [] [] ⟨[(4, (.one (.nil))), (5, (I x1))], []⟩ (by kernel_rfl) trivial ?_
      refine K_gh ⟨[(4, (.one (.nil))), (5, (I x1))], []⟩ (by kernel_rfl) ?_
      cases H
      refine K_ret ?_
      kernel_rfl
    · refine K_f rfl (Bool.eq_false_iff.2 hx2) ?_
      refine K_gh ⟨[(0, (.one (.d (.list (p1.map (D.int .i64)))))), (1, (I p2))], []⟩ (by kernel_rfl) ?_
      refine K_skip ?_
      refine K_seq ?_
      obtain ⟨x3, hx3, H⟩ := bind_some' H
      refine K_reg [.n p1.length, .r (.tup [(false, [.d (.list (x3.1.map (D.int .i64)))]), (false, [.d (.int .i64 x3.2)])]) []] [((p1.map (D.int .i64))).length = p1.length, evF X k n_ref18_Starts [(I (p1.length : Int)), (I p2)] [] = some ((.tup [(false, [.d (.list (x3.1.map (D.int .i64)))]), (false, [.d (.int .i64 x3.2)])]), [])] ⟨[(0, (.one (.d (.list (p1.map (D.int .i64)))))), (7, (.one (.d (.list (x3.1.map (D.int .i64)))))), (8, (I x3.2))], []⟩ (by kernel_rfl) (AC (List.length_map _) (A1 (T_ref18_Starts_ok k (p1.length : Int) p2 x3 hx3))) ?_
      refine K_seq ?_
      refine K_seq ?_
      refine K_reg [] [] ⟨[(0, (.one (.d (.list (p1.map (D.int .i64)))))), (7, (.one (.d (.list (x3.1.map (D.int .i64)))))), (8, (I x3.2)), (22, (B (!decide (x3.2 = 0))))], []⟩ (by kernel_rfl) trivial ?_
      rcases ite_some H with ⟨hx4, H⟩ | ⟨hx4, H⟩
      · refine K_t rfl hx4 ?_
        refine K_seq ?_
        refine K_reg [] [] ⟨[(4, (.one (.nil))), (5, (I x3.2))], []⟩ (by kernel_rfl) trivial ?_
        refine K_gh ⟨[(4, (.one (.nil))), (5, (I x3.2))], []⟩ (by kernel_rfl) ?_
        cases H
        refine K_ret ?_
        kernel_rfl
      · refine K_f rfl (Bool.eq_false_iff.2 hx4) ?_
        refine K_gh ⟨[(0, (.one (.d (.list (p1.map (D.int .i64)))))), (7, (.one (.d (.list (x3.1.map (D.int .i64))))))], []⟩ (by kernel_rfl) ?_
        refine K_skip ?_
        refine K_seq ?_
        obtain ⟨x5, hx5, H⟩ := bind_some' H
        refine K_reg [.r (.one (.d (.list (x5.map (D.int .i64))))) []] [evF X k n_ref18_Fold [(.one (.d (.list (p1.map (D.int .i64))))), (.one (.d (.list (x3.1.map (D.int .i64)))))] [] = some ((.one (.d (.list (x5.map (D.int .i64))))), [])] ⟨[(4, (.one (.d (.list (x5.map (D.int .i64)))))), (5, (I 0))], []⟩ (by kernel_rfl) (A1 (T_ref18_Fold_ok k p1 x3.1 x5 hx5)) ?_
        refine K_gh ⟨[(4, (.one (.d (.list (x5.map (D.int .i64)))))), (5, (I 0))], []⟩ (by kernel_rfl) ?_
        cases H
        refine K_ret ?_
        kernel_rfl
def T_ref13_Centred_l1 (k : Nat) (p1 : List Int) (x5 : Int) (x9 : Int × Int) : Option ((Int × Int) ⊕ Int) :=
  (if x9.2 < x5 then ((at? p1 x9.2).bind fun x11 => some (.inl ((w64 (x9.1 + x11)), (w64 (x9.2 + 1))))) else some (.inr x9.1))
theorem T_ref13_Centred_l1_ok (k : Nat) (p1 : List Int) (x5 : Int) : ∀ (x9 : Int × Int) (x : (Int × Int) ⊕ Int), T_ref13_Centred_l1 k p1 x5 x9 = some x → evC X (evF X k) k 0 l_ref13_Centred_1 ⟨[(0, (.one (.d (.list (p1.map (D.int .i64)))))), (5, (I x9.1)), (15, (I x5)), (16, (I x9.2))], []⟩ = some (outS (fun (s : Int × Int) => ⟨[(0, (.one (.d (.list (p1.map (D.int .i64)))))), (5, (I s.1)), (15, (I x5)), (16, (I s.2))], []⟩) (fun (r : Int) => (.exit 0, ⟨[(0, (.one (.d (.list (p1.map (D.int .i64)))))), (5, (I r))], []⟩)) x) := by
  intro x9 x H
  unfold T_ref13_Centred_l1 at H
  refine K_in ?_
  refine K_seq ?_
  refine K_reg [] [] ⟨[(0, (.one (.d (.list (p1.map (D.int .i64)))))), (5, (I x9.1)), (15, (I x5)), (16, (I x9.2)), (17, (B (decide (x9.2 < x5))))], []⟩ (by kernel_rfl) trivial ?_
  refine K_seq ?_
  rcases ite_some H with ⟨hx10, H⟩ | ⟨hx10, H⟩
  · refine K_t rfl (decide_eq_true hx10) ?_
    refine K_gh ⟨[(0, (.one (.d (.list (p1.map (D.int .i64)))))), (5, (I x9.1)), (15, (I x5)), (16, (I x9.2))], []⟩ (by kernel_rfl) ?_
    refine K_skip ?_
    refine K_seq ?_
    refine K_block ?_
    refine K_seq ?_
    refine K_reg [] [] ⟨[(0, (.one (.d (.list (p1.map (D.int .i64)))))), (5, (I x9.1)), (6, (I x9.2)), (15, (I x5)), (16, (I x9.2))], []⟩ (by kernel_rfl) trivial ?_
    obtain ⟨x11, hx11, H⟩ := bind_some' H
    refine K_reg [.l [.int .i64 x11]] [(0 : Int) ≤ x9.2 ∧ x9.2 < (((p1.map (D.int .i64))).length : Int), ((p1.map (D.int .i64)).getD x9.2.toNat (.int .i64 0)).cells = [.int .i64 x11]] ⟨[(0, (.one (.d (.list (p1.map (D.int .i64)))))), (5, (I (w64 (x9.1 + x11)))), (15, (I x5)), (16, (I x9.2))], []⟩ (by kernel_rfl) (AC (at_ok hx11 (D.int .i64) (.int .i64 0)).1 (A1 (at_ok hx11 (D.int .i64) (.int .i64 0)).2)) ?_
    refine K_blk ?_
    refine K_reg [] [] ⟨[(0, (.one (.d (.list (p1.map (D.int .i64)))))), (5, (I (w64 (x9.1 + x11)))), (15, (I x5)), (16, (I (w64 (x9.2 + 1))))], []⟩ (by kernel_rfl) trivial ?_
    cases H
    exact K_end rfl
  · refine K_f rfl (decide_eq_false hx10) ?_
    refine K_gh ⟨[(0, (.one (.d (.list (p1.map (D.int .i64)))))), (5, (I x9.1))], []⟩ (by kernel_rfl) ?_
    cases H
    exact K_exit0 rfl rfl
def T_ref13_Centred_l2 (k : Nat) (p1 : List Int) (x12 : Int) (x16 : Int) (x22 : Nat × Int × (List Int)) : Option ((Nat × Int × (List Int)) ⊕ ((Nat × (List Int)))) :=
  (if x22.2.1 < x16 then (at? p1 x22.2.1).bind fun x24 => (if x22.1 + 1 ≤ LIM then some (.inl ((x22.1 + 1), (w64 (x22.2.1 + 1)), ((x22.2.2.drop 0).take x22.1 ++ ([(w64 ((w64 ((p1.length : Int) * x24)) - x12))] : List Int)))) else none) else some (.inr (x22.1, x22.2.2)))
theorem T_ref13_Centred_l2_ok (k : Nat) (p1 : List Int) (x12 : Int) (x16 : Int) : ∀ (x22 : Nat × Int × (List Int)) (x : (Nat × Int × (List Int)) ⊕ ((Nat × (List Int)))), T_ref13_Centred_l2 k p1 x12 x16 x22 = some x → evC X (evF X k) k 0 l_ref13_Centred_2 ⟨[(0, (.one (.d (.list (p1.map (D.int .i64)))))), (5, (I x12)), (7, (.one (.own 0 0 x22.1))), (27, (I x16)), (28, (I x22.2.1))], [.vals (.int .i64 0) (x22.2.2.map (D.int .i64))]⟩ = some (outS (fun (s : Nat × Int × (List Int)) => ⟨[(0, (.one (.d (.list (p1.map (D.int .i64)))))), (5, (I x12)), (7, (.one (.own 0 0 s.1))), (27, (I x16)), (28, (I s.2.1))], [.vals (.int .i64 0) (s.2.2.map (D.int .i64))]⟩) (fun (r : (Nat × (List Int))) => (.exit 2, ⟨[(7, (.one (.own 0 0 r.1)))], [.vals (.int .i64 0) (r.2.map (D.int .i64))]⟩)) x) := by
  intro x22 x H
  unfold T_ref13_Centred_l2 at H
  refine K_in ?_
  refine K_seq ?_
  refine K_reg [] [] ⟨[(0, (.one (.d (.list (p1.map (D.int .i64)))))), (5, (I x12)), (7, (.one (.own 0 0 x22.1))), (27, (I x16)), (28, (I x22.2.1)), (29, (B (decide (x22.2.1 < x16))))], [.vals (.int .i64 0) (x22.2.2.map (D.int .i64))]⟩ (by kernel_rfl) trivial ?_
  refine K_seq ?_
  rcases ite_some H with ⟨hx23, H⟩ | ⟨hx23, H⟩
  · refine K_t rfl (decide_eq_true hx23) ?_
    refine K_gh ⟨[(0, (.one (.d (.list (p1.map (D.int .i64)))))), (5, (I x12)), (7, (.one (.own 0 0 x22.1))), (27, (I x16)), (28, (I x22.2.1))], [.vals (.int .i64 0) (x22.2.2.map (D.int .i64))]⟩ (by kernel_rfl) ?_
    refine K_skip ?_
    refine K_seq ?_
    refine K_block ?_
    refine K_seq ?_
    refine K_reg [] [] ⟨[(0, (.one (.d (.list (p1.map (D.int .i64)))))), (5, (I x12)), (7, (.one (.own 0 0 x22.1))), (8, (I x22.2.1)), (27, (I x16)), (28, (I x22.2.1))], [.vals (.int .i64 0) (x22.2.2.map (D.int .i64))]⟩ (by kernel_rfl) trivial ?_
    obtain ⟨x24, hx24, H⟩ := bind_some' H
    obtain ⟨hx25, H⟩ := guard_some H
    refine K_reg [.n p1.length, .l [.int .i64 x24], .n 1, .l (((x22.2.2.drop 0).take x22.1 ++ ([(w64 ((w64 ((p1.length : Int) * x24)) - x12))] : List Int)).map (D.int .i64))] [((p1.map (D.int .i64))).length = p1.length, (0 : Int) ≤ x22.2.1 ∧ x22.2.1 < (((p1.map (D.int .i64))).length : Int), ((p1.map (D.int .i64)).getD x22.2.1.toNat (.int .i64 0)).cells = [.int .i64 x24], (List.all (([(w64 ((w64 ((p1.length : Int) * x24)) - x12))] : List Int).map (D.int .i64)) fun d => d.cells.length == (D.cells (.int .i64 0)).length) = true, x22.1 + 1 ≤ LIM, (([(w64 ((w64 ((p1.length : Int) * x24)) - x12))] : List Int).map (D.int .i64)).length = 1, ((x22.2.2.map (D.int .i64)).drop 0).take x22.1 ++ (([(w64 ((w64 ((p1.length : Int) * x24)) - x12))] : List Int).map (D.int .i64)) = ((x22.2.2.drop 0).take x22.1 ++ ([(w64 ((w64 ((p1.length : Int) * x24)) - x12))] : List Int)).map (D.int .i64)] ⟨[(0, (.one (.d (.list (p1.map (D.int .i64)))))), (5, (I x12)), (7, (.one (.own 0 0 (x22.1 + 1)))), (27, (I x16)), (28, (I x22.2.1))], [.vals (.int .i64 0) (((x22.2.2.drop 0).take x22.1 ++ ([(w64 ((w64 ((p1.length : Int) * x24)) - x12))] : List Int)).map (D.int .i64))]⟩ (by kernel_rfl) (AC (List.length_map _) (AC (at_ok hx24 (D.int .i64) (.int .i64 0)).1 (AC (at_ok hx24 (D.int .i64) (.int .i64 0)).2 (AC (all_ok (D.int .i64) 1 ([(w64 ((w64 ((p1.length : Int) * x24)) - x12))] : List Int) (fun _ => rfl)) (AC hx25 (AC (by simp) (A1 (ap_map (D.int .i64) x22.2.2 ([(w64 ((w64 ((p1.length : Int) * x24)) - x12))] : List Int) 0 x22.1)))))))) ?_
    refine K_blk ?_
    refine K_reg [] [] ⟨[(0, (.one (.d (.list (p1.map (D.int .i64)))))), (5, (I x12)), (7, (.one (.own 0 0 (x22.1 + 1)))), (27, (I x16)), (28, (I (w64 (x22.2.1 + 1))))], [.vals (.int .i64 0) (((x22.2.2.drop 0).take x22.1 ++ ([(w64 ((w64 ((p1.length : Int) * x24)) - x12))] : List Int)).map (D.int .i64))]⟩ (by kernel_rfl) trivial ?_
    cases H
    exact K_end rfl
  · refine K_f rfl (decide_eq_false hx23) ?_
    refine K_gh ⟨[(7, (.one (.own 0 0 x22.1)))], [.vals (.int .i64 0) (x22.2.2.map (D.int .i64))]⟩ (by kernel_rfl) ?_
    cases H
    exact K_exit0 rfl rfl
def T_ref13_Centred (k : Nat) (p1 : List Int) : Option ((List Int) × Int) := match k with
  | 0 => none
  | k + 1 => ((T_ref12_Window k p1).bind fun x1 => (if (!decide (x1 = 0)) = true then some ([], x1) else ((loopT (T_ref13_Centred_l1 k p1 (p1.length : Int)) k (0, 0)).bind fun x12 => (loopT (T_ref13_Centred_l2 k p1 x12 (p1.length : Int)) k (0, 0, [])).bind fun x26 => some (((x26.2.drop 0).take x26.1), 0))))
theorem T_ref13_Centred_ok (k : Nat) (p1 : List Int) (r : (List Int) × Int) : T_ref13_Centred k p1 = some r → evF X k n_ref13_Centred [(.one (.d (.list (p1.map (D.int .i64)))))] [] = some ((.tup [(false, [.d (.list (r.1.map (D.int .i64)))]), (false, [.d (.int .i64 r.2)])]), []) := by
  intro H
  cases k with
  | zero => simp [T_ref13_Centred] at H
  | succ k =>
    simp only [T_ref13_Centred] at H
    refine F_in X_ref13_Centred rfl ?_
    refine K_seq ?_
    refine K_reg [] [] ⟨[(0, (.one (.d (.list (p1.map (D.int .i64))))))], []⟩ (by kernel_rfl) trivial ?_
    refine K_seq ?_
    refine K_seq ?_
    obtain ⟨x1, hx1, H⟩ := bind_some' H
    refine K_reg [.r (I x1) []] [evF X k n_ref12_Window [(.one (.d (.list (p1.map (D.int .i64)))))] [] = some ((I x1), [])] ⟨[(0, (.one (.d (.list (p1.map (D.int .i64)))))), (4, (I x1))], []⟩ (by kernel_rfl) (A1 (T_ref12_Window_ok k p1 x1 hx1)) ?_
    refine K_seq ?_
    refine K_reg [] [] ⟨[(0, (.one (.d (.list (p1.map (D.int .i64)))))), (4, (I x1)), (12, (B (!decide (x1 = 0))))], []⟩ (by kernel_rfl) trivial ?_
    rcases ite_some H with ⟨hx2, H⟩ | ⟨hx2, H⟩
    · refine K_t rfl hx2 ?_
      refine K_seq ?_
      refine K_reg [] [] ⟨[(2, (.one (.nil))), (3, (I x1))], []⟩ (by kernel_rfl) trivial ?_
      refine K_gh ⟨[(2, (.one (.nil))), (3, (I x1))], []⟩ (by kernel_rfl) ?_
      cases H
      refine K_ret ?_
      kernel_rfl
    · refine K_f rfl (Bool.eq_false_iff.2 hx2) ?_
      refine K_gh ⟨[(0, (.one (.d (.list (p1.map (D.int .i64))))))], []⟩ (by kernel_rfl) ?_
      refine K_skip ?_
      refine K_seq ?_
      refine K_reg [] [] ⟨[(0, (.one (.d (.list (p1.map (D.int .i64)))))), (5, (I 0))], []⟩ (by kernel_rfl) trivial ?_
      refine K_seq ?_
      refine K_seq ?_
      refine K_reg [.n p1.length] [((p1.map (D.int .i64))).length = p1.length] ⟨[(0, (.one (.d (.list (p1.map (D.int .i64)))))), (5, (I 0)), (15, (I (p1.length : Int))), (16, (I 0))], []⟩ (by kernel_rfl) (A1 (List.length_map _)) ?_
      refine K_block ?_
      obtain ⟨x12, hx12, H⟩ := bind_some' H
      refine K_loop ⟨[(0, (.one (.d (.list (p1.map (D.int .i64)))))), (5, (I x12))], []⟩ (loop_ok (fun (s : Int × Int) => ⟨[(0, (.one (.d (.list (p1.map (D.int .i64)))))), (5, (I s.1)), (15, (I (p1.length : Int))), (16, (I s.2))], []⟩) (fun (r : Int) => (.exit 0, ⟨[(0, (.one (.d (.list (p1.map (D.int .i64)))))), (5, (I r))], []⟩)) (fun r h => by cases h) (T_ref13_Centred_l1_ok k p1 (p1.length : Int)) k (0, 0) x12 hx12) rfl ?_
      refine K_seq ?_
      refine K_reg [] [] ⟨[(0, (.one (.d (.list (p1.map (D.int .i64)))))), (5, (I x12)), (7, (.one (.nil)))], []⟩ (by kernel_rfl) trivial ?_
      refine K_seq ?_
      refine K_seq ?_
      refine K_reg [.n p1.length] [((p1.map (D.int .i64))).length = p1.length] ⟨[(0, (.one (.d (.list (p1.map (D.int .i64)))))), (5, (I x12)), (7, (.one (.nil))), (27, (I (p1.length : Int))), (28, (I 0))], []⟩ (by kernel_rfl) (A1 (List.length_map _)) ?_
      refine K_block ?_
      refine K_gh ⟨[(0, (.one (.d (.list (p1.map (D.int .i64)))))), (5, (I x12)), (7, (.one (.own 0 0 0))), (27, (I (p1.length : Int))), (28, (I 0))], [.vals (.int .i64 0) ([].map (D.int .i64))]⟩ (by kernel_rfl) ?_
      obtain ⟨x26, hx26, H⟩ := bind_some' H
      refine K_loop ⟨[(7, (.one (.own 0 0 x26.1)))], [.vals (.int .i64 0) (x26.2.map (D.int .i64))]⟩ (loop_ok (fun (s : Nat × Int × (List Int)) => ⟨[(0, (.one (.d (.list (p1.map (D.int .i64)))))), (5, (I x12)), (7, (.one (.own 0 0 s.1))), (27, (I (p1.length : Int))), (28, (I s.2.1))], [.vals (.int .i64 0) (s.2.2.map (D.int .i64))]⟩) (fun (r : (Nat × (List Int))) => (.exit 2, ⟨[(7, (.one (.own 0 0 r.1)))], [.vals (.int .i64 0) (r.2.map (D.int .i64))]⟩)) (fun r h => by cases h) (T_ref13_Centred_l2_ok k p1 x12 (p1.length : Int)) k (0, 0, []) x26 hx26) rfl ?_
      refine K_seq ?_
      refine K_reg [] [] ⟨[(2, (.one (.own 0 0 x26.1))), (3, (I 0))], [.vals (.int .i64 0) (x26.2.map (D.int .i64))]⟩ (by kernel_rfl) trivial ?_
      refine K_gh ⟨[(2, (.one (.own 0 0 x26.1))), (3, (I 0))], [.vals (.int .i64 0) (x26.2.map (D.int .i64))]⟩ (by kernel_rfl) ?_
      cases H
      refine K_ret ?_
      exact Eq.trans (b := some ((.tup [(false, [.d (.list (((x26.2.map (D.int .i64)).drop 0).take x26.1))]), (false, [.d (.int .i64 0)])]), [])) (by kernel_rfl) (by simp only [dt_map])
def T_ref18_Centred (k : Nat) (p1 : List Int) (p2 : Int) : Option ((List Int) × Int) := match k with
  | 0 => none
  | k + 1 => ((T_ref13_Centred k p1).bind fun x1 => (if (!decide (x1.2 = 0)) = true then some ([], x1.2) else ((T_ref18_Starts k (p1.length : Int) p2).bind fun x3 => (if (!decide (x3.2 = 0)) = true then some ([], x3.2) else ((T_ref18_Fold k x1.1 x3.1).bind fun x5 => some (x5, 0))))))
theorem T_ref18_Centred_ok (k : Nat) (p1 : List Int) (p2 : Int) (r : (List Int) × Int) : T_ref18_Centred k p1 p2 = some r → evF X k n_ref18_Centred [(.one (.d (.list (p1.map (D.int .i64))))), (I p2)] [] = some ((.tup [(false, [.d (.list (r.1.map (D.int .i64)))]), (false, [.d (.int .i64 r.2)])]), []) := by
  intro H
  cases k with
  | zero => simp [T_ref18_Centred] at H
  | succ k =>
    simp only [T_ref18_Centred] at H
    refine F_in X_ref18_Centred rfl ?_
    refine K_seq ?_
    refine K_reg [] [] ⟨[(0, (.one (.d (.list (p1.map (D.int .i64)))))), (1, (I p2))], []⟩ (by kernel_rfl) trivial ?_
    refine K_seq ?_
    obtain ⟨x1, hx1, H⟩ := bind_some' H
    refine K_reg [.r (.tup [(false, [.d (.list (x1.1.map (D.int .i64)))]), (false, [.d (.int .i64 x1.2)])]) []] [evF X k n_ref13_Centred [(.one (.d (.list (p1.map (D.int .i64)))))] [] = some ((.tup [(false, [.d (.list (x1.1.map (D.int .i64)))]), (false, [.d (.int .i64 x1.2)])]), [])] ⟨[(0, (.one (.d (.list (p1.map (D.int .i64)))))), (1, (I p2)), (6, (.one (.d (.list (x1.1.map (D.int .i64)))))), (7, (I x1.2))], []⟩ (by kernel_rfl) (A1 (T_ref13_Centred_ok k p1 x1 hx1)) ?_
    refine K_seq ?_
    refine K_seq ?_
    refine K_reg [] [] ⟨[(0, (.one (.d (.list (p1.map (D.int .i64)))))), (1, (I p2)), (6, (.one (.d (.list (x1.1.map (D.int .i64)))))), (7, (I x1.2)), (15, (B (!decide (x1.2 = 0))))], []⟩ (by kernel_rfl) trivial ?_
    rcases ite_some H with ⟨hx2, H⟩ | ⟨hx2, H⟩
    · refine K_t rfl hx2 ?_
      refine K_seq ?_
      refine K_reg [] [] ⟨[(4, (.one (.nil))), (5, (I x1.2))], []⟩ (by kernel_rfl) trivial ?_
      refine K_gh ⟨[(4, (.one (.nil))), (5, (I x1.2))], []⟩ (by kernel_rfl) ?_
      cases H
      refine K_ret ?_
      kernel_rfl
    · refine K_f rfl (Bool.eq_false_iff.2 hx2) ?_
      refine K_gh ⟨[(0, (.one (.d (.list (p1.map (D.int .i64)))))), (1, (I p2)), (6, (.one (.d (.list (x1.1.map (D.int .i64))))))], []⟩ (by kernel_rfl) ?_
      refine K_skip ?_
      refine K_seq ?_
      obtain ⟨x3, hx3, H⟩ := bind_some' H
      refine K_reg [.n p1.length, .r (.tup [(false, [.d (.list (x3.1.map (D.int .i64)))]), (false, [.d (.int .i64 x3.2)])]) []] [((p1.map (D.int .i64))).length = p1.length, evF X k n_ref18_Starts [(I (p1.length : Int)), (I p2)] [] = some ((.tup [(false, [.d (.list (x3.1.map (D.int .i64)))]), (false, [.d (.int .i64 x3.2)])]), [])] ⟨[(6, (.one (.d (.list (x1.1.map (D.int .i64)))))), (7, (I x3.2)), (8, (.one (.d (.list (x3.1.map (D.int .i64))))))], []⟩ (by kernel_rfl) (AC (List.length_map _) (A1 (T_ref18_Starts_ok k (p1.length : Int) p2 x3 hx3))) ?_
      refine K_seq ?_
      refine K_seq ?_
      refine K_reg [] [] ⟨[(6, (.one (.d (.list (x1.1.map (D.int .i64)))))), (7, (I x3.2)), (8, (.one (.d (.list (x3.1.map (D.int .i64)))))), (25, (B (!decide (x3.2 = 0))))], []⟩ (by kernel_rfl) trivial ?_
      rcases ite_some H with ⟨hx4, H⟩ | ⟨hx4, H⟩
      · refine K_t rfl hx4 ?_
        refine K_seq ?_
        refine K_reg [] [] ⟨[(4, (.one (.nil))), (5, (I x3.2))], []⟩ (by kernel_rfl) trivial ?_
        refine K_gh ⟨[(4, (.one (.nil))), (5, (I x3.2))], []⟩ (by kernel_rfl) ?_
        cases H
        refine K_ret ?_
        kernel_rfl
      · refine K_f rfl (Bool.eq_false_iff.2 hx4) ?_
        refine K_gh ⟨[(6, (.one (.d (.list (x1.1.map (D.int .i64)))))), (8, (.one (.d (.list (x3.1.map (D.int .i64))))))], []⟩ (by kernel_rfl) ?_
        refine K_skip ?_
        refine K_seq ?_
        obtain ⟨x5, hx5, H⟩ := bind_some' H
        refine K_reg [.r (.one (.d (.list (x5.map (D.int .i64))))) []] [evF X k n_ref18_Fold [(.one (.d (.list (x1.1.map (D.int .i64))))), (.one (.d (.list (x3.1.map (D.int .i64)))))] [] = some ((.one (.d (.list (x5.map (D.int .i64))))), [])] ⟨[(4, (.one (.d (.list (x5.map (D.int .i64)))))), (5, (I 0))], []⟩ (by kernel_rfl) (A1 (T_ref18_Fold_ok k x1.1 x3.1 x5 hx5)) ?_
        refine K_gh ⟨[(4, (.one (.d (.list (x5.map (D.int .i64)))))), (5, (I 0))], []⟩ (by kernel_rfl) ?_
        cases H
        refine K_ret ?_
        kernel_rfl
def T_ref12_Two (k : Nat) (p1 : List Int) (p2 : List Int) (p3 : Int) : Option Int := match k with
  | 0 => none
  | k + 1 => (if (((decide ((p1.length : Int) < 2) || decide (32 < (p1.length : Int))) || decide ((p2.length : Int) < 2)) || decide (32 < (p2.length : Int))) = true then some 8 else ((((T_ref12_Samples k p1).bind fun x2 => (if (!decide (x2 = 0)) = true then some true else ((T_ref12_Samples k p2).bind fun x5 => some (!decide (x5 = 0)))))).bind fun x6 => (if x6 = true then some 12 else (if (decide (p3 < (w64 ((p1.length : Int) - (p2.length : Int)))) || decide (p3 < (w64 ((p2.length : Int) - (p1.length : Int))))) = true then some 8 else some 0))))
theorem T_ref12_Two_ok (k : Nat) (p1 : List Int) (p2 : List Int) (p3 : Int) (r : Int) : T_ref12_Two k p1 p2 p3 = some r → evF X k n_ref12_Two [(.one (.d (.list (p1.map (D.int .i64))))), (.one (.d (.list (p2.map (D.int .i64))))), (I p3)] [] = some ((I r), []) := by
  intro H
  cases k with
  | zero => simp [T_ref12_Two] at H
  | succ k =>
    simp only [T_ref12_Two] at H
    refine F_in X_ref12_Two rfl ?_
    refine K_seq ?_
    refine K_reg [] [] ⟨[(0, (.one (.d (.list (p1.map (D.int .i64)))))), (1, (.one (.d (.list (p2.map (D.int .i64)))))), (2, (I p3))], []⟩ (by kernel_rfl) trivial ?_
    refine K_seq ?_
    refine K_seq ?_
    refine K_reg [.n p1.length, .m, .n p1.length, .m, .n p2.length, .m, .n p2.length] [((p1.map (D.int .i64))).length = p1.length, decide ((p1.length : Int) < 2) = false → AllT [((p1.map (D.int .i64))).length = p1.length], ([] : Heap) = [], (decide ((p1.length : Int) < 2) || decide (32 < (p1.length : Int))) = false → AllT [((p2.map (D.int .i64))).length = p2.length], ([] : Heap) = [], ((decide ((p1.length : Int) < 2) || decide (32 < (p1.length : Int))) || decide ((p2.length : Int) < 2)) = false → AllT [((p2.map (D.int .i64))).length = p2.length], ([] : Heap) = []] ⟨[(0, (.one (.d (.list (p1.map (D.int .i64)))))), (1, (.one (.d (.list (p2.map (D.int .i64)))))), (2, (I p3)), (24, (B (((decide ((p1.length : Int) < 2) || decide (32 < (p1.length : Int))) || decide ((p2.length : Int) < 2)) || decide (32 < (p2.length : Int)))))], []⟩ (by kernel_rfl) (AC (List.length_map _) (AC (fun _ => (A1 (List.length_map _))) (AC rfl (AC (fun _ => (A1 (List.length_map _))) (AC rfl (AC (fun _ => (A1 (List.length_map _))) (A1 rfl))))))) ?_
    rcases ite_some H with ⟨hx1, H⟩ | ⟨hx1, H⟩
    · refine K_t rfl hx1 ?_
      refine K_seq ?_
      refine K_reg [] [] ⟨[(6, (I 8))], []⟩ (by kernel_rfl) trivial ?_
      refine K_gh ⟨[(6, (I 8))], []⟩ (by kernel_rfl) ?_
      cases H
      refine K_ret ?_
      kernel_rfl
    · refine K_f rfl (Bool.eq_false_iff.2 hx1) ?_
      refine K_gh ⟨[(0, (.one (.d (.list (p1.map (D.int .i64)))))), (1, (.one (.d (.list (p2.map (D.int .i64)))))), (2, (I p3))], []⟩ (by kernel_rfl) ?_
      refine K_skip ?_
      refine K_seq ?_
      refine K_seq ?_
      obtain ⟨x6, hx6, H⟩ := bind_some' H
      refine K_of ⟨[(0, (.one (.d (.list (p1.map (D.int .i64)))))), (1, (.one (.d (.list (p2.map (D.int .i64)))))), (2, (I p3)), (32, (B x6))], []⟩ ?_ ?_
      · clear H; have H := hx6; clear hx6; refine K_in ?_
        obtain ⟨x2, hx2, H⟩ := bind_some' H
        rcases ite_some H with ⟨hx4, H⟩ | ⟨hx4, H⟩
        · refine K_reg [.r (I x2) [], .b true] [evF X k n_ref12_Samples [(.one (.d (.list (p1.map (D.int .i64)))))] [] = some ((I x2), []), (!decide (x2 = 0)) = true] ⟨[(0, (.one (.d (.list (p1.map (D.int .i64)))))), (1, (.one (.d (.list (p2.map (D.int .i64)))))), (2, (I p3)), (32, (B true))], []⟩ (by kernel_rfl) (AC (T_ref12_Samples_ok k p1 x2 hx2) (A1 hx4)) ?_
          cases H
          exact K_end rfl
        · obtain ⟨x5, hx5, H⟩ := bind_some' H
          refine K_reg [.r (I x2) [], .b false, .r (I x5) []] [evF X k n_ref12_Samples [(.one (.d (.list (p1.map (D.int .i64)))))] [] = some ((I x2), []), (!decide (x2 = 0)) = false, evF X k n_ref12_Samples [(.one (.d (.list (p2.map (D.int .i64)))))] [] = some ((I x5), [])] ⟨[(0, (.one (.d (.list (p1.map (D.int .i64)))))), (1, (.one (.d (.list (p2.map (D.int .i64)))))), (2, (I p3)), (32, (B (!decide (x5 = 0))))], []⟩ (by kernel_rfl) (AC (T_ref12_Samples_ok k p1 x2 hx2) (AC (Bool.eq_false_iff.2 hx4) (A1 (T_ref12_Samples_ok k p2 x5 hx5)))) ?_
          cases H
          exact K_end rfl
      rcases ite_some H with ⟨hx7, H⟩ | ⟨hx7, H⟩
      · refine K_t rfl hx7 ?_
        refine K_seq ?_
        refine K_reg [] [] ⟨[(6, (I 12))], []⟩ (by kernel_rfl) trivial ?_
        refine K_gh ⟨[(6, (I 12))], []⟩ (by kernel_rfl) ?_
        cases H
        refine K_ret ?_
        kernel_rfl
      · refine K_f rfl (Bool.eq_false_iff.2 hx7) ?_
        refine K_gh ⟨[(0, (.one (.d (.list (p1.map (D.int .i64)))))), (1, (.one (.d (.list (p2.map (D.int .i64)))))), (2, (I p3))], []⟩ (by kernel_rfl) ?_
        refine K_skip ?_
        refine K_seq ?_
        refine K_seq ?_
        refine K_reg [.n p1.length, .n p2.length, .m, .n p2.length, .n p1.length] [((p1.map (D.int .i64))).length = p1.length, ((p2.map (D.int .i64))).length = p2.length, decide (p3 < (w64 ((p1.length : Int) - (p2.length : Int)))) = false → AllT [((p2.map (D.int .i64))).length = p2.length, ((p1.map (D.int .i64))).length = p1.length], ([] : Heap) = []] ⟨[(48, (B (decide (p3 < (w64 ((p1.length : Int) - (p2.length : Int)))) || decide (p3 < (w64 ((p2.length : Int) - (p1.length : Int)))))))], []⟩ (by kernel_rfl) (AC (List.length_map _) (AC (List.length_map _) (AC (fun _ => (AC (List.length_map _) (A1 (List.length_map _)))) (A1 rfl)))) ?_
        rcases ite_some H with ⟨hx8, H⟩ | ⟨hx8, H⟩
        · refine K_t rfl hx8 ?_
          refine K_seq ?_
          refine K_reg [] [] ⟨[(6, (I 8))], []⟩ (by kernel_rfl) trivial ?_
          refine K_gh ⟨[(6, (I 8))], []⟩ (by kernel_rfl) ?_
          cases H
          refine K_ret ?_
          kernel_rfl
        · refine K_f rfl (Bool.eq_false_iff.2 hx8) ?_
          refine K_gh ⟨[], []⟩ (by kernel_rfl) ?_
          refine K_skip ?_
          refine K_seq ?_
          refine K_reg [] [] ⟨[(6, (I 0))], []⟩ (by kernel_rfl) trivial ?_
          refine K_gh ⟨[(6, (I 0))], []⟩ (by kernel_rfl) ?_
          cases H
          refine K_ret ?_
          kernel_rfl
def T_ref18_differences_l1 (k : Nat) (p1 : List Int) (p2 : List Int) (x4 : Int) (x11 : Nat × Int × (List Int)) : Option ((Nat × Int × (List Int)) ⊕ ((Nat × (List Int)))) :=
  (if x11.2.1 < x4 then (at? p1 x11.2.1).bind fun x13 => (at? p2 x11.2.1).bind fun x14 => (if x11.1 + 1 ≤ LIM then some (.inl ((x11.1 + 1), (w64 (x11.2.1 + 1)), ((x11.2.2.drop 0).take x11.1 ++ ([(w64 (x13 - x14))] : List Int)))) else none) else some (.inr (x11.1, x11.2.2)))
theorem T_ref18_differences_l1_ok (k : Nat) (p1 : List Int) (p2 : List Int) (x4 : Int) : ∀ (x11 : Nat × Int × (List Int)) (x : (Nat × Int × (List Int)) ⊕ ((Nat × (List Int)))), T_ref18_differences_l1 k p1 p2 x4 x11 = some x → evC X (evF X k) k 0 l_ref18_differences_1 ⟨[(0, (.one (.d (.list (p1.map (D.int .i64)))))), (1, (.one (.d (.list (p2.map (D.int .i64)))))), (5, (.one (.own 0 0 x11.1))), (8, (I x4)), (9, (I x11.2.1))], [.vals (.int .i64 0) (x11.2.2.map (D.int .i64))]⟩ = some (outS (fun (s : Nat × Int × (List Int)) => ⟨[(0, (.one (.d (.list (p1.map (D.int .i64)))))), (1, (.one (.d (.list (p2.map (D.int .i64)))))), (5, (.one (.own 0 0 s.1))), (8, (I x4)), (9, (I s.2.1))], [.vals (.int .i64 0) (s.2.2.map (D.int .i64))]⟩) (fun (r : (Nat × (List Int))) => (.exit 0, ⟨[(5, (.one (.own 0 0 r.1)))], [.vals (.int .i64 0) (r.2.map (D.int .i64))]⟩)) x) := by
  intro x11 x H
  unfold T_ref18_differences_l1 at H
  refine K_in ?_
  refine K_seq ?_
  refine K_reg [] [] ⟨[(0, (.one (.d (.list (p1.map (D.int .i64)))))), (1, (.one (.d (.list (p2.map (D.int .i64)))))), (5, (.one (.own 0 0 x11.1))), (8, (I x4)), (9, (I x11.2.1)), (10, (B (decide (x11.2.1 < x4))))], [.vals (.int .i64 0) (x11.2.2.map (D.int .i64))]⟩ (by kernel_rfl) trivial ?_
  refine K_seq ?_
  rcases ite_some H with ⟨hx12, H⟩ | ⟨hx12, H⟩
  · refine K_t rfl (decide_eq_true hx12) ?_
    refine K_gh ⟨[(0, (.one (.d (.list (p1.map (D.int .i64)))))), (1, (.one (.d (.list (p2.map (D.int .i64)))))), (5, (.one (.own 0 0 x11.1))), (8, (I x4)), (9, (I x11.2.1))], [.vals (.int .i64 0) (x11.2.2.map (D.int .i64))]⟩ (by kernel_rfl) ?_
    refine K_skip ?_
    refine K_seq ?_
    refine K_block ?_
    refine K_seq ?_
    refine K_reg [] [] ⟨[(0, (.one (.d (.list (p1.map (D.int .i64)))))), (1, (.one (.d (.list (p2.map (D.int .i64)))))), (5, (.one (.own 0 0 x11.1))), (6, (I x11.2.1)), (8, (I x4)), (9, (I x11.2.1))], [.vals (.int .i64 0) (x11.2.2.map (D.int .i64))]⟩ (by kernel_rfl) trivial ?_
    obtain ⟨x13, hx13, H⟩ := bind_some' H
    obtain ⟨x14, hx14, H⟩ := bind_some' H
    obtain ⟨hx15, H⟩ := guard_some H
    refine K_reg [.l [.int .i64 x13], .l [.int .i64 x14], .n 1, .l (((x11.2.2.drop 0).take x11.1 ++ ([(w64 (x13 - x14))] : List Int)).map (D.int .i64))] [(0 : Int) ≤ x11.2.1 ∧ x11.2.1 < (((p1.map (D.int .i64))).length : Int), ((p1.map (D.int .i64)).getD x11.2.1.toNat (.int .i64 0)).cells = [.int .i64 x13], (0 : Int) ≤ x11.2.1 ∧ x11.2.1 < (((p2.map (D.int .i64))).length : Int), ((p2.map (D.int .i64)).getD x11.2.1.toNat (.int .i64 0)).cells = [.int .i64 x14], (List.all (([(w64 (x13 - x14))] : List Int).map (D.int .i64)) fun d => d.cells.length == (D.cells (.int .i64 0)).length) = true, x11.1 + 1 ≤ LIM, (([(w64 (x13 - x14))] : List Int).map (D.int .i64)).length = 1, ((x11.2.2.map (D.int .i64)).drop 0).take x11.1 ++ (([(w64 (x13 - x14))] : List Int).map (D.int .i64)) = ((x11.2.2.drop 0).take x11.1 ++ ([(w64 (x13 - x14))] : List Int)).map (D.int .i64)] ⟨[(0, (.one (.d (.list (p1.map (D.int .i64)))))), (1, (.one (.d (.list (p2.map (D.int .i64)))))), (5, (.one (.own 0 0 (x11.1 + 1)))), (8, (I x4)), (9, (I x11.2.1))], [.vals (.int .i64 0) (((x11.2.2.drop 0).take x11.1 ++ ([(w64 (x13 - x14))] : List Int)).map (D.int .i64))]⟩ (by kernel_rfl) (AC (at_ok hx13 (D.int .i64) (.int .i64 0)).1 (AC (at_ok hx13 (D.int .i64) (.int .i64 0)).2 (AC (at_ok hx14 (D.int .i64) (.int .i64 0)).1 (AC (at_ok hx14 (D.int .i64) (.int .i64 0)).2 (AC (all_ok (D.int .i64) 1 ([(w64 (x13 - x14))] : List Int) (fun _ => rfl)) (AC hx15 (AC (by simp) (A1 (ap_map (D.int .i64) x11.2.2 ([(w64 (x13 - x14))] : List Int) 0 x11.1))))))))) ?_
    refine K_blk ?_
    refine K_reg [] [] ⟨[(0, (.one (.d (.list (p1.map (D.int .i64)))))), (1, (.one (.d (.list (p2.map (D.int .i64)))))), (5, (.one (.own 0 0 (x11.1 + 1)))), (8, (I x4)), (9, (I (w64 (x11.2.1 + 1))))], [.vals (.int .i64 0) (((x11.2.2.drop 0).take x11.1 ++ ([(w64 (x13 - x14))] : List Int)).map (D.int .i64))]⟩ (by kernel_rfl) trivial ?_
    cases H
    exact K_end rfl
  · refine K_f rfl (decide_eq_false hx12) ?_
    refine K_gh ⟨[(5, (.one (.own 0 0 x11.1)))], [.vals (.int .i64 0) (x11.2.2.map (D.int .i64))]⟩ (by kernel_rfl) ?_
    cases H
    exact K_exit0 rfl rfl
def T_ref18_differences (k : Nat) (p1 : List Int) (p2 : List Int) : Option ((List Int)) := match k with
  | 0 => none
  | k + 1 => ((loopT (T_ref18_differences_l1 k p1 p2 (p1.length : Int)) k (0, 0, [])).bind fun x16 => some ((x16.2.drop 0).take x16.1))
theorem T_ref18_differences_ok (k : Nat) (p1 : List Int) (p2 : List Int) (r : (List Int)) : T_ref18_differences k p1 p2 = some r → evF X k n_ref18_differences [(.one (.d (.list (p1.map (D.int .i64))))), (.one (.d (.list (p2.map (D.int .i64)))))] [] = some ((.one (.d (.list (r.map (D.int .i64))))), []) := by
  intro H
  cases k with
  | zero => simp [T_ref18_differences] at H
  | succ k =>
    simp only [T_ref18_differences] at H
    refine F_in X_ref18_differences rfl ?_
    refine K_seq ?_
    refine K_reg [] [] ⟨[(0, (.one (.d (.list (p1.map (D.int .i64)))))), (1, (.one (.d (.list (p2.map (D.int .i64))))))], []⟩ (by kernel_rfl) trivial ?_
    refine K_seq ?_
    refine K_reg [] [] ⟨[(0, (.one (.d (.list (p1.map (D.int .i64)))))), (1, (.one (.d (.list (p2.map (D.int .i64)))))), (5, (.one (.nil)))], []⟩ (by kernel_rfl) trivial ?_
    refine K_seq ?_
    refine K_seq ?_
    refine K_reg [.n p1.length] [((p1.map (D.int .i64))).length = p1.length] ⟨[(0, (.one (.d (.list (p1.map (D.int .i64)))))), (1, (.one (.d (.list (p2.map (D.int .i64)))))), (5, (.one (.nil))), (8, (I (p1.length : Int))), (9, (I 0))], []⟩ (by kernel_rfl) (A1 (List.length_map _)) ?_
    refine K_block ?_
    refine K_gh ⟨[(0, (.one (.d (.list (p1.map (D.int .i64)))))), (1, (.one (.d (.list (p2.map (D.int .i64)))))), (5, (.one (.own 0 0 0))), (8, (I (p1.length : Int))), (9, (I 0))], [.vals (.int .i64 0) ([].map (D.int .i64))]⟩ (by kernel_rfl) ?_
    obtain ⟨x16, hx16, H⟩ := bind_some' H
    refine K_loop ⟨[(5, (.one (.own 0 0 x16.1)))], [.vals (.int .i64 0) (x16.2.map (D.int .i64))]⟩ (loop_ok (fun (s : Nat × Int × (List Int)) => ⟨[(0, (.one (.d (.list (p1.map (D.int .i64)))))), (1, (.one (.d (.list (p2.map (D.int .i64)))))), (5, (.one (.own 0 0 s.1))), (8, (I (p1.length : Int))), (9, (I s.2.1))], [.vals (.int .i64 0) (s.2.2.map (D.int .i64))]⟩) (fun (r : (Nat × (List Int))) => (.exit 0, ⟨[(5, (.one (.own 0 0 r.1)))], [.vals (.int .i64 0) (r.2.map (D.int .i64))]⟩)) (fun r h => by cases h) (T_ref18_differences_l1_ok k p1 p2 (p1.length : Int)) k (0, 0, []) x16 hx16) rfl ?_
    refine K_seq ?_
    refine K_reg [] [] ⟨[(4, (.one (.own 0 0 x16.1)))], [.vals (.int .i64 0) (x16.2.map (D.int .i64))]⟩ (by kernel_rfl) trivial ?_
    refine K_gh ⟨[(4, (.one (.own 0 0 x16.1)))], [.vals (.int .i64 0) (x16.2.map (D.int .i64))]⟩ (by kernel_rfl) ?_
    cases H
    refine K_ret ?_
    exact Eq.trans (b := some ((.one (.d (.list (((x16.2.map (D.int .i64)).drop 0).take x16.1)))), [])) (by kernel_rfl) (by simp only [dt_map])
def T_ref01_common_l1 (k : Nat) (x5 : Int × Int) : Option ((Int × Int) ⊕ Int) :=
  (if 0 < x5.2 then (if x5.2 ≠ 0 then some (.inl (x5.2, (x5.1.tmod x5.2))) else none) else some (.inr x5.1))
theorem T_ref01_common_l1_ok (k : Nat) : ∀ (x5 : Int × Int) (x : (Int × Int) ⊕ Int), T_ref01_common_l1 k x5 = some x → evC X (evF X k) k 0 l_ref01_common_1 ⟨[(0, (I x5.1)), (1, (I x5.2))], []⟩ = some (outS (fun (s : Int × Int) => ⟨[(0, (I s.1)), (1, (I s.2))], []⟩) (fun (r : Int) => (.exit 0, ⟨[(0, (I r))], []⟩)) x) := by
  intro x5 x H
  unfold T_ref01_common_l1 at H
  refine K_in ?_
  refine K_seq ?_
  refine K_seq ?_
  refine K_reg [] [] ⟨[(0, (I x5.1)), (1, (I x5.2)), (6, (B (decide (0 < x5.2))))], []⟩ (by kernel_rfl) trivial ?_
  rcases ite_some H with ⟨hx6, H⟩ | ⟨hx6, H⟩
  · refine K_t rfl (decide_eq_true hx6) ?_
    refine K_gh ⟨[(0, (I x5.1)), (1, (I x5.2))], []⟩ (by kernel_rfl) ?_
    refine K_skip ?_
    refine K_block ?_
    obtain ⟨hx7, H⟩ := guard_some H
    refine K_reg [] [x5.2 ≠ (0 : Int)] ⟨[(0, (I x5.2)), (1, (I (x5.1.tmod x5.2)))], []⟩ (by kernel_rfl) (A1 hx7) ?_
    refine K_blk ?_
    cases H
    exact K_end rfl
  · refine K_f rfl (decide_eq_false hx6) ?_
    refine K_gh ⟨[(0, (I x5.1))], []⟩ (by kernel_rfl) ?_
    cases H
    exact K_exit0 rfl rfl
def T_ref01_common (k : Nat) (p1 : Int) (p2 : Int) : Option Int := match k with
  | 0 => none
  | k + 1 => ((loopT (T_ref01_common_l1 k) k (p1, p2)).bind fun x8 => some x8)
theorem T_ref01_common_ok (k : Nat) (p1 : Int) (p2 : Int) (r : Int) : T_ref01_common k p1 p2 = some r → evF X k n_ref01_common [(I p1), (I p2)] [] = some ((I r), []) := by
  intro H
  cases k with
  | zero => simp [T_ref01_common] at H
  | succ k =>
    simp only [T_ref01_common] at H
    refine F_in X_ref01_common rfl ?_
    refine K_seq ?_
    refine K_reg [] [] ⟨[(0, (I p1)), (1, (I p2))], []⟩ (by kernel_rfl) trivial ?_
    refine K_seq ?_
    refine K_block ?_
    obtain ⟨x8, hx8, H⟩ := bind_some' H
    refine K_loop ⟨[(0, (I x8))], []⟩ (loop_ok (fun (s : Int × Int) => ⟨[(0, (I s.1)), (1, (I s.2))], []⟩) (fun (r : Int) => (.exit 0, ⟨[(0, (I r))], []⟩)) (fun r h => by cases h) (T_ref01_common_l1_ok k) k (p1, p2) x8 hx8) rfl ?_
    refine K_seq ?_
    refine K_reg [] [] ⟨[(4, (I x8))], []⟩ (by kernel_rfl) trivial ?_
    refine K_gh ⟨[(4, (I x8))], []⟩ (by kernel_rfl) ?_
    cases H
    refine K_ret ?_
    kernel_rfl
def T_ref01_Valid (k : Nat) (p1 : Int) (p2 : Int) : Option Bool := match k with
  | 0 => none
  | k + 1 => (((if (((decide (0 ≤ p1) && decide (p1 ≤ 2305843009213693952)) && decide (1 ≤ p2)) && decide (p2 ≤ 1152921504606846976)) = true then ((T_ref01_common k p1 p2).bind fun x3 => some (decide (x3 = 1))) else some false)).bind fun x4 => some x4)
theorem T_ref01_Valid_ok (k : Nat) (p1 : Int) (p2 : Int) (r : Bool) : T_ref01_Valid k p1 p2 = some r → evF X k n_ref01_Valid [(.agg [.d (.int .i64 p1), .d (.int .i64 p2)])] [] = some ((B r), []) := by
  intro H
  cases k with
  | zero => simp [T_ref01_Valid] at H
  | succ k =>
    simp only [T_ref01_Valid] at H
    refine F_in X_ref01_Valid rfl ?_
    refine K_seq ?_
    refine K_reg [] [] ⟨[(1, (.one (.ptr 0 0 0)))], [.cells [.d (.int .i64 p1), .d (.int .i64 p2)]]⟩ (by kernel_rfl) trivial ?_
    refine K_seq ?_
    obtain ⟨x4, hx4, H⟩ := bind_some' H
    refine K_of ⟨[(2, (B x4))], []⟩ ?_ ?_
    · clear H; have H := hx4; clear hx4; refine K_in ?_
      rcases ite_some H with ⟨hx2, H⟩ | ⟨hx2, H⟩
      · obtain ⟨x3, hx3, H⟩ := bind_some' H
        refine K_reg [.m, .m, .m, .b true, .r (I x3) []] [([.cells [.d (.int .i64 p1), .d (.int .i64 p2)]] : Heap) = [.cells [.d (.int .i64 p1), .d (.int .i64 p2)]], ([.cells [.d (.int .i64 p1), .d (.int .i64 p2)]] : Heap) = [.cells [.d (.int .i64 p1), .d (.int .i64 p2)]], ([.cells [.d (.int .i64 p1), .d (.int .i64 p2)]] : Heap) = [.cells [.d (.int .i64 p1), .d (.int .i64 p2)]], (((decide (0 ≤ p1) && decide (p1 ≤ 2305843009213693952)) && decide (1 ≤ p2)) && decide (p2 ≤ 1152921504606846976)) = true, evF X k n_ref01_common [(I p1), (I p2)] [] = some ((I x3), [])] ⟨[(2, (B (decide (x3 = 1))))], []⟩ (by kernel_rfl) (AC rfl (AC rfl (AC rfl (AC hx2 (A1 (T_ref01_common_ok k p1 p2 x3 hx3)))))) ?_
        cases H
        exact K_end rfl
      · refine K_reg [.m, .m, .m, .b false] [([.cells [.d (.int .i64 p1), .d (.int .i64 p2)]] : Heap) = [.cells [.d (.int .i64 p1), .d (.int .i64 p2)]], ([.cells [.d (.int .i64 p1), .d (.int .i64 p2)]] : Heap) = [.cells [.d (.int .i64 p1), .d (.int .i64 p2)]], ([.cells [.d (.int .i64 p1), .d (.int .i64 p2)]] : Heap) = [.cells [.d (.int .i64 p1), .d (.int .i64 p2)]], (((decide (0 ≤ p1) && decide (p1 ≤ 2305843009213693952)) && decide (1 ≤ p2)) && decide (p2 ≤ 1152921504606846976)) = false] ⟨[(2, (B false))], []⟩ (by kernel_rfl) (AC rfl (AC rfl (AC rfl (A1 (Bool.eq_false_iff.2 hx2))))) ?_
        cases H
        exact K_end rfl
    refine K_gh ⟨[(2, (B x4))], []⟩ (by kernel_rfl) ?_
    cases H
    refine K_ret ?_
    kernel_rfl
def T_ref01_Make (k : Nat) (p1 : Int) (p2 : Int) : Option (Int × Int × Int) := match k with
  | 0 => none
  | k + 1 => (if (decide (p1 < 0) || decide (p2 < 1)) = true then some (0, 0, 1) else (T_ref01_common k p1 p2).bind fun x2 => (if x2 ≠ 0 then (T_ref01_Valid k (w64 (p1.tdiv x2)) (w64 (p2.tdiv x2))).bind fun x4 => (if (!x4) = true then some (0, 0, 1) else some ((w64 (p1.tdiv x2)), (w64 (p2.tdiv x2)), 0)) else none))
theorem T_ref01_Make_ok (k : Nat) (p1 : Int) (p2 : Int) (r : Int × Int × Int) : T_ref01_Make k p1 p2 = some r → evF X k n_ref01_Make [(I p1), (I p2)] [] = some ((.tup [(true, [.d (.int .i64 r.1), .d (.int .i64 r.2.1)]), (false, [.d (.int .i64 r.2.2)])]), []) := by
  intro H
  cases k with
  | zero => simp [T_ref01_Make] at H
  | succ k =>
    simp only [T_ref01_Make] at H
    refine F_in X_ref01_Make rfl ?_
    refine K_seq ?_
    refine K_reg [] [] ⟨[(0, (I p1)), (1, (I p2)), (4, (.one (.ptr 0 0 0)))], [.cells [.d (.int .i64 0), .d (.int .i64 0)]]⟩ (by kernel_rfl) trivial ?_
    refine K_seq ?_
    refine K_seq ?_
    refine K_reg [.m] [([.cells [.d (.int .i64 0), .d (.int .i64 0)]] : Heap) = [.cells [.d (.int .i64 0), .d (.int .i64 0)]]] ⟨[(0, (I p1)), (1, (I p2)), (4, (.one (.ptr 0 0 0))), (13, (B (decide (p1 < 0) || decide (p2 < 1))))], [.cells [.d (.int .i64 0), .d (.int .i64 0)]]⟩ (by kernel_rfl) (A1 rfl) ?_
    rcases ite_some H with ⟨hx1, H⟩ | ⟨hx1, H⟩
    · refine K_t rfl hx1 ?_
      refine K_seq ?_
      refine K_reg [] [] ⟨[(4, (.one (.ptr 0 0 0))), (5, (I 1))], [.cells [.d (.int .i64 0), .d (.int .i64 0)]]⟩ (by kernel_rfl) trivial ?_
      refine K_gh ⟨[(4, (.one (.ptr 0 0 0))), (5, (I 1))], [.cells [.d (.int .i64 0), .d (.int .i64 0)]]⟩ (by kernel_rfl) ?_
      cases H
      refine K_ret ?_
      kernel_rfl
    · refine K_f rfl (Bool.eq_false_iff.2 hx1) ?_
      refine K_gh ⟨[(0, (I p1)), (1, (I p2)), (4, (.one (.ptr 0 0 0)))], [.cells [.d (.int .i64 0), .d (.int .i64 0)]]⟩ (by kernel_rfl) ?_
      refine K_skip ?_
      refine K_seq ?_
      obtain ⟨x2, hx2, H⟩ := bind_some' H
      refine K_reg [.r (I x2) []] [evF X k n_ref01_common [(I p1), (I p2)] [] = some ((I x2), [])] ⟨[(0, (I p1)), (1, (I p2)), (4, (.one (.ptr 0 0 0))), (6, (I x2))], [.cells [.d (.int .i64 0), .d (.int .i64 0)]]⟩ (by kernel_rfl) (A1 (T_ref01_common_ok k p1 p2 x2 hx2)) ?_
      refine K_seq ?_
      obtain ⟨hx3, H⟩ := guard_some H
      refine K_reg [] [x2 ≠ (0 : Int), x2 ≠ (0 : Int)] ⟨[(4, (.one (.ptr 0 0 0))), (7, (.one (.ptr 1 0 0)))], [.cells [.d (.int .i64 0), .d (.int .i64 0)], .cells [.d (.int .i64 (w64 (p1.tdiv x2))), .d (.int .i64 (w64 (p2.tdiv x2)))]]⟩ (by kernel_rfl) (AC hx3 (A1 hx3)) ?_
      refine K_seq ?_
      refine K_seq ?_
      obtain ⟨x4, hx4, H⟩ := bind_some' H
      refine K_reg [.r (B x4) []] [evF X k n_ref01_Valid [(.agg [.d (.int .i64 (w64 (p1.tdiv x2))), .d (.int .i64 (w64 (p2.tdiv x2)))])] [] = some ((B x4), [])] ⟨[(4, (.one (.ptr 0 0 0))), (7, (.one (.ptr 1 0 0))), (27, (B (!x4)))], [.cells [.d (.int .i64 0), .d (.int .i64 0)], .cells [.d (.int .i64 (w64 (p1.tdiv x2))), .d (.int .i64 (w64 (p2.tdiv x2)))]]⟩ (by kernel_rfl) (A1 (T_ref01_Valid_ok k (w64 (p1.tdiv x2)) (w64 (p2.tdiv x2)) x4 hx4)) ?_
      rcases ite_some H with ⟨hx5, H⟩ | ⟨hx5, H⟩
      · refine K_t rfl hx5 ?_
        refine K_seq ?_
        refine K_reg [] [] ⟨[(4, (.one (.ptr 0 0 0))), (5, (I 1))], [.cells [.d (.int .i64 0), .d (.int .i64 0)]]⟩ (by kernel_rfl) trivial ?_
        refine K_gh ⟨[(4, (.one (.ptr 0 0 0))), (5, (I 1))], [.cells [.d (.int .i64 0), .d (.int .i64 0)]]⟩ (by kernel_rfl) ?_
        cases H
        refine K_ret ?_
        kernel_rfl
      · refine K_f rfl (Bool.eq_false_iff.2 hx5) ?_
        refine K_gh ⟨[(4, (.one (.ptr 0 0 0))), (7, (.one (.ptr 1 0 0)))], [.cells [.d (.int .i64 0), .d (.int .i64 0)], .cells [.d (.int .i64 (w64 (p1.tdiv x2))), .d (.int .i64 (w64 (p2.tdiv x2)))]]⟩ (by kernel_rfl) ?_
        refine K_skip ?_
        refine K_seq ?_
        refine K_reg [] [] ⟨[(4, (.one (.ptr 0 0 0))), (5, (I 0))], [.cells [.d (.int .i64 (w64 (p1.tdiv x2))), .d (.int .i64 (w64 (p2.tdiv x2)))]]⟩ (by kernel_rfl) trivial ?_
        refine K_gh ⟨[(4, (.one (.ptr 0 0 0))), (5, (I 0))], [.cells [.d (.int .i64 (w64 (p1.tdiv x2))), .d (.int .i64 (w64 (p2.tdiv x2)))]]⟩ (by kernel_rfl) ?_
        cases H
        refine K_ret ?_
        kernel_rfl
def T_ref18_Squares_l1 (k : Nat) (p1 : List Int) (p2 : List Int) (p3 : Int) (x6 : Int) (x8 : Int) (x17 : Int × Int) : Option ((Int × Int) ⊕ Int) :=
  (if x17.2 < x8 then (at? p1 x17.2).bind fun x19 => (at? p2 (w64 (x17.2 + 1))).bind fun x20 => (at? p2 x17.2).bind fun x21 => (if (w64 (x20 - x21)) ≠ 0 then some (.inl ((w64 (x17.1 + (w64 ((w64 (x19 * x19)) * (w64 ((w64 (x6 * (w64 (x6 + 1)))).tdiv (w64 (x20 - x21)))))))), (w64 (x17.2 + 1)))) else none) else some (.inr x17.1))
theorem T_ref18_Squares_l1_ok (k : Nat) (p1 : List Int) (p2 : List Int) (p3 : Int) (x6 : Int) (x8 : Int) : ∀ (x17 : Int × Int) (x : (Int × Int) ⊕ Int), T_ref18_Squares_l1 k p1 p2 p3 x6 x8 x17 = some x → evC X (evF X k) k 0 l_ref18_Squares_1 ⟨[(0, (.one (.d (.list (p1.map (D.int .i64)))))), (1, (.one (.d (.list (p2.map (D.int .i64)))))), (2, (I p3)), (6, (.one (.ptr 0 0 0))), (7, (I x6)), (8, (I x17.1)), (23, (I x8)), (24, (I x17.2))], [.cells [.d (.int .i64 0), .d (.int .i64 0)]]⟩ = some (outS (fun (s : Int × Int) => ⟨[(0, (.one (.d (.list (p1.map (D.int .i64)))))), (1, (.one (.d (.list (p2.map (D.int .i64)))))), (2, (I p3)), (6, (.one (.ptr 0 0 0))), (7, (I x6)), (8, (I s.1)), (23, (I x8)), (24, (I s.2))], [.cells [.d (.int .i64 0), .d (.int .i64 0)]]⟩) (fun (r : Int) => (.exit 0, ⟨[(2, (I p3)), (6, (.one (.ptr 0 0 0))), (7, (I x6)), (8, (I r))], [.cells [.d (.int .i64 0), .d (.int .i64 0)]]⟩)) x) := by
  intro x17 x H
  unfold T_ref18_Squares_l1 at H
  refine K_in ?_
  refine K_seq ?_
  refine K_reg [] [] ⟨[(0, (.one (.d (.list (p1.map (D.int .i64)))))), (1, (.one (.d (.list (p2.map (D.int .i64)))))), (2, (I p3)), (6, (.one (.ptr 0 0 0))), (7, (I x6)), (8, (I x17.1)), (23, (I x8)), (24, (I x17.2)), (25, (B (decide (x17.2 < x8))))], [.cells [.d (.int .i64 0), .d (.int .i64 0)]]⟩ (by kernel_rfl) trivial ?_
  refine K_seq ?_
  rcases ite_some H with ⟨hx18, H⟩ | ⟨hx18, H⟩
  · refine K_t rfl (decide_eq_true hx18) ?_
    refine K_gh ⟨[(0, (.one (.d (.list (p1.map (D.int .i64)))))), (1, (.one (.d (.list (p2.map (D.int .i64)))))), (2, (I p3)), (6, (.one (.ptr 0 0 0))), (7, (I x6)), (8, (I x17.1)), (23, (I x8)), (24, (I x17.2))], [.cells [.d (.int .i64 0), .d (.int .i64 0)]]⟩ (by kernel_rfl) ?_
    refine K_skip ?_
    refine K_seq ?_
    refine K_block ?_
    refine K_seq ?_
    refine K_reg [] [] ⟨[(0, (.one (.d (.list (p1.map (D.int .i64)))))), (1, (.one (.d (.list (p2.map (D.int .i64)))))), (2, (I p3)), (6, (.one (.ptr 0 0 0))), (7, (I x6)), (8, (I x17.1)), (9, (I x17.2)), (23, (I x8)), (24, (I x17.2))], [.cells [.d (.int .i64 0), .d (.int .i64 0)]]⟩ (by kernel_rfl) trivial ?_
    obtain ⟨x19, hx19, H⟩ := bind_some' H
    obtain ⟨x20, hx20, H⟩ := bind_some' H
    obtain ⟨x21, hx21, H⟩ := bind_some' H
    obtain ⟨hx22, H⟩ := guard_some H
    refine K_reg [.l [.int .i64 x19], .l [.int .i64 x19], .l [.int .i64 x20], .l [.int .i64 x21]] [(0 : Int) ≤ x17.2 ∧ x17.2 < (((p1.map (D.int .i64))).length : Int), ((p1.map (D.int .i64)).getD x17.2.toNat (.int .i64 0)).cells = [.int .i64 x19], (0 : Int) ≤ x17.2 ∧ x17.2 < (((p1.map (D.int .i64))).length : Int), ((p1.map (D.int .i64)).getD x17.2.toNat (.int .i64 0)).cells = [.int .i64 x19], (0 : Int) ≤ (w64 (x17.2 + 1)) ∧ (w64 (x17.2 + 1)) < (((p2.map (D.int .i64))).length : Int), ((p2.map (D.int .i64)).getD (w64 (x17.2 + 1)).toNat (.int .i64 0)).cells = [.int .i64 x20], (0 : Int) ≤ x17.2 ∧ x17.2 < (((p2.map (D.int .i64))).length : Int), ((p2.map (D.int .i64)).getD x17.2.toNat (.int .i64 0)).cells = [.int .i64 x21], (w64 (x20 - x21)) ≠ (0 : Int)] ⟨[(0, (.one (.d (.list (p1.map (D.int .i64)))))), (1, (.one (.d (.list (p2.map (D.int .i64)))))), (2, (I p3)), (6, (.one (.ptr 0 0 0))), (7, (I x6)), (8, (I (w64 (x17.1 + (w64 ((w64 (x19 * x19)) * (w64 ((w64 (x6 * (w64 (x6 + 1)))).tdiv (w64 (x20 - x21)))))))))), (23, (I x8)), (24, (I x17.2))], [.cells [.d (.int .i64 0), .d (.int .i64 0)]]⟩ (by kernel_rfl) (AC (at_ok hx19 (D.int .i64) (.int .i64 0)).1 (AC (at_ok hx19 (D.int .i64) (.int .i64 0)).2 (AC (at_ok hx19 (D.int .i64) (.int .i64 0)).1 (AC (at_ok hx19 (D.int .i64) (.int .i64 0)).2 (AC (at_ok hx20 (D.int .i64) (.int .i64 0)).1 (AC (at_ok hx20 (D.int .i64) (.int .i64 0)).2 (AC (at_ok hx21 (D.int .i64) (.int .i64 0)).1 (AC (at_ok hx21 (D.int .i64) (.int .i64 0)).2 (A1 hx22))))))))) ?_
    refine K_blk ?_
    refine K_reg [] [] ⟨[(0, (.one (.d (.list (p1.map (D.int .i64)))))), (1, (.one (.d (.list (p2.map (D.int .i64)))))), (2, (I p3)), (6, (.one (.ptr 0 0 0))), (7, (I x6)), (8, (I (w64 (x17.1 + (w64 ((w64 (x19 * x19)) * (w64 ((w64 (x6 * (w64 (x6 + 1)))).tdiv (w64 (x20 - x21)))))))))), (23, (I x8)), (24, (I (w64 (x17.2 + 1))))], [.cells [.d (.int .i64 0), .d (.int .i64 0)]]⟩ (by kernel_rfl) trivial ?_
    cases H
    exact K_end rfl
  · refine K_f rfl (decide_eq_false hx18) ?_
    refine K_gh ⟨[(2, (I p3)), (6, (.one (.ptr 0 0 0))), (7, (I x6)), (8, (I x17.1))], [.cells [.d (.int .i64 0), .d (.int .i64 0)]]⟩ (by kernel_rfl) ?_
    cases H
    exact K_exit0 rfl rfl
def T_ref18_Squares (k : Nat) (p1 : List Int) (p2 : List Int) (p3 : Int) : Option (Int × Int) := match k with
  | 0 => none
  | k + 1 => (at? p2 (w64 ((p2.length : Int) - 1))).bind fun x1 => (if (w64 ((p2.length : Int) - 1)) ≠ 0 then (loopT (T_ref18_Squares_l1 k p1 p2 p3 (w64 (x1.tdiv (w64 ((p2.length : Int) - 1)))) (p1.length : Int)) k (0, 0)).bind fun x23 => (T_ref01_Make k x23 (w64 ((w64 ((w64 (x1.tdiv (w64 ((p2.length : Int) - 1)))) * (w64 ((w64 (x1.tdiv (w64 ((p2.length : Int) - 1)))) + 1)))) * p3))).bind fun x24 => some (x24.1, x24.2.1) else none)
theorem T_ref18_Squares_ok (k : Nat) (p1 : List Int) (p2 : List Int) (p3 : Int) (r : Int × Int) : T_ref18_Squares k p1 p2 p3 = some r → evF X k n_ref18_Squares [(.one (.d (.list (p1.map (D.int .i64))))), (.one (.d (.list (p2.map (D.int .i64))))), (I p3)] [] = some ((.agg [.d (.int .i64 r.1), .d (.int .i64 r.2)]), []) := by
  intro H
  cases k with
  | zero => simp [T_ref18_Squares] at H
  | succ k =>
    simp only [T_ref18_Squares] at H
    refine F_in X_ref18_Squares rfl ?_
    refine K_seq ?_
    refine K_reg [] [] ⟨[(0, (.one (.d (.list (p1.map (D.int .i64)))))), (1, (.one (.d (.list (p2.map (D.int .i64)))))), (2, (I p3)), (6, (.one (.ptr 0 0 0)))], [.cells [.d (.int .i64 0), .d (.int .i64 0)]]⟩ (by kernel_rfl) trivial ?_
    refine K_seq ?_
    obtain ⟨x1, hx1, H⟩ := bind_some' H
    obtain ⟨hx2, H⟩ := guard_some H
    refine K_reg [.n p2.length, .l [.int .i64 x1], .n p2.length] [((p2.map (D.int .i64))).length = p2.length, (0 : Int) ≤ (w64 ((p2.length : Int) - 1)) ∧ (w64 ((p2.length : Int) - 1)) < (((p2.map (D.int .i64))).length : Int), ((p2.map (D.int .i64)).getD (w64 ((p2.length : Int) - 1)).toNat (.int .i64 0)).cells = [.int .i64 x1], ((p2.map (D.int .i64))).length = p2.length, (w64 ((p2.length : Int) - 1)) ≠ (0 : Int)] ⟨[(0, (.one (.d (.list (p1.map (D.int .i64)))))), (1, (.one (.d (.list (p2.map (D.int .i64)))))), (2, (I p3)), (6, (.one (.ptr 0 0 0))), (7, (I (w64 (x1.tdiv (w64 ((p2.length : Int) - 1))))))], [.cells [.d (.int .i64 0), .d (.int .i64 0)]]⟩ (by kernel_rfl) (AC (List.length_map _) (AC (at_ok hx1 (D.int .i64) (.int .i64 0)).1 (AC (at_ok hx1 (D.int .i64) (.int .i64 0)).2 (AC (List.length_map _) (A1 hx2))))) ?_
    refine K_seq ?_
    refine K_reg [] [] ⟨[(0, (.one (.d (.list (p1.map (D.int .i64)))))), (1, (.one (.d (.list (p2.map (D.int .i64)))))), (2, (I p3)), (6, (.one (.ptr 0 0 0))), (7, (I (w64 (x1.tdiv (w64 ((p2.length : Int) - 1)))))), (8, (I 0))], [.cells [.d (.int .i64 0), .d (.int .i64 0)]]⟩ (by kernel_rfl) trivial ?_
    refine K_seq ?_
    refine K_seq ?_
    refine K_reg [.n p1.length] [((p1.map (D.int .i64))).length = p1.length] ⟨[(0, (.one (.d (.list (p1.map (D.int .i64)))))), (1, (.one (.d (.list (p2.map (D.int .i64)))))), (2, (I p3)), (6, (.one (.ptr 0 0 0))), (7, (I (w64 (x1.tdiv (w64 ((p2.length : Int) - 1)))))), (8, (I 0)), (23, (I (p1.length : Int))), (24, (I 0))], [.cells [.d (.int .i64 0), .d (.int .i64 0)]]⟩ (by kernel_rfl) (A1 (List.length_map _)) ?_
    refine K_block ?_
    obtain ⟨x23, hx23, H⟩ := bind_some' H
    refine K_loop ⟨[(2, (I p3)), (6, (.one (.ptr 0 0 0))), (7, (I (w64 (x1.tdiv (w64 ((p2.length : Int) - 1)))))), (8, (I x23))], [.cells [.d (.int .i64 0), .d (.int .i64 0)]]⟩ (loop_ok (fun (s : Int × Int) => ⟨[(0, (.one (.d (.list (p1.map (D.int .i64)))))), (1, (.one (.d (.list (p2.map (D.int .i64)))))), (2, (I p3)), (6, (.one (.ptr 0 0 0))), (7, (I (w64 (x1.tdiv (w64 ((p2.length : Int) - 1)))))), (8, (I s.1)), (23, (I (p1.length : Int))), (24, (I s.2))], [.cells [.d (.int .i64 0), .d (.int .i64 0)]]⟩) (fun (r : Int) => (.exit 0, ⟨[(2, (I p3)), (6, (.one (.ptr 0 0 0))), (7, (I (w64 (x1.tdiv (w64 ((p2.length : Int) - 1)))))), (8, (I r))], [.cells [.d (.int .i64 0), .d (.int .i64 0)]]⟩)) (fun r h => by cases h) (T_ref18_Squares_l1_ok k p1 p2 p3 (w64 (x1.tdiv (w64 ((p2.length : Int) - 1)))) (p1.length : Int)) k (0, 0) x23 hx23) rfl ?_
    refine K_seq ?_
    obtain ⟨x24, hx24, H⟩ := bind_some' H
    refine K_reg [.r (.tup [(true, [.d (.int .i64 x24.1), .d (.int .i64 x24.2.1)]), (false, [.d (.int .i64 x24.2.2)])]) []] [evF X k n_ref01_Make [(I x23), (I (w64 ((w64 ((w64 (x1.tdiv (w64 ((p2.length : Int) - 1)))) * (w64 ((w64 (x1.tdiv (w64 ((p2.length : Int) - 1)))) + 1)))) * p3)))] [] = some ((.tup [(true, [.d (.int .i64 x24.1), .d (.int .i64 x24.2.1)]), (false, [.d (.int .i64 x24.2.2)])]), [])] ⟨[(6, (.one (.ptr 0 0 0))), (10, (.one (.ptr 1 0 0)))], [.cells [.d (.int .i64 0), .d (.int .i64 0)], .cells [.d (.int .i64 x24.1), .d (.int .i64 x24.2.1)]]⟩ (by kernel_rfl) (A1 (T_ref01_Make_ok k x23 (w64 ((w64 ((w64 (x1.tdiv (w64 ((p2.length : Int) - 1)))) * (w64 ((w64 (x1.tdiv (w64 ((p2.length : Int) - 1)))) + 1)))) * p3)) x24 hx24)) ?_
    refine K_seq ?_
    refine K_reg [] [] ⟨[(6, (.one (.ptr 0 0 0)))], [.cells [.d (.int .i64 x24.1), .d (.int .i64 x24.2.1)]]⟩ (by kernel_rfl) trivial ?_
    refine K_gh ⟨[(6, (.one (.ptr 0 0 0)))], [.cells [.d (.int .i64 x24.1), .d (.int .i64 x24.2.1)]]⟩ (by kernel_rfl) ?_
    cases H
    refine K_ret ?_
    kernel_rfl
def T_ref18_Lower (k : Nat) (p1 : List Int) (p2 : List Int) (p3 : Int) : Option (Int × Int × Int) := match k with
  | 0 => none
  | k + 1 => ((T_ref12_Two k p1 p2 0).bind fun x1 => (if (!decide (x1 = 0)) = true then some (0, 0, x1) else ((T_ref18_Starts k (p1.length : Int) p3).bind fun x3 => (if (!decide (x3.2 = 0)) = true then some (0, 0, x3.2) else ((T_ref18_Fold k p1 x3.1).bind fun x5 => (T_ref18_Fold k p2 x3.1).bind fun x6 => (T_ref18_differences k x5 x6).bind fun x7 => (T_ref18_Squares k x7 x3.1 1).bind fun x8 => some (x8.1, x8.2, 0))))))
theorem T_ref18_Lower_ok (k : Nat) (p1 : List Int) (p2 : List Int) (p3 : Int) (r : Int × Int × Int) : T_ref18_Lower k p1 p2 p3 = some r → evF X k n_ref18_Lower [(.one (.d (.list (p1.map (D.int .i64))))), (.one (.d (.list (p2.map (D.int .i64))))), (I p3)] [] = some ((.tup [(true, [.d (.int .i64 r.1), .d (.int .i64 r.2.1)]), (false, [.d (.int .i64 r.2.2)])]), []) := by
  intro H
  cases k with
  | zero => simp [T_ref18_Lower] at H
  | succ k =>
    simp only [T_ref18_Lower] at H
    refine F_in X_ref18_Lower rfl ?_
    refine K_seq ?_
    refine K_reg [] [] ⟨[(0, (.one (.d (.list (p1.map (D.int .i64)))))), (1, (.one (.d (.list (p2.map (D.int .i64)))))), (2, (I p3)), (6, (.one (.ptr 0 0 0)))], [.cells [.d (.int .i64 0), .d (.int .i64 0)]]⟩ (by kernel_rfl) trivial ?_
    refine K_seq ?_
    refine K_seq ?_
    obtain ⟨x1, hx1, H⟩ := bind_some' H
    refine K_reg [.r (I x1) []] [evF X k n_ref12_Two [(.one (.d (.list (p1.map (D.int .i64))))), (.one (.d (.list (p2.map (D.int .i64))))), (I 0)] [] = some ((I x1), [])] ⟨[(0, (.one (.d (.list (p1.map (D.int .i64)))))), (1, (.one (.d (.list (p2.map (D.int .i64)))))), (2, (I p3)), (6, (.one (.ptr 0 0 0))), (8, (I x1))], [.cells [.d (.int .i64 0), .d (.int .i64 0)]]⟩ (by kernel_rfl) (A1 (T_ref12_Two_ok k p1 p2 0 x1 hx1)) ?_
    refine K_seq ?_
    refine K_reg [] [] ⟨[(0, (.one (.d (.list (p1.map (D.int .i64)))))), (1, (.one (.d (.list (p2.map (D.int .i64)))))), (2, (I p3)), (6, (.one (.ptr 0 0 0))), (8, (I x1)), (15, (B (!decide (x1 = 0))))], [.cells [.d (.int .i64 0), .d (.int .i64 0)]]⟩ (by kernel_rfl) trivial ?_
    rcases ite_some H with ⟨hx2, H⟩ | ⟨hx2, H⟩
    · refine K_t rfl hx2 ?_
      refine K_seq ?_
      refine K_reg [] [] ⟨[(6, (.one (.ptr 0 0 0))), (7, (I x1))], [.cells [.d (.int .i64 0), .d (.int .i64 0)]]⟩ (by kernel_rfl) trivial ?_
      refine K_gh ⟨[(6, (.one (.ptr 0 0 0))), (7, (I x1))], [.cells [.d (.int .i64 0), .d (.int .i64 0)]]⟩ (by kernel_rfl) ?_
      cases H
      refine K_ret ?_
      kernel_rfl
    · refine K_f rfl (Bool.eq_false_iff.2 hx2) ?_
      refine K_gh ⟨[(0, (.one (.d (.list (p1.map (D.int .i64)))))), (1, (.one (.d (.list (p2.map (D.int .i64)))))), (2, (I p3)), (6, (.one (.ptr 0 0 0)))], [.cells [.d (.int .i64 0), .d (.int .i64 0)]]⟩ (by kernel_rfl) ?_
      refine K_skip ?_
      refine K_seq ?_
      obtain ⟨x3, hx3, H⟩ := bind_some' H
      refine K_reg [.n p1.length, .r (.tup [(false, [.d (.list (x3.1.map (D.int .i64)))]), (false, [.d (.int .i64 x3.2)])]) []] [((p1.map (D.int .i64))).length = p1.length, evF X k n_ref18_Starts [(I (p1.length : Int)), (I p3)] [] = some ((.tup [(false, [.d (.list (x3.1.map (D.int .i64)))]), (false, [.d (.int .i64 x3.2)])]), [])] ⟨[(0, (.one (.d (.list (p1.map (D.int .i64)))))), (1, (.one (.d (.list (p2.map (D.int .i64)))))), (6, (.one (.ptr 0 0 0))), (9, (.one (.d (.list (x3.1.map (D.int .i64)))))), (10, (I x3.2))], [.cells [.d (.int .i64 0), .d (.int .i64 0)]]⟩ (by kernel_rfl) (AC (List.length_map _) (A1 (T_ref18_Starts_ok k (p1.length : Int) p3 x3 hx3))) ?_
      refine K_seq ?_
      refine K_seq ?_
      refine K_reg [] [] ⟨[(0, (.one (.d (.list (p1.map (D.int .i64)))))), (1, (.one (.d (.list (p2.map (D.int .i64)))))), (6, (.one (.ptr 0 0 0))), (9, (.one (.d (.list (x3.1.map (D.int .i64)))))), (10, (I x3.2)), (26, (B (!decide (x3.2 = 0))))], [.cells [.d (.int .i64 0), .d (.int .i64 0)]]⟩ (by kernel_rfl) trivial ?_
      rcases ite_some H with ⟨hx4, H⟩ | ⟨hx4, H⟩
      · refine K_t rfl hx4 ?_
        refine K_seq ?_
        refine K_reg [] [] ⟨[(6, (.one (.ptr 0 0 0))), (7, (I x3.2))], [.cells [.d (.int .i64 0), .d (.int .i64 0)]]⟩ (by kernel_rfl) trivial ?_
        refine K_gh ⟨[(6, (.one (.ptr 0 0 0))), (7, (I x3.2))], [.cells [.d (.int .i64 0), .d (.int .i64 0)]]⟩ (by kernel_rfl) ?_
        cases H
        refine K_ret ?_
        kernel_rfl
      · refine K_f rfl (Bool.eq_false_iff.2 hx4) ?_
        refine K_gh ⟨[(0, (.one (.d (.list (p1.map (D.int .i64)))))), (1, (.one (.d (.list (p2.map (D.int .i64)))))), (6, (.one (.ptr 0 0 0))), (9, (.one (.d (.list (x3.1.map (D.int .i64))))))], [.cells [.d (.int .i64 0), .d (.int .i64 0)]]⟩ (by kernel_rfl) ?_
        refine K_skip ?_
        refine K_seq ?_
        obtain ⟨x5, hx5, H⟩ := bind_some' H
        obtain ⟨x6, hx6, H⟩ := bind_some' H
        obtain ⟨x7, hx7, H⟩ := bind_some' H
        obtain ⟨x8, hx8, H⟩ := bind_some' H
        refine K_reg [.r (.one (.d (.list (x5.map (D.int .i64))))) [], .r (.one (.d (.list (x6.map (D.int .i64))))) [], .r (.one (.d (.list (x7.map (D.int .i64))))) [], .r (.agg [.d (.int .i64 x8.1), .d (.int .i64 x8.2)]) []] [evF X k n_ref18_Fold [(.one (.d (.list (p1.map (D.int .i64))))), (.one (.d (.list (x3.1.map (D.int .i64)))))] [] = some ((.one (.d (.list (x5.map (D.int .i64))))), []), evF X k n_ref18_Fold [(.one (.d (.list (p2.map (D.int .i64))))), (.one (.d (.list (x3.1.map (D.int .i64)))))] [] = some ((.one (.d (.list (x6.map (D.int .i64))))), []), evF X k n_ref18_differences [(.one (.d (.list (x5.map (D.int .i64))))), (.one (.d (.list (x6.map (D.int .i64)))))] [] = some ((.one (.d (.list (x7.map (D.int .i64))))), []), evF X k n_ref18_Squares [(.one (.d (.list (x7.map (D.int .i64))))), (.one (.d (.list (x3.1.map (D.int .i64))))), (I 1)] [] = some ((.agg [.d (.int .i64 x8.1), .d (.int .i64 x8.2)]), [])] ⟨[(6, (.one (.ptr 0 0 0))), (7, (I 0))], [.cells [.d (.int .i64 x8.1), .d (.int .i64 x8.2)]]⟩ (by kernel_rfl) (AC (T_ref18_Fold_ok k p1 x3.1 x5 hx5) (AC (T_ref18_Fold_ok k p2 x3.1 x6 hx6) (AC (T_ref18_differences_ok k x5 x6 x7 hx7) (A1 (T_ref18_Squares_ok k x7 x3.1 1 x8 hx8))))) ?_
        refine K_gh ⟨[(6, (.one (.ptr 0 0 0))), (7, (I 0))], [.cells [.d (.int .i64 x8.1), .d (.int .i64 x8.2)]]⟩ (by kernel_rfl) ?_
        cases H
        refine K_ret ?_
        kernel_rfl
def T_pieces_squares_v2_r1 (k : Nat) (p3 : Int) (p4 : Int) (x9 : Int) (x14 : List Int) (x16 : List Int) (x19 x20 x21 : Int) (x27 : Int × Int × Int) : Option ((Int × Int × Int) ⊕ (Int × Int × Int × Int)) :=
  ((at? x14 x19).bind fun x28 => (at? x16 x19).bind fun x29 => (T_ratio_Make k (w64 ((w64 (x28 - x29)) * (w64 (x28 - x29)))) (w64 (p4 * (w64 (x21 - x20))))).bind fun x30 => (T_ratio_Add k x27.2.1 x27.2.2 x30.1 x30.2.1).bind fun x31 => (if (!decide (x31.2.2 = 0)) = true then some (.inr (x31.2.2, x31.2.2, x31.1, x31.2.1)) else some (.inl (x31.2.2, x31.1, x31.2.1))))
theorem T_pieces_squares_v2_r1_ok (k : Nat) (p3 : Int) (p4 : Int) (x9 : Int) (x14 : List Int) (x16 : List Int) : ∀ (x19 x20 x21 : Int) (x27 : Int × Int × Int) (x : (Int × Int × Int) ⊕ (Int × Int × Int × Int)), T_pieces_squares_v2_r1 k p3 p4 x9 x14 x16 x19 x20 x21 x27 = some x → roundM (fun b' => evC X (evF X k) k b' l_pieces_squares_r1a) (fun b' => evC X (evF X k) k b' l_pieces_squares_r1b) 0 [60, 61] [.gc] [I x19, .agg [.d (.int .i64 x20), .d (.int .i64 x21)]] (.normal, ⟨[(8, (.one (.ptr 0 0 0))), (10, (.one (.ptr 1 0 0))), (11, (.one (.ptr 2 0 0))), (14, (.one (.ptr 3 0 0))), (15, (.one (.ptr 4 0 0))), (16, (.one (.ptr 5 0 0))), (17, (.one (.ptr 6 0 0))), (59, (.one (.d (.fn (.func n_pieces_all_1) [.ref [.int .i64 p3], .ref [.int .i64 x9]]))))], [.cells [.d (.int .i64 p4)], .cells [.d (.int .i64 0), .d (.int .i64 0)], .cells [.d (.int .i64 0)], .cells [.d (.list (x14.map (D.int .i64)))], .cells [.d (.int .i64 x27.1)], .cells [.d (.list (x16.map (D.int .i64)))], .cells [.d (.int .i64 x27.2.1), .d (.int .i64 x27.2.2)]]⟩) = some (Sum.elim (fun (s : Int × Int × Int) => (true, (.normal, ⟨[(8, (.one (.ptr 0 0 0))), (10, (.one (.ptr 1 0 0))), (11, (.one (.ptr 2 0 0))), (14, (.one (.ptr 3 0 0))), (15, (.one (.ptr 4 0 0))), (16, (.one (.ptr 5 0 0))), (17, (.one (.ptr 6 0 0))), (59, (.one (.d (.fn (.func n_pieces_all_1) [.ref [.int .i64 p3], .ref [.int .i64 x9]]))))], [.cells [.d (.int .i64 p4)], .cells [.d (.int .i64 0), .d (.int .i64 0)], .cells [.d (.int .i64 0)], .cells [.d (.list (x14.map (D.int .i64)))], .cells [.d (.int .i64 s.1)], .cells [.d (.list (x16.map (D.int .i64)))], .cells [.d (.int .i64 s.2.1), .d (.int .i64 s.2.2)]]⟩))) (fun (r : Int × Int × Int × Int) => (false, (.ret, ⟨[(8, (.one (.ptr 0 0 0))), (10, (.one (.ptr 1 0 0))), (11, (.one (.ptr 2 0 0))), (14, (.one (.ptr 3 0 0))), (15, (.one (.ptr 4 0 0))), (16, (.one (.ptr 5 0 0))), (17, (.one (.ptr 6 0 0))), (59, (.one (.d (.fn (.func n_pieces_all_1) [.ref [.int .i64 p3], .ref [.int .i64 x9]]))))], [.cells [.d (.int .i64 p4)], .cells [.d (.int .i64 0), .d (.int .i64 0)], .cells [.d (.int .i64 r.1)], .cells [.d (.list (x14.map (D.int .i64)))], .cells [.d (.int .i64 r.2.1)], .cells [.d (.list (x16.map (D.int .i64)))], .cells [.d (.int .i64 r.2.2.1), .d (.int .i64 r.2.2.2)]]⟩))) x) := by
  intro x19 x20 x21 x27 x H
  unfold T_pieces_squares_v2_r1 at H
  refine R_as rfl ?_
  refine K_seq ?_
  refine K_reg [] [] ⟨[(8, (.one (.ptr 0 0 0))), (10, (.one (.ptr 1 0 0))), (11, (.one (.ptr 2 0 0))), (14, (.one (.ptr 3 0 0))), (15, (.one (.ptr 4 0 0))), (16, (.one (.ptr 5 0 0))), (17, (.one (.ptr 6 0 0))), (18, (I x19)), (61, (.agg [.d (.int .i64 x20), .d (.int .i64 x21)]))], [.cells [.d (.int .i64 p4)], .cells [.d (.int .i64 0), .d (.int .i64 0)], .cells [.d (.int .i64 0)], .cells [.d (.list (x14.map (D.int .i64)))], .cells [.d (.int .i64 x27.1)], .cells [.d (.list (x16.map (D.int .i64)))], .cells [.d (.int .i64 x27.2.1), .d (.int .i64 x27.2.2)]]⟩ (by kernel_rfl) trivial ?_
  refine K_reg [] [] ⟨[(8, (.one (.ptr 0 0 0))), (10, (.one (.ptr 1 0 0))), (11, (.one (.ptr 2 0 0))), (14, (.one (.ptr 3 0 0))), (15, (.one (.ptr 4 0 0))), (16, (.one (.ptr 5 0 0))), (17, (.one (.ptr 6 0 0))), (18, (I x19)), (19, (.one (.ptr 7 0 0)))], [.cells [.d (.int .i64 p4)], .cells [.d (.int .i64 0), .d (.int .i64 0)], .cells [.d (.int .i64 0)], .cells [.d (.list (x14.map (D.int .i64)))], .cells [.d (.int .i64 x27.1)], .cells [.d (.list (x16.map (D.int .i64)))], .cells [.d (.int .i64 x27.2.1), .d (.int .i64 x27.2.2)], .cells [.d (.int .i64 x20), .d (.int .i64 x21)]]⟩ (by kernel_rfl) trivial ?_
  refine K_end (R_body ?_)
  refine K_block ?_
  refine K_seq ?_
  obtain ⟨x28, hx28, H⟩ := bind_some' H
  obtain ⟨x29, hx29, H⟩ := bind_some' H
  refine K_reg [.l [.int .i64 x28], .l [.int .i64 x29]] [(0 : Int) ≤ x19 ∧ x19 < (((x14.map (D.int .i64))).length : Int), ((x14.map (D.int .i64)).getD x19.toNat (.int .i64 0)).cells = [.int .i64 x28], (0 : Int) ≤ x19 ∧ x19 < (((x16.map (D.int .i64))).length : Int), ((x16.map (D.int .i64)).getD x19.toNat (.int .i64 0)).cells = [.int .i64 x29]] ⟨[(8, (.one (.ptr 0 0 0))), (10, (.one (.ptr 1 0 0))), (11, (.one (.ptr 2 0 0))), (15, (.one (.ptr 4 0 0))), (17, (.one (.ptr 6 0 0))), (19, (.one (.ptr 7 0 0))), (20, (I (w64 (x28 - x29))))], [.cells [.d (.int .i64 p4)], .cells [.d (.int .i64 0), .d (.int .i64 0)], .cells [.d (.int .i64 0)], .cells [.d (.list (x14.map (D.int .i64)))], .cells [.d (.int .i64 x27.1)], .cells [.d (.list (x16.map (D.int .i64)))], .cells [.d (.int .i64 x27.2.1), .d (.int .i64 x27.2.2)], .cells [.d (.int .i64 x20), .d (.int .i64 x21)]]⟩ (by kernel_rfl) (AC (at_ok hx28 (D.int .i64) (.int .i64 0)).1 (AC (at_ok hx28 (D.int .i64) (.int .i64 0)).2 (AC (at_ok hx29 (D.int .i64) (.int .i64 0)).1 (A1 (at_ok hx29 (D.int .i64) (.int .i64 0)).2)))) ?_
  refine K_seq ?_
  obtain ⟨x30, hx30, H⟩ := bind_some' H
  refine K_reg [.r (.tup [(true, [.d (.int .i64 x30.1), .d (.int .i64 x30.2.1)]), (false, [.d (.int .i64 x30.2.2)])]) []] [evF X k n_ratio_Make [(I (w64 ((w64 (x28 - x29)) * (w64 (x28 - x29))))), (I (w64 (p4 * (w64 (x21 - x20)))))] [] = some ((.tup [(true, [.d (.int .i64 x30.1), .d (.int .i64 x30.2.1)]), (false, [.d (.int .i64 x30.2.2)])]), [])] ⟨[(10, (.one (.ptr 1 0 0))), (11, (.one (.ptr 2 0 0))), (15, (.one (.ptr 4 0 0))), (17, (.one (.ptr 6 0 0))), (21, (.one (.ptr 8 0 0)))], [.cells [.d (.int .i64 p4)], .cells [.d (.int .i64 0), .d (.int .i64 0)], .cells [.d (.int .i64 0)], .cells [.d (.list (x14.map (D.int .i64)))], .cells [.d (.int .i64 x27.1)], .cells [.d (.list (x16.map (D.int .i64)))], .cells [.d (.int .i64 x27.2.1), .d (.int .i64 x27.2.2)], .cells [.d (.int .i64 x20), .d (.int .i64 x21)], .cells [.d (.int .i64 x30.1), .d (.int .i64 x30.2.1)]]⟩ (by kernel_rfl) (A1 (T_ratio_Make_ok k (w64 ((w64 (x28 - x29)) * (w64 (x28 - x29)))) (w64 (p4 * (w64 (x21 - x20)))) x30 hx30)) ?_
  refine K_seq ?_
  obtain ⟨x31, hx31, H⟩ := bind_some' H
  refine K_reg [.r (.tup [(true, [.d (.int .i64 x31.1), .d (.int .i64 x31.2.1)]), (false, [.d (.int .i64 x31.2.2)])]) []] [evF X k n_ratio_Add [(.agg [.d (.int .i64 x27.2.1), .d (.int .i64 x27.2.2)]), (.agg [.d (.int .i64 x30.1), .d (.int .i64 x30.2.1)])] [] = some ((.tup [(true, [.d (.int .i64 x31.1), .d (.int .i64 x31.2.1)]), (false, [.d (.int .i64 x31.2.2)])]), [])] ⟨[(10, (.one (.ptr 1 0 0))), (11, (.one (.ptr 2 0 0))), (15, (.one (.ptr 4 0 0)))], [.cells [.d (.int .i64 p4)], .cells [.d (.int .i64 0), .d (.int .i64 0)], .cells [.d (.int .i64 0)], .cells [.d (.list (x14.map (D.int .i64)))], .cells [.d (.int .i64 x31.2.2)], .cells [.d (.list (x16.map (D.int .i64)))], .cells [.d (.int .i64 x31.1), .d (.int .i64 x31.2.1)], .cells [.d (.int .i64 x20), .d (.int .i64 x21)]]⟩ (by kernel_rfl) (A1 (T_ratio_Add_ok k x27.2.1 x27.2.2 x30.1 x30.2.1 x31 hx31)) ?_
  refine K_seq ?_
  refine K_reg [] [] ⟨[(10, (.one (.ptr 1 0 0))), (11, (.one (.ptr 2 0 0))), (15, (.one (.ptr 4 0 0))), (92, (B (!decide (x31.2.2 = 0))))], [.cells [.d (.int .i64 p4)], .cells [.d (.int .i64 0), .d (.int .i64 0)], .cells [.d (.int .i64 0)], .cells [.d (.list (x14.map (D.int .i64)))], .cells [.d (.int .i64 x31.2.2)], .cells [.d (.list (x16.map (D.int .i64)))], .cells [.d (.int .i64 x31.1), .d (.int .i64 x31.2.1)], .cells [.d (.int .i64 x20), .d (.int .i64 x21)]]⟩ (by kernel_rfl) trivial ?_
  rcases ite_some H with ⟨hx32, H⟩ | ⟨hx32, H⟩
  · refine K_t rfl hx32 ?_
    refine K_seq ?_
    refine K_regD [] [(⟨[(10, (.one (.ptr 1 0 0))), (11, (.one (.ptr 2 0 0)))], [.cells [.d (.int .i64 p4)], .cells [.d (.int .i64 0), .d (.int .i64 0)], .cells [.d (.int .i64 x31.2.2)], .cells [.d (.list (x14.map (D.int .i64)))], .cells [.d (.int .i64 x31.2.2)], .cells [.d (.list (x16.map (D.int .i64)))], .cells [.d (.int .i64 x31.1), .d (.int .i64 x31.2.1)], .cells [.d (.int .i64 x20), .d (.int .i64 x21)]]⟩ : St) = ⟨[(10, (.one (.ptr 1 0 0))), (11, (.one (.ptr 2 0 0)))], [.cells [.d (.int .i64 p4)], .cells [.d (.int .i64 0), .d (.int .i64 0)], .cells [.d (.int .i64 x31.2.2)], .cells [.d (.list (x14.map (D.int .i64)))], .cells [.d (.int .i64 x31.2.2)], .cells [.d (.list (x16.map (D.int .i64)))], .cells [.d (.int .i64 x31.1), .d (.int .i64 x31.2.1)], .cells [.d (.int .i64 x20), .d (.int .i64 x21)]]⟩] ⟨[(10, (.one (.ptr 1 0 0))), (11, (.one (.ptr 2 0 0)))], [.cells [.d (.int .i64 p4)], .cells [.d (.int .i64 0), .d (.int .i64 0)], .cells [.d (.int .i64 x31.2.2)], .cells [.d (.list (x14.map (D.int .i64)))], .cells [.d (.int .i64 x31.2.2)], .cells [.d (.list (x16.map (D.int .i64)))], .cells [.d (.int .i64 x31.1), .d (.int .i64 x31.2.1)], .cells [.d (.int .i64 x20), .d (.int .i64 x21)]]⟩ (by kernel_rfl) (A1 rfl) ?_
    refine K_gh ⟨[(10, (.one (.ptr 1 0 0))), (11, (.one (.ptr 2 0 0)))], [.cells [.d (.int .i64 p4)], .cells [.d (.int .i64 0), .d (.int .i64 0)], .cells [.d (.int .i64 x31.2.2)], .cells [.d (.list (x14.map (D.int .i64)))], .cells [.d (.int .i64 x31.2.2)], .cells [.d (.list (x16.map (D.int .i64)))], .cells [.d (.int .i64 x31.1), .d (.int .i64 x31.2.1)], .cells [.d (.int .i64 x20), .d (.int .i64 x21)]]⟩ (by kernel_rfl) ?_
    cases H
    exact K_ret (R_end ⟨[(8, (.one (.ptr 0 0 0))), (10, (.one (.ptr 1 0 0))), (11, (.one (.ptr 2 0 0))), (14, (.one (.ptr 3 0 0))), (15, (.one (.ptr 4 0 0))), (16, (.one (.ptr 5 0 0))), (17, (.one (.ptr 6 0 0))), (59, (.one (.d (.fn (.func n_pieces_all_1) [.ref [.int .i64 p3], .ref [.int .i64 x9]]))))], [.cells [.d (.int .i64 p4)], .cells [.d (.int .i64 0), .d (.int .i64 0)], .cells [.d (.int .i64 x31.2.2)], .cells [.d (.list (x14.map (D.int .i64)))], .cells [.d (.int .i64 x31.2.2)], .cells [.d (.list (x16.map (D.int .i64)))], .cells [.d (.int .i64 x31.1), .d (.int .i64 x31.2.1)]]⟩ (by kernel_rfl) rfl)
  · refine K_f rfl (Bool.eq_false_iff.2 hx32) ?_
    refine K_gh ⟨[], [.cells [.d (.int .i64 p4)], .cells [.d (.int .i64 0), .d (.int .i64 0)], .cells [.d (.int .i64 0)], .cells [.d (.list (x14.map (D.int .i64)))], .cells [.d (.int .i64 x31.2.2)], .cells [.d (.list (x16.map (D.int .i64)))], .cells [.d (.int .i64 x31.1), .d (.int .i64 x31.2.1)], .cells [.d (.int .i64 x20), .d (.int .i64 x21)]]⟩ (by kernel_rfl) ?_
    refine K_skip ?_
    refine K_blk ?_
    cases H
    exact K_end (R_end ⟨[(8, (.one (.ptr 0 0 0))), (10, (.one (.ptr 1 0 0))), (11, (.one (.ptr 2 0 0))), (14, (.one (.ptr 3 0 0))), (15, (.one (.ptr 4 0 0))), (16, (.one (.ptr 5 0 0))), (17, (.one (.ptr 6 0 0))), (59, (.one (.d (.fn (.func n_pieces_all_1) [.ref [.int .i64 p3], .ref [.int .i64 x9]]))))], [.cells [.d (.int .i64 p4)], .cells [.d (.int .i64 0), .d (.int .i64 0)], .cells [.d (.int .i64 0)], .cells [.d (.list (x14.map (D.int .i64)))], .cells [.d (.int .i64 x31.2.2)], .cells [.d (.list (x16.map (D.int .i64)))], .cells [.d (.int .i64 x31.1), .d (.int .i64 x31.2.1)]]⟩ (by kernel_rfl) rfl)
def T_pieces_squares_v2 (k : Nat) (p1 : List Int) (p2 : List Int) (p3 : Int) (p4 : Int) : Option (Int × Int × Int) := match k with
  | 0 => none
  | k + 1 => ((T_euclid_Distance k p1 p2).bind fun x1 => (if (!decide (x1.2 = 0)) = true then some (0, 0, x1.2) else ((T_pieces_Centred k p1 p3).bind fun x3 => (if (!decide (x3.2 = 0)) = true then some (0, 0, x3.2) else ((T_pieces_Centred k p2 p3).bind fun x5 => (if (!decide (x5.2 = 0)) = true then some (0, 0, x5.2) else ((T_pieces_all k (p1.length : Int) p3).bind fun x7 => (allT (T_pieces_squares_v2_r1 k p3 p4 (p1.length : Int) x3.1 x5.1) (p1.length : Int) p3 k 0 (x5.2, 0, 1)).bind fun x33 => (match x33 with | .inl x34 => some (x34.2.1, x34.2.2, 0) | .inr x35 => some (0, 0, x35.1)))))))))
theorem T_pieces_squares_v2_ok (k : Nat) (p1 : List Int) (p2 : List Int) (p3 : Int) (p4 : Int) (r : Int × Int × Int) : T_pieces_squares_v2 k p1 p2 p3 p4 = some r → evF X k n_pieces_squares [(.one (.d (.list (p1.map (D.int .i64))))), (.one (.d (.list (p2.map (D.int .i64))))), (I p3), (I p4), (.one (.fn (.func n_pieces_Centred) []))] [] = some ((.tup [(true, [.d (.int .i64 r.1), .d (.int .i64 r.2.1)]), (false, [.d (.int .i64 r.2.2)])]), []) := by
  intro H
  cases k with
  | zero => simp [T_pieces_squares_v2] at H
  | succ k =>
    simp only [T_pieces_squares_v2] at H
    refine F_in X_pieces_squares rfl ?_
    refine K_seq ?_
    refine K_reg [] [] ⟨[(0, (.one (.d (.list (p1.map (D.int .i64)))))), (1, (.one (.d (.list (p2.map (D.int .i64)))))), (2, (I p3)), (4, (.one (.fn (.func n_pieces_Centred) []))), (8, (.one (.ptr 0 0 0))), (10, (.one (.ptr 1 0 0))), (11, (.one (.ptr 2 0 0)))], [.cells [.d (.int .i64 p4)], .cells [.d (.int .i64 0), .d (.int .i64 0)], .cells [.d (.int .i64 0)]]⟩ (by kernel_rfl) trivial ?_
    refine K_seq ?_
    refine K_seq ?_
    obtain ⟨x1, hx1, H⟩ := bind_some' H
    refine K_reg [.r (.tup [(false, [.d (.int .i64 x1.1)]), (false, [.d (.int .i64 x1.2)])]) []] [evF X k n_euclid_Distance [(.one (.d (.list (p1.map (D.int .i64))))), (.one (.d (.list (p2.map (D.int .i64)))))] [] = some ((.tup [(false, [.d (.int .i64 x1.1)]), (false, [.d (.int .i64 x1.2)])]), [])] ⟨[(0, (.one (.d (.list (p1.map (D.int .i64)))))), (1, (.one (.d (.list (p2.map (D.int .i64)))))), (2, (I p3)), (4, (.one (.fn (.func n_pieces_Centred) []))), (8, (.one (.ptr 0 0 0))), (10, (.one (.ptr 1 0 0))), (11, (.one (.ptr 2 0 0))), (13, (I x1.2))], [.cells [.d (.int .i64 p4)], .cells [.d (.int .i64 0), .d (.int .i64 0)], .cells [.d (.int .i64 0)]]⟩ (by kernel_rfl) (A1 (T_euclid_Distance_ok k p1 p2 x1 hx1)) ?_
    refine K_seq ?_
    refine K_reg [] [] ⟨[(0, (.one (.d (.list (p1.map (D.int .i64)))))), (1, (.one (.d (.list (p2.map (D.int .i64)))))), (2, (I p3)), (4, (.one (.fn (.func n_pieces_Centred) []))), (8, (.one (.ptr 0 0 0))), (10, (.one (.ptr 1 0 0))), (11, (.one (.ptr 2 0 0))), (13, (I x1.2)), (30, (B (!decide (x1.2 = 0))))], [.cells [.d (.int .i64 p4)], .cells [.d (.int .i64 0), .d (.int .i64 0)], .cells [.d (.int .i64 0)]]⟩ (by kernel_rfl) trivial ?_
    rcases ite_some H with ⟨hx2, H⟩ | ⟨hx2, H⟩
    · refine K_t rfl hx2 ?_
      refine K_seq ?_
      refine K_reg [] [] ⟨[(10, (.one (.ptr 0 0 0))), (11, (.one (.ptr 1 0 0)))], [.cells [.d (.int .i64 0), .d (.int .i64 0)], .cells [.d (.int .i64 x1.2)]]⟩ (by kernel_rfl) trivial ?_
      refine K_gh ⟨[(10, (.one (.ptr 0 0 0))), (11, (.one (.ptr 1 0 0)))], [.cells [.d (.int .i64 0), .d (.int .i64 0)], .cells [.d (.int .i64 x1.2)]]⟩ (by kernel_rfl) ?_
      cases H
      refine K_ret ?_
      kernel_rfl
    · refine K_f rfl (Bool.eq_false_iff.2 hx2) ?_
      refine K_gh ⟨[(0, (.one (.d (.list (p1.map (D.int .i64)))))), (1, (.one (.d (.list (p2.map (D.int .i64)))))), (2, (I p3)), (4, (.one (.fn (.func n_pieces_Centred) []))), (8, (.one (.ptr 0 0 0))), (10, (.one (.ptr 1 0 0))), (11, (.one (.ptr 2 0 0)))], [.cells [.d (.int .i64 p4)], .cells [.d (.int .i64 0), .d (.int .i64 0)], .cells [.d (.int .i64 0)]]⟩ (by kernel_rfl) ?_
      refine K_skip ?_
      refine K_seq ?_
      obtain ⟨x3, hx3, H⟩ := bind_some' H
      refine K_reg [.r (.tup [(false, [.d (.list (x3.1.map (D.int .i64)))]), (false, [.d (.int .i64 x3.2)])]) []] [evF X k n_pieces_Centred [(.one (.d (.list (p1.map (D.int .i64))))), (I p3)] [] = some ((.tup [(false, [.d (.list (x3.1.map (D.int .i64)))]), (false, [.d (.int .i64 x3.2)])]), [])] ⟨[(0, (.one (.d (.list (p1.map (D.int .i64)))))), (1, (.one (.d (.list (p2.map (D.int .i64)))))), (2, (I p3)), (4, (.one (.fn (.func n_pieces_Centred) []))), (8, (.one (.ptr 0 0 0))), (10, (.one (.ptr 1 0 0))), (11, (.one (.ptr 2 0 0))), (14, (.one (.ptr 3 0 0))), (15, (.one (.ptr 4 0 0)))], [.cells [.d (.int .i64 p4)], .cells [.d (.int .i64 0), .d (.int .i64 0)], .cells [.d (.int .i64 0)], .cells [.d (.list (x3.1.map (D.int .i64)))], .cells [.d (.int .i64 x3.2)]]⟩ (by kernel_rfl) (A1 (T_pieces_Centred_ok k p1 p3 x3 hx3)) ?_
      refine K_seq ?_
      refine K_seq ?_
      refine K_reg [] [] ⟨[(0, (.one (.d (.list (p1.map (D.int .i64)))))), (1, (.one (.d (.list (p2.map (D.int .i64)))))), (2, (I p3)), (4, (.one (.fn (.func n_pieces_Centred) []))), (8, (.one (.ptr 0 0 0))), (10, (.one (.ptr 1 0 0))), (11, (.one (.ptr 2 0 0))), (14, (.one (.ptr 3 0 0))), (15, (.one (.ptr 4 0 0))), (41, (B (!decide (x3.2 = 0))))], [.cells [.d (.int .i64 p4)], .cells [.d (.int .i64 0), .d (.int .i64 0)], .cells [.d (.int .i64 0)], .cells [.d (.list (x3.1.map (D.int .i64)))], .cells [.d (.int .i64 x3.2)]]⟩ (by kernel_rfl) trivial ?_
      rcases ite_some H with ⟨hx4, H⟩ | ⟨hx4, H⟩
      · refine K_t rfl hx4 ?_
        refine K_seq ?_
        refine K_regD [] [(⟨[(10, (.one (.ptr 0 0 0))), (11, (.one (.ptr 1 0 0)))], [.cells [.d (.int .i64 0), .d (.int .i64 0)], .cells [.d (.int .i64 x3.2)]]⟩ : St) = ⟨[(10, (.one (.ptr 0 0 0))), (11, (.one (.ptr 1 0 0)))], [.cells [.d (.int .i64 0), .d (.int .i64 0)], .cells [.d (.int .i64 x3.2)]]⟩] ⟨[(10, (.one (.ptr 0 0 0))), (11, (.one (.ptr 1 0 0)))], [.cells [.d (.int .i64 0), .d (.int .i64 0)], .cells [.d (.int .i64 x3.2)]]⟩ (by kernel_rfl) (A1 rfl) ?_
        refine K_gh ⟨[(10, (.one (.ptr 0 0 0))), (11, (.one (.ptr 1 0 0)))], [.cells [.d (.int .i64 0), .d (.int .i64 0)], .cells [.d (.int .i64 x3.2)]]⟩ (by kernel_rfl) ?_
        cases H
        refine K_ret ?_
        kernel_rfl
      · refine K_f rfl (Bool.eq_false_iff.2 hx4) ?_
        refine K_gh ⟨[(0, (.one (.d (.list (p1.map (D.int .i64)))))), (1, (.one (.d (.list (p2.map (D.int .i64)))))), (2, (I p3)), (4, (.one (.fn (.func n_pieces_Centred) []))), (8, (.one (.ptr 0 0 0))), (10, (.one (.ptr 1 0 0))), (11, (.one (.ptr 2 0 0))), (14, (.one (.ptr 3 0 0))), (15, (.one (.ptr 4 0 0)))], [.cells [.d (.int .i64 p4)], .cells [.d (.int .i64 0), .d (.int .i64 0)], .cells [.d (.int .i64 0)], .cells [.d (.list (x3.1.map (D.int .i64)))], .cells [.d (.int .i64 x3.2)]]⟩ (by kernel_rfl) ?_
        refine K_skip ?_
        refine K_seq ?_
        obtain ⟨x5, hx5, H⟩ := bind_some' H
        refine K_reg [.r (.tup [(false, [.d (.list (x5.1.map (D.int .i64)))]), (false, [.d (.int .i64 x5.2)])]) []] [evF X k n_pieces_Centred [(.one (.d (.list (p2.map (D.int .i64))))), (I p3)] [] = some ((.tup [(false, [.d (.list (x5.1.map (D.int .i64)))]), (false, [.d (.int .i64 x5.2)])]), [])] ⟨[(0, (.one (.d (.list (p1.map (D.int .i64)))))), (2, (I p3)), (8, (.one (.ptr 0 0 0))), (10, (.one (.ptr 1 0 0))), (11, (.one (.ptr 2 0 0))), (14, (.one (.ptr 3 0 0))), (15, (.one (.ptr 4 0 0))), (16, (.one (.ptr 5 0 0)))], [.cells [.d (.int .i64 p4)], .cells [.d (.int .i64 0), .d (.int .i64 0)], .cells [.d (.int .i64 0)], .cells [.d (.list (x3.1.map (D.int .i64)))], .cells [.d (.int .i64 x5.2)], .cells [.d (.list (x5.1.map (D.int .i64)))]]⟩ (by kernel_rfl) (A1 (T_pieces_Centred_ok k p2 p3 x5 hx5)) ?_
        refine K_seq ?_
        refine K_seq ?_
        refine K_reg [] [] ⟨[(0, (.one (.d (.list (p1.map (D.int .i64)))))), (2, (I p3)), (8, (.one (.ptr 0 0 0))), (10, (.one (.ptr 1 0 0))), (11, (.one (.ptr 2 0 0))), (14, (.one (.ptr 3 0 0))), (15, (.one (.ptr 4 0 0))), (16, (.one (.ptr 5 0 0))), (52, (B (!decide (x5.2 = 0))))], [.cells [.d (.int .i64 p4)], .cells [.d (.int .i64 0), .d (.int .i64 0)], .cells [.d (.int .i64 0)], .cells [.d (.list (x3.1.map (D.int .i64)))], .cells [.d (.int .i64 x5.2)], .cells [.d (.list (x5.1.map (D.int .i64)))]]⟩ (by kernel_rfl) trivial ?_
        rcases ite_some H with ⟨hx6, H⟩ | ⟨hx6, H⟩
        · refine K_t rfl hx6 ?_
          refine K_seq ?_
          refine K_regD [] [(⟨[(10, (.one (.ptr 0 0 0))), (11, (.one (.ptr 1 0 0)))], [.cells [.d (.int .i64 0), .d (.int .i64 0)], .cells [.d (.int .i64 x5.2)]]⟩ : St) = ⟨[(10, (.one (.ptr 0 0 0))), (11, (.one (.ptr 1 0 0)))], [.cells [.d (.int .i64 0), .d (.int .i64 0)], .cells [.d (.int .i64 x5.2)]]⟩] ⟨[(10, (.one (.ptr 0 0 0))), (11, (.one (.ptr 1 0 0)))], [.cells [.d (.int .i64 0), .d (.int .i64 0)], .cells [.d (.int .i64 x5.2)]]⟩ (by kernel_rfl) (A1 rfl) ?_
          refine K_gh ⟨[(10, (.one (.ptr 0 0 0))), (11, (.one (.ptr 1 0 0)))], [.cells [.d (.int .i64 0), .d (.int .i64 0)], .cells [.d (.int .i64 x5.2)]]⟩ (by kernel_rfl) ?_
          cases H
          refine K_ret ?_
          kernel_rfl
        · refine K_f rfl (Bool.eq_false_iff.2 hx6) ?_
          refine K_gh ⟨[(0, (.one (.d (.list (p1.map (D.int .i64)))))), (2, (I p3)), (8, (.one (.ptr 0 0 0))), (10, (.one (.ptr 1 0 0))), (11, (.one (.ptr 2 0 0))), (14, (.one (.ptr 3 0 0))), (15, (.one (.ptr 4 0 0))), (16, (.one (.ptr 5 0 0)))], [.cells [.d (.int .i64 p4)], .cells [.d (.int .i64 0), .d (.int .i64 0)], .cells [.d (.int .i64 0)], .cells [.d (.list (x3.1.map (D.int .i64)))], .cells [.d (.int .i64 x5.2)], .cells [.d (.list (x5.1.map (D.int .i64)))]]⟩ (by kernel_rfl) ?_
          refine K_skip ?_
          refine K_seq ?_
          refine K_reg [] [] ⟨[(0, (.one (.d (.list (p1.map (D.int .i64)))))), (2, (I p3)), (8, (.one (.ptr 0 0 0))), (10, (.one (.ptr 1 0 0))), (11, (.one (.ptr 2 0 0))), (14, (.one (.ptr 3 0 0))), (15, (.one (.ptr 4 0 0))), (16, (.one (.ptr 5 0 0))), (17, (.one (.ptr 6 0 0)))], [.cells [.d (.int .i64 p4)], .cells [.d (.int .i64 0), .d (.int .i64 0)], .cells [.d (.int .i64 0)], .cells [.d (.list (x3.1.map (D.int .i64)))], .cells [.d (.int .i64 x5.2)], .cells [.d (.list (x5.1.map (D.int .i64)))], .cells [.d (.int .i64 0), .d (.int .i64 1)]]⟩ (by kernel_rfl) trivial ?_
          refine K_seq ?_
          refine K_seq ?_
          obtain ⟨x7, hx7, H⟩ := bind_some' H
          refine K_reg [.n p1.length, .r (.one (.d (.fn (.func n_pieces_all_1) [.ref [.int .i64 p3], .ref [.int .i64 (p1.length : Int)]]))) []] [((p1.map (D.int .i64))).length = p1.length, evF X k n_pieces_all [(I (p1.length : Int)), (I p3)] [] = some ((.one (.d (.fn (.func n_pieces_all_1) [.ref [.int .i64 p3], .ref [.int .i64 (p1.length : Int)]]))), [])] ⟨[(8, (.one (.ptr 0 0 0))), (10, (.one (.ptr 1 0 0))), (11, (.one (.ptr 2 0 0))), (14, (.one (.ptr 3 0 0))), (15, (.one (.ptr 4 0 0))), (16, (.one (.ptr 5 0 0))), (17, (.one (.ptr 6 0 0))), (59, (.one (.d (.fn (.func n_pieces_all_1) [.ref [.int .i64 p3], .ref [.int .i64 (p1.length : Int)]]))))], [.cells [.d (.int .i64 p4)], .cells [.d (.int .i64 0), .d (.int .i64 0)], .cells [.d (.int .i64 0)], .cells [.d (.list (x3.1.map (D.int .i64)))], .cells [.d (.int .i64 x5.2)], .cells [.d (.list (x5.1.map (D.int .i64)))], .cells [.d (.int .i64 0), .d (.int .i64 1)]]⟩ (by kernel_rfl) (AC (List.length_map _) (A1 (T_pieces_all_ok k (p1.length : Int) p3 x7 hx7))) ?_
          refine K_block ?_
          obtain ⟨x33, hx33, H⟩ := bind_some' H
          cases x33 with
          | inl x34 =>
            dsimp only at H
            refine K_of ⟨[(8, (.one (.ptr 0 0 0))), (10, (.one (.ptr 1 0 0))), (11, (.one (.ptr 2 0 0))), (14, (.one (.ptr 3 0 0))), (15, (.one (.ptr 4 0 0))), (16, (.one (.ptr 5 0 0))), (17, (.one (.ptr 6 0 0))), (59, (.one (.d (.fn (.func n_pieces_all_1) [.ref [.int .i64 p3], .ref [.int .i64 (p1.length : Int)]]))))], [.cells [.d (.int .i64 p4)], .cells [.d (.int .i64 0), .d (.int .i64 0)], .cells [.d (.int .i64 0)], .cells [.d (.list (x3.1.map (D.int .i64)))], .cells [.d (.int .i64 x34.1)], .cells [.d (.list (x5.1.map (D.int .i64)))], .cells [.d (.int .i64 x34.2.1), .d (.int .i64 x34.2.2)]]⟩ (range_ok (fun (s : Int × Int × Int) => ⟨[(8, (.one (.ptr 0 0 0))), (10, (.one (.ptr 1 0 0))), (11, (.one (.ptr 2 0 0))), (14, (.one (.ptr 3 0 0))), (15, (.one (.ptr 4 0 0))), (16, (.one (.ptr 5 0 0))), (17, (.one (.ptr 6 0 0))), (59, (.one (.d (.fn (.func n_pieces_all_1) [.ref [.int .i64 p3], .ref [.int .i64 (p1.length : Int)]]))))], [.cells [.d (.int .i64 p4)], .cells [.d (.int .i64 0), .d (.int .i64 0)], .cells [.d (.int .i64 0)], .cells [.d (.list (x3.1.map (D.int .i64)))], .cells [.d (.int .i64 s.1)], .cells [.d (.list (x5.1.map (D.int .i64)))], .cells [.d (.int .i64 s.2.1), .d (.int .i64 s.2.2)]]⟩) (fun (r : Int × Int × Int × Int) => (.ret, ⟨[(8, (.one (.ptr 0 0 0))), (10, (.one (.ptr 1 0 0))), (11, (.one (.ptr 2 0 0))), (14, (.one (.ptr 3 0 0))), (15, (.one (.ptr 4 0 0))), (16, (.one (.ptr 5 0 0))), (17, (.one (.ptr 6 0 0))), (59, (.one (.d (.fn (.func n_pieces_all_1) [.ref [.int .i64 p3], .ref [.int .i64 (p1.length : Int)]]))))], [.cells [.d (.int .i64 p4)], .cells [.d (.int .i64 0), .d (.int .i64 0)], .cells [.d (.int .i64 r.1)], .cells [.d (.list (x3.1.map (D.int .i64)))], .cells [.d (.int .i64 r.2.1)], .cells [.d (.list (x5.1.map (D.int .i64)))], .cells [.d (.int .i64 r.2.2.1), .d (.int .i64 r.2.2.2)]]⟩)) (s := (x5.2, 0, 1)) (y := (.inl x34)) rfl (X_pieces_all_1 : X n_pieces_all_1 = some allM) (T_pieces_squares_v2_r1_ok k p3 p4 (p1.length : Int) x3.1 x5.1) hx33) ?_
            refine K_blk ?_
            refine K_seq ?_
            refine K_reg [] [] ⟨[(10, (.one (.ptr 0 0 0))), (11, (.one (.ptr 1 0 0)))], [.cells [.d (.int .i64 x34.2.1), .d (.int .i64 x34.2.2)], .cells [.d (.int .i64 0)]]⟩ (by kernel_rfl) trivial ?_
            refine K_gh ⟨[(10, (.one (.ptr 0 0 0))), (11, (.one (.ptr 1 0 0)))], [.cells [.d (.int .i64 x34.2.1), .d (.int .i64 x34.2.2)], .cells [.d (.int .i64 0)]]⟩ (by kernel_rfl) ?_
            cases H
            refine K_ret ?_
            kernel_rfl
          | inr x35 =>
            dsimp only at H
            cases H
            refine K_xr ⟨[(8, (.one (.ptr 0 0 0))), (10, (.one (.ptr 1 0 0))), (11, (.one (.ptr 2 0 0))), (14, (.one (.ptr 3 0 0))), (15, (.one (.ptr 4 0 0))), (16, (.one (.ptr 5 0 0))), (17, (.one (.ptr 6 0 0))), (59, (.one (.d (.fn (.func n_pieces_all_1) [.ref [.int .i64 p3], .ref [.int .i64 (p1.length : Int)]]))))], [.cells [.d (.int .i64 p4)], .cells [.d (.int .i64 0), .d (.int .i64 0)], .cells [.d (.int .i64 x35.1)], .cells [.d (.list (x3.1.map (D.int .i64)))], .cells [.d (.int .i64 x35.2.1)], .cells [.d (.list (x5.1.map (D.int .i64)))], .cells [.d (.int .i64 x35.2.2.1), .d (.int .i64 x35.2.2.2)]]⟩ (range_ok (fun (s : Int × Int × Int) => ⟨[(8, (.one (.ptr 0 0 0))), (10, (.one (.ptr 1 0 0))), (11, (.one (.ptr 2 0 0))), (14, (.one (.ptr 3 0 0))), (15, (.one (.ptr 4 0 0))), (16, (.one (.ptr 5 0 0))), (17, (.one (.ptr 6 0 0))), (59, (.one (.d (.fn (.func n_pieces_all_1) [.ref [.int .i64 p3], .ref [.int .i64 (p1.length : Int)]]))))], [.cells [.d (.int .i64 p4)], .cells [.d (.int .i64 0), .d (.int .i64 0)], .cells [.d (.int .i64 0)], .cells [.d (.list (x3.1.map (D.int .i64)))], .cells [.d (.int .i64 s.1)], .cells [.d (.list (x5.1.map (D.int .i64)))], .cells [.d (.int .i64 s.2.1), .d (.int .i64 s.2.2)]]⟩) (fun (r : Int × Int × Int × Int) => (.ret, ⟨[(8, (.one (.ptr 0 0 0))), (10, (.one (.ptr 1 0 0))), (11, (.one (.ptr 2 0 0))), (14, (.one (.ptr 3 0 0))), (15, (.one (.ptr 4 0 0))), (16, (.one (.ptr 5 0 0))), (17, (.one (.ptr 6 0 0))), (59, (.one (.d (.fn (.func n_pieces_all_1) [.ref [.int .i64 p3], .ref [.int .i64 (p1.length : Int)]]))))], [.cells [.d (.int .i64 p4)], .cells [.d (.int .i64 0), .d (.int .i64 0)], .cells [.d (.int .i64 r.1)], .cells [.d (.list (x3.1.map (D.int .i64)))], .cells [.d (.int .i64 r.2.1)], .cells [.d (.list (x5.1.map (D.int .i64)))], .cells [.d (.int .i64 r.2.2.1), .d (.int .i64 r.2.2.2)]]⟩)) (s := (x5.2, 0, 1)) (y := (.inr x35)) rfl (X_pieces_all_1 : X n_pieces_all_1 = some allM) (T_pieces_squares_v2_r1_ok k p3 p4 (p1.length : Int) x3.1 x5.1) hx33) ?_
            kernel_rfl
def T_pieces_Shifted (k : Nat) (p1 : List Int) (p2 : List Int) (p3 : Int) : Option (Int × Int × Int) := match k with
  | 0 => none
  | k + 1 => ((T_pieces_squares_v2 k p1 p2 p3 (imax 1 (w64 ((p1.length : Int) * (p1.length : Int))))).bind fun x1 => some (x1.1, x1.2.1, x1.2.2))
theorem T_pieces_Shifted_ok (k : Nat) (p1 : List Int) (p2 : List Int) (p3 : Int) (r : Int × Int × Int) : T_pieces_Shifted k p1 p2 p3 = some r → evF X k n_pieces_Shifted [(.one (.d (.list (p1.map (D.int .i64))))), (.one (.d (.list (p2.map (D.int .i64))))), (I p3)] [] = some ((.tup [(true, [.d (.int .i64 r.1), .d (.int .i64 r.2.1)]), (false, [.d (.int .i64 r.2.2)])]), []) := by
  intro H
  cases k with
  | zero => simp [T_pieces_Shifted] at H
  | succ k =>
    simp only [T_pieces_Shifted] at H
    refine F_in X_pieces_Shifted rfl ?_
    refine K_seq ?_
    refine K_reg [] [] ⟨[(0, (.one (.d (.list (p1.map (D.int .i64)))))), (1, (.one (.d (.list (p2.map (D.int .i64)))))), (2, (I p3)), (6, (.one (.ptr 0 0 0)))], [.cells [.d (.int .i64 0), .d (.int .i64 0)]]⟩ (by kernel_rfl) trivial ?_
    refine K_seq ?_
    obtain ⟨x1, hx1, H⟩ := bind_some' H
    refine K_reg [.n p1.length, .n p1.length, .r (.tup [(true, [.d (.int .i64 x1.1), .d (.int .i64 x1.2.1)]), (false, [.d (.int .i64 x1.2.2)])]) []] [((p1.map (D.int .i64))).length = p1.length, ((p1.map (D.int .i64))).length = p1.length, evF X k n_pieces_squares [(.one (.d (.list (p1.map (D.int .i64))))), (.one (.d (.list (p2.map (D.int .i64))))), (I p3), (I (imax 1 (w64 ((p1.length : Int) * (p1.length : Int))))), (.one (.fn (.func n_pieces_Centred) []))] [] = some ((.tup [(true, [.d (.int .i64 x1.1), .d (.int .i64 x1.2.1)]), (false, [.d (.int .i64 x1.2.2)])]), [])] ⟨[(6, (.one (.ptr 0 0 0))), (7, (I x1.2.2))], [.cells [.d (.int .i64 x1.1), .d (.int .i64 x1.2.1)]]⟩ (by kernel_rfl) (AC (List.length_map _) (AC (List.length_map _) (A1 (T_pieces_squares_v2_ok k p1 p2 p3 (imax 1 (w64 ((p1.length : Int) * (p1.length : Int)))) x1 hx1)))) ?_
    refine K_gh ⟨[(6, (.one (.ptr 0 0 0))), (7, (I x1.2.2))], [.cells [.d (.int .i64 x1.1), .d (.int .i64 x1.2.1)]]⟩ (by kernel_rfl) ?_
    cases H
    refine K_ret ?_
    kernel_rfl
def T_ref18_Shifted (k : Nat) (p1 : List Int) (p2 : List Int) (p3 : Int) : Option (Int × Int × Int) := match k with
  | 0 => none
  | k + 1 => ((T_ref12_Two k p1 p2 0).bind fun x1 => (if (!decide (x1 = 0)) = true then some (0, 0, x1) else ((T_ref18_Starts k (p1.length : Int) p3).bind fun x3 => (if (!decide (x3.2 = 0)) = true then some (0, 0, x3.2) else ((T_ref18_Centred k p1 p3).bind fun x5 => (T_ref18_Centred k p2 p3).bind fun x6 => (T_ref18_differences k x5.1 x6.1).bind fun x7 => (T_ref18_Squares k x7 x3.1 (w64 ((p1.length : Int) * (p1.length : Int)))).bind fun x8 => some (x8.1, x8.2, 0))))))
theorem T_ref18_Shifted_ok (k : Nat) (p1 : List Int) (p2 : List Int) (p3 : Int) (r : Int × Int × Int) : T_ref18_Shifted k p1 p2 p3 = some r → evF X k n_ref18_Shifted [(.one (.d (.list (p1.map (D.int .i64))))), (.one (.d (.list (p2.map (D.int .i64))))), (I p3)] [] = some ((.tup [(true, [.d (.int .i64 r.1), .d (.int .i64 r.2.1)]), (false, [.d (.int .i64 r.2.2)])]), []) := by
  intro H
  cases k with
  | zero => simp [T_ref18_Shifted] at H
  | succ k =>
    simp only [T_ref18_Shifted] at H
    refine F_in X_ref18_Shifted rfl ?_
    refine K_seq ?_
    refine K_reg [] [] ⟨[(0, (.one (.d (.list (p1.map (D.int .i64)))))), (1, (.one (.d (.list (p2.map (D.int .i64)))))), (2, (I p3)), (6, (.one (.ptr 0 0 0)))], [.cells [.d (.int .i64 0), .d (.int .i64 0)]]⟩ (by kernel_rfl) trivial ?_
    refine K_seq ?_
    refine K_seq ?_
    obtain ⟨x1, hx1, H⟩ := bind_some' H
    refine K_reg [.r (I x1) []] [evF X k n_ref12_Two [(.one (.d (.list (p1.map (D.int .i64))))), (.one (.d (.list (p2.map (D.int .i64))))), (I 0)] [] = some ((I x1), [])] ⟨[(0, (.one (.d (.list (p1.map (D.int .i64)))))), (1, (.one (.d (.list (p2.map (D.int .i64)))))), (2, (I p3)), (6, (.one (.ptr 0 0 0))), (8, (I x1))], [.cells [.d (.int .i64 0), .d (.int .i64 0)]]⟩ (by kernel_rfl) (A1 (T_ref12_Two_ok k p1 p2 0 x1 hx1)) ?_
    refine K_seq ?_
    refine K_reg [] [] ⟨[(0, (.one (.d (.list (p1.map (D.int .i64)))))), (1, (.one (.d (.list (p2.map (D.int .i64)))))), (2, (I p3)), (6, (.one (.ptr 0 0 0))), (8, (I x1)), (19, (B (!decide (x1 = 0))))], [.cells [.d (.int .i64 0), .d (.int .i64 0)]]⟩ (by kernel_rfl) trivial ?_
    rcases ite_some H with ⟨hx2, H⟩ | ⟨hx2, H⟩
    · refine K_t rfl hx2 ?_
      refine K_seq ?_
      refine K_reg [] [] ⟨[(6, (.one (.ptr 0 0 0))), (7, (I x1))], [.cells [.d (.int .i64 0), .d (.int .i64 0)]]⟩ (by kernel_rfl) trivial ?_
      refine K_gh ⟨[(6, (.one (.ptr 0 0 0))), (7, (I x1))], [.cells [.d (.int .i64 0), .d (.int .i64 0)]]⟩ (by kernel_rfl) ?_
      cases H
      refine K_ret ?_
      kernel_rfl
    · refine K_f rfl (Bool.eq_false_iff.2 hx2) ?_
      refine K_gh ⟨[(0, (.one (.d (.list (p1.map (D.int .i64)))))), (1, (.one (.d (.list (p2.map (D.int .i64)))))), (2, (I p3)), (6, (.one (.ptr 0 0 0)))], [.cells [.d (.int .i64 0), .d (.int .i64 0)]]⟩ (by kernel_rfl) ?_
      refine K_skip ?_
      refine K_seq ?_
      obtain ⟨x3, hx3, H⟩ := bind_some' H
      refine K_reg [.n p1.length, .r (.tup [(false, [.d (.list (x3.1.map (D.int .i64)))]), (false, [.d (.int .i64 x3.2)])]) []] [((p1.map (D.int .i64))).length = p1.length, evF X k n_ref18_Starts [(I (p1.length : Int)), (I p3)] [] = some ((.tup [(false, [.d (.list (x3.1.map (D.int .i64)))]), (false, [.d (.int .i64 x3.2)])]), [])] ⟨[(0, (.one (.d (.list (p1.map (D.int .i64)))))), (1, (.one (.d (.list (p2.map (D.int .i64)))))), (2, (I p3)), (6, (.one (.ptr 0 0 0))), (9, (.one (.d (.list (x3.1.map (D.int .i64)))))), (10, (I x3.2))], [.cells [.d (.int .i64 0), .d (.int .i64 0)]]⟩ (by kernel_rfl) (AC (List.length_map _) (A1 (T_ref18_Starts_ok k (p1.length : Int) p3 x3 hx3))) ?_
      refine K_seq ?_
      refine K_seq ?_
      refine K_reg [] [] ⟨[(0, (.one (.d (.list (p1.map (D.int .i64)))))), (1, (.one (.d (.list (p2.map (D.int .i64)))))), (2, (I p3)), (6, (.one (.ptr 0 0 0))), (9, (.one (.d (.list (x3.1.map (D.int .i64)))))), (10, (I x3.2)), (30, (B (!decide (x3.2 = 0))))], [.cells [.d (.int .i64 0), .d (.int .i64 0)]]⟩ (by kernel_rfl) trivial ?_
      rcases ite_some H with ⟨hx4, H⟩ | ⟨hx4, H⟩
      · refine K_t rfl hx4 ?_
        refine K_seq ?_
        refine K_reg [] [] ⟨[(6, (.one (.ptr 0 0 0))), (7, (I x3.2))], [.cells [.d (.int .i64 0), .d (.int .i64 0)]]⟩ (by kernel_rfl) trivial ?_
        refine K_gh ⟨[(6, (.one (.ptr 0 0 0))), (7, (I x3.2))], [.cells [.d (.int .i64 0), .d (.int .i64 0)]]⟩ (by kernel_rfl) ?_
        cases H
        refine K_ret ?_
        kernel_rfl
      · refine K_f rfl (Bool.eq_false_iff.2 hx4) ?_
        refine K_gh ⟨[(0, (.one (.d (.list (p1.map (D.int .i64)))))), (1, (.one (.d (.list (p2.map (D.int .i64)))))), (2, (I p3)), (6, (.one (.ptr 0 0 0))), (9, (.one (.d (.list (x3.1.map (D.int .i64))))))], [.cells [.d (.int .i64 0), .d (.int .i64 0)]]⟩ (by kernel_rfl) ?_
        refine K_skip ?_
        refine K_seq ?_
        obtain ⟨x5, hx5, H⟩ := bind_some' H
        refine K_reg [.r (.tup [(false, [.d (.list (x5.1.map (D.int .i64)))]), (false, [.d (.int .i64 x5.2)])]) []] [evF X k n_ref18_Centred [(.one (.d (.list (p1.map (D.int .i64))))), (I p3)] [] = some ((.tup [(false, [.d (.list (x5.1.map (D.int .i64)))]), (false, [.d (.int .i64 x5.2)])]), [])] ⟨[(0, (.one (.d (.list (p1.map (D.int .i64)))))), (1, (.one (.d (.list (p2.map (D.int .i64)))))), (2, (I p3)), (6, (.one (.ptr 0 0 0))), (9, (.one (.d (.list (x3.1.map (D.int .i64)))))), (11, (.one (.d (.list (x5.1.map (D.int .i64))))))], [.cells [.d (.int .i64 0), .d (.int .i64 0)]]⟩ (by kernel_rfl) (A1 (T_ref18_Centred_ok k p1 p3 x5 hx5)) ?_
        refine K_seq ?_
        obtain ⟨x6, hx6, H⟩ := bind_some' H
        refine K_reg [.r (.tup [(false, [.d (.list (x6.1.map (D.int .i64)))]), (false, [.d (.int .i64 x6.2)])]) []] [evF X k n_ref18_Centred [(.one (.d (.list (p2.map (D.int .i64))))), (I p3)] [] = some ((.tup [(false, [.d (.list (x6.1.map (D.int .i64)))]), (false, [.d (.int .i64 x6.2)])]), [])] ⟨[(0, (.one (.d (.list (p1.map (D.int .i64)))))), (6, (.one (.ptr 0 0 0))), (9, (.one (.d (.list (x3.1.map (D.int .i64)))))), (11, (.one (.d (.list (x5.1.map (D.int .i64)))))), (13, (.one (.d (.list (x6.1.map (D.int .i64))))))], [.cells [.d (.int .i64 0), .d (.int .i64 0)]]⟩ (by kernel_rfl) (A1 (T_ref18_Centred_ok k p2 p3 x6 hx6)) ?_
        refine K_seq ?_
        obtain ⟨x7, hx7, H⟩ := bind_some' H
        obtain ⟨x8, hx8, H⟩ := bind_some' H
        refine K_reg [.r (.one (.d (.list (x7.map (D.int .i64))))) [], .n p1.length, .n p1.length, .r (.agg [.d (.int .i64 x8.1), .d (.int .i64 x8.2)]) []] [evF X k n_ref18_differences [(.one (.d (.list (x5.1.map (D.int .i64))))), (.one (.d (.list (x6.1.map (D.int .i64)))))] [] = some ((.one (.d (.list (x7.map (D.int .i64))))), []), ((p1.map (D.int .i64))).length = p1.length, ((p1.map (D.int .i64))).length = p1.length, evF X k n_ref18_Squares [(.one (.d (.list (x7.map (D.int .i64))))), (.one (.d (.list (x3.1.map (D.int .i64))))), (I (w64 ((p1.length : Int) * (p1.length : Int))))] [] = some ((.agg [.d (.int .i64 x8.1), .d (.int .i64 x8.2)]), [])] ⟨[(6, (.one (.ptr 0 0 0))), (7, (I 0))], [.cells [.d (.int .i64 x8.1), .d (.int .i64 x8.2)]]⟩ (by kernel_rfl) (AC (T_ref18_differences_ok k x5.1 x6.1 x7 hx7) (AC (List.length_map _) (AC (List.length_map _) (A1 (T_ref18_Squares_ok k x7 x3.1 (w64 ((p1.length : Int) * (p1.length : Int))) x8 hx8))))) ?_
        refine K_gh ⟨[(6, (.one (.ptr 0 0 0))), (7, (I 0))], [.cells [.d (.int .i64 x8.1), .d (.int .i64 x8.2)]]⟩ (by kernel_rfl) ?_
        cases H
        refine K_ret ?_
        kernel_rfl
def T_law18_PiecesAnswers_l1 (k : Nat) (p1 : List Int) (p2 : List Int) (p3 : Int) (x10 : List Int) (x11 : List Int) (x12 : List Int) (x13 : Int) (x15 : List Int) (x106 : Int) (x117 : Int) (x118 : List ((List Int) × (List Int))) (x119 : Int) (x122 : Int) (x140 : Int) : Option (Int ⊕ (Unit ⊕ Unit)) :=
  (if x140 < x119 then ((at? x118 x140).bind fun x142 => (T_pieces_Sums k x142.1 x106).bind fun x143 => (T_ref18_Sums k x142.1 x106).bind fun x144 => (T_pieces_Centred k x142.1 x106).bind fun x145 => (T_ref18_Centred k x142.1 x106).bind fun x146 => (((T_keep_Ints k x143.1 x144.1).bind fun x147 => (if ((!x147) || (!decide (x143.2 = x144.2))) = true then some true else ((T_keep_Ints k x145.1 x146.1).bind fun x150 => some ((!x150) || (!decide (x145.2 = x146.2))))))).bind fun x151 => (if x151 = true then some (.inr (.inr ())) else ((T_pieces_Lower k x142.1 x142.2 x106).bind fun x153 => (T_ref18_Lower k x142.1 x142.2 x106).bind fun x154 => (T_pieces_Shifted k x142.1 x142.2 x106).bind fun x155 => (T_ref18_Shifted k x142.1 x142.2 x106).bind fun x156 => (if ((((!(decide (x153.1 = x154.1) && (decide (x153.2.1 = x154.2.1) && true))) || (!decide (x153.2.2 = x154.2.2))) || (!(decide (x155.1 = x156.1) && (decide (x155.2.1 = x156.2.1) && true)))) || (!decide (x155.2.2 = x156.2.2))) = true then some (.inr (.inr ())) else some (.inl (w64 (x140 + 1))))))) else some (.inr (.inl ())))
theorem T_law18_PiecesAnswers_l1_ok (k : Nat) (p1 : List Int) (p2 : List Int) (p3 : Int) (x10 : List Int) (x11 : List Int) (x12 : List Int) (x13 : Int) (x15 : List Int) (x106 : Int) (x117 : Int) (x118 : List ((List Int) × (List Int))) (x119 : Int) (x122 : Int) : ∀ (x140 : Int) (x : Int ⊕ (Unit ⊕ Unit)), T_law18_PiecesAnswers_l1 k p1 p2 p3 x10 x11 x12 x13 x15 x106 x117 x118 x119 x122 x140 = some x → evC X (evF X k) k 0 l_law18_PiecesAnswers_1 ⟨[(0, (.one (.d (.list (p1.map (D.int .i64)))))), (1, (.one (.d (.list (p2.map (D.int .i64)))))), (2, (I p3)), (11, (.one (.ptr 0 0 0))), (12, (.one (.d (.list (x10.map (D.int .i64)))))), (13, (.one (.d (.list (x11.map (D.int .i64)))))), (15, (I x106)), (64, (.one (.d (.list (x12.map (D.int .i64)))))), (65, (I x13)), (66, (I x117)), (85, (.one (.d (.list (x118.map e_st0))))), (86, (I x119)), (87, (I x140))], [.cells [.d (.list (x15.map (D.int .i64))), .d (.int .i64 x122)]]⟩ = some (outS (fun (s : Int) => ⟨[(0, (.one (.d (.list (p1.map (D.int .i64)))))), (1, (.one (.d (.list (p2.map (D.int .i64)))))), (2, (I p3)), (11, (.one (.ptr 0 0 0))), (12, (.one (.d (.list (x10.map (D.int .i64)))))), (13, (.one (.d (.list (x11.map (D.int .i64)))))), (15, (I x106)), (64, (.one (.d (.list (x12.map (D.int .i64)))))), (65, (I x13)), (66, (I x117)), (85, (.one (.d (.list (x118.map e_st0))))), (86, (I x119)), (87, (I s))], [.cells [.d (.list (x15.map (D.int .i64))), .d (.int .i64 x122)]]⟩) (fun (r : Unit ⊕ Unit) => Sum.elim (fun y => (.exit 2, ⟨[(0, (.one (.d (.list (p1.map (D.int .i64)))))), (1, (.one (.d (.list (p2.map (D.int .i64)))))), (2, (I p3)), (11, (.one (.ptr 0 0 0))), (12, (.one (.d (.list (x10.map (D.int .i64)))))), (13, (.one (.d (.list (x11.map (D.int .i64)))))), (15, (I x106)), (64, (.one (.d (.list (x12.map (D.int .i64)))))), (65, (I x13)), (66, (I x117))], [.cells [.d (.list (x15.map (D.int .i64))), .d (.int .i64 x122)]]⟩)) (fun y => (.ret, ⟨[(10, (B false))], []⟩)) r) x) := by
  intro x140 x H
  unfold T_law18_PiecesAnswers_l1 at H
  refine K_in ?_
  refine K_seq ?_
  refine K_reg [] [] ⟨[(0, (.one (.d (.list (p1.map (D.int .i64)))))), (1, (.one (.d (.list (p2.map (D.int .i64)))))), (2, (I p3)), (11, (.one (.ptr 0 0 0))), (12, (.one (.d (.list (x10.map (D.int .i64)))))), (13, (.one (.d (.list (x11.map (D.int .i64)))))), (15, (I x106)), (64, (.one (.d (.list (x12.map (D.int .i64)))))), (65, (I x13)), (66, (I x117)), (85, (.one (.d (.list (x118.map e_st0))))), (86, (I x119)), (87, (I x140)), (88, (B (decide (x140 < x119))))], [.cells [.d (.list (x15.map (D.int .i64))), .d (.int .i64 x122)]]⟩ (by kernel_rfl) trivial ?_
  refine K_seq ?_
  rcases ite_some H with ⟨hx141, H⟩ | ⟨hx141, H⟩
  · refine K_t rfl (decide_eq_true hx141) ?_
    refine K_gh ⟨[(0, (.one (.d (.list (p1.map (D.int .i64)))))), (1, (.one (.d (.list (p2.map (D.int .i64)))))), (2, (I p3)), (11, (.one (.ptr 0 0 0))), (12, (.one (.d (.list (x10.map (D.int .i64)))))), (13, (.one (.d (.list (x11.map (D.int .i64)))))), (15, (I x106)), (64, (.one (.d (.list (x12.map (D.int .i64)))))), (65, (I x13)), (66, (I x117)), (85, (.one (.d (.list (x118.map e_st0))))), (86, (I x119)), (87, (I x140))], [.cells [.d (.list (x15.map (D.int .i64))), .d (.int .i64 x122)]]⟩ (by kernel_rfl) ?_
    refine K_skip ?_
    refine K_seq ?_
    refine K_block ?_
    refine K_seq ?_
    obtain ⟨x142, hx142, H⟩ := bind_some' H
    refine K_reg [.l [.list (x142.1.map (D.int .i64)), .list (x142.2.map (D.int .i64))]] [(0 : Int) ≤ x140 ∧ x140 < (((x118.map e_st0)).length : Int), ((x118.map e_st0).getD x140.toNat (.agg [(.list []), (.list [])])).cells = [.list (x142.1.map (D.int .i64)), .list (x142.2.map (D.int .i64))]] ⟨[(0, (.one (.d (.list (p1.map (D.int .i64)))))), (1, (.one (.d (.list (p2.map (D.int .i64)))))), (2, (I p3)), (11, (.one (.ptr 0 0 0))), (12, (.one (.d (.list (x10.map (D.int .i64)))))), (13, (.one (.d (.list (x11.map (D.int .i64)))))), (15, (I x106)), (17, (.one (.ptr 1 0 0))), (64, (.one (.d (.list (x12.map (D.int .i64)))))), (65, (I x13)), (66, (I x117)), (85, (.one (.d (.list (x118.map e_st0))))), (86, (I x119)), (87, (I x140))], [.cells [.d (.list (x15.map (D.int .i64))), .d (.int .i64 x122)], .cells [.d (.list (x142.1.map (D.int .i64))), .d (.list (x142.2.map (D.int .i64)))]]⟩ (by kernel_rfl) (AC (at_ok hx142 e_st0 (.agg [(.list []), (.list [])])).1 (A1 (at_ok hx142 e_st0 (.agg [(.list []), (.list [])])).2)) ?_
    refine K_seq ?_
    obtain ⟨x143, hx143, H⟩ := bind_some' H
    refine K_reg [.r (.tup [(false, [.d (.list (x143.1.map (D.int .i64)))]), (false, [.d (.int .i64 x143.2)])]) []] [(0 : Int) ≤ 0 ∧ 0 < ((2 : Nat) : Int), evF X k n_pieces_Sums [(.one (.d (.list (x142.1.map (D.int .i64))))), (I x106)] [] = some ((.tup [(false, [.d (.list (x143.1.map (D.int .i64)))]), (false, [.d (.int .i64 x143.2)])]), [])] ⟨[(0, (.one (.d (.list (p1.map (D.int .i64)))))), (1, (.one (.d (.list (p2.map (D.int .i64)))))), (2, (I p3)), (11, (.one (.ptr 0 0 0))), (12, (.one (.d (.list (x10.map (D.int .i64)))))), (13, (.one (.d (.list (x11.map (D.int .i64)))))), (15, (I x106)), (17, (.one (.ptr 1 0 0))), (18, (.one (.d (.list (x143.1.map (D.int .i64)))))), (19, (I x143.2)), (64, (.one (.d (.list (x12.map (D.int .i64)))))), (65, (I x13)), (66, (I x117)), (85, (.one (.d (.list (x118.map e_st0))))), (86, (I x119)), (87, (I x140))], [.cells [.d (.list (x15.map (D.int .i64))), .d (.int .i64 x122)], .cells [.d (.list (x142.1.map (D.int .i64))), .d (.list (x142.2.map (D.int .i64)))]]⟩ (by kernel_rfl) (AC (by decide) (A1 (T_pieces_Sums_ok k x142.1 x106 x143 hx143))) ?_
    refine K_seq ?_
    obtain ⟨x144, hx144, H⟩ := bind_some' H
    refine K_reg [.r (.tup [(false, [.d (.list (x144.1.map (D.int .i64)))]), (false, [.d (.int .i64 x144.2)])]) []] [(0 : Int) ≤ 0 ∧ 0 < ((2 : Nat) : Int), evF X k n_ref18_Sums [(.one (.d (.list (x142.1.map (D.int .i64))))), (I x106)] [] = some ((.tup [(false, [.d (.list (x144.1.map (D.int .i64)))]), (false, [.d (.int .i64 x144.2)])]), [])] ⟨[(0, (.one (.d (.list (p1.map (D.int .i64)))))), (1, (.one (.d (.list (p2.map (D.int .i64)))))), (2, (I p3)), (11, (.one (.ptr 0 0 0))), (12, (.one (.d (.list (x10.map (D.int .i64)))))), (13, (.one (.d (.list (x11.map (D.int .i64)))))), (15, (I x106)), (17, (.one (.ptr 1 0 0))), (18, (.one (.d (.list (x143.1.map (D.int .i64)))))), (19, (I x143.2)), (20, (.one (.d (.list (x144.1.map (D.int .i64)))))), (21, (I x144.2)), (64, (.one (.d (.list (x12.map (D.int .i64)))))), (65, (I x13)), (66, (I x117)), (85, (.one (.d (.list (x118.map e_st0))))), (86, (I x119)), (87, (I x140))], [.cells [.d (.list (x15.map (D.int .i64))), .d (.int .i64 x122)], .cells [.d (.list (x142.1.map (D.int .i64))), .d (.list (x142.2.map (D.int .i64)))]]⟩ (by kernel_rfl) (AC (by decide) (A1 (T_ref18_Sums_ok k x142.1 x106 x144 hx144))) ?_
    refine K_seq ?_
    obtain ⟨x145, hx145, H⟩ := bind_some' H
    refine K_reg [.r (.tup [(false, [.d (.list (x145.1.map (D.int .i64)))]), (false, [.d (.int .i64 x145.2)])]) []] [(0 : Int) ≤ 0 ∧ 0 < ((2 : Nat) : Int), evF X k n_pieces_Centred [(.one (.d (.list (x142.1.map (D.int .i64))))), (I x106)] [] = some ((.tup [(false, [.d (.list (x145.1.map (D.int .i64)))]), (false, [.d (.int .i64 x145.2)])]), [])] ⟨[(0, (.one (.d (.list (p1.map (D.int .i64)))))), (1, (.one (.d (.list (p2.map (D.int .i64)))))), (2, (I p3)), (11, (.one (.ptr 0 0 0))), (12, (.one (.d (.list (x10.map (D.int .i64)))))), (13, (.one (.d (.list (x11.map (D.int .i64)))))), (15, (I x106)), (17, (.one (.ptr 1 0 0))), (18, (.one (.d (.list (x143.1.map (D.int .i64)))))), (19, (I x143.2)), (20, (.one (.d (.list (x144.1.map (D.int .i64)))))), (21, (I x144.2)), (22, (.one (.d (.list (x145.1.map (D.int .i64)))))), (23, (I x145.2)), (64, (.one (.d (.list (x12.map (D.int .i64)))))), (65, (I x13)), (66, (I x117)), (85, (.one (.d (.list (x118.map e_st0))))), (86, (I x119)), (87, (I x140))], [.cells [.d (.list (x15.map (D.int .i64))), .d (.int .i64 x122)], .cells [.d (.list (x142.1.map (D.int .i64))), .d (.list (x142.2.map (D.int .i64)))]]⟩ (by kernel_rfl) (AC (by decide) (A1 (T_pieces_Centred_ok k x142.1 x106 x145 hx145))) ?_
    refine K_seq ?_
    obtain ⟨x146, hx146, H⟩ := bind_some' H
    refine K_reg [.r (.tup [(false, [.d (.list (x146.1.map (D.int .i64)))]), (false, [.d (.int .i64 x146.2)])]) []] [(0 : Int) ≤ 0 ∧ 0 < ((2 : Nat) : Int), evF X k n_ref18_Centred [(.one (.d (.list (x142.1.map (D.int .i64))))), (I x106)] [] = some ((.tup [(false, [.d (.list (x146.1.map (D.int .i64)))]), (false, [.d (.int .i64 x146.2)])]), [])] ⟨[(0, (.one (.d (.list (p1.map (D.int .i64)))))), (1, (.one (.d (.list (p2.map (D.int .i64)))))), (2, (I p3)), (11, (.one (.ptr 0 0 0))), (12, (.one (.d (.list (x10.map (D.int .i64)))))), (13, (.one (.d (.list (x11.map (D.int .i64)))))), (15, (I x106)), (17, (.one (.ptr 1 0 0))), (18, (.one (.d (.list (x143.1.map (D.int .i64)))))), (19, (I x143.2)), (20, (.one (.d (.list (x144.1.map (D.int .i64)))))), (21, (I x144.2)), (22, (.one (.d (.list (x145.1.map (D.int .i64)))))), (23, (I x145.2)), (24, (.one (.d (.list (x146.1.map (D.int .i64)))))), (25, (I x146.2)), (64, (.one (.d (.list (x12.map (D.int .i64)))))), (65, (I x13)), (66, (I x117)), (85, (.one (.d (.list (x118.map e_st0))))), (86, (I x119)), (87, (I x140))], [.cells [.d (.list (x15.map (D.int .i64))), .d (.int .i64 x122)], .cells [.d (.list (x142.1.map (D.int .i64))), .d (.list (x142.2.map (D.int .i64)))]]⟩ (by kernel_rfl) (AC (by decide) (A1 (T_ref18_Centred_ok k x142.1 x106 x146 hx146))) ?_
    refine K_seq ?_
    refine K_seq ?_
    obtain ⟨x151, hx151, H⟩ := bind_some' H
    refine K_of ⟨[(0, (.one (.d (.list (p1.map (D.int .i64)))))), (1, (.one (.d (.list (p2.map (D.int .i64)))))), (2, (I p3)), (11, (.one (.ptr 0 0 0))), (12, (.one (.d (.list (x10.map (D.int .i64)))))), (13, (.one (.d (.list (x11.map (D.int .i64)))))), (15, (I x106)), (17, (.one (.ptr 1 0 0))), (64, (.one (.d (.list (x12.map (D.int .i64)))))), (65, (I x13)), (66, (I x117)), (85, (.one (.d (.list (x118.map e_st0))))), (86, (I x119)), (87, (I x140)), (138, (B x151))], [.cells [.d (.list (x15.map (D.int .i64))), .d (.int .i64 x122)], .cells [.d (.list (x142.1.map (D.int .i64))), .d (.list (x142.2.map (D.int .i64)))]]⟩ ?_ ?_
    · clear H; have H := hx151; clear hx151; refine K_in ?_
      obtain ⟨x147, hx147, H⟩ := bind_some' H
      rcases ite_some H with ⟨hx149, H⟩ | ⟨hx149, H⟩
      · refine K_reg [.r (B x147) [], .m, .b true, .b true] [evF X k n_keep_Ints [(.one (.d (.list (x143.1.map (D.int .i64))))), (.one (.d (.list (x144.1.map (D.int .i64)))))] [] = some ((B x147), []), ([.cells [.d (.list (x15.map (D.int .i64))), .d (.int .i64 x122)], .cells [.d (.list (x142.1.map (D.int .i64))), .d (.list (x142.2.map (D.int .i64)))]] : Heap) = [.cells [.d (.list (x15.map (D.int .i64))), .d (.int .i64 x122)], .cells [.d (.list (x142.1.map (D.int .i64))), .d (.list (x142.2.map (D.int .i64)))]], ((!x147) || (!decide (x143.2 = x144.2))) = true, true = true] ⟨[(0, (.one (.d (.list (p1.map (D.int .i64)))))), (1, (.one (.d (.list (p2.map (D.int .i64)))))), (2, (I p3)), (11, (.one (.ptr 0 0 0))), (12, (.one (.d (.list (x10.map (D.int .i64)))))), (13, (.one (.d (.list (x11.map (D.int .i64)))))), (15, (I x106)), (17, (.one (.ptr 1 0 0))), (64, (.one (.d (.list (x12.map (D.int .i64)))))), (65, (I x13)), (66, (I x117)), (85, (.one (.d (.list (x118.map e_st0))))), (86, (I x119)), (87, (I x140)), (138, (B true))], [.cells [.d (.list (x15.map (D.int .i64))), .d (.int .i64 x122)], .cells [.d (.list (x142.1.map (D.int .i64))), .d (.list (x142.2.map (D.int .i64)))]]⟩ (by kernel_rfl) (AC (T_keep_Ints_ok k x143.1 x144.1 x147 hx147) (AC rfl (AC hx149 (A1 rfl)))) ?_
        cases H
        exact K_end rfl
      · obtain ⟨x150, hx150, H⟩ := bind_some' H
        refine K_reg [.r (B x147) [], .m, .b false, .r (B x150) [], .m] [evF X k n_keep_Ints [(.one (.d (.list (x143.1.map (D.int .i64))))), (.one (.d (.list (x144.1.map (D.int .i64)))))] [] = some ((B x147), []), ([.cells [.d (.list (x15.map (D.int .i64))), .d (.int .i64 x122)], .cells [.d (.list (x142.1.map (D.int .i64))), .d (.list (x142.2.map (D.int .i64)))]] : Heap) = [.cells [.d (.list (x15.map (D.int .i64))), .d (.int .i64 x122)], .cells [.d (.list (x142.1.map (D.int .i64))), .d (.list (x142.2.map (D.int .i64)))]], ((!x147) || (!decide (x143.2 = x144.2))) = false, evF X k n_keep_Ints [(.one (.d (.list (x145.1.map (D.int .i64))))), (.one (.d (.list (x146.1.map (D.int .i64)))))] [] = some ((B x150), []), ([.cells [.d (.list (x15.map (D.int .i64))), .d (.int .i64 x122)], .cells [.d (.list (x142.1.map (D.int .i64))), .d (.list (x142.2.map (D.int .i64)))]] : Heap) = [.cells [.d (.list (x15.map (D.int .i64))), .d (.int .i64 x122)], .cells [.d (.list (x142.1.map (D.int .i64))), .d (.list (x142.2.map (D.int .i64)))]]] ⟨[(0, (.one (.d (.list (p1.map (D.int .i64)))))), (1, (.one (.d (.list (p2.map (D.int .i64)))))), (2, (I p3)), (11, (.one (.ptr 0 0 0))), (12, (.one (.d (.list (x10.map (D.int .i64)))))), (13, (.one (.d (.list (x11.map (D.int .i64)))))), (15, (I x106)), (17, (.one (.ptr 1 0 0))), (64, (.one (.d (.list (x12.map (D.int .i64)))))), (65, (I x13)), (66, (I x117)), (85, (.one (.d (.list (x118.map e_st0))))), (86, (I x119)), (87, (I x140)), (138, (B ((!x150) || (!decide (x145.2 = x146.2)))))], [.cells [.d (.list (x15.map (D.int .i64))), .d (.int .i64 x122)], .cells [.d (.list (x142.1.map (D.int .i64))), .d (.list (x142.2.map (D.int .i64)))]]⟩ (by kernel_rfl) (AC (T_keep_Ints_ok k x143.1 x144.1 x147 hx147) (AC rfl (AC (Bool.eq_false_iff.2 hx149) (AC (T_keep_Ints_ok k x145.1 x146.1 x150 hx150) (A1 rfl))))) ?_
        cases H
        exact K_end rfl
    rcases ite_some H with ⟨hx152, H⟩ | ⟨hx152, H⟩
    · refine K_t rfl hx152 ?_
      refine K_seq ?_
      refine K_reg [] [] ⟨[(10, (B false))], []⟩ (by kernel_rfl) trivial ?_
      refine K_gh ⟨[(10, (B false))], []⟩ (by kernel_rfl) ?_
      cases H
      exact K_ret rfl
    · refine K_f rfl (Bool.eq_false_iff.2 hx152) ?_
      refine K_gh ⟨[(0, (.one (.d (.list (p1.map (D.int .i64)))))), (1, (.one (.d (.list (p2.map (D.int .i64)))))), (2, (I p3)), (11, (.one (.ptr 0 0 0))), (12, (.one (.d (.list (x10.map (D.int .i64)))))), (13, (.one (.d (.list (x11.map (D.int .i64)))))), (15, (I x106)), (17, (.one (.ptr 1 0 0))), (64, (.one (.d (.list (x12.map (D.int .i64)))))), (65, (I x13)), (66, (I x117)), (85, (.one (.d (.list (x118.map e_st0))))), (86, (I x119)), (87, (I x140))], [.cells [.d (.list (x15.map (D.int .i64))), .d (.int .i64 x122)], .cells [.d (.list (x142.1.map (D.int .i64))), .d (.list (x142.2.map (D.int .i64)))]]⟩ (by kernel_rfl) ?_
      refine K_skip ?_
      refine K_seq ?_
      obtain ⟨x153, hx153, H⟩ := bind_some' H
      refine K_reg [.r (.tup [(true, [.d (.int .i64 x153.1), .d (.int .i64 x153.2.1)]), (false, [.d (.int .i64 x153.2.2)])]) []] [(0 : Int) ≤ 0 ∧ 0 < ((2 : Nat) : Int), (0 : Int) ≤ 1 ∧ 1 < ((2 : Nat) : Int), evF X k n_pieces_Lower [(.one (.d (.list (x142.1.map (D.int .i64))))), (.one (.d (.list (x142.2.map (D.int .i64))))), (I x106)] [] = some ((.tup [(true, [.d (.int .i64 x153.1), .d (.int .i64 x153.2.1)]), (false, [.d (.int .i64 x153.2.2)])]), [])] ⟨[(0, (.one (.d (.list (p1.map (D.int .i64)))))), (1, (.one (.d (.list (p2.map (D.int .i64)))))), (2, (I p3)), (11, (.one (.ptr 0 0 0))), (12, (.one (.d (.list (x10.map (D.int .i64)))))), (13, (.one (.d (.list (x11.map (D.int .i64)))))), (15, (I x106)), (17, (.one (.ptr 1 0 0))), (19, (I x153.2.2)), (26, (.one (.ptr 2 0 0))), (64, (.one (.d (.list (x12.map (D.int .i64)))))), (65, (I x13)), (66, (I x117)), (85, (.one (.d (.list (x118.map e_st0))))), (86, (I x119)), (87, (I x140))], [.cells [.d (.list (x15.map (D.int .i64))), .d (.int .i64 x122)], .cells [.d (.list (x142.1.map (D.int .i64))), .d (.list (x142.2.map (D.int .i64)))], .cells [.d (.int .i64 x153.1), .d (.int .i64 x153.2.1)]]⟩ (by kernel_rfl) (AC (by decide) (AC (by decide) (A1 (T_pieces_Lower_ok k x142.1 x142.2 x106 x153 hx153)))) ?_
      refine K_seq ?_
      obtain ⟨x154, hx154, H⟩ := bind_some' H
      refine K_reg [.r (.tup [(true, [.d (.int .i64 x154.1), .d (.int .i64 x154.2.1)]), (false, [.d (.int .i64 x154.2.2)])]) []] [(0 : Int) ≤ 0 ∧ 0 < ((2 : Nat) : Int), (0 : Int) ≤ 1 ∧ 1 < ((2 : Nat) : Int), evF X k n_ref18_Lower [(.one (.d (.list (x142.1.map (D.int .i64))))), (.one (.d (.list (x142.2.map (D.int .i64))))), (I x106)] [] = some ((.tup [(true, [.d (.int .i64 x154.1), .d (.int .i64 x154.2.1)]), (false, [.d (.int .i64 x154.2.2)])]), [])] ⟨[(0, (.one (.d (.list (p1.map (D.int .i64)))))), (1, (.one (.d (.list (p2.map (D.int .i64)))))), (2, (I p3)), (11, (.one (.ptr 0 0 0))), (12, (.one (.d (.list (x10.map (D.int .i64)))))), (13, (.one (.d (.list (x11.map (D.int .i64)))))), (15, (I x106)), (17, (.one (.ptr 1 0 0))), (19, (I x153.2.2)), (21, (I x154.2.2)), (26, (.one (.ptr 2 0 0))), (27, (.one (.ptr 3 0 0))), (64, (.one (.d (.list (x12.map (D.int .i64)))))), (65, (I x13)), (66, (I x117)), (85, (.one (.d (.list (x118.map e_st0))))), (86, (I x119)), (87, (I x140))], [.cells [.d (.list (x15.map (D.int .i64))), .d (.int .i64 x122)], .cells [.d (.list (x142.1.map (D.int .i64))), .d (.list (x142.2.map (D.int .i64)))], .cells [.d (.int .i64 x153.1), .d (.int .i64 x153.2.1)], .cells [.d (.int .i64 x154.1), .d (.int .i64 x154.2.1)]]⟩ (by kernel_rfl) (AC (by decide) (AC (by decide) (A1 (T_ref18_Lower_ok k x142.1 x142.2 x106 x154 hx154)))) ?_
      refine K_seq ?_
      obtain ⟨x155, hx155, H⟩ := bind_some' H
      refine K_reg [.r (.tup [(true, [.d (.int .i64 x155.1), .d (.int .i64 x155.2.1)]), (false, [.d (.int .i64 x155.2.2)])]) []] [(0 : Int) ≤ 0 ∧ 0 < ((2 : Nat) : Int), (0 : Int) ≤ 1 ∧ 1 < ((2 : Nat) : Int), evF X k n_pieces_Shifted [(.one (.d (.list (x142.1.map (D.int .i64))))), (.one (.d (.list (x142.2.map (D.int .i64))))), (I x106)] [] = some ((.tup [(true, [.d (.int .i64 x155.1), .d (.int .i64 x155.2.1)]), (false, [.d (.int .i64 x155.2.2)])]), [])] ⟨[(0, (.one (.d (.list (p1.map (D.int .i64)))))), (1, (.one (.d (.list (p2.map (D.int .i64)))))), (2, (I p3)), (11, (.one (.ptr 0 0 0))), (12, (.one (.d (.list (x10.map (D.int .i64)))))), (13, (.one (.d (.list (x11.map (D.int .i64)))))), (15, (I x106)), (17, (.one (.ptr 1 0 0))), (19, (I x153.2.2)), (21, (I x154.2.2)), (23, (I x155.2.2)), (26, (.one (.ptr 2 0 0))), (27, (.one (.ptr 3 0 0))), (28, (.one (.ptr 4 0 0))), (64, (.one (.d (.list (x12.map (D.int .i64)))))), (65, (I x13)), (66, (I x117)), (85, (.one (.d (.list (x118.map e_st0))))), (86, (I x119)), (87, (I x140))], [.cells [.d (.list (x15.map (D.int .i64))), .d (.int .i64 x122)], .cells [.d (.list (x142.1.map (D.int .i64))), .d (.list (x142.2.map (D.int .i64)))], .cells [.d (.int .i64 x153.1), .d (.int .i64 x153.2.1)], .cells [.d (.int .i64 x154.1), .d (.int .i64 x154.2.1)], .cells [.d (.int .i64 x155.1), .d (.int .i64 x155.2.1)]]⟩ (by kernel_rfl) (AC (by decide) (AC (by decide) (A1 (T_pieces_Shifted_ok k x142.1 x142.2 x106 x155 hx155)))) ?_
      refine K_seq ?_
      obtain ⟨x156, hx156, H⟩ := bind_some' H
      refine K_reg [.r (.tup [(true, [.d (.int .i64 x156.1), .d (.int .i64 x156.2.1)]), (false, [.d (.int .i64 x156.2.2)])]) []] [(0 : Int) ≤ 0 ∧ 0 < ((2 : Nat) : Int), (0 : Int) ≤ 1 ∧ 1 < ((2 : Nat) : Int), evF X k n_ref18_Shifted [(.one (.d (.list (x142.1.map (D.int .i64))))), (.one (.d (.list (x142.2.map (D.int .i64))))), (I x106)] [] = some ((.tup [(true, [.d (.int .i64 x156.1), .d (.int .i64 x156.2.1)]), (false, [.d (.int .i64 x156.2.2)])]), [])] ⟨[(0, (.one (.d (.list (p1.map (D.int .i64)))))), (1, (.one (.d (.list (p2.map (D.int .i64)))))), (2, (I p3)), (11, (.one (.ptr 0 0 0))), (12, (.one (.d (.list (x10.map (D.int .i64)))))), (13, (.one (.d (.list (x11.map (D.int .i64)))))), (15, (I x106)), (19, (I x153.2.2)), (21, (I x154.2.2)), (23, (I x155.2.2)), (25, (I x156.2.2)), (26, (.one (.ptr 1 0 0))), (27, (.one (.ptr 2 0 0))), (28, (.one (.ptr 3 0 0))), (29, (.one (.ptr 4 0 0))), (64, (.one (.d (.list (x12.map (D.int .i64)))))), (65, (I x13)), (66, (I x117)), (85, (.one (.d (.list (x118.map e_st0))))), (86, (I x119)), (87, (I x140))], [.cells [.d (.list (x15.map (D.int .i64))), .d (.int .i64 x122)], .cells [.d (.int .i64 x153.1), .d (.int .i64 x153.2.1)], .cells [.d (.int .i64 x154.1), .d (.int .i64 x154.2.1)], .cells [.d (.int .i64 x155.1), .d (.int .i64 x155.2.1)], .cells [.d (.int .i64 x156.1), .d (.int .i64 x156.2.1)]]⟩ (by kernel_rfl) (AC (by decide) (AC (by decide) (A1 (T_ref18_Shifted_ok k x142.1 x142.2 x106 x156 hx156)))) ?_
      refine K_seq ?_
      refine K_reg [.m, .m, .m] [([.cells [.d (.list (x15.map (D.int .i64))), .d (.int .i64 x122)], .cells [.d (.int .i64 x153.1), .d (.int .i64 x153.2.1)], .cells [.d (.int .i64 x154.1), .d (.int .i64 x154.2.1)], .cells [.d (.int .i64 x155.1), .d (.int .i64 x155.2.1)], .cells [.d (.int .i64 x156.1), .d (.int .i64 x156.2.1)]] : Heap) = [.cells [.d (.list (x15.map (D.int .i64))), .d (.int .i64 x122)], .cells [.d (.int .i64 x153.1), .d (.int .i64 x153.2.1)], .cells [.d (.int .i64 x154.1), .d (.int .i64 x154.2.1)], .cells [.d (.int .i64 x155.1), .d (.int .i64 x155.2.1)], .cells [.d (.int .i64 x156.1), .d (.int .i64 x156.2.1)]], ([.cells [.d (.list (x15.map (D.int .i64))), .d (.int .i64 x122)], .cells [.d (.int .i64 x153.1), .d (.int .i64 x153.2.1)], .cells [.d (.int .i64 x154.1), .d (.int .i64 x154.2.1)], .cells [.d (.int .i64 x155.1), .d (.int .i64 x155.2.1)], .cells [.d (.int .i64 x156.1), .d (.int .i64 x156.2.1)]] : Heap) = [.cells [.d (.list (x15.map (D.int .i64))), .d (.int .i64 x122)], .cells [.d (.int .i64 x153.1), .d (.int .i64 x153.2.1)], .cells [.d (.int .i64 x154.1), .d (.int .i64 x154.2.1)], .cells [.d (.int .i64 x155.1), .d (.int .i64 x155.2.1)], .cells [.d (.int .i64 x156.1), .d (.int .i64 x156.2.1)]], ([.cells [.d (.list (x15.map (D.int .i64))), .d (.int .i64 x122)], .cells [.d (.int .i64 x153.1), .d (.int .i64 x153.2.1)], .cells [.d (.int .i64 x154.1), .d (.int .i64 x154.2.1)], .cells [.d (.int .i64 x155.1), .d (.int .i64 x155.2.1)], .cells [.d (.int .i64 x156.1), .d (.int .i64 x156.2.1)]] : Heap) = [.cells [.d (.list (x15.map (D.int .i64))), .d (.int .i64 x122)], .cells [.d (.int .i64 x153.1), .d (.int .i64 x153.2.1)], .cells [.d (.int .i64 x154.1), .d (.int .i64 x154.2.1)], .cells [.d (.int .i64 x155.1), .d (.int .i64 x155.2.1)], .cells [.d (.int .i64 x156.1), .d (.int .i64 x156.2.1)]]] ⟨[(0, (.one (.d (.list (p1.map (D.int .i64)))))), (1, (.one (.d (.list (p2.map (D.int .i64)))))), (2, (I p3)), (11, (.one (.ptr 0 0 0))), (12, (.one (.d (.list (x10.map (D.int .i64)))))), (13, (.one (.d (.list (x11.map (D.int .i64)))))), (15, (I x106)), (64, (.one (.d (.list (x12.map (D.int .i64)))))), (65, (I x13)), (66, (I x117)), (85, (.one (.d (.list (x118.map e_st0))))), (86, (I x119)), (87, (I x140)), (192, (B ((((!(decide (x153.1 = x154.1) && (decide (x153.2.1 = x154.2.1) && true))) || (!decide (x153.2.2 = x154.2.2))) || (!(decide (x155.1 = x156.1) && (decide (x155.2.1 = x156.2.1) && true)))) || (!decide (x155.2.2 = x156.2.2)))))], [.cells [.d (.list (x15.map (D.int .i64))), .d (.int .i64 x122)]]⟩ (by kernel_rfl) (AC rfl (AC rfl (A1 rfl))) ?_
      rcases ite_some H with ⟨hx157, H⟩ | ⟨hx157, H⟩
      · refine K_t rfl hx157 ?_
        refine K_seq ?_
        refine K_reg [] [] ⟨[(10, (B false))], []⟩ (by kernel_rfl) trivial ?_
        refine K_gh ⟨[(10, (B false))], []⟩ (by kernel_rfl) ?_
        cases H
        exact K_ret rfl
      · refine K_f rfl (Bool.eq_false_iff.2 hx157) ?_
        refine K_gh ⟨[(0, (.one (.d (.list (p1.map (D.int .i64)))))), (1, (.one (.d (.list (p2.map (D.int .i64)))))), (2, (I p3)), (11, (.one (.ptr 0 0 0))), (12, (.one (.d (.list (x10.map (D.int .i64)))))), (13, (.one (.d (.list (x11.map (D.int .i64)))))), (15, (I x106)), (64, (.one (.d (.list (x12.map (D.int .i64)))))), (65, (I x13)), (66, (I x117)), (85, (.one (.d (.list (x118.map e_st0))))), (86, (I x119)), (87, (I x140))], [.cells [.d (.list (x15.map (D.int .i64))), .d (.int .i64 x122)]]⟩ (by kernel_rfl) ?_
        refine K_skip ?_
        refine K_blk ?_
        refine K_reg [] [] ⟨[(0, (.one (.d (.list (p1.map (D.int .i64)))))), (1, (.one (.d (.list (p2.map (D.int .i64)))))), (2, (I p3)), (11, (.one (.ptr 0 0 0))), (12, (.one (.d (.list (x10.map (D.int .i64)))))), (13, (.one (.d (.list (x11.map (D.int .i64)))))), (15, (I x106)), (64, (.one (.d (.list (x12.map (D.int .i64)))))), (65, (I x13)), (66, (I x117)), (85, (.one (.d (.list (x118.map e_st0))))), (86, (I x119)), (87, (I (w64 (x140 + 1))))], [.cells [.d (.list (x15.map (D.int .i64))), .d (.int .i64 x122)]]⟩ (by kernel_rfl) trivial ?_
        cases H
        exact K_end rfl
  · refine K_f rfl (decide_eq_false hx141) ?_
    refine K_gh ⟨[(0, (.one (.d (.list (p1.map (D.int .i64)))))), (1, (.one (.d (.list (p2.map (D.int .i64)))))), (2, (I p3)), (11, (.one (.ptr 0 0 0))), (12, (.one (.d (.list (x10.map (D.int .i64)))))), (13, (.one (.d (.list (x11.map (D.int .i64)))))), (15, (I x106)), (64, (.one (.d (.list (x12.map (D.int .i64)))))), (65, (I x13)), (66, (I x117))], [.cells [.d (.list (x15.map (D.int .i64))), .d (.int .i64 x122)]]⟩ (by kernel_rfl) ?_
    cases H
    exact K_exit0 rfl rfl
def T_law18_PiecesAnswers_l2 (k : Nat) (p1 : List Int) (p2 : List Int) (p3 : Int) (x10 : List Int) (x11 : List Int) (x12 : List Int) (x13 : Int) (x15 : List Int) (x106 : Int) (x169 : Int) (x170 : List Int) (x171 : Int) (x174 : Int) (x181 : Int) : Option (Int ⊕ (Unit ⊕ Unit)) :=
  (if x181 < x171 then ((at? x170 x181).bind fun x183 => (T_pieces_Starts k x183 x106).bind fun x184 => (T_ref18_Starts k x183 x106).bind fun x185 => (T_keep_Ints k x184.1 x185.1).bind fun x186 => (if ((!x186) || (!decide (x184.2 = x185.2))) = true then some (.inr (.inr ())) else some (.inl (w64 (x181 + 1))))) else some (.inr (.inl ())))
theorem T_law18_PiecesAnswers_l2_ok (k : Nat) (p1 : List Int) (p2 : List Int) (p3 : Int) (x10 : List Int) (x11 : List Int) (x12 : List Int) (x13 : Int) (x15 : List Int) (x106 : Int) (x169 : Int) (x170 : List Int) (x171 : Int) (x174 : Int) : ∀ (x181 : Int) (x : Int ⊕ (Unit ⊕ Unit)), T_law18_PiecesAnswers_l2 k p1 p2 p3 x10 x11 x12 x13 x15 x106 x169 x170 x171 x174 x181 = some x → evC X (evF X k) k 0 l_law18_PiecesAnswers_2 ⟨[(0, (.one (.d (.list (p1.map (D.int .i64)))))), (1, (.one (.d (.list (p2.map (D.int .i64)))))), (2, (I p3)), (11, (.one (.ptr 0 0 0))), (12, (.one (.d (.list (x10.map (D.int .i64)))))), (13, (.one (.d (.list (x11.map (D.int .i64)))))), (15, (I x106)), (64, (.one (.d (.list (x12.map (D.int .i64)))))), (65, (I x13)), (66, (I x169)), (199, (.one (.d (.list (x170.map (D.int .i64)))))), (200, (I x171)), (201, (I x181))], [.cells [.d (.list (x15.map (D.int .i64))), .d (.int .i64 x174)]]⟩ = some (outS (fun (s : Int) => ⟨[(0, (.one (.d (.list (p1.map (D.int .i64)))))), (1, (.one (.d (.list (p2.map (D.int .i64)))))), (2, (I p3)), (11, (.one (.ptr 0 0 0))), (12, (.one (.d (.list (x10.map (D.int .i64)))))), (13, (.one (.d (.list (x11.map (D.int .i64)))))), (15, (I x106)), (64, (.one (.d (.list (x12.map (D.int .i64)))))), (65, (I x13)), (66, (I x169)), (199, (.one (.d (.list (x170.map (D.int .i64)))))), (200, (I x171)), (201, (I s))], [.cells [.d (.list (x15.map (D.int .i64))), .d (.int .i64 x174)]]⟩) (fun (r : Unit ⊕ Unit) => Sum.elim (fun y => (.exit 4, ⟨[(0, (.one (.d (.list (p1.map (D.int .i64)))))), (1, (.one (.d (.list (p2.map (D.int .i64)))))), (2, (I p3)), (11, (.one (.ptr 0 0 0))), (12, (.one (.d (.list (x10.map (D.int .i64)))))), (13, (.one (.d (.list (x11.map (D.int .i64)))))), (64, (.one (.d (.list (x12.map (D.int .i64)))))), (65, (I x13)), (66, (I x169))], [.cells [.d (.list (x15.map (D.int .i64))), .d (.int .i64 x174)]]⟩)) (fun y => (.ret, ⟨[(10, (B false))], []⟩)) r) x) := by
  intro x181 x H
  unfold T_law18_PiecesAnswers_l2 at H
  refine K_in ?_
  refine K_seq ?_
  refine K_reg [] [] ⟨[(0, (.one (.d (.list (p1.map (D.int .i64)))))), (1, (.one (.d (.list (p2.map (D.int .i64)))))), (2, (I p3)), (11, (.one (.ptr 0 0 0))), (12, (.one (.d (.list (x10.map (D.int .i64)))))), (13, (.one (.d (.list (x11.map (D.int .i64)))))), (15, (I x106)), (64, (.one (.d (.list (x12.map (D.int .i64)))))), (65, (I x13)), (66, (I x169)), (199, (.one (.d (.list (x170.map (D.int .i64)))))), (200, (I x171)), (201, (I x181)), (202, (B (decide (x181 < x171))))], [.cells [.d (.list (x15.map (D.int .i64))), .d (.int .i64 x174)]]⟩ (by kernel_rfl) trivial ?_
  refine K_seq ?_
  rcases ite_some H with ⟨hx182, H⟩ | ⟨hx182, H⟩
  · refine K_t rfl (decide_eq_true hx182) ?_
    refine K_gh ⟨[(0, (.one (.d (.list (p1.map (D.int .i64)))))), (1, (.one (.d (.list (p2.map (D.int .i64)))))), (2, (I p3)), (11, (.one (.ptr 0 0 0))), (12, (.one (.d (.list (x10.map (D.int .i64)))))), (13, (.one (.d (.list (x11.map (D.int .i64)))))), (15, (I x106)), (64, (.one (.d (.list (x12.map (D.int .i64)))))), (65, (I x13)), (66, (I x169)), (199, (.one (.d (.list (x170.map (D.int .i64)))))), (200, (I x171)), (201, (I x181))], [.cells [.d (.list (x15.map (D.int .i64))), .d (.int .i64 x174)]]⟩ (by kernel_rfl) ?_
    refine K_skip ?_
    refine K_seq ?_
    refine K_block ?_
    refine K_seq ?_
    obtain ⟨x183, hx183, H⟩ := bind_some' H
    refine K_reg [.l [.int .i64 x183]] [(0 : Int) ≤ x181 ∧ x181 < (((x170.map (D.int .i64))).length : Int), ((x170.map (D.int .i64)).getD x181.toNat (.int .i64 0)).cells = [.int .i64 x183]] ⟨[(0, (.one (.d (.list (p1.map (D.int .i64)))))), (1, (.one (.d (.list (p2.map (D.int .i64)))))), (2, (I p3)), (11, (.one (.ptr 0 0 0))), (12, (.one (.d (.list (x10.map (D.int .i64)))))), (13, (.one (.d (.list (x11.map (D.int .i64)))))), (15, (I x106)), (31, (I x183)), (64, (.one (.d (.list (x12.map (D.int .i64)))))), (65, (I x13)), (66, (I x169)), (199, (.one (.d (.list (x170.map (D.int .i64)))))), (200, (I x171)), (201, (I x181))], [.cells [.d (.list (x15.map (D.int .i64))), .d (.int .i64 x174)]]⟩ (by kernel_rfl) (AC (at_ok hx183 (D.int .i64) (.int .i64 0)).1 (A1 (at_ok hx183 (D.int .i64) (.int .i64 0)).2)) ?_
    refine K_seq ?_
    obtain ⟨x184, hx184, H⟩ := bind_some' H
    refine K_reg [.r (.tup [(false, [.d (.list (x184.1.map (D.int .i64)))]), (false, [.d (.int .i64 x184.2)])]) []] [evF X k n_pieces_Starts [(I x183), (I x106)] [] = some ((.tup [(false, [.d (.list (x184.1.map (D.int .i64)))]), (false, [.d (.int .i64 x184.2)])]), [])] ⟨[(0, (.one (.d (.list (p1.map (D.int .i64)))))), (1, (.one (.d (.list (p2.map (D.int .i64)))))), (2, (I p3)), (11, (.one (.ptr 0 0 0))), (12, (.one (.d (.list (x10.map (D.int .i64)))))), (13, (.one (.d (.list (x11.map (D.int .i64)))))), (15, (I x106)), (31, (I x183)), (32, (.one (.d (.list (x184.1.map (D.int .i64)))))), (33, (I x184.2)), (64, (.one (.d (.list (x12.map (D.int .i64)))))), (65, (I x13)), (66, (I x169)), (199, (.one (.d (.list (x170.map (D.int .i64)))))), (200, (I x171)), (201, (I x181))], [.cells [.d (.list (x15.map (D.int .i64))), .d (.int .i64 x174)]]⟩ (by kernel_rfl) (A1 (T_pieces_Starts_ok k x183 x106 x184 hx184)) ?_
    refine K_seq ?_
    obtain ⟨x185, hx185, H⟩ := bind_some' H
    refine K_reg [.r (.tup [(false, [.d (.list (x185.1.map (D.int .i64)))]), (false, [.d (.int .i64 x185.2)])]) []] [evF X k n_ref18_Starts [(I x183), (I x106)] [] = some ((.tup [(false, [.d (.list (x185.1.map (D.int .i64)))]), (false, [.d (.int .i64 x185.2)])]), [])] ⟨[(0, (.one (.d (.list (p1.map (D.int .i64)))))), (1, (.one (.d (.list (p2.map (D.int .i64)))))), (2, (I p3)), (11, (.one (.ptr 0 0 0))), (12, (.one (.d (.list (x10.map (D.int .i64)))))), (13, (.one (.d (.list (x11.map (D.int .i64)))))), (15, (I x106)), (32, (.one (.d (.list (x184.1.map (D.int .i64)))))), (33, (I x184.2)), (34, (.one (.d (.list (x185.1.map (D.int .i64)))))), (35, (I x185.2)), (64, (.one (.d (.list (x12.map (D.int .i64)))))), (65, (I x13)), (66, (I x169)), (199, (.one (.d (.list (x170.map (D.int .i64)))))), (200, (I x171)), (201, (I x181))], [.cells [.d (.list (x15.map (D.int .i64))), .d (.int .i64 x174)]]⟩ (by kernel_rfl) (A1 (T_ref18_Starts_ok k x183 x106 x185 hx185)) ?_
    refine K_seq ?_
    obtain ⟨x186, hx186, H⟩ := bind_some' H
    refine K_reg [.r (B x186) [], .m] [evF X k n_keep_Ints [(.one (.d (.list (x184.1.map (D.int .i64))))), (.one (.d (.list (x185.1.map (D.int .i64)))))] [] = some ((B x186), []), ([.cells [.d (.list (x15.map (D.int .i64))), .d (.int .i64 x174)]] : Heap) = [.cells [.d (.list (x15.map (D.int .i64))), .d (.int .i64 x174)]]] ⟨[(0, (.one (.d (.list (p1.map (D.int .i64)))))), (1, (.one (.d (.list (p2.map (D.int .i64)))))), (2, (I p3)), (11, (.one (.ptr 0 0 0))), (12, (.one (.d (.list (x10.map (D.int .i64)))))), (13, (.one (.d (.list (x11.map (D.int .i64)))))), (15, (I x106)), (64, (.one (.d (.list (x12.map (D.int .i64)))))), (65, (I x13)), (66, (I x169)), (199, (.one (.d (.list (x170.map (D.int .i64)))))), (200, (I x171)), (201, (I x181)), (225, (B ((!x186) || (!decide (x184.2 = x185.2)))))], [.cells [.d (.list (x15.map (D.int .i64))), .d (.int .i64 x174)]]⟩ (by kernel_rfl) (AC (T_keep_Ints_ok k x184.1 x185.1 x186 hx186) (A1 rfl)) ?_
    rcases ite_some H with ⟨hx187, H⟩ | ⟨hx187, H⟩
    · refine K_t rfl hx187 ?_
      refine K_seq ?_
      refine K_reg [] [] ⟨[(10, (B false))], []⟩ (by kernel_rfl) trivial ?_
      refine K_gh ⟨[(10, (B false))], []⟩ (by kernel_rfl) ?_
      cases H
      exact K_ret rfl
    · refine K_f rfl (Bool.eq_false_iff.2 hx187) ?_
      refine K_gh ⟨[(0, (.one (.d (.list (p1.map (D.int .i64)))))), (1, (.one (.d (.list (p2.map (D.int .i64)))))), (2, (I p3)), (11, (.one (.ptr 0 0 0))), (12, (.one (.d (.list (x10.map (D.int .i64)))))), (13, (.one (.d (.list (x11.map (D.int .i64)))))), (15, (I x106)), (64, (.one (.d (.list (x12.map (D.int .i64)))))), (65, (I x13)), (66, (I x169)), (199, (.one (.d (.list (x170.map (D.int .i64)))))), (200, (I x171)), (201, (I x181))], [.cells [.d (.list (x15.map (D.int .i64))), .d (.int .i64 x174)]]⟩ (by kernel_rfl) ?_
      refine K_skip ?_
      refine K_blk ?_
      refine K_reg [] [] ⟨[(0, (.one (.d (.list (p1.map (D.int .i64)))))), (1, (.one (.d (.list (p2.map (D.int .i64)))))), (2, (I p3)), (11, (.one (.ptr 0 0 0))), (12, (.one (.d (.list (x10.map (D.int .i64)))))), (13, (.one (.d (.list (x11.map (D.int .i64)))))), (15, (I x106)), (64, (.one (.d (.list (x12.map (D.int .i64)))))), (65, (I x13)), (66, (I x169)), (199, (.one (.d (.list (x170.map (D.int .i64)))))), (200, (I x171)), (201, (I (w64 (x181 + 1))))], [.cells [.d (.list (x15.map (D.int .i64))), .d (.int .i64 x174)]]⟩ (by kernel_rfl) trivial ?_
      cases H
      exact K_end rfl
  · refine K_f rfl (decide_eq_false hx182) ?_
    refine K_gh ⟨[(0, (.one (.d (.list (p1.map (D.int .i64)))))), (1, (.one (.d (.list (p2.map (D.int .i64)))))), (2, (I p3)), (11, (.one (.ptr 0 0 0))), (12, (.one (.d (.list (x10.map (D.int .i64)))))), (13, (.one (.d (.list (x11.map (D.int .i64)))))), (64, (.one (.d (.list (x12.map (D.int .i64)))))), (65, (I x13)), (66, (I x169))], [.cells [.d (.list (x15.map (D.int .i64))), .d (.int .i64 x174)]]⟩ (by kernel_rfl) ?_
    cases H
    exact K_exit0 rfl rfl
def T_law18_PiecesAnswers_l3 (k : Nat) (p1 : List Int) (p2 : List Int) (p3 : Int) (x10 : List Int) (x11 : List Int) (x12 : List Int) (x13 : Int) (x15 : List Int) (x104 : Int × Int) : Option ((Int × Int) ⊕ (Unit ⊕ Unit)) :=
  (if x104.1 < x13 then (at? x12 x104.1).bind fun x106 => (if (0 : Int) ≤ 1 ∧ 1 ≤ (x10.length : Int) ∧ (x10.length : Int) ≤ (x10.length : Int) ∧ (x10.length : Int) ≤ (x10.length : Int) then (T_keep_Src_Bent k x11 x15 x104.2).bind fun x108 => (loopT (T_law18_PiecesAnswers_l1 k p1 p2 p3 x10 x11 x12 x13 x15 x106 x104.1 ([(p1, p2), (x10, x11), (x10, x108.1), (((x10.drop 1).take ((x10.length : Int).toNat - 1)), x11)] : List ((List Int) × (List Int))) (([(p1, p2), (x10, x11), (x10, x108.1), (((x10.drop 1).take ((x10.length : Int).toNat - 1)), x11)] : List ((List Int) × (List Int))).length : Int) x108.2) k 0).bind fun x158 => (match x158 with | .inl x159 => ((T_keep_Mod k p3 40).bind fun x160 => (loopT (T_law18_PiecesAnswers_l2 k p1 p2 p3 x10 x11 x12 x13 x15 x106 x104.1 ([p3, (x10.length : Int), x160] : List Int) (([p3, (x10.length : Int), x160] : List Int).length : Int) x108.2) k 0).bind fun x188 => (match x188 with | .inl x189 => some (.inl ((w64 (x104.1 + 1)), x108.2)) | .inr x190 => some (.inr (.inr ())))) | .inr x191 => some (.inr (.inr ()))) else none) else some (.inr (.inl ())))
theorem T_law18_PiecesAnswers_l3_ok (k : Nat) (p1 : List Int) (p2 : List Int) (p3 : Int) (x10 : List Int) (x11 : List Int) (x12 : List Int) (x13 : Int) (x15 : List Int) : ∀ (x104 : Int × Int) (x : (Int × Int) ⊕ (Unit ⊕ Unit)), T_law18_PiecesAnswers_l3 k p1 p2 p3 x10 x11 x12 x13 x15 x104 = some x → evC X (evF X k) k 0 l_law18_PiecesAnswers_3 ⟨[(0, (.one (.d (.list (p1.map (D.int .i64)))))), (1, (.one (.d (.list (p2.map (D.int .i64)))))), (2, (I p3)), (11, (.one (.ptr 0 0 0))), (12, (.one (.d (.list (x10.map (D.int .i64)))))), (13, (.one (.d (.list (x11.map (D.int .i64)))))), (64, (.one (.d (.list (x12.map (D.int .i64)))))), (65, (I x13)), (66, (I x104.1))], [.cells [.d (.list (x15.map (D.int .i64))), .d (.int .i64 x104.2)]]⟩ = some (outS (fun (s : Int × Int) => ⟨[(0, (.one (.d (.list (p1.map (D.int .i64)))))), (1, (.one (.d (.list (p2.map (D.int .i64)))))), (2, (I p3)), (11, (.one (.ptr 0 0 0))), (12, (.one (.d (.list (x10.map (D.int .i64)))))), (13, (.one (.d (.list (x11.map (D.int .i64)))))), (64, (.one (.d (.list (x12.map (D.int .i64)))))), (65, (I x13)), (66, (I s.1))], [.cells [.d (.list (x15.map (D.int .i64))), .d (.int .i64 s.2)]]⟩) (fun (r : Unit ⊕ Unit) => Sum.elim (fun y => (.exit 0, ⟨[], []⟩)) (fun y => (.ret, ⟨[(10, (B false))], []⟩)) r) x) := by
  intro x104 x H
  unfold T_law18_PiecesAnswers_l3 at H
  refine K_in ?_
  refine K_seq ?_
  refine K_reg [] [] ⟨[(0, (.one (.d (.list (p1.map (D.int .i64)))))), (1, (.one (.d (.list (p2.map (D.int .i64)))))), (2, (I p3)), (11, (.one (.ptr 0 0 0))), (12, (.one (.d (.list (x10.map (D.int .i64)))))), (13, (.one (.d (.list (x11.map (D.int .i64)))))), (64, (.one (.d (.list (x12.map (D.int .i64)))))), (65, (I x13)), (66, (I x104.1)), (67, (B (decide (x104.1 < x13))))], [.cells [.d (.list (x15.map (D.int .i64))), .d (.int .i64 x104.2)]]⟩ (by kernel_rfl) trivial ?_
  refine K_seq ?_
  rcases ite_some H with ⟨hx105, H⟩ | ⟨hx105, H⟩
  · refine K_t rfl (decide_eq_true hx105) ?_
    refine K_gh ⟨[(0, (.one (.d (.list (p1.map (D.int .i64)))))), (1, (.one (.d (.list (p2.map (D.int .i64)))))), (2, (I p3)), (11, (.one (.ptr 0 0 0))), (12, (.one (.d (.list (x10.map (D.int .i64)))))), (13, (.one (.d (.list (x11.map (D.int .i64)))))), (64, (.one (.d (.list (x12.map (D.int .i64)))))), (65, (I x13)), (66, (I x104.1))], [.cells [.d (.list (x15.map (D.int .i64))), .d (.int .i64 x104.2)]]⟩ (by kernel_rfl) ?_
    refine K_skip ?_
    refine K_seq ?_
    refine K_block ?_
    refine K_seq ?_
    obtain ⟨x106, hx106, H⟩ := bind_some' H
    refine K_reg [.l [.int .i64 x106]] [(0 : Int) ≤ x104.1 ∧ x104.1 < (((x12.map (D.int .i64))).length : Int), ((x12.map (D.int .i64)).getD x104.1.toNat (.int .i64 0)).cells = [.int .i64 x106]] ⟨[(0, (.one (.d (.list (p1.map (D.int .i64)))))), (1, (.one (.d (.list (p2.map (D.int .i64)))))), (2, (I p3)), (11, (.one (.ptr 0 0 0))), (12, (.one (.d (.list (x10.map (D.int .i64)))))), (13, (.one (.d (.list (x11.map (D.int .i64)))))), (15, (I x106)), (64, (.one (.d (.list (x12.map (D.int .i64)))))), (65, (I x13)), (66, (I x104.1))], [.cells [.d (.list (x15.map (D.int .i64))), .d (.int .i64 x104.2)]]⟩ (by kernel_rfl) (AC (at_ok hx106 (D.int .i64) (.int .i64 0)).1 (A1 (at_ok hx106 (D.int .i64) (.int .i64 0)).2)) ?_
    refine K_seq ?_
    refine K_seq ?_
    obtain ⟨hx107, H⟩ := guard_some H
    obtain ⟨x108, hx108, H⟩ := bind_some' H
    refine K_regD [.l (((x10.drop 1).take ((x10.length : Int).toNat - 1)).map (D.int .i64)), .r (.one (.d (.list (x108.1.map (D.int .i64))))) [.cells [.d (.list (x15.map (D.int .i64))), .d (.int .i64 x108.2)]], .n ([(p1, p2), (x10, x11), (x10, x108.1), (((x10.drop 1).take ((x10.length : Int).toNat - 1)), x11)] : List ((List Int) × (List Int))).length] [((x10.map (D.int .i64)).all fun d => d.cells.length == 1) = true, (0 : Int) ≤ 1 ∧ 1 ≤ (((x10.map (D.int .i64))).length : Int) ∧ (((x10.map (D.int .i64))).length : Int) ≤ (((x10.map (D.int .i64))).length : Int) ∧ (((x10.map (D.int .i64))).length : Int) ≤ (((x10.map (D.int .i64))).length : Int), ((x10.map (D.int .i64)).drop (1 : Int).toNat).take (((((x10.map (D.int .i64))).length : Int) : Int).toNat - (1 : Int).toNat) = ((x10.drop 1).take ((x10.length : Int).toNat - 1)).map (D.int .i64), evF X k n_keep_Src_Bent [(.one (.ptr 0 0 0)), (.one (.d (.list (x11.map (D.int .i64)))))] [.cells [.d (.list (x15.map (D.int .i64))), .d (.int .i64 x104.2)]] = some ((.one (.d (.list (x108.1.map (D.int .i64))))), [.cells [.d (.list (x15.map (D.int .i64))), .d (.int .i64 x108.2)]]), ((([(p1, p2), (x10, x11), (x10, x108.1), (((x10.drop 1).take ((x10.length : Int).toNat - 1)), x11)] : List ((List Int) × (List Int))).map e_st0)).length = ([(p1, p2), (x10, x11), (x10, x108.1), (((x10.drop 1).take ((x10.length : Int).toNat - 1)), x11)] : List ((List Int) × (List Int))).length] ⟨[(0, (.one (.d (.list (p1.map (D.int .i64)))))), (1, (.one (.d (.list (p2.map (D.int .i64)))))), (2, (I p3)), (11, (.one (.ptr 0 0 0))), (12, (.one (.d (.list (x10.map (D.int .i64)))))), (13, (.one (.d (.list (x11.map (D.int .i64)))))), (15, (I x106)), (64, (.one (.d (.list (x12.map (D.int .i64)))))), (65, (I x13)), (66, (I x104.1)), (85, (.one (.d (.list (([(p1, p2), (x10, x11), (x10, x108.1), (((x10.drop 1).take ((x10.length : Int).toNat - 1)), x11)] : List ((List Int) × (List Int))).map e_st0))))), (86, (I (([(p1, p2), (x10, x11), (x10, x108.1), (((x10.drop 1).take ((x10.length : Int).toNat - 1)), x11)] : List ((List Int) × (List Int))).length : Int))), (87, (I 0))], [.cells [.d (.list (x15.map (D.int .i64))), .d (.int .i64 x108.2)]]⟩ (by kernel_rfl) (AC (all_ok (D.int .i64) 1 x10 (fun _ => rfl)) (AC (by simpa using hx107) (AC (by simp) (AC (T_keep_Src_Bent_ok k x11 x15 x104.2 x108 hx108) (A1 (List.length_map _)))))) ?_
    refine K_block ?_
    obtain ⟨x158, hx158, H⟩ := bind_some' H
    cases x158 with
    | inl x159 =>
      dsimp only at H
      refine K_loop ⟨[(0, (.one (.d (.list (p1.map (D.int .i64)))))), (1, (.one (.d (.list (p2.map (D.int .i64)))))), (2, (I p3)), (11, (.one (.ptr 0 0 0))), (12, (.one (.d (.list (x10.map (D.int .i64)))))), (13, (.one (.d (.list (x11.map (D.int .i64)))))), (15, (I x106)), (64, (.one (.d (.list (x12.map (D.int .i64)))))), (65, (I x13)), (66, (I x104.1))], [.cells [.d (.list (x15.map (D.int .i64))), .d (.int .i64 x108.2)]]⟩ (loop_ok (fun (s : Int) => ⟨[(0, (.one (.d (.list (p1.map (D.int .i64)))))), (1, (.one (.d (.list (p2.map (D.int .i64)))))), (2, (I p3)), (11, (.one (.ptr 0 0 0))), (12, (.one (.d (.list (x10.map (D.int .i64)))))), (13, (.one (.d (.list (x11.map (D.int .i64)))))), (15, (I x106)), (64, (.one (.d (.list (x12.map (D.int .i64)))))), (65, (I x13)), (66, (I x104.1)), (85, (.one (.d (.list (([(p1, p2), (x10, x11), (x10, x108.1), (((x10.drop 1).take ((x10.length : Int).toNat - 1)), x11)] : List ((List Int) × (List Int))).map e_st0))))), (86, (I (([(p1, p2), (x10, x11), (x10, x108.1), (((x10.drop 1).take ((x10.length : Int).toNat - 1)), x11)] : List ((List Int) × (List Int))).length : Int))), (87, (I s))], [.cells [.d (.list (x15.map (D.int .i64))), .d (.int .i64 x108.2)]]⟩) (fun (r : Unit ⊕ Unit) => Sum.elim (fun y => (.exit 2, ⟨[(0, (.one (.d (.list (p1.map (D.int .i64)))))), (1, (.one (.d (.list (p2.map (D.int .i64)))))), (2, (I p3)), (11, (.one (.ptr 0 0 0))), (12, (.one (.d (.list (x10.map (D.int .i64)))))), (13, (.one (.d (.list (x11.map (D.int .i64)))))), (15, (I x106)), (64, (.one (.d (.list (x12.map (D.int .i64)))))), (65, (I x13)), (66, (I x104.1))], [.cells [.d (.list (x15.map (D.int .i64))), .d (.int .i64 x108.2)]]⟩)) (fun y => (.ret, ⟨[(10, (B false))], []⟩)) r) (fun r h => by cases r <;> cases h) (T_law18_PiecesAnswers_l1_ok k p1 p2 p3 x10 x11 x12 x13 x15 x106 x104.1 ([(p1, p2), (x10, x11), (x10, x108.1), (((x10.drop 1).take ((x10.length : Int).toNat - 1)), x11)] : List ((List Int) × (List Int))) (([(p1, p2), (x10, x11), (x10, x108.1), (((x10.drop 1).take ((x10.length : Int).toNat - 1)), x11)] : List ((List Int) × (List Int))).length : Int) x108.2) k 0 (.inl x159) hx158) rfl ?_
      refine K_seq ?_
      obtain ⟨x160, hx160, H⟩ := bind_some' H
      refine K_reg [.n x10.length, .r (I x160) [], .n ([p3, (x10.length : Int), x160] : List Int).length] [((x10.map (D.int .i64))).length = x10.length, evF X k n_keep_Mod [(I p3), (I 40)] [] = some ((I x160), []), ((([p3, (x10.length : Int), x160] : List Int).map (D.int .i64))).length = ([p3, (x10.length : Int), x160] : List Int).length] ⟨[(0, (.one (.d (.list (p1.map (D.int .i64)))))), (1, (.one (.d (.list (p2.map (D.int .i64)))))), (2, (I p3)), (11, (.one (.ptr 0 0 0))), (12, (.one (.d (.list (x10.map (D.int .i64)))))), (13, (.one (.d (.list (x11.map (D.int .i64)))))), (15, (I x106)), (64, (.one (.d (.list (x12.map (D.int .i64)))))), (65, (I x13)), (66, (I x104.1)), (199, (.one (.d (.list (([p3, (x10.length : Int), x160] : List Int).map (D.int .i64)))))), (200, (I (([p3, (x10.length : Int), x160] : List Int).length : Int))), (201, (I 0))], [.cells [.d (.list (x15.map (D.int .i64))), .d (.int .i64 x108.2)]]⟩ (by kernel_rfl) (AC (List.length_map _) (AC (T_keep_Mod_ok k p3 40 x160 hx160) (A1 (List.length_map _)))) ?_
      refine K_block ?_
      obtain ⟨x188, hx188, H⟩ := bind_some' H
      cases x188 with
      | inl x189 =>
        dsimp only at H
        refine K_loop ⟨[(0, (.one (.d (.list (p1.map (D.int .i64)))))), (1, (.one (.d (.list (p2.map (D.int .i64)))))), (2, (I p3)), (11, (.one (.ptr 0 0 0))), (12, (.one (.d (.list (x10.map (D.int .i64)))))), (13, (.one (.d (.list (x11.map (D.int .i64)))))), (64, (.one (.d (.list (x12.map (D.int .i64)))))), (65, (I x13)), (66, (I x104.1))], [.cells [.d (.list (x15.map (D.int .i64))), .d (.int .i64 x108.2)]]⟩ (loop_ok (fun (s : Int) => ⟨[(0, (.one (.d (.list (p1.map (D.int .i64)))))), (1, (.one (.d (.list (p2.map (D.int .i64)))))), (2, (I p3)), (11, (.one (.ptr 0 0 0))), (12, (.one (.d (.list (x10.map (D.int .i64)))))), (13, (.one (.d (.list (x11.map (D.int .i64)))))), (15, (I x106)), (64, (.one (.d (.list (x12.map (D.int .i64)))))), (65, (I x13)), (66, (I x104.1)), (199, (.one (.d (.list (([p3, (x10.length : Int), x160] : List Int).map (D.int .i64)))))), (200, (I (([p3, (x10.length : Int), x160] : List Int).length : Int))), (201, (I s))], [.cells [.d (.list (x15.map (D.int .i64))), .d (.int .i64 x108.2)]]⟩) (fun (r : Unit ⊕ Unit) => Sum.elim (fun y => (.exit 4, ⟨[(0, (.one (.d (.list (p1.map (D.int .i64)))))), (1, (.one (.d (.list (p2.map (D.int .i64)))))), (2, (I p3)), (11, (.one (.ptr 0 0 0))), (12, (.one (.d (.list (x10.map (D.int .i64)))))), (13, (.one (.d (.list (x11.map (D.int .i64)))))), (64, (.one (.d (.list (x12.map (D.int .i64)))))), (65, (I x13)), (66, (I x104.1))], [.cells [.d (.list (x15.map (D.int .i64))), .d (.int .i64 x108.2)]]⟩)) (fun y => (.ret, ⟨[(10, (B false))], []⟩)) r) (fun r h => by cases r <;> cases h) (T_law18_PiecesAnswers_l2_ok k p1 p2 p3 x10 x11 x12 x13 x15 x106 x104.1 ([p3, (x10.length : Int), x160] : List Int) (([p3, (x10.length : Int), x160] : List Int).length : Int) x108.2) k 0 (.inl x189) hx188) rfl ?_
        refine K_blk ?_
        refine K_reg [] [] ⟨[(0, (.one (.d (.list (p1.map (D.int .i64)))))), (1, (.one (.d (.list (p2.map (D.int .i64)))))), (2, (I p3)), (11, (.one (.ptr 0 0 0))), (12, (.one (.d (.list (x10.map (D.int .i64)))))), (13, (.one (.d (.list (x11.map (D.int .i64)))))), (64, (.one (.d (.list (x12.map (D.int .i64)))))), (65, (I x13)), (66, (I (w64 (x104.1 + 1))))], [.cells [.d (.list (x15.map (D.int .i64))), .d (.int .i64 x108.2)]]⟩ (by kernel_rfl) trivial ?_
        cases H
        exact K_end rfl
      | inr x190 =>
        dsimp only at H
        cases H
        exact K_loopr ⟨[(10, (B false))], []⟩ (loop_ok (fun (s : Int) => ⟨[(0, (.one (.d (.list (p1.map (D.int .i64)))))), (1, (.one (.d (.list (p2.map (D.int .i64)))))), (2, (I p3)), (11, (.one (.ptr 0 0 0))), (12, (.one (.d (.list (x10.map (D.int .i64)))))), (13, (.one (.d (.list (x11.map (D.int .i64)))))), (15, (I x106)), (64, (.one (.d (.list (x12.map (D.int .i64)))))), (65, (I x13)), (66, (I x104.1)), (199, (.one (.d (.list (([p3, (x10.length : Int), x160] : List Int).map (D.int .i64)))))), (200, (I (([p3, (x10.length : Int), x160] : List Int).length : Int))), (201, (I s))], [.cells [.d (.list (x15.map (D.int .i64))), .d (.int .i64 x108.2)]]⟩) (fun (r : Unit ⊕ Unit) => Sum.elim (fun y => (.exit 4, ⟨[(0, (.one (.d (.list (p1.map (D.int .i64)))))), (1, (.one (.d (.list (p2.map (D.int .i64)))))), (2, (I p3)), (11, (.one (.ptr 0 0 0))), (12, (.one (.d (.list (x10.map (D.int .i64)))))), (13, (.one (.d (.list (x11.map (D.int .i64)))))), (64, (.one (.d (.list (x12.map (D.int .i64)))))), (65, (I x13)), (66, (I x104.1))], [.cells [.d (.list (x15.map (D.int .i64))), .d (.int .i64 x108.2)]]⟩)) (fun y => (.ret, ⟨[(10, (B false))], []⟩)) r) (fun r h => by cases r <;> cases h) (T_law18_PiecesAnswers_l2_ok k p1 p2 p3 x10 x11 x12 x13 x15 x106 x104.1 ([p3, (x10.length : Int), x160] : List Int) (([p3, (x10.length : Int), x160] : List Int).length : Int) x108.2) k 0 (.inr x190) hx188) rfl
    | inr x191 =>
      dsimp only at H
      cases H
      exact K_loopr ⟨[(10, (B false))], []⟩ (loop_ok (fun (s : Int) => ⟨[(0, (.one (.d (.list (p1.map (D.int .i64)))))), (1, (.one (.d (.list (p2.map (D.int .i64)))))), (2, (I p3)), (11, (.one (.ptr 0 0 0))), (12, (.one (.d (.list (x10.map (D.int .i64)))))), (13, (.one (.d (.list (x11.map (D.int .i64)))))), (15, (I x106)), (64, (.one (.d (.list (x12.map (D.int .i64)))))), (65, (I x13)), (66, (I x104.1)), (85, (.one (.d (.list (([(p1, p2), (x10, x11), (x10, x108.1), (((x10.drop 1).take ((x10.length : Int).toNat - 1)), x11)] : List ((List Int) × (List Int))).map e_st0))))), (86, (I (([(p1, p2), (x10, x11), (x10, x108.1), (((x10.drop 1).take ((x10.length : Int).toNat - 1)), x11)] : List ((List Int) × (List Int))).length : Int))), (87, (I s))], [.cells [.d (.list (x15.map (D.int .i64))), .d (.int .i64 x108.2)]]⟩) (fun (r : Unit ⊕ Unit) => Sum.elim (fun y => (.exit 2, ⟨[(0, (.one (.d (.list (p1.map (D.int .i64)))))), (1, (.one (.d (.list (p2.map (D.int .i64)))))), (2, (I p3)), (11, (.one (.ptr 0 0 0))), (12, (.one (.d (.list (x10.map (D.int .i64)))))), (13, (.one (.d (.list (x11.map (D.int .i64)))))), (15, (I x106)), (64, (.one (.d (.list (x12.map (D.int .i64)))))), (65, (I x13)), (66, (I x104.1))], [.cells [.d (.list (x15.map (D.int .i64))), .d (.int .i64 x108.2)]]⟩)) (fun y => (.ret, ⟨[(10, (B false))], []⟩)) r) (fun r h => by cases r <;> cases h) (T_law18_PiecesAnswers_l1_ok k p1 p2 p3 x10 x11 x12 x13 x15 x106 x104.1 ([(p1, p2), (x10, x11), (x10, x108.1), (((x10.drop 1).take ((x10.length : Int).toNat - 1)), x11)] : List ((List Int) × (List Int))) (([(p1, p2), (x10, x11), (x10, x108.1), (((x10.drop 1).take ((x10.length : Int).toNat - 1)), x11)] : List ((List Int) × (List Int))).length : Int) x108.2) k 0 (.inr x191) hx158) rfl
  · refine K_f rfl (decide_eq_false hx105) ?_
    refine K_gh ⟨[], []⟩ (by kernel_rfl) ?_
    cases H
    exact K_exit0 rfl rfl
def T_law18_PiecesAnswers (k : Nat) (p1 : List Int) (p2 : List Int) (p3 : Int) (p4 : Int) (p5 : List Int) : Option Bool := match k with
  | 0 => none
  | k + 1 => (if (decide (100 < (p1.length : Int)) || decide (100 < (p2.length : Int))) = true then ((T_law18_awake k).bind fun x2 => some x2) else ((T_keep_New k p5).bind fun x3 => (T_keep_Src_Pair k ((p5.drop 0).take ((imin (p5.length : Int) 2000).toNat - 0)) 0).bind fun x4 => (T_law18_count k (x4.1.length : Int) ((p5.drop 0).take ((imin (p5.length : Int) 2000).toNat - 0)) x4.2.2).bind fun x5 => (T_keep_Mod k p4 11).bind fun x6 => (loopT (T_law18_PiecesAnswers_l3 k p1 p2 p3 x4.1 x4.2.1 ([p4, x5.1, x6, (x4.1.length : Int), (w64 ((x4.1.length : Int) + 1))] : List Int) (([p4, x5.1, x6, (x4.1.length : Int), (w64 ((x4.1.length : Int) + 1))] : List Int).length : Int) ((p5.drop 0).take ((imin (p5.length : Int) 2000).toNat - 0))) k (0, x5.2)).bind fun x192 => (match x192 with | .inl x193 => ((T_law18_awake k).bind fun x194 => some x194) | .inr x195 => some false)))
theorem T_law18_PiecesAnswers_ok (k : Nat) (p1 : List Int) (p2 : List Int) (p3 : Int) (p4 : Int) (p5 : List Int) (r : Bool) : T_law18_PiecesAnswers k p1 p2 p3 p4 p5 = some r → evF X k n_law18_PiecesAnswers [(.one (.d (.list (p1.map (D.int .i64))))), (.one (.d (.list (p2.map (D.int .i64))))), (I p3), (I p4), (.one (.d (.list (p5.map (D.int .i64)))))] [] = some ((B r), []) := by
  intro H
  cases k with
  | zero => simp [T_law18_PiecesAnswers] at H
  | succ k =>
    simp only [T_law18_PiecesAnswers] at H
    refine F_in X_law18_PiecesAnswers rfl ?_
    refine K_seq ?_
    refine K_reg [] [] ⟨[(0, (.one (.d (.list (p1.map (D.int .i64)))))), (1, (.one (.d (.list (p2.map (D.int .i64)))))), (2, (I p3)), (3, (I p4)), (4, (.one (.d (.list (p5.map (D.int .i64))))))], []⟩ (by kernel_rfl) trivial ?_
    refine K_seq ?_
    refine K_seq ?_
    refine K_reg [.n p1.length, .m, .n p2.length] [((p1.map (D.int .i64))).length = p1.length, decide (100 < (p1.length : Int)) = false → AllT [((p2.map (D.int .i64))).length = p2.length], ([] : Heap) = []] ⟨[(0, (.one (.d (.list (p1.map (D.int .i64)))))), (1, (.one (.d (.list (p2.map (D.int .i64)))))), (2, (I p3)), (3, (I p4)), (4, (.one (.d (.list (p5.map (D.int .i64)))))), (43, (B (decide (100 < (p1.length : Int)) || decide (100 < (p2.length : Int)))))], []⟩ (by kernel_rfl) (AC (List.length_map _) (AC (fun _ => (A1 (List.length_map _))) (A1 rfl))) ?_
    rcases ite_some H with ⟨hx1, H⟩ | ⟨hx1, H⟩
    · refine K_t rfl hx1 ?_
      refine K_seq ?_
      obtain ⟨x2, hx2, H⟩ := bind_some' H
      refine K_reg [.r (B x2) []] [evF X k n_law18_awake [] [] = some ((B x2), [])] ⟨[(10, (B x2))], []⟩ (by kernel_rfl) (A1 (T_law18_awake_ok k x2 hx2)) ?_
      refine K_gh ⟨[(10, (B x2))], []⟩ (by kernel_rfl) ?_
      cases H
      refine K_ret ?_
      kernel_rfl
    · refine K_f rfl (Bool.eq_false_iff.2 hx1) ?_
      refine K_gh ⟨[(0, (.one (.d (.list (p1.map (D.int .i64)))))), (1, (.one (.d (.list (p2.map (D.int .i64)))))), (2, (I p3)), (3, (I p4)), (4, (.one (.d (.list (p5.map (D.int .i64))))))], []⟩ (by kernel_rfl) ?_
      refine K_skip ?_
      refine K_seq ?_
      obtain ⟨x3, hx3, H⟩ := bind_some' H
      refine K_reg [.r (.one (.ptr 0 0 0)) [.cells [.d (.list (((p5.drop 0).take ((imin (p5.length : Int) 2000).toNat - 0)).map (D.int .i64))), .d (.int .i64 0)]]] [evF X k n_keep_New [(.one (.d (.list (p5.map (D.int .i64)))))] [] = some ((.one (.ptr 0 0 0)), [.cells [.d (.list (((p5.drop 0).take ((imin (p5.length : Int) 2000).toNat - 0)).map (D.int .i64))), .d (.int .i64 0)]])] ⟨[(0, (.one (.d (.list (p1.map (D.int .i64)))))), (1, (.one (.d (.list (p2.map (D.int .i64)))))), (2, (I p3)), (3, (I p4)), (11, (.one (.ptr 0 0 0)))], [.cells [.d (.list (((p5.drop 0).take ((imin (p5.length : Int) 2000).toNat - 0)).map (D.int .i64))), .d (.int .i64 0)]]⟩ (by kernel_rfl) (A1 (T_keep_New_ok k p5 x3 hx3)) ?_
      refine K_seq ?_
      obtain ⟨x4, hx4, H⟩ := bind_some' H
      refine K_reg [.r (.tup [(false, [.d (.list (x4.1.map (D.int .i64)))]), (false, [.d (.list (x4.2.1.map (D.int .i64)))])]) [.cells [.d (.list (((p5.drop 0).take ((imin (p5.length : Int) 2000).toNat - 0)).map (D.int .i64))), .d (.int .i64 x4.2.2)]]] [evF X k n_keep_Src_Pair [(.one (.ptr 0 0 0))] [.cells [.d (.list (((p5.drop 0).take ((imin (p5.length : Int) 2000).toNat - 0)).map (D.int .i64))), .d (.int .i64 0)]] = some ((.tup [(false, [.d (.list (x4.1.map (D.int .i64)))]), (false, [.d (.list (x4.2.1.map (D.int .i64)))])]), [.cells [.d (.list (((p5.drop 0).take ((imin (p5.length : Int) 2000).toNat - 0)).map (D.int .i64))), .d (.int .i64 x4.2.2)]])] ⟨[(0, (.one (.d (.list (p1.map (D.int .i64)))))), (1, (.one (.d (.list (p2.map (D.int .i64)))))), (2, (I p3)), (3, (I p4)), (11, (.one (.ptr 0 0 0))), (12, (.one (.d (.list (x4.1.map (D.int .i64)))))), (13, (.one (.d (.list (x4.2.1.map (D.int .i64))))))], [.cells [.d (.list (((p5.drop 0).take ((imin (p5.length : Int) 2000).toNat - 0)).map (D.int .i64))), .d (.int .i64 x4.2.2)]]⟩ (by kernel_rfl) (A1 (T_keep_Src_Pair_ok k ((p5.drop 0).take ((imin (p5.length : Int) 2000).toNat - 0)) 0 x4 hx4)) ?_
      refine K_seq ?_
      refine K_seq ?_
      obtain ⟨x5, hx5, H⟩ := bind_some' H
      obtain ⟨x6, hx6, H⟩ := bind_some' H
      refine K_reg [.n x4.1.length, .r (I x5.1) [.cells [.d (.list (((p5.drop 0).take ((imin (p5.length : Int) 2000).toNat - 0)).map (D.int .i64))), .d (.int .i64 x5.2)]], .r (I x6) [], .n x4.1.length, .n x4.1.length, .n ([p4, x5.1, x6, (x4.1.length : Int), (w64 ((x4.1.length : Int) + 1))] : List Int).length] [((x4.1.map (D.int .i64))).length = x4.1.length, evF X k n_law18_count [(.one (.ptr 0 0 0)), (I (x4.1.length : Int))] [.cells [.d (.list (((p5.drop 0).take ((imin (p5.length : Int) 2000).toNat - 0)).map (D.int .i64))), .d (.int .i64 x4.2.2)]] = some ((I x5.1), [.cells [.d (.list (((p5.drop 0).take ((imin (p5.length : Int) 2000).toNat - 0)).map (D.int .i64))), .d (.int .i64 x5.2)]]), evF X k n_keep_Mod [(I p4), (I 11)] [] = some ((I x6), []), ((x4.1.map (D.int .i64))).length = x4.1.length, ((x4.1.map (D.int .i64))).length = x4.1.length, ((([p4, x5.1, x6, (x4.1.length : Int), (w64 ((x4.1.length : Int) + 1))] : List Int).map (D.int .i64))).length = ([p4, x5.1, x6, (x4.1.length : Int), (w64 ((x4.1.length : Int) + 1))] : List Int).length] ⟨[(0, (.one (.d (.list (p1.map (D.int .i64)))))), (1, (.one (.d (.list (p2.map (D.int .i64)))))), (2, (I p3)), (11, (.one (.ptr 0 0 0))), (12, (.one (.d (.list (x4.1.map (D.int .i64)))))), (13, (.one (.d (.list (x4.2.1.map (D.int .i64)))))), (64, (.one (.d (.list (([p4, x5.1, x6, (x4.1.length : Int), (w64 ((x4.1.length : Int) + 1))] : List Int).map (D.int .i64)))))), (65, (I (([p4, x5.1, x6, (x4.1.length : Int), (w64 ((x4.1.length : Int) + 1))] : List Int).length : Int))), (66, (I 0))], [.cells [.d (.list (((p5.drop 0).take ((imin (p5.length : Int) 2000).toNat - 0)).map (D.int .i64))), .d (.int .i64 x5.2)]]⟩ (by kernel_rfl) (AC (List.length_map _) (AC (T_law18_count_ok k (x4.1.length : Int) ((p5.drop 0).take ((imin (p5.length : Int) 2000).toNat - 0)) x4.2.2 x5 hx5) (AC (T_keep_Mod_ok k p4 11 x6 hx6) (AC (List.length_map _) (AC (List.length_map _) (A1 (List.length_map _))))))) ?_
      refine K_block ?_
      obtain ⟨x192, hx192, H⟩ := bind_some' H
      cases x192 with
      | inl x193 =>
        dsimp only at H
        refine K_loop ⟨[], []⟩ (loop_ok (fun (s : Int × Int) => ⟨[(0, (.one (.d (.list (p1.map (D.int .i64)))))), (1, (.one (.d (.list (p2.map (D.int .i64)))))), (2, (I p3)), (11, (.one (.ptr 0 0 0))), (12, (.one (.d (.list (x4.1.map (D.int .i64)))))), (13, (.one (.d (.list (x4.2.1.map (D.int .i64)))))), (64, (.one (.d (.list (([p4, x5.1, x6, (x4.1.length : Int), (w64 ((x4.1.length : Int) + 1))] : List Int).map (D.int .i64)))))), (65, (I (([p4, x5.1, x6, (x4.1.length : Int), (w64 ((x4.1.length : Int) + 1))] : List Int).length : Int))), (66, (I s.1))], [.cells [.d (.list (((p5.drop 0).take ((imin (p5.length : Int) 2000).toNat - 0)).map (D.int .i64))), .d (.int .i64 s.2)]]⟩) (fun (r : Unit ⊕ Unit) => Sum.elim (fun y => (.exit 0, ⟨[], []⟩)) (fun y => (.ret, ⟨[(10, (B false))], []⟩)) r) (fun r h => by cases r <;> cases h) (T_law18_PiecesAnswers_l3_ok k p1 p2 p3 x4.1 x4.2.1 ([p4, x5.1, x6, (x4.1.length : Int), (w64 ((x4.1.length : Int) + 1))] : List Int) (([p4, x5.1, x6, (x4.1.length : Int), (w64 ((x4.1.length : Int) + 1))] : List Int).length : Int) ((p5.drop 0).take ((imin (p5.length : Int) 2000).toNat - 0))) k (0, x5.2) (.inl x193) hx192) rfl ?_
        refine K_seq ?_
        obtain ⟨x194, hx194, H⟩ := bind_some' H
        refine K_reg [.r (B x194) []] [evF X k n_law18_awake [] [] = some ((B x194), [])] ⟨[(10, (B x194))], []⟩ (by kernel_rfl) (A1 (T_law18_awake_ok k x194 hx194)) ?_
        refine K_gh ⟨[(10, (B x194))], []⟩ (by kernel_rfl) ?_
        cases H
        refine K_ret ?_
        kernel_rfl
      | inr x195 =>
        dsimp only at H
        cases H
        refine K_loopr ⟨[(10, (B false))], []⟩ (loop_ok (fun (s : Int × Int) => ⟨[(0, (.one (.d (.list (p1.map (D.int .i64)))))), (1, (.one (.d (.list (p2.map (D.int .i64)))))), (2, (I p3)), (11, (.one (.ptr 0 0 0))), (12, (.one (.d (.list (x4.1.map (D.int .i64)))))), (13, (.one (.d (.list (x4.2.1.map (D.int .i64)))))), (64, (.one (.d (.list (([p4, x5.1, x6, (x4.1.length : Int), (w64 ((x4.1.length : Int) + 1))] : List Int).map (D.int .i64)))))), (65, (I (([p4, x5.1, x6, (x4.1.length : Int), (w64 ((x4.1.length : Int) + 1))] : List Int).length : Int))), (66, (I s.1))], [.cells [.d (.list (((p5.drop 0).take ((imin (p5.length : Int) 2000).toNat - 0)).map (D.int .i64))), .d (.int .i64 s.2)]]⟩) (fun (r : Unit ⊕ Unit) => Sum.elim (fun y => (.exit 0, ⟨[], []⟩)) (fun y => (.ret, ⟨[(10, (B false))], []⟩)) r) (fun r h => by cases r <;> cases h) (T_law18_PiecesAnswers_l3_ok k p1 p2 p3 x4.1 x4.2.1 ([p4, x5.1, x6, (x4.1.length : Int), (w64 ((x4.1.length : Int) + 1))] : List Int) (([p4, x5.1, x6, (x4.1.length : Int), (w64 ((x4.1.length : Int) + 1))] : List Int).length : Int) ((p5.drop 0).take ((imin (p5.length : Int) 2000).toNat - 0))) k (0, x5.2) (.inr x195) hx192) ?_
        kernel_rfl
end Go.Proofs.Ytkiacebcedpljaa.piecesAnswers
