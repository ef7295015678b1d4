/- What the functions that the statement PiecesBound reaches compute, told as functions of Lean, and that the theory's language computes the same: part 2 of 2. There are no conditions. -/
import Derived.Test.YtkiacebcedpljaaTPiecesBound0
set_option maxRecDepth 100000
set_option linter.unusedVariables false
set_option linter.unusedSimpArgs false
namespace Go.Proofs.Ytkiacebcedpljaa.piecesBound
open Go
def T_ref01_Valid (k : Nat) (p1 : Int) (p2 : Int) : Option Bool := match k with
  | 0 => none
  | k + 1 => (((if (((decide (0 ≤ p1) && decide (p1 ≤ 2305843009213693952)) && decide (1 ≤ p2)) && decide (p2 ≤ 1152921504606846976)) = true then ((T_ref01_common k p1 p2).bind fun x3 => some (decide (x3 = 1))) else some false)).bind fun x4 => some x4)
theorem T_ref01_Valid_ok (k : Nat) (p1 : Int) (p2 : Int) (r : Bool) : T_ref01_Valid k p1 p2 = some r → evF X k n_ref01_Valid [(.agg [.d (.int .i64 p1), .d (.int .i64 p2)])] [] = some ((B r), []) := by
  intro H
  cases k with
  | zero => simp [T_ref01_Valid] at H
  | succ k =>
    simp only [T_ref01_Valid] at H
    refine F_in X_ref01_Valid rfl ?_
    refine K_seq ?_
    refine K_reg [] [] ⟨[(1, (.one (.ptr 0 0 0)))], [.cells [.d (.int .i64 p1), .d (.int .i64 p2)]]⟩ (by kernel_rfl) trivial ?_
    refine K_seq ?_
    obtain ⟨x4, hx4, H⟩ := bind_some' H
    refine K_of ⟨[(2, (B x4))], []⟩ ?_ ?_
    · clear H; have H := hx4; clear hx4; refine K_in ?_
      rcases ite_some H with ⟨hx2, H⟩ | ⟨hx2, H⟩
      · obtain ⟨x3, hx3, H⟩ := bind_some' H
        refine K_reg [.m, .m, .m, .b true, .r (I x3) []] [([.cells [.d (.int .i64 p1), .d (.int .i64 p2)]] : Heap) = [.cells [.d (.int .i64 p1), .d (.int .i64 p2)]], ([.cells [.d (.int .i64 p1), .d (.int .i64 p2)]] : Heap) = [.cells [.d (.int .i64 p1), .d (.int .i64 p2)]], ([.cells [.d (.int .i64 p1), .d (.int .i64 p2)]] : Heap) = [.cells [.d (.int .i64 p1), .d (.int .i64 p2)]], (((decide (0 ≤ p1) && decide (p1 ≤ 2305843009213693952)) && decide (1 ≤ p2)) && decide (p2 ≤ 1152921504606846976)) = true, evF X k n_ref01_common [(I p1), (I p2)] [] = some ((I x3), [])] ⟨[(2, (B (decide (x3 = 1))))], []⟩ (by kernel_rfl) (AC rfl (AC rfl (AC rfl (AC hx2 (A1 (T_ref01_common_ok k p1 p2 x3 hx3)))))) ?_
        cases H
        exact K_end rfl
      · refine K_reg [.m, .m, .m, .b false] [([.cells [.d (.int .i64 p1), .d (.int .i64 p2)]] : Heap) = [.cells [.d (.int .i64 p1), .d (.int .i64 p2)]], ([.cells [.d (.int .i64 p1), .d (.int .i64 p2)]] : Heap) = [.cells [.d (.int .i64 p1), .d (.int .i64 p2)]], ([.cells [.d (.int .i64 p1), .d (.int .i64 p2)]] : Heap) = [.cells [.d (.int .i64 p1), .d (.int .i64 p2)]], (((decide (0 ≤ p1) && decide (p1 ≤ 2305843009213693952)) && decide (1 ≤ p2)) && decide (p2 ≤ 1152921504606846976)) = false] ⟨[(2, (B false))], []⟩ (by kernel_rfl) (AC rfl (AC rfl (AC rfl (A1 (Bool.eq_false_iff.2 hx2))))) ?_
        cases H
        exact K_end rfl
    refine K_gh ⟨[(2, (B x4))], []⟩ (by kernel_rfl) ?_
    cases H
    refine K_ret ?_
    kernel_rfl
def T_ref01_Make (k : Nat) (p1 : Int) (p2 : Int) : Option (Int × Int × Int) := match k with
  | 0 => none
  | k + 1 => (if (decide (p1 < 0) || decide (p2 < 1)) = true then some (0, 0, 1) else (T_ref01_common k p1 p2).bind fun x2 => (if x2 ≠ 0 then (T_ref01_Valid k (w64 (p1.tdiv x2)) (w64 (p2.tdiv x2))).bind fun x4 => (if (!x4) = true then some (0, 0, 1) else some ((w64 (p1.tdiv x2)), (w64 (p2.tdiv x2)), 0)) else none))
theorem T_ref01_Make_ok (k : Nat) (p1 : Int) (p2 : Int) (r : Int × Int × Int) : T_ref01_Make k p1 p2 = some r → evF X k n_ref01_Make [(I p1), (I p2)] [] = some ((.tup [(true, [.d (.int .i64 r.1), .d (.int .i64 r.2.1)]), (false, [.d (.int .i64 r.2.2)])]), []) := by
  intro H
  cases k with
  | zero => simp [T_ref01_Make] at H
  | succ k =>
    simp only [T_ref01_Make] at H
    refine F_in X_ref01_Make rfl ?_
    refine K_seq ?_
    refine K_reg [] [] ⟨[(0, (I p1)), (1, (I p2)), (4, (.one (.ptr 0 0 0)))], [.cells [.d (.int .i64 0), .d (.int .i64 0)]]⟩ (by kernel_rfl) trivial ?_
    refine K_seq ?_
    refine K_seq ?_
    refine K_reg [.m] [([.cells [.d (.int .i64 0), .d (.int .i64 0)]] : Heap) = [.cells [.d (.int .i64 0), .d (.int .i64 0)]]] ⟨[(0, (I p1)), (1, (I p2)), (4, (.one (.ptr 0 0 0))), (13, (B (decide (p1 < 0) || decide (p2 < 1))))], [.cells [.d (.int .i64 0), .d (.int .i64 0)]]⟩ (by kernel_rfl) (A1 rfl) ?_
    rcases ite_some H with ⟨hx1, H⟩ | ⟨hx1, H⟩
    · refine K_t rfl hx1 ?_
      refine K_seq ?_
      refine K_reg [] [] ⟨[(4, (.one (.ptr 0 0 0))), (5, (I 1))], [.cells [.d (.int .i64 0), .d (.int .i64 0)]]⟩ (by kernel_rfl) trivial ?_
      refine K_gh ⟨[(4, (.one (.ptr 0 0 0))), (5, (I 1))], [.cells [.d (.int .i64 0), .d (.int .i64 0)]]⟩ (by kernel_rfl) ?_
      cases H
      refine K_ret ?_
      kernel_rfl
    · refine K_f rfl (Bool.eq_false_iff.2 hx1) ?_
      refine K_gh ⟨[(0, (I p1)), (1, (I p2)), (4, (.one (.ptr 0 0 0)))], [.cells [.d (.int .i64 0), .d (.int .i64 0)]]⟩ (by kernel_rfl) ?_
      refine K_skip ?_
      refine K_seq ?_
      obtain ⟨x2, hx2, H⟩ := bind_some' H
      refine K_reg [.r (I x2) []] [evF X k n_ref01_common [(I p1), (I p2)] [] = some ((I x2), [])] ⟨[(0, (I p1)), (1, (I p2)), (4, (.one (.ptr 0 0 0))), (6, (I x2))], [.cells [.d (.int .i64 0), .d (.int .i64 0)]]⟩ (by kernel_rfl) (A1 (T_ref01_common_ok k p1 p2 x2 hx2)) ?_
      refine K_seq ?_
      obtain ⟨hx3, H⟩ := guard_some H
      refine K_reg [] [x2 ≠ (0 : Int), x2 ≠ (0 : Int)] ⟨[(4, (.one (.ptr 0 0 0))), (7, (.one (.ptr 1 0 0)))], [.cells [.d (.int .i64 0), .d (.int .i64 0)], .cells [.d (.int .i64 (w64 (p1.tdiv x2))), .d (.int .i64 (w64 (p2.tdiv x2)))]]⟩ (by kernel_rfl) (AC hx3 (A1 hx3)) ?_
      refine K_seq ?_
      refine K_seq ?_
      obtain ⟨x4, hx4, H⟩ := bind_some' H
      refine K_reg [.r (B x4) []] [evF X k n_ref01_Valid [(.agg [.d (.int .i64 (w64 (p1.tdiv x2))), .d (.int .i64 (w64 (p2.tdiv x2)))])] [] = some ((B x4), [])] ⟨[(4, (.one (.ptr 0 0 0))), (7, (.one (.ptr 1 0 0))), (27, (B (!x4)))], [.cells [.d (.int .i64 0), .d (.int .i64 0)], .cells [.d (.int .i64 (w64 (p1.tdiv x2))), .d (.int .i64 (w64 (p2.tdiv x2)))]]⟩ (by kernel_rfl) (A1 (T_ref01_Valid_ok k (w64 (p1.tdiv x2)) (w64 (p2.tdiv x2)) x4 hx4)) ?_
      rcases ite_some H with ⟨hx5, H⟩ | ⟨hx5, H⟩
      · refine K_t rfl hx5 ?_
        refine K_seq ?_
        refine K_reg [] [] ⟨[(4, (.one (.ptr 0 0 0))), (5, (I 1))], [.cells [.d (.int .i64 0), .d (.int .i64 0)]]⟩ (by kernel_rfl) trivial ?_
        refine K_gh ⟨[(4, (.one (.ptr 0 0 0))), (5, (I 1))], [.cells [.d (.int .i64 0), .d (.int .i64 0)]]⟩ (by kernel_rfl) ?_
        cases H
        refine K_ret ?_
        kernel_rfl
      · refine K_f rfl (Bool.eq_false_iff.2 hx5) ?_
        refine K_gh ⟨[(4, (.one (.ptr 0 0 0))), (7, (.one (.ptr 1 0 0)))], [.cells [.d (.int .i64 0), .d (.int .i64 0)], .cells [.d (.int .i64 (w64 (p1.tdiv x2))), .d (.int .i64 (w64 (p2.tdiv x2)))]]⟩ (by kernel_rfl) ?_
        refine K_skip ?_
        refine K_seq ?_
        refine K_reg [] [] ⟨[(4, (.one (.ptr 0 0 0))), (5, (I 0))], [.cells [.d (.int .i64 (w64 (p1.tdiv x2))), .d (.int .i64 (w64 (p2.tdiv x2)))]]⟩ (by kernel_rfl) trivial ?_
        refine K_gh ⟨[(4, (.one (.ptr 0 0 0))), (5, (I 0))], [.cells [.d (.int .i64 (w64 (p1.tdiv x2))), .d (.int .i64 (w64 (p2.tdiv x2)))]]⟩ (by kernel_rfl) ?_
        cases H
        refine K_ret ?_
        kernel_rfl
def T_ref12_Shifted (k : Nat) (p1 : List Int) (p2 : List Int) : Option (Int × Int × Int) := match k with
  | 0 => none
  | k + 1 => ((T_ref12_Two k p1 p2 0).bind fun x1 => (if (!decide (x1 = 0)) = true then some (0, 0, x1) else ((T_ref12_sums k p1 p2).bind fun x3 => (T_ref01_Make k (w64 ((w64 ((p1.length : Int) * x3.2)) - (w64 (x3.1 * x3.1)))) (p1.length : Int)).bind fun x4 => some (x4.1, x4.2.1, x4.2.2))))
theorem T_ref12_Shifted_ok (k : Nat) (p1 : List Int) (p2 : List Int) (r : Int × Int × Int) : T_ref12_Shifted k p1 p2 = some r → evF X k n_ref12_Shifted [(.one (.d (.list (p1.map (D.int .i64))))), (.one (.d (.list (p2.map (D.int .i64)))))] [] = some ((.tup [(true, [.d (.int .i64 r.1), .d (.int .i64 r.2.1)]), (false, [.d (.int .i64 r.2.2)])]), []) := by
  intro H
  cases k with
  | zero => simp [T_ref12_Shifted] at H
  | succ k =>
    simp only [T_ref12_Shifted] at H
    refine F_in X_ref12_Shifted rfl ?_
    refine K_seq ?_
    refine K_reg [] [] ⟨[(0, (.one (.d (.list (p1.map (D.int .i64)))))), (1, (.one (.d (.list (p2.map (D.int .i64)))))), (4, (.one (.ptr 0 0 0)))], [.cells [.d (.int .i64 0), .d (.int .i64 0)]]⟩ (by kernel_rfl) trivial ?_
    refine K_seq ?_
    refine K_seq ?_
    obtain ⟨x1, hx1, H⟩ := bind_some' H
    refine K_reg [.r (I x1) []] [evF X k n_ref12_Two [(.one (.d (.list (p1.map (D.int .i64))))), (.one (.d (.list (p2.map (D.int .i64))))), (I 0)] [] = some ((I x1), [])] ⟨[(0, (.one (.d (.list (p1.map (D.int .i64)))))), (1, (.one (.d (.list (p2.map (D.int .i64)))))), (4, (.one (.ptr 0 0 0))), (6, (I x1))], [.cells [.d (.int .i64 0), .d (.int .i64 0)]]⟩ (by kernel_rfl) (A1 (T_ref12_Two_ok k p1 p2 0 x1 hx1)) ?_
    refine K_seq ?_
    refine K_reg [] [] ⟨[(0, (.one (.d (.list (p1.map (D.int .i64)))))), (1, (.one (.d (.list (p2.map (D.int .i64)))))), (4, (.one (.ptr 0 0 0))), (6, (I x1)), (13, (B (!decide (x1 = 0))))], [.cells [.d (.int .i64 0), .d (.int .i64 0)]]⟩ (by kernel_rfl) trivial ?_
    rcases ite_some H with ⟨hx2, H⟩ | ⟨hx2, H⟩
    · refine K_t rfl hx2 ?_
      refine K_seq ?_
      refine K_reg [] [] ⟨[(4, (.one (.ptr 0 0 0))), (5, (I x1))], [.cells [.d (.int .i64 0), .d (.int .i64 0)]]⟩ (by kernel_rfl) trivial ?_
      refine K_gh ⟨[(4, (.one (.ptr 0 0 0))), (5, (I x1))], [.cells [.d (.int .i64 0), .d (.int .i64 0)]]⟩ (by kernel_rfl) ?_
      cases H
      refine K_ret ?_
      kernel_rfl
    · refine K_f rfl (Bool.eq_false_iff.2 hx2) ?_
      refine K_gh ⟨[(0, (.one (.d (.list (p1.map (D.int .i64)))))), (1, (.one (.d (.list (p2.map (D.int .i64)))))), (4, (.one (.ptr 0 0 0)))], [.cells [.d (.int .i64 0), .d (.int .i64 0)]]⟩ (by kernel_rfl) ?_
      refine K_skip ?_
      refine K_seq ?_
      obtain ⟨x3, hx3, H⟩ := bind_some' H
      refine K_reg [.r (.tup [(false, [.d (.int .i64 x3.1)]), (false, [.d (.int .i64 x3.2)])]) []] [evF X k n_ref12_sums [(.one (.d (.list (p1.map (D.int .i64))))), (.one (.d (.list (p2.map (D.int .i64)))))] [] = some ((.tup [(false, [.d (.int .i64 x3.1)]), (false, [.d (.int .i64 x3.2)])]), [])] ⟨[(0, (.one (.d (.list (p1.map (D.int .i64)))))), (4, (.one (.ptr 0 0 0))), (7, (I x3.1)), (8, (I x3.2))], [.cells [.d (.int .i64 0), .d (.int .i64 0)]]⟩ (by kernel_rfl) (A1 (T_ref12_sums_ok k p1 p2 x3 hx3)) ?_
      refine K_seq ?_
      obtain ⟨x4, hx4, H⟩ := bind_some' H
      refine K_reg [.n p1.length, .n p1.length, .r (.tup [(true, [.d (.int .i64 x4.1), .d (.int .i64 x4.2.1)]), (false, [.d (.int .i64 x4.2.2)])]) []] [((p1.map (D.int .i64))).length = p1.length, ((p1.map (D.int .i64))).length = p1.length, evF X k n_ref01_Make [(I (w64 ((w64 ((p1.length : Int) * x3.2)) - (w64 (x3.1 * x3.1))))), (I (p1.length : Int))] [] = some ((.tup [(true, [.d (.int .i64 x4.1), .d (.int .i64 x4.2.1)]), (false, [.d (.int .i64 x4.2.2)])]), [])] ⟨[(4, (.one (.ptr 0 0 0))), (5, (I x4.2.2))], [.cells [.d (.int .i64 x4.1), .d (.int .i64 x4.2.1)]]⟩ (by kernel_rfl) (AC (List.length_map _) (AC (List.length_map _) (A1 (T_ref01_Make_ok k (w64 ((w64 ((p1.length : Int) * x3.2)) - (w64 (x3.1 * x3.1)))) (p1.length : Int) x4 hx4)))) ?_
      refine K_gh ⟨[(4, (.one (.ptr 0 0 0))), (5, (I x4.2.2))], [.cells [.d (.int .i64 x4.1), .d (.int .i64 x4.2.1)]]⟩ (by kernel_rfl) ?_
      cases H
      refine K_ret ?_
      kernel_rfl
def T_ref01_order (k : Nat) (p1 : Int) (p2 : Int) (p3 : Int) (p4 : Int) : Option Int := match k with
  | 0 => none
  | k + 1 => (if p2 ≠ 0 then (if p4 ≠ 0 then (if (!decide ((w64 (p1.tdiv p2)) = (w64 (p3.tdiv p4)))) = true then (if (w64 (p1.tdiv p2)) < (w64 (p3.tdiv p4)) then some (-1) else some 1) else (if p2 ≠ 0 then (if p4 ≠ 0 then (if (decide ((p1.tmod p2) = 0) && decide ((p3.tmod p4) = 0)) = true then some 0 else (if (p1.tmod p2) = 0 then some (-1) else (if (p3.tmod p4) = 0 then some 1 else ((T_ref01_order k p4 (p3.tmod p4) p2 (p1.tmod p2)).bind fun x10 => some x10)))) else none) else none)) else none) else none)
theorem T_ref01_order_ok (k : Nat) (p1 : Int) (p2 : Int) (p3 : Int) (p4 : Int) (r : Int) : T_ref01_order k p1 p2 p3 p4 = some r → evF X k n_ref01_order [(I p1), (I p2), (I p3), (I p4)] [] = some ((I r), []) := by
  intro H
  cases k with
  | zero => simp [T_ref01_order] at H
  | succ k =>
    simp only [T_ref01_order] at H
    refine F_in X_ref01_order rfl ?_
    refine K_seq ?_
    refine K_reg [] [] ⟨[(0, (I p1)), (1, (I p2)), (2, (I p3)), (3, (I p4))], []⟩ (by kernel_rfl) trivial ?_
    refine K_seq ?_
    obtain ⟨hx1, H⟩ := guard_some H
    obtain ⟨hx2, H⟩ := guard_some H
    refine K_reg [] [p2 ≠ (0 : Int), p4 ≠ (0 : Int)] ⟨[(0, (I p1)), (1, (I p2)), (2, (I p3)), (3, (I p4)), (9, (I (w64 (p1.tdiv p2)))), (10, (I (w64 (p3.tdiv p4))))], []⟩ (by kernel_rfl) (AC hx1 (A1 hx2)) ?_
    refine K_seq ?_
    refine K_seq ?_
    refine K_reg [] [] ⟨[(0, (I p1)), (1, (I p2)), (2, (I p3)), (3, (I p4)), (9, (I (w64 (p1.tdiv p2)))), (10, (I (w64 (p3.tdiv p4)))), (19, (B (!decide ((w64 (p1.tdiv p2)) = (w64 (p3.tdiv p4))))))], []⟩ (by kernel_rfl) trivial ?_
    rcases ite_some H with ⟨hx3, H⟩ | ⟨hx3, H⟩
    · refine K_t rfl hx3 ?_
      refine K_seq ?_
      refine K_seq ?_
      refine K_reg [] [] ⟨[(22, (B (decide ((w64 (p1.tdiv p2)) < (w64 (p3.tdiv p4))))))], []⟩ (by kernel_rfl) trivial ?_
      rcases ite_some H with ⟨hx4, H⟩ | ⟨hx4, H⟩
      · refine K_t rfl (decide_eq_true hx4) ?_
        refine K_seq ?_
        refine K_reg [] [] ⟨[(8, (I (-1)))], []⟩ (by kernel_rfl) trivial ?_
        refine K_gh ⟨[(8, (I (-1)))], []⟩ (by kernel_rfl) ?_
        cases H
        refine K_ret ?_
        kernel_rfl
      · refine K_f rfl (decide_eq_false hx4) ?_
        refine K_gh ⟨[], []⟩ (by kernel_rfl) ?_
        refine K_skip ?_
        refine K_seq ?_
        refine K_reg [] [] ⟨[(8, (I 1))], []⟩ (by kernel_rfl) trivial ?_
        refine K_gh ⟨[(8, (I 1))], []⟩ (by kernel_rfl) ?_
        cases H
        refine K_ret ?_
        kernel_rfl
    · refine K_f rfl (Bool.eq_false_iff.2 hx3) ?_
      refine K_gh ⟨[(0, (I p1)), (1, (I p2)), (2, (I p3)), (3, (I p4))], []⟩ (by kernel_rfl) ?_
      refine K_skip ?_
      refine K_seq ?_
      obtain ⟨hx5, H⟩ := guard_some H
      obtain ⟨hx6, H⟩ := guard_some H
      refine K_reg [] [p2 ≠ (0 : Int), p4 ≠ (0 : Int)] ⟨[(0, (I (p1.tmod p2))), (1, (I p2)), (2, (I (p3.tmod p4))), (3, (I p4))], []⟩ (by kernel_rfl) (AC hx5 (A1 hx6)) ?_
      refine K_seq ?_
      refine K_block ?_
      refine K_seq ?_
      refine K_reg [.m] [([] : Heap) = []] ⟨[(0, (I (p1.tmod p2))), (1, (I p2)), (2, (I (p3.tmod p4))), (3, (I p4)), (29, (B (decide ((p1.tmod p2) = 0) && decide ((p3.tmod p4) = 0))))], []⟩ (by kernel_rfl) (A1 rfl) ?_
      rcases ite_some H with ⟨hx7, H⟩ | ⟨hx7, H⟩
      · refine K_t rfl hx7 ?_
        refine K_seq ?_
        refine K_reg [] [] ⟨[(8, (I 0))], []⟩ (by kernel_rfl) trivial ?_
        refine K_gh ⟨[(8, (I 0))], []⟩ (by kernel_rfl) ?_
        cases H
        refine K_ret ?_
        kernel_rfl
      · refine K_f rfl (Bool.eq_false_iff.2 hx7) ?_
        refine K_seq ?_
        refine K_reg [] [] ⟨[(0, (I (p1.tmod p2))), (1, (I p2)), (2, (I (p3.tmod p4))), (3, (I p4)), (36, (B (decide ((p1.tmod p2) = 0))))], []⟩ (by kernel_rfl) trivial ?_
        rcases ite_some H with ⟨hx8, H⟩ | ⟨hx8, H⟩
        · refine K_t rfl (decide_eq_true hx8) ?_
          refine K_seq ?_
          refine K_reg [] [] ⟨[(8, (I (-1)))], []⟩ (by kernel_rfl) trivial ?_
          refine K_gh ⟨[(8, (I (-1)))], []⟩ (by kernel_rfl) ?_
          cases H
          refine K_ret ?_
          kernel_rfl
        · refine K_f rfl (decide_eq_false hx8) ?_
          refine K_seq ?_
          refine K_reg [] [] ⟨[(0, (I (p1.tmod p2))), (1, (I p2)), (2, (I (p3.tmod p4))), (3, (I p4)), (39, (B (decide ((p3.tmod p4) = 0))))], []⟩ (by kernel_rfl) trivial ?_
          rcases ite_some H with ⟨hx9, H⟩ | ⟨hx9, H⟩
          · refine K_t rfl (decide_eq_true hx9) ?_
            refine K_seq ?_
            refine K_reg [] [] ⟨[(8, (I 1))], []⟩ (by kernel_rfl) trivial ?_
            refine K_gh ⟨[(8, (I 1))], []⟩ (by kernel_rfl) ?_
            cases H
            refine K_ret ?_
            kernel_rfl
          · refine K_f rfl (decide_eq_false hx9) ?_
            refine K_gh ⟨[(0, (I (p1.tmod p2))), (1, (I p2)), (2, (I (p3.tmod p4))), (3, (I p4))], []⟩ (by kernel_rfl) ?_
            refine K_skip ?_
            refine K_blk ?_
            refine K_seq ?_
            obtain ⟨x10, hx10, H⟩ := bind_some' H
            refine K_reg [.r (I x10) []] [evF X k n_ref01_order [(I p4), (I (p3.tmod p4)), (I p2), (I (p1.tmod p2))] [] = some ((I x10), [])] ⟨[(8, (I x10))], []⟩ (by kernel_rfl) (A1 (T_ref01_order_ok k p4 (p3.tmod p4) p2 (p1.tmod p2) x10 hx10)) ?_
            refine K_gh ⟨[(8, (I x10))], []⟩ (by kernel_rfl) ?_
            cases H
            refine K_ret ?_
            kernel_rfl
def T_ref01_Cmp (k : Nat) (p1 : Int) (p2 : Int) (p3 : Int) (p4 : Int) : Option Int := match k with
  | 0 => none
  | k + 1 => ((((T_ref01_Valid k p1 p2).bind fun x1 => (if (!x1) = true then some true else ((T_ref01_Valid k p3 p4).bind fun x4 => some (!x4))))).bind fun x5 => (if x5 = true then some 0 else ((T_ref01_order k p1 p2 p3 p4).bind fun x7 => some x7)))
theorem T_ref01_Cmp_ok (k : Nat) (p1 : Int) (p2 : Int) (p3 : Int) (p4 : Int) (r : Int) : T_ref01_Cmp k p1 p2 p3 p4 = some r → evF X k n_ref01_Cmp [(.agg [.d (.int .i64 p1), .d (.int .i64 p2)]), (.agg [.d (.int .i64 p3), .d (.int .i64 p4)])] [] = some ((I r), []) := by
  intro H
  cases k with
  | zero => simp [T_ref01_Cmp] at H
  | succ k =>
    simp only [T_ref01_Cmp] at H
    refine F_in X_ref01_Cmp rfl ?_
    refine K_seq ?_
    refine K_reg [] [] ⟨[(2, (.one (.ptr 0 0 0))), (3, (.one (.ptr 1 0 0)))], [.cells [.d (.int .i64 p1), .d (.int .i64 p2)], .cells [.d (.int .i64 p3), .d (.int .i64 p4)]]⟩ (by kernel_rfl) trivial ?_
    refine K_seq ?_
    refine K_seq ?_
    obtain ⟨x5, hx5, H⟩ := bind_some' H
    refine K_of ⟨[(2, (.one (.ptr 0 0 0))), (3, (.one (.ptr 1 0 0))), (12, (B x5))], [.cells [.d (.int .i64 p1), .d (.int .i64 p2)], .cells [.d (.int .i64 p3), .d (.int .i64 p4)]]⟩ ?_ ?_
    · clear H; have H := hx5; clear hx5; refine K_in ?_
      obtain ⟨x1, hx1, H⟩ := bind_some' H
      rcases ite_some H with ⟨hx3, H⟩ | ⟨hx3, H⟩
      · refine K_reg [.r (B x1) [], .b true] [evF X k n_ref01_Valid [(.agg [.d (.int .i64 p1), .d (.int .i64 p2)])] [] = some ((B x1), []), (!x1) = true] ⟨[(2, (.one (.ptr 0 0 0))), (3, (.one (.ptr 1 0 0))), (12, (B true))], [.cells [.d (.int .i64 p1), .d (.int .i64 p2)], .cells [.d (.int .i64 p3), .d (.int .i64 p4)]]⟩ (by kernel_rfl) (AC (T_ref01_Valid_ok k p1 p2 x1 hx1) (A1 hx3)) ?_
        cases H
        exact K_end rfl
      · obtain ⟨x4, hx4, H⟩ := bind_some' H
        refine K_reg [.r (B x1) [], .b false, .r (B x4) []] [evF X k n_ref01_Valid [(.agg [.d (.int .i64 p1), .d (.int .i64 p2)])] [] = some ((B x1), []), (!x1) = false, evF X k n_ref01_Valid [(.agg [.d (.int .i64 p3), .d (.int .i64 p4)])] [] = some ((B x4), [])] ⟨[(2, (.one (.ptr 0 0 0))), (3, (.one (.ptr 1 0 0))), (12, (B (!x4)))], [.cells [.d (.int .i64 p1), .d (.int .i64 p2)], .cells [.d (.int .i64 p3), .d (.int .i64 p4)]]⟩ (by kernel_rfl) (AC (T_ref01_Valid_ok k p1 p2 x1 hx1) (AC (Bool.eq_false_iff.2 hx3) (A1 (T_ref01_Valid_ok k p3 p4 x4 hx4)))) ?_
        cases H
        exact K_end rfl
    rcases ite_some H with ⟨hx6, H⟩ | ⟨hx6, H⟩
    · refine K_t rfl hx6 ?_
      refine K_seq ?_
      refine K_reg [] [] ⟨[(4, (I 0))], []⟩ (by kernel_rfl) trivial ?_
      refine K_gh ⟨[(4, (I 0))], []⟩ (by kernel_rfl) ?_
      cases H
      refine K_ret ?_
      kernel_rfl
    · refine K_f rfl (Bool.eq_false_iff.2 hx6) ?_
      refine K_gh ⟨[(2, (.one (.ptr 0 0 0))), (3, (.one (.ptr 1 0 0)))], [.cells [.d (.int .i64 p1), .d (.int .i64 p2)], .cells [.d (.int .i64 p3), .d (.int .i64 p4)]]⟩ (by kernel_rfl) ?_
      refine K_skip ?_
      refine K_seq ?_
      obtain ⟨x7, hx7, H⟩ := bind_some' H
      refine K_reg [.r (I x7) []] [evF X k n_ref01_order [(I p1), (I p2), (I p3), (I p4)] [] = some ((I x7), [])] ⟨[(4, (I x7))], []⟩ (by kernel_rfl) (A1 (T_ref01_order_ok k p1 p2 p3 p4 x7 hx7)) ?_
      refine K_gh ⟨[(4, (I x7))], []⟩ (by kernel_rfl) ?_
      cases H
      refine K_ret ?_
      kernel_rfl
def T_pieces_Starts_r1 (k : Nat) (p1 : Int) (p2 : Int) (x10 x11 x12 : Int) (x14 : Nat × (List Int)) : Option ((Nat × (List Int)) ⊕ Unit) :=
  (if x14.1 + 1 ≤ LIM then some (.inl ((x14.1 + 1), ((x14.2.drop 0).take x14.1 ++ ([x12] : List Int)))) else none)
theorem T_pieces_Starts_r1_ok (k : Nat) (p1 : Int) (p2 : Int) : ∀ (x10 x11 x12 : Int) (x14 : Nat × (List Int)) (x : (Nat × (List Int)) ⊕ Unit), T_pieces_Starts_r1 k p1 p2 x10 x11 x12 x14 = some x → roundM (fun b' => evC X (evF X k) k b' l_pieces_Starts_r1a) (fun b' => evC X (evF X k) k b' l_pieces_Starts_r1b) 0 [23, 24] [.gc] [I x10, .agg [.d (.int .i64 x11), .d (.int .i64 x12)]] (.normal, ⟨[(4, (.one (.nil))), (5, (I 0)), (6, (.one (.ptr 0 0 0))), (22, (.one (.d (.fn (.func n_pieces_all_1) [.ref [.int .i64 p2], .ref [.int .i64 p1]]))))], [.cells [.own 1 0 x14.1], .vals (.int .i64 0) (x14.2.map (D.int .i64))]⟩) = some (Sum.elim (fun (s : Nat × (List Int)) => (true, (.normal, ⟨[(4, (.one (.nil))), (5, (I 0)), (6, (.one (.ptr 0 0 0))), (22, (.one (.d (.fn (.func n_pieces_all_1) [.ref [.int .i64 p2], .ref [.int .i64 p1]]))))], [.cells [.own 1 0 s.1], .vals (.int .i64 0) (s.2.map (D.int .i64))]⟩))) (fun (r : Unit) => (false, (.ret, ⟨[], []⟩))) x) := by
  intro x10 x11 x12 x14 x H
  unfold T_pieces_Starts_r1 at H
  refine R_as rfl ?_
  refine K_reg [] [] ⟨[(6, (.one (.ptr 0 0 0))), (8, (.one (.ptr 2 0 0)))], [.cells [.own 1 0 x14.1], .vals (.int .i64 0) (x14.2.map (D.int .i64)), .cells [.d (.int .i64 x11), .d (.int .i64 x12)]]⟩ (by kernel_rfl) trivial ?_
  refine K_end (R_body ?_)
  refine K_block ?_
  obtain ⟨hx15, H⟩ := guard_some H
  refine K_reg [.n 1, .l (((x14.2.drop 0).take x14.1 ++ ([x12] : List Int)).map (D.int .i64))] [(List.all (([x12] : List Int).map (D.int .i64)) fun d => d.cells.length == (D.cells (.int .i64 0)).length) = true, x14.1 + 1 ≤ LIM, (([x12] : List Int).map (D.int .i64)).length = 1, ((x14.2.map (D.int .i64)).drop 0).take x14.1 ++ (([x12] : List Int).map (D.int .i64)) = ((x14.2.drop 0).take x14.1 ++ ([x12] : List Int)).map (D.int .i64)] ⟨[], [.cells [.own 3 0 (x14.1 + 1)], .dead, .cells [.d (.int .i64 x11), .d (.int .i64 x12)], .vals (.int .i64 0) (((x14.2.drop 0).take x14.1 ++ ([x12] : List Int)).map (D.int .i64))]⟩ (by kernel_rfl) (AC (all_ok (D.int .i64) 1 ([x12] : List Int) (fun _ => rfl)) (AC hx15 (AC (by simp) (A1 (ap_map (D.int .i64) x14.2 ([x12] : List Int) 0 x14.1))))) ?_
  refine K_blk ?_
  cases H
  exact K_end (R_end ⟨[(4, (.one (.nil))), (5, (I 0)), (6, (.one (.ptr 0 0 0))), (22, (.one (.d (.fn (.func n_pieces_all_1) [.ref [.int .i64 p2], .ref [.int .i64 p1]]))))], [.cells [.own 1 0 (x14.1 + 1)], .vals (.int .i64 0) (((x14.2.drop 0).take x14.1 ++ ([x12] : List Int)).map (D.int .i64))]⟩ (by kernel_rfl) rfl)
def T_pieces_Starts (k : Nat) (p1 : Int) (p2 : Int) : Option ((List Int) × Int) := match k with
  | 0 => none
  | k + 1 => (if (decide (p1 < 2) || decide (32 < p1)) = true then some ([], 8) else ((T_pieces_number k p1 p2).bind fun x2 => (if (!((decide (1 ≤ p2) && decide (p2 ≤ 8)) && decide (p2 ≤ p1))) = true then some ([], 1) else ((T_pieces_all k p1 p2).bind fun x4 => (allT (T_pieces_Starts_r1 k p1 p2) p1 p2 k 0 (1, [0])).bind fun x16 => (match x16 with | .inl x17 => some (((x17.2.drop 0).take x17.1), 0) | .inr _ => none)))))
theorem T_pieces_Starts_ok (k : Nat) (p1 : Int) (p2 : Int) (r : (List Int) × Int) : T_pieces_Starts k p1 p2 = some r → evF X k n_pieces_Starts [(I p1), (I p2)] [] = some ((.tup [(false, [.d (.list (r.1.map (D.int .i64)))]), (false, [.d (.int .i64 r.2)])]), []) := by
  intro H
  cases k with
  | zero => simp [T_pieces_Starts] at H
  | succ k =>
    simp only [T_pieces_Starts] at H
    refine F_in X_pieces_Starts rfl ?_
    refine K_seq ?_
    refine K_reg [] [] ⟨[(0, (I p1)), (1, (I p2)), (4, (.one (.nil))), (5, (I 0))], []⟩ (by kernel_rfl) trivial ?_
    refine K_seq ?_
    refine K_seq ?_
    refine K_reg [.m] [([] : Heap) = []] ⟨[(0, (I p1)), (1, (I p2)), (4, (.one (.nil))), (5, (I 0)), (14, (B (decide (p1 < 2) || decide (32 < p1))))], []⟩ (by kernel_rfl) (A1 rfl) ?_
    rcases ite_some H with ⟨hx1, H⟩ | ⟨hx1, H⟩
    · refine K_t rfl hx1 ?_
      refine K_seq ?_
      refine K_reg [] [] ⟨[(4, (.one (.nil))), (5, (I 8))], []⟩ (by kernel_rfl) trivial ?_
      refine K_gh ⟨[(4, (.one (.nil))), (5, (I 8))], []⟩ (by kernel_rfl) ?_
      cases H
      refine K_ret ?_
      kernel_rfl
    · refine K_f rfl (Bool.eq_false_iff.2 hx1) ?_
      refine K_gh ⟨[(0, (I p1)), (1, (I p2)), (4, (.one (.nil))), (5, (I 0))], []⟩ (by kernel_rfl) ?_
      refine K_skip ?_
      refine K_seq ?_
      refine K_seq ?_
      obtain ⟨x2, hx2, H⟩ := bind_some' H
      refine K_reg [.r (B ((decide (1 ≤ p2) && decide (p2 ≤ 8)) && decide (p2 ≤ p1))) []] [evF X k n_pieces_number [(I p1), (I p2)] [] = some ((B ((decide (1 ≤ p2) && decide (p2 ≤ 8)) && decide (p2 ≤ p1))), [])] ⟨[(0, (I p1)), (1, (I p2)), (4, (.one (.nil))), (5, (I 0)), (18, (B (!((decide (1 ≤ p2) && decide (p2 ≤ 8)) && decide (p2 ≤ p1)))))], []⟩ (by kernel_rfl) (A1 (T_pieces_number_ok k p1 p2 x2 hx2)) ?_
      rcases ite_some H with ⟨hx3, H⟩ | ⟨hx3, H⟩
      · refine K_t rfl hx3 ?_
        refine K_seq ?_
        refine K_reg [] [] ⟨[(4, (.one (.nil))), (5, (I 1))], []⟩ (by kernel_rfl) trivial ?_
        refine K_gh ⟨[(4, (.one (.nil))), (5, (I 1))], []⟩ (by kernel_rfl) ?_
        cases H
        refine K_ret ?_
        kernel_rfl
      · refine K_f rfl (Bool.eq_false_iff.2 hx3) ?_
        refine K_gh ⟨[(0, (I p1)), (1, (I p2)), (4, (.one (.nil))), (5, (I 0))], []⟩ (by kernel_rfl) ?_
        refine K_skip ?_
        refine K_seq ?_
        refine K_reg [] [] ⟨[(0, (I p1)), (1, (I p2)), (4, (.one (.nil))), (5, (I 0)), (6, (.one (.ptr 0 0 0)))], [.cells [.own 1 0 1], .vals (.int .i64 0) ([0].map (D.int .i64))]⟩ (by kernel_rfl) trivial ?_
        refine K_seq ?_
        refine K_seq ?_
        obtain ⟨x4, hx4, H⟩ := bind_some' H
        refine K_reg [.r (.one (.d (.fn (.func n_pieces_all_1) [.ref [.int .i64 p2], .ref [.int .i64 p1]]))) []] [evF X k n_pieces_all [(I p1), (I p2)] [] = some ((.one (.d (.fn (.func n_pieces_all_1) [.ref [.int .i64 p2], .ref [.int .i64 p1]]))), [])] ⟨[(4, (.one (.nil))), (5, (I 0)), (6, (.one (.ptr 0 0 0))), (22, (.one (.d (.fn (.func n_pieces_all_1) [.ref [.int .i64 p2], .ref [.int .i64 p1]]))))], [.cells [.own 1 0 1], .vals (.int .i64 0) ([0].map (D.int .i64))]⟩ (by kernel_rfl) (A1 (T_pieces_all_ok k p1 p2 x4 hx4)) ?_
        refine K_block ?_
        obtain ⟨x16, hx16, H⟩ := bind_some' H
        cases x16 with
        | inl x17 =>
          dsimp only at H
          refine K_of ⟨[(4, (.one (.nil))), (5, (I 0)), (6, (.one (.ptr 0 0 0))), (22, (.one (.d (.fn (.func n_pieces_all_1) [.ref [.int .i64 p2], .ref [.int .i64 p1]]))))], [.cells [.own 1 0 x17.1], .vals (.int .i64 0) (x17.2.map (D.int .i64))]⟩ (range_ok (fun (s : Nat × (List Int)) => ⟨[(4, (.one (.nil))), (5, (I 0)), (6, (.one (.ptr 0 0 0))), (22, (.one (.d (.fn (.func n_pieces_all_1) [.ref [.int .i64 p2], .ref [.int .i64 p1]]))))], [.cells [.own 1 0 s.1], .vals (.int .i64 0) (s.2.map (D.int .i64))]⟩) (fun (r : Unit) => (.ret, ⟨[], []⟩)) (s := (1, [0])) (y := (.inl x17)) rfl (X_pieces_all_1 : X n_pieces_all_1 = some allM) (T_pieces_Starts_r1_ok k p1 p2) hx16) ?_
          refine K_blk ?_
          refine K_seq ?_
          refine K_reg [] [] ⟨[(4, (.one (.own 0 0 x17.1))), (5, (I 0))], [.vals (.int .i64 0) (x17.2.map (D.int .i64))]⟩ (by kernel_rfl) trivial ?_
          refine K_gh ⟨[(4, (.one (.own 0 0 x17.1))), (5, (I 0))], [.vals (.int .i64 0) (x17.2.map (D.int .i64))]⟩ (by kernel_rfl) ?_
          cases H
          refine K_ret ?_
          exact Eq.trans (b := some ((.tup [(false, [.d (.list (((x17.2.map (D.int .i64)).drop 0).take x17.1))]), (false, [.d (.int .i64 0)])]), [])) (by kernel_rfl) (by simp only [dt_map])
        | inr _ =>
          dsimp only at H
          cases H
def T_keep_Ints_l1 (k : Nat) (p1 : List Int) (p2 : List Int) (x4 : Int) (x10 : Int) : Option (Int ⊕ (Unit ⊕ Unit)) :=
  (if x10 < x4 then ((at? p1 x10).bind fun x12 => (at? p2 x10).bind fun x13 => (if (!decide (x12 = x13)) = true then some (.inr (.inr ())) else some (.inl (w64 (x10 + 1))))) else some (.inr (.inl ())))
theorem T_keep_Ints_l1_ok (k : Nat) (p1 : List Int) (p2 : List Int) (x4 : Int) : ∀ (x10 : Int) (x : Int ⊕ (Unit ⊕ Unit)), T_keep_Ints_l1 k p1 p2 x4 x10 = some x → evC X (evF X k) k 0 l_keep_Ints_1 ⟨[(0, (.one (.d (.list (p1.map (D.int .i64)))))), (1, (.one (.d (.list (p2.map (D.int .i64)))))), (12, (I x4)), (13, (I x10))], []⟩ = some (outS (fun (s : Int) => ⟨[(0, (.one (.d (.list (p1.map (D.int .i64)))))), (1, (.one (.d (.list (p2.map (D.int .i64)))))), (12, (I x4)), (13, (I s))], []⟩) (fun (r : Unit ⊕ Unit) => Sum.elim (fun y => (.exit 0, ⟨[], []⟩)) (fun y => (.ret, ⟨[(4, (B false))], []⟩)) r) x) := by
  intro x10 x H
  unfold T_keep_Ints_l1 at H
  refine K_in ?_
  refine K_seq ?_
  refine K_reg [] [] ⟨[(0, (.one (.d (.list (p1.map (D.int .i64)))))), (1, (.one (.d (.list (p2.map (D.int .i64)))))), (12, (I x4)), (13, (I x10)), (14, (B (decide (x10 < x4))))], []⟩ (by kernel_rfl) trivial ?_
  refine K_seq ?_
  rcases ite_some H with ⟨hx11, H⟩ | ⟨hx11, H⟩
  · refine K_t rfl (decide_eq_true hx11) ?_
    refine K_gh ⟨[(0, (.one (.d (.list (p1.map (D.int .i64)))))), (1, (.one (.d (.list (p2.map (D.int .i64)))))), (12, (I x4)), (13, (I x10))], []⟩ (by kernel_rfl) ?_
    refine K_skip ?_
    refine K_seq ?_
    refine K_block ?_
    refine K_seq ?_
    refine K_reg [] [] ⟨[(0, (.one (.d (.list (p1.map (D.int .i64)))))), (1, (.one (.d (.list (p2.map (D.int .i64)))))), (5, (I x10)), (12, (I x4)), (13, (I x10))], []⟩ (by kernel_rfl) trivial ?_
    refine K_seq ?_
    obtain ⟨x12, hx12, H⟩ := bind_some' H
    obtain ⟨x13, hx13, H⟩ := bind_some' H
    refine K_reg [.l [.int .i64 x12], .l [.int .i64 x13]] [(0 : Int) ≤ x10 ∧ x10 < (((p1.map (D.int .i64))).length : Int), ((p1.map (D.int .i64)).getD x10.toNat (.int .i64 0)).cells = [.int .i64 x12], (0 : Int) ≤ x10 ∧ x10 < (((p2.map (D.int .i64))).length : Int), ((p2.map (D.int .i64)).getD x10.toNat (.int .i64 0)).cells = [.int .i64 x13]] ⟨[(0, (.one (.d (.list (p1.map (D.int .i64)))))), (1, (.one (.d (.list (p2.map (D.int .i64)))))), (12, (I x4)), (13, (I x10)), (24, (B (!decide (x12 = x13))))], []⟩ (by kernel_rfl) (AC (at_ok hx12 (D.int .i64) (.int .i64 0)).1 (AC (at_ok hx12 (D.int .i64) (.int .i64 0)).2 (AC (at_ok hx13 (D.int .i64) (.int .i64 0)).1 (A1 (at_ok hx13 (D.int .i64) (.int .i64 0)).2)))) ?_
    rcases ite_some H with ⟨hx14, H⟩ | ⟨hx14, H⟩
    · refine K_t rfl hx14 ?_
      refine K_seq ?_
      refine K_reg [] [] ⟨[(4, (B false))], []⟩ (by kernel_rfl) trivial ?_
      refine K_gh ⟨[(4, (B false))], []⟩ (by kernel_rfl) ?_
      cases H
      exact K_ret rfl
    · refine K_f rfl (Bool.eq_false_iff.2 hx14) ?_
      refine K_gh ⟨[(0, (.one (.d (.list (p1.map (D.int .i64)))))), (1, (.one (.d (.list (p2.map (D.int .i64)))))), (12, (I x4)), (13, (I x10))], []⟩ (by kernel_rfl) ?_
      refine K_skip ?_
      refine K_blk ?_
      refine K_reg [] [] ⟨[(0, (.one (.d (.list (p1.map (D.int .i64)))))), (1, (.one (.d (.list (p2.map (D.int .i64)))))), (12, (I x4)), (13, (I (w64 (x10 + 1))))], []⟩ (by kernel_rfl) trivial ?_
      cases H
      exact K_end rfl
  · refine K_f rfl (decide_eq_false hx11) ?_
    refine K_gh ⟨[], []⟩ (by kernel_rfl) ?_
    cases H
    exact K_exit0 rfl rfl
def T_keep_Ints (k : Nat) (p1 : List Int) (p2 : List Int) : Option Bool := match k with
  | 0 => none
  | k + 1 => (if (!decide ((p1.length : Int) = (p2.length : Int))) = true then some false else ((loopT (T_keep_Ints_l1 k p1 p2 (p1.length : Int)) k 0).bind fun x15 => (match x15 with | .inl x16 => some true | .inr x17 => some false)))
theorem T_keep_Ints_ok (k : Nat) (p1 : List Int) (p2 : List Int) (r : Bool) : T_keep_Ints k p1 p2 = some r → evF X k n_keep_Ints [(.one (.d (.list (p1.map (D.int .i64))))), (.one (.d (.list (p2.map (D.int .i64)))))] [] = some ((B r), []) := by
  intro H
  cases k with
  | zero => simp [T_keep_Ints] at H
  | succ k =>
    simp only [T_keep_Ints] at H
    refine F_in X_keep_Ints rfl ?_
    refine K_seq ?_
    refine K_reg [] [] ⟨[(0, (.one (.d (.list (p1.map (D.int .i64)))))), (1, (.one (.d (.list (p2.map (D.int .i64))))))], []⟩ (by kernel_rfl) trivial ?_
    refine K_seq ?_
    refine K_seq ?_
    refine K_reg [.n p1.length, .n p2.length] [((p1.map (D.int .i64))).length = p1.length, ((p2.map (D.int .i64))).length = p2.length] ⟨[(0, (.one (.d (.list (p1.map (D.int .i64)))))), (1, (.one (.d (.list (p2.map (D.int .i64)))))), (10, (B (!decide ((p1.length : Int) = (p2.length : Int)))))], []⟩ (by kernel_rfl) (AC (List.length_map _) (A1 (List.length_map _))) ?_
    rcases ite_some H with ⟨hx1, H⟩ | ⟨hx1, H⟩
    · refine K_t rfl hx1 ?_
      refine K_seq ?_
      refine K_reg [] [] ⟨[(4, (B false))], []⟩ (by kernel_rfl) trivial ?_
      refine K_gh ⟨[(4, (B false))], []⟩ (by kernel_rfl) ?_
      cases H
      refine K_ret ?_
      kernel_rfl
    · refine K_f rfl (Bool.eq_false_iff.2 hx1) ?_
      refine K_gh ⟨[(0, (.one (.d (.list (p1.map (D.int .i64)))))), (1, (.one (.d (.list (p2.map (D.int .i64))))))], []⟩ (by kernel_rfl) ?_
      refine K_skip ?_
      refine K_seq ?_
      refine K_seq ?_
      refine K_reg [.n p1.length] [((p1.map (D.int .i64))).length = p1.length] ⟨[(0, (.one (.d (.list (p1.map (D.int .i64)))))), (1, (.one (.d (.list (p2.map (D.int .i64)))))), (12, (I (p1.length : Int))), (13, (I 0))], []⟩ (by kernel_rfl) (A1 (List.length_map _)) ?_
      refine K_block ?_
      obtain ⟨x15, hx15, H⟩ := bind_some' H
      cases x15 with
      | inl x16 =>
        dsimp only at H
        refine K_loop ⟨[], []⟩ (loop_ok (fun (s : Int) => ⟨[(0, (.one (.d (.list (p1.map (D.int .i64)))))), (1, (.one (.d (.list (p2.map (D.int .i64)))))), (12, (I (p1.length : Int))), (13, (I s))], []⟩) (fun (r : Unit ⊕ Unit) => Sum.elim (fun y => (.exit 0, ⟨[], []⟩)) (fun y => (.ret, ⟨[(4, (B false))], []⟩)) r) (fun r h => by cases r <;> cases h) (T_keep_Ints_l1_ok k p1 p2 (p1.length : Int)) k 0 (.inl x16) hx15) rfl ?_
        refine K_seq ?_
        refine K_reg [] [] ⟨[(4, (B true))], []⟩ (by kernel_rfl) trivial ?_
        refine K_gh ⟨[(4, (B true))], []⟩ (by kernel_rfl) ?_
        cases H
        refine K_ret ?_
        kernel_rfl
      | inr x17 =>
        dsimp only at H
        cases H
        refine K_loopr ⟨[(4, (B false))], []⟩ (loop_ok (fun (s : Int) => ⟨[(0, (.one (.d (.list (p1.map (D.int .i64)))))), (1, (.one (.d (.list (p2.map (D.int .i64)))))), (12, (I (p1.length : Int))), (13, (I s))], []⟩) (fun (r : Unit ⊕ Unit) => Sum.elim (fun y => (.exit 0, ⟨[], []⟩)) (fun y => (.ret, ⟨[(4, (B false))], []⟩)) r) (fun r h => by cases r <;> cases h) (T_keep_Ints_l1_ok k p1 p2 (p1.length : Int)) k 0 (.inr x17) hx15) ?_
        kernel_rfl
def T_law18_awake (k : Nat) : Option Bool := match k with
  | 0 => none
  | k + 1 => ((T_pieces_Starts k 7 3).bind fun x1 => (T_pieces_Centred k ([1, 2, 3, 4, 5, 6, 7] : List Int) 3).bind fun x2 => (T_pieces_Lower k ([0, 0, 4, 4] : List Int) ([1, 1, 0, 0] : List Int) 2).bind fun x3 => ((if x1.2 = 0 then ((T_keep_Ints k x1.1 ([0, 2, 4, 7] : List Int)).bind fun x6 => (if (x6 && decide (x2.2 = 0)) = true then ((T_keep_Ints k x2.1 ([(-35), (-7), 42] : List Int)).bind fun x9 => some ((x9 && decide (x3.2.2 = 0)) && (decide (x3.1 = 34) && (decide (x3.2.1 = 1) && true)))) else some false)) else some false)).bind fun x10 => some x10)
theorem T_law18_awake_ok (k : Nat) (r : Bool) : T_law18_awake k = some r → evF X k n_law18_awake [] [] = some ((B r), []) := by
  intro H
  cases k with
  | zero => simp [T_law18_awake] at H
  | succ k =>
    simp only [T_law18_awake] at H
    refine F_in X_law18_awake rfl ?_
    refine K_seq ?_
    refine K_reg [] [] ⟨[], []⟩ (by kernel_rfl) trivial ?_
    refine K_seq ?_
    obtain ⟨x1, hx1, H⟩ := bind_some' H
    refine K_reg [.r (.tup [(false, [.d (.list (x1.1.map (D.int .i64)))]), (false, [.d (.int .i64 x1.2)])]) []] [evF X k n_pieces_Starts [(I 7), (I 3)] [] = some ((.tup [(false, [.d (.list (x1.1.map (D.int .i64)))]), (false, [.d (.int .i64 x1.2)])]), [])] ⟨[(1, (.one (.d (.list (x1.1.map (D.int .i64)))))), (2, (I x1.2))], []⟩ (by kernel_rfl) (A1 (T_pieces_Starts_ok k 7 3 x1 hx1)) ?_
    refine K_seq ?_
    obtain ⟨x2, hx2, H⟩ := bind_some' H
    refine K_reg [.r (.tup [(false, [.d (.list (x2.1.map (D.int .i64)))]), (false, [.d (.int .i64 x2.2)])]) []] [evF X k n_pieces_Centred [(.one (.d (.list (([1, 2, 3, 4, 5, 6, 7] : List Int).map (D.int .i64))))), (I 3)] [] = some ((.tup [(false, [.d (.list (x2.1.map (D.int .i64)))]), (false, [.d (.int .i64 x2.2)])]), [])] ⟨[(1, (.one (.d (.list (x1.1.map (D.int .i64)))))), (2, (I x1.2)), (3, (.one (.d (.list (x2.1.map (D.int .i64)))))), (4, (I x2.2))], []⟩ (by kernel_rfl) (A1 (T_pieces_Centred_ok k ([1, 2, 3, 4, 5, 6, 7] : List Int) 3 x2 hx2)) ?_
    refine K_seq ?_
    obtain ⟨x3, hx3, H⟩ := bind_some' H
    refine K_reg [.r (.tup [(true, [.d (.int .i64 x3.1), .d (.int .i64 x3.2.1)]), (false, [.d (.int .i64 x3.2.2)])]) []] [evF X k n_pieces_Lower [(.one (.d (.list (([0, 0, 4, 4] : List Int).map (D.int .i64))))), (.one (.d (.list (([1, 1, 0, 0] : List Int).map (D.int .i64))))), (I 2)] [] = some ((.tup [(true, [.d (.int .i64 x3.1), .d (.int .i64 x3.2.1)]), (false, [.d (.int .i64 x3.2.2)])]), [])] ⟨[(1, (.one (.d (.list (x1.1.map (D.int .i64)))))), (2, (I x1.2)), (3, (.one (.d (.list (x2.1.map (D.int .i64)))))), (4, (I x2.2)), (5, (.one (.ptr 0 0 0))), (6, (I x3.2.2))], [.cells [.d (.int .i64 x3.1), .d (.int .i64 x3.2.1)]]⟩ (by kernel_rfl) (A1 (T_pieces_Lower_ok k ([0, 0, 4, 4] : List Int) ([1, 1, 0, 0] : List Int) 2 x3 hx3)) ?_
    refine K_seq ?_
    obtain ⟨x10, hx10, H⟩ := bind_some' H
    refine K_of ⟨[(0, (B x10))], []⟩ ?_ ?_
    · clear H; have H := hx10; clear hx10; refine K_in ?_
      rcases ite_some H with ⟨hx5, H⟩ | ⟨hx5, H⟩
      · obtain ⟨x6, hx6, H⟩ := bind_some' H
        rcases ite_some H with ⟨hx8, H⟩ | ⟨hx8, H⟩
        · obtain ⟨x9, hx9, H⟩ := bind_some' H
          refine K_reg [.b true, .r (B x6) [], .m, .b true, .r (B x9) [], .m, .m] [decide (x1.2 = 0) = true, evF X k n_keep_Ints [(.one (.d (.list (x1.1.map (D.int .i64))))), (.one (.d (.list (([0, 2, 4, 7] : List Int).map (D.int .i64)))))] [] = some ((B x6), []), ([.cells [.d (.int .i64 x3.1), .d (.int .i64 x3.2.1)]] : Heap) = [.cells [.d (.int .i64 x3.1), .d (.int .i64 x3.2.1)]], (x6 && decide (x2.2 = 0)) = true, evF X k n_keep_Ints [(.one (.d (.list (x2.1.map (D.int .i64))))), (.one (.d (.list (([(-35), (-7), 42] : List Int).map (D.int .i64)))))] [] = some ((B x9), []), ([.cells [.d (.int .i64 x3.1), .d (.int .i64 x3.2.1)]] : Heap) = [.cells [.d (.int .i64 x3.1), .d (.int .i64 x3.2.1)]], ([.cells [.d (.int .i64 x3.1), .d (.int .i64 x3.2.1)]] : Heap) = [.cells [.d (.int .i64 x3.1), .d (.int .i64 x3.2.1)]]] ⟨[(0, (B ((x9 && decide (x3.2.2 = 0)) && (decide (x3.1 = 34) && (decide (x3.2.1 = 1) && true)))))], []⟩ (by kernel_rfl) (AC (decide_eq_true hx5) (AC (T_keep_Ints_ok k x1.1 ([0, 2, 4, 7] : List Int) x6 hx6) (AC rfl (AC hx8 (AC (T_keep_Ints_ok k x2.1 ([(-35), (-7), 42] : List Int) x9 hx9) (AC rfl (A1 rfl))))))) ?_
          cases H
          exact K_end rfl
        · refine K_reg [.b true, .r (B x6) [], .m, .b false, .b false, .b false] [decide (x1.2 = 0) = true, evF X k n_keep_Ints [(.one (.d (.list (x1.1.map (D.int .i64))))), (.one (.d (.list (([0, 2, 4, 7] : List Int).map (D.int .i64)))))] [] = some ((B x6), []), ([.cells [.d (.int .i64 x3.1), .d (.int .i64 x3.2.1)]] : Heap) = [.cells [.d (.int .i64 x3.1), .d (.int .i64 x3.2.1)]], (x6 && decide (x2.2 = 0)) = false, false = false, false = false] ⟨[(0, (B false))], []⟩ (by kernel_rfl) (AC (decide_eq_true hx5) (AC (T_keep_Ints_ok k x1.1 ([0, 2, 4, 7] : List Int) x6 hx6) (AC rfl (AC (Bool.eq_false_iff.2 hx8) (AC rfl (A1 rfl)))))) ?_
          cases H
          exact K_end rfl
      · refine K_reg [.b false, .b false, .b false, .b false, .b false] [decide (x1.2 = 0) = false, false = false, false = false, false = false, false = false] ⟨[(0, (B false))], []⟩ (by kernel_rfl) (AC (decide_eq_false hx5) (AC rfl (AC rfl (AC rfl (A1 rfl))))) ?_
        cases H
        exact K_end rfl
    refine K_gh ⟨[(0, (B x10))], []⟩ (by kernel_rfl) ?_
    cases H
    refine K_ret ?_
    kernel_rfl
def T_law18_PiecesBound (k : Nat) (p1 : List Int) : Option Bool := match k with
  | 0 => none
  | k + 1 => ((T_keep_New k p1).bind fun x1 => (T_keep_Src_Pair k ((p1.drop 0).take ((imin (p1.length : Int) 2000).toNat - 0)) 0).bind fun x2 => (T_law18_count k (x2.1.length : Int) ((p1.drop 0).take ((imin (p1.length : Int) 2000).toNat - 0)) x2.2.2).bind fun x3 => (T_pieces_Lower k x2.1 x2.2.1 x3.1).bind fun x4 => (T_pieces_Shifted k x2.1 x2.2.1 x3.1).bind fun x5 => (T_ref12_Distance k x2.1 x2.2.1).bind fun x6 => (T_ref12_Shifted k x2.1 x2.2.1).bind fun x7 => ((if ((!decide (x4.2.2 = 0)) || (!decide (x5.2.2 = 0))) = true then some true else ((T_ref01_Cmp k x4.1 x4.2.1 x6.1 1).bind fun x10 => (if 0 < x10 then some true else ((T_ref01_Cmp k x5.1 x5.2.1 x7.1 x7.2.1).bind fun x13 => (if 0 < x13 then some true else ((T_ref01_Cmp k x5.1 x5.2.1 x4.1 x4.2.1).bind fun x16 => (if 0 < x16 then some true else ((T_ref01_Valid k x4.1 x4.2.1).bind fun x19 => (if (!x19) = true then some true else ((T_ref01_Valid k x5.1 x5.2.1).bind fun x22 => some (!x22)))))))))))).bind fun x23 => (if x23 = true then some false else (((if ((!decide (x3.1 = (x2.1.length : Int))) || ((decide (x4.1 = x6.1) && (decide (x4.2.1 = 1) && true)) && (decide (x5.1 = x7.1) && (decide (x5.2.1 = x7.2.1) && true)))) = true then ((T_law18_awake k).bind fun x27 => some x27) else some false)).bind fun x28 => some x28)))
theorem T_law18_PiecesBound_ok (k : Nat) (p1 : List Int) (r : Bool) : T_law18_PiecesBound k p1 = some r → evF X k n_law18_PiecesBound [(.one (.d (.list (p1.map (D.int .i64)))))] [] = some ((B r), []) := by
  intro H
  cases k with
  | zero => simp [T_law18_PiecesBound] at H
  | succ k =>
    simp only [T_law18_PiecesBound] at H
    refine F_in X_law18_PiecesBound rfl ?_
    refine K_seq ?_
    refine K_reg [] [] ⟨[(0, (.one (.d (.list (p1.map (D.int .i64))))))], []⟩ (by kernel_rfl) trivial ?_
    refine K_seq ?_
    obtain ⟨x1, hx1, H⟩ := bind_some' H
    refine K_reg [.r (.one (.ptr 0 0 0)) [.cells [.d (.list (((p1.drop 0).take ((imin (p1.length : Int) 2000).toNat - 0)).map (D.int .i64))), .d (.int .i64 0)]]] [evF X k n_keep_New [(.one (.d (.list (p1.map (D.int .i64)))))] [] = some ((.one (.ptr 0 0 0)), [.cells [.d (.list (((p1.drop 0).take ((imin (p1.length : Int) 2000).toNat - 0)).map (D.int .i64))), .d (.int .i64 0)]])] ⟨[(3, (.one (.ptr 0 0 0)))], [.cells [.d (.list (((p1.drop 0).take ((imin (p1.length : Int) 2000).toNat - 0)).map (D.int .i64))), .d (.int .i64 0)]]⟩ (by kernel_rfl) (A1 (T_keep_New_ok k p1 x1 hx1)) ?_
    refine K_seq ?_
    obtain ⟨x2, hx2, H⟩ := bind_some' H
    refine K_reg [.r (.tup [(false, [.d (.list (x2.1.map (D.int .i64)))]), (false, [.d (.list (x2.2.1.map (D.int .i64)))])]) [.cells [.d (.list (((p1.drop 0).take ((imin (p1.length : Int) 2000).toNat - 0)).map (D.int .i64))), .d (.int .i64 x2.2.2)]]] [evF X k n_keep_Src_Pair [(.one (.ptr 0 0 0))] [.cells [.d (.list (((p1.drop 0).take ((imin (p1.length : Int) 2000).toNat - 0)).map (D.int .i64))), .d (.int .i64 0)]] = some ((.tup [(false, [.d (.list (x2.1.map (D.int .i64)))]), (false, [.d (.list (x2.2.1.map (D.int .i64)))])]), [.cells [.d (.list (((p1.drop 0).take ((imin (p1.length : Int) 2000).toNat - 0)).map (D.int .i64))), .d (.int .i64 x2.2.2)]])] ⟨[(3, (.one (.ptr 0 0 0))), (4, (.one (.d (.list (x2.1.map (D.int .i64)))))), (5, (.one (.d (.list (x2.2.1.map (D.int .i64))))))], [.cells [.d (.list (((p1.drop 0).take ((imin (p1.length : Int) 2000).toNat - 0)).map (D.int .i64))), .d (.int .i64 x2.2.2)]]⟩ (by kernel_rfl) (A1 (T_keep_Src_Pair_ok k ((p1.drop 0).take ((imin (p1.length : Int) 2000).toNat - 0)) 0 x2 hx2)) ?_
    refine K_seq ?_
    obtain ⟨x3, hx3, H⟩ := bind_some' H
    refine K_reg [.n x2.1.length, .r (I x3.1) [.cells [.d (.list (((p1.drop 0).take ((imin (p1.length : Int) 2000).toNat - 0)).map (D.int .i64))), .d (.int .i64 x3.2)]]] [((x2.1.map (D.int .i64))).length = x2.1.length, evF X k n_law18_count [(.one (.ptr 0 0 0)), (I (x2.1.length : Int))] [.cells [.d (.list (((p1.drop 0).take ((imin (p1.length : Int) 2000).toNat - 0)).map (D.int .i64))), .d (.int .i64 x2.2.2)]] = some ((I x3.1), [.cells [.d (.list (((p1.drop 0).take ((imin (p1.length : Int) 2000).toNat - 0)).map (D.int .i64))), .d (.int .i64 x3.2)]])] ⟨[(4, (.one (.d (.list (x2.1.map (D.int .i64)))))), (5, (.one (.d (.list (x2.2.1.map (D.int .i64)))))), (6, (I x3.1))], []⟩ (by kernel_rfl) (AC (List.length_map _) (A1 (T_law18_count_ok k (x2.1.length : Int) ((p1.drop 0).take ((imin (p1.length : Int) 2000).toNat - 0)) x2.2.2 x3 hx3))) ?_
    refine K_seq ?_
    obtain ⟨x4, hx4, H⟩ := bind_some' H
    refine K_reg [.r (.tup [(true, [.d (.int .i64 x4.1), .d (.int .i64 x4.2.1)]), (false, [.d (.int .i64 x4.2.2)])]) []] [evF X k n_pieces_Lower [(.one (.d (.list (x2.1.map (D.int .i64))))), (.one (.d (.list (x2.2.1.map (D.int .i64))))), (I x3.1)] [] = some ((.tup [(true, [.d (.int .i64 x4.1), .d (.int .i64 x4.2.1)]), (false, [.d (.int .i64 x4.2.2)])]), [])] ⟨[(4, (.one (.d (.list (x2.1.map (D.int .i64)))))), (5, (.one (.d (.list (x2.2.1.map (D.int .i64)))))), (6, (I x3.1)), (7, (.one (.ptr 0 0 0))), (8, (I x4.2.2))], [.cells [.d (.int .i64 x4.1), .d (.int .i64 x4.2.1)]]⟩ (by kernel_rfl) (A1 (T_pieces_Lower_ok k x2.1 x2.2.1 x3.1 x4 hx4)) ?_
    refine K_seq ?_
    obtain ⟨x5, hx5, H⟩ := bind_some' H
    refine K_reg [.r (.tup [(true, [.d (.int .i64 x5.1), .d (.int .i64 x5.2.1)]), (false, [.d (.int .i64 x5.2.2)])]) []] [evF X k n_pieces_Shifted [(.one (.d (.list (x2.1.map (D.int .i64))))), (.one (.d (.list (x2.2.1.map (D.int .i64))))), (I x3.1)] [] = some ((.tup [(true, [.d (.int .i64 x5.1), .d (.int .i64 x5.2.1)]), (false, [.d (.int .i64 x5.2.2)])]), [])] ⟨[(4, (.one (.d (.list (x2.1.map (D.int .i64)))))), (5, (.one (.d (.list (x2.2.1.map (D.int .i64)))))), (6, (I x3.1)), (7, (.one (.ptr 0 0 0))), (8, (I x4.2.2)), (9, (.one (.ptr 1 0 0))), (10, (I x5.2.2))], [.cells [.d (.int .i64 x4.1), .d (.int .i64 x4.2.1)], .cells [.d (.int .i64 x5.1), .d (.int .i64 x5.2.1)]]⟩ (by kernel_rfl) (A1 (T_pieces_Shifted_ok k x2.1 x2.2.1 x3.1 x5 hx5)) ?_
    refine K_seq ?_
    obtain ⟨x6, hx6, H⟩ := bind_some' H
    refine K_reg [.r (.tup [(false, [.d (.int .i64 x6.1)]), (false, [.d (.int .i64 x6.2)])]) []] [evF X k n_ref12_Distance [(.one (.d (.list (x2.1.map (D.int .i64))))), (.one (.d (.list (x2.2.1.map (D.int .i64)))))] [] = some ((.tup [(false, [.d (.int .i64 x6.1)]), (false, [.d (.int .i64 x6.2)])]), [])] ⟨[(4, (.one (.d (.list (x2.1.map (D.int .i64)))))), (5, (.one (.d (.list (x2.2.1.map (D.int .i64)))))), (6, (I x3.1)), (7, (.one (.ptr 0 0 0))), (8, (I x4.2.2)), (9, (.one (.ptr 1 0 0))), (10, (I x5.2.2)), (11, (I x6.1))], [.cells [.d (.int .i64 x4.1), .d (.int .i64 x4.2.1)], .cells [.d (.int .i64 x5.1), .d (.int .i64 x5.2.1)]]⟩ (by kernel_rfl) (A1 (T_ref12_Distance_ok k x2.1 x2.2.1 x6 hx6)) ?_
    refine K_seq ?_
    obtain ⟨x7, hx7, H⟩ := bind_some' H
    refine K_reg [.r (.tup [(true, [.d (.int .i64 x7.1), .d (.int .i64 x7.2.1)]), (false, [.d (.int .i64 x7.2.2)])]) []] [evF X k n_ref12_Shifted [(.one (.d (.list (x2.1.map (D.int .i64))))), (.one (.d (.list (x2.2.1.map (D.int .i64)))))] [] = some ((.tup [(true, [.d (.int .i64 x7.1), .d (.int .i64 x7.2.1)]), (false, [.d (.int .i64 x7.2.2)])]), [])] ⟨[(4, (.one (.d (.list (x2.1.map (D.int .i64)))))), (6, (I x3.1)), (7, (.one (.ptr 0 0 0))), (8, (I x4.2.2)), (9, (.one (.ptr 1 0 0))), (10, (I x5.2.2)), (11, (I x6.1)), (13, (.one (.ptr 2 0 0)))], [.cells [.d (.int .i64 x4.1), .d (.int .i64 x4.2.1)], .cells [.d (.int .i64 x5.1), .d (.int .i64 x5.2.1)], .cells [.d (.int .i64 x7.1), .d (.int .i64 x7.2.1)]]⟩ (by kernel_rfl) (A1 (T_ref12_Shifted_ok k x2.1 x2.2.1 x7 hx7)) ?_
    refine K_seq ?_
    refine K_reg [] [] ⟨[(4, (.one (.d (.list (x2.1.map (D.int .i64)))))), (6, (I x3.1)), (7, (.one (.ptr 0 0 0))), (8, (I x4.2.2)), (9, (.one (.ptr 1 0 0))), (10, (I x5.2.2)), (13, (.one (.ptr 2 0 0))), (15, (.one (.ptr 3 0 0)))], [.cells [.d (.int .i64 x4.1), .d (.int .i64 x4.2.1)], .cells [.d (.int .i64 x5.1), .d (.int .i64 x5.2.1)], .cells [.d (.int .i64 x7.1), .d (.int .i64 x7.2.1)], .cells [.d (.int .i64 x6.1), .d (.int .i64 1)]]⟩ (by kernel_rfl) trivial ?_
    refine K_seq ?_
    refine K_seq ?_
    obtain ⟨x23, hx23, H⟩ := bind_some' H
    refine K_of ⟨[(4, (.one (.d (.list (x2.1.map (D.int .i64)))))), (6, (I x3.1)), (7, (.one (.ptr 0 0 0))), (9, (.one (.ptr 1 0 0))), (13, (.one (.ptr 2 0 0))), (15, (.one (.ptr 3 0 0))), (88, (B x23))], [.cells [.d (.int .i64 x4.1), .d (.int .i64 x4.2.1)], .cells [.d (.int .i64 x5.1), .d (.int .i64 x5.2.1)], .cells [.d (.int .i64 x7.1), .d (.int .i64 x7.2.1)], .cells [.d (.int .i64 x6.1), .d (.int .i64 1)]]⟩ ?_ ?_
    · clear H; have H := hx23; clear hx23; refine K_in ?_
      rcases ite_some H with ⟨hx9, H⟩ | ⟨hx9, H⟩
      · refine K_reg [.m, .b true, .b true, .b true, .b true, .b true] [([.cells [.d (.int .i64 x4.1), .d (.int .i64 x4.2.1)], .cells [.d (.int .i64 x5.1), .d (.int .i64 x5.2.1)], .cells [.d (.int .i64 x7.1), .d (.int .i64 x7.2.1)], .cells [.d (.int .i64 x6.1), .d (.int .i64 1)]] : Heap) = [.cells [.d (.int .i64 x4.1), .d (.int .i64 x4.2.1)], .cells [.d (.int .i64 x5.1), .d (.int .i64 x5.2.1)], .cells [.d (.int .i64 x7.1), .d (.int .i64 x7.2.1)], .cells [.d (.int .i64 x6.1), .d (.int .i64 1)]], ((!decide (x4.2.2 = 0)) || (!decide (x5.2.2 = 0))) = true, true = true, true = true, true = true, true = true] ⟨[(4, (.one (.d (.list (x2.1.map (D.int .i64)))))), (6, (I x3.1)), (7, (.one (.ptr 0 0 0))), (9, (.one (.ptr 1 0 0))), (13, (.one (.ptr 2 0 0))), (15, (.one (.ptr 3 0 0))), (88, (B true))], [.cells [.d (.int .i64 x4.1), .d (.int .i64 x4.2.1)], .cells [.d (.int .i64 x5.1), .d (.int .i64 x5.2.1)], .cells [.d (.int .i64 x7.1), .d (.int .i64 x7.2.1)], .cells [.d (.int .i64 x6.1), .d (.int .i64 1)]]⟩ (by kernel_rfl) (AC rfl (AC hx9 (AC rfl (AC rfl (AC rfl (A1 rfl)))))) ?_
        cases H
        exact K_end rfl
      · obtain ⟨x10, hx10, H⟩ := bind_some' H
        rcases ite_some H with ⟨hx12, H⟩ | ⟨hx12, H⟩
        · refine K_reg [.m, .b false, .r (I x10) [], .b true, .b true, .b true, .b true] [([.cells [.d (.int .i64 x4.1), .d (.int .i64 x4.2.1)], .cells [.d (.int .i64 x5.1), .d (.int .i64 x5.2.1)], .cells [.d (.int .i64 x7.1), .d (.int .i64 x7.2.1)], .cells [.d (.int .i64 x6.1), .d (.int .i64 1)]] : Heap) = [.cells [.d (.int .i64 x4.1), .d (.int .i64 x4.2.1)], .cells [.d (.int .i64 x5.1), .d (.int .i64 x5.2.1)], .cells [.d (.int .i64 x7.1), .d (.int .i64 x7.2.1)], .cells [.d (.int .i64 x6.1), .d (.int .i64 1)]], ((!decide (x4.2.2 = 0)) || (!decide (x5.2.2 = 0))) = false, evF X k n_ref01_Cmp [(.agg [.d (.int .i64 x4.1), .d (.int .i64 x4.2.1)]), (.agg [.d (.int .i64 x6.1), .d (.int .i64 1)])] [] = some ((I x10), []), decide (0 < x10) = true, true = true, true = true, true = true] ⟨[(4, (.one (.d (.list (x2.1.map (D.int .i64)))))), (6, (I x3.1)), (7, (.one (.ptr 0 0 0))), (9, (.one (.ptr 1 0 0))), (13, (.one (.ptr 2 0 0))), (15, (.one (.ptr 3 0 0))), (88, (B true))], [.cells [.d (.int .i64 x4.1), .d (.int .i64 x4.2.1)], .cells [.d (.int .i64 x5.1), .d (.int .i64 x5.2.1)], .cells [.d (.int .i64 x7.1), .d (.int .i64 x7.2.1)], .cells [.d (.int .i64 x6.1), .d (.int .i64 1)]]⟩ (by kernel_rfl) (AC rfl (AC (Bool.eq_false_iff.2 hx9) (AC (T_ref01_Cmp_ok k x4.1 x4.2.1 x6.1 1 x10 hx10) (AC (decide_eq_true hx12) (AC rfl (AC rfl (A1 rfl))))))) ?_
          cases H
          exact K_end rfl
        · obtain ⟨x13, hx13, H⟩ := bind_some' H
          rcases ite_some H with ⟨hx15, H⟩ | ⟨hx15, H⟩
          · refine K_reg [.m, .b false, .r (I x10) [], .b false, .r (I x13) [], .b true, .b true, .b true] [([.cells [.d (.int .i64 x4.1), .d (.int .i64 x4.2.1)], .cells [.d (.int .i64 x5.1), .d (.int .i64 x5.2.1)], .cells [.d (.int .i64 x7.1), .d (.int .i64 x7.2.1)], .cells [.d (.int .i64 x6.1), .d (.int .i64 1)]] : Heap) = [.cells [.d (.int .i64 x4.1), .d (.int .i64 x4.2.1)], .cells [.d (.int .i64 x5.1), .d (.int .i64 x5.2.1)], .cells [.d (.int .i64 x7.1), .d (.int .i64 x7.2.1)], .cells [.d (.int .i64 x6.1), .d (.int .i64 1)]], ((!decide (x4.2.2 = 0)) || (!decide (x5.2.2 = 0))) = false, evF X k n_ref01_Cmp [(.agg [.d (.int .i64 x4.1), .d (.int .i64 x4.2.1)]), (.agg [.d (.int .i64 x6.1), .d (.int .i64 1)])] [] = some ((I x10), []), decide (0 < x10) = false, evF X k n_ref01_Cmp [(.agg [.d (.int .i64 x5.1), .d (.int .i64 x5.2.1)]), (.agg [.d (.int .i64 x7.1), .d (.int .i64 x7.2.1)])] [] = some ((I x13), []), decide (0 < x13) = true, true = true, true = true] ⟨[(4, (.one (.d (.list (x2.1.map (D.int .i64)))))), (6, (I x3.1)), (7, (.one (.ptr 0 0 0))), (9, (.one (.ptr 1 0 0))), (13, (.one (.ptr 2 0 0))), (15, (.one (.ptr 3 0 0))), (88, (B true))], [.cells [.d (.int .i64 x4.1), .d (.int .i64 x4.2.1)], .cells [.d (.int .i64 x5.1), .d (.int .i64 x5.2.1)], .cells [.d (.int .i64 x7.1), .d (.int .i64 x7.2.1)], .cells [.d (.int .i64 x6.1), .d (.int .i64 1)]]⟩ (by kernel_rfl) (AC rfl (AC (Bool.eq_false_iff.2 hx9) (AC (T_ref01_Cmp_ok k x4.1 x4.2.1 x6.1 1 x10 hx10) (AC (decide_eq_false hx12) (AC (T_ref01_Cmp_ok k x5.1 x5.2.1 x7.1 x7.2.1 x13 hx13) (AC (decide_eq_true hx15) (AC rfl (A1 rfl)))))))) ?_
            cases H
            exact K_end rfl
          · obtain ⟨x16, hx16, H⟩ := bind_some' H
            rcases ite_some H with ⟨hx18, H⟩ | ⟨hx18, H⟩
            · refine K_reg [.m, .b false, .r (I x10) [], .b false, .r (I x13) [], .b false, .r (I x16) [], .b true, .b true] [([.cells [.d (.int .i64 x4.1), .d (.int .i64 x4.2.1)], .cells [.d (.int .i64 x5.1), .d (.int .i64 x5.2.1)], .cells [.d (.int .i64 x7.1), .d (.int .i64 x7.2.1)], .cells [.d (.int .i64 x6.1), .d (.int .i64 1)]] : Heap) = [.cells [.d (.int .i64 x4.1), .d (.int .i64 x4.2.1)], .cells [.d (.int .i64 x5.1), .d (.int .i64 x5.2.1)], .cells [.d (.int .i64 x7.1), .d (.int .i64 x7.2.1)], .cells [.d (.int .i64 x6.1), .d (.int .i64 1)]], ((!decide (x4.2.2 = 0)) || (!decide (x5.2.2 = 0))) = false, evF X k n_ref01_Cmp [(.agg [.d (.int .i64 x4.1), .d (.int .i64 x4.2.1)]), (.agg [.d (.int .i64 x6.1), .d (.int .i64 1)])] [] = some ((I x10), []), decide (0 < x10) = false, evF X k n_ref01_Cmp [(.agg [.d (.int .i64 x5.1), .d (.int .i64 x5.2.1)]), (.agg [.d (.int .i64 x7.1), .d (.int .i64 x7.2.1)])] [] = some ((I x13), []), decide (0 < x13) = false, evF X k n_ref01_Cmp [(.agg [.d (.int .i64 x5.1), .d (.int .i64 x5.2.1)]), (.agg [.d (.int .i64 x4.1), .d (.int .i64 x4.2.1)])] [] = some ((I x16), []), decide (0 < x16) = true, true = true] ⟨[(4, (.one (.d (.list (x2.1.map (D.int .i64)))))), (6, (I x3.1)), (7, (.one (.ptr 0 0 0))), (9, (.one (.ptr 1 0 0))), (13, (.one (.ptr 2 0 0))), (15, (.one (.ptr 3 0 0))), (88, (B true))], [.cells [.d (.int .i64 x4.1), .d (.int .i64 x4.2.1)], .cells [.d (.int .i64 x5.1), .d (.int .i64 x5.2.1)], .cells [.d (.int .i64 x7.1), .d (.int .i64 x7.2.1)], .cells [.d (.int .i64 x6.1), .d (.int .i64 1)]]⟩ (by kernel_rfl) (AC rfl (AC (Bool.eq_false_iff.2 hx9) (AC (T_ref01_Cmp_ok k x4.1 x4.2.1 x6.1 1 x10 hx10) (AC (decide_eq_false hx12) (AC (T_ref01_Cmp_ok k x5.1 x5.2.1 x7.1 x7.2.1 x13 hx13) (AC (decide_eq_false hx15) (AC (T_ref01_Cmp_ok k x5.1 x5.2.1 x4.1 x4.2.1 x16 hx16) (AC (decide_eq_true hx18) (A1 rfl))))))))) ?_
              cases H
              exact K_end rfl
            · obtain ⟨x19, hx19, H⟩ := bind_some' H
              rcases ite_some H with ⟨hx21, H⟩ | ⟨hx21, H⟩
              · refine K_reg [.m, .b false, .r (I x10) [], .b false, .r (I x13) [], .b false, .r (I x16) [], .b false, .r (B x19) [], .b true] [([.cells [.d (.int .i64 x4.1), .d (.int .i64 x4.2.1)], .cells [.d (.int .i64 x5.1), .d (.int .i64 x5.2.1)], .cells [.d (.int .i64 x7.1), .d (.int .i64 x7.2.1)], .cells [.d (.int .i64 x6.1), .d (.int .i64 1)]] : Heap) = [.cells [.d (.int .i64 x4.1), .d (.int .i64 x4.2.1)], .cells [.d (.int .i64 x5.1), .d (.int .i64 x5.2.1)], .cells [.d (.int .i64 x7.1), .d (.int .i64 x7.2.1)], .cells [.d (.int .i64 x6.1), .d (.int .i64 1)]], ((!decide (x4.2.2 = 0)) || (!decide (x5.2.2 = 0))) = false, evF X k n_ref01_Cmp [(.agg [.d (.int .i64 x4.1), .d (.int .i64 x4.2.1)]), (.agg [.d (.int .i64 x6.1), .d (.int .i64 1)])] [] = some ((I x10), []), decide (0 < x10) = false, evF X k n_ref01_Cmp [(.agg [.d (.int .i64 x5.1), .d (.int .i64 x5.2.1)]), (.agg [.d (.int .i64 x7.1), .d (.int .i64 x7.2.1)])] [] = some ((I x13), []), decide (0 < x13) = false, evF X k n_ref01_Cmp [(.agg [.d (.int .i64 x5.1), .d (.int .i64 x5.2.1)]), (.agg [.d (.int .i64 x4.1), .d (.int .i64 x4.2.1)])] [] = some ((I x16), []), decide (0 < x16) = false, evF X k n_ref01_Valid [(.agg [.d (.int .i64 x4.1), .d (.int .i64 x4.2.1)])] [] = some ((B x19), []), (!x19) = true] ⟨[(4, (.one (.d (.list (x2.1.map (D.int .i64)))))), (6, (I x3.1)), (7, (.one (.ptr 0 0 0))), (9, (.one (.ptr 1 0 0))), (13, (.one (.ptr 2 0 0))), (15, (.one (.ptr 3 0 0))), (88, (B true))], [.cells [.d (.int .i64 x4.1), .d (.int .i64 x4.2.1)], .cells [.d (.int .i64 x5.1), .d (.int .i64 x5.2.1)], .cells [.d (.int .i64 x7.1), .d (.int .i64 x7.2.1)], .cells [.d (.int .i64 x6.1), .d (.int .i64 1)]]⟩ (by kernel_rfl) (AC rfl (AC (Bool.eq_false_iff.2 hx9) (AC (T_ref01_Cmp_ok k x4.1 x4.2.1 x6.1 1 x10 hx10) (AC (decide_eq_false hx12) (AC (T_ref01_Cmp_ok k x5.1 x5.2.1 x7.1 x7.2.1 x13 hx13) (AC (decide_eq_false hx15) (AC (T_ref01_Cmp_ok k x5.1 x5.2.1 x4.1 x4.2.1 x16 hx16) (AC (decide_eq_false hx18) (AC (T_ref01_Valid_ok k x4.1 x4.2.1 x19 hx19) (A1 hx21)))))))))) ?_
                cases H
                exact K_end rfl
              · obtain ⟨x22, hx22, H⟩ := bind_some' H
                refine K_reg [.m, .b false, .r (I x10) [], .b false, .r (I x13) [], .b false, .r (I x16) [], .b false, .r (B x19) [], .b false, .r (B x22) []] [([.cells [.d (.int .i64 x4.1), .d (.int .i64 x4.2.1)], .cells [.d (.int .i64 x5.1), .d (.int .i64 x5.2.1)], .cells [.d (.int .i64 x7.1), .d (.int .i64 x7.2.1)], .cells [.d (.int .i64 x6.1), .d (.int .i64 1)]] : Heap) = [.cells [.d (.int .i64 x4.1), .d (.int .i64 x4.2.1)], .cells [.d (.int .i64 x5.1), .d (.int .i64 x5.2.1)], .cells [.d (.int .i64 x7.1), .d (.int .i64 x7.2.1)], .cells [.d (.int .i64 x6.1), .d (.int .i64 1)]], ((!decide (x4.2.2 = 0)) || (!decide (x5.2.2 = 0))) = false, evF X k n_ref01_Cmp [(.agg [.d (.int .i64 x4.1), .d (.int .i64 x4.2.1)]), (.agg [.d (.int .i64 x6.1), .d (.int .i64 1)])] [] = some ((I x10), []), decide (0 < x10) = false, evF X k n_ref01_Cmp [(.agg [.d (.int .i64 x5.1), .d (.int .i64 x5.2.1)]), (.agg [.d (.int .i64 x7.1), .d (.int .i64 x7.2.1)])] [] = some ((I x13), []), decide (0 < x13) = false, evF X k n_ref01_Cmp [(.agg [.d (.int .i64 x5.1), .d (.int .i64 x5.2.1)]), (.agg [.d (.int .i64 x4.1), .d (.int .i64 x4.2.1)])] [] = some ((I x16), []), decide (0 < x16) = false, evF X k n_ref01_Valid [(.agg [.d (.int .i64 x4.1), .d (.int .i64 x4.2.1)])] [] = some ((B x19), []), (!x19) = false, evF X k n_ref01_Valid [(.agg [.d (.int .i64 x5.1), .d (.int .i64 x5.2.1)])] [] = some ((B x22), [])] ⟨[(4, (.one (.d (.list (x2.1.map (D.int .i64)))))), (6, (I x3.1)), (7, (.one (.ptr 0 0 0))), (9, (.one (.ptr 1 0 0))), (13, (.one (.ptr 2 0 0))), (15, (.one (.ptr 3 0 0))), (88, (B (!x22)))], [.cells [.d (.int .i64 x4.1), .d (.int .i64 x4.2.1)], .cells [.d (.int .i64 x5.1), .d (.int .i64 x5.2.1)], .cells [.d (.int .i64 x7.1), .d (.int .i64 x7.2.1)], .cells [.d (.int .i64 x6.1), .d (.int .i64 1)]]⟩ (by kernel_rfl) (AC rfl (AC (Bool.eq_false_iff.2 hx9) (AC (T_ref01_Cmp_ok k x4.1 x4.2.1 x6.1 1 x10 hx10) (AC (decide_eq_false hx12) (AC (T_ref01_Cmp_ok k x5.1 x5.2.1 x7.1 x7.2.1 x13 hx13) (AC (decide_eq_false hx15) (AC (T_ref01_Cmp_ok k x5.1 x5.2.1 x4.1 x4.2.1 x16 hx16) (AC (decide_eq_false hx18) (AC (T_ref01_Valid_ok k x4.1 x4.2.1 x19 hx19) (AC (Bool.eq_false_iff.2 hx21) (A1 (T_ref01_Valid_ok k x5.1 x5.2.1 x22 hx22)))))))))))) ?_
                cases H
                exact K_end rfl
    rcases ite_some H with ⟨hx24, H⟩ | ⟨hx24, H⟩
    · refine K_t rfl hx24 ?_
      refine K_seq ?_
      refine K_reg [] [] ⟨[(2, (B false))], []⟩ (by kernel_rfl) trivial ?_
      refine K_gh ⟨[(2, (B false))], []⟩ (by kernel_rfl) ?_
      cases H
      refine K_ret ?_
      kernel_rfl
    · refine K_f rfl (Bool.eq_false_iff.2 hx24) ?_
      refine K_gh ⟨[(4, (.one (.d (.list (x2.1.map (D.int .i64)))))), (6, (I x3.1)), (7, (.one (.ptr 0 0 0))), (9, (.one (.ptr 1 0 0))), (13, (.one (.ptr 2 0 0))), (15, (.one (.ptr 3 0 0)))], [.cells [.d (.int .i64 x4.1), .d (.int .i64 x4.2.1)], .cells [.d (.int .i64 x5.1), .d (.int .i64 x5.2.1)], .cells [.d (.int .i64 x7.1), .d (.int .i64 x7.2.1)], .cells [.d (.int .i64 x6.1), .d (.int .i64 1)]]⟩ (by kernel_rfl) ?_
      refine K_skip ?_
      refine K_seq ?_
      obtain ⟨x28, hx28, H⟩ := bind_some' H
      refine K_of ⟨[(2, (B x28))], []⟩ ?_ ?_
      · clear H; have H := hx28; clear hx28; refine K_in ?_
        rcases ite_some H with ⟨hx26, H⟩ | ⟨hx26, H⟩
        · obtain ⟨x27, hx27, H⟩ := bind_some' H
          refine K_reg [.n x2.1.length, .m, .m, .b true, .r (B x27) []] [((x2.1.map (D.int .i64))).length = x2.1.length, (!decide (x3.1 = (x2.1.length : Int))) = false → AllT [([.cells [.d (.int .i64 x4.1), .d (.int .i64 x4.2.1)], .cells [.d (.int .i64 x5.1), .d (.int .i64 x5.2.1)], .cells [.d (.int .i64 x7.1), .d (.int .i64 x7.2.1)], .cells [.d (.int .i64 x6.1), .d (.int .i64 1)]] : Heap) = [.cells [.d (.int .i64 x4.1), .d (.int .i64 x4.2.1)], .cells [.d (.int .i64 x5.1), .d (.int .i64 x5.2.1)], .cells [.d (.int .i64 x7.1), .d (.int .i64 x7.2.1)], .cells [.d (.int .i64 x6.1), .d (.int .i64 1)]]], ([.cells [.d (.int .i64 x4.1), .d (.int .i64 x4.2.1)], .cells [.d (.int .i64 x5.1), .d (.int .i64 x5.2.1)], .cells [.d (.int .i64 x7.1), .d (.int .i64 x7.2.1)], .cells [.d (.int .i64 x6.1), .d (.int .i64 1)]] : Heap) = [.cells [.d (.int .i64 x4.1), .d (.int .i64 x4.2.1)], .cells [.d (.int .i64 x5.1), .d (.int .i64 x5.2.1)], .cells [.d (.int .i64 x7.1), .d (.int .i64 x7.2.1)], .cells [.d (.int .i64 x6.1), .d (.int .i64 1)]], ((!decide (x3.1 = (x2.1.length : Int))) || ((decide (x4.1 = x6.1) && (decide (x4.2.1 = 1) && true)) && (decide (x5.1 = x7.1) && (decide (x5.2.1 = x7.2.1) && true)))) = true, evF X k n_law18_awake [] [] = some ((B x27), [])] ⟨[(2, (B x27))], []⟩ (by kernel_rfl) (AC (List.length_map _) (AC (fun _ => (A1 rfl)) (AC rfl (AC hx26 (A1 (T_law18_awake_ok k x27 hx27)))))) ?_
          cases H
          exact K_end rfl
        · refine K_reg [.n x2.1.length, .m, .m, .b false] [((x2.1.map (D.int .i64))).length = x2.1.length, (!decide (x3.1 = (x2.1.length : Int))) = false → AllT [([.cells [.d (.int .i64 x4.1), .d (.int .i64 x4.2.1)], .cells [.d (.int .i64 x5.1), .d (.int .i64 x5.2.1)], .cells [.d (.int .i64 x7.1), .d (.int .i64 x7.2.1)], .cells [.d (.int .i64 x6.1), .d (.int .i64 1)]] : Heap) = [.cells [.d (.int .i64 x4.1), .d (.int .i64 x4.2.1)], .cells [.d (.int .i64 x5.1), .d (.int .i64 x5.2.1)], .cells [.d (.int .i64 x7.1), .d (.int .i64 x7.2.1)], .cells [.d (.int .i64 x6.1), .d (.int .i64 1)]]], ([.cells [.d (.int .i64 x4.1), .d (.int .i64 x4.2.1)], .cells [.d (.int .i64 x5.1), .d (.int .i64 x5.2.1)], .cells [.d (.int .i64 x7.1), .d (.int .i64 x7.2.1)], .cells [.d (.int .i64 x6.1), .d (.int .i64 1)]] : Heap) = [.cells [.d (.int .i64 x4.1), .d (.int .i64 x4.2.1)], .cells [.d (.int .i64 x5.1), .d (.int .i64 x5.2.1)], .cells [.d (.int .i64 x7.1), .d (.int .i64 x7.2.1)], .cells [.d (.int .i64 x6.1), .d (.int .i64 1)]], ((!decide (x3.1 = (x2.1.length : Int))) || ((decide (x4.1 = x6.1) && (decide (x4.2.1 = 1) && true)) && (decide (x5.1 = x7.1) && (decide (x5.2.1 = x7.2.1) && true)))) = false] ⟨[(2, (B false))], []⟩ (by kernel_rfl) (AC (List.length_map _) (AC (fun _ => (A1 rfl)) (AC rfl (A1 (Bool.eq_false_iff.2 hx26))))) ?_
          cases H
          exact K_end rfl
      refine K_gh ⟨[(2, (B x28))], []⟩ (by kernel_rfl) ?_
      cases H
      refine K_ret ?_
      kernel_rfl
end Go.Proofs.Ytkiacebcedpljaa.piecesBound
