/- What the functions that the statement EnvelopeBands reaches compute, told as functions of Lean, and that the theory's language computes the same: part 2 of 2. There are no conditions. -/
import Derived.Test.YtdelnjemfjihpaaTEnvelopeBands0
set_option maxRecDepth 100000
set_option linter.unusedVariables false
set_option linter.unusedSimpArgs false
namespace Go.Proofs.Ytdelnjemfjihpaa.envelopeBands
open Go
def T_ratio_divisor_l1 (k : Nat) (x5 : Int × Int) : Option ((Int × Int) ⊕ Int) :=
  (if (!decide (x5.2 = 0)) = true then (if x5.2 ≠ 0 then some (.inl (x5.2, (x5.1.tmod x5.2))) else none) else some (.inr x5.1))
theorem T_ratio_divisor_l1_ok (k : Nat) : ∀ (x5 : Int × Int) (x : (Int × Int) ⊕ Int), T_ratio_divisor_l1 k x5 = some x → evC X (evF X k) k 0 l_ratio_divisor_1 ⟨[(0, (I x5.1)), (1, (I x5.2))], []⟩ = some (outS (fun (s : Int × Int) => ⟨[(0, (I s.1)), (1, (I s.2))], []⟩) (fun (r : Int) => (.exit 0, ⟨[(0, (I r))], []⟩)) x) := by
  intro x5 x H
  unfold T_ratio_divisor_l1 at H
  refine K_in ?_
  refine K_seq ?_
  refine K_seq ?_
  refine K_reg [] [] ⟨[(0, (I x5.1)), (1, (I x5.2)), (6, (B (!decide (x5.2 = 0))))], []⟩ (by kernel_rfl) trivial ?_
  rcases ite_some H with ⟨hx6, H⟩ | ⟨hx6, H⟩
  · refine K_t rfl hx6 ?_
    refine K_gh ⟨[(0, (I x5.1)), (1, (I x5.2))], []⟩ (by kernel_rfl) ?_
    refine K_skip ?_
    refine K_block ?_
    obtain ⟨hx7, H⟩ := guard_some H
    refine K_reg [] [x5.2 ≠ (0 : Int)] ⟨[(0, (I x5.2)), (1, (I (x5.1.tmod x5.2)))], []⟩ (by kernel_rfl) (A1 hx7) ?_
    refine K_blk ?_
    cases H
    exact K_end rfl
  · refine K_f rfl (Bool.eq_false_iff.2 hx6) ?_
    refine K_gh ⟨[(0, (I x5.1))], []⟩ (by kernel_rfl) ?_
    cases H
    exact K_exit0 rfl rfl
def T_ratio_divisor (k : Nat) (p1 : Int) (p2 : Int) : Option Int := match k with
  | 0 => none
  | k + 1 => ((loopT (T_ratio_divisor_l1 k) k (p1, p2)).bind fun x8 => some x8)
theorem T_ratio_divisor_ok (k : Nat) (p1 : Int) (p2 : Int) (r : Int) : T_ratio_divisor k p1 p2 = some r → evF X k n_ratio_divisor [(I p1), (I p2)] [] = some ((I r), []) := by
  intro H
  cases k with
  | zero => simp [T_ratio_divisor] at H
  | succ k =>
    simp only [T_ratio_divisor] at H
    refine F_in X_ratio_divisor rfl ?_
    refine K_seq ?_
    refine K_reg [] [] ⟨[(0, (I p1)), (1, (I p2))], []⟩ (by kernel_rfl) trivial ?_
    refine K_seq ?_
    refine K_block ?_
    obtain ⟨x8, hx8, H⟩ := bind_some' H
    refine K_loop ⟨[(0, (I x8))], []⟩ (loop_ok (fun (s : Int × Int) => ⟨[(0, (I s.1)), (1, (I s.2))], []⟩) (fun (r : Int) => (.exit 0, ⟨[(0, (I r))], []⟩)) (fun r h => by cases h) (T_ratio_divisor_l1_ok k) k (p1, p2) x8 hx8) rfl ?_
    refine K_seq ?_
    refine K_reg [] [] ⟨[(4, (I x8))], []⟩ (by kernel_rfl) trivial ?_
    refine K_gh ⟨[(4, (I x8))], []⟩ (by kernel_rfl) ?_
    cases H
    refine K_ret ?_
    kernel_rfl
def T_ratio_within (k : Nat) (p1 : Int) (p2 : Int) : Option Unit := match k with
  | 0 => none
  | k + 1 => some ()
theorem T_ratio_within_ok (k : Nat) (p1 : Int) (p2 : Int) (r : Unit) : T_ratio_within k p1 p2 = some r → evF X k n_ratio_within [(.agg [.d (.int .i64 p1), .d (.int .i64 p2)])] [] = some ((B (((decide (0 ≤ p1) && decide (p1 ≤ 2305843009213693952)) && decide (1 ≤ p2)) && decide (p2 ≤ 1152921504606846976))), []) := by
  intro H
  cases k with
  | zero => simp [T_ratio_within] at H
  | succ k =>
    simp only [T_ratio_within] at H
    refine F_in X_ratio_within rfl ?_
    refine K_seq ?_
    refine K_reg [] [] ⟨[(1, (.one (.ptr 0 0 0)))], [.cells [.d (.int .i64 p1), .d (.int .i64 p2)]]⟩ (by kernel_rfl) trivial ?_
    refine K_seq ?_
    refine K_reg [.m, .m, .m] [([.cells [.d (.int .i64 p1), .d (.int .i64 p2)]] : Heap) = [.cells [.d (.int .i64 p1), .d (.int .i64 p2)]], ([.cells [.d (.int .i64 p1), .d (.int .i64 p2)]] : Heap) = [.cells [.d (.int .i64 p1), .d (.int .i64 p2)]], ([.cells [.d (.int .i64 p1), .d (.int .i64 p2)]] : Heap) = [.cells [.d (.int .i64 p1), .d (.int .i64 p2)]]] ⟨[(2, (B (((decide (0 ≤ p1) && decide (p1 ≤ 2305843009213693952)) && decide (1 ≤ p2)) && decide (p2 ≤ 1152921504606846976))))], []⟩ (by kernel_rfl) (AC rfl (AC rfl (A1 rfl))) ?_
    refine K_gh ⟨[(2, (B (((decide (0 ≤ p1) && decide (p1 ≤ 2305843009213693952)) && decide (1 ≤ p2)) && decide (p2 ≤ 1152921504606846976))))], []⟩ (by kernel_rfl) ?_
    cases H
    refine K_ret ?_
    kernel_rfl
def T_ratio_Make (k : Nat) (p1 : Int) (p2 : Int) : Option (Int × Int × Int) := match k with
  | 0 => none
  | k + 1 => (if (decide (p1 < 0) || decide (p2 < 1)) = true then some (0, 0, 1) else (T_ratio_divisor k p1 p2).bind fun x2 => (if x2 ≠ 0 then (T_ratio_within k (w64 (p1.tdiv x2)) (w64 (p2.tdiv x2))).bind fun x4 => (if (!(((decide (0 ≤ (w64 (p1.tdiv x2))) && decide ((w64 (p1.tdiv x2)) ≤ 2305843009213693952)) && decide (1 ≤ (w64 (p2.tdiv x2)))) && decide ((w64 (p2.tdiv x2)) ≤ 1152921504606846976))) = true then some (0, 0, 1) else some ((w64 (p1.tdiv x2)), (w64 (p2.tdiv x2)), 0)) else none))
theorem T_ratio_Make_ok (k : Nat) (p1 : Int) (p2 : Int) (r : Int × Int × Int) : T_ratio_Make k p1 p2 = some r → evF X k n_ratio_Make [(I p1), (I p2)] [] = some ((.tup [(true, [.d (.int .i64 r.1), .d (.int .i64 r.2.1)]), (false, [.d (.int .i64 r.2.2)])]), []) := by
  intro H
  cases k with
  | zero => simp [T_ratio_Make] at H
  | succ k =>
    simp only [T_ratio_Make] at H
    refine F_in X_ratio_Make rfl ?_
    refine K_seq ?_
    refine K_reg [] [] ⟨[(0, (I p1)), (1, (I p2)), (4, (.one (.ptr 0 0 0)))], [.cells [.d (.int .i64 0), .d (.int .i64 0)]]⟩ (by kernel_rfl) trivial ?_
    refine K_seq ?_
    refine K_seq ?_
    refine K_reg [.m] [([.cells [.d (.int .i64 0), .d (.int .i64 0)]] : Heap) = [.cells [.d (.int .i64 0), .d (.int .i64 0)]]] ⟨[(0, (I p1)), (1, (I p2)), (4, (.one (.ptr 0 0 0))), (13, (B (decide (p1 < 0) || decide (p2 < 1))))], [.cells [.d (.int .i64 0), .d (.int .i64 0)]]⟩ (by kernel_rfl) (A1 rfl) ?_
    rcases ite_some H with ⟨hx1, H⟩ | ⟨hx1, H⟩
    · refine K_t rfl hx1 ?_
      refine K_seq ?_
      refine K_reg [] [] ⟨[(4, (.one (.ptr 0 0 0))), (5, (I 1))], [.cells [.d (.int .i64 0), .d (.int .i64 0)]]⟩ (by kernel_rfl) trivial ?_
      refine K_gh ⟨[(4, (.one (.ptr 0 0 0))), (5, (I 1))], [.cells [.d (.int .i64 0), .d (.int .i64 0)]]⟩ (by kernel_rfl) ?_
      cases H
      refine K_ret ?_
      kernel_rfl
    · refine K_f rfl (Bool.eq_false_iff.2 hx1) ?_
      refine K_gh ⟨[(0, (I p1)), (1, (I p2)), (4, (.one (.ptr 0 0 0)))], [.cells [.d (.int .i64 0), .d (.int .i64 0)]]⟩ (by kernel_rfl) ?_
      refine K_skip ?_
      refine K_seq ?_
      obtain ⟨x2, hx2, H⟩ := bind_some' H
      refine K_reg [.r (I x2) []] [evF X k n_ratio_divisor [(I p1), (I p2)] [] = some ((I x2), [])] ⟨[(0, (I p1)), (1, (I p2)), (4, (.one (.ptr 0 0 0))), (6, (I x2))], [.cells [.d (.int .i64 0), .d (.int .i64 0)]]⟩ (by kernel_rfl) (A1 (T_ratio_divisor_ok k p1 p2 x2 hx2)) ?_
      refine K_seq ?_
      obtain ⟨hx3, H⟩ := guard_some H
      refine K_reg [] [x2 ≠ (0 : Int), x2 ≠ (0 : Int)] ⟨[(4, (.one (.ptr 0 0 0))), (7, (.one (.ptr 1 0 0)))], [.cells [.d (.int .i64 0), .d (.int .i64 0)], .cells [.d (.int .i64 (w64 (p1.tdiv x2))), .d (.int .i64 (w64 (p2.tdiv x2)))]]⟩ (by kernel_rfl) (AC hx3 (A1 hx3)) ?_
      refine K_seq ?_
      refine K_seq ?_
      obtain ⟨x4, hx4, H⟩ := bind_some' H
      refine K_reg [.r (B (((decide (0 ≤ (w64 (p1.tdiv x2))) && decide ((w64 (p1.tdiv x2)) ≤ 2305843009213693952)) && decide (1 ≤ (w64 (p2.tdiv x2)))) && decide ((w64 (p2.tdiv x2)) ≤ 1152921504606846976))) []] [evF X k n_ratio_within [(.agg [.d (.int .i64 (w64 (p1.tdiv x2))), .d (.int .i64 (w64 (p2.tdiv x2)))])] [] = some ((B (((decide (0 ≤ (w64 (p1.tdiv x2))) && decide ((w64 (p1.tdiv x2)) ≤ 2305843009213693952)) && decide (1 ≤ (w64 (p2.tdiv x2)))) && decide ((w64 (p2.tdiv x2)) ≤ 1152921504606846976))), [])] ⟨[(4, (.one (.ptr 0 0 0))), (7, (.one (.ptr 1 0 0))), (27, (B (!(((decide (0 ≤ (w64 (p1.tdiv x2))) && decide ((w64 (p1.tdiv x2)) ≤ 2305843009213693952)) && decide (1 ≤ (w64 (p2.tdiv x2)))) && decide ((w64 (p2.tdiv x2)) ≤ 1152921504606846976)))))], [.cells [.d (.int .i64 0), .d (.int .i64 0)], .cells [.d (.int .i64 (w64 (p1.tdiv x2))), .d (.int .i64 (w64 (p2.tdiv x2)))]]⟩ (by kernel_rfl) (A1 (T_ratio_within_ok k (w64 (p1.tdiv x2)) (w64 (p2.tdiv x2)) x4 hx4)) ?_
      rcases ite_some H with ⟨hx5, H⟩ | ⟨hx5, H⟩
      · refine K_t rfl hx5 ?_
        refine K_seq ?_
        refine K_reg [] [] ⟨[(4, (.one (.ptr 0 0 0))), (5, (I 1))], [.cells [.d (.int .i64 0), .d (.int .i64 0)]]⟩ (by kernel_rfl) trivial ?_
        refine K_gh ⟨[(4, (.one (.ptr 0 0 0))), (5, (I 1))], [.cells [.d (.int .i64 0), .d (.int .i64 0)]]⟩ (by kernel_rfl) ?_
        cases H
        refine K_ret ?_
        kernel_rfl
      · refine K_f rfl (Bool.eq_false_iff.2 hx5) ?_
        refine K_gh ⟨[(4, (.one (.ptr 0 0 0))), (7, (.one (.ptr 1 0 0)))], [.cells [.d (.int .i64 0), .d (.int .i64 0)], .cells [.d (.int .i64 (w64 (p1.tdiv x2))), .d (.int .i64 (w64 (p2.tdiv x2)))]]⟩ (by kernel_rfl) ?_
        refine K_skip ?_
        refine K_seq ?_
        refine K_reg [] [] ⟨[(4, (.one (.ptr 0 0 0))), (5, (I 0))], [.cells [.d (.int .i64 (w64 (p1.tdiv x2))), .d (.int .i64 (w64 (p2.tdiv x2)))]]⟩ (by kernel_rfl) trivial ?_
        refine K_gh ⟨[(4, (.one (.ptr 0 0 0))), (5, (I 0))], [.cells [.d (.int .i64 (w64 (p1.tdiv x2))), .d (.int .i64 (w64 (p2.tdiv x2)))]]⟩ (by kernel_rfl) ?_
        cases H
        refine K_ret ?_
        kernel_rfl
def T_ratio_Valid (k : Nat) (p1 : Int) (p2 : Int) : Option Bool := match k with
  | 0 => none
  | k + 1 => ((((T_ratio_within k p1 p2).bind fun x1 => (if (((decide (0 ≤ p1) && decide (p1 ≤ 2305843009213693952)) && decide (1 ≤ p2)) && decide (p2 ≤ 1152921504606846976)) = true then ((T_ratio_divisor k p1 p2).bind fun x4 => some (decide (x4 = 1))) else some false))).bind fun x5 => some x5)
theorem T_ratio_Valid_ok (k : Nat) (p1 : Int) (p2 : Int) (r : Bool) : T_ratio_Valid k p1 p2 = some r → evF X k n_ratio_Valid [(.agg [.d (.int .i64 p1), .d (.int .i64 p2)])] [] = some ((B r), []) := by
  intro H
  cases k with
  | zero => simp [T_ratio_Valid] at H
  | succ k =>
    simp only [T_ratio_Valid] at H
    refine F_in X_ratio_Valid rfl ?_
    refine K_seq ?_
    refine K_reg [] [] ⟨[(1, (.one (.ptr 0 0 0)))], [.cells [.d (.int .i64 p1), .d (.int .i64 p2)]]⟩ (by kernel_rfl) trivial ?_
    refine K_seq ?_
    obtain ⟨x5, hx5, H⟩ := bind_some' H
    refine K_of ⟨[(2, (B x5))], []⟩ ?_ ?_
    · clear H; have H := hx5; clear hx5; refine K_in ?_
      obtain ⟨x1, hx1, H⟩ := bind_some' H
      rcases ite_some H with ⟨hx3, H⟩ | ⟨hx3, H⟩
      · obtain ⟨x4, hx4, H⟩ := bind_some' H
        refine K_reg [.r (B (((decide (0 ≤ p1) && decide (p1 ≤ 2305843009213693952)) && decide (1 ≤ p2)) && decide (p2 ≤ 1152921504606846976))) [], .b true, .r (I x4) []] [evF X k n_ratio_within [(.agg [.d (.int .i64 p1), .d (.int .i64 p2)])] [] = some ((B (((decide (0 ≤ p1) && decide (p1 ≤ 2305843009213693952)) && decide (1 ≤ p2)) && decide (p2 ≤ 1152921504606846976))), []), (((decide (0 ≤ p1) && decide (p1 ≤ 2305843009213693952)) && decide (1 ≤ p2)) && decide (p2 ≤ 1152921504606846976)) = true, evF X k n_ratio_divisor [(I p1), (I p2)] [] = some ((I x4), [])] ⟨[(2, (B (decide (x4 = 1))))], []⟩ (by kernel_rfl) (AC (T_ratio_within_ok k p1 p2 x1 hx1) (AC hx3 (A1 (T_ratio_divisor_ok k p1 p2 x4 hx4)))) ?_
        cases H
        exact K_end rfl
      · refine K_reg [.r (B (((decide (0 ≤ p1) && decide (p1 ≤ 2305843009213693952)) && decide (1 ≤ p2)) && decide (p2 ≤ 1152921504606846976))) [], .b false] [evF X k n_ratio_within [(.agg [.d (.int .i64 p1), .d (.int .i64 p2)])] [] = some ((B (((decide (0 ≤ p1) && decide (p1 ≤ 2305843009213693952)) && decide (1 ≤ p2)) && decide (p2 ≤ 1152921504606846976))), []), (((decide (0 ≤ p1) && decide (p1 ≤ 2305843009213693952)) && decide (1 ≤ p2)) && decide (p2 ≤ 1152921504606846976)) = false] ⟨[(2, (B false))], []⟩ (by kernel_rfl) (AC (T_ratio_within_ok k p1 p2 x1 hx1) (A1 (Bool.eq_false_iff.2 hx3))) ?_
        cases H
        exact K_end rfl
    refine K_gh ⟨[(2, (B x5))], []⟩ (by kernel_rfl) ?_
    cases H
    refine K_ret ?_
    kernel_rfl
def T_math_bits_Mul64 (k : Nat) (p1 : Int) (p2 : Int) : Option Unit := match k with
  | 0 => none
  | k + 1 => some ()
theorem T_math_bits_Mul64_ok (k : Nat) (p1 : Int) (p2 : Int) (r : Unit) : T_math_bits_Mul64 k p1 p2 = some r → evF X k n_math_bits_Mul64 [(.one (.d (.int .u64 p1))), (.one (.d (.int .u64 p2)))] [] = some ((.tup [(false, [.d (.int .u64 (IntKind.wrap .u64 ((IntKind.wrap .u64 ((IntKind.wrap .u64 ((p1.fdiv (2 ^ 32)) * (p2.fdiv (2 ^ 32)))) + ((IntKind.wrap .u64 ((IntKind.wrap .u64 ((p1.fdiv (2 ^ 32)) * (bAnd .u64 p2 4294967295))) + ((IntKind.wrap .u64 ((bAnd .u64 p1 4294967295) * (bAnd .u64 p2 4294967295))).fdiv (2 ^ 32)))).fdiv (2 ^ 32)))) + ((IntKind.wrap .u64 ((bAnd .u64 (IntKind.wrap .u64 ((IntKind.wrap .u64 ((p1.fdiv (2 ^ 32)) * (bAnd .u64 p2 4294967295))) + ((IntKind.wrap .u64 ((bAnd .u64 p1 4294967295) * (bAnd .u64 p2 4294967295))).fdiv (2 ^ 32)))) 4294967295) + (IntKind.wrap .u64 ((bAnd .u64 p1 4294967295) * (p2.fdiv (2 ^ 32)))))).fdiv (2 ^ 32)))))]), (false, [.d (.int .u64 (IntKind.wrap .u64 (p1 * p2)))])]), []) := by
  intro H
  cases k with
  | zero => simp [T_math_bits_Mul64] at H
  | succ k =>
    simp only [T_math_bits_Mul64] at H
    refine F_in X_math_bits_Mul64 rfl ?_
    refine K_seq ?_
    refine K_reg [] [] ⟨[(0, (.one (.d (.int .u64 p1)))), (1, (.one (.d (.int .u64 p2))))], []⟩ (by kernel_rfl) trivial ?_
    refine K_seq ?_
    refine K_reg [] [] ⟨[(0, (.one (.d (.int .u64 p1)))), (1, (.one (.d (.int .u64 p2)))), (6, (.one (.d (.int .u64 (bAnd .u64 p1 4294967295)))))], []⟩ (by kernel_rfl) trivial ?_
    refine K_seq ?_
    refine K_reg [] [(0 : Int) ≤ 32] ⟨[(0, (.one (.d (.int .u64 p1)))), (1, (.one (.d (.int .u64 p2)))), (6, (.one (.d (.int .u64 (bAnd .u64 p1 4294967295))))), (7, (.one (.d (.int .u64 (p1.fdiv (2 ^ 32))))))], []⟩ (by kernel_rfl) (A1 (by decide)) ?_
    refine K_seq ?_
    refine K_reg [] [] ⟨[(0, (.one (.d (.int .u64 p1)))), (1, (.one (.d (.int .u64 p2)))), (6, (.one (.d (.int .u64 (bAnd .u64 p1 4294967295))))), (7, (.one (.d (.int .u64 (p1.fdiv (2 ^ 32)))))), (8, (.one (.d (.int .u64 (bAnd .u64 p2 4294967295)))))], []⟩ (by kernel_rfl) trivial ?_
    refine K_seq ?_
    refine K_reg [] [(0 : Int) ≤ 32] ⟨[(0, (.one (.d (.int .u64 p1)))), (1, (.one (.d (.int .u64 p2)))), (6, (.one (.d (.int .u64 (bAnd .u64 p1 4294967295))))), (7, (.one (.d (.int .u64 (p1.fdiv (2 ^ 32)))))), (8, (.one (.d (.int .u64 (bAnd .u64 p2 4294967295))))), (9, (.one (.d (.int .u64 (p2.fdiv (2 ^ 32))))))], []⟩ (by kernel_rfl) (A1 (by decide)) ?_
    refine K_seq ?_
    refine K_reg [] [] ⟨[(0, (.one (.d (.int .u64 p1)))), (1, (.one (.d (.int .u64 p2)))), (6, (.one (.d (.int .u64 (bAnd .u64 p1 4294967295))))), (7, (.one (.d (.int .u64 (p1.fdiv (2 ^ 32)))))), (8, (.one (.d (.int .u64 (bAnd .u64 p2 4294967295))))), (9, (.one (.d (.int .u64 (p2.fdiv (2 ^ 32)))))), (10, (.one (.d (.int .u64 (IntKind.wrap .u64 ((bAnd .u64 p1 4294967295) * (bAnd .u64 p2 4294967295)))))))], []⟩ (by kernel_rfl) trivial ?_
    refine K_seq ?_
    refine K_reg [] [(0 : Int) ≤ 32] ⟨[(0, (.one (.d (.int .u64 p1)))), (1, (.one (.d (.int .u64 p2)))), (6, (.one (.d (.int .u64 (bAnd .u64 p1 4294967295))))), (7, (.one (.d (.int .u64 (p1.fdiv (2 ^ 32)))))), (9, (.one (.d (.int .u64 (p2.fdiv (2 ^ 32)))))), (11, (.one (.d (.int .u64 (IntKind.wrap .u64 ((IntKind.wrap .u64 ((p1.fdiv (2 ^ 32)) * (bAnd .u64 p2 4294967295))) + ((IntKind.wrap .u64 ((bAnd .u64 p1 4294967295) * (bAnd .u64 p2 4294967295))).fdiv (2 ^ 32))))))))], []⟩ (by kernel_rfl) (A1 (by decide)) ?_
    refine K_seq ?_
    refine K_reg [] [] ⟨[(0, (.one (.d (.int .u64 p1)))), (1, (.one (.d (.int .u64 p2)))), (6, (.one (.d (.int .u64 (bAnd .u64 p1 4294967295))))), (7, (.one (.d (.int .u64 (p1.fdiv (2 ^ 32)))))), (9, (.one (.d (.int .u64 (p2.fdiv (2 ^ 32)))))), (11, (.one (.d (.int .u64 (IntKind.wrap .u64 ((IntKind.wrap .u64 ((p1.fdiv (2 ^ 32)) * (bAnd .u64 p2 4294967295))) + ((IntKind.wrap .u64 ((bAnd .u64 p1 4294967295) * (bAnd .u64 p2 4294967295))).fdiv (2 ^ 32)))))))), (12, (.one (.d (.int .u64 (bAnd .u64 (IntKind.wrap .u64 ((IntKind.wrap .u64 ((p1.fdiv (2 ^ 32)) * (bAnd .u64 p2 4294967295))) + ((IntKind.wrap .u64 ((bAnd .u64 p1 4294967295) * (bAnd .u64 p2 4294967295))).fdiv (2 ^ 32)))) 4294967295)))))], []⟩ (by kernel_rfl) trivial ?_
    refine K_seq ?_
    refine K_reg [] [(0 : Int) ≤ 32] ⟨[(0, (.one (.d (.int .u64 p1)))), (1, (.one (.d (.int .u64 p2)))), (6, (.one (.d (.int .u64 (bAnd .u64 p1 4294967295))))), (7, (.one (.d (.int .u64 (p1.fdiv (2 ^ 32)))))), (9, (.one (.d (.int .u64 (p2.fdiv (2 ^ 32)))))), (12, (.one (.d (.int .u64 (bAnd .u64 (IntKind.wrap .u64 ((IntKind.wrap .u64 ((p1.fdiv (2 ^ 32)) * (bAnd .u64 p2 4294967295))) + ((IntKind.wrap .u64 ((bAnd .u64 p1 4294967295) * (bAnd .u64 p2 4294967295))).fdiv (2 ^ 32)))) 4294967295))))), (13, (.one (.d (.int .u64 ((IntKind.wrap .u64 ((IntKind.wrap .u64 ((p1.fdiv (2 ^ 32)) * (bAnd .u64 p2 4294967295))) + ((IntKind.wrap .u64 ((bAnd .u64 p1 4294967295) * (bAnd .u64 p2 4294967295))).fdiv (2 ^ 32)))).fdiv (2 ^ 32))))))], []⟩ (by kernel_rfl) (A1 (by decide)) ?_
    refine K_seq ?_
    refine K_reg [] [] ⟨[(0, (.one (.d (.int .u64 p1)))), (1, (.one (.d (.int .u64 p2)))), (7, (.one (.d (.int .u64 (p1.fdiv (2 ^ 32)))))), (9, (.one (.d (.int .u64 (p2.fdiv (2 ^ 32)))))), (12, (.one (.d (.int .u64 (IntKind.wrap .u64 ((bAnd .u64 (IntKind.wrap .u64 ((IntKind.wrap .u64 ((p1.fdiv (2 ^ 32)) * (bAnd .u64 p2 4294967295))) + ((IntKind.wrap .u64 ((bAnd .u64 p1 4294967295) * (bAnd .u64 p2 4294967295))).fdiv (2 ^ 32)))) 4294967295) + (IntKind.wrap .u64 ((bAnd .u64 p1 4294967295) * (p2.fdiv (2 ^ 32)))))))))), (13, (.one (.d (.int .u64 ((IntKind.wrap .u64 ((IntKind.wrap .u64 ((p1.fdiv (2 ^ 32)) * (bAnd .u64 p2 4294967295))) + ((IntKind.wrap .u64 ((bAnd .u64 p1 4294967295) * (bAnd .u64 p2 4294967295))).fdiv (2 ^ 32)))).fdiv (2 ^ 32))))))], []⟩ (by kernel_rfl) trivial ?_
    refine K_seq ?_
    refine K_reg [] [(0 : Int) ≤ 32] ⟨[(0, (.one (.d (.int .u64 p1)))), (1, (.one (.d (.int .u64 p2)))), (4, (.one (.d (.int .u64 (IntKind.wrap .u64 ((IntKind.wrap .u64 ((IntKind.wrap .u64 ((p1.fdiv (2 ^ 32)) * (p2.fdiv (2 ^ 32)))) + ((IntKind.wrap .u64 ((IntKind.wrap .u64 ((p1.fdiv (2 ^ 32)) * (bAnd .u64 p2 4294967295))) + ((IntKind.wrap .u64 ((bAnd .u64 p1 4294967295) * (bAnd .u64 p2 4294967295))).fdiv (2 ^ 32)))).fdiv (2 ^ 32)))) + ((IntKind.wrap .u64 ((bAnd .u64 (IntKind.wrap .u64 ((IntKind.wrap .u64 ((p1.fdiv (2 ^ 32)) * (bAnd .u64 p2 4294967295))) + ((IntKind.wrap .u64 ((bAnd .u64 p1 4294967295) * (bAnd .u64 p2 4294967295))).fdiv (2 ^ 32)))) 4294967295) + (IntKind.wrap .u64 ((bAnd .u64 p1 4294967295) * (p2.fdiv (2 ^ 32)))))).fdiv (2 ^ 32))))))))], []⟩ (by kernel_rfl) (A1 (by decide)) ?_
    refine K_seq ?_
    refine K_reg [] [] ⟨[(4, (.one (.d (.int .u64 (IntKind.wrap .u64 ((IntKind.wrap .u64 ((IntKind.wrap .u64 ((p1.fdiv (2 ^ 32)) * (p2.fdiv (2 ^ 32)))) + ((IntKind.wrap .u64 ((IntKind.wrap .u64 ((p1.fdiv (2 ^ 32)) * (bAnd .u64 p2 4294967295))) + ((IntKind.wrap .u64 ((bAnd .u64 p1 4294967295) * (bAnd .u64 p2 4294967295))).fdiv (2 ^ 32)))).fdiv (2 ^ 32)))) + ((IntKind.wrap .u64 ((bAnd .u64 (IntKind.wrap .u64 ((IntKind.wrap .u64 ((p1.fdiv (2 ^ 32)) * (bAnd .u64 p2 4294967295))) + ((IntKind.wrap .u64 ((bAnd .u64 p1 4294967295) * (bAnd .u64 p2 4294967295))).fdiv (2 ^ 32)))) 4294967295) + (IntKind.wrap .u64 ((bAnd .u64 p1 4294967295) * (p2.fdiv (2 ^ 32)))))).fdiv (2 ^ 32)))))))), (5, (.one (.d (.int .u64 (IntKind.wrap .u64 (p1 * p2))))))], []⟩ (by kernel_rfl) trivial ?_
    refine K_gh ⟨[(4, (.one (.d (.int .u64 (IntKind.wrap .u64 ((IntKind.wrap .u64 ((IntKind.wrap .u64 ((p1.fdiv (2 ^ 32)) * (p2.fdiv (2 ^ 32)))) + ((IntKind.wrap .u64 ((IntKind.wrap .u64 ((p1.fdiv (2 ^ 32)) * (bAnd .u64 p2 4294967295))) + ((IntKind.wrap .u64 ((bAnd .u64 p1 4294967295) * (bAnd .u64 p2 4294967295))).fdiv (2 ^ 32)))).fdiv (2 ^ 32)))) + ((IntKind.wrap .u64 ((bAnd .u64 (IntKind.wrap .u64 ((IntKind.wrap .u64 ((p1.fdiv (2 ^ 32)) * (bAnd .u64 p2 4294967295))) + ((IntKind.wrap .u64 ((bAnd .u64 p1 4294967295) * (bAnd .u64 p2 4294967295))).fdiv (2 ^ 32)))) 4294967295) + (IntKind.wrap .u64 ((bAnd .u64 p1 4294967295) * (p2.fdiv (2 ^ 32)))))).fdiv (2 ^ 32)))))))), (5, (.one (.d (.int .u64 (IntKind.wrap .u64 (p1 * p2))))))], []⟩ (by kernel_rfl) ?_
    cases H
    refine K_ret ?_
    kernel_rfl

def T_math_bits_Div64 (k : Nat) (p1 : Int) (p2 : Int) (p3 : Int) : Option Unit := match k with
  | 0 => none
  | k + 1 => (if p3 = 0 then none else (if p3 ≤ p1 then none else (if p1 = 0 then (if p3 ≠ 0 then some () else none) else none)))
theorem T_math_bits_Div64_ok (k : Nat) (p1 : Int) (p2 : Int) (p3 : Int) (r : Unit) : T_math_bits_Div64 k p1 p2 p3 = some r → evF X k n_math_bits_Div64 [(.one (.d (.int .u64 p1))), (.one (.d (.int .u64 p2))), (.one (.d (.int .u64 p3)))] [] = some ((.tup [(false, [.d (.int .u64 (IntKind.wrap .u64 (p2.tdiv p3)))]), (false, [.d (.int .u64 (p2.tmod p3))])]), []) := by
  intro H
  cases k with
  | zero => simp [T_math_bits_Div64] at H
  | succ k =>
    simp only [T_math_bits_Div64] at H
    refine F_in X_math_bits_Div64 rfl ?_
    refine K_seq ?_
    refine K_reg [] [] ⟨[(0, (.one (.d (.int .u64 p1)))), (1, (.one (.d (.int .u64 p2)))), (2, (.one (.d (.int .u64 p3))))], []⟩ (by kernel_rfl) trivial ?_
    refine K_seq ?_
    refine K_seq ?_
    refine K_reg [] [] ⟨[(0, (.one (.d (.int .u64 p1)))), (1, (.one (.d (.int .u64 p2)))), (2, (.one (.d (.int .u64 p3)))), (20, (B (decide (p3 = 0))))], []⟩ (by kernel_rfl) trivial ?_
    rcases ite_some H with ⟨hx1, H⟩ | ⟨hx1, H⟩
    · refine K_t rfl (decide_eq_true hx1) ?_
      cases H
    · refine K_f rfl (decide_eq_false hx1) ?_
      refine K_gh ⟨[(0, (.one (.d (.int .u64 p1)))), (1, (.one (.d (.int .u64 p2)))), (2, (.one (.d (.int .u64 p3))))], []⟩ (by kernel_rfl) ?_
      refine K_skip ?_
      refine K_seq ?_
      refine K_seq ?_
      refine K_reg [] [] ⟨[(0, (.one (.d (.int .u64 p1)))), (1, (.one (.d (.int .u64 p2)))), (2, (.one (.d (.int .u64 p3)))), (24, (B (decide (p3 ≤ p1))))], []⟩ (by kernel_rfl) trivial ?_
      rcases ite_some H with ⟨hx2, H⟩ | ⟨hx2, H⟩
      · refine K_t rfl (decide_eq_true hx2) ?_
        cases H
      · refine K_f rfl (decide_eq_false hx2) ?_
        refine K_gh ⟨[(0, (.one (.d (.int .u64 p1)))), (1, (.one (.d (.int .u64 p2)))), (2, (.one (.d (.int .u64 p3))))], []⟩ (by kernel_rfl) ?_
        refine K_skip ?_
        refine K_seq ?_
        refine K_seq ?_
        refine K_reg [] [] ⟨[(0, (.one (.d (.int .u64 p1)))), (1, (.one (.d (.int .u64 p2)))), (2, (.one (.d (.int .u64 p3)))), (27, (B (decide (p1 = 0))))], []⟩ (by kernel_rfl) trivial ?_
        rcases ite_some H with ⟨hx3, H⟩ | ⟨hx3, H⟩
        · refine K_t rfl (decide_eq_true hx3) ?_
          refine K_seq ?_
          obtain ⟨hx4, H⟩ := guard_some H
          refine K_reg [] [p3 ≠ (0 : Int), p3 ≠ (0 : Int)] ⟨[(6, (.one (.d (.int .u64 (IntKind.wrap .u64 (p2.tdiv p3)))))), (7, (.one (.d (.int .u64 (p2.tmod p3)))))], []⟩ (by kernel_rfl) (AC hx4 (A1 hx4)) ?_
          refine K_gh ⟨[(6, (.one (.d (.int .u64 (IntKind.wrap .u64 (p2.tdiv p3)))))), (7, (.one (.d (.int .u64 (p2.tmod p3)))))], []⟩ (by kernel_rfl) ?_
          cases H
          refine K_ret ?_
          kernel_rfl
        · refine K_f rfl (decide_eq_false hx3) ?_
          refine K_gh ⟨[(0, (.one (.d (.int .u64 p1)))), (1, (.one (.d (.int .u64 p2)))), (2, (.one (.d (.int .u64 p3))))], []⟩ (by kernel_rfl) ?_
          refine K_skip ?_
          refine K_seq ?_
          cases H
def T_ratio_Add (k : Nat) (p1 : Int) (p2 : Int) (p3 : Int) (p4 : Int) : Option (Int × Int × Int) := match k with
  | 0 => none
  | k + 1 => ((((T_ratio_Valid k p1 p2).bind fun x1 => (if (!x1) = true then some true else ((T_ratio_Valid k p3 p4).bind fun x4 => some (!x4))))).bind fun x5 => (if x5 = true then some (0, 0, 1) else (T_ratio_divisor k p2 p4).bind fun x7 => (if x7 ≠ 0 then (T_math_bits_Mul64 k (IntKind.wrap .u64 (p1)) (IntKind.wrap .u64 ((w64 (p4.tdiv x7))))).bind fun x9 => (if x7 ≠ 0 then (T_math_bits_Mul64 k (IntKind.wrap .u64 (p3)) (IntKind.wrap .u64 ((w64 (p2.tdiv x7))))).bind fun x11 => (addT k (IntKind.wrap .u64 ((IntKind.wrap .u64 (p1)) * (IntKind.wrap .u64 ((w64 (p4.tdiv x7)))))) (IntKind.wrap .u64 ((IntKind.wrap .u64 (p3)) * (IntKind.wrap .u64 ((w64 (p2.tdiv x7)))))) 0).bind fun x12 => (addT k (IntKind.wrap .u64 ((IntKind.wrap .u64 ((IntKind.wrap .u64 (((IntKind.wrap .u64 (p1)).fdiv (2 ^ 32)) * ((IntKind.wrap .u64 ((w64 (p4.tdiv x7)))).fdiv (2 ^ 32)))) + ((IntKind.wrap .u64 ((IntKind.wrap .u64 (((IntKind.wrap .u64 (p1)).fdiv (2 ^ 32)) * (bAnd .u64 (IntKind.wrap .u64 ((w64 (p4.tdiv x7)))) 4294967295))) + ((IntKind.wrap .u64 ((bAnd .u64 (IntKind.wrap .u64 (p1)) 4294967295) * (bAnd .u64 (IntKind.wrap .u64 ((w64 (p4.tdiv x7)))) 4294967295))).fdiv (2 ^ 32)))).fdiv (2 ^ 32)))) + ((IntKind.wrap .u64 ((bAnd .u64 (IntKind.wrap .u64 ((IntKind.wrap .u64 (((IntKind.wrap .u64 (p1)).fdiv (2 ^ 32)) * (bAnd .u64 (IntKind.wrap .u64 ((w64 (p4.tdiv x7)))) 4294967295))) + ((IntKind.wrap .u64 ((bAnd .u64 (IntKind.wrap .u64 (p1)) 4294967295) * (bAnd .u64 (IntKind.wrap .u64 ((w64 (p4.tdiv x7)))) 4294967295))).fdiv (2 ^ 32)))) 4294967295) + (IntKind.wrap .u64 ((bAnd .u64 (IntKind.wrap .u64 (p1)) 4294967295) * ((IntKind.wrap .u64 ((w64 (p4.tdiv x7)))).fdiv (2 ^ 32)))))).fdiv (2 ^ 32)))) (IntKind.wrap .u64 ((IntKind.wrap .u64 ((IntKind.wrap .u64 (((IntKind.wrap .u64 (p3)).fdiv (2 ^ 32)) * ((IntKind.wrap .u64 ((w64 (p2.tdiv x7)))).fdiv (2 ^ 32)))) + ((IntKind.wrap .u64 ((IntKind.wrap .u64 (((IntKind.wrap .u64 (p3)).fdiv (2 ^ 32)) * (bAnd .u64 (IntKind.wrap .u64 ((w64 (p2.tdiv x7)))) 4294967295))) + ((IntKind.wrap .u64 ((bAnd .u64 (IntKind.wrap .u64 (p3)) 4294967295) * (bAnd .u64 (IntKind.wrap .u64 ((w64 (p2.tdiv x7)))) 4294967295))).fdiv (2 ^ 32)))).fdiv (2 ^ 32)))) + ((IntKind.wrap .u64 ((bAnd .u64 (IntKind.wrap .u64 ((IntKind.wrap .u64 (((IntKind.wrap .u64 (p3)).fdiv (2 ^ 32)) * (bAnd .u64 (IntKind.wrap .u64 ((w64 (p2.tdiv x7)))) 4294967295))) + ((IntKind.wrap .u64 ((bAnd .u64 (IntKind.wrap .u64 (p3)) 4294967295) * (bAnd .u64 (IntKind.wrap .u64 ((w64 (p2.tdiv x7)))) 4294967295))).fdiv (2 ^ 32)))) 4294967295) + (IntKind.wrap .u64 ((bAnd .u64 (IntKind.wrap .u64 (p3)) 4294967295) * ((IntKind.wrap .u64 ((w64 (p2.tdiv x7)))).fdiv (2 ^ 32)))))).fdiv (2 ^ 32)))) x12.2).bind fun x13 => (if (IntKind.wrap .u64 (x7)) ≠ 0 then (T_math_bits_Div64 k (x13.1.tmod (IntKind.wrap .u64 (x7))) x12.1 (IntKind.wrap .u64 (x7))).bind fun x15 => (T_ratio_divisor k (w64 ((x12.1.tmod (IntKind.wrap .u64 (x7))))) x7).bind fun x16 => (if (IntKind.wrap .u64 (x16)) ≤ x13.1 then some (0, 0, 4) else (T_math_bits_Div64 k x13.1 x12.1 (IntKind.wrap .u64 (x16))).bind fun x18 => (if x7 ≠ 0 then (if (IntKind.wrap .u64 (x16)) ≠ 0 then (T_math_bits_Mul64 k (IntKind.wrap .u64 ((w64 (p2.tdiv x7)))) (IntKind.wrap .u64 ((IntKind.wrap .u64 (p4)).tdiv (IntKind.wrap .u64 (x16))))).bind fun x21 => (if ((decide (2305843009213693952 < (IntKind.wrap .u64 (x12.1.tdiv (IntKind.wrap .u64 (x16))))) || decide (0 < (IntKind.wrap .u64 ((IntKind.wrap .u64 ((IntKind.wrap .u64 (((IntKind.wrap .u64 ((w64 (p2.tdiv x7)))).fdiv (2 ^ 32)) * ((IntKind.wrap .u64 ((IntKind.wrap .u64 (p4)).tdiv (IntKind.wrap .u64 (x16)))).fdiv (2 ^ 32)))) + ((IntKind.wrap .u64 ((IntKind.wrap .u64 (((IntKind.wrap .u64 ((w64 (p2.tdiv x7)))).fdiv (2 ^ 32)) * (bAnd .u64 (IntKind.wrap .u64 ((IntKind.wrap .u64 (p4)).tdiv (IntKind.wrap .u64 (x16)))) 4294967295))) + ((IntKind.wrap .u64 ((bAnd .u64 (IntKind.wrap .u64 ((w64 (p2.tdiv x7)))) 4294967295) * (bAnd .u64 (IntKind.wrap .u64 ((IntKind.wrap .u64 (p4)).tdiv (IntKind.wrap .u64 (x16)))) 4294967295))).fdiv (2 ^ 32)))).fdiv (2 ^ 32)))) + ((IntKind.wrap .u64 ((bAnd .u64 (IntKind.wrap .u64 ((IntKind.wrap .u64 (((IntKind.wrap .u64 ((w64 (p2.tdiv x7)))).fdiv (2 ^ 32)) * (bAnd .u64 (IntKind.wrap .u64 ((IntKind.wrap .u64 (p4)).tdiv (IntKind.wrap .u64 (x16)))) 4294967295))) + ((IntKind.wrap .u64 ((bAnd .u64 (IntKind.wrap .u64 ((w64 (p2.tdiv x7)))) 4294967295) * (bAnd .u64 (IntKind.wrap .u64 ((IntKind.wrap .u64 (p4)).tdiv (IntKind.wrap .u64 (x16)))) 4294967295))).fdiv (2 ^ 32)))) 4294967295) + (IntKind.wrap .u64 ((bAnd .u64 (IntKind.wrap .u64 ((w64 (p2.tdiv x7)))) 4294967295) * ((IntKind.wrap .u64 ((IntKind.wrap .u64 (p4)).tdiv (IntKind.wrap .u64 (x16)))).fdiv (2 ^ 32)))))).fdiv (2 ^ 32)))))) || decide (1152921504606846976 < (IntKind.wrap .u64 ((IntKind.wrap .u64 ((w64 (p2.tdiv x7)))) * (IntKind.wrap .u64 ((IntKind.wrap .u64 (p4)).tdiv (IntKind.wrap .u64 (x16)))))))) = true then some (0, 0, 4) else some ((w64 ((IntKind.wrap .u64 (x12.1.tdiv (IntKind.wrap .u64 (x16)))))), (w64 ((IntKind.wrap .u64 ((IntKind.wrap .u64 ((w64 (p2.tdiv x7)))) * (IntKind.wrap .u64 ((IntKind.wrap .u64 (p4)).tdiv (IntKind.wrap .u64 (x16)))))))), 0)) else none) else none)) else none) else none) else none)))
theorem T_ratio_Add_ok (k : Nat) (p1 : Int) (p2 : Int) (p3 : Int) (p4 : Int) (r : Int × Int × Int) : T_ratio_Add k p1 p2 p3 p4 = some r → evF X k n_ratio_Add [(.agg [.d (.int .i64 p1), .d (.int .i64 p2)]), (.agg [.d (.int .i64 p3), .d (.int .i64 p4)])] [] = some ((.tup [(true, [.d (.int .i64 r.1), .d (.int .i64 r.2.1)]), (false, [.d (.int .i64 r.2.2)])]), []) := by
  intro H
  cases k with
  | zero => simp [T_ratio_Add] at H
  | succ k =>
    simp only [T_ratio_Add] at H
    refine F_in X_ratio_Add rfl ?_
    refine K_seq ?_
    refine K_reg [] [] ⟨[(2, (.one (.ptr 0 0 0))), (3, (.one (.ptr 1 0 0))), (4, (.one (.ptr 2 0 0)))], [.cells [.d (.int .i64 p1), .d (.int .i64 p2)], .cells [.d (.int .i64 p3), .d (.int .i64 p4)], .cells [.d (.int .i64 0), .d (.int .i64 0)]]⟩ (by kernel_rfl) trivial ?_
    refine K_seq ?_
    refine K_seq ?_
    obtain ⟨x5, hx5, H⟩ := bind_some' H
    refine K_of ⟨[(2, (.one (.ptr 0 0 0))), (3, (.one (.ptr 1 0 0))), (4, (.one (.ptr 2 0 0))), (26, (B x5))], [.cells [.d (.int .i64 p1), .d (.int .i64 p2)], .cells [.d (.int .i64 p3), .d (.int .i64 p4)], .cells [.d (.int .i64 0), .d (.int .i64 0)]]⟩ ?_ ?_
    · clear H; have H := hx5; clear hx5; refine K_in ?_
      obtain ⟨x1, hx1, H⟩ := bind_some' H
      rcases ite_some H with ⟨hx3, H⟩ | ⟨hx3, H⟩
      · refine K_reg [.r (B x1) [], .b true] [evF X k n_ratio_Valid [(.agg [.d (.int .i64 p1), .d (.int .i64 p2)])] [] = some ((B x1), []), (!x1) = true] ⟨[(2, (.one (.ptr 0 0 0))), (3, (.one (.ptr 1 0 0))), (4, (.one (.ptr 2 0 0))), (26, (B true))], [.cells [.d (.int .i64 p1), .d (.int .i64 p2)], .cells [.d (.int .i64 p3), .d (.int .i64 p4)], .cells [.d (.int .i64 0), .d (.int .i64 0)]]⟩ (by kernel_rfl) (AC (T_ratio_Valid_ok k p1 p2 x1 hx1) (A1 hx3)) ?_
        cases H
        exact K_end rfl
      · obtain ⟨x4, hx4, H⟩ := bind_some' H
        refine K_reg [.r (B x1) [], .b false, .r (B x4) []] [evF X k n_ratio_Valid [(.agg [.d (.int .i64 p1), .d (.int .i64 p2)])] [] = some ((B x1), []), (!x1) = false, evF X k n_ratio_Valid [(.agg [.d (.int .i64 p3), .d (.int .i64 p4)])] [] = some ((B x4), [])] ⟨[(2, (.one (.ptr 0 0 0))), (3, (.one (.ptr 1 0 0))), (4, (.one (.ptr 2 0 0))), (26, (B (!x4)))], [.cells [.d (.int .i64 p1), .d (.int .i64 p2)], .cells [.d (.int .i64 p3), .d (.int .i64 p4)], .cells [.d (.int .i64 0), .d (.int .i64 0)]]⟩ (by kernel_rfl) (AC (T_ratio_Valid_ok k p1 p2 x1 hx1) (AC (Bool.eq_false_iff.2 hx3) (A1 (T_ratio_Valid_ok k p3 p4 x4 hx4)))) ?_
        cases H
        exact K_end rfl
    rcases ite_some H with ⟨hx6, H⟩ | ⟨hx6, H⟩
    · refine K_t rfl hx6 ?_
      refine K_seq ?_
      refine K_reg [] [] ⟨[(4, (.one (.ptr 0 0 0))), (5, (I 1))], [.cells [.d (.int .i64 0), .d (.int .i64 0)]]⟩ (by kernel_rfl) trivial ?_
      refine K_gh ⟨[(4, (.one (.ptr 0 0 0))), (5, (I 1))], [.cells [.d (.int .i64 0), .d (.int .i64 0)]]⟩ (by kernel_rfl) ?_
      cases H
      refine K_ret ?_
      kernel_rfl
    · refine K_f rfl (Bool.eq_false_iff.2 hx6) ?_
      refine K_gh ⟨[(2, (.one (.ptr 0 0 0))), (3, (.one (.ptr 1 0 0))), (4, (.one (.ptr 2 0 0)))], [.cells [.d (.int .i64 p1), .d (.int .i64 p2)], .cells [.d (.int .i64 p3), .d (.int .i64 p4)], .cells [.d (.int .i64 0), .d (.int .i64 0)]]⟩ (by kernel_rfl) ?_
      refine K_skip ?_
      refine K_seq ?_
      obtain ⟨x7, hx7, H⟩ := bind_some' H
      refine K_reg [.r (I x7) []] [evF X k n_ratio_divisor [(I p2), (I p4)] [] = some ((I x7), [])] ⟨[(2, (.one (.ptr 0 0 0))), (3, (.one (.ptr 1 0 0))), (4, (.one (.ptr 2 0 0))), (6, (I x7))], [.cells [.d (.int .i64 p1), .d (.int .i64 p2)], .cells [.d (.int .i64 p3), .d (.int .i64 p4)], .cells [.d (.int .i64 0), .d (.int .i64 0)]]⟩ (by kernel_rfl) (A1 (T_ratio_divisor_ok k p2 p4 x7 hx7)) ?_
      refine K_seq ?_
      obtain ⟨hx8, H⟩ := guard_some H
      obtain ⟨x9, hx9, H⟩ := bind_some' H
      refine K_reg [.r (.tup [(false, [.d (.int .u64 (IntKind.wrap .u64 ((IntKind.wrap .u64 ((IntKind.wrap .u64 (((IntKind.wrap .u64 (p1)).fdiv (2 ^ 32)) * ((IntKind.wrap .u64 ((w64 (p4.tdiv x7)))).fdiv (2 ^ 32)))) + ((IntKind.wrap .u64 ((IntKind.wrap .u64 (((IntKind.wrap .u64 (p1)).fdiv (2 ^ 32)) * (bAnd .u64 (IntKind.wrap .u64 ((w64 (p4.tdiv x7)))) 4294967295))) + ((IntKind.wrap .u64 ((bAnd .u64 (IntKind.wrap .u64 (p1)) 4294967295) * (bAnd .u64 (IntKind.wrap .u64 ((w64 (p4.tdiv x7)))) 4294967295))).fdiv (2 ^ 32)))).fdiv (2 ^ 32)))) + ((IntKind.wrap .u64 ((bAnd .u64 (IntKind.wrap .u64 ((IntKind.wrap .u64 (((IntKind.wrap .u64 (p1)).fdiv (2 ^ 32)) * (bAnd .u64 (IntKind.wrap .u64 ((w64 (p4.tdiv x7)))) 4294967295))) + ((IntKind.wrap .u64 ((bAnd .u64 (IntKind.wrap .u64 (p1)) 4294967295) * (bAnd .u64 (IntKind.wrap .u64 ((w64 (p4.tdiv x7)))) 4294967295))).fdiv (2 ^ 32)))) 4294967295) + (IntKind.wrap .u64 ((bAnd .u64 (IntKind.wrap .u64 (p1)) 4294967295) * ((IntKind.wrap .u64 ((w64 (p4.tdiv x7)))).fdiv (2 ^ 32)))))).fdiv (2 ^ 32)))))]), (false, [.d (.int .u64 (IntKind.wrap .u64 ((IntKind.wrap .u64 (p1)) * (IntKind.wrap .u64 ((w64 (p4.tdiv x7)))))))])]) []] [x7 ≠ (0 : Int), evF X k n_math_bits_Mul64 [(.one (.d (.int .u64 (IntKind.wrap .u64 (p1))))), (.one (.d (.int .u64 (IntKind.wrap .u64 ((w64 (p4.tdiv x7)))))))] [] = some ((.tup [(false, [.d (.int .u64 (IntKind.wrap .u64 ((IntKind.wrap .u64 ((IntKind.wrap .u64 (((IntKind.wrap .u64 (p1)).fdiv (2 ^ 32)) * ((IntKind.wrap .u64 ((w64 (p4.tdiv x7)))).fdiv (2 ^ 32)))) + ((IntKind.wrap .u64 ((IntKind.wrap .u64 (((IntKind.wrap .u64 (p1)).fdiv (2 ^ 32)) * (bAnd .u64 (IntKind.wrap .u64 ((w64 (p4.tdiv x7)))) 4294967295))) + ((IntKind.wrap .u64 ((bAnd .u64 (IntKind.wrap .u64 (p1)) 4294967295) * (bAnd .u64 (IntKind.wrap .u64 ((w64 (p4.tdiv x7)))) 4294967295))).fdiv (2 ^ 32)))).fdiv (2 ^ 32)))) + ((IntKind.wrap .u64 ((bAnd .u64 (IntKind.wrap .u64 ((IntKind.wrap .u64 (((IntKind.wrap .u64 (p1)).fdiv (2 ^ 32)) * (bAnd .u64 (IntKind.wrap .u64 ((w64 (p4.tdiv x7)))) 4294967295))) + ((IntKind.wrap .u64 ((bAnd .u64 (IntKind.wrap .u64 (p1)) 4294967295) * (bAnd .u64 (IntKind.wrap .u64 ((w64 (p4.tdiv x7)))) 4294967295))).fdiv (2 ^ 32)))) 4294967295) + (IntKind.wrap .u64 ((bAnd .u64 (IntKind.wrap .u64 (p1)) 4294967295) * ((IntKind.wrap .u64 ((w64 (p4.tdiv x7)))).fdiv (2 ^ 32)))))).fdiv (2 ^ 32)))))]), (false, [.d (.int .u64 (IntKind.wrap .u64 ((IntKind.wrap .u64 (p1)) * (IntKind.wrap .u64 ((w64 (p4.tdiv x7)))))))])]), [])] ⟨[(2, (.one (.ptr 0 0 0))), (3, (.one (.ptr 1 0 0))), (4, (.one (.ptr 2 0 0))), (6, (I x7)), (7, (.one (.d (.int .u64 (IntKind.wrap .u64 ((IntKind.wrap .u64 ((IntKind.wrap .u64 (((IntKind.wrap .u64 (p1)).fdiv (2 ^ 32)) * ((IntKind.wrap .u64 ((w64 (p4.tdiv x7)))).fdiv (2 ^ 32)))) + ((IntKind.wrap .u64 ((IntKind.wrap .u64 (((IntKind.wrap .u64 (p1)).fdiv (2 ^ 32)) * (bAnd .u64 (IntKind.wrap .u64 ((w64 (p4.tdiv x7)))) 4294967295))) + ((IntKind.wrap .u64 ((bAnd .u64 (IntKind.wrap .u64 (p1)) 4294967295) * (bAnd .u64 (IntKind.wrap .u64 ((w64 (p4.tdiv x7)))) 4294967295))).fdiv (2 ^ 32)))).fdiv (2 ^ 32)))) + ((IntKind.wrap .u64 ((bAnd .u64 (IntKind.wrap .u64 ((IntKind.wrap .u64 (((IntKind.wrap .u64 (p1)).fdiv (2 ^ 32)) * (bAnd .u64 (IntKind.wrap .u64 ((w64 (p4.tdiv x7)))) 4294967295))) + ((IntKind.wrap .u64 ((bAnd .u64 (IntKind.wrap .u64 (p1)) 4294967295) * (bAnd .u64 (IntKind.wrap .u64 ((w64 (p4.tdiv x7)))) 4294967295))).fdiv (2 ^ 32)))) 4294967295) + (IntKind.wrap .u64 ((bAnd .u64 (IntKind.wrap .u64 (p1)) 4294967295) * ((IntKind.wrap .u64 ((w64 (p4.tdiv x7)))).fdiv (2 ^ 32)))))).fdiv (2 ^ 32)))))))), (8, (.one (.d (.int .u64 (IntKind.wrap .u64 ((IntKind.wrap .u64 (p1)) * (IntKind.wrap .u64 ((w64 (p4.tdiv x7))))))))))], [.cells [.d (.int .i64 p1), .d (.int .i64 p2)], .cells [.d (.int .i64 p3), .d (.int .i64 p4)], .cells [.d (.int .i64 0), .d (.int .i64 0)]]⟩ (by kernel_rfl) (AC hx8 (A1 (T_math_bits_Mul64_ok k (IntKind.wrap .u64 (p1)) (IntKind.wrap .u64 ((w64 (p4.tdiv x7)))) x9 hx9))) ?_
      refine K_seq ?_
      obtain ⟨hx10, H⟩ := guard_some H
      obtain ⟨x11, hx11, H⟩ := bind_some' H
      refine K_reg [.r (.tup [(false, [.d (.int .u64 (IntKind.wrap .u64 ((IntKind.wrap .u64 ((IntKind.wrap .u64 (((IntKind.wrap .u64 (p3)).fdiv (2 ^ 32)) * ((IntKind.wrap .u64 ((w64 (p2.tdiv x7)))).fdiv (2 ^ 32)))) + ((IntKind.wrap .u64 ((IntKind.wrap .u64 (((IntKind.wrap .u64 (p3)).fdiv (2 ^ 32)) * (bAnd .u64 (IntKind.wrap .u64 ((w64 (p2.tdiv x7)))) 4294967295))) + ((IntKind.wrap .u64 ((bAnd .u64 (IntKind.wrap .u64 (p3)) 4294967295) * (bAnd .u64 (IntKind.wrap .u64 ((w64 (p2.tdiv x7)))) 4294967295))).fdiv (2 ^ 32)))).fdiv (2 ^ 32)))) + ((IntKind.wrap .u64 ((bAnd .u64 (IntKind.wrap .u64 ((IntKind.wrap .u64 (((IntKind.wrap .u64 (p3)).fdiv (2 ^ 32)) * (bAnd .u64 (IntKind.wrap .u64 ((w64 (p2.tdiv x7)))) 4294967295))) + ((IntKind.wrap .u64 ((bAnd .u64 (IntKind.wrap .u64 (p3)) 4294967295) * (bAnd .u64 (IntKind.wrap .u64 ((w64 (p2.tdiv x7)))) 4294967295))).fdiv (2 ^ 32)))) 4294967295) + (IntKind.wrap .u64 ((bAnd .u64 (IntKind.wrap .u64 (p3)) 4294967295) * ((IntKind.wrap .u64 ((w64 (p2.tdiv x7)))).fdiv (2 ^ 32)))))).fdiv (2 ^ 32)))))]), (false, [.d (.int .u64 (IntKind.wrap .u64 ((IntKind.wrap .u64 (p3)) * (IntKind.wrap .u64 ((w64 (p2.tdiv x7)))))))])]) []] [x7 ≠ (0 : Int), evF X k n_math_bits_Mul64 [(.one (.d (.int .u64 (IntKind.wrap .u64 (p3))))), (.one (.d (.int .u64 (IntKind.wrap .u64 ((w64 (p2.tdiv x7)))))))] [] = some ((.tup [(false, [.d (.int .u64 (IntKind.wrap .u64 ((IntKind.wrap .u64 ((IntKind.wrap .u64 (((IntKind.wrap .u64 (p3)).fdiv (2 ^ 32)) * ((IntKind.wrap .u64 ((w64 (p2.tdiv x7)))).fdiv (2 ^ 32)))) + ((IntKind.wrap .u64 ((IntKind.wrap .u64 (((IntKind.wrap .u64 (p3)).fdiv (2 ^ 32)) * (bAnd .u64 (IntKind.wrap .u64 ((w64 (p2.tdiv x7)))) 4294967295))) + ((IntKind.wrap .u64 ((bAnd .u64 (IntKind.wrap .u64 (p3)) 4294967295) * (bAnd .u64 (IntKind.wrap .u64 ((w64 (p2.tdiv x7)))) 4294967295))).fdiv (2 ^ 32)))).fdiv (2 ^ 32)))) + ((IntKind.wrap .u64 ((bAnd .u64 (IntKind.wrap .u64 ((IntKind.wrap .u64 (((IntKind.wrap .u64 (p3)).fdiv (2 ^ 32)) * (bAnd .u64 (IntKind.wrap .u64 ((w64 (p2.tdiv x7)))) 4294967295))) + ((IntKind.wrap .u64 ((bAnd .u64 (IntKind.wrap .u64 (p3)) 4294967295) * (bAnd .u64 (IntKind.wrap .u64 ((w64 (p2.tdiv x7)))) 4294967295))).fdiv (2 ^ 32)))) 4294967295) + (IntKind.wrap .u64 ((bAnd .u64 (IntKind.wrap .u64 (p3)) 4294967295) * ((IntKind.wrap .u64 ((w64 (p2.tdiv x7)))).fdiv (2 ^ 32)))))).fdiv (2 ^ 32)))))]), (false, [.d (.int .u64 (IntKind.wrap .u64 ((IntKind.wrap .u64 (p3)) * (IntKind.wrap .u64 ((w64 (p2.tdiv x7)))))))])]), [])] ⟨[(2, (.one (.ptr 0 0 0))), (3, (.one (.ptr 1 0 0))), (4, (.one (.ptr 2 0 0))), (6, (I x7)), (7, (.one (.d (.int .u64 (IntKind.wrap .u64 ((IntKind.wrap .u64 ((IntKind.wrap .u64 (((IntKind.wrap .u64 (p1)).fdiv (2 ^ 32)) * ((IntKind.wrap .u64 ((w64 (p4.tdiv x7)))).fdiv (2 ^ 32)))) + ((IntKind.wrap .u64 ((IntKind.wrap .u64 (((IntKind.wrap .u64 (p1)).fdiv (2 ^ 32)) * (bAnd .u64 (IntKind.wrap .u64 ((w64 (p4.tdiv x7)))) 4294967295))) + ((IntKind.wrap .u64 ((bAnd .u64 (IntKind.wrap .u64 (p1)) 4294967295) * (bAnd .u64 (IntKind.wrap .u64 ((w64 (p4.tdiv x7)))) 4294967295))).fdiv (2 ^ 32)))).fdiv (2 ^ 32)))) + ((IntKind.wrap .u64 ((bAnd .u64 (IntKind.wrap .u64 ((IntKind.wrap .u64 (((IntKind.wrap .u64 (p1)).fdiv (2 ^ 32)) * (bAnd .u64 (IntKind.wrap .u64 ((w64 (p4.tdiv x7)))) 4294967295))) + ((IntKind.wrap .u64 ((bAnd .u64 (IntKind.wrap .u64 (p1)) 4294967295) * (bAnd .u64 (IntKind.wrap .u64 ((w64 (p4.tdiv x7)))) 4294967295))).fdiv (2 ^ 32)))) 4294967295) + (IntKind.wrap .u64 ((bAnd .u64 (IntKind.wrap .u64 (p1)) 4294967295) * ((IntKind.wrap .u64 ((w64 (p4.tdiv x7)))).fdiv (2 ^ 32)))))).fdiv (2 ^ 32)))))))), (8, (.one (.d (.int .u64 (IntKind.wrap .u64 ((IntKind.wrap .u64 (p1)) * (IntKind.wrap .u64 ((w64 (p4.tdiv x7)))))))))), (9, (.one (.d (.int .u64 (IntKind.wrap .u64 ((IntKind.wrap .u64 ((IntKind.wrap .u64 (((IntKind.wrap .u64 (p3)).fdiv (2 ^ 32)) * ((IntKind.wrap .u64 ((w64 (p2.tdiv x7)))).fdiv (2 ^ 32)))) + ((IntKind.wrap .u64 ((IntKind.wrap .u64 (((IntKind.wrap .u64 (p3)).fdiv (2 ^ 32)) * (bAnd .u64 (IntKind.wrap .u64 ((w64 (p2.tdiv x7)))) 4294967295))) + ((IntKind.wrap .u64 ((bAnd .u64 (IntKind.wrap .u64 (p3)) 4294967295) * (bAnd .u64 (IntKind.wrap .u64 ((w64 (p2.tdiv x7)))) 4294967295))).fdiv (2 ^ 32)))).fdiv (2 ^ 32)))) + ((IntKind.wrap .u64 ((bAnd .u64 (IntKind.wrap .u64 ((IntKind.wrap .u64 (((IntKind.wrap .u64 (p3)).fdiv (2 ^ 32)) * (bAnd .u64 (IntKind.wrap .u64 ((w64 (p2.tdiv x7)))) 4294967295))) + ((IntKind.wrap .u64 ((bAnd .u64 (IntKind.wrap .u64 (p3)) 4294967295) * (bAnd .u64 (IntKind.wrap .u64 ((w64 (p2.tdiv x7)))) 4294967295))).fdiv (2 ^ 32)))) 4294967295) + (IntKind.wrap .u64 ((bAnd .u64 (IntKind.wrap .u64 (p3)) 4294967295) * ((IntKind.wrap .u64 ((w64 (p2.tdiv x7)))).fdiv (2 ^ 32)))))).fdiv (2 ^ 32)))))))), (10, (.one (.d (.int .u64 (IntKind.wrap .u64 ((IntKind.wrap .u64 (p3)) * (IntKind.wrap .u64 ((w64 (p2.tdiv x7))))))))))], [.cells [.d (.int .i64 p1), .d (.int .i64 p2)], .cells [.d (.int .i64 p3), .d (.int .i64 p4)], .cells [.d (.int .i64 0), .d (.int .i64 0)]]⟩ (by kernel_rfl) (AC hx10 (A1 (T_math_bits_Mul64_ok k (IntKind.wrap .u64 (p3)) (IntKind.wrap .u64 ((w64 (p2.tdiv x7)))) x11 hx11))) ?_
      refine K_seq ?_
      obtain ⟨x12, hx12, H⟩ := bind_some' H
      refine K_reg [.r (.tup [(false, [.d (.int .u64 x12.1)]), (false, [.d (.int .u64 x12.2)])]) []] [evF X k n_math_bits_Add64 [(.one (.d (.int .u64 (IntKind.wrap .u64 ((IntKind.wrap .u64 (p1)) * (IntKind.wrap .u64 ((w64 (p4.tdiv x7))))))))), (.one (.d (.int .u64 (IntKind.wrap .u64 ((IntKind.wrap .u64 (p3)) * (IntKind.wrap .u64 ((w64 (p2.tdiv x7))))))))), (.one (.d (.int .u64 0)))] [] = some ((.tup [(false, [.d (.int .u64 x12.1)]), (false, [.d (.int .u64 x12.2)])]), [])] ⟨[(2, (.one (.ptr 0 0 0))), (3, (.one (.ptr 1 0 0))), (4, (.one (.ptr 2 0 0))), (6, (I x7)), (7, (.one (.d (.int .u64 (IntKind.wrap .u64 ((IntKind.wrap .u64 ((IntKind.wrap .u64 (((IntKind.wrap .u64 (p1)).fdiv (2 ^ 32)) * ((IntKind.wrap .u64 ((w64 (p4.tdiv x7)))).fdiv (2 ^ 32)))) + ((IntKind.wrap .u64 ((IntKind.wrap .u64 (((IntKind.wrap .u64 (p1)).fdiv (2 ^ 32)) * (bAnd .u64 (IntKind.wrap .u64 ((w64 (p4.tdiv x7)))) 4294967295))) + ((IntKind.wrap .u64 ((bAnd .u64 (IntKind.wrap .u64 (p1)) 4294967295) * (bAnd .u64 (IntKind.wrap .u64 ((w64 (p4.tdiv x7)))) 4294967295))).fdiv (2 ^ 32)))).fdiv (2 ^ 32)))) + ((IntKind.wrap .u64 ((bAnd .u64 (IntKind.wrap .u64 ((IntKind.wrap .u64 (((IntKind.wrap .u64 (p1)).fdiv (2 ^ 32)) * (bAnd .u64 (IntKind.wrap .u64 ((w64 (p4.tdiv x7)))) 4294967295))) + ((IntKind.wrap .u64 ((bAnd .u64 (IntKind.wrap .u64 (p1)) 4294967295) * (bAnd .u64 (IntKind.wrap .u64 ((w64 (p4.tdiv x7)))) 4294967295))).fdiv (2 ^ 32)))) 4294967295) + (IntKind.wrap .u64 ((bAnd .u64 (IntKind.wrap .u64 (p1)) 4294967295) * ((IntKind.wrap .u64 ((w64 (p4.tdiv x7)))).fdiv (2 ^ 32)))))).fdiv (2 ^ 32)))))))), (8, (.one (.d (.int .u64 x12.1)))), (9, (.one (.d (.int .u64 (IntKind.wrap .u64 ((IntKind.wrap .u64 ((IntKind.wrap .u64 (((IntKind.wrap .u64 (p3)).fdiv (2 ^ 32)) * ((IntKind.wrap .u64 ((w64 (p2.tdiv x7)))).fdiv (2 ^ 32)))) + ((IntKind.wrap .u64 ((IntKind.wrap .u64 (((IntKind.wrap .u64 (p3)).fdiv (2 ^ 32)) * (bAnd .u64 (IntKind.wrap .u64 ((w64 (p2.tdiv x7)))) 4294967295))) + ((IntKind.wrap .u64 ((bAnd .u64 (IntKind.wrap .u64 (p3)) 4294967295) * (bAnd .u64 (IntKind.wrap .u64 ((w64 (p2.tdiv x7)))) 4294967295))).fdiv (2 ^ 32)))).fdiv (2 ^ 32)))) + ((IntKind.wrap .u64 ((bAnd .u64 (IntKind.wrap .u64 ((IntKind.wrap .u64 (((IntKind.wrap .u64 (p3)).fdiv (2 ^ 32)) * (bAnd .u64 (IntKind.wrap .u64 ((w64 (p2.tdiv x7)))) 4294967295))) + ((IntKind.wrap .u64 ((bAnd .u64 (IntKind.wrap .u64 (p3)) 4294967295) * (bAnd .u64 (IntKind.wrap .u64 ((w64 (p2.tdiv x7)))) 4294967295))).fdiv (2 ^ 32)))) 4294967295) + (IntKind.wrap .u64 ((bAnd .u64 (IntKind.wrap .u64 (p3)) 4294967295) * ((IntKind.wrap .u64 ((w64 (p2.tdiv x7)))).fdiv (2 ^ 32)))))).fdiv (2 ^ 32)))))))), (11, (.one (.d (.int .u64 x12.2))))], [.cells [.d (.int .i64 p1), .d (.int .i64 p2)], .cells [.d (.int .i64 p3), .d (.int .i64 p4)], .cells [.d (.int .i64 0), .d (.int .i64 0)]]⟩ (by kernel_rfl) (A1 ((addT_ok X_math_bits_Add64) k (IntKind.wrap .u64 ((IntKind.wrap .u64 (p1)) * (IntKind.wrap .u64 ((w64 (p4.tdiv x7)))))) (IntKind.wrap .u64 ((IntKind.wrap .u64 (p3)) * (IntKind.wrap .u64 ((w64 (p2.tdiv x7)))))) 0 x12 hx12)) ?_
      refine K_seq ?_
      obtain ⟨x13, hx13, H⟩ := bind_some' H
      refine K_reg [.r (.tup [(false, [.d (.int .u64 x13.1)]), (false, [.d (.int .u64 x13.2)])]) []] [evF X k n_math_bits_Add64 [(.one (.d (.int .u64 (IntKind.wrap .u64 ((IntKind.wrap .u64 ((IntKind.wrap .u64 (((IntKind.wrap .u64 (p1)).fdiv (2 ^ 32)) * ((IntKind.wrap .u64 ((w64 (p4.tdiv x7)))).fdiv (2 ^ 32)))) + ((IntKind.wrap .u64 ((IntKind.wrap .u64 (((IntKind.wrap .u64 (p1)).fdiv (2 ^ 32)) * (bAnd .u64 (IntKind.wrap .u64 ((w64 (p4.tdiv x7)))) 4294967295))) + ((IntKind.wrap .u64 ((bAnd .u64 (IntKind.wrap .u64 (p1)) 4294967295) * (bAnd .u64 (IntKind.wrap .u64 ((w64 (p4.tdiv x7)))) 4294967295))).fdiv (2 ^ 32)))).fdiv (2 ^ 32)))) + ((IntKind.wrap .u64 ((bAnd .u64 (IntKind.wrap .u64 ((IntKind.wrap .u64 (((IntKind.wrap .u64 (p1)).fdiv (2 ^ 32)) * (bAnd .u64 (IntKind.wrap .u64 ((w64 (p4.tdiv x7)))) 4294967295))) + ((IntKind.wrap .u64 ((bAnd .u64 (IntKind.wrap .u64 (p1)) 4294967295) * (bAnd .u64 (IntKind.wrap .u64 ((w64 (p4.tdiv x7)))) 4294967295))).fdiv (2 ^ 32)))) 4294967295) + (IntKind.wrap .u64 ((bAnd .u64 (IntKind.wrap .u64 (p1)) 4294967295) * ((IntKind.wrap .u64 ((w64 (p4.tdiv x7)))).fdiv (2 ^ 32)))))).fdiv (2 ^ 32))))))), (.one (.d (.int .u64 (IntKind.wrap .u64 ((IntKind.wrap .u64 ((IntKind.wrap .u64 (((IntKind.wrap .u64 (p3)).fdiv (2 ^ 32)) * ((IntKind.wrap .u64 ((w64 (p2.tdiv x7)))).fdiv (2 ^ 32)))) + ((IntKind.wrap .u64 ((IntKind.wrap .u64 (((IntKind.wrap .u64 (p3)).fdiv (2 ^ 32)) * (bAnd .u64 (IntKind.wrap .u64 ((w64 (p2.tdiv x7)))) 4294967295))) + ((IntKind.wrap .u64 ((bAnd .u64 (IntKind.wrap .u64 (p3)) 4294967295) * (bAnd .u64 (IntKind.wrap .u64 ((w64 (p2.tdiv x7)))) 4294967295))).fdiv (2 ^ 32)))).fdiv (2 ^ 32)))) + ((IntKind.wrap .u64 ((bAnd .u64 (IntKind.wrap .u64 ((IntKind.wrap .u64 (((IntKind.wrap .u64 (p3)).fdiv (2 ^ 32)) * (bAnd .u64 (IntKind.wrap .u64 ((w64 (p2.tdiv x7)))) 4294967295))) + ((IntKind.wrap .u64 ((bAnd .u64 (IntKind.wrap .u64 (p3)) 4294967295) * (bAnd .u64 (IntKind.wrap .u64 ((w64 (p2.tdiv x7)))) 4294967295))).fdiv (2 ^ 32)))) 4294967295) + (IntKind.wrap .u64 ((bAnd .u64 (IntKind.wrap .u64 (p3)) 4294967295) * ((IntKind.wrap .u64 ((w64 (p2.tdiv x7)))).fdiv (2 ^ 32)))))).fdiv (2 ^ 32))))))), (.one (.d (.int .u64 x12.2)))] [] = some ((.tup [(false, [.d (.int .u64 x13.1)]), (false, [.d (.int .u64 x13.2)])]), [])] ⟨[(2, (.one (.ptr 0 0 0))), (3, (.one (.ptr 1 0 0))), (4, (.one (.ptr 2 0 0))), (6, (I x7)), (7, (.one (.d (.int .u64 x13.1)))), (8, (.one (.d (.int .u64 x12.1))))], [.cells [.d (.int .i64 p1), .d (.int .i64 p2)], .cells [.d (.int .i64 p3), .d (.int .i64 p4)], .cells [.d (.int .i64 0), .d (.int .i64 0)]]⟩ (by kernel_rfl) (A1 ((addT_ok X_math_bits_Add64) k (IntKind.wrap .u64 ((IntKind.wrap .u64 ((IntKind.wrap .u64 (((IntKind.wrap .u64 (p1)).fdiv (2 ^ 32)) * ((IntKind.wrap .u64 ((w64 (p4.tdiv x7)))).fdiv (2 ^ 32)))) + ((IntKind.wrap .u64 ((IntKind.wrap .u64 (((IntKind.wrap .u64 (p1)).fdiv (2 ^ 32)) * (bAnd .u64 (IntKind.wrap .u64 ((w64 (p4.tdiv x7)))) 4294967295))) + ((IntKind.wrap .u64 ((bAnd .u64 (IntKind.wrap .u64 (p1)) 4294967295) * (bAnd .u64 (IntKind.wrap .u64 ((w64 (p4.tdiv x7)))) 4294967295))).fdiv (2 ^ 32)))).fdiv (2 ^ 32)))) + ((IntKind.wrap .u64 ((bAnd .u64 (IntKind.wrap .u64 ((IntKind.wrap .u64 (((IntKind.wrap .u64 (p1)).fdiv (2 ^ 32)) * (bAnd .u64 (IntKind.wrap .u64 ((w64 (p4.tdiv x7)))) 4294967295))) + ((IntKind.wrap .u64 ((bAnd .u64 (IntKind.wrap .u64 (p1)) 4294967295) * (bAnd .u64 (IntKind.wrap .u64 ((w64 (p4.tdiv x7)))) 4294967295))).fdiv (2 ^ 32)))) 4294967295) + (IntKind.wrap .u64 ((bAnd .u64 (IntKind.wrap .u64 (p1)) 4294967295) * ((IntKind.wrap .u64 ((w64 (p4.tdiv x7)))).fdiv (2 ^ 32)))))).fdiv (2 ^ 32)))) (IntKind.wrap .u64 ((IntKind.wrap .u64 ((IntKind.wrap .u64 (((IntKind.wrap .u64 (p3)).fdiv (2 ^ 32)) * ((IntKind.wrap .u64 ((w64 (p2.tdiv x7)))).fdiv (2 ^ 32)))) + ((IntKind.wrap .u64 ((IntKind.wrap .u64 (((IntKind.wrap .u64 (p3)).fdiv (2 ^ 32)) * (bAnd .u64 (IntKind.wrap .u64 ((w64 (p2.tdiv x7)))) 4294967295))) + ((IntKind.wrap .u64 ((bAnd .u64 (IntKind.wrap .u64 (p3)) 4294967295) * (bAnd .u64 (IntKind.wrap .u64 ((w64 (p2.tdiv x7)))) 4294967295))).fdiv (2 ^ 32)))).fdiv (2 ^ 32)))) + ((IntKind.wrap .u64 ((bAnd .u64 (IntKind.wrap .u64 ((IntKind.wrap .u64 (((IntKind.wrap .u64 (p3)).fdiv (2 ^ 32)) * (bAnd .u64 (IntKind.wrap .u64 ((w64 (p2.tdiv x7)))) 4294967295))) + ((IntKind.wrap .u64 ((bAnd .u64 (IntKind.wrap .u64 (p3)) 4294967295) * (bAnd .u64 (IntKind.wrap .u64 ((w64 (p2.tdiv x7)))) 4294967295))).fdiv (2 ^ 32)))) 4294967295) + (IntKind.wrap .u64 ((bAnd .u64 (IntKind.wrap .u64 (p3)) 4294967295) * ((IntKind.wrap .u64 ((w64 (p2.tdiv x7)))).fdiv (2 ^ 32)))))).fdiv (2 ^ 32)))) x12.2 x13 hx13)) ?_
      refine K_seq ?_
      obtain ⟨hx14, H⟩ := guard_some H
      obtain ⟨x15, hx15, H⟩ := bind_some' H
      refine K_reg [.r (.tup [(false, [.d (.int .u64 (IntKind.wrap .u64 (x12.1.tdiv (IntKind.wrap .u64 (x7)))))]), (false, [.d (.int .u64 (x12.1.tmod (IntKind.wrap .u64 (x7))))])]) []] [(IntKind.wrap .u64 (x7)) ≠ (0 : Int), evF X k n_math_bits_Div64 [(.one (.d (.int .u64 (x13.1.tmod (IntKind.wrap .u64 (x7)))))), (.one (.d (.int .u64 x12.1))), (.one (.d (.int .u64 (IntKind.wrap .u64 (x7)))))] [] = some ((.tup [(false, [.d (.int .u64 (IntKind.wrap .u64 (x12.1.tdiv (IntKind.wrap .u64 (x7)))))]), (false, [.d (.int .u64 (x12.1.tmod (IntKind.wrap .u64 (x7))))])]), [])] ⟨[(2, (.one (.ptr 0 0 0))), (3, (.one (.ptr 1 0 0))), (4, (.one (.ptr 2 0 0))), (6, (I x7)), (7, (.one (.d (.int .u64 x13.1)))), (8, (.one (.d (.int .u64 x12.1)))), (13, (.one (.d (.int .u64 (x12.1.tmod (IntKind.wrap .u64 (x7)))))))], [.cells [.d (.int .i64 p1), .d (.int .i64 p2)], .cells [.d (.int .i64 p3), .d (.int .i64 p4)], .cells [.d (.int .i64 0), .d (.int .i64 0)]]⟩ (by kernel_rfl) (AC hx14 (A1 (T_math_bits_Div64_ok k (x13.1.tmod (IntKind.wrap .u64 (x7))) x12.1 (IntKind.wrap .u64 (x7)) x15 hx15))) ?_
      refine K_seq ?_
      obtain ⟨x16, hx16, H⟩ := bind_some' H
      refine K_reg [.r (I x16) []] [evF X k n_ratio_divisor [(I (w64 ((x12.1.tmod (IntKind.wrap .u64 (x7)))))), (I x7)] [] = some ((I x16), [])] ⟨[(2, (.one (.ptr 0 0 0))), (3, (.one (.ptr 1 0 0))), (4, (.one (.ptr 2 0 0))), (6, (I x7)), (7, (.one (.d (.int .u64 x13.1)))), (8, (.one (.d (.int .u64 x12.1)))), (14, (.one (.d (.int .u64 (IntKind.wrap .u64 (x16))))))], [.cells [.d (.int .i64 p1), .d (.int .i64 p2)], .cells [.d (.int .i64 p3), .d (.int .i64 p4)], .cells [.d (.int .i64 0), .d (.int .i64 0)]]⟩ (by kernel_rfl) (A1 (T_ratio_divisor_ok k (w64 ((x12.1.tmod (IntKind.wrap .u64 (x7))))) x7 x16 hx16)) ?_
      refine K_seq ?_
      refine K_seq ?_
      refine K_reg [] [] ⟨[(2, (.one (.ptr 0 0 0))), (3, (.one (.ptr 1 0 0))), (4, (.one (.ptr 2 0 0))), (6, (I x7)), (7, (.one (.d (.int .u64 x13.1)))), (8, (.one (.d (.int .u64 x12.1)))), (14, (.one (.d (.int .u64 (IntKind.wrap .u64 (x16)))))), (88, (B (decide ((IntKind.wrap .u64 (x16)) ≤ x13.1))))], [.cells [.d (.int .i64 p1), .d (.int .i64 p2)], .cells [.d (.int .i64 p3), .d (.int .i64 p4)], .cells [.d (.int .i64 0), .d (.int .i64 0)]]⟩ (by kernel_rfl) trivial ?_
      rcases ite_some H with ⟨hx17, H⟩ | ⟨hx17, H⟩
      · refine K_t rfl (decide_eq_true hx17) ?_
        refine K_seq ?_
        refine K_reg [] [] ⟨[(4, (.one (.ptr 0 0 0))), (5, (I 4))], [.cells [.d (.int .i64 0), .d (.int .i64 0)]]⟩ (by kernel_rfl) trivial ?_
        refine K_gh ⟨[(4, (.one (.ptr 0 0 0))), (5, (I 4))], [.cells [.d (.int .i64 0), .d (.int .i64 0)]]⟩ (by kernel_rfl) ?_
        cases H
        refine K_ret ?_
        kernel_rfl
      · refine K_f rfl (decide_eq_false hx17) ?_
        refine K_gh ⟨[(2, (.one (.ptr 0 0 0))), (3, (.one (.ptr 1 0 0))), (4, (.one (.ptr 2 0 0))), (6, (I x7)), (7, (.one (.d (.int .u64 x13.1)))), (8, (.one (.d (.int .u64 x12.1)))), (14, (.one (.d (.int .u64 (IntKind.wrap .u64 (x16))))))], [.cells [.d (.int .i64 p1), .d (.int .i64 p2)], .cells [.d (.int .i64 p3), .d (.int .i64 p4)], .cells [.d (.int .i64 0), .d (.int .i64 0)]]⟩ (by kernel_rfl) ?_
        refine K_skip ?_
        refine K_seq ?_
        obtain ⟨x18, hx18, H⟩ := bind_some' H
        refine K_reg [.r (.tup [(false, [.d (.int .u64 (IntKind.wrap .u64 (x12.1.tdiv (IntKind.wrap .u64 (x16)))))]), (false, [.d (.int .u64 (x12.1.tmod (IntKind.wrap .u64 (x16))))])]) []] [evF X k n_math_bits_Div64 [(.one (.d (.int .u64 x13.1))), (.one (.d (.int .u64 x12.1))), (.one (.d (.int .u64 (IntKind.wrap .u64 (x16)))))] [] = some ((.tup [(false, [.d (.int .u64 (IntKind.wrap .u64 (x12.1.tdiv (IntKind.wrap .u64 (x16)))))]), (false, [.d (.int .u64 (x12.1.tmod (IntKind.wrap .u64 (x16))))])]), [])] ⟨[(2, (.one (.ptr 0 0 0))), (3, (.one (.ptr 1 0 0))), (4, (.one (.ptr 2 0 0))), (6, (I x7)), (14, (.one (.d (.int .u64 (IntKind.wrap .u64 (x16)))))), (15, (.one (.d (.int .u64 (IntKind.wrap .u64 (x12.1.tdiv (IntKind.wrap .u64 (x16))))))))], [.cells [.d (.int .i64 p1), .d (.int .i64 p2)], .cells [.d (.int .i64 p3), .d (.int .i64 p4)], .cells [.d (.int .i64 0), .d (.int .i64 0)]]⟩ (by kernel_rfl) (A1 (T_math_bits_Div64_ok k x13.1 x12.1 (IntKind.wrap .u64 (x16)) x18 hx18)) ?_
        refine K_seq ?_
        obtain ⟨hx19, H⟩ := guard_some H
        obtain ⟨hx20, H⟩ := guard_some H
        obtain ⟨x21, hx21, H⟩ := bind_some' H
        refine K_reg [.r (.tup [(false, [.d (.int .u64 (IntKind.wrap .u64 ((IntKind.wrap .u64 ((IntKind.wrap .u64 (((IntKind.wrap .u64 ((w64 (p2.tdiv x7)))).fdiv (2 ^ 32)) * ((IntKind.wrap .u64 ((IntKind.wrap .u64 (p4)).tdiv (IntKind.wrap .u64 (x16)))).fdiv (2 ^ 32)))) + ((IntKind.wrap .u64 ((IntKind.wrap .u64 (((IntKind.wrap .u64 ((w64 (p2.tdiv x7)))).fdiv (2 ^ 32)) * (bAnd .u64 (IntKind.wrap .u64 ((IntKind.wrap .u64 (p4)).tdiv (IntKind.wrap .u64 (x16)))) 4294967295))) + ((IntKind.wrap .u64 ((bAnd .u64 (IntKind.wrap .u64 ((w64 (p2.tdiv x7)))) 4294967295) * (bAnd .u64 (IntKind.wrap .u64 ((IntKind.wrap .u64 (p4)).tdiv (IntKind.wrap .u64 (x16)))) 4294967295))).fdiv (2 ^ 32)))).fdiv (2 ^ 32)))) + ((IntKind.wrap .u64 ((bAnd .u64 (IntKind.wrap .u64 ((IntKind.wrap .u64 (((IntKind.wrap .u64 ((w64 (p2.tdiv x7)))).fdiv (2 ^ 32)) * (bAnd .u64 (IntKind.wrap .u64 ((IntKind.wrap .u64 (p4)).tdiv (IntKind.wrap .u64 (x16)))) 4294967295))) + ((IntKind.wrap .u64 ((bAnd .u64 (IntKind.wrap .u64 ((w64 (p2.tdiv x7)))) 4294967295) * (bAnd .u64 (IntKind.wrap .u64 ((IntKind.wrap .u64 (p4)).tdiv (IntKind.wrap .u64 (x16)))) 4294967295))).fdiv (2 ^ 32)))) 4294967295) + (IntKind.wrap .u64 ((bAnd .u64 (IntKind.wrap .u64 ((w64 (p2.tdiv x7)))) 4294967295) * ((IntKind.wrap .u64 ((IntKind.wrap .u64 (p4)).tdiv (IntKind.wrap .u64 (x16)))).fdiv (2 ^ 32)))))).fdiv (2 ^ 32)))))]), (false, [.d (.int .u64 (IntKind.wrap .u64 ((IntKind.wrap .u64 ((w64 (p2.tdiv x7)))) * (IntKind.wrap .u64 ((IntKind.wrap .u64 (p4)).tdiv (IntKind.wrap .u64 (x16)))))))])]) []] [x7 ≠ (0 : Int), (IntKind.wrap .u64 (x16)) ≠ (0 : Int), evF X k n_math_bits_Mul64 [(.one (.d (.int .u64 (IntKind.wrap .u64 ((w64 (p2.tdiv x7))))))), (.one (.d (.int .u64 (IntKind.wrap .u64 ((IntKind.wrap .u64 (p4)).tdiv (IntKind.wrap .u64 (x16)))))))] [] = some ((.tup [(false, [.d (.int .u64 (IntKind.wrap .u64 ((IntKind.wrap .u64 ((IntKind.wrap .u64 (((IntKind.wrap .u64 ((w64 (p2.tdiv x7)))).fdiv (2 ^ 32)) * ((IntKind.wrap .u64 ((IntKind.wrap .u64 (p4)).tdiv (IntKind.wrap .u64 (x16)))).fdiv (2 ^ 32)))) + ((IntKind.wrap .u64 ((IntKind.wrap .u64 (((IntKind.wrap .u64 ((w64 (p2.tdiv x7)))).fdiv (2 ^ 32)) * (bAnd .u64 (IntKind.wrap .u64 ((IntKind.wrap .u64 (p4)).tdiv (IntKind.wrap .u64 (x16)))) 4294967295))) + ((IntKind.wrap .u64 ((bAnd .u64 (IntKind.wrap .u64 ((w64 (p2.tdiv x7)))) 4294967295) * (bAnd .u64 (IntKind.wrap .u64 ((IntKind.wrap .u64 (p4)).tdiv (IntKind.wrap .u64 (x16)))) 4294967295))).fdiv (2 ^ 32)))).fdiv (2 ^ 32)))) + ((IntKind.wrap .u64 ((bAnd .u64 (IntKind.wrap .u64 ((IntKind.wrap .u64 (((IntKind.wrap .u64 ((w64 (p2.tdiv x7)))).fdiv (2 ^ 32)) * (bAnd .u64 (IntKind.wrap .u64 ((IntKind.wrap .u64 (p4)).tdiv (IntKind.wrap .u64 (x16)))) 4294967295))) + ((IntKind.wrap .u64 ((bAnd .u64 (IntKind.wrap .u64 ((w64 (p2.tdiv x7)))) 4294967295) * (bAnd .u64 (IntKind.wrap .u64 ((IntKind.wrap .u64 (p4)).tdiv (IntKind.wrap .u64 (x16)))) 4294967295))).fdiv (2 ^ 32)))) 4294967295) + (IntKind.wrap .u64 ((bAnd .u64 (IntKind.wrap .u64 ((w64 (p2.tdiv x7)))) 4294967295) * ((IntKind.wrap .u64 ((IntKind.wrap .u64 (p4)).tdiv (IntKind.wrap .u64 (x16)))).fdiv (2 ^ 32)))))).fdiv (2 ^ 32)))))]), (false, [.d (.int .u64 (IntKind.wrap .u64 ((IntKind.wrap .u64 ((w64 (p2.tdiv x7)))) * (IntKind.wrap .u64 ((IntKind.wrap .u64 (p4)).tdiv (IntKind.wrap .u64 (x16)))))))])]), [])] ⟨[(4, (.one (.ptr 0 0 0))), (15, (.one (.d (.int .u64 (IntKind.wrap .u64 (x12.1.tdiv (IntKind.wrap .u64 (x16)))))))), (17, (.one (.d (.int .u64 (IntKind.wrap .u64 ((IntKind.wrap .u64 ((IntKind.wrap .u64 (((IntKind.wrap .u64 ((w64 (p2.tdiv x7)))).fdiv (2 ^ 32)) * ((IntKind.wrap .u64 ((IntKind.wrap .u64 (p4)).tdiv (IntKind.wrap .u64 (x16)))).fdiv (2 ^ 32)))) + ((IntKind.wrap .u64 ((IntKind.wrap .u64 (((IntKind.wrap .u64 ((w64 (p2.tdiv x7)))).fdiv (2 ^ 32)) * (bAnd .u64 (IntKind.wrap .u64 ((IntKind.wrap .u64 (p4)).tdiv (IntKind.wrap .u64 (x16)))) 4294967295))) + ((IntKind.wrap .u64 ((bAnd .u64 (IntKind.wrap .u64 ((w64 (p2.tdiv x7)))) 4294967295) * (bAnd .u64 (IntKind.wrap .u64 ((IntKind.wrap .u64 (p4)).tdiv (IntKind.wrap .u64 (x16)))) 4294967295))).fdiv (2 ^ 32)))).fdiv (2 ^ 32)))) + ((IntKind.wrap .u64 ((bAnd .u64 (IntKind.wrap .u64 ((IntKind.wrap .u64 (((IntKind.wrap .u64 ((w64 (p2.tdiv x7)))).fdiv (2 ^ 32)) * (bAnd .u64 (IntKind.wrap .u64 ((IntKind.wrap .u64 (p4)).tdiv (IntKind.wrap .u64 (x16)))) 4294967295))) + ((IntKind.wrap .u64 ((bAnd .u64 (IntKind.wrap .u64 ((w64 (p2.tdiv x7)))) 4294967295) * (bAnd .u64 (IntKind.wrap .u64 ((IntKind.wrap .u64 (p4)).tdiv (IntKind.wrap .u64 (x16)))) 4294967295))).fdiv (2 ^ 32)))) 4294967295) + (IntKind.wrap .u64 ((bAnd .u64 (IntKind.wrap .u64 ((w64 (p2.tdiv x7)))) 4294967295) * ((IntKind.wrap .u64 ((IntKind.wrap .u64 (p4)).tdiv (IntKind.wrap .u64 (x16)))).fdiv (2 ^ 32)))))).fdiv (2 ^ 32)))))))), (18, (.one (.d (.int .u64 (IntKind.wrap .u64 ((IntKind.wrap .u64 ((w64 (p2.tdiv x7)))) * (IntKind.wrap .u64 ((IntKind.wrap .u64 (p4)).tdiv (IntKind.wrap .u64 (x16))))))))))], [.cells [.d (.int .i64 0), .d (.int .i64 0)]]⟩ (by kernel_rfl) (AC hx19 (AC hx20 (A1 (T_math_bits_Mul64_ok k (IntKind.wrap .u64 ((w64 (p2.tdiv x7)))) (IntKind.wrap .u64 ((IntKind.wrap .u64 (p4)).tdiv (IntKind.wrap .u64 (x16)))) x21 hx21)))) ?_
        refine K_seq ?_
        refine K_seq ?_
        refine K_reg [.m, .m] [([.cells [.d (.int .i64 0), .d (.int .i64 0)]] : Heap) = [.cells [.d (.int .i64 0), .d (.int .i64 0)]], ([.cells [.d (.int .i64 0), .d (.int .i64 0)]] : Heap) = [.cells [.d (.int .i64 0), .d (.int .i64 0)]]] ⟨[(4, (.one (.ptr 0 0 0))), (15, (.one (.d (.int .u64 (IntKind.wrap .u64 (x12.1.tdiv (IntKind.wrap .u64 (x16)))))))), (18, (.one (.d (.int .u64 (IntKind.wrap .u64 ((IntKind.wrap .u64 ((w64 (p2.tdiv x7)))) * (IntKind.wrap .u64 ((IntKind.wrap .u64 (p4)).tdiv (IntKind.wrap .u64 (x16)))))))))), (120, (B ((decide (2305843009213693952 < (IntKind.wrap .u64 (x12.1.tdiv (IntKind.wrap .u64 (x16))))) || decide (0 < (IntKind.wrap .u64 ((IntKind.wrap .u64 ((IntKind.wrap .u64 (((IntKind.wrap .u64 ((w64 (p2.tdiv x7)))).fdiv (2 ^ 32)) * ((IntKind.wrap .u64 ((IntKind.wrap .u64 (p4)).tdiv (IntKind.wrap .u64 (x16)))).fdiv (2 ^ 32)))) + ((IntKind.wrap .u64 ((IntKind.wrap .u64 (((IntKind.wrap .u64 ((w64 (p2.tdiv x7)))).fdiv (2 ^ 32)) * (bAnd .u64 (IntKind.wrap .u64 ((IntKind.wrap .u64 (p4)).tdiv (IntKind.wrap .u64 (x16)))) 4294967295))) + ((IntKind.wrap .u64 ((bAnd .u64 (IntKind.wrap .u64 ((w64 (p2.tdiv x7)))) 4294967295) * (bAnd .u64 (IntKind.wrap .u64 ((IntKind.wrap .u64 (p4)).tdiv (IntKind.wrap .u64 (x16)))) 4294967295))).fdiv (2 ^ 32)))).fdiv (2 ^ 32)))) + ((IntKind.wrap .u64 ((bAnd .u64 (IntKind.wrap .u64 ((IntKind.wrap .u64 (((IntKind.wrap .u64 ((w64 (p2.tdiv x7)))).fdiv (2 ^ 32)) * (bAnd .u64 (IntKind.wrap .u64 ((IntKind.wrap .u64 (p4)).tdiv (IntKind.wrap .u64 (x16)))) 4294967295))) + ((IntKind.wrap .u64 ((bAnd .u64 (IntKind.wrap .u64 ((w64 (p2.tdiv x7)))) 4294967295) * (bAnd .u64 (IntKind.wrap .u64 ((IntKind.wrap .u64 (p4)).tdiv (IntKind.wrap .u64 (x16)))) 4294967295))).fdiv (2 ^ 32)))) 4294967295) + (IntKind.wrap .u64 ((bAnd .u64 (IntKind.wrap .u64 ((w64 (p2.tdiv x7)))) 4294967295) * ((IntKind.wrap .u64 ((IntKind.wrap .u64 (p4)).tdiv (IntKind.wrap .u64 (x16)))).fdiv (2 ^ 32)))))).fdiv (2 ^ 32)))))) || decide (1152921504606846976 < (IntKind.wrap .u64 ((IntKind.wrap .u64 ((w64 (p2.tdiv x7)))) * (IntKind.wrap .u64 ((IntKind.wrap .u64 (p4)).tdiv (IntKind.wrap .u64 (x16))))))))))], [.cells [.d (.int .i64 0), .d (.int .i64 0)]]⟩ (by kernel_rfl) (AC rfl (A1 rfl)) ?_
        rcases ite_some H with ⟨hx22, H⟩ | ⟨hx22, H⟩
        · refine K_t rfl hx22 ?_
          refine K_seq ?_
          refine K_reg [] [] ⟨[(4, (.one (.ptr 0 0 0))), (5, (I 4))], [.cells [.d (.int .i64 0), .d (.int .i64 0)]]⟩ (by kernel_rfl) trivial ?_
          refine K_gh ⟨[(4, (.one (.ptr 0 0 0))), (5, (I 4))], [.cells [.d (.int .i64 0), .d (.int .i64 0)]]⟩ (by kernel_rfl) ?_
          cases H
          refine K_ret ?_
          kernel_rfl
        · refine K_f rfl (Bool.eq_false_iff.2 hx22) ?_
          refine K_gh ⟨[(4, (.one (.ptr 0 0 0))), (15, (.one (.d (.int .u64 (IntKind.wrap .u64 (x12.1.tdiv (IntKind.wrap .u64 (x16)))))))), (18, (.one (.d (.int .u64 (IntKind.wrap .u64 ((IntKind.wrap .u64 ((w64 (p2.tdiv x7)))) * (IntKind.wrap .u64 ((IntKind.wrap .u64 (p4)).tdiv (IntKind.wrap .u64 (x16))))))))))], [.cells [.d (.int .i64 0), .d (.int .i64 0)]]⟩ (by kernel_rfl) ?_
          refine K_skip ?_
          refine K_seq ?_
          refine K_reg [] [] ⟨[(4, (.one (.ptr 0 0 0))), (5, (I 0))], [.cells [.d (.int .i64 (w64 ((IntKind.wrap .u64 (x12.1.tdiv (IntKind.wrap .u64 (x16))))))), .d (.int .i64 (w64 ((IntKind.wrap .u64 ((IntKind.wrap .u64 ((w64 (p2.tdiv x7)))) * (IntKind.wrap .u64 ((IntKind.wrap .u64 (p4)).tdiv (IntKind.wrap .u64 (x16)))))))))]]⟩ (by kernel_rfl) trivial ?_
          refine K_gh ⟨[(4, (.one (.ptr 0 0 0))), (5, (I 0))], [.cells [.d (.int .i64 (w64 ((IntKind.wrap .u64 (x12.1.tdiv (IntKind.wrap .u64 (x16))))))), .d (.int .i64 (w64 ((IntKind.wrap .u64 ((IntKind.wrap .u64 ((w64 (p2.tdiv x7)))) * (IntKind.wrap .u64 ((IntKind.wrap .u64 (p4)).tdiv (IntKind.wrap .u64 (x16)))))))))]]⟩ (by kernel_rfl) ?_
          cases H
          refine K_ret ?_
          kernel_rfl
def T_envelope_Pieces_l1 (k : Nat) (x7 : List Int) (x8 : List Int) (x9 : Int) (x13 : List Int) (x14 : List Int) (x53 : Int) (x56 : Int) (x63 : Int) (x68 : Int) (x69 : Int) (x74 : Int × Int × Int) : Option ((Int × Int × Int) ⊕ ((Int × Int))) :=
  ((at? x7 (w64 (x56 + 1))).bind fun x75 => (if x74.2.2 < x75 then ((at? x14 x74.2.2).bind fun x77 => (at? x13 x74.2.2).bind fun x78 => some (.inl ((w64 (x74.1 + x77)), (w64 (x74.2.1 + x78)), (w64 (x74.2.2 + 1))))) else some (.inr (x74.1, x74.2.1))))
theorem T_envelope_Pieces_l1_ok (k : Nat) (x7 : List Int) (x8 : List Int) (x9 : Int) (x13 : List Int) (x14 : List Int) (x53 : Int) (x56 : Int) (x63 : Int) (x68 : Int) (x69 : Int) : ∀ (x74 : Int × Int × Int) (x : (Int × Int × Int) ⊕ ((Int × Int))), T_envelope_Pieces_l1 k x7 x8 x9 x13 x14 x53 x56 x63 x68 x69 x74 = some x → evC X (evF X k) k 0 l_envelope_Pieces_1 ⟨[(8, (.one (.ptr 0 0 0))), (14, (.one (.d (.list (x7.map (D.int .i64)))))), (16, (.one (.ptr 1 0 0))), (17, (.one (.ptr 2 0 0))), (18, (I x56)), (19, (I x53)), (20, (I x74.1)), (21, (I x74.2.1)), (22, (I x74.2.2)), (60, (.one (.d (.list (x8.map (D.int .i64)))))), (61, (I x9)), (62, (I x63))], [.cells [.d (.int .i64 0), .d (.int .i64 0)], .cells [.d (.list (x13.map (D.int .i64))), .d (.list (x14.map (D.int .i64)))], .cells [.d (.int .i64 x68), .d (.int .i64 x69)]]⟩ = some (outS (fun (s : Int × Int × Int) => ⟨[(8, (.one (.ptr 0 0 0))), (14, (.one (.d (.list (x7.map (D.int .i64)))))), (16, (.one (.ptr 1 0 0))), (17, (.one (.ptr 2 0 0))), (18, (I x56)), (19, (I x53)), (20, (I s.1)), (21, (I s.2.1)), (22, (I s.2.2)), (60, (.one (.d (.list (x8.map (D.int .i64)))))), (61, (I x9)), (62, (I x63))], [.cells [.d (.int .i64 0), .d (.int .i64 0)], .cells [.d (.list (x13.map (D.int .i64))), .d (.list (x14.map (D.int .i64)))], .cells [.d (.int .i64 x68), .d (.int .i64 x69)]]⟩) (fun (r : (Int × Int)) => (.exit 2, ⟨[(8, (.one (.ptr 0 0 0))), (14, (.one (.d (.list (x7.map (D.int .i64)))))), (16, (.one (.ptr 1 0 0))), (17, (.one (.ptr 2 0 0))), (18, (I x56)), (19, (I x53)), (20, (I r.1)), (21, (I r.2)), (60, (.one (.d (.list (x8.map (D.int .i64)))))), (61, (I x9)), (62, (I x63))], [.cells [.d (.int .i64 0), .d (.int .i64 0)], .cells [.d (.list (x13.map (D.int .i64))), .d (.list (x14.map (D.int .i64)))], .cells [.d (.int .i64 x68), .d (.int .i64 x69)]]⟩)) x) := by
  intro x74 x H
  unfold T_envelope_Pieces_l1 at H
  refine K_in ?_
  refine K_seq ?_
  refine K_seq ?_
  obtain ⟨x75, hx75, H⟩ := bind_some' H
  refine K_reg [.l [.int .i64 x75]] [(0 : Int) ≤ (w64 (x56 + 1)) ∧ (w64 (x56 + 1)) < (((x7.map (D.int .i64))).length : Int), ((x7.map (D.int .i64)).getD (w64 (x56 + 1)).toNat (.int .i64 0)).cells = [.int .i64 x75]] ⟨[(8, (.one (.ptr 0 0 0))), (14, (.one (.d (.list (x7.map (D.int .i64)))))), (16, (.one (.ptr 1 0 0))), (17, (.one (.ptr 2 0 0))), (18, (I x56)), (19, (I x53)), (20, (I x74.1)), (21, (I x74.2.1)), (22, (I x74.2.2)), (60, (.one (.d (.list (x8.map (D.int .i64)))))), (61, (I x9)), (62, (I x63)), (77, (B (decide (x74.2.2 < x75))))], [.cells [.d (.int .i64 0), .d (.int .i64 0)], .cells [.d (.list (x13.map (D.int .i64))), .d (.list (x14.map (D.int .i64)))], .cells [.d (.int .i64 x68), .d (.int .i64 x69)]]⟩ (by kernel_rfl) (AC (at_ok hx75 (D.int .i64) (.int .i64 0)).1 (A1 (at_ok hx75 (D.int .i64) (.int .i64 0)).2)) ?_
  rcases ite_some H with ⟨hx76, H⟩ | ⟨hx76, H⟩
  · refine K_t rfl (decide_eq_true hx76) ?_
    refine K_gh ⟨[(8, (.one (.ptr 0 0 0))), (14, (.one (.d (.list (x7.map (D.int .i64)))))), (16, (.one (.ptr 1 0 0))), (17, (.one (.ptr 2 0 0))), (18, (I x56)), (19, (I x53)), (20, (I x74.1)), (21, (I x74.2.1)), (22, (I x74.2.2)), (60, (.one (.d (.list (x8.map (D.int .i64)))))), (61, (I x9)), (62, (I x63))], [.cells [.d (.int .i64 0), .d (.int .i64 0)], .cells [.d (.list (x13.map (D.int .i64))), .d (.list (x14.map (D.int .i64)))], .cells [.d (.int .i64 x68), .d (.int .i64 x69)]]⟩ (by kernel_rfl) ?_
    refine K_skip ?_
    refine K_seq ?_
    refine K_block ?_
    obtain ⟨x77, hx77, H⟩ := bind_some' H
    obtain ⟨x78, hx78, H⟩ := bind_some' H
    refine K_reg [.l [.int .i64 x77], .l [.int .i64 x78]] [(0 : Int) ≤ x74.2.2 ∧ x74.2.2 < (((x14.map (D.int .i64))).length : Int), ((x14.map (D.int .i64)).getD x74.2.2.toNat (.int .i64 0)).cells = [.int .i64 x77], (0 : Int) ≤ x74.2.2 ∧ x74.2.2 < (((x13.map (D.int .i64))).length : Int), ((x13.map (D.int .i64)).getD x74.2.2.toNat (.int .i64 0)).cells = [.int .i64 x78]] ⟨[(8, (.one (.ptr 0 0 0))), (14, (.one (.d (.list (x7.map (D.int .i64)))))), (16, (.one (.ptr 1 0 0))), (17, (.one (.ptr 2 0 0))), (18, (I x56)), (19, (I x53)), (20, (I (w64 (x74.1 + x77)))), (21, (I (w64 (x74.2.1 + x78)))), (22, (I x74.2.2)), (60, (.one (.d (.list (x8.map (D.int .i64)))))), (61, (I x9)), (62, (I x63))], [.cells [.d (.int .i64 0), .d (.int .i64 0)], .cells [.d (.list (x13.map (D.int .i64))), .d (.list (x14.map (D.int .i64)))], .cells [.d (.int .i64 x68), .d (.int .i64 x69)]]⟩ (by kernel_rfl) (AC (at_ok hx77 (D.int .i64) (.int .i64 0)).1 (AC (at_ok hx77 (D.int .i64) (.int .i64 0)).2 (AC (at_ok hx78 (D.int .i64) (.int .i64 0)).1 (A1 (at_ok hx78 (D.int .i64) (.int .i64 0)).2)))) ?_
    refine K_blk ?_
    refine K_reg [] [] ⟨[(8, (.one (.ptr 0 0 0))), (14, (.one (.d (.list (x7.map (D.int .i64)))))), (16, (.one (.ptr 1 0 0))), (17, (.one (.ptr 2 0 0))), (18, (I x56)), (19, (I x53)), (20, (I (w64 (x74.1 + x77)))), (21, (I (w64 (x74.2.1 + x78)))), (22, (I (w64 (x74.2.2 + 1)))), (60, (.one (.d (.list (x8.map (D.int .i64)))))), (61, (I x9)), (62, (I x63))], [.cells [.d (.int .i64 0), .d (.int .i64 0)], .cells [.d (.list (x13.map (D.int .i64))), .d (.list (x14.map (D.int .i64)))], .cells [.d (.int .i64 x68), .d (.int .i64 x69)]]⟩ (by kernel_rfl) trivial ?_
    cases H
    exact K_end rfl
  · refine K_f rfl (decide_eq_false hx76) ?_
    refine K_gh ⟨[(8, (.one (.ptr 0 0 0))), (14, (.one (.d (.list (x7.map (D.int .i64)))))), (16, (.one (.ptr 1 0 0))), (17, (.one (.ptr 2 0 0))), (18, (I x56)), (19, (I x53)), (20, (I x74.1)), (21, (I x74.2.1)), (60, (.one (.d (.list (x8.map (D.int .i64)))))), (61, (I x9)), (62, (I x63))], [.cells [.d (.int .i64 0), .d (.int .i64 0)], .cells [.d (.list (x13.map (D.int .i64))), .d (.list (x14.map (D.int .i64)))], .cells [.d (.int .i64 x68), .d (.int .i64 x69)]]⟩ (by kernel_rfl) ?_
    cases H
    exact K_exit0 rfl rfl
def T_envelope_Pieces_l2 (k : Nat) (x7 : List Int) (x8 : List Int) (x9 : Int) (x13 : List Int) (x14 : List Int) (x51 : Int × Int × Int) : Option ((Int × Int × Int) ⊕ ((Int × Int) ⊕ Int)) :=
  (if x51.1 < x9 then ((at? x8 x51.1).bind fun x53 => (at? x7 x51.1).bind fun x54 => (loopT (T_envelope_Pieces_l1 k x7 x8 x9 x13 x14 x53 x51.1 x51.1 x51.2.1 x51.2.2) k (0, 0, x54)).bind fun x79 => (T_envelope_passes k x53 x79.1 x79.2).bind fun x80 => (at? x7 (w64 (x51.1 + 1))).bind fun x81 => (at? x7 x51.1).bind fun x82 => (T_ratio_Make k (w64 ((imax (imax 0 (w64 (x53 - x79.2))) (w64 (x79.1 - x53))) * (imax (imax 0 (w64 (x53 - x79.2))) (w64 (x79.1 - x53))))) (w64 (x81 - x82))).bind fun x83 => (T_ratio_Add k x51.2.1 x51.2.2 x83.1 x83.2.1).bind fun x84 => (if (!decide (x84.2.2 = 0)) = true then some (.inr (.inr x84.2.2)) else some (.inl ((w64 (x51.1 + 1)), x84.1, x84.2.1)))) else some (.inr (.inl (x51.2.1, x51.2.2))))
theorem T_envelope_Pieces_l2_ok (k : Nat) (x7 : List Int) (x8 : List Int) (x9 : Int) (x13 : List Int) (x14 : List Int) : ∀ (x51 : Int × Int × Int) (x : (Int × Int × Int) ⊕ ((Int × Int) ⊕ Int)), T_envelope_Pieces_l2 k x7 x8 x9 x13 x14 x51 = some x → evC X (evF X k) k 0 l_envelope_Pieces_2 ⟨[(8, (.one (.ptr 0 0 0))), (14, (.one (.d (.list (x7.map (D.int .i64)))))), (16, (.one (.ptr 1 0 0))), (17, (.one (.ptr 2 0 0))), (60, (.one (.d (.list (x8.map (D.int .i64)))))), (61, (I x9)), (62, (I x51.1))], [.cells [.d (.int .i64 0), .d (.int .i64 0)], .cells [.d (.list (x13.map (D.int .i64))), .d (.list (x14.map (D.int .i64)))], .cells [.d (.int .i64 x51.2.1), .d (.int .i64 x51.2.2)]]⟩ = some (outS (fun (s : Int × Int × Int) => ⟨[(8, (.one (.ptr 0 0 0))), (14, (.one (.d (.list (x7.map (D.int .i64)))))), (16, (.one (.ptr 1 0 0))), (17, (.one (.ptr 2 0 0))), (60, (.one (.d (.list (x8.map (D.int .i64)))))), (61, (I x9)), (62, (I s.1))], [.cells [.d (.int .i64 0), .d (.int .i64 0)], .cells [.d (.list (x13.map (D.int .i64))), .d (.list (x14.map (D.int .i64)))], .cells [.d (.int .i64 s.2.1), .d (.int .i64 s.2.2)]]⟩) (fun (r : (Int × Int) ⊕ Int) => Sum.elim (fun y => (.exit 0, ⟨[(8, (.one (.ptr 0 0 0))), (17, (.one (.ptr 1 0 0)))], [.cells [.d (.int .i64 0), .d (.int .i64 0)], .cells [.d (.int .i64 y.1), .d (.int .i64 y.2)]]⟩)) (fun y => (.ret, ⟨[(8, (.one (.ptr 0 0 0))), (9, (I y))], [.cells [.d (.int .i64 0), .d (.int .i64 0)]]⟩)) r) x) := by
  intro x51 x H
  unfold T_envelope_Pieces_l2 at H
  refine K_in ?_
  refine K_seq ?_
  refine K_reg [] [] ⟨[(8, (.one (.ptr 0 0 0))), (14, (.one (.d (.list (x7.map (D.int .i64)))))), (16, (.one (.ptr 1 0 0))), (17, (.one (.ptr 2 0 0))), (60, (.one (.d (.list (x8.map (D.int .i64)))))), (61, (I x9)), (62, (I x51.1)), (63, (B (decide (x51.1 < x9))))], [.cells [.d (.int .i64 0), .d (.int .i64 0)], .cells [.d (.list (x13.map (D.int .i64))), .d (.list (x14.map (D.int .i64)))], .cells [.d (.int .i64 x51.2.1), .d (.int .i64 x51.2.2)]]⟩ (by kernel_rfl) trivial ?_
  refine K_seq ?_
  rcases ite_some H with ⟨hx52, H⟩ | ⟨hx52, H⟩
  · refine K_t rfl (decide_eq_true hx52) ?_
    refine K_gh ⟨[(8, (.one (.ptr 0 0 0))), (14, (.one (.d (.list (x7.map (D.int .i64)))))), (16, (.one (.ptr 1 0 0))), (17, (.one (.ptr 2 0 0))), (60, (.one (.d (.list (x8.map (D.int .i64)))))), (61, (I x9)), (62, (I x51.1))], [.cells [.d (.int .i64 0), .d (.int .i64 0)], .cells [.d (.list (x13.map (D.int .i64))), .d (.list (x14.map (D.int .i64)))], .cells [.d (.int .i64 x51.2.1), .d (.int .i64 x51.2.2)]]⟩ (by kernel_rfl) ?_
    refine K_skip ?_
    refine K_seq ?_
    refine K_block ?_
    refine K_seq ?_
    obtain ⟨x53, hx53, H⟩ := bind_some' H
    refine K_reg [.l [.int .i64 x53]] [(0 : Int) ≤ x51.1 ∧ x51.1 < (((x8.map (D.int .i64))).length : Int), ((x8.map (D.int .i64)).getD x51.1.toNat (.int .i64 0)).cells = [.int .i64 x53]] ⟨[(8, (.one (.ptr 0 0 0))), (14, (.one (.d (.list (x7.map (D.int .i64)))))), (16, (.one (.ptr 1 0 0))), (17, (.one (.ptr 2 0 0))), (18, (I x51.1)), (19, (I x53)), (60, (.one (.d (.list (x8.map (D.int .i64)))))), (61, (I x9)), (62, (I x51.1))], [.cells [.d (.int .i64 0), .d (.int .i64 0)], .cells [.d (.list (x13.map (D.int .i64))), .d (.list (x14.map (D.int .i64)))], .cells [.d (.int .i64 x51.2.1), .d (.int .i64 x51.2.2)]]⟩ (by kernel_rfl) (AC (at_ok hx53 (D.int .i64) (.int .i64 0)).1 (A1 (at_ok hx53 (D.int .i64) (.int .i64 0)).2)) ?_
    refine K_seq ?_
    refine K_reg [] [] ⟨[(8, (.one (.ptr 0 0 0))), (14, (.one (.d (.list (x7.map (D.int .i64)))))), (16, (.one (.ptr 1 0 0))), (17, (.one (.ptr 2 0 0))), (18, (I x51.1)), (19, (I x53)), (20, (I 0)), (21, (I 0)), (60, (.one (.d (.list (x8.map (D.int .i64)))))), (61, (I x9)), (62, (I x51.1))], [.cells [.d (.int .i64 0), .d (.int .i64 0)], .cells [.d (.list (x13.map (D.int .i64))), .d (.list (x14.map (D.int .i64)))], .cells [.d (.int .i64 x51.2.1), .d (.int .i64 x51.2.2)]]⟩ (by kernel_rfl) trivial ?_
    refine K_seq ?_
    refine K_seq ?_
    obtain ⟨x54, hx54, H⟩ := bind_some' H
    refine K_reg [.l [.int .i64 x54]] [(0 : Int) ≤ x51.1 ∧ x51.1 < (((x7.map (D.int .i64))).length : Int), ((x7.map (D.int .i64)).getD x51.1.toNat (.int .i64 0)).cells = [.int .i64 x54]] ⟨[(8, (.one (.ptr 0 0 0))), (14, (.one (.d (.list (x7.map (D.int .i64)))))), (16, (.one (.ptr 1 0 0))), (17, (.one (.ptr 2 0 0))), (18, (I x51.1)), (19, (I x53)), (20, (I 0)), (21, (I 0)), (22, (I x54)), (60, (.one (.d (.list (x8.map (D.int .i64)))))), (61, (I x9)), (62, (I x51.1))], [.cells [.d (.int .i64 0), .d (.int .i64 0)], .cells [.d (.list (x13.map (D.int .i64))), .d (.list (x14.map (D.int .i64)))], .cells [.d (.int .i64 x51.2.1), .d (.int .i64 x51.2.2)]]⟩ (by kernel_rfl) (AC (at_ok hx54 (D.int .i64) (.int .i64 0)).1 (A1 (at_ok hx54 (D.int .i64) (.int .i64 0)).2)) ?_
    refine K_block ?_
    obtain ⟨x79, hx79, H⟩ := bind_some' H
    refine K_loop ⟨[(8, (.one (.ptr 0 0 0))), (14, (.one (.d (.list (x7.map (D.int .i64)))))), (16, (.one (.ptr 1 0 0))), (17, (.one (.ptr 2 0 0))), (18, (I x51.1)), (19, (I x53)), (20, (I x79.1)), (21, (I x79.2)), (60, (.one (.d (.list (x8.map (D.int .i64)))))), (61, (I x9)), (62, (I x51.1))], [.cells [.d (.int .i64 0), .d (.int .i64 0)], .cells [.d (.list (x13.map (D.int .i64))), .d (.list (x14.map (D.int .i64)))], .cells [.d (.int .i64 x51.2.1), .d (.int .i64 x51.2.2)]]⟩ (loop_ok (fun (s : Int × Int × Int) => ⟨[(8, (.one (.ptr 0 0 0))), (14, (.one (.d (.list (x7.map (D.int .i64)))))), (16, (.one (.ptr 1 0 0))), (17, (.one (.ptr 2 0 0))), (18, (I x51.1)), (19, (I x53)), (20, (I s.1)), (21, (I s.2.1)), (22, (I s.2.2)), (60, (.one (.d (.list (x8.map (D.int .i64)))))), (61, (I x9)), (62, (I x51.1))], [.cells [.d (.int .i64 0), .d (.int .i64 0)], .cells [.d (.list (x13.map (D.int .i64))), .d (.list (x14.map (D.int .i64)))], .cells [.d (.int .i64 x51.2.1), .d (.int .i64 x51.2.2)]]⟩) (fun (r : (Int × Int)) => (.exit 2, ⟨[(8, (.one (.ptr 0 0 0))), (14, (.one (.d (.list (x7.map (D.int .i64)))))), (16, (.one (.ptr 1 0 0))), (17, (.one (.ptr 2 0 0))), (18, (I x51.1)), (19, (I x53)), (20, (I r.1)), (21, (I r.2)), (60, (.one (.d (.list (x8.map (D.int .i64)))))), (61, (I x9)), (62, (I x51.1))], [.cells [.d (.int .i64 0), .d (.int .i64 0)], .cells [.d (.list (x13.map (D.int .i64))), .d (.list (x14.map (D.int .i64)))], .cells [.d (.int .i64 x51.2.1), .d (.int .i64 x51.2.2)]]⟩)) (fun r h => by cases h) (T_envelope_Pieces_l1_ok k x7 x8 x9 x13 x14 x53 x51.1 x51.1 x51.2.1 x51.2.2) k (0, 0, x54) x79 hx79) rfl ?_
    refine K_seq ?_
    obtain ⟨x80, hx80, H⟩ := bind_some' H
    refine K_reg [.r (I (imax (imax 0 (w64 (x53 - x79.2))) (w64 (x79.1 - x53)))) []] [evF X k n_envelope_passes [(I x53), (I x79.1), (I x79.2)] [] = some ((I (imax (imax 0 (w64 (x53 - x79.2))) (w64 (x79.1 - x53)))), [])] ⟨[(8, (.one (.ptr 0 0 0))), (14, (.one (.d (.list (x7.map (D.int .i64)))))), (16, (.one (.ptr 1 0 0))), (17, (.one (.ptr 2 0 0))), (18, (I x51.1)), (23, (I (imax (imax 0 (w64 (x53 - x79.2))) (w64 (x79.1 - x53))))), (60, (.one (.d (.list (x8.map (D.int .i64)))))), (61, (I x9)), (62, (I x51.1))], [.cells [.d (.int .i64 0), .d (.int .i64 0)], .cells [.d (.list (x13.map (D.int .i64))), .d (.list (x14.map (D.int .i64)))], .cells [.d (.int .i64 x51.2.1), .d (.int .i64 x51.2.2)]]⟩ (by kernel_rfl) (A1 (T_envelope_passes_ok k x53 x79.1 x79.2 x80 hx80)) ?_
    refine K_seq ?_
    obtain ⟨x81, hx81, H⟩ := bind_some' H
    obtain ⟨x82, hx82, H⟩ := bind_some' H
    obtain ⟨x83, hx83, H⟩ := bind_some' H
    refine K_regD [.l [.int .i64 x81], .l [.int .i64 x82], .r (.tup [(true, [.d (.int .i64 x83.1), .d (.int .i64 x83.2.1)]), (false, [.d (.int .i64 x83.2.2)])]) []] [(0 : Int) ≤ (w64 (x51.1 + 1)) ∧ (w64 (x51.1 + 1)) < (((x7.map (D.int .i64))).length : Int), ((x7.map (D.int .i64)).getD (w64 (x51.1 + 1)).toNat (.int .i64 0)).cells = [.int .i64 x81], (0 : Int) ≤ x51.1 ∧ x51.1 < (((x7.map (D.int .i64))).length : Int), ((x7.map (D.int .i64)).getD x51.1.toNat (.int .i64 0)).cells = [.int .i64 x82], evF X k n_ratio_Make [(I (w64 ((imax (imax 0 (w64 (x53 - x79.2))) (w64 (x79.1 - x53))) * (imax (imax 0 (w64 (x53 - x79.2))) (w64 (x79.1 - x53)))))), (I (w64 (x81 - x82)))] [] = some ((.tup [(true, [.d (.int .i64 x83.1), .d (.int .i64 x83.2.1)]), (false, [.d (.int .i64 x83.2.2)])]), [])] ⟨[(8, (.one (.ptr 0 0 0))), (14, (.one (.d (.list (x7.map (D.int .i64)))))), (16, (.one (.ptr 1 0 0))), (17, (.one (.ptr 2 0 0))), (24, (.one (.ptr 3 0 0))), (60, (.one (.d (.list (x8.map (D.int .i64)))))), (61, (I x9)), (62, (I x51.1))], [.cells [.d (.int .i64 0), .d (.int .i64 0)], .cells [.d (.list (x13.map (D.int .i64))), .d (.list (x14.map (D.int .i64)))], .cells [.d (.int .i64 x51.2.1), .d (.int .i64 x51.2.2)], .cells [.d (.int .i64 x83.1), .d (.int .i64 x83.2.1)]]⟩ (by kernel_rfl) (AC (at_ok hx81 (D.int .i64) (.int .i64 0)).1 (AC (at_ok hx81 (D.int .i64) (.int .i64 0)).2 (AC (at_ok hx82 (D.int .i64) (.int .i64 0)).1 (AC (at_ok hx82 (D.int .i64) (.int .i64 0)).2 (A1 (T_ratio_Make_ok k (w64 ((imax (imax 0 (w64 (x53 - x79.2))) (w64 (x79.1 - x53))) * (imax (imax 0 (w64 (x53 - x79.2))) (w64 (x79.1 - x53))))) (w64 (x81 - x82)) x83 hx83)))))) ?_
    refine K_seq ?_
    obtain ⟨x84, hx84, H⟩ := bind_some' H
    refine K_reg [.r (.tup [(true, [.d (.int .i64 x84.1), .d (.int .i64 x84.2.1)]), (false, [.d (.int .i64 x84.2.2)])]) []] [evF X k n_ratio_Add [(.agg [.d (.int .i64 x51.2.1), .d (.int .i64 x51.2.2)]), (.agg [.d (.int .i64 x83.1), .d (.int .i64 x83.2.1)])] [] = some ((.tup [(true, [.d (.int .i64 x84.1), .d (.int .i64 x84.2.1)]), (false, [.d (.int .i64 x84.2.2)])]), [])] ⟨[(8, (.one (.ptr 0 0 0))), (13, (I x84.2.2)), (14, (.one (.d (.list (x7.map (D.int .i64)))))), (16, (.one (.ptr 1 0 0))), (17, (.one (.ptr 2 0 0))), (60, (.one (.d (.list (x8.map (D.int .i64)))))), (61, (I x9)), (62, (I x51.1))], [.cells [.d (.int .i64 0), .d (.int .i64 0)], .cells [.d (.list (x13.map (D.int .i64))), .d (.list (x14.map (D.int .i64)))], .cells [.d (.int .i64 x84.1), .d (.int .i64 x84.2.1)]]⟩ (by kernel_rfl) (A1 (T_ratio_Add_ok k x51.2.1 x51.2.2 x83.1 x83.2.1 x84 hx84)) ?_
    refine K_seq ?_
    refine K_reg [] [] ⟨[(8, (.one (.ptr 0 0 0))), (13, (I x84.2.2)), (14, (.one (.d (.list (x7.map (D.int .i64)))))), (16, (.one (.ptr 1 0 0))), (17, (.one (.ptr 2 0 0))), (60, (.one (.d (.list (x8.map (D.int .i64)))))), (61, (I x9)), (62, (I x51.1)), (122, (B (!decide (x84.2.2 = 0))))], [.cells [.d (.int .i64 0), .d (.int .i64 0)], .cells [.d (.list (x13.map (D.int .i64))), .d (.list (x14.map (D.int .i64)))], .cells [.d (.int .i64 x84.1), .d (.int .i64 x84.2.1)]]⟩ (by kernel_rfl) trivial ?_
    rcases ite_some H with ⟨hx85, H⟩ | ⟨hx85, H⟩
    · refine K_t rfl hx85 ?_
      refine K_seq ?_
      refine K_reg [] [] ⟨[(8, (.one (.ptr 0 0 0))), (9, (I x84.2.2))], [.cells [.d (.int .i64 0), .d (.int .i64 0)]]⟩ (by kernel_rfl) trivial ?_
      refine K_gh ⟨[(8, (.one (.ptr 0 0 0))), (9, (I x84.2.2))], [.cells [.d (.int .i64 0), .d (.int .i64 0)]]⟩ (by kernel_rfl) ?_
      cases H
      exact K_ret rfl
    · refine K_f rfl (Bool.eq_false_iff.2 hx85) ?_
      refine K_gh ⟨[(8, (.one (.ptr 0 0 0))), (14, (.one (.d (.list (x7.map (D.int .i64)))))), (16, (.one (.ptr 1 0 0))), (17, (.one (.ptr 2 0 0))), (60, (.one (.d (.list (x8.map (D.int .i64)))))), (61, (I x9)), (62, (I x51.1))], [.cells [.d (.int .i64 0), .d (.int .i64 0)], .cells [.d (.list (x13.map (D.int .i64))), .d (.list (x14.map (D.int .i64)))], .cells [.d (.int .i64 x84.1), .d (.int .i64 x84.2.1)]]⟩ (by kernel_rfl) ?_
      refine K_skip ?_
      refine K_blk ?_
      refine K_reg [] [] ⟨[(8, (.one (.ptr 0 0 0))), (14, (.one (.d (.list (x7.map (D.int .i64)))))), (16, (.one (.ptr 1 0 0))), (17, (.one (.ptr 2 0 0))), (60, (.one (.d (.list (x8.map (D.int .i64)))))), (61, (I x9)), (62, (I (w64 (x51.1 + 1))))], [.cells [.d (.int .i64 0), .d (.int .i64 0)], .cells [.d (.list (x13.map (D.int .i64))), .d (.list (x14.map (D.int .i64)))], .cells [.d (.int .i64 x84.1), .d (.int .i64 x84.2.1)]]⟩ (by kernel_rfl) trivial ?_
      cases H
      exact K_end rfl
  · refine K_f rfl (decide_eq_false hx52) ?_
    refine K_gh ⟨[(8, (.one (.ptr 0 0 0))), (17, (.one (.ptr 1 0 0)))], [.cells [.d (.int .i64 0), .d (.int .i64 0)], .cells [.d (.int .i64 x51.2.1), .d (.int .i64 x51.2.2)]]⟩ (by kernel_rfl) ?_
    cases H
    exact K_exit0 rfl rfl
def T_envelope_Pieces (k : Nat) (p1 : List Int) (p2 : List Int) (p3 : Int) (p4 : Int) : Option (Int × Int × Int) := match k with
  | 0 => none
  | k + 1 => ((T_warp_Distance k p1 p2 p3).bind fun x1 => (if (!decide (x1.2 = 0)) = true then some (0, 0, x1.2) else ((T_pieces_Sums k p2 p4).bind fun x3 => (if (!decide (x3.2 = 0)) = true then some (0, 0, x3.2) else ((T_pieces_Starts k (p2.length : Int) p4).bind fun x5 => (T_envelope_of k p1 p3 (p2.length : Int)).bind fun x6 => (loopT (T_envelope_Pieces_l2 k x5.1 x3.1 (x3.1.length : Int) x6.1 x6.2) k (0, 0, 1)).bind fun x86 => (match x86 with | .inl x87 => some (x87.1, x87.2, 0) | .inr x88 => some (0, 0, x88)))))))
theorem T_envelope_Pieces_ok (k : Nat) (p1 : List Int) (p2 : List Int) (p3 : Int) (p4 : Int) (r : Int × Int × Int) : T_envelope_Pieces k p1 p2 p3 p4 = some r → evF X k n_envelope_Pieces [(.one (.d (.list (p1.map (D.int .i64))))), (.one (.d (.list (p2.map (D.int .i64))))), (I p3), (I p4)] [] = some ((.tup [(true, [.d (.int .i64 r.1), .d (.int .i64 r.2.1)]), (false, [.d (.int .i64 r.2.2)])]), []) := by
  intro H
  cases k with
  | zero => simp [T_envelope_Pieces] at H
  | succ k =>
    simp only [T_envelope_Pieces] at H
    refine F_in X_envelope_Pieces rfl ?_
    refine K_seq ?_
    refine K_reg [] [] ⟨[(0, (.one (.d (.list (p1.map (D.int .i64)))))), (1, (.one (.d (.list (p2.map (D.int .i64)))))), (2, (I p3)), (3, (I p4)), (8, (.one (.ptr 0 0 0)))], [.cells [.d (.int .i64 0), .d (.int .i64 0)]]⟩ (by kernel_rfl) trivial ?_
    refine K_seq ?_
    refine K_seq ?_
    obtain ⟨x1, hx1, H⟩ := bind_some' H
    refine K_reg [.r (.tup [(false, [.d (.int .i64 x1.1)]), (false, [.d (.int .i64 x1.2)])]) []] [evF X k n_warp_Distance [(.one (.d (.list (p1.map (D.int .i64))))), (.one (.d (.list (p2.map (D.int .i64))))), (I p3)] [] = some ((.tup [(false, [.d (.int .i64 x1.1)]), (false, [.d (.int .i64 x1.2)])]), [])] ⟨[(0, (.one (.d (.list (p1.map (D.int .i64)))))), (1, (.one (.d (.list (p2.map (D.int .i64)))))), (2, (I p3)), (3, (I p4)), (8, (.one (.ptr 0 0 0))), (11, (I x1.2))], [.cells [.d (.int .i64 0), .d (.int .i64 0)]]⟩ (by kernel_rfl) (A1 (T_warp_Distance_ok k p1 p2 p3 x1 hx1)) ?_
    refine K_seq ?_
    refine K_reg [] [] ⟨[(0, (.one (.d (.list (p1.map (D.int .i64)))))), (1, (.one (.d (.list (p2.map (D.int .i64)))))), (2, (I p3)), (3, (I p4)), (8, (.one (.ptr 0 0 0))), (11, (I x1.2)), (34, (B (!decide (x1.2 = 0))))], [.cells [.d (.int .i64 0), .d (.int .i64 0)]]⟩ (by kernel_rfl) trivial ?_
    rcases ite_some H with ⟨hx2, H⟩ | ⟨hx2, H⟩
    · refine K_t rfl hx2 ?_
      refine K_seq ?_
      refine K_reg [] [] ⟨[(8, (.one (.ptr 0 0 0))), (9, (I x1.2))], [.cells [.d (.int .i64 0), .d (.int .i64 0)]]⟩ (by kernel_rfl) trivial ?_
      refine K_gh ⟨[(8, (.one (.ptr 0 0 0))), (9, (I x1.2))], [.cells [.d (.int .i64 0), .d (.int .i64 0)]]⟩ (by kernel_rfl) ?_
      cases H
      refine K_ret ?_
      kernel_rfl
    · refine K_f rfl (Bool.eq_false_iff.2 hx2) ?_
      refine K_gh ⟨[(0, (.one (.d (.list (p1.map (D.int .i64)))))), (1, (.one (.d (.list (p2.map (D.int .i64)))))), (2, (I p3)), (3, (I p4)), (8, (.one (.ptr 0 0 0)))], [.cells [.d (.int .i64 0), .d (.int .i64 0)]]⟩ (by kernel_rfl) ?_
      refine K_skip ?_
      refine K_seq ?_
      obtain ⟨x3, hx3, H⟩ := bind_some' H
      refine K_reg [.r (.tup [(false, [.d (.list (x3.1.map (D.int .i64)))]), (false, [.d (.int .i64 x3.2)])]) []] [evF X k n_pieces_Sums [(.one (.d (.list (p2.map (D.int .i64))))), (I p4)] [] = some ((.tup [(false, [.d (.list (x3.1.map (D.int .i64)))]), (false, [.d (.int .i64 x3.2)])]), [])] ⟨[(0, (.one (.d (.list (p1.map (D.int .i64)))))), (1, (.one (.d (.list (p2.map (D.int .i64)))))), (2, (I p3)), (3, (I p4)), (8, (.one (.ptr 0 0 0))), (12, (.one (.d (.list (x3.1.map (D.int .i64)))))), (13, (I x3.2))], [.cells [.d (.int .i64 0), .d (.int .i64 0)]]⟩ (by kernel_rfl) (A1 (T_pieces_Sums_ok k p2 p4 x3 hx3)) ?_
      refine K_seq ?_
      refine K_seq ?_
      refine K_reg [] [] ⟨[(0, (.one (.d (.list (p1.map (D.int .i64)))))), (1, (.one (.d (.list (p2.map (D.int .i64)))))), (2, (I p3)), (3, (I p4)), (8, (.one (.ptr 0 0 0))), (12, (.one (.d (.list (x3.1.map (D.int .i64)))))), (13, (I x3.2)), (44, (B (!decide (x3.2 = 0))))], [.cells [.d (.int .i64 0), .d (.int .i64 0)]]⟩ (by kernel_rfl) trivial ?_
      rcases ite_some H with ⟨hx4, H⟩ | ⟨hx4, H⟩
      · refine K_t rfl hx4 ?_
        refine K_seq ?_
        refine K_reg [] [] ⟨[(8, (.one (.ptr 0 0 0))), (9, (I x3.2))], [.cells [.d (.int .i64 0), .d (.int .i64 0)]]⟩ (by kernel_rfl) trivial ?_
        refine K_gh ⟨[(8, (.one (.ptr 0 0 0))), (9, (I x3.2))], [.cells [.d (.int .i64 0), .d (.int .i64 0)]]⟩ (by kernel_rfl) ?_
        cases H
        refine K_ret ?_
        kernel_rfl
      · refine K_f rfl (Bool.eq_false_iff.2 hx4) ?_
        refine K_gh ⟨[(0, (.one (.d (.list (p1.map (D.int .i64)))))), (1, (.one (.d (.list (p2.map (D.int .i64)))))), (2, (I p3)), (3, (I p4)), (8, (.one (.ptr 0 0 0))), (12, (.one (.d (.list (x3.1.map (D.int .i64))))))], [.cells [.d (.int .i64 0), .d (.int .i64 0)]]⟩ (by kernel_rfl) ?_
        refine K_skip ?_
        refine K_seq ?_
        obtain ⟨x5, hx5, H⟩ := bind_some' H
        refine K_reg [.n p2.length, .r (.tup [(false, [.d (.list (x5.1.map (D.int .i64)))]), (false, [.d (.int .i64 x5.2)])]) []] [((p2.map (D.int .i64))).length = p2.length, evF X k n_pieces_Starts [(I (p2.length : Int)), (I p4)] [] = some ((.tup [(false, [.d (.list (x5.1.map (D.int .i64)))]), (false, [.d (.int .i64 x5.2)])]), [])] ⟨[(0, (.one (.d (.list (p1.map (D.int .i64)))))), (1, (.one (.d (.list (p2.map (D.int .i64)))))), (2, (I p3)), (8, (.one (.ptr 0 0 0))), (12, (.one (.d (.list (x3.1.map (D.int .i64)))))), (14, (.one (.d (.list (x5.1.map (D.int .i64))))))], [.cells [.d (.int .i64 0), .d (.int .i64 0)]]⟩ (by kernel_rfl) (AC (List.length_map _) (A1 (T_pieces_Starts_ok k (p2.length : Int) p4 x5 hx5))) ?_
        refine K_seq ?_
        obtain ⟨x6, hx6, H⟩ := bind_some' H
        refine K_reg [.n p2.length, .r (.agg [.d (.list (x6.1.map (D.int .i64))), .d (.list (x6.2.map (D.int .i64)))]) []] [((p2.map (D.int .i64))).length = p2.length, evF X k n_envelope_of [(.one (.d (.list (p1.map (D.int .i64))))), (I p3), (I (p2.length : Int))] [] = some ((.agg [.d (.list (x6.1.map (D.int .i64))), .d (.list (x6.2.map (D.int .i64)))]), [])] ⟨[(8, (.one (.ptr 0 0 0))), (12, (.one (.d (.list (x3.1.map (D.int .i64)))))), (14, (.one (.d (.list (x5.1.map (D.int .i64)))))), (16, (.one (.ptr 1 0 0)))], [.cells [.d (.int .i64 0), .d (.int .i64 0)], .cells [.d (.list (x6.1.map (D.int .i64))), .d (.list (x6.2.map (D.int .i64)))]]⟩ (by kernel_rfl) (AC (List.length_map _) (A1 (T_envelope_of_ok k p1 p3 (p2.length : Int) x6 hx6))) ?_
        refine K_seq ?_
        refine K_reg [] [] ⟨[(8, (.one (.ptr 0 0 0))), (12, (.one (.d (.list (x3.1.map (D.int .i64)))))), (14, (.one (.d (.list (x5.1.map (D.int .i64)))))), (16, (.one (.ptr 1 0 0))), (17, (.one (.ptr 2 0 0)))], [.cells [.d (.int .i64 0), .d (.int .i64 0)], .cells [.d (.list (x6.1.map (D.int .i64))), .d (.list (x6.2.map (D.int .i64)))], .cells [.d (.int .i64 0), .d (.int .i64 1)]]⟩ (by kernel_rfl) trivial ?_
        refine K_seq ?_
        refine K_seq ?_
        refine K_reg [.n x3.1.length] [((x3.1.map (D.int .i64))).length = x3.1.length] ⟨[(8, (.one (.ptr 0 0 0))), (14, (.one (.d (.list (x5.1.map (D.int .i64)))))), (16, (.one (.ptr 1 0 0))), (17, (.one (.ptr 2 0 0))), (60, (.one (.d (.list (x3.1.map (D.int .i64)))))), (61, (I (x3.1.length : Int))), (62, (I 0))], [.cells [.d (.int .i64 0), .d (.int .i64 0)], .cells [.d (.list (x6.1.map (D.int .i64))), .d (.list (x6.2.map (D.int .i64)))], .cells [.d (.int .i64 0), .d (.int .i64 1)]]⟩ (by kernel_rfl) (A1 (List.length_map _)) ?_
        refine K_block ?_
        obtain ⟨x86, hx86, H⟩ := bind_some' H
        cases x86 with
        | inl x87 =>
          dsimp only at H
          refine K_loop ⟨[(8, (.one (.ptr 0 0 0))), (17, (.one (.ptr 1 0 0)))], [.cells [.d (.int .i64 0), .d (.int .i64 0)], .cells [.d (.int .i64 x87.1), .d (.int .i64 x87.2)]]⟩ (loop_ok (fun (s : Int × Int × Int) => ⟨[(8, (.one (.ptr 0 0 0))), (14, (.one (.d (.list (x5.1.map (D.int .i64)))))), (16, (.one (.ptr 1 0 0))), (17, (.one (.ptr 2 0 0))), (60, (.one (.d (.list (x3.1.map (D.int .i64)))))), (61, (I (x3.1.length : Int))), (62, (I s.1))], [.cells [.d (.int .i64 0), .d (.int .i64 0)], .cells [.d (.list (x6.1.map (D.int .i64))), .d (.list (x6.2.map (D.int .i64)))], .cells [.d (.int .i64 s.2.1), .d (.int .i64 s.2.2)]]⟩) (fun (r : (Int × Int) ⊕ Int) => Sum.elim (fun y => (.exit 0, ⟨[(8, (.one (.ptr 0 0 0))), (17, (.one (.ptr 1 0 0)))], [.cells [.d (.int .i64 0), .d (.int .i64 0)], .cells [.d (.int .i64 y.1), .d (.int .i64 y.2)]]⟩)) (fun y => (.ret, ⟨[(8, (.one (.ptr 0 0 0))), (9, (I y))], [.cells [.d (.int .i64 0), .d (.int .i64 0)]]⟩)) r) (fun r h => by cases r <;> cases h) (T_envelope_Pieces_l2_ok k x5.1 x3.1 (x3.1.length : Int) x6.1 x6.2) k (0, 0, 1) (.inl x87) hx86) rfl ?_
          refine K_seq ?_
          refine K_reg [] [] ⟨[(8, (.one (.ptr 0 0 0))), (9, (I 0))], [.cells [.d (.int .i64 x87.1), .d (.int .i64 x87.2)]]⟩ (by kernel_rfl) trivial ?_
          refine K_gh ⟨[(8, (.one (.ptr 0 0 0))), (9, (I 0))], [.cells [.d (.int .i64 x87.1), .d (.int .i64 x87.2)]]⟩ (by kernel_rfl) ?_
          cases H
          refine K_ret ?_
          kernel_rfl
        | inr x88 =>
          dsimp only at H
          cases H
          refine K_loopr ⟨[(8, (.one (.ptr 0 0 0))), (9, (I x88))], [.cells [.d (.int .i64 0), .d (.int .i64 0)]]⟩ (loop_ok (fun (s : Int × Int × Int) => ⟨[(8, (.one (.ptr 0 0 0))), (14, (.one (.d (.list (x5.1.map (D.int .i64)))))), (16, (.one (.ptr 1 0 0))), (17, (.one (.ptr 2 0 0))), (60, (.one (.d (.list (x3.1.map (D.int .i64)))))), (61, (I (x3.1.length : Int))), (62, (I s.1))], [.cells [.d (.int .i64 0), .d (.int .i64 0)], .cells [.d (.list (x6.1.map (D.int .i64))), .d (.list (x6.2.map (D.int .i64)))], .cells [.d (.int .i64 s.2.1), .d (.int .i64 s.2.2)]]⟩) (fun (r : (Int × Int) ⊕ Int) => Sum.elim (fun y => (.exit 0, ⟨[(8, (.one (.ptr 0 0 0))), (17, (.one (.ptr 1 0 0)))], [.cells [.d (.int .i64 0), .d (.int .i64 0)], .cells [.d (.int .i64 y.1), .d (.int .i64 y.2)]]⟩)) (fun y => (.ret, ⟨[(8, (.one (.ptr 0 0 0))), (9, (I y))], [.cells [.d (.int .i64 0), .d (.int .i64 0)]]⟩)) r) (fun r h => by cases r <;> cases h) (T_envelope_Pieces_l2_ok k x5.1 x3.1 (x3.1.length : Int) x6.1 x6.2) k (0, 0, 1) (.inr x88) hx86) ?_
          kernel_rfl
def T_keep_Ints_l1 (k : Nat) (p1 : List Int) (p2 : List Int) (x4 : Int) (x10 : Int) : Option (Int ⊕ (Unit ⊕ Unit)) :=
  (if x10 < x4 then ((at? p1 x10).bind fun x12 => (at? p2 x10).bind fun x13 => (if (!decide (x12 = x13)) = true then some (.inr (.inr ())) else some (.inl (w64 (x10 + 1))))) else some (.inr (.inl ())))
theorem T_keep_Ints_l1_ok (k : Nat) (p1 : List Int) (p2 : List Int) (x4 : Int) : ∀ (x10 : Int) (x : Int ⊕ (Unit ⊕ Unit)), T_keep_Ints_l1 k p1 p2 x4 x10 = some x → evC X (evF X k) k 0 l_keep_Ints_1 ⟨[(0, (.one (.d (.list (p1.map (D.int .i64)))))), (1, (.one (.d (.list (p2.map (D.int .i64)))))), (12, (I x4)), (13, (I x10))], []⟩ = some (outS (fun (s : Int) => ⟨[(0, (.one (.d (.list (p1.map (D.int .i64)))))), (1, (.one (.d (.list (p2.map (D.int .i64)))))), (12, (I x4)), (13, (I s))], []⟩) (fun (r : Unit ⊕ Unit) => Sum.elim (fun y => (.exit 0, ⟨[], []⟩)) (fun y => (.ret, ⟨[(4, (B false))], []⟩)) r) x) := by
  intro x10 x H
  unfold T_keep_Ints_l1 at H
  refine K_in ?_
  refine K_seq ?_
  refine K_reg [] [] ⟨[(0, (.one (.d (.list (p1.map (D.int .i64)))))), (1, (.one (.d (.list (p2.map (D.int .i64)))))), (12, (I x4)), (13, (I x10)), (14, (B (decide (x10 < x4))))], []⟩ (by kernel_rfl) trivial ?_
  refine K_seq ?_
  rcases ite_some H with ⟨hx11, H⟩ | ⟨hx11, H⟩
  · refine K_t rfl (decide_eq_true hx11) ?_
    refine K_gh ⟨[(0, (.one (.d (.list (p1.map (D.int .i64)))))), (1, (.one (.d (.list (p2.map (D.int .i64)))))), (12, (I x4)), (13, (I x10))], []⟩ (by kernel_rfl) ?_
    refine K_skip ?_
    refine K_seq ?_
    refine K_block ?_
    refine K_seq ?_
    refine K_reg [] [] ⟨[(0, (.one (.d (.list (p1.map (D.int .i64)))))), (1, (.one (.d (.list (p2.map (D.int .i64)))))), (5, (I x10)), (12, (I x4)), (13, (I x10))], []⟩ (by kernel_rfl) trivial ?_
    refine K_seq ?_
    obtain ⟨x12, hx12, H⟩ := bind_some' H
    obtain ⟨x13, hx13, H⟩ := bind_some' H
    refine K_reg [.l [.int .i64 x12], .l [.int .i64 x13]] [(0 : Int) ≤ x10 ∧ x10 < (((p1.map (D.int .i64))).length : Int), ((p1.map (D.int .i64)).getD x10.toNat (.int .i64 0)).cells = [.int .i64 x12], (0 : Int) ≤ x10 ∧ x10 < (((p2.map (D.int .i64))).length : Int), ((p2.map (D.int .i64)).getD x10.toNat (.int .i64 0)).cells = [.int .i64 x13]] ⟨[(0, (.one (.d (.list (p1.map (D.int .i64)))))), (1, (.one (.d (.list (p2.map (D.int .i64)))))), (12, (I x4)), (13, (I x10)), (24, (B (!decide (x12 = x13))))], []⟩ (by kernel_rfl) (AC (at_ok hx12 (D.int .i64) (.int .i64 0)).1 (AC (at_ok hx12 (D.int .i64) (.int .i64 0)).2 (AC (at_ok hx13 (D.int .i64) (.int .i64 0)).1 (A1 (at_ok hx13 (D.int .i64) (.int .i64 0)).2)))) ?_
    rcases ite_some H with ⟨hx14, H⟩ | ⟨hx14, H⟩
    · refine K_t rfl hx14 ?_
      refine K_seq ?_
      refine K_reg [] [] ⟨[(4, (B false))], []⟩ (by kernel_rfl) trivial ?_
      refine K_gh ⟨[(4, (B false))], []⟩ (by kernel_rfl) ?_
      cases H
      exact K_ret rfl
    · refine K_f rfl (Bool.eq_false_iff.2 hx14) ?_
      refine K_gh ⟨[(0, (.one (.d (.list (p1.map (D.int .i64)))))), (1, (.one (.d (.list (p2.map (D.int .i64)))))), (12, (I x4)), (13, (I x10))], []⟩ (by kernel_rfl) ?_
      refine K_skip ?_
      refine K_blk ?_
      refine K_reg [] [] ⟨[(0, (.one (.d (.list (p1.map (D.int .i64)))))), (1, (.one (.d (.list (p2.map (D.int .i64)))))), (12, (I x4)), (13, (I (w64 (x10 + 1))))], []⟩ (by kernel_rfl) trivial ?_
      cases H
      exact K_end rfl
  · refine K_f rfl (decide_eq_false hx11) ?_
    refine K_gh ⟨[], []⟩ (by kernel_rfl) ?_
    cases H
    exact K_exit0 rfl rfl
def T_keep_Ints (k : Nat) (p1 : List Int) (p2 : List Int) : Option Bool := match k with
  | 0 => none
  | k + 1 => (if (!decide ((p1.length : Int) = (p2.length : Int))) = true then some false else ((loopT (T_keep_Ints_l1 k p1 p2 (p1.length : Int)) k 0).bind fun x15 => (match x15 with | .inl x16 => some true | .inr x17 => some false)))
theorem T_keep_Ints_ok (k : Nat) (p1 : List Int) (p2 : List Int) (r : Bool) : T_keep_Ints k p1 p2 = some r → evF X k n_keep_Ints [(.one (.d (.list (p1.map (D.int .i64))))), (.one (.d (.list (p2.map (D.int .i64)))))] [] = some ((B r), []) := by
  intro H
  cases k with
  | zero => simp [T_keep_Ints] at H
  | succ k =>
    simp only [T_keep_Ints] at H
    refine F_in X_keep_Ints rfl ?_
    refine K_seq ?_
    refine K_reg [] [] ⟨[(0, (.one (.d (.list (p1.map (D.int .i64)))))), (1, (.one (.d (.list (p2.map (D.int .i64))))))], []⟩ (by kernel_rfl) trivial ?_
    refine K_seq ?_
    refine K_seq ?_
    refine K_reg [.n p1.length, .n p2.length] [((p1.map (D.int .i64))).length = p1.length, ((p2.map (D.int .i64))).length = p2.length] ⟨[(0, (.one (.d (.list (p1.map (D.int .i64)))))), (1, (.one (.d (.list (p2.map (D.int .i64)))))), (10, (B (!decide ((p1.length : Int) = (p2.length : Int)))))], []⟩ (by kernel_rfl) (AC (List.length_map _) (A1 (List.length_map _))) ?_
    rcases ite_some H with ⟨hx1, H⟩ | ⟨hx1, H⟩
    · refine K_t rfl hx1 ?_
      refine K_seq ?_
      refine K_reg [] [] ⟨[(4, (B false))], []⟩ (by kernel_rfl) trivial ?_
      refine K_gh ⟨[(4, (B false))], []⟩ (by kernel_rfl) ?_
      cases H
      refine K_ret ?_
      kernel_rfl
    · refine K_f rfl (Bool.eq_false_iff.2 hx1) ?_
      refine K_gh ⟨[(0, (.one (.d (.list (p1.map (D.int .i64)))))), (1, (.one (.d (.list (p2.map (D.int .i64))))))], []⟩ (by kernel_rfl) ?_
      refine K_skip ?_
      refine K_seq ?_
      refine K_seq ?_
      refine K_reg [.n p1.length] [((p1.map (D.int .i64))).length = p1.length] ⟨[(0, (.one (.d (.list (p1.map (D.int .i64)))))), (1, (.one (.d (.list (p2.map (D.int .i64)))))), (12, (I (p1.length : Int))), (13, (I 0))], []⟩ (by kernel_rfl) (A1 (List.length_map _)) ?_
      refine K_block ?_
      obtain ⟨x15, hx15, H⟩ := bind_some' H
      cases x15 with
      | inl x16 =>
        dsimp only at H
        refine K_loop ⟨[], []⟩ (loop_ok (fun (s : Int) => ⟨[(0, (.one (.d (.list (p1.map (D.int .i64)))))), (1, (.one (.d (.list (p2.map (D.int .i64)))))), (12, (I (p1.length : Int))), (13, (I s))], []⟩) (fun (r : Unit ⊕ Unit) => Sum.elim (fun y => (.exit 0, ⟨[], []⟩)) (fun y => (.ret, ⟨[(4, (B false))], []⟩)) r) (fun r h => by cases r <;> cases h) (T_keep_Ints_l1_ok k p1 p2 (p1.length : Int)) k 0 (.inl x16) hx15) rfl ?_
        refine K_seq ?_
        refine K_reg [] [] ⟨[(4, (B true))], []⟩ (by kernel_rfl) trivial ?_
        refine K_gh ⟨[(4, (B true))], []⟩ (by kernel_rfl) ?_
        cases H
        refine K_ret ?_
        kernel_rfl
      | inr x17 =>
        dsimp only at H
        cases H
        refine K_loopr ⟨[(4, (B false))], []⟩ (loop_ok (fun (s : Int) => ⟨[(0, (.one (.d (.list (p1.map (D.int .i64)))))), (1, (.one (.d (.list (p2.map (D.int .i64)))))), (12, (I (p1.length : Int))), (13, (I s))], []⟩) (fun (r : Unit ⊕ Unit) => Sum.elim (fun y => (.exit 0, ⟨[], []⟩)) (fun y => (.ret, ⟨[(4, (B false))], []⟩)) r) (fun r h => by cases r <;> cases h) (T_keep_Ints_l1_ok k p1 p2 (p1.length : Int)) k 0 (.inr x17) hx15) ?_
        kernel_rfl
def T_law20_awake (k : Nat) : Option Bool := match k with
  | 0 => none
  | k + 1 => ((T_envelope_Of k ([0, 0, 5] : List Int) 1 3).bind fun x1 => (T_envelope_Keogh k ([0, 0, 5] : List Int) ([0, 5, 9] : List Int) 1).bind fun x2 => (T_envelope_Pieces k ([0, 0, 5] : List Int) ([0, 5, 9] : List Int) 1 1).bind fun x3 => ((if x1.2.2 = 0 then ((T_keep_Ints k x1.1 ([0, 5, 5] : List Int)).bind fun x6 => (if x6 = true then ((T_keep_Ints k x1.2.1 ([0, 0, 0] : List Int)).bind fun x9 => some ((((x9 && decide (x2.2 = 0)) && decide (x2.1 = 16)) && decide (x3.2.2 = 0)) && (decide (x3.1 = 16) && (decide (x3.2.1 = 3) && true)))) else some false)) else some false)).bind fun x10 => some x10)
theorem T_law20_awake_ok (k : Nat) (r : Bool) : T_law20_awake k = some r → evF X k n_law20_awake [] [] = some ((B r), []) := by
  intro H
  cases k with
  | zero => simp [T_law20_awake] at H
  | succ k =>
    simp only [T_law20_awake] at H
    refine F_in X_law20_awake rfl ?_
    refine K_seq ?_
    refine K_reg [] [] ⟨[], []⟩ (by kernel_rfl) trivial ?_
    refine K_seq ?_
    refine K_reg [] [] ⟨[(1, (.one (.d (.list (([0, 0, 5] : List Int).map (D.int .i64)))))), (2, (.one (.d (.list (([0, 5, 9] : List Int).map (D.int .i64))))))], []⟩ (by kernel_rfl) trivial ?_
    refine K_seq ?_
    obtain ⟨x1, hx1, H⟩ := bind_some' H
    refine K_reg [.r (.tup [(false, [.d (.list (x1.1.map (D.int .i64)))]), (false, [.d (.list (x1.2.1.map (D.int .i64)))]), (false, [.d (.int .i64 x1.2.2)])]) []] [evF X k n_envelope_Of [(.one (.d (.list (([0, 0, 5] : List Int).map (D.int .i64))))), (I 1), (I 3)] [] = some ((.tup [(false, [.d (.list (x1.1.map (D.int .i64)))]), (false, [.d (.list (x1.2.1.map (D.int .i64)))]), (false, [.d (.int .i64 x1.2.2)])]), [])] ⟨[(1, (.one (.d (.list (([0, 0, 5] : List Int).map (D.int .i64)))))), (2, (.one (.d (.list (([0, 5, 9] : List Int).map (D.int .i64)))))), (3, (.one (.d (.list (x1.1.map (D.int .i64)))))), (4, (.one (.d (.list (x1.2.1.map (D.int .i64)))))), (5, (I x1.2.2))], []⟩ (by kernel_rfl) (A1 (T_envelope_Of_ok k ([0, 0, 5] : List Int) 1 3 x1 hx1)) ?_
    refine K_seq ?_
    obtain ⟨x2, hx2, H⟩ := bind_some' H
    refine K_reg [.r (.tup [(false, [.d (.int .i64 x2.1)]), (false, [.d (.int .i64 x2.2)])]) []] [evF X k n_envelope_Keogh [(.one (.d (.list (([0, 0, 5] : List Int).map (D.int .i64))))), (.one (.d (.list (([0, 5, 9] : List Int).map (D.int .i64))))), (I 1)] [] = some ((.tup [(false, [.d (.int .i64 x2.1)]), (false, [.d (.int .i64 x2.2)])]), [])] ⟨[(1, (.one (.d (.list (([0, 0, 5] : List Int).map (D.int .i64)))))), (2, (.one (.d (.list (([0, 5, 9] : List Int).map (D.int .i64)))))), (3, (.one (.d (.list (x1.1.map (D.int .i64)))))), (4, (.one (.d (.list (x1.2.1.map (D.int .i64)))))), (5, (I x1.2.2)), (6, (I x2.1)), (7, (I x2.2))], []⟩ (by kernel_rfl) (A1 (T_envelope_Keogh_ok k ([0, 0, 5] : List Int) ([0, 5, 9] : List Int) 1 x2 hx2)) ?_
    refine K_seq ?_
    obtain ⟨x3, hx3, H⟩ := bind_some' H
    refine K_reg [.r (.tup [(true, [.d (.int .i64 x3.1), .d (.int .i64 x3.2.1)]), (false, [.d (.int .i64 x3.2.2)])]) []] [evF X k n_envelope_Pieces [(.one (.d (.list (([0, 0, 5] : List Int).map (D.int .i64))))), (.one (.d (.list (([0, 5, 9] : List Int).map (D.int .i64))))), (I 1), (I 1)] [] = some ((.tup [(true, [.d (.int .i64 x3.1), .d (.int .i64 x3.2.1)]), (false, [.d (.int .i64 x3.2.2)])]), [])] ⟨[(3, (.one (.d (.list (x1.1.map (D.int .i64)))))), (4, (.one (.d (.list (x1.2.1.map (D.int .i64)))))), (5, (I x1.2.2)), (6, (I x2.1)), (7, (I x2.2)), (8, (.one (.ptr 0 0 0))), (9, (I x3.2.2))], [.cells [.d (.int .i64 x3.1), .d (.int .i64 x3.2.1)]]⟩ (by kernel_rfl) (A1 (T_envelope_Pieces_ok k ([0, 0, 5] : List Int) ([0, 5, 9] : List Int) 1 1 x3 hx3)) ?_
    refine K_seq ?_
    obtain ⟨x10, hx10, H⟩ := bind_some' H
    refine K_of ⟨[(0, (B x10))], []⟩ ?_ ?_
    · clear H; have H := hx10; clear hx10; refine K_in ?_
      rcases ite_some H with ⟨hx5, H⟩ | ⟨hx5, H⟩
      · obtain ⟨x6, hx6, H⟩ := bind_some' H
        rcases ite_some H with ⟨hx8, H⟩ | ⟨hx8, H⟩
        · obtain ⟨x9, hx9, H⟩ := bind_some' H
          refine K_reg [.b true, .r (B x6) [], .b true, .r (B x9) [], .m, .m, .m, .m] [decide (x1.2.2 = 0) = true, evF X k n_keep_Ints [(.one (.d (.list (x1.1.map (D.int .i64))))), (.one (.d (.list (([0, 5, 5] : List Int).map (D.int .i64)))))] [] = some ((B x6), []), x6 = true, evF X k n_keep_Ints [(.one (.d (.list (x1.2.1.map (D.int .i64))))), (.one (.d (.list (([0, 0, 0] : List Int).map (D.int .i64)))))] [] = some ((B x9), []), ([.cells [.d (.int .i64 x3.1), .d (.int .i64 x3.2.1)]] : Heap) = [.cells [.d (.int .i64 x3.1), .d (.int .i64 x3.2.1)]], ([.cells [.d (.int .i64 x3.1), .d (.int .i64 x3.2.1)]] : Heap) = [.cells [.d (.int .i64 x3.1), .d (.int .i64 x3.2.1)]], ([.cells [.d (.int .i64 x3.1), .d (.int .i64 x3.2.1)]] : Heap) = [.cells [.d (.int .i64 x3.1), .d (.int .i64 x3.2.1)]], ([.cells [.d (.int .i64 x3.1), .d (.int .i64 x3.2.1)]] : Heap) = [.cells [.d (.int .i64 x3.1), .d (.int .i64 x3.2.1)]]] ⟨[(0, (B ((((x9 && decide (x2.2 = 0)) && decide (x2.1 = 16)) && decide (x3.2.2 = 0)) && (decide (x3.1 = 16) && (decide (x3.2.1 = 3) && true)))))], []⟩ (by kernel_rfl) (AC (decide_eq_true hx5) (AC (T_keep_Ints_ok k x1.1 ([0, 5, 5] : List Int) x6 hx6) (AC hx8 (AC (T_keep_Ints_ok k x1.2.1 ([0, 0, 0] : List Int) x9 hx9) (AC rfl (AC rfl (AC rfl (A1 rfl)))))))) ?_
          cases H
          exact K_end rfl
        · refine K_reg [.b true, .r (B x6) [], .b false, .b false, .b false, .b false, .b false] [decide (x1.2.2 = 0) = true, evF X k n_keep_Ints [(.one (.d (.list (x1.1.map (D.int .i64))))), (.one (.d (.list (([0, 5, 5] : List Int).map (D.int .i64)))))] [] = some ((B x6), []), x6 = false, false = false, false = false, false = false, false = false] ⟨[(0, (B false))], []⟩ (by kernel_rfl) (AC (decide_eq_true hx5) (AC (T_keep_Ints_ok k x1.1 ([0, 5, 5] : List Int) x6 hx6) (AC (Bool.eq_false_iff.2 hx8) (AC rfl (AC rfl (AC rfl (A1 rfl))))))) ?_
          cases H
          exact K_end rfl
      · refine K_reg [.b false, .b false, .b false, .b false, .b false, .b false] [decide (x1.2.2 = 0) = false, false = false, false = false, false = false, false = false, false = false] ⟨[(0, (B false))], []⟩ (by kernel_rfl) (AC (decide_eq_false hx5) (AC rfl (AC rfl (AC rfl (AC rfl (A1 rfl)))))) ?_
        cases H
        exact K_end rfl
    refine K_gh ⟨[(0, (B x10))], []⟩ (by kernel_rfl) ?_
    cases H
    refine K_ret ?_
    kernel_rfl
def T_ref04_Sample (k : Nat) (p1 : Int) : Option Unit := match k with
  | 0 => none
  | k + 1 => some ()
theorem T_ref04_Sample_ok (k : Nat) (p1 : Int) (r : Unit) : T_ref04_Sample k p1 = some r → evF X k n_ref04_Sample [(I p1)] [] = some ((B (decide ((-1000) ≤ p1) && decide (p1 ≤ 1000))), []) := by
  intro H
  cases k with
  | zero => simp [T_ref04_Sample] at H
  | succ k =>
    simp only [T_ref04_Sample] at H
    refine F_in X_ref04_Sample rfl ?_
    refine K_seq ?_
    refine K_reg [] [] ⟨[(0, (I p1))], []⟩ (by kernel_rfl) trivial ?_
    refine K_seq ?_
    refine K_reg [.m] [([] : Heap) = []] ⟨[(2, (B (decide ((-1000) ≤ p1) && decide (p1 ≤ 1000))))], []⟩ (by kernel_rfl) (A1 rfl) ?_
    refine K_gh ⟨[(2, (B (decide ((-1000) ≤ p1) && decide (p1 ≤ 1000))))], []⟩ (by kernel_rfl) ?_
    cases H
    refine K_ret ?_
    kernel_rfl
def T_ref12_Samples_l1 (k : Nat) (p1 : List Int) (x2 : Int) (x8 : Int) : Option (Int ⊕ (Unit ⊕ Unit)) :=
  (if x8 < x2 then ((at? p1 x8).bind fun x10 => (T_ref04_Sample k x10).bind fun x11 => (if (!(decide ((-1000) ≤ x10) && decide (x10 ≤ 1000))) = true then some (.inr (.inr ())) else some (.inl (w64 (x8 + 1))))) else some (.inr (.inl ())))
theorem T_ref12_Samples_l1_ok (k : Nat) (p1 : List Int) (x2 : Int) : ∀ (x8 : Int) (x : Int ⊕ (Unit ⊕ Unit)), T_ref12_Samples_l1 k p1 x2 x8 = some x → evC X (evF X k) k 0 l_ref12_Samples_1 ⟨[(0, (.one (.d (.list (p1.map (D.int .i64)))))), (5, (I x2)), (6, (I x8))], []⟩ = some (outS (fun (s : Int) => ⟨[(0, (.one (.d (.list (p1.map (D.int .i64)))))), (5, (I x2)), (6, (I s))], []⟩) (fun (r : Unit ⊕ Unit) => Sum.elim (fun y => (.exit 0, ⟨[], []⟩)) (fun y => (.ret, ⟨[(2, (I 12))], []⟩)) r) x) := by
  intro x8 x H
  unfold T_ref12_Samples_l1 at H
  refine K_in ?_
  refine K_seq ?_
  refine K_reg [] [] ⟨[(0, (.one (.d (.list (p1.map (D.int .i64)))))), (5, (I x2)), (6, (I x8)), (7, (B (decide (x8 < x2))))], []⟩ (by kernel_rfl) trivial ?_
  refine K_seq ?_
  rcases ite_some H with ⟨hx9, H⟩ | ⟨hx9, H⟩
  · refine K_t rfl (decide_eq_true hx9) ?_
    refine K_gh ⟨[(0, (.one (.d (.list (p1.map (D.int .i64)))))), (5, (I x2)), (6, (I x8))], []⟩ (by kernel_rfl) ?_
    refine K_skip ?_
    refine K_seq ?_
    refine K_block ?_
    refine K_seq ?_
    refine K_reg [] [] ⟨[(0, (.one (.d (.list (p1.map (D.int .i64)))))), (3, (I x8)), (5, (I x2)), (6, (I x8))], []⟩ (by kernel_rfl) trivial ?_
    refine K_seq ?_
    obtain ⟨x10, hx10, H⟩ := bind_some' H
    obtain ⟨x11, hx11, H⟩ := bind_some' H
    refine K_reg [.l [.int .i64 x10], .r (B (decide ((-1000) ≤ x10) && decide (x10 ≤ 1000))) []] [(0 : Int) ≤ x8 ∧ x8 < (((p1.map (D.int .i64))).length : Int), ((p1.map (D.int .i64)).getD x8.toNat (.int .i64 0)).cells = [.int .i64 x10], evF X k n_ref04_Sample [(I x10)] [] = some ((B (decide ((-1000) ≤ x10) && decide (x10 ≤ 1000))), [])] ⟨[(0, (.one (.d (.list (p1.map (D.int .i64)))))), (5, (I x2)), (6, (I x8)), (14, (B (!(decide ((-1000) ≤ x10) && decide (x10 ≤ 1000)))))], []⟩ (by kernel_rfl) (AC (at_ok hx10 (D.int .i64) (.int .i64 0)).1 (AC (at_ok hx10 (D.int .i64) (.int .i64 0)).2 (A1 (T_ref04_Sample_ok k x10 x11 hx11)))) ?_
    rcases ite_some H with ⟨hx12, H⟩ | ⟨hx12, H⟩
    · refine K_t rfl hx12 ?_
      refine K_seq ?_
      refine K_reg [] [] ⟨[(2, (I 12))], []⟩ (by kernel_rfl) trivial ?_
      refine K_gh ⟨[(2, (I 12))], []⟩ (by kernel_rfl) ?_
      cases H
      exact K_ret rfl
    · refine K_f rfl (Bool.eq_false_iff.2 hx12) ?_
      refine K_gh ⟨[(0, (.one (.d (.list (p1.map (D.int .i64)))))), (5, (I x2)), (6, (I x8))], []⟩ (by kernel_rfl) ?_
      refine K_skip ?_
      refine K_blk ?_
      refine K_reg [] [] ⟨[(0, (.one (.d (.list (p1.map (D.int .i64)))))), (5, (I x2)), (6, (I (w64 (x8 + 1))))], []⟩ (by kernel_rfl) trivial ?_
      cases H
      exact K_end rfl
  · refine K_f rfl (decide_eq_false hx9) ?_
    refine K_gh ⟨[], []⟩ (by kernel_rfl) ?_
    cases H
    exact K_exit0 rfl rfl
def T_ref12_Samples (k : Nat) (p1 : List Int) : Option Int := match k with
  | 0 => none
  | k + 1 => ((loopT (T_ref12_Samples_l1 k p1 (p1.length : Int)) k 0).bind fun x13 => (match x13 with | .inl x14 => some 0 | .inr x15 => some 12))
theorem T_ref12_Samples_ok (k : Nat) (p1 : List Int) (r : Int) : T_ref12_Samples k p1 = some r → evF X k n_ref12_Samples [(.one (.d (.list (p1.map (D.int .i64)))))] [] = some ((I r), []) := by
  intro H
  cases k with
  | zero => simp [T_ref12_Samples] at H
  | succ k =>
    simp only [T_ref12_Samples] at H
    refine F_in X_ref12_Samples rfl ?_
    refine K_seq ?_
    refine K_reg [] [] ⟨[(0, (.one (.d (.list (p1.map (D.int .i64))))))], []⟩ (by kernel_rfl) trivial ?_
    refine K_seq ?_
    refine K_seq ?_
    refine K_reg [.n p1.length] [((p1.map (D.int .i64))).length = p1.length] ⟨[(0, (.one (.d (.list (p1.map (D.int .i64)))))), (5, (I (p1.length : Int))), (6, (I 0))], []⟩ (by kernel_rfl) (A1 (List.length_map _)) ?_
    refine K_block ?_
    obtain ⟨x13, hx13, H⟩ := bind_some' H
    cases x13 with
    | inl x14 =>
      dsimp only at H
      refine K_loop ⟨[], []⟩ (loop_ok (fun (s : Int) => ⟨[(0, (.one (.d (.list (p1.map (D.int .i64)))))), (5, (I (p1.length : Int))), (6, (I s))], []⟩) (fun (r : Unit ⊕ Unit) => Sum.elim (fun y => (.exit 0, ⟨[], []⟩)) (fun y => (.ret, ⟨[(2, (I 12))], []⟩)) r) (fun r h => by cases r <;> cases h) (T_ref12_Samples_l1_ok k p1 (p1.length : Int)) k 0 (.inl x14) hx13) rfl ?_
      refine K_seq ?_
      refine K_reg [] [] ⟨[(2, (I 0))], []⟩ (by kernel_rfl) trivial ?_
      refine K_gh ⟨[(2, (I 0))], []⟩ (by kernel_rfl) ?_
      cases H
      refine K_ret ?_
      kernel_rfl
    | inr x15 =>
      dsimp only at H
      cases H
      refine K_loopr ⟨[(2, (I 12))], []⟩ (loop_ok (fun (s : Int) => ⟨[(0, (.one (.d (.list (p1.map (D.int .i64)))))), (5, (I (p1.length : Int))), (6, (I s))], []⟩) (fun (r : Unit ⊕ Unit) => Sum.elim (fun y => (.exit 0, ⟨[], []⟩)) (fun y => (.ret, ⟨[(2, (I 12))], []⟩)) r) (fun r h => by cases r <;> cases h) (T_ref12_Samples_l1_ok k p1 (p1.length : Int)) k 0 (.inr x15) hx13) ?_
      kernel_rfl
def T_ref12_Two (k : Nat) (p1 : List Int) (p2 : List Int) (p3 : Int) : Option Int := match k with
  | 0 => none
  | k + 1 => (if (((decide ((p1.length : Int) < 2) || decide (32 < (p1.length : Int))) || decide ((p2.length : Int) < 2)) || decide (32 < (p2.length : Int))) = true then some 8 else ((((T_ref12_Samples k p1).bind fun x2 => (if (!decide (x2 = 0)) = true then some true else ((T_ref12_Samples k p2).bind fun x5 => some (!decide (x5 = 0)))))).bind fun x6 => (if x6 = true then some 12 else (if (decide (p3 < (w64 ((p1.length : Int) - (p2.length : Int)))) || decide (p3 < (w64 ((p2.length : Int) - (p1.length : Int))))) = true then some 8 else some 0))))
theorem T_ref12_Two_ok (k : Nat) (p1 : List Int) (p2 : List Int) (p3 : Int) (r : Int) : T_ref12_Two k p1 p2 p3 = some r → evF X k n_ref12_Two [(.one (.d (.list (p1.map (D.int .i64))))), (.one (.d (.list (p2.map (D.int .i64))))), (I p3)] [] = some ((I r), []) := by
  intro H
  cases k with
  | zero => simp [T_ref12_Two] at H
  | succ k =>
    simp only [T_ref12_Two] at H
    refine F_in X_ref12_Two rfl ?_
    refine K_seq ?_
    refine K_reg [] [] ⟨[(0, (.one (.d (.list (p1.map (D.int .i64)))))), (1, (.one (.d (.list (p2.map (D.int .i64)))))), (2, (I p3))], []⟩ (by kernel_rfl) trivial ?_
    refine K_seq ?_
    refine K_seq ?_
    refine K_reg [.n p1.length, .m, .n p1.length, .m, .n p2.length, .m, .n p2.length] [((p1.map (D.int .i64))).length = p1.length, decide ((p1.length : Int) < 2) = false → AllT [((p1.map (D.int .i64))).length = p1.length], ([] : Heap) = [], (decide ((p1.length : Int) < 2) || decide (32 < (p1.length : Int))) = false → AllT [((p2.map (D.int .i64))).length = p2.length], ([] : Heap) = [], ((decide ((p1.length : Int) < 2) || decide (32 < (p1.length : Int))) || decide ((p2.length : Int) < 2)) = false → AllT [((p2.map (D.int .i64))).length = p2.length], ([] : Heap) = []] ⟨[(0, (.one (.d (.list (p1.map (D.int .i64)))))), (1, (.one (.d (.list (p2.map (D.int .i64)))))), (2, (I p3)), (24, (B (((decide ((p1.length : Int) < 2) || decide (32 < (p1.length : Int))) || decide ((p2.length : Int) < 2)) || decide (32 < (p2.length : Int)))))], []⟩ (by kernel_rfl) (AC (List.length_map _) (AC (fun _ => (A1 (List.length_map _))) (AC rfl (AC (fun _ => (A1 (List.length_map _))) (AC rfl (AC (fun _ => (A1 (List.length_map _))) (A1 rfl))))))) ?_
    rcases ite_some H with ⟨hx1, H⟩ | ⟨hx1, H⟩
    · refine K_t rfl hx1 ?_
      refine K_seq ?_
      refine K_reg [] [] ⟨[(6, (I 8))], []⟩ (by kernel_rfl) trivial ?_
      refine K_gh ⟨[(6, (I 8))], []⟩ (by kernel_rfl) ?_
      cases H
      refine K_ret ?_
      kernel_rfl
    · refine K_f rfl (Bool.eq_false_iff.2 hx1) ?_
      refine K_gh ⟨[(0, (.one (.d (.list (p1.map (D.int .i64)))))), (1, (.one (.d (.list (p2.map (D.int .i64)))))), (2, (I p3))], []⟩ (by kernel_rfl) ?_
      refine K_skip ?_
      refine K_seq ?_
      refine K_seq ?_
      obtain ⟨x6, hx6, H⟩ := bind_some' H
      refine K_of ⟨[(0, (.one (.d (.list (p1.map (D.int .i64)))))), (1, (.one (.d (.list (p2.map (D.int .i64)))))), (2, (I p3)), (32, (B x6))], []⟩ ?_ ?_
      · clear H; have H := hx6; clear hx6; refine K_in ?_
        obtain ⟨x2, hx2, H⟩ := bind_some' H
        rcases ite_some H with ⟨hx4, H⟩ | ⟨hx4, H⟩
        · refine K_reg [.r (I x2) [], .b true] [evF X k n_ref12_Samples [(.one (.d (.list (p1.map (D.int .i64)))))] [] = some ((I x2), []), (!decide (x2 = 0)) = true] ⟨[(0, (.one (.d (.list (p1.map (D.int .i64)))))), (1, (.one (.d (.list (p2.map (D.int .i64)))))), (2, (I p3)), (32, (B true))], []⟩ (by kernel_rfl) (AC (T_ref12_Samples_ok k p1 x2 hx2) (A1 hx4)) ?_
          cases H
          exact K_end rfl
        · obtain ⟨x5, hx5, H⟩ := bind_some' H
          refine K_reg [.r (I x2) [], .b false, .r (I x5) []] [evF X k n_ref12_Samples [(.one (.d (.list (p1.map (D.int .i64)))))] [] = some ((I x2), []), (!decide (x2 = 0)) = false, evF X k n_ref12_Samples [(.one (.d (.list (p2.map (D.int .i64)))))] [] = some ((I x5), [])] ⟨[(0, (.one (.d (.list (p1.map (D.int .i64)))))), (1, (.one (.d (.list (p2.map (D.int .i64)))))), (2, (I p3)), (32, (B (!decide (x5 = 0))))], []⟩ (by kernel_rfl) (AC (T_ref12_Samples_ok k p1 x2 hx2) (AC (Bool.eq_false_iff.2 hx4) (A1 (T_ref12_Samples_ok k p2 x5 hx5)))) ?_
          cases H
          exact K_end rfl
      rcases ite_some H with ⟨hx7, H⟩ | ⟨hx7, H⟩
      · refine K_t rfl hx7 ?_
        refine K_seq ?_
        refine K_reg [] [] ⟨[(6, (I 12))], []⟩ (by kernel_rfl) trivial ?_
        refine K_gh ⟨[(6, (I 12))], []⟩ (by kernel_rfl) ?_
        cases H
        refine K_ret ?_
        kernel_rfl
      · refine K_f rfl (Bool.eq_false_iff.2 hx7) ?_
        refine K_gh ⟨[(0, (.one (.d (.list (p1.map (D.int .i64)))))), (1, (.one (.d (.list (p2.map (D.int .i64)))))), (2, (I p3))], []⟩ (by kernel_rfl) ?_
        refine K_skip ?_
        refine K_seq ?_
        refine K_seq ?_
        refine K_reg [.n p1.length, .n p2.length, .m, .n p2.length, .n p1.length] [((p1.map (D.int .i64))).length = p1.length, ((p2.map (D.int .i64))).length = p2.length, decide (p3 < (w64 ((p1.length : Int) - (p2.length : Int)))) = false → AllT [((p2.map (D.int .i64))).length = p2.length, ((p1.map (D.int .i64))).length = p1.length], ([] : Heap) = []] ⟨[(48, (B (decide (p3 < (w64 ((p1.length : Int) - (p2.length : Int)))) || decide (p3 < (w64 ((p2.length : Int) - (p1.length : Int)))))))], []⟩ (by kernel_rfl) (AC (List.length_map _) (AC (List.length_map _) (AC (fun _ => (AC (List.length_map _) (A1 (List.length_map _)))) (A1 rfl)))) ?_
        rcases ite_some H with ⟨hx8, H⟩ | ⟨hx8, H⟩
        · refine K_t rfl hx8 ?_
          refine K_seq ?_
          refine K_reg [] [] ⟨[(6, (I 8))], []⟩ (by kernel_rfl) trivial ?_
          refine K_gh ⟨[(6, (I 8))], []⟩ (by kernel_rfl) ?_
          cases H
          refine K_ret ?_
          kernel_rfl
        · refine K_f rfl (Bool.eq_false_iff.2 hx8) ?_
          refine K_gh ⟨[], []⟩ (by kernel_rfl) ?_
          refine K_skip ?_
          refine K_seq ?_
          refine K_reg [] [] ⟨[(6, (I 0))], []⟩ (by kernel_rfl) trivial ?_
          refine K_gh ⟨[(6, (I 0))], []⟩ (by kernel_rfl) ?_
          cases H
          refine K_ret ?_
          kernel_rfl
def T_ref12_sums_l1 (k : Nat) (p1 : List Int) (p2 : List Int) (x5 : Int) (x10 : Int × Int × Int) : Option ((Int × Int × Int) ⊕ ((Int × Int))) :=
  (if x10.2.2 < x5 then ((at? p1 x10.2.2).bind fun x12 => (at? p2 x10.2.2).bind fun x13 => some (.inl ((w64 ((w64 (x10.1 + x12)) - x13)), (w64 (x10.2.1 + (w64 ((w64 (x12 - x13)) * (w64 (x12 - x13)))))), (w64 (x10.2.2 + 1))))) else some (.inr (x10.1, x10.2.1)))
theorem T_ref12_sums_l1_ok (k : Nat) (p1 : List Int) (p2 : List Int) (x5 : Int) : ∀ (x10 : Int × Int × Int) (x : (Int × Int × Int) ⊕ ((Int × Int))), T_ref12_sums_l1 k p1 p2 x5 x10 = some x → evC X (evF X k) k 0 l_ref12_sums_1 ⟨[(0, (.one (.d (.list (p1.map (D.int .i64)))))), (1, (.one (.d (.list (p2.map (D.int .i64)))))), (6, (I x10.1)), (7, (I x10.2.1)), (10, (I x5)), (11, (I x10.2.2))], []⟩ = some (outS (fun (s : Int × Int × Int) => ⟨[(0, (.one (.d (.list (p1.map (D.int .i64)))))), (1, (.one (.d (.list (p2.map (D.int .i64)))))), (6, (I s.1)), (7, (I s.2.1)), (10, (I x5)), (11, (I s.2.2))], []⟩) (fun (r : (Int × Int)) => (.exit 0, ⟨[(6, (I r.1)), (7, (I r.2))], []⟩)) x) := by
  intro x10 x H
  unfold T_ref12_sums_l1 at H
  refine K_in ?_
  refine K_seq ?_
  refine K_reg [] [] ⟨[(0, (.one (.d (.list (p1.map (D.int .i64)))))), (1, (.one (.d (.list (p2.map (D.int .i64)))))), (6, (I x10.1)), (7, (I x10.2.1)), (10, (I x5)), (11, (I x10.2.2)), (12, (B (decide (x10.2.2 < x5))))], []⟩ (by kernel_rfl) trivial ?_
  refine K_seq ?_
  rcases ite_some H with ⟨hx11, H⟩ | ⟨hx11, H⟩
  · refine K_t rfl (decide_eq_true hx11) ?_
    refine K_gh ⟨[(0, (.one (.d (.list (p1.map (D.int .i64)))))), (1, (.one (.d (.list (p2.map (D.int .i64)))))), (6, (I x10.1)), (7, (I x10.2.1)), (10, (I x5)), (11, (I x10.2.2))], []⟩ (by kernel_rfl) ?_
    refine K_skip ?_
    refine K_seq ?_
    refine K_block ?_
    refine K_seq ?_
    refine K_reg [] [] ⟨[(0, (.one (.d (.list (p1.map (D.int .i64)))))), (1, (.one (.d (.list (p2.map (D.int .i64)))))), (6, (I x10.1)), (7, (I x10.2.1)), (8, (I x10.2.2)), (10, (I x5)), (11, (I x10.2.2))], []⟩ (by kernel_rfl) trivial ?_
    obtain ⟨x12, hx12, H⟩ := bind_some' H
    obtain ⟨x13, hx13, H⟩ := bind_some' H
    refine K_reg [.l [.int .i64 x12], .l [.int .i64 x13], .l [.int .i64 x12], .l [.int .i64 x13], .l [.int .i64 x12], .l [.int .i64 x13]] [(0 : Int) ≤ x10.2.2 ∧ x10.2.2 < (((p1.map (D.int .i64))).length : Int), ((p1.map (D.int .i64)).getD x10.2.2.toNat (.int .i64 0)).cells = [.int .i64 x12], (0 : Int) ≤ x10.2.2 ∧ x10.2.2 < (((p2.map (D.int .i64))).length : Int), ((p2.map (D.int .i64)).getD x10.2.2.toNat (.int .i64 0)).cells = [.int .i64 x13], (0 : Int) ≤ x10.2.2 ∧ x10.2.2 < (((p1.map (D.int .i64))).length : Int), ((p1.map (D.int .i64)).getD x10.2.2.toNat (.int .i64 0)).cells = [.int .i64 x12], (0 : Int) ≤ x10.2.2 ∧ x10.2.2 < (((p2.map (D.int .i64))).length : Int), ((p2.map (D.int .i64)).getD x10.2.2.toNat (.int .i64 0)).cells = [.int .i64 x13], (0 : Int) ≤ x10.2.2 ∧ x10.2.2 < (((p1.map (D.int .i64))).length : Int), ((p1.map (D.int .i64)).getD x10.2.2.toNat (.int .i64 0)).cells = [.int .i64 x12], (0 : Int) ≤ x10.2.2 ∧ x10.2.2 < (((p2.map (D.int .i64))).length : Int), ((p2.map (D.int .i64)).getD x10.2.2.toNat (.int .i64 0)).cells = [.int .i64 x13]] ⟨[(0, (.one (.d (.list (p1.map (D.int .i64)))))), (1, (.one (.d (.list (p2.map (D.int .i64)))))), (6, (I (w64 ((w64 (x10.1 + x12)) - x13)))), (7, (I (w64 (x10.2.1 + (w64 ((w64 (x12 - x13)) * (w64 (x12 - x13)))))))), (10, (I x5)), (11, (I x10.2.2))], []⟩ (by kernel_rfl) (AC (at_ok hx12 (D.int .i64) (.int .i64 0)).1 (AC (at_ok hx12 (D.int .i64) (.int .i64 0)).2 (AC (at_ok hx13 (D.int .i64) (.int .i64 0)).1 (AC (at_ok hx13 (D.int .i64) (.int .i64 0)).2 (AC (at_ok hx12 (D.int .i64) (.int .i64 0)).1 (AC (at_ok hx12 (D.int .i64) (.int .i64 0)).2 (AC (at_ok hx13 (D.int .i64) (.int .i64 0)).1 (AC (at_ok hx13 (D.int .i64) (.int .i64 0)).2 (AC (at_ok hx12 (D.int .i64) (.int .i64 0)).1 (AC (at_ok hx12 (D.int .i64) (.int .i64 0)).2 (AC (at_ok hx13 (D.int .i64) (.int .i64 0)).1 (A1 (at_ok hx13 (D.int .i64) (.int .i64 0)).2)))))))))))) ?_
    refine K_blk ?_
    refine K_reg [] [] ⟨[(0, (.one (.d (.list (p1.map (D.int .i64)))))), (1, (.one (.d (.list (p2.map (D.int .i64)))))), (6, (I (w64 ((w64 (x10.1 + x12)) - x13)))), (7, (I (w64 (x10.2.1 + (w64 ((w64 (x12 - x13)) * (w64 (x12 - x13)))))))), (10, (I x5)), (11, (I (w64 (x10.2.2 + 1))))], []⟩ (by kernel_rfl) trivial ?_
    cases H
    exact K_end rfl
  · refine K_f rfl (decide_eq_false hx11) ?_
    refine K_gh ⟨[(6, (I x10.1)), (7, (I x10.2.1))], []⟩ (by kernel_rfl) ?_
    cases H
    exact K_exit0 rfl rfl
def T_ref12_sums (k : Nat) (p1 : List Int) (p2 : List Int) : Option (Int × Int) := match k with
  | 0 => none
  | k + 1 => ((loopT (T_ref12_sums_l1 k p1 p2 (p1.length : Int)) k (0, 0, 0)).bind fun x14 => some (x14.1, x14.2))
theorem T_ref12_sums_ok (k : Nat) (p1 : List Int) (p2 : List Int) (r : Int × Int) : T_ref12_sums k p1 p2 = some r → evF X k n_ref12_sums [(.one (.d (.list (p1.map (D.int .i64))))), (.one (.d (.list (p2.map (D.int .i64)))))] [] = some ((.tup [(false, [.d (.int .i64 r.1)]), (false, [.d (.int .i64 r.2)])]), []) := by
  intro H
  cases k with
  | zero => simp [T_ref12_sums] at H
  | succ k =>
    simp only [T_ref12_sums] at H
    refine F_in X_ref12_sums rfl ?_
    refine K_seq ?_
    refine K_reg [] [] ⟨[(0, (.one (.d (.list (p1.map (D.int .i64)))))), (1, (.one (.d (.list (p2.map (D.int .i64))))))], []⟩ (by kernel_rfl) trivial ?_
    refine K_seq ?_
    refine K_reg [] [] ⟨[(0, (.one (.d (.list (p1.map (D.int .i64)))))), (1, (.one (.d (.list (p2.map (D.int .i64)))))), (6, (I 0)), (7, (I 0))], []⟩ (by kernel_rfl) trivial ?_
    refine K_seq ?_
    refine K_seq ?_
    refine K_reg [.n p1.length] [((p1.map (D.int .i64))).length = p1.length] ⟨[(0, (.one (.d (.list (p1.map (D.int .i64)))))), (1, (.one (.d (.list (p2.map (D.int .i64)))))), (6, (I 0)), (7, (I 0)), (10, (I (p1.length : Int))), (11, (I 0))], []⟩ (by kernel_rfl) (A1 (List.length_map _)) ?_
    refine K_block ?_
    obtain ⟨x14, hx14, H⟩ := bind_some' H
    refine K_loop ⟨[(6, (I x14.1)), (7, (I x14.2))], []⟩ (loop_ok (fun (s : Int × Int × Int) => ⟨[(0, (.one (.d (.list (p1.map (D.int .i64)))))), (1, (.one (.d (.list (p2.map (D.int .i64)))))), (6, (I s.1)), (7, (I s.2.1)), (10, (I (p1.length : Int))), (11, (I s.2.2))], []⟩) (fun (r : (Int × Int)) => (.exit 0, ⟨[(6, (I r.1)), (7, (I r.2))], []⟩)) (fun r h => by cases h) (T_ref12_sums_l1_ok k p1 p2 (p1.length : Int)) k (0, 0, 0) x14 hx14) rfl ?_
    refine K_seq ?_
    refine K_reg [] [] ⟨[(4, (I x14.1)), (5, (I x14.2))], []⟩ (by kernel_rfl) trivial ?_
    refine K_gh ⟨[(4, (I x14.1)), (5, (I x14.2))], []⟩ (by kernel_rfl) ?_
    cases H
    refine K_ret ?_
    kernel_rfl
def T_ref12_Distance (k : Nat) (p1 : List Int) (p2 : List Int) : Option (Int × Int) := match k with
  | 0 => none
  | k + 1 => ((T_ref12_Two k p1 p2 0).bind fun x1 => (if (!decide (x1 = 0)) = true then some (0, x1) else ((T_ref12_sums k p1 p2).bind fun x3 => some (x3.2, 0))))
theorem T_ref12_Distance_ok (k : Nat) (p1 : List Int) (p2 : List Int) (r : Int × Int) : T_ref12_Distance k p1 p2 = some r → evF X k n_ref12_Distance [(.one (.d (.list (p1.map (D.int .i64))))), (.one (.d (.list (p2.map (D.int .i64)))))] [] = some ((.tup [(false, [.d (.int .i64 r.1)]), (false, [.d (.int .i64 r.2)])]), []) := by
  intro H
  cases k with
  | zero => simp [T_ref12_Distance] at H
  | succ k =>
    simp only [T_ref12_Distance] at H
    refine F_in X_ref12_Distance rfl ?_
    refine K_seq ?_
    refine K_reg [] [] ⟨[(0, (.one (.d (.list (p1.map (D.int .i64)))))), (1, (.one (.d (.list (p2.map (D.int .i64))))))], []⟩ (by kernel_rfl) trivial ?_
    refine K_seq ?_
    refine K_seq ?_
    obtain ⟨x1, hx1, H⟩ := bind_some' H
    refine K_reg [.r (I x1) []] [evF X k n_ref12_Two [(.one (.d (.list (p1.map (D.int .i64))))), (.one (.d (.list (p2.map (D.int .i64))))), (I 0)] [] = some ((I x1), [])] ⟨[(0, (.one (.d (.list (p1.map (D.int .i64)))))), (1, (.one (.d (.list (p2.map (D.int .i64)))))), (6, (I x1))], []⟩ (by kernel_rfl) (A1 (T_ref12_Two_ok k p1 p2 0 x1 hx1)) ?_
    refine K_seq ?_
    refine K_reg [] [] ⟨[(0, (.one (.d (.list (p1.map (D.int .i64)))))), (1, (.one (.d (.list (p2.map (D.int .i64)))))), (6, (I x1)), (13, (B (!decide (x1 = 0))))], []⟩ (by kernel_rfl) trivial ?_
    rcases ite_some H with ⟨hx2, H⟩ | ⟨hx2, H⟩
    · refine K_t rfl hx2 ?_
      refine K_seq ?_
      refine K_reg [] [] ⟨[(4, (I 0)), (5, (I x1))], []⟩ (by kernel_rfl) trivial ?_
      refine K_gh ⟨[(4, (I 0)), (5, (I x1))], []⟩ (by kernel_rfl) ?_
      cases H
      refine K_ret ?_
      kernel_rfl
    · refine K_f rfl (Bool.eq_false_iff.2 hx2) ?_
      refine K_gh ⟨[(0, (.one (.d (.list (p1.map (D.int .i64)))))), (1, (.one (.d (.list (p2.map (D.int .i64))))))], []⟩ (by kernel_rfl) ?_
      refine K_skip ?_
      refine K_seq ?_
      obtain ⟨x3, hx3, H⟩ := bind_some' H
      refine K_reg [.r (.tup [(false, [.d (.int .i64 x3.1)]), (false, [.d (.int .i64 x3.2)])]) []] [evF X k n_ref12_sums [(.one (.d (.list (p1.map (D.int .i64))))), (.one (.d (.list (p2.map (D.int .i64)))))] [] = some ((.tup [(false, [.d (.int .i64 x3.1)]), (false, [.d (.int .i64 x3.2)])]), [])] ⟨[(8, (I x3.2))], []⟩ (by kernel_rfl) (A1 (T_ref12_sums_ok k p1 p2 x3 hx3)) ?_
      refine K_seq ?_
      refine K_reg [] [] ⟨[(4, (I x3.2)), (5, (I 0))], []⟩ (by kernel_rfl) trivial ?_
      refine K_gh ⟨[(4, (I x3.2)), (5, (I 0))], []⟩ (by kernel_rfl) ?_
      cases H
      refine K_ret ?_
      kernel_rfl
def T_ref18_Starts_l1 (k : Nat) (p1 : Int) (p2 : Int) (x11 : Nat × Int × (List Int)) : Option ((Nat × Int × (List Int)) ⊕ ((Nat × (List Int)))) :=
  (if x11.2.1 ≤ p2 then (if p2 ≠ 0 then (if x11.1 + 1 ≤ LIM then some (.inl ((x11.1 + 1), (w64 (x11.2.1 + 1)), ((x11.2.2.drop 0).take x11.1 ++ ([(w64 ((w64 (x11.2.1 * p1)).tdiv p2))] : List Int)))) else none) else none) else some (.inr (x11.1, x11.2.2)))
theorem T_ref18_Starts_l1_ok (k : Nat) (p1 : Int) (p2 : Int) : ∀ (x11 : Nat × Int × (List Int)) (x : (Nat × Int × (List Int)) ⊕ ((Nat × (List Int)))), T_ref18_Starts_l1 k p1 p2 x11 = some x → evC X (evF X k) k 0 l_ref18_Starts_1 ⟨[(0, (I p1)), (1, (I p2)), (6, (.one (.own 0 0 x11.1))), (7, (I x11.2.1))], [.vals (.int .i64 0) (x11.2.2.map (D.int .i64))]⟩ = some (outS (fun (s : Nat × Int × (List Int)) => ⟨[(0, (I p1)), (1, (I p2)), (6, (.one (.own 0 0 s.1))), (7, (I s.2.1))], [.vals (.int .i64 0) (s.2.2.map (D.int .i64))]⟩) (fun (r : (Nat × (List Int))) => (.exit 0, ⟨[(6, (.one (.own 0 0 r.1)))], [.vals (.int .i64 0) (r.2.map (D.int .i64))]⟩)) x) := by
  intro x11 x H
  unfold T_ref18_Starts_l1 at H
  refine K_in ?_
  refine K_seq ?_
  refine K_seq ?_
  refine K_reg [] [] ⟨[(0, (I p1)), (1, (I p2)), (6, (.one (.own 0 0 x11.1))), (7, (I x11.2.1)), (27, (B (decide (x11.2.1 ≤ p2))))], [.vals (.int .i64 0) (x11.2.2.map (D.int .i64))]⟩ (by kernel_rfl) trivial ?_
  rcases ite_some H with ⟨hx12, H⟩ | ⟨hx12, H⟩
  · refine K_t rfl (decide_eq_true hx12) ?_
    refine K_gh ⟨[(0, (I p1)), (1, (I p2)), (6, (.one (.own 0 0 x11.1))), (7, (I x11.2.1))], [.vals (.int .i64 0) (x11.2.2.map (D.int .i64))]⟩ (by kernel_rfl) ?_
    refine K_skip ?_
    refine K_seq ?_
    refine K_block ?_
    obtain ⟨hx13, H⟩ := guard_some H
    obtain ⟨hx14, H⟩ := guard_some H
    refine K_reg [.n 1, .l (((x11.2.2.drop 0).take x11.1 ++ ([(w64 ((w64 (x11.2.1 * p1)).tdiv p2))] : List Int)).map (D.int .i64))] [p2 ≠ (0 : Int), (List.all (([(w64 ((w64 (x11.2.1 * p1)).tdiv p2))] : List Int).map (D.int .i64)) fun d => d.cells.length == (D.cells (.int .i64 0)).length) = true, x11.1 + 1 ≤ LIM, (([(w64 ((w64 (x11.2.1 * p1)).tdiv p2))] : List Int).map (D.int .i64)).length = 1, ((x11.2.2.map (D.int .i64)).drop 0).take x11.1 ++ (([(w64 ((w64 (x11.2.1 * p1)).tdiv p2))] : List Int).map (D.int .i64)) = ((x11.2.2.drop 0).take x11.1 ++ ([(w64 ((w64 (x11.2.1 * p1)).tdiv p2))] : List Int)).map (D.int .i64)] ⟨[(0, (I p1)), (1, (I p2)), (6, (.one (.own 0 0 (x11.1 + 1)))), (7, (I x11.2.1))], [.vals (.int .i64 0) (((x11.2.2.drop 0).take x11.1 ++ ([(w64 ((w64 (x11.2.1 * p1)).tdiv p2))] : List Int)).map (D.int .i64))]⟩ (by kernel_rfl) (AC hx13 (AC (all_ok (D.int .i64) 1 ([(w64 ((w64 (x11.2.1 * p1)).tdiv p2))] : List Int) (fun _ => rfl)) (AC hx14 (AC (by simp) (A1 (ap_map (D.int .i64) x11.2.2 ([(w64 ((w64 (x11.2.1 * p1)).tdiv p2))] : List Int) 0 x11.1)))))) ?_
    refine K_blk ?_
    refine K_reg [] [] ⟨[(0, (I p1)), (1, (I p2)), (6, (.one (.own 0 0 (x11.1 + 1)))), (7, (I (w64 (x11.2.1 + 1))))], [.vals (.int .i64 0) (((x11.2.2.drop 0).take x11.1 ++ ([(w64 ((w64 (x11.2.1 * p1)).tdiv p2))] : List Int)).map (D.int .i64))]⟩ (by kernel_rfl) trivial ?_
    cases H
    exact K_end rfl
  · refine K_f rfl (decide_eq_false hx12) ?_
    refine K_gh ⟨[(6, (.one (.own 0 0 x11.1)))], [.vals (.int .i64 0) (x11.2.2.map (D.int .i64))]⟩ (by kernel_rfl) ?_
    cases H
    exact K_exit0 rfl rfl
def T_ref18_Starts (k : Nat) (p1 : Int) (p2 : Int) : Option ((List Int) × Int) := match k with
  | 0 => none
  | k + 1 => (if (decide (p1 < 2) || decide (32 < p1)) = true then some ([], 8) else (if ((decide (p2 < 1) || decide (8 < p2)) || decide (p1 < p2)) = true then some ([], 1) else ((loopT (T_ref18_Starts_l1 k p1 p2) k (0, 0, [])).bind fun x15 => some (((x15.2.drop 0).take x15.1), 0))))
theorem T_ref18_Starts_ok (k : Nat) (p1 : Int) (p2 : Int) (r : (List Int) × Int) : T_ref18_Starts k p1 p2 = some r → evF X k n_ref18_Starts [(I p1), (I p2)] [] = some ((.tup [(false, [.d (.list (r.1.map (D.int .i64)))]), (false, [.d (.int .i64 r.2)])]), []) := by
  intro H
  cases k with
  | zero => simp [T_ref18_Starts] at H
  | succ k =>
    simp only [T_ref18_Starts] at H
    refine F_in X_ref18_Starts rfl ?_
    refine K_seq ?_
    refine K_reg [] [] ⟨[(0, (I p1)), (1, (I p2))], []⟩ (by kernel_rfl) trivial ?_
    refine K_seq ?_
    refine K_seq ?_
    refine K_reg [.m] [([] : Heap) = []] ⟨[(0, (I p1)), (1, (I p2)), (13, (B (decide (p1 < 2) || decide (32 < p1))))], []⟩ (by kernel_rfl) (A1 rfl) ?_
    rcases ite_some H with ⟨hx1, H⟩ | ⟨hx1, H⟩
    · refine K_t rfl hx1 ?_
      refine K_seq ?_
      refine K_reg [] [] ⟨[(4, (.one (.nil))), (5, (I 8))], []⟩ (by kernel_rfl) trivial ?_
      refine K_gh ⟨[(4, (.one (.nil))), (5, (I 8))], []⟩ (by kernel_rfl) ?_
      cases H
      refine K_ret ?_
      kernel_rfl
    · refine K_f rfl (Bool.eq_false_iff.2 hx1) ?_
      refine K_gh ⟨[(0, (I p1)), (1, (I p2))], []⟩ (by kernel_rfl) ?_
      refine K_skip ?_
      refine K_seq ?_
      refine K_seq ?_
      refine K_reg [.m, .m] [([] : Heap) = [], ([] : Heap) = []] ⟨[(0, (I p1)), (1, (I p2)), (24, (B ((decide (p2 < 1) || decide (8 < p2)) || decide (p1 < p2))))], []⟩ (by kernel_rfl) (AC rfl (A1 rfl)) ?_
      rcases ite_some H with ⟨hx2, H⟩ | ⟨hx2, H⟩
      · refine K_t rfl hx2 ?_
        refine K_seq ?_
        refine K_reg [] [] ⟨[(4, (.one (.nil))), (5, (I 1))], []⟩ (by kernel_rfl) trivial ?_
        refine K_gh ⟨[(4, (.one (.nil))), (5, (I 1))], []⟩ (by kernel_rfl) ?_
        cases H
        refine K_ret ?_
        kernel_rfl
      · refine K_f rfl (Bool.eq_false_iff.2 hx2) ?_
        refine K_gh ⟨[(0, (I p1)), (1, (I p2))], []⟩ (by kernel_rfl) ?_
        refine K_skip ?_
        refine K_seq ?_
        refine K_reg [] [] ⟨[(0, (I p1)), (1, (I p2)), (6, (.one (.nil)))], []⟩ (by kernel_rfl) trivial ?_
        refine K_seq ?_
        refine K_seq ?_
        refine K_reg [] [] ⟨[(0, (I p1)), (1, (I p2)), (6, (.one (.nil))), (7, (I 0))], []⟩ (by kernel_rfl) trivial ?_
        refine K_block ?_
        refine K_gh ⟨[(0, (I p1)), (1, (I p2)), (6, (.one (.own 0 0 0))), (7, (I 0))], [.vals (.int .i64 0) ([].map (D.int .i64))]⟩ (by kernel_rfl) ?_
        obtain ⟨x15, hx15, H⟩ := bind_some' H
        refine K_loop ⟨[(6, (.one (.own 0 0 x15.1)))], [.vals (.int .i64 0) (x15.2.map (D.int .i64))]⟩ (loop_ok (fun (s : Nat × Int × (List Int)) => ⟨[(0, (I p1)), (1, (I p2)), (6, (.one (.own 0 0 s.1))), (7, (I s.2.1))], [.vals (.int .i64 0) (s.2.2.map (D.int .i64))]⟩) (fun (r : (Nat × (List Int))) => (.exit 0, ⟨[(6, (.one (.own 0 0 r.1)))], [.vals (.int .i64 0) (r.2.map (D.int .i64))]⟩)) (fun r h => by cases h) (T_ref18_Starts_l1_ok k p1 p2) k (0, 0, []) x15 hx15) rfl ?_
        refine K_seq ?_
        refine K_reg [] [] ⟨[(4, (.one (.own 0 0 x15.1))), (5, (I 0))], [.vals (.int .i64 0) (x15.2.map (D.int .i64))]⟩ (by kernel_rfl) trivial ?_
        refine K_gh ⟨[(4, (.one (.own 0 0 x15.1))), (5, (I 0))], [.vals (.int .i64 0) (x15.2.map (D.int .i64))]⟩ (by kernel_rfl) ?_
        cases H
        refine K_ret ?_
        exact Eq.trans (b := some ((.tup [(false, [.d (.list (((x15.2.map (D.int .i64)).drop 0).take x15.1))]), (false, [.d (.int .i64 0)])]), [])) (by kernel_rfl) (by simp only [dt_map])
def T_ref18_Fold_l1 (k : Nat) (p1 : List Int) (p2 : List Int) (x29 : Nat) (x30 : Int) (x33 : List Int) (x37 : Int × Int) : Option ((Int × Int) ⊕ Int) :=
  ((at? p2 x30).bind fun x38 => (if x37.2 < x38 then ((at? p1 x37.2).bind fun x40 => some (.inl ((w64 (x37.1 + x40)), (w64 (x37.2 + 1))))) else some (.inr x37.1)))
theorem T_ref18_Fold_l1_ok (k : Nat) (p1 : List Int) (p2 : List Int) (x29 : Nat) (x30 : Int) (x33 : List Int) : ∀ (x37 : Int × Int) (x : (Int × Int) ⊕ Int), T_ref18_Fold_l1 k p1 p2 x29 x30 x33 x37 = some x → evC X (evF X k) k 0 l_ref18_Fold_1 ⟨[(0, (.one (.d (.list (p1.map (D.int .i64)))))), (1, (.one (.d (.list (p2.map (D.int .i64)))))), (5, (.one (.own 0 0 x29))), (6, (I x30)), (7, (I x37.1)), (8, (I x37.2))], [.vals (.int .i64 0) (x33.map (D.int .i64))]⟩ = some (outS (fun (s : Int × Int) => ⟨[(0, (.one (.d (.list (p1.map (D.int .i64)))))), (1, (.one (.d (.list (p2.map (D.int .i64)))))), (5, (.one (.own 0 0 x29))), (6, (I x30)), (7, (I s.1)), (8, (I s.2))], [.vals (.int .i64 0) (x33.map (D.int .i64))]⟩) (fun (r : Int) => (.exit 2, ⟨[(0, (.one (.d (.list (p1.map (D.int .i64)))))), (1, (.one (.d (.list (p2.map (D.int .i64)))))), (5, (.one (.own 0 0 x29))), (6, (I x30)), (7, (I r))], [.vals (.int .i64 0) (x33.map (D.int .i64))]⟩)) x) := by
  intro x37 x H
  unfold T_ref18_Fold_l1 at H
  refine K_in ?_
  refine K_seq ?_
  refine K_seq ?_
  obtain ⟨x38, hx38, H⟩ := bind_some' H
  refine K_reg [.l [.int .i64 x38]] [(0 : Int) ≤ x30 ∧ x30 < (((p2.map (D.int .i64))).length : Int), ((p2.map (D.int .i64)).getD x30.toNat (.int .i64 0)).cells = [.int .i64 x38]] ⟨[(0, (.one (.d (.list (p1.map (D.int .i64)))))), (1, (.one (.d (.list (p2.map (D.int .i64)))))), (5, (.one (.own 0 0 x29))), (6, (I x30)), (7, (I x37.1)), (8, (I x37.2)), (25, (B (decide (x37.2 < x38))))], [.vals (.int .i64 0) (x33.map (D.int .i64))]⟩ (by kernel_rfl) (AC (at_ok hx38 (D.int .i64) (.int .i64 0)).1 (A1 (at_ok hx38 (D.int .i64) (.int .i64 0)).2)) ?_
  rcases ite_some H with ⟨hx39, H⟩ | ⟨hx39, H⟩
  · refine K_t rfl (decide_eq_true hx39) ?_
    refine K_gh ⟨[(0, (.one (.d (.list (p1.map (D.int .i64)))))), (1, (.one (.d (.list (p2.map (D.int .i64)))))), (5, (.one (.own 0 0 x29))), (6, (I x30)), (7, (I x37.1)), (8, (I x37.2))], [.vals (.int .i64 0) (x33.map (D.int .i64))]⟩ (by kernel_rfl) ?_
    refine K_skip ?_
    refine K_seq ?_
    refine K_block ?_
    obtain ⟨x40, hx40, H⟩ := bind_some' H
    refine K_reg [.l [.int .i64 x40]] [(0 : Int) ≤ x37.2 ∧ x37.2 < (((p1.map (D.int .i64))).length : Int), ((p1.map (D.int .i64)).getD x37.2.toNat (.int .i64 0)).cells = [.int .i64 x40]] ⟨[(0, (.one (.d (.list (p1.map (D.int .i64)))))), (1, (.one (.d (.list (p2.map (D.int .i64)))))), (5, (.one (.own 0 0 x29))), (6, (I x30)), (7, (I (w64 (x37.1 + x40)))), (8, (I x37.2))], [.vals (.int .i64 0) (x33.map (D.int .i64))]⟩ (by kernel_rfl) (AC (at_ok hx40 (D.int .i64) (.int .i64 0)).1 (A1 (at_ok hx40 (D.int .i64) (.int .i64 0)).2)) ?_
    refine K_blk ?_
    refine K_reg [] [] ⟨[(0, (.one (.d (.list (p1.map (D.int .i64)))))), (1, (.one (.d (.list (p2.map (D.int .i64)))))), (5, (.one (.own 0 0 x29))), (6, (I x30)), (7, (I (w64 (x37.1 + x40)))), (8, (I (w64 (x37.2 + 1))))], [.vals (.int .i64 0) (x33.map (D.int .i64))]⟩ (by kernel_rfl) trivial ?_
    cases H
    exact K_end rfl
  · refine K_f rfl (decide_eq_false hx39) ?_
    refine K_gh ⟨[(0, (.one (.d (.list (p1.map (D.int .i64)))))), (1, (.one (.d (.list (p2.map (D.int .i64)))))), (5, (.one (.own 0 0 x29))), (6, (I x30)), (7, (I x37.1))], [.vals (.int .i64 0) (x33.map (D.int .i64))]⟩ (by kernel_rfl) ?_
    cases H
    exact K_exit0 rfl rfl
def T_ref18_Fold_l2 (k : Nat) (p1 : List Int) (p2 : List Int) (x24 : Nat × Int × (List Int)) : Option ((Nat × Int × (List Int)) ⊕ ((Nat × (List Int)))) :=
  (if x24.2.1 < (p2.length : Int) then (at? p2 (w64 (x24.2.1 - 1))).bind fun x26 => (loopT (T_ref18_Fold_l1 k p1 p2 x24.1 x24.2.1 x24.2.2) k (0, x26)).bind fun x41 => (if x24.1 + 1 ≤ LIM then some (.inl ((x24.1 + 1), (w64 (x24.2.1 + 1)), ((x24.2.2.drop 0).take x24.1 ++ ([x41] : List Int)))) else none) else some (.inr (x24.1, x24.2.2)))
theorem T_ref18_Fold_l2_ok (k : Nat) (p1 : List Int) (p2 : List Int) : ∀ (x24 : Nat × Int × (List Int)) (x : (Nat × Int × (List Int)) ⊕ ((Nat × (List Int)))), T_ref18_Fold_l2 k p1 p2 x24 = some x → evC X (evF X k) k 0 l_ref18_Fold_2 ⟨[(0, (.one (.d (.list (p1.map (D.int .i64)))))), (1, (.one (.d (.list (p2.map (D.int .i64)))))), (5, (.one (.own 0 0 x24.1))), (6, (I x24.2.1))], [.vals (.int .i64 0) (x24.2.2.map (D.int .i64))]⟩ = some (outS (fun (s : Nat × Int × (List Int)) => ⟨[(0, (.one (.d (.list (p1.map (D.int .i64)))))), (1, (.one (.d (.list (p2.map (D.int .i64)))))), (5, (.one (.own 0 0 s.1))), (6, (I s.2.1))], [.vals (.int .i64 0) (s.2.2.map (D.int .i64))]⟩) (fun (r : (Nat × (List Int))) => (.exit 0, ⟨[(5, (.one (.own 0 0 r.1)))], [.vals (.int .i64 0) (r.2.map (D.int .i64))]⟩)) x) := by
  intro x24 x H
  unfold T_ref18_Fold_l2 at H
  refine K_in ?_
  refine K_seq ?_
  refine K_seq ?_
  refine K_reg [.n p2.length] [((p2.map (D.int .i64))).length = p2.length] ⟨[(0, (.one (.d (.list (p1.map (D.int .i64)))))), (1, (.one (.d (.list (p2.map (D.int .i64)))))), (5, (.one (.own 0 0 x24.1))), (6, (I x24.2.1)), (12, (B (decide (x24.2.1 < (p2.length : Int)))))], [.vals (.int .i64 0) (x24.2.2.map (D.int .i64))]⟩ (by kernel_rfl) (A1 (List.length_map _)) ?_
  rcases ite_some H with ⟨hx25, H⟩ | ⟨hx25, H⟩
  · refine K_t rfl (decide_eq_true hx25) ?_
    refine K_gh ⟨[(0, (.one (.d (.list (p1.map (D.int .i64)))))), (1, (.one (.d (.list (p2.map (D.int .i64)))))), (5, (.one (.own 0 0 x24.1))), (6, (I x24.2.1))], [.vals (.int .i64 0) (x24.2.2.map (D.int .i64))]⟩ (by kernel_rfl) ?_
    refine K_skip ?_
    refine K_seq ?_
    refine K_block ?_
    refine K_seq ?_
    refine K_reg [] [] ⟨[(0, (.one (.d (.list (p1.map (D.int .i64)))))), (1, (.one (.d (.list (p2.map (D.int .i64)))))), (5, (.one (.own 0 0 x24.1))), (6, (I x24.2.1)), (7, (I 0))], [.vals (.int .i64 0) (x24.2.2.map (D.int .i64))]⟩ (by kernel_rfl) trivial ?_
    refine K_seq ?_
    refine K_seq ?_
    obtain ⟨x26, hx26, H⟩ := bind_some' H
    refine K_reg [.l [.int .i64 x26]] [(0 : Int) ≤ (w64 (x24.2.1 - 1)) ∧ (w64 (x24.2.1 - 1)) < (((p2.map (D.int .i64))).length : Int), ((p2.map (D.int .i64)).getD (w64 (x24.2.1 - 1)).toNat (.int .i64 0)).cells = [.int .i64 x26]] ⟨[(0, (.one (.d (.list (p1.map (D.int .i64)))))), (1, (.one (.d (.list (p2.map (D.int .i64)))))), (5, (.one (.own 0 0 x24.1))), (6, (I x24.2.1)), (7, (I 0)), (8, (I x26))], [.vals (.int .i64 0) (x24.2.2.map (D.int .i64))]⟩ (by kernel_rfl) (AC (at_ok hx26 (D.int .i64) (.int .i64 0)).1 (A1 (at_ok hx26 (D.int .i64) (.int .i64 0)).2)) ?_
    refine K_block ?_
    obtain ⟨x41, hx41, H⟩ := bind_some' H
    refine K_loop ⟨[(0, (.one (.d (.list (p1.map (D.int .i64)))))), (1, (.one (.d (.list (p2.map (D.int .i64)))))), (5, (.one (.own 0 0 x24.1))), (6, (I x24.2.1)), (7, (I x41))], [.vals (.int .i64 0) (x24.2.2.map (D.int .i64))]⟩ (loop_ok (fun (s : Int × Int) => ⟨[(0, (.one (.d (.list (p1.map (D.int .i64)))))), (1, (.one (.d (.list (p2.map (D.int .i64)))))), (5, (.one (.own 0 0 x24.1))), (6, (I x24.2.1)), (7, (I s.1)), (8, (I s.2))], [.vals (.int .i64 0) (x24.2.2.map (D.int .i64))]⟩) (fun (r : Int) => (.exit 2, ⟨[(0, (.one (.d (.list (p1.map (D.int .i64)))))), (1, (.one (.d (.list (p2.map (D.int .i64)))))), (5, (.one (.own 0 0 x24.1))), (6, (I x24.2.1)), (7, (I r))], [.vals (.int .i64 0) (x24.2.2.map (D.int .i64))]⟩)) (fun r h => by cases h) (T_ref18_Fold_l1_ok k p1 p2 x24.1 x24.2.1 x24.2.2) k (0, x26) x41 hx41) rfl ?_
    obtain ⟨hx42, H⟩ := guard_some H
    refine K_reg [.n 1, .l (((x24.2.2.drop 0).take x24.1 ++ ([x41] : List Int)).map (D.int .i64))] [(List.all (([x41] : List Int).map (D.int .i64)) fun d => d.cells.length == (D.cells (.int .i64 0)).length) = true, x24.1 + 1 ≤ LIM, (([x41] : List Int).map (D.int .i64)).length = 1, ((x24.2.2.map (D.int .i64)).drop 0).take x24.1 ++ (([x41] : List Int).map (D.int .i64)) = ((x24.2.2.drop 0).take x24.1 ++ ([x41] : List Int)).map (D.int .i64)] ⟨[(0, (.one (.d (.list (p1.map (D.int .i64)))))), (1, (.one (.d (.list (p2.map (D.int .i64)))))), (5, (.one (.own 0 0 (x24.1 + 1)))), (6, (I x24.2.1))], [.vals (.int .i64 0) (((x24.2.2.drop 0).take x24.1 ++ ([x41] : List Int)).map (D.int .i64))]⟩ (by kernel_rfl) (AC (all_ok (D.int .i64) 1 ([x41] : List Int) (fun _ => rfl)) (AC hx42 (AC (by simp) (A1 (ap_map (D.int .i64) x24.2.2 ([x41] : List Int) 0 x24.1))))) ?_
    refine K_blk ?_
    refine K_reg [] [] ⟨[(0, (.one (.d (.list (p1.map (D.int .i64)))))), (1, (.one (.d (.list (p2.map (D.int .i64)))))), (5, (.one (.own 0 0 (x24.1 + 1)))), (6, (I (w64 (x24.2.1 + 1))))], [.vals (.int .i64 0) (((x24.2.2.drop 0).take x24.1 ++ ([x41] : List Int)).map (D.int .i64))]⟩ (by kernel_rfl) trivial ?_
    cases H
    exact K_end rfl
  · refine K_f rfl (decide_eq_false hx25) ?_
    refine K_gh ⟨[(5, (.one (.own 0 0 x24.1)))], [.vals (.int .i64 0) (x24.2.2.map (D.int .i64))]⟩ (by kernel_rfl) ?_
    cases H
    exact K_exit0 rfl rfl
def T_ref18_Fold (k : Nat) (p1 : List Int) (p2 : List Int) : Option ((List Int)) := match k with
  | 0 => none
  | k + 1 => ((loopT (T_ref18_Fold_l2 k p1 p2) k (0, 1, [])).bind fun x43 => some ((x43.2.drop 0).take x43.1))
theorem T_ref18_Fold_ok (k : Nat) (p1 : List Int) (p2 : List Int) (r : (List Int)) : T_ref18_Fold k p1 p2 = some r → evF X k n_ref18_Fold [(.one (.d (.list (p1.map (D.int .i64))))), (.one (.d (.list (p2.map (D.int .i64)))))] [] = some ((.one (.d (.list (r.map (D.int .i64))))), []) := by
  intro H
  cases k with
  | zero => simp [T_ref18_Fold] at H
  | succ k =>
    simp only [T_ref18_Fold] at H
    refine F_in X_ref18_Fold rfl ?_
    refine K_seq ?_
    refine K_reg [] [] ⟨[(0, (.one (.d (.list (p1.map (D.int .i64)))))), (1, (.one (.d (.list (p2.map (D.int .i64))))))], []⟩ (by kernel_rfl) trivial ?_
    refine K_seq ?_
    refine K_reg [] [] ⟨[(0, (.one (.d (.list (p1.map (D.int .i64)))))), (1, (.one (.d (.list (p2.map (D.int .i64)))))), (5, (.one (.nil)))], []⟩ (by kernel_rfl) trivial ?_
    refine K_seq ?_
    refine K_seq ?_
    refine K_reg [] [] ⟨[(0, (.one (.d (.list (p1.map (D.int .i64)))))), (1, (.one (.d (.list (p2.map (D.int .i64)))))), (5, (.one (.nil))), (6, (I 1))], []⟩ (by kernel_rfl) trivial ?_
    refine K_block ?_
    refine K_gh ⟨[(0, (.one (.d (.list (p1.map (D.int .i64)))))), (1, (.one (.d (.list (p2.map (D.int .i64)))))), (5, (.one (.own 0 0 0))), (6, (I 1))], [.vals (.int .i64 0) ([].map (D.int .i64))]⟩ (by kernel_rfl) ?_
    obtain ⟨x43, hx43, H⟩ := bind_some' H
    refine K_loop ⟨[(5, (.one (.own 0 0 x43.1)))], [.vals (.int .i64 0) (x43.2.map (D.int .i64))]⟩ (loop_ok (fun (s : Nat × Int × (List Int)) => ⟨[(0, (.one (.d (.list (p1.map (D.int .i64)))))), (1, (.one (.d (.list (p2.map (D.int .i64)))))), (5, (.one (.own 0 0 s.1))), (6, (I s.2.1))], [.vals (.int .i64 0) (s.2.2.map (D.int .i64))]⟩) (fun (r : (Nat × (List Int))) => (.exit 0, ⟨[(5, (.one (.own 0 0 r.1)))], [.vals (.int .i64 0) (r.2.map (D.int .i64))]⟩)) (fun r h => by cases h) (T_ref18_Fold_l2_ok k p1 p2) k (0, 1, []) x43 hx43) rfl ?_
    refine K_seq ?_
    refine K_reg [] [] ⟨[(4, (.one (.own 0 0 x43.1)))], [.vals (.int .i64 0) (x43.2.map (D.int .i64))]⟩ (by kernel_rfl) trivial ?_
    refine K_gh ⟨[(4, (.one (.own 0 0 x43.1)))], [.vals (.int .i64 0) (x43.2.map (D.int .i64))]⟩ (by kernel_rfl) ?_
    cases H
    refine K_ret ?_
    exact Eq.trans (b := some ((.one (.d (.list (((x43.2.map (D.int .i64)).drop 0).take x43.1)))), [])) (by kernel_rfl) (by simp only [dt_map])
def T_ref18_differences_l1 (k : Nat) (p1 : List Int) (p2 : List Int) (x4 : Int) (x11 : Nat × Int × (List Int)) : Option ((Nat × Int × (List Int)) ⊕ ((Nat × (List Int)))) :=
  (if x11.2.1 < x4 then (at? p1 x11.2.1).bind fun x13 => (at? p2 x11.2.1).bind fun x14 => (if x11.1 + 1 ≤ LIM then some (.inl ((x11.1 + 1), (w64 (x11.2.1 + 1)), ((x11.2.2.drop 0).take x11.1 ++ ([(w64 (x13 - x14))] : List Int)))) else none) else some (.inr (x11.1, x11.2.2)))
theorem T_ref18_differences_l1_ok (k : Nat) (p1 : List Int) (p2 : List Int) (x4 : Int) : ∀ (x11 : Nat × Int × (List Int)) (x : (Nat × Int × (List Int)) ⊕ ((Nat × (List Int)))), T_ref18_differences_l1 k p1 p2 x4 x11 = some x → evC X (evF X k) k 0 l_ref18_differences_1 ⟨[(0, (.one (.d (.list (p1.map (D.int .i64)))))), (1, (.one (.d (.list (p2.map (D.int .i64)))))), (5, (.one (.own 0 0 x11.1))), (8, (I x4)), (9, (I x11.2.1))], [.vals (.int .i64 0) (x11.2.2.map (D.int .i64))]⟩ = some (outS (fun (s : Nat × Int × (List Int)) => ⟨[(0, (.one (.d (.list (p1.map (D.int .i64)))))), (1, (.one (.d (.list (p2.map (D.int .i64)))))), (5, (.one (.own 0 0 s.1))), (8, (I x4)), (9, (I s.2.1))], [.vals (.int .i64 0) (s.2.2.map (D.int .i64))]⟩) (fun (r : (Nat × (List Int))) => (.exit 0, ⟨[(5, (.one (.own 0 0 r.1)))], [.vals (.int .i64 0) (r.2.map (D.int .i64))]⟩)) x) := by
  intro x11 x H
  unfold T_ref18_differences_l1 at H
  refine K_in ?_
  refine K_seq ?_
  refine K_reg [] [] ⟨[(0, (.one (.d (.list (p1.map (D.int .i64)))))), (1, (.one (.d (.list (p2.map (D.int .i64)))))), (5, (.one (.own 0 0 x11.1))), (8, (I x4)), (9, (I x11.2.1)), (10, (B (decide (x11.2.1 < x4))))], [.vals (.int .i64 0) (x11.2.2.map (D.int .i64))]⟩ (by kernel_rfl) trivial ?_
  refine K_seq ?_
  rcases ite_some H with ⟨hx12, H⟩ | ⟨hx12, H⟩
  · refine K_t rfl (decide_eq_true hx12) ?_
    refine K_gh ⟨[(0, (.one (.d (.list (p1.map (D.int .i64)))))), (1, (.one (.d (.list (p2.map (D.int .i64)))))), (5, (.one (.own 0 0 x11.1))), (8, (I x4)), (9, (I x11.2.1))], [.vals (.int .i64 0) (x11.2.2.map (D.int .i64))]⟩ (by kernel_rfl) ?_
    refine K_skip ?_
    refine K_seq ?_
    refine K_block ?_
    refine K_seq ?_
    refine K_reg [] [] ⟨[(0, (.one (.d (.list (p1.map (D.int .i64)))))), (1, (.one (.d (.list (p2.map (D.int .i64)))))), (5, (.one (.own 0 0 x11.1))), (6, (I x11.2.1)), (8, (I x4)), (9, (I x11.2.1))], [.vals (.int .i64 0) (x11.2.2.map (D.int .i64))]⟩ (by kernel_rfl) trivial ?_
    obtain ⟨x13, hx13, H⟩ := bind_some' H
    obtain ⟨x14, hx14, H⟩ := bind_some' H
    obtain ⟨hx15, H⟩ := guard_some H
    refine K_reg [.l [.int .i64 x13], .l [.int .i64 x14], .n 1, .l (((x11.2.2.drop 0).take x11.1 ++ ([(w64 (x13 - x14))] : List Int)).map (D.int .i64))] [(0 : Int) ≤ x11.2.1 ∧ x11.2.1 < (((p1.map (D.int .i64))).length : Int), ((p1.map (D.int .i64)).getD x11.2.1.toNat (.int .i64 0)).cells = [.int .i64 x13], (0 : Int) ≤ x11.2.1 ∧ x11.2.1 < (((p2.map (D.int .i64))).length : Int), ((p2.map (D.int .i64)).getD x11.2.1.toNat (.int .i64 0)).cells = [.int .i64 x14], (List.all (([(w64 (x13 - x14))] : List Int).map (D.int .i64)) fun d => d.cells.length == (D.cells (.int .i64 0)).length) = true, x11.1 + 1 ≤ LIM, (([(w64 (x13 - x14))] : List Int).map (D.int .i64)).length = 1, ((x11.2.2.map (D.int .i64)).drop 0).take x11.1 ++ (([(w64 (x13 - x14))] : List Int).map (D.int .i64)) = ((x11.2.2.drop 0).take x11.1 ++ ([(w64 (x13 - x14))] : List Int)).map (D.int .i64)] ⟨[(0, (.one (.d (.list (p1.map (D.int .i64)))))), (1, (.one (.d (.list (p2.map (D.int .i64)))))), (5, (.one (.own 0 0 (x11.1 + 1)))), (8, (I x4)), (9, (I x11.2.1))], [.vals (.int .i64 0) (((x11.2.2.drop 0).take x11.1 ++ ([(w64 (x13 - x14))] : List Int)).map (D.int .i64))]⟩ (by kernel_rfl) (AC (at_ok hx13 (D.int .i64) (.int .i64 0)).1 (AC (at_ok hx13 (D.int .i64) (.int .i64 0)).2 (AC (at_ok hx14 (D.int .i64) (.int .i64 0)).1 (AC (at_ok hx14 (D.int .i64) (.int .i64 0)).2 (AC (all_ok (D.int .i64) 1 ([(w64 (x13 - x14))] : List Int) (fun _ => rfl)) (AC hx15 (AC (by simp) (A1 (ap_map (D.int .i64) x11.2.2 ([(w64 (x13 - x14))] : List Int) 0 x11.1))))))))) ?_
    refine K_blk ?_
    refine K_reg [] [] ⟨[(0, (.one (.d (.list (p1.map (D.int .i64)))))), (1, (.one (.d (.list (p2.map (D.int .i64)))))), (5, (.one (.own 0 0 (x11.1 + 1)))), (8, (I x4)), (9, (I (w64 (x11.2.1 + 1))))], [.vals (.int .i64 0) (((x11.2.2.drop 0).take x11.1 ++ ([(w64 (x13 - x14))] : List Int)).map (D.int .i64))]⟩ (by kernel_rfl) trivial ?_
    cases H
    exact K_end rfl
  · refine K_f rfl (decide_eq_false hx12) ?_
    refine K_gh ⟨[(5, (.one (.own 0 0 x11.1)))], [.vals (.int .i64 0) (x11.2.2.map (D.int .i64))]⟩ (by kernel_rfl) ?_
    cases H
    exact K_exit0 rfl rfl
def T_ref18_differences (k : Nat) (p1 : List Int) (p2 : List Int) : Option ((List Int)) := match k with
  | 0 => none
  | k + 1 => ((loopT (T_ref18_differences_l1 k p1 p2 (p1.length : Int)) k (0, 0, [])).bind fun x16 => some ((x16.2.drop 0).take x16.1))
theorem T_ref18_differences_ok (k : Nat) (p1 : List Int) (p2 : List Int) (r : (List Int)) : T_ref18_differences k p1 p2 = some r → evF X k n_ref18_differences [(.one (.d (.list (p1.map (D.int .i64))))), (.one (.d (.list (p2.map (D.int .i64)))))] [] = some ((.one (.d (.list (r.map (D.int .i64))))), []) := by
  intro H
  cases k with
  | zero => simp [T_ref18_differences] at H
  | succ k =>
    simp only [T_ref18_differences] at H
    refine F_in X_ref18_differences rfl ?_
    refine K_seq ?_
    refine K_reg [] [] ⟨[(0, (.one (.d (.list (p1.map (D.int .i64)))))), (1, (.one (.d (.list (p2.map (D.int .i64))))))], []⟩ (by kernel_rfl) trivial ?_
    refine K_seq ?_
    refine K_reg [] [] ⟨[(0, (.one (.d (.list (p1.map (D.int .i64)))))), (1, (.one (.d (.list (p2.map (D.int .i64)))))), (5, (.one (.nil)))], []⟩ (by kernel_rfl) trivial ?_
    refine K_seq ?_
    refine K_seq ?_
    refine K_reg [.n p1.length] [((p1.map (D.int .i64))).length = p1.length] ⟨[(0, (.one (.d (.list (p1.map (D.int .i64)))))), (1, (.one (.d (.list (p2.map (D.int .i64)))))), (5, (.one (.nil))), (8, (I (p1.length : Int))), (9, (I 0))], []⟩ (by kernel_rfl) (A1 (List.length_map _)) ?_
    refine K_block ?_
    refine K_gh ⟨[(0, (.one (.d (.list (p1.map (D.int .i64)))))), (1, (.one (.d (.list (p2.map (D.int .i64)))))), (5, (.one (.own 0 0 0))), (8, (I (p1.length : Int))), (9, (I 0))], [.vals (.int .i64 0) ([].map (D.int .i64))]⟩ (by kernel_rfl) ?_
    obtain ⟨x16, hx16, H⟩ := bind_some' H
    refine K_loop ⟨[(5, (.one (.own 0 0 x16.1)))], [.vals (.int .i64 0) (x16.2.map (D.int .i64))]⟩ (loop_ok (fun (s : Nat × Int × (List Int)) => ⟨[(0, (.one (.d (.list (p1.map (D.int .i64)))))), (1, (.one (.d (.list (p2.map (D.int .i64)))))), (5, (.one (.own 0 0 s.1))), (8, (I (p1.length : Int))), (9, (I s.2.1))], [.vals (.int .i64 0) (s.2.2.map (D.int .i64))]⟩) (fun (r : (Nat × (List Int))) => (.exit 0, ⟨[(5, (.one (.own 0 0 r.1)))], [.vals (.int .i64 0) (r.2.map (D.int .i64))]⟩)) (fun r h => by cases h) (T_ref18_differences_l1_ok k p1 p2 (p1.length : Int)) k (0, 0, []) x16 hx16) rfl ?_
    refine K_seq ?_
    refine K_reg [] [] ⟨[(4, (.one (.own 0 0 x16.1)))], [.vals (.int .i64 0) (x16.2.map (D.int .i64))]⟩ (by kernel_rfl) trivial ?_
    refine K_gh ⟨[(4, (.one (.own 0 0 x16.1)))], [.vals (.int .i64 0) (x16.2.map (D.int .i64))]⟩ (by kernel_rfl) ?_
    cases H
    refine K_ret ?_
    exact Eq.trans (b := some ((.one (.d (.list (((x16.2.map (D.int .i64)).drop 0).take x16.1)))), [])) (by kernel_rfl) (by simp only [dt_map])
def T_ref01_common_l1 (k : Nat) (x5 : Int × Int) : Option ((Int × Int) ⊕ Int) :=
  (if 0 < x5.2 then (if x5.2 ≠ 0 then some (.inl (x5.2, (x5.1.tmod x5.2))) else none) else some (.inr x5.1))
theorem T_ref01_common_l1_ok (k : Nat) : ∀ (x5 : Int × Int) (x : (Int × Int) ⊕ Int), T_ref01_common_l1 k x5 = some x → evC X (evF X k) k 0 l_ref01_common_1 ⟨[(0, (I x5.1)), (1, (I x5.2))], []⟩ = some (outS (fun (s : Int × Int) => ⟨[(0, (I s.1)), (1, (I s.2))], []⟩) (fun (r : Int) => (.exit 0, ⟨[(0, (I r))], []⟩)) x) := by
  intro x5 x H
  unfold T_ref01_common_l1 at H
  refine K_in ?_
  refine K_seq ?_
  refine K_seq ?_
  refine K_reg [] [] ⟨[(0, (I x5.1)), (1, (I x5.2)), (6, (B (decide (0 < x5.2))))], []⟩ (by kernel_rfl) trivial ?_
  rcases ite_some H with ⟨hx6, H⟩ | ⟨hx6, H⟩
  · refine K_t rfl (decide_eq_true hx6) ?_
    refine K_gh ⟨[(0, (I x5.1)), (1, (I x5.2))], []⟩ (by kernel_rfl) ?_
    refine K_skip ?_
    refine K_block ?_
    obtain ⟨hx7, H⟩ := guard_some H
    refine K_reg [] [x5.2 ≠ (0 : Int)] ⟨[(0, (I x5.2)), (1, (I (x5.1.tmod x5.2)))], []⟩ (by kernel_rfl) (A1 hx7) ?_
    refine K_blk ?_
    cases H
    exact K_end rfl
  · refine K_f rfl (decide_eq_false hx6) ?_
    refine K_gh ⟨[(0, (I x5.1))], []⟩ (by kernel_rfl) ?_
    cases H
    exact K_exit0 rfl rfl
def T_ref01_common (k : Nat) (p1 : Int) (p2 : Int) : Option Int := match k with
  | 0 => none
  | k + 1 => ((loopT (T_ref01_common_l1 k) k (p1, p2)).bind fun x8 => some x8)
theorem T_ref01_common_ok (k : Nat) (p1 : Int) (p2 : Int) (r : Int) : T_ref01_common k p1 p2 = some r → evF X k n_ref01_common [(I p1), (I p2)] [] = some ((I r), []) := by
  intro H
  cases k with
  | zero => simp [T_ref01_common] at H
  | succ k =>
    simp only [T_ref01_common] at H
    refine F_in X_ref01_common rfl ?_
    refine K_seq ?_
    refine K_reg [] [] ⟨[(0, (I p1)), (1, (I p2))], []⟩ (by kernel_rfl) trivial ?_
    refine K_seq ?_
    refine K_block ?_
    obtain ⟨x8, hx8, H⟩ := bind_some' H
    refine K_loop ⟨[(0, (I x8))], []⟩ (loop_ok (fun (s : Int × Int) => ⟨[(0, (I s.1)), (1, (I s.2))], []⟩) (fun (r : Int) => (.exit 0, ⟨[(0, (I r))], []⟩)) (fun r h => by cases h) (T_ref01_common_l1_ok k) k (p1, p2) x8 hx8) rfl ?_
    refine K_seq ?_
    refine K_reg [] [] ⟨[(4, (I x8))], []⟩ (by kernel_rfl) trivial ?_
    refine K_gh ⟨[(4, (I x8))], []⟩ (by kernel_rfl) ?_
    cases H
    refine K_ret ?_
    kernel_rfl
def T_ref01_Valid (k : Nat) (p1 : Int) (p2 : Int) : Option Bool := match k with
  | 0 => none
  | k + 1 => (((if (((decide (0 ≤ p1) && decide (p1 ≤ 2305843009213693952)) && decide (1 ≤ p2)) && decide (p2 ≤ 1152921504606846976)) = true then ((T_ref01_common k p1 p2).bind fun x3 => some (decide (x3 = 1))) else some false)).bind fun x4 => some x4)
theorem T_ref01_Valid_ok (k : Nat) (p1 : Int) (p2 : Int) (r : Bool) : T_ref01_Valid k p1 p2 = some r → evF X k n_ref01_Valid [(.agg [.d (.int .i64 p1), .d (.int .i64 p2)])] [] = some ((B r), []) := by
  intro H
  cases k with
  | zero => simp [T_ref01_Valid] at H
  | succ k =>
    simp only [T_ref01_Valid] at H
    refine F_in X_ref01_Valid rfl ?_
    refine K_seq ?_
    refine K_reg [] [] ⟨[(1, (.one (.ptr 0 0 0)))], [.cells [.d (.int .i64 p1), .d (.int .i64 p2)]]⟩ (by kernel_rfl) trivial ?_
    refine K_seq ?_
    obtain ⟨x4, hx4, H⟩ := bind_some' H
    refine K_of ⟨[(2, (B x4))], []⟩ ?_ ?_
    · clear H; have H := hx4; clear hx4; refine K_in ?_
      rcases ite_some H with ⟨hx2, H⟩ | ⟨hx2, H⟩
      · obtain ⟨x3, hx3, H⟩ := bind_some' H
        refine K_reg [.m, .m, .m, .b true, .r (I x3) []] [([.cells [.d (.int .i64 p1), .d (.int .i64 p2)]] : Heap) = [.cells [.d (.int .i64 p1), .d (.int .i64 p2)]], ([.cells [.d (.int .i64 p1), .d (.int .i64 p2)]] : Heap) = [.cells [.d (.int .i64 p1), .d (.int .i64 p2)]], ([.cells [.d (.int .i64 p1), .d (.int .i64 p2)]] : Heap) = [.cells [.d (.int .i64 p1), .d (.int .i64 p2)]], (((decide (0 ≤ p1) && decide (p1 ≤ 2305843009213693952)) && decide (1 ≤ p2)) && decide (p2 ≤ 1152921504606846976)) = true, evF X k n_ref01_common [(I p1), (I p2)] [] = some ((I x3), [])] ⟨[(2, (B (decide (x3 = 1))))], []⟩ (by kernel_rfl) (AC rfl (AC rfl (AC rfl (AC hx2 (A1 (T_ref01_common_ok k p1 p2 x3 hx3)))))) ?_
        cases H
        exact K_end rfl
      · refine K_reg [.m, .m, .m, .b false] [([.cells [.d (.int .i64 p1), .d (.int .i64 p2)]] : Heap) = [.cells [.d (.int .i64 p1), .d (.int .i64 p2)]], ([.cells [.d (.int .i64 p1), .d (.int .i64 p2)]] : Heap) = [.cells [.d (.int .i64 p1), .d (.int .i64 p2)]], ([.cells [.d (.int .i64 p1), .d (.int .i64 p2)]] : Heap) = [.cells [.d (.int .i64 p1), .d (.int .i64 p2)]], (((decide (0 ≤ p1) && decide (p1 ≤ 2305843009213693952)) && decide (1 ≤ p2)) && decide (p2 ≤ 1152921504606846976)) = false] ⟨[(2, (B false))], []⟩ (by kernel_rfl) (AC rfl (AC rfl (AC rfl (A1 (Bool.eq_false_iff.2 hx2))))) ?_
        cases H
        exact K_end rfl
    refine K_gh ⟨[(2, (B x4))], []⟩ (by kernel_rfl) ?_
    cases H
    refine K_ret ?_
    kernel_rfl
def T_ref01_Make (k : Nat) (p1 : Int) (p2 : Int) : Option (Int × Int × Int) := match k with
  | 0 => none
  | k + 1 => (if (decide (p1 < 0) || decide (p2 < 1)) = true then some (0, 0, 1) else (T_ref01_common k p1 p2).bind fun x2 => (if x2 ≠ 0 then (T_ref01_Valid k (w64 (p1.tdiv x2)) (w64 (p2.tdiv x2))).bind fun x4 => (if (!x4) = true then some (0, 0, 1) else some ((w64 (p1.tdiv x2)), (w64 (p2.tdiv x2)), 0)) else none))
theorem T_ref01_Make_ok (k : Nat) (p1 : Int) (p2 : Int) (r : Int × Int × Int) : T_ref01_Make k p1 p2 = some r → evF X k n_ref01_Make [(I p1), (I p2)] [] = some ((.tup [(true, [.d (.int .i64 r.1), .d (.int .i64 r.2.1)]), (false, [.d (.int .i64 r.2.2)])]), []) := by
  intro H
  cases k with
  | zero => simp [T_ref01_Make] at H
  | succ k =>
    simp only [T_ref01_Make] at H
    refine F_in X_ref01_Make rfl ?_
    refine K_seq ?_
    refine K_reg [] [] ⟨[(0, (I p1)), (1, (I p2)), (4, (.one (.ptr 0 0 0)))], [.cells [.d (.int .i64 0), .d (.int .i64 0)]]⟩ (by kernel_rfl) trivial ?_
    refine K_seq ?_
    refine K_seq ?_
    refine K_reg [.m] [([.cells [.d (.int .i64 0), .d (.int .i64 0)]] : Heap) = [.cells [.d (.int .i64 0), .d (.int .i64 0)]]] ⟨[(0, (I p1)), (1, (I p2)), (4, (.one (.ptr 0 0 0))), (13, (B (decide (p1 < 0) || decide (p2 < 1))))], [.cells [.d (.int .i64 0), .d (.int .i64 0)]]⟩ (by kernel_rfl) (A1 rfl) ?_
    rcases ite_some H with ⟨hx1, H⟩ | ⟨hx1, H⟩
    · refine K_t rfl hx1 ?_
      refine K_seq ?_
      refine K_reg [] [] ⟨[(4, (.one (.ptr 0 0 0))), (5, (I 1))], [.cells [.d (.int .i64 0), .d (.int .i64 0)]]⟩ (by kernel_rfl) trivial ?_
      refine K_gh ⟨[(4, (.one (.ptr 0 0 0))), (5, (I 1))], [.cells [.d (.int .i64 0), .d (.int .i64 0)]]⟩ (by kernel_rfl) ?_
      cases H
      refine K_ret ?_
      kernel_rfl
    · refine K_f rfl (Bool.eq_false_iff.2 hx1) ?_
      refine K_gh ⟨[(0, (I p1)), (1, (I p2)), (4, (.one (.ptr 0 0 0)))], [.cells [.d (.int .i64 0), .d (.int .i64 0)]]⟩ (by kernel_rfl) ?_
      refine K_skip ?_
      refine K_seq ?_
      obtain ⟨x2, hx2, H⟩ := bind_some' H
      refine K_reg [.r (I x2) []] [evF X k n_ref01_common [(I p1), (I p2)] [] = some ((I x2), [])] ⟨[(0, (I p1)), (1, (I p2)), (4, (.one (.ptr 0 0 0))), (6, (I x2))], [.cells [.d (.int .i64 0), .d (.int .i64 0)]]⟩ (by kernel_rfl) (A1 (T_ref01_common_ok k p1 p2 x2 hx2)) ?_
      refine K_seq ?_
      obtain ⟨hx3, H⟩ := guard_some H
      refine K_reg [] [x2 ≠ (0 : Int), x2 ≠ (0 : Int)] ⟨[(4, (.one (.ptr 0 0 0))), (7, (.one (.ptr 1 0 0)))], [.cells [.d (.int .i64 0), .d (.int .i64 0)], .cells [.d (.int .i64 (w64 (p1.tdiv x2))), .d (.int .i64 (w64 (p2.tdiv x2)))]]⟩ (by kernel_rfl) (AC hx3 (A1 hx3)) ?_
      refine K_seq ?_
      refine K_seq ?_
      obtain ⟨x4, hx4, H⟩ := bind_some' H
      refine K_reg [.r (B x4) []] [evF X k n_ref01_Valid [(.agg [.d (.int .i64 (w64 (p1.tdiv x2))), .d (.int .i64 (w64 (p2.tdiv x2)))])] [] = some ((B x4), [])] ⟨[(4, (.one (.ptr 0 0 0))), (7, (.one (.ptr 1 0 0))), (27, (B (!x4)))], [.cells [.d (.int .i64 0), .d (.int .i64 0)], .cells [.d (.int .i64 (w64 (p1.tdiv x2))), .d (.int .i64 (w64 (p2.tdiv x2)))]]⟩ (by kernel_rfl) (A1 (T_ref01_Valid_ok k (w64 (p1.tdiv x2)) (w64 (p2.tdiv x2)) x4 hx4)) ?_
      rcases ite_some H with ⟨hx5, H⟩ | ⟨hx5, H⟩
      · refine K_t rfl hx5 ?_
        refine K_seq ?_
        refine K_reg [] [] ⟨[(4, (.one (.ptr 0 0 0))), (5, (I 1))], [.cells [.d (.int .i64 0), .d (.int .i64 0)]]⟩ (by kernel_rfl) trivial ?_
        refine K_gh ⟨[(4, (.one (.ptr 0 0 0))), (5, (I 1))], [.cells [.d (.int .i64 0), .d (.int .i64 0)]]⟩ (by kernel_rfl) ?_
        cases H
        refine K_ret ?_
        kernel_rfl
      · refine K_f rfl (Bool.eq_false_iff.2 hx5) ?_
        refine K_gh ⟨[(4, (.one (.ptr 0 0 0))), (7, (.one (.ptr 1 0 0)))], [.cells [.d (.int .i64 0), .d (.int .i64 0)], .cells [.d (.int .i64 (w64 (p1.tdiv x2))), .d (.int .i64 (w64 (p2.tdiv x2)))]]⟩ (by kernel_rfl) ?_
        refine K_skip ?_
        refine K_seq ?_
        refine K_reg [] [] ⟨[(4, (.one (.ptr 0 0 0))), (5, (I 0))], [.cells [.d (.int .i64 (w64 (p1.tdiv x2))), .d (.int .i64 (w64 (p2.tdiv x2)))]]⟩ (by kernel_rfl) trivial ?_
        refine K_gh ⟨[(4, (.one (.ptr 0 0 0))), (5, (I 0))], [.cells [.d (.int .i64 (w64 (p1.tdiv x2))), .d (.int .i64 (w64 (p2.tdiv x2)))]]⟩ (by kernel_rfl) ?_
        cases H
        refine K_ret ?_
        kernel_rfl
def T_ref18_Squares_l1 (k : Nat) (p1 : List Int) (p2 : List Int) (p3 : Int) (x6 : Int) (x8 : Int) (x17 : Int × Int) : Option ((Int × Int) ⊕ Int) :=
  (if x17.2 < x8 then (at? p1 x17.2).bind fun x19 => (at? p2 (w64 (x17.2 + 1))).bind fun x20 => (at? p2 x17.2).bind fun x21 => (if (w64 (x20 - x21)) ≠ 0 then some (.inl ((w64 (x17.1 + (w64 ((w64 (x19 * x19)) * (w64 ((w64 (x6 * (w64 (x6 + 1)))).tdiv (w64 (x20 - x21)))))))), (w64 (x17.2 + 1)))) else none) else some (.inr x17.1))
theorem T_ref18_Squares_l1_ok (k : Nat) (p1 : List Int) (p2 : List Int) (p3 : Int) (x6 : Int) (x8 : Int) : ∀ (x17 : Int × Int) (x : (Int × Int) ⊕ Int), T_ref18_Squares_l1 k p1 p2 p3 x6 x8 x17 = some x → evC X (evF X k) k 0 l_ref18_Squares_1 ⟨[(0, (.one (.d (.list (p1.map (D.int .i64)))))), (1, (.one (.d (.list (p2.map (D.int .i64)))))), (2, (I p3)), (6, (.one (.ptr 0 0 0))), (7, (I x6)), (8, (I x17.1)), (23, (I x8)), (24, (I x17.2))], [.cells [.d (.int .i64 0), .d (.int .i64 0)]]⟩ = some (outS (fun (s : Int × Int) => ⟨[(0, (.one (.d (.list (p1.map (D.int .i64)))))), (1, (.one (.d (.list (p2.map (D.int .i64)))))), (2, (I p3)), (6, (.one (.ptr 0 0 0))), (7, (I x6)), (8, (I s.1)), (23, (I x8)), (24, (I s.2))], [.cells [.d (.int .i64 0), .d (.int .i64 0)]]⟩) (fun (r : Int) => (.exit 0, ⟨[(2, (I p3)), (6, (.one (.ptr 0 0 0))), (7, (I x6)), (8, (I r))], [.cells [.d (.int .i64 0), .d (.int .i64 0)]]⟩)) x) := by
  intro x17 x H
  unfold T_ref18_Squares_l1 at H
  refine K_in ?_
  refine K_seq ?_
  refine K_reg [] [] ⟨[(0, (.one (.d (.list (p1.map (D.int .i64)))))), (1, (.one (.d (.list (p2.map (D.int .i64)))))), (2, (I p3)), (6, (.one (.ptr 0 0 0))), (7, (I x6)), (8, (I x17.1)), (23, (I x8)), (24, (I x17.2)), (25, (B (decide (x17.2 < x8))))], [.cells [.d (.int .i64 0), .d (.int .i64 0)]]⟩ (by kernel_rfl) trivial ?_
  refine K_seq ?_
  rcases ite_some H with ⟨hx18, H⟩ | ⟨hx18, H⟩
  · refine K_t rfl (decide_eq_true hx18) ?_
    refine K_gh ⟨[(0, (.one (.d (.list (p1.map (D.int .i64)))))), (1, (.one (.d (.list (p2.map (D.int .i64)))))), (2, (I p3)), (6, (.one (.ptr 0 0 0))), (7, (I x6)), (8, (I x17.1)), (23, (I x8)), (24, (I x17.2))], [.cells [.d (.int .i64 0), .d (.int .i64 0)]]⟩ (by kernel_rfl) ?_
    refine K_skip ?_
    refine K_seq ?_
    refine K_block ?_
    refine K_seq ?_
    refine K_reg [] [] ⟨[(0, (.one (.d (.list (p1.map (D.int .i64)))))), (1, (.one (.d (.list (p2.map (D.int .i64)))))), (2, (I p3)), (6, (.one (.ptr 0 0 0))), (7, (I x6)), (8, (I x17.1)), (9, (I x17.2)), (23, (I x8)), (24, (I x17.2))], [.cells [.d (.int .i64 0), .d (.int .i64 0)]]⟩ (by kernel_rfl) trivial ?_
    obtain ⟨x19, hx19, H⟩ := bind_some' H
    obtain ⟨x20, hx20, H⟩ := bind_some' H
    obtain ⟨x21, hx21, H⟩ := bind_some' H
    obtain ⟨hx22, H⟩ := guard_some H
    refine K_reg [.l [.int .i64 x19], .l [.int .i64 x19], .l [.int .i64 x20], .l [.int .i64 x21]] [(0 : Int) ≤ x17.2 ∧ x17.2 < (((p1.map (D.int .i64))).length : Int), ((p1.map (D.int .i64)).getD x17.2.toNat (.int .i64 0)).cells = [.int .i64 x19], (0 : Int) ≤ x17.2 ∧ x17.2 < (((p1.map (D.int .i64))).length : Int), ((p1.map (D.int .i64)).getD x17.2.toNat (.int .i64 0)).cells = [.int .i64 x19], (0 : Int) ≤ (w64 (x17.2 + 1)) ∧ (w64 (x17.2 + 1)) < (((p2.map (D.int .i64))).length : Int), ((p2.map (D.int .i64)).getD (w64 (x17.2 + 1)).toNat (.int .i64 0)).cells = [.int .i64 x20], (0 : Int) ≤ x17.2 ∧ x17.2 < (((p2.map (D.int .i64))).length : Int), ((p2.map (D.int .i64)).getD x17.2.toNat (.int .i64 0)).cells = [.int .i64 x21], (w64 (x20 - x21)) ≠ (0 : Int)] ⟨[(0, (.one (.d (.list (p1.map (D.int .i64)))))), (1, (.one (.d (.list (p2.map (D.int .i64)))))), (2, (I p3)), (6, (.one (.ptr 0 0 0))), (7, (I x6)), (8, (I (w64 (x17.1 + (w64 ((w64 (x19 * x19)) * (w64 ((w64 (x6 * (w64 (x6 + 1)))).tdiv (w64 (x20 - x21)))))))))), (23, (I x8)), (24, (I x17.2))], [.cells [.d (.int .i64 0), .d (.int .i64 0)]]⟩ (by kernel_rfl) (AC (at_ok hx19 (D.int .i64) (.int .i64 0)).1 (AC (at_ok hx19 (D.int .i64) (.int .i64 0)).2 (AC (at_ok hx19 (D.int .i64) (.int .i64 0)).1 (AC (at_ok hx19 (D.int .i64) (.int .i64 0)).2 (AC (at_ok hx20 (D.int .i64) (.int .i64 0)).1 (AC (at_ok hx20 (D.int .i64) (.int .i64 0)).2 (AC (at_ok hx21 (D.int .i64) (.int .i64 0)).1 (AC (at_ok hx21 (D.int .i64) (.int .i64 0)).2 (A1 hx22))))))))) ?_
    refine K_blk ?_
    refine K_reg [] [] ⟨[(0, (.one (.d (.list (p1.map (D.int .i64)))))), (1, (.one (.d (.list (p2.map (D.int .i64)))))), (2, (I p3)), (6, (.one (.ptr 0 0 0))), (7, (I x6)), (8, (I (w64 (x17.1 + (w64 ((w64 (x19 * x19)) * (w64 ((w64 (x6 * (w64 (x6 + 1)))).tdiv (w64 (x20 - x21)))))))))), (23, (I x8)), (24, (I (w64 (x17.2 + 1))))], [.cells [.d (.int .i64 0), .d (.int .i64 0)]]⟩ (by kernel_rfl) trivial ?_
    cases H
    exact K_end rfl
  · refine K_f rfl (decide_eq_false hx18) ?_
    refine K_gh ⟨[(2, (I p3)), (6, (.one (.ptr 0 0 0))), (7, (I x6)), (8, (I x17.1))], [.cells [.d (.int .i64 0), .d (.int .i64 0)]]⟩ (by kernel_rfl) ?_
    cases H
    exact K_exit0 rfl rfl
def T_ref18_Squares (k : Nat) (p1 : List Int) (p2 : List Int) (p3 : Int) : Option (Int × Int) := match k with
  | 0 => none
  | k + 1 => (at? p2 (w64 ((p2.length : Int) - 1))).bind fun x1 => (if (w64 ((p2.length : Int) - 1)) ≠ 0 then (loopT (T_ref18_Squares_l1 k p1 p2 p3 (w64 (x1.tdiv (w64 ((p2.length : Int) - 1)))) (p1.length : Int)) k (0, 0)).bind fun x23 => (T_ref01_Make k x23 (w64 ((w64 ((w64 (x1.tdiv (w64 ((p2.length : Int) - 1)))) * (w64 ((w64 (x1.tdiv (w64 ((p2.length : Int) - 1)))) + 1)))) * p3))).bind fun x24 => some (x24.1, x24.2.1) else none)
theorem T_ref18_Squares_ok (k : Nat) (p1 : List Int) (p2 : List Int) (p3 : Int) (r : Int × Int) : T_ref18_Squares k p1 p2 p3 = some r → evF X k n_ref18_Squares [(.one (.d (.list (p1.map (D.int .i64))))), (.one (.d (.list (p2.map (D.int .i64))))), (I p3)] [] = some ((.agg [.d (.int .i64 r.1), .d (.int .i64 r.2)]), []) := by
  intro H
  cases k with
  | zero => simp [T_ref18_Squares] at H
  | succ k =>
    simp only [T_ref18_Squares] at H
    refine F_in X_ref18_Squares rfl ?_
    refine K_seq ?_
    refine K_reg [] [] ⟨[(0, (.one (.d (.list (p1.map (D.int .i64)))))), (1, (.one (.d (.list (p2.map (D.int .i64)))))), (2, (I p3)), (6, (.one (.ptr 0 0 0)))], [.cells [.d (.int .i64 0), .d (.int .i64 0)]]⟩ (by kernel_rfl) trivial ?_
    refine K_seq ?_
    obtain ⟨x1, hx1, H⟩ := bind_some' H
    obtain ⟨hx2, H⟩ := guard_some H
    refine K_reg [.n p2.length, .l [.int .i64 x1], .n p2.length] [((p2.map (D.int .i64))).length = p2.length, (0 : Int) ≤ (w64 ((p2.length : Int) - 1)) ∧ (w64 ((p2.length : Int) - 1)) < (((p2.map (D.int .i64))).length : Int), ((p2.map (D.int .i64)).getD (w64 ((p2.length : Int) - 1)).toNat (.int .i64 0)).cells = [.int .i64 x1], ((p2.map (D.int .i64))).length = p2.length, (w64 ((p2.length : Int) - 1)) ≠ (0 : Int)] ⟨[(0, (.one (.d (.list (p1.map (D.int .i64)))))), (1, (.one (.d (.list (p2.map (D.int .i64)))))), (2, (I p3)), (6, (.one (.ptr 0 0 0))), (7, (I (w64 (x1.tdiv (w64 ((p2.length : Int) - 1))))))], [.cells [.d (.int .i64 0), .d (.int .i64 0)]]⟩ (by kernel_rfl) (AC (List.length_map _) (AC (at_ok hx1 (D.int .i64) (.int .i64 0)).1 (AC (at_ok hx1 (D.int .i64) (.int .i64 0)).2 (AC (List.length_map _) (A1 hx2))))) ?_
    refine K_seq ?_
    refine K_reg [] [] ⟨[(0, (.one (.d (.list (p1.map (D.int .i64)))))), (1, (.one (.d (.list (p2.map (D.int .i64)))))), (2, (I p3)), (6, (.one (.ptr 0 0 0))), (7, (I (w64 (x1.tdiv (w64 ((p2.length : Int) - 1)))))), (8, (I 0))], [.cells [.d (.int .i64 0), .d (.int .i64 0)]]⟩ (by kernel_rfl) trivial ?_
    refine K_seq ?_
    refine K_seq ?_
    refine K_reg [.n p1.length] [((p1.map (D.int .i64))).length = p1.length] ⟨[(0, (.one (.d (.list (p1.map (D.int .i64)))))), (1, (.one (.d (.list (p2.map (D.int .i64)))))), (2, (I p3)), (6, (.one (.ptr 0 0 0))), (7, (I (w64 (x1.tdiv (w64 ((p2.length : Int) - 1)))))), (8, (I 0)), (23, (I (p1.length : Int))), (24, (I 0))], [.cells [.d (.int .i64 0), .d (.int .i64 0)]]⟩ (by kernel_rfl) (A1 (List.length_map _)) ?_
    refine K_block ?_
    obtain ⟨x23, hx23, H⟩ := bind_some' H
    refine K_loop ⟨[(2, (I p3)), (6, (.one (.ptr 0 0 0))), (7, (I (w64 (x1.tdiv (w64 ((p2.length : Int) - 1)))))), (8, (I x23))], [.cells [.d (.int .i64 0), .d (.int .i64 0)]]⟩ (loop_ok (fun (s : Int × Int) => ⟨[(0, (.one (.d (.list (p1.map (D.int .i64)))))), (1, (.one (.d (.list (p2.map (D.int .i64)))))), (2, (I p3)), (6, (.one (.ptr 0 0 0))), (7, (I (w64 (x1.tdiv (w64 ((p2.length : Int) - 1)))))), (8, (I s.1)), (23, (I (p1.length : Int))), (24, (I s.2))], [.cells [.d (.int .i64 0), .d (.int .i64 0)]]⟩) (fun (r : Int) => (.exit 0, ⟨[(2, (I p3)), (6, (.one (.ptr 0 0 0))), (7, (I (w64 (x1.tdiv (w64 ((p2.length : Int) - 1)))))), (8, (I r))], [.cells [.d (.int .i64 0), .d (.int .i64 0)]]⟩)) (fun r h => by cases h) (T_ref18_Squares_l1_ok k p1 p2 p3 (w64 (x1.tdiv (w64 ((p2.length : Int) - 1)))) (p1.length : Int)) k (0, 0) x23 hx23) rfl ?_
    refine K_seq ?_
    obtain ⟨x24, hx24, H⟩ := bind_some' H
    refine K_reg [.r (.tup [(true, [.d (.int .i64 x24.1), .d (.int .i64 x24.2.1)]), (false, [.d (.int .i64 x24.2.2)])]) []] [evF X k n_ref01_Make [(I x23), (I (w64 ((w64 ((w64 (x1.tdiv (w64 ((p2.length : Int) - 1)))) * (w64 ((w64 (x1.tdiv (w64 ((p2.length : Int) - 1)))) + 1)))) * p3)))] [] = some ((.tup [(true, [.d (.int .i64 x24.1), .d (.int .i64 x24.2.1)]), (false, [.d (.int .i64 x24.2.2)])]), [])] ⟨[(6, (.one (.ptr 0 0 0))), (10, (.one (.ptr 1 0 0)))], [.cells [.d (.int .i64 0), .d (.int .i64 0)], .cells [.d (.int .i64 x24.1), .d (.int .i64 x24.2.1)]]⟩ (by kernel_rfl) (A1 (T_ref01_Make_ok k x23 (w64 ((w64 ((w64 (x1.tdiv (w64 ((p2.length : Int) - 1)))) * (w64 ((w64 (x1.tdiv (w64 ((p2.length : Int) - 1)))) + 1)))) * p3)) x24 hx24)) ?_
    refine K_seq ?_
    refine K_reg [] [] ⟨[(6, (.one (.ptr 0 0 0)))], [.cells [.d (.int .i64 x24.1), .d (.int .i64 x24.2.1)]]⟩ (by kernel_rfl) trivial ?_
    refine K_gh ⟨[(6, (.one (.ptr 0 0 0)))], [.cells [.d (.int .i64 x24.1), .d (.int .i64 x24.2.1)]]⟩ (by kernel_rfl) ?_
    cases H
    refine K_ret ?_
    kernel_rfl
def T_ref18_Lower (k : Nat) (p1 : List Int) (p2 : List Int) (p3 : Int) : Option (Int × Int × Int) := match k with
  | 0 => none
  | k + 1 => ((T_ref12_Two k p1 p2 0).bind fun x1 => (if (!decide (x1 = 0)) = true then some (0, 0, x1) else ((T_ref18_Starts k (p1.length : Int) p3).bind fun x3 => (if (!decide (x3.2 = 0)) = true then some (0, 0, x3.2) else ((T_ref18_Fold k p1 x3.1).bind fun x5 => (T_ref18_Fold k p2 x3.1).bind fun x6 => (T_ref18_differences k x5 x6).bind fun x7 => (T_ref18_Squares k x7 x3.1 1).bind fun x8 => some (x8.1, x8.2, 0))))))
theorem T_ref18_Lower_ok (k : Nat) (p1 : List Int) (p2 : List Int) (p3 : Int) (r : Int × Int × Int) : T_ref18_Lower k p1 p2 p3 = some r → evF X k n_ref18_Lower [(.one (.d (.list (p1.map (D.int .i64))))), (.one (.d (.list (p2.map (D.int .i64))))), (I p3)] [] = some ((.tup [(true, [.d (.int .i64 r.1), .d (.int .i64 r.2.1)]), (false, [.d (.int .i64 r.2.2)])]), []) := by
  intro H
  cases k with
  | zero => simp [T_ref18_Lower] at H
  | succ k =>
    simp only [T_ref18_Lower] at H
    refine F_in X_ref18_Lower rfl ?_
    refine K_seq ?_
    refine K_reg [] [] ⟨[(0, (.one (.d (.list (p1.map (D.int .i64)))))), (1, (.one (.d (.list (p2.map (D.int .i64)))))), (2, (I p3)), (6, (.one (.ptr 0 0 0)))], [.cells [.d (.int .i64 0), .d (.int .i64 0)]]⟩ (by kernel_rfl) trivial ?_
    refine K_seq ?_
    refine K_seq ?_
    obtain ⟨x1, hx1, H⟩ := bind_some' H
    refine K_reg [.r (I x1) []] [evF X k n_ref12_Two [(.one (.d (.list (p1.map (D.int .i64))))), (.one (.d (.list (p2.map (D.int .i64))))), (I 0)] [] = some ((I x1), [])] ⟨[(0, (.one (.d (.list (p1.map (D.int .i64)))))), (1, (.one (.d (.list (p2.map (D.int .i64)))))), (2, (I p3)), (6, (.one (.ptr 0 0 0))), (8, (I x1))], [.cells [.d (.int .i64 0), .d (.int .i64 0)]]⟩ (by kernel_rfl) (A1 (T_ref12_Two_ok k p1 p2 0 x1 hx1)) ?_
    refine K_seq ?_
    refine K_reg [] [] ⟨[(0, (.one (.d (.list (p1.map (D.int .i64)))))), (1, (.one (.d (.list (p2.map (D.int .i64)))))), (2, (I p3)), (6, (.one (.ptr 0 0 0))), (8, (I x1)), (15, (B (!decide (x1 = 0))))], [.cells [.d (.int .i64 0), .d (.int .i64 0)]]⟩ (by kernel_rfl) trivial ?_
    rcases ite_some H with ⟨hx2, H⟩ | ⟨hx2, H⟩
    · refine K_t rfl hx2 ?_
      refine K_seq ?_
      refine K_reg [] [] ⟨[(6, (.one (.ptr 0 0 0))), (7, (I x1))], [.cells [.d (.int .i64 0), .d (.int .i64 0)]]⟩ (by kernel_rfl) trivial ?_
      refine K_gh ⟨[(6, (.one (.ptr 0 0 0))), (7, (I x1))], [.cells [.d (.int .i64 0), .d (.int .i64 0)]]⟩ (by kernel_rfl) ?_
      cases H
      refine K_ret ?_
      kernel_rfl
    · refine K_f rfl (Bool.eq_false_iff.2 hx2) ?_
      refine K_gh ⟨[(0, (.one (.d (.list (p1.map (D.int .i64)))))), (1, (.one (.d (.list (p2.map (D.int .i64)))))), (2, (I p3)), (6, (.one (.ptr 0 0 0)))], [.cells [.d (.int .i64 0), .d (.int .i64 0)]]⟩ (by kernel_rfl) ?_
      refine K_skip ?_
      refine K_seq ?_
      obtain ⟨x3, hx3, H⟩ := bind_some' H
      refine K_reg [.n p1.length, .r (.tup [(false, [.d (.list (x3.1.map (D.int .i64)))]), (false, [.d (.int .i64 x3.2)])]) []] [((p1.map (D.int .i64))).length = p1.length, evF X k n_ref18_Starts [(I (p1.length : Int)), (I p3)] [] = some ((.tup [(false, [.d (.list (x3.1.map (D.int .i64)))]), (false, [.d (.int .i64 x3.2)])]), [])] ⟨[(0, (.one (.d (.list (p1.map (D.int .i64)))))), (1, (.one (.d (.list (p2.map (D.int .i64)))))), (6, (.one (.ptr 0 0 0))), (9, (.one (.d (.list (x3.1.map (D.int .i64)))))), (10, (I x3.2))], [.cells [.d (.int .i64 0), .d (.int .i64 0)]]⟩ (by kernel_rfl) (AC (List.length_map _) (A1 (T_ref18_Starts_ok k (p1.length : Int) p3 x3 hx3))) ?_
      refine K_seq ?_
      refine K_seq ?_
      refine K_reg [] [] ⟨[(0, (.one (.d (.list (p1.map (D.int .i64)))))), (1, (.one (.d (.list (p2.map (D.int .i64)))))), (6, (.one (.ptr 0 0 0))), (9, (.one (.d (.list (x3.1.map (D.int .i64)))))), (10, (I x3.2)), (26, (B (!decide (x3.2 = 0))))], [.cells [.d (.int .i64 0), .d (.int .i64 0)]]⟩ (by kernel_rfl) trivial ?_
      rcases ite_some H with ⟨hx4, H⟩ | ⟨hx4, H⟩
      · refine K_t rfl hx4 ?_
        refine K_seq ?_
        refine K_reg [] [] ⟨[(6, (.one (.ptr 0 0 0))), (7, (I x3.2))], [.cells [.d (.int .i64 0), .d (.int .i64 0)]]⟩ (by kernel_rfl) trivial ?_
        refine K_gh ⟨[(6, (.one (.ptr 0 0 0))), (7, (I x3.2))], [.cells [.d (.int .i64 0), .d (.int .i64 0)]]⟩ (by kernel_rfl) ?_
        cases H
        refine K_ret ?_
        kernel_rfl
      · refine K_f rfl (Bool.eq_false_iff.2 hx4) ?_
        refine K_gh ⟨[(0, (.one (.d (.list (p1.map (D.int .i64)))))), (1, (.one (.d (.list (p2.map (D.int .i64)))))), (6, (.one (.ptr 0 0 0))), (9, (.one (.d (.list (x3.1.map (D.int .i64))))))], [.cells [.d (.int .i64 0), .d (.int .i64 0)]]⟩ (by kernel_rfl) ?_
        refine K_skip ?_
        refine K_seq ?_
        obtain ⟨x5, hx5, H⟩ := bind_some' H
        obtain ⟨x6, hx6, H⟩ := bind_some' H
        obtain ⟨x7, hx7, H⟩ := bind_some' H
        obtain ⟨x8, hx8, H⟩ := bind_some' H
        refine K_reg [.r (.one (.d (.list (x5.map (D.int .i64))))) [], .r (.one (.d (.list (x6.map (D.int .i64))))) [], .r (.one (.d (.list (x7.map (D.int .i64))))) [], .r (.agg [.d (.int .i64 x8.1), .d (.int .i64 x8.2)]) []] [evF X k n_ref18_Fold [(.one (.d (.list (p1.map (D.int .i64))))), (.one (.d (.list (x3.1.map (D.int .i64)))))] [] = some ((.one (.d (.list (x5.map (D.int .i64))))), []), evF X k n_ref18_Fold [(.one (.d (.list (p2.map (D.int .i64))))), (.one (.d (.list (x3.1.map (D.int .i64)))))] [] = some ((.one (.d (.list (x6.map (D.int .i64))))), []), evF X k n_ref18_differences [(.one (.d (.list (x5.map (D.int .i64))))), (.one (.d (.list (x6.map (D.int .i64)))))] [] = some ((.one (.d (.list (x7.map (D.int .i64))))), []), evF X k n_ref18_Squares [(.one (.d (.list (x7.map (D.int .i64))))), (.one (.d (.list (x3.1.map (D.int .i64))))), (I 1)] [] = some ((.agg [.d (.int .i64 x8.1), .d (.int .i64 x8.2)]), [])] ⟨[(6, (.one (.ptr 0 0 0))), (7, (I 0))], [.cells [.d (.int .i64 x8.1), .d (.int .i64 x8.2)]]⟩ (by kernel_rfl) (AC (T_ref18_Fold_ok k p1 x3.1 x5 hx5) (AC (T_ref18_Fold_ok k p2 x3.1 x6 hx6) (AC (T_ref18_differences_ok k x5 x6 x7 hx7) (A1 (T_ref18_Squares_ok k x7 x3.1 1 x8 hx8))))) ?_
        refine K_gh ⟨[(6, (.one (.ptr 0 0 0))), (7, (I 0))], [.cells [.d (.int .i64 x8.1), .d (.int .i64 x8.2)]]⟩ (by kernel_rfl) ?_
        cases H
        refine K_ret ?_
        kernel_rfl
def T_law20_EnvelopeBands (k : Nat) (p1 : List Int) (p2 : Int) : Option Bool := match k with
  | 0 => none
  | k + 1 => ((T_keep_New k p1).bind fun x1 => (T_keep_Src_Uneven k ((p1.drop 0).take ((imin (p1.length : Int) 2000).toNat - 0)) 0).bind fun x2 => (T_envelope_Keogh k x2.1 x2.2.1 x2.2.2.1).bind fun x3 => (T_envelope_Keogh k x2.1 x2.2.1 (imin 32 (w64 (x2.2.2.1 + (w64 (p2)))))).bind fun x4 => (if (((!decide (x3.2 = 0)) || (!decide (x4.2 = 0))) || decide (x3.1 < x4.1)) = true then some false else (if (!decide ((x2.1.length : Int) = (x2.2.1.length : Int))) = true then ((T_law20_awake k).bind fun x7 => some x7) else ((T_keep_Src_Range k 1 (imin 8 (x2.1.length : Int)) ((p1.drop 0).take ((imin (p1.length : Int) 2000).toNat - 0)) x2.2.2.2).bind fun x8 => (T_envelope_Keogh k x2.1 x2.2.1 0).bind fun x9 => (T_envelope_Pieces k x2.1 x2.2.1 0 x8.1).bind fun x10 => (T_ref12_Distance k x2.1 x2.2.1).bind fun x11 => (T_ref18_Lower k x2.1 x2.2.1 x8.1).bind fun x12 => ((if (((decide (x9.2 = 0) && decide (x9.1 = x11.1)) && decide (x10.2.2 = 0)) && (decide (x10.1 = x12.1) && (decide (x10.2.1 = x12.2.1) && true))) = true then ((T_law20_awake k).bind fun x15 => some x15) else some false)).bind fun x16 => some x16))))
theorem T_law20_EnvelopeBands_ok (k : Nat) (p1 : List Int) (p2 : Int) (r : Bool) : T_law20_EnvelopeBands k p1 p2 = some r → evF X k n_law20_EnvelopeBands [(.one (.d (.list (p1.map (D.int .i64))))), (.one (.d (.int .u8 p2)))] [] = some ((B r), []) := by
  intro H
  cases k with
  | zero => simp [T_law20_EnvelopeBands] at H
  | succ k =>
    simp only [T_law20_EnvelopeBands] at H
    refine F_in X_law20_EnvelopeBands rfl ?_
    refine K_seq ?_
    refine K_reg [] [] ⟨[(0, (.one (.d (.list (p1.map (D.int .i64)))))), (1, (.one (.d (.int .u8 p2))))], []⟩ (by kernel_rfl) trivial ?_
    refine K_seq ?_
    obtain ⟨x1, hx1, H⟩ := bind_some' H
    refine K_reg [.r (.one (.ptr 0 0 0)) [.cells [.d (.list (((p1.drop 0).take ((imin (p1.length : Int) 2000).toNat - 0)).map (D.int .i64))), .d (.int .i64 0)]]] [evF X k n_keep_New [(.one (.d (.list (p1.map (D.int .i64)))))] [] = some ((.one (.ptr 0 0 0)), [.cells [.d (.list (((p1.drop 0).take ((imin (p1.length : Int) 2000).toNat - 0)).map (D.int .i64))), .d (.int .i64 0)]])] ⟨[(1, (.one (.d (.int .u8 p2)))), (5, (.one (.ptr 0 0 0)))], [.cells [.d (.list (((p1.drop 0).take ((imin (p1.length : Int) 2000).toNat - 0)).map (D.int .i64))), .d (.int .i64 0)]]⟩ (by kernel_rfl) (A1 (T_keep_New_ok k p1 x1 hx1)) ?_
    refine K_seq ?_
    obtain ⟨x2, hx2, H⟩ := bind_some' H
    refine K_reg [.r (.tup [(false, [.d (.list (x2.1.map (D.int .i64)))]), (false, [.d (.list (x2.2.1.map (D.int .i64)))]), (false, [.d (.int .i64 x2.2.2.1)])]) [.cells [.d (.list (((p1.drop 0).take ((imin (p1.length : Int) 2000).toNat - 0)).map (D.int .i64))), .d (.int .i64 x2.2.2.2)]]] [evF X k n_keep_Src_Uneven [(.one (.ptr 0 0 0))] [.cells [.d (.list (((p1.drop 0).take ((imin (p1.length : Int) 2000).toNat - 0)).map (D.int .i64))), .d (.int .i64 0)]] = some ((.tup [(false, [.d (.list (x2.1.map (D.int .i64)))]), (false, [.d (.list (x2.2.1.map (D.int .i64)))]), (false, [.d (.int .i64 x2.2.2.1)])]), [.cells [.d (.list (((p1.drop 0).take ((imin (p1.length : Int) 2000).toNat - 0)).map (D.int .i64))), .d (.int .i64 x2.2.2.2)]])] ⟨[(1, (.one (.d (.int .u8 p2)))), (5, (.one (.ptr 0 0 0))), (6, (.one (.d (.list (x2.1.map (D.int .i64)))))), (7, (.one (.d (.list (x2.2.1.map (D.int .i64)))))), (8, (I x2.2.2.1))], [.cells [.d (.list (((p1.drop 0).take ((imin (p1.length : Int) 2000).toNat - 0)).map (D.int .i64))), .d (.int .i64 x2.2.2.2)]]⟩ (by kernel_rfl) (A1 (T_keep_Src_Uneven_ok k ((p1.drop 0).take ((imin (p1.length : Int) 2000).toNat - 0)) 0 x2 hx2)) ?_
    refine K_seq ?_
    obtain ⟨x3, hx3, H⟩ := bind_some' H
    refine K_reg [.r (.tup [(false, [.d (.int .i64 x3.1)]), (false, [.d (.int .i64 x3.2)])]) []] [evF X k n_envelope_Keogh [(.one (.d (.list (x2.1.map (D.int .i64))))), (.one (.d (.list (x2.2.1.map (D.int .i64))))), (I x2.2.2.1)] [] = some ((.tup [(false, [.d (.int .i64 x3.1)]), (false, [.d (.int .i64 x3.2)])]), [])] ⟨[(1, (.one (.d (.int .u8 p2)))), (5, (.one (.ptr 0 0 0))), (6, (.one (.d (.list (x2.1.map (D.int .i64)))))), (7, (.one (.d (.list (x2.2.1.map (D.int .i64)))))), (8, (I x2.2.2.1)), (9, (I x3.1)), (10, (I x3.2))], [.cells [.d (.list (((p1.drop 0).take ((imin (p1.length : Int) 2000).toNat - 0)).map (D.int .i64))), .d (.int .i64 x2.2.2.2)]]⟩ (by kernel_rfl) (A1 (T_envelope_Keogh_ok k x2.1 x2.2.1 x2.2.2.1 x3 hx3)) ?_
    refine K_seq ?_
    obtain ⟨x4, hx4, H⟩ := bind_some' H
    refine K_reg [.r (.tup [(false, [.d (.int .i64 x4.1)]), (false, [.d (.int .i64 x4.2)])]) []] [evF X k n_envelope_Keogh [(.one (.d (.list (x2.1.map (D.int .i64))))), (.one (.d (.list (x2.2.1.map (D.int .i64))))), (I (imin 32 (w64 (x2.2.2.1 + (w64 (p2))))))] [] = some ((.tup [(false, [.d (.int .i64 x4.1)]), (false, [.d (.int .i64 x4.2)])]), [])] ⟨[(5, (.one (.ptr 0 0 0))), (6, (.one (.d (.list (x2.1.map (D.int .i64)))))), (7, (.one (.d (.list (x2.2.1.map (D.int .i64)))))), (9, (I x3.1)), (10, (I x3.2)), (11, (I x4.1)), (12, (I x4.2))], [.cells [.d (.list (((p1.drop 0).take ((imin (p1.length : Int) 2000).toNat - 0)).map (D.int .i64))), .d (.int .i64 x2.2.2.2)]]⟩ (by kernel_rfl) (A1 (T_envelope_Keogh_ok k x2.1 x2.2.1 (imin 32 (w64 (x2.2.2.1 + (w64 (p2))))) x4 hx4)) ?_
    refine K_seq ?_
    refine K_seq ?_
    refine K_reg [.m, .m] [([.cells [.d (.list (((p1.drop 0).take ((imin (p1.length : Int) 2000).toNat - 0)).map (D.int .i64))), .d (.int .i64 x2.2.2.2)]] : Heap) = [.cells [.d (.list (((p1.drop 0).take ((imin (p1.length : Int) 2000).toNat - 0)).map (D.int .i64))), .d (.int .i64 x2.2.2.2)]], ([.cells [.d (.list (((p1.drop 0).take ((imin (p1.length : Int) 2000).toNat - 0)).map (D.int .i64))), .d (.int .i64 x2.2.2.2)]] : Heap) = [.cells [.d (.list (((p1.drop 0).take ((imin (p1.length : Int) 2000).toNat - 0)).map (D.int .i64))), .d (.int .i64 x2.2.2.2)]]] ⟨[(5, (.one (.ptr 0 0 0))), (6, (.one (.d (.list (x2.1.map (D.int .i64)))))), (7, (.one (.d (.list (x2.2.1.map (D.int .i64)))))), (58, (B (((!decide (x3.2 = 0)) || (!decide (x4.2 = 0))) || decide (x3.1 < x4.1))))], [.cells [.d (.list (((p1.drop 0).take ((imin (p1.length : Int) 2000).toNat - 0)).map (D.int .i64))), .d (.int .i64 x2.2.2.2)]]⟩ (by kernel_rfl) (AC rfl (A1 rfl)) ?_
    rcases ite_some H with ⟨hx5, H⟩ | ⟨hx5, H⟩
    · refine K_t rfl hx5 ?_
      refine K_seq ?_
      refine K_reg [] [] ⟨[(4, (B false))], []⟩ (by kernel_rfl) trivial ?_
      refine K_gh ⟨[(4, (B false))], []⟩ (by kernel_rfl) ?_
      cases H
      refine K_ret ?_
      kernel_rfl
    · refine K_f rfl (Bool.eq_false_iff.2 hx5) ?_
      refine K_gh ⟨[(5, (.one (.ptr 0 0 0))), (6, (.one (.d (.list (x2.1.map (D.int .i64)))))), (7, (.one (.d (.list (x2.2.1.map (D.int .i64))))))], [.cells [.d (.list (((p1.drop 0).take ((imin (p1.length : Int) 2000).toNat - 0)).map (D.int .i64))), .d (.int .i64 x2.2.2.2)]]⟩ (by kernel_rfl) ?_
      refine K_skip ?_
      refine K_seq ?_
      refine K_seq ?_
      refine K_reg [.n x2.1.length, .n x2.2.1.length] [((x2.1.map (D.int .i64))).length = x2.1.length, ((x2.2.1.map (D.int .i64))).length = x2.2.1.length] ⟨[(5, (.one (.ptr 0 0 0))), (6, (.one (.d (.list (x2.1.map (D.int .i64)))))), (7, (.one (.d (.list (x2.2.1.map (D.int .i64)))))), (63, (B (!decide ((x2.1.length : Int) = (x2.2.1.length : Int)))))], [.cells [.d (.list (((p1.drop 0).take ((imin (p1.length : Int) 2000).toNat - 0)).map (D.int .i64))), .d (.int .i64 x2.2.2.2)]]⟩ (by kernel_rfl) (AC (List.length_map _) (A1 (List.length_map _))) ?_
      rcases ite_some H with ⟨hx6, H⟩ | ⟨hx6, H⟩
      · refine K_t rfl hx6 ?_
        refine K_seq ?_
        obtain ⟨x7, hx7, H⟩ := bind_some' H
        refine K_reg [.r (B x7) []] [evF X k n_law20_awake [] [] = some ((B x7), [])] ⟨[(4, (B x7))], []⟩ (by kernel_rfl) (A1 (T_law20_awake_ok k x7 hx7)) ?_
        refine K_gh ⟨[(4, (B x7))], []⟩ (by kernel_rfl) ?_
        cases H
        refine K_ret ?_
        kernel_rfl
      · refine K_f rfl (Bool.eq_false_iff.2 hx6) ?_
        refine K_gh ⟨[(5, (.one (.ptr 0 0 0))), (6, (.one (.d (.list (x2.1.map (D.int .i64)))))), (7, (.one (.d (.list (x2.2.1.map (D.int .i64))))))], [.cells [.d (.list (((p1.drop 0).take ((imin (p1.length : Int) 2000).toNat - 0)).map (D.int .i64))), .d (.int .i64 x2.2.2.2)]]⟩ (by kernel_rfl) ?_
        refine K_skip ?_
        refine K_seq ?_
        obtain ⟨x8, hx8, H⟩ := bind_some' H
        refine K_reg [.n x2.1.length, .r (I x8.1) [.cells [.d (.list (((p1.drop 0).take ((imin (p1.length : Int) 2000).toNat - 0)).map (D.int .i64))), .d (.int .i64 x8.2)]]] [((x2.1.map (D.int .i64))).length = x2.1.length, evF X k n_keep_Src_Range [(.one (.ptr 0 0 0)), (I 1), (I (imin 8 (x2.1.length : Int)))] [.cells [.d (.list (((p1.drop 0).take ((imin (p1.length : Int) 2000).toNat - 0)).map (D.int .i64))), .d (.int .i64 x2.2.2.2)]] = some ((I x8.1), [.cells [.d (.list (((p1.drop 0).take ((imin (p1.length : Int) 2000).toNat - 0)).map (D.int .i64))), .d (.int .i64 x8.2)]])] ⟨[(6, (.one (.d (.list (x2.1.map (D.int .i64)))))), (7, (.one (.d (.list (x2.2.1.map (D.int .i64)))))), (13, (I x8.1))], []⟩ (by kernel_rfl) (AC (List.length_map _) (A1 (T_keep_Src_Range_ok k 1 (imin 8 (x2.1.length : Int)) ((p1.drop 0).take ((imin (p1.length : Int) 2000).toNat - 0)) x2.2.2.2 x8 hx8))) ?_
        refine K_seq ?_
        obtain ⟨x9, hx9, H⟩ := bind_some' H
        refine K_reg [.r (.tup [(false, [.d (.int .i64 x9.1)]), (false, [.d (.int .i64 x9.2)])]) []] [evF X k n_envelope_Keogh [(.one (.d (.list (x2.1.map (D.int .i64))))), (.one (.d (.list (x2.2.1.map (D.int .i64))))), (I 0)] [] = some ((.tup [(false, [.d (.int .i64 x9.1)]), (false, [.d (.int .i64 x9.2)])]), [])] ⟨[(6, (.one (.d (.list (x2.1.map (D.int .i64)))))), (7, (.one (.d (.list (x2.2.1.map (D.int .i64)))))), (13, (I x8.1)), (14, (I x9.1)), (15, (I x9.2))], []⟩ (by kernel_rfl) (A1 (T_envelope_Keogh_ok k x2.1 x2.2.1 0 x9 hx9)) ?_
        refine K_seq ?_
        obtain ⟨x10, hx10, H⟩ := bind_some' H
        refine K_reg [.r (.tup [(true, [.d (.int .i64 x10.1), .d (.int .i64 x10.2.1)]), (false, [.d (.int .i64 x10.2.2)])]) []] [evF X k n_envelope_Pieces [(.one (.d (.list (x2.1.map (D.int .i64))))), (.one (.d (.list (x2.2.1.map (D.int .i64))))), (I 0), (I x8.1)] [] = some ((.tup [(true, [.d (.int .i64 x10.1), .d (.int .i64 x10.2.1)]), (false, [.d (.int .i64 x10.2.2)])]), [])] ⟨[(6, (.one (.d (.list (x2.1.map (D.int .i64)))))), (7, (.one (.d (.list (x2.2.1.map (D.int .i64)))))), (13, (I x8.1)), (14, (I x9.1)), (15, (I x9.2)), (16, (.one (.ptr 0 0 0))), (17, (I x10.2.2))], [.cells [.d (.int .i64 x10.1), .d (.int .i64 x10.2.1)]]⟩ (by kernel_rfl) (A1 (T_envelope_Pieces_ok k x2.1 x2.2.1 0 x8.1 x10 hx10)) ?_
        refine K_seq ?_
        obtain ⟨x11, hx11, H⟩ := bind_some' H
        refine K_reg [.r (.tup [(false, [.d (.int .i64 x11.1)]), (false, [.d (.int .i64 x11.2)])]) []] [evF X k n_ref12_Distance [(.one (.d (.list (x2.1.map (D.int .i64))))), (.one (.d (.list (x2.2.1.map (D.int .i64)))))] [] = some ((.tup [(false, [.d (.int .i64 x11.1)]), (false, [.d (.int .i64 x11.2)])]), [])] ⟨[(6, (.one (.d (.list (x2.1.map (D.int .i64)))))), (7, (.one (.d (.list (x2.2.1.map (D.int .i64)))))), (13, (I x8.1)), (14, (I x9.1)), (15, (I x9.2)), (16, (.one (.ptr 0 0 0))), (17, (I x10.2.2)), (18, (I x11.1))], [.cells [.d (.int .i64 x10.1), .d (.int .i64 x10.2.1)]]⟩ (by kernel_rfl) (A1 (T_ref12_Distance_ok k x2.1 x2.2.1 x11 hx11)) ?_
        refine K_seq ?_
        obtain ⟨x12, hx12, H⟩ := bind_some' H
        refine K_reg [.r (.tup [(true, [.d (.int .i64 x12.1), .d (.int .i64 x12.2.1)]), (false, [.d (.int .i64 x12.2.2)])]) []] [evF X k n_ref18_Lower [(.one (.d (.list (x2.1.map (D.int .i64))))), (.one (.d (.list (x2.2.1.map (D.int .i64))))), (I x8.1)] [] = some ((.tup [(true, [.d (.int .i64 x12.1), .d (.int .i64 x12.2.1)]), (false, [.d (.int .i64 x12.2.2)])]), [])] ⟨[(14, (I x9.1)), (15, (I x9.2)), (16, (.one (.ptr 0 0 0))), (17, (I x10.2.2)), (18, (I x11.1)), (20, (.one (.ptr 1 0 0)))], [.cells [.d (.int .i64 x10.1), .d (.int .i64 x10.2.1)], .cells [.d (.int .i64 x12.1), .d (.int .i64 x12.2.1)]]⟩ (by kernel_rfl) (A1 (T_ref18_Lower_ok k x2.1 x2.2.1 x8.1 x12 hx12)) ?_
        refine K_seq ?_
        obtain ⟨x16, hx16, H⟩ := bind_some' H
        refine K_of ⟨[(4, (B x16))], []⟩ ?_ ?_
        · clear H; have H := hx16; clear hx16; refine K_in ?_
          rcases ite_some H with ⟨hx14, H⟩ | ⟨hx14, H⟩
          · obtain ⟨x15, hx15, H⟩ := bind_some' H
            refine K_reg [.m, .m, .m, .b true, .r (B x15) []] [([.cells [.d (.int .i64 x10.1), .d (.int .i64 x10.2.1)], .cells [.d (.int .i64 x12.1), .d (.int .i64 x12.2.1)]] : Heap) = [.cells [.d (.int .i64 x10.1), .d (.int .i64 x10.2.1)], .cells [.d (.int .i64 x12.1), .d (.int .i64 x12.2.1)]], ([.cells [.d (.int .i64 x10.1), .d (.int .i64 x10.2.1)], .cells [.d (.int .i64 x12.1), .d (.int .i64 x12.2.1)]] : Heap) = [.cells [.d (.int .i64 x10.1), .d (.int .i64 x10.2.1)], .cells [.d (.int .i64 x12.1), .d (.int .i64 x12.2.1)]], ([.cells [.d (.int .i64 x10.1), .d (.int .i64 x10.2.1)], .cells [.d (.int .i64 x12.1), .d (.int .i64 x12.2.1)]] : Heap) = [.cells [.d (.int .i64 x10.1), .d (.int .i64 x10.2.1)], .cells [.d (.int .i64 x12.1), .d (.int .i64 x12.2.1)]], (((decide (x9.2 = 0) && decide (x9.1 = x11.1)) && decide (x10.2.2 = 0)) && (decide (x10.1 = x12.1) && (decide (x10.2.1 = x12.2.1) && true))) = true, evF X k n_law20_awake [] [] = some ((B x15), [])] ⟨[(4, (B x15))], []⟩ (by kernel_rfl) (AC rfl (AC rfl (AC rfl (AC hx14 (A1 (T_law20_awake_ok k x15 hx15)))))) ?_
            cases H
            exact K_end rfl
          · refine K_reg [.m, .m, .m, .b false] [([.cells [.d (.int .i64 x10.1), .d (.int .i64 x10.2.1)], .cells [.d (.int .i64 x12.1), .d (.int .i64 x12.2.1)]] : Heap) = [.cells [.d (.int .i64 x10.1), .d (.int .i64 x10.2.1)], .cells [.d (.int .i64 x12.1), .d (.int .i64 x12.2.1)]], ([.cells [.d (.int .i64 x10.1), .d (.int .i64 x10.2.1)], .cells [.d (.int .i64 x12.1), .d (.int .i64 x12.2.1)]] : Heap) = [.cells [.d (.int .i64 x10.1), .d (.int .i64 x10.2.1)], .cells [.d (.int .i64 x12.1), .d (.int .i64 x12.2.1)]], ([.cells [.d (.int .i64 x10.1), .d (.int .i64 x10.2.1)], .cells [.d (.int .i64 x12.1), .d (.int .i64 x12.2.1)]] : Heap) = [.cells [.d (.int .i64 x10.1), .d (.int .i64 x10.2.1)], .cells [.d (.int .i64 x12.1), .d (.int .i64 x12.2.1)]], (((decide (x9.2 = 0) && decide (x9.1 = x11.1)) && decide (x10.2.2 = 0)) && (decide (x10.1 = x12.1) && (decide (x10.2.1 = x12.2.1) && true))) = false] ⟨[(4, (B false))], []⟩ (by kernel_rfl) (AC rfl (AC rfl (AC rfl (A1 (Bool.eq_false_iff.2 hx14))))) ?_
            cases H
            exact K_end rfl
        refine K_gh ⟨[(4, (B x16))], []⟩ (by kernel_rfl) ?_
        cases H
        refine K_ret ?_
        kernel_rfl
end Go.Proofs.Ytdelnjemfjihpaa.envelopeBands
