/- What the functions that the statement WordAnswers reaches compute, told as functions of Lean, and that the theory's language computes the same: part 2 of 3. There are no conditions. -/
import Derived.Test.YtdnegloonbanpaaTWordAnswers0
set_option maxRecDepth 100000
set_option linter.unusedVariables false
set_option linter.unusedSimpArgs false
namespace Go.Proofs.Ytdnegloonbanpaa.wordAnswers
open Go
def T_keep_Src_Odd (k : Nat) (p1 : Int) (p2 : Int) (p3 : Int) (p4 : List Int) (p5 : Int) : Option (Int × Int × Int × Int) := match k with
 | 0 => none
 | k + 1 => ((T_keep_Src_N k 4 p4 p5).bind fun x1 => ((if x1.1 = 0 then ((T_keep_Src_Pick k ([(-1), 0, 6, 1, 4] : List Int) p4 x1.2).bind fun x3 => some (x3.2, x3.1, p2, p3)) else (if x1.1 = 1 then ((T_keep_Src_Pick k ([(-1), 1, 32, 33] : List Int) p4 x1.2).bind fun x5 => some (x5.2, p1, x5.1, p3)) else (if x1.1 = 2 then ((T_keep_Src_Pick k ([(-1001), 1, 1000, 1001] : List Int) p4 x1.2).bind fun x7 => some (x7.2, p1, p2, x7.1)) else some (x1.2, p1, p2, p3))))).bind fun x8 => some (x8.2.1, x8.2.2.1, x8.2.2.2, x8.1))
theorem T_keep_Src_Odd_ok (k : Nat) (p1 : Int) (p2 : Int) (p3 : Int) (p4 : List Int) (p5 : Int) (r : Int × Int × Int × Int) : T_keep_Src_Odd k p1 p2 p3 p4 p5 = some r → evF X k n_keep_Src_Odd [(.one (.ptr 0 0 0)), (.agg [.d (.int .i64 p1), .d (.int .i64 p2), .d (.int .i64 p3)])] [.cells [.d (.list (p4.map (D.int .i64))), .d (.int .i64 p5)]] = some ((.agg [.d (.int .i64 r.1), .d (.int .i64 r.2.1), .d (.int .i64 r.2.2.1)]), [.cells [.d (.list (p4.map (D.int .i64))), .d (.int .i64 r.2.2.2)]]) := by
 intro H
 cases k with
 | zero => simp [T_keep_Src_Odd] at H
 | succ k =>
  simp only [T_keep_Src_Odd] at H
  refine F_in X_keep_Src_Odd rfl ?_
  refine K_seq ?_
  refine K_reg [] [] ⟨[(0, (.one (.ptr 0 0 0))), (3, (.one (.ptr 1 0 0))), (4, (.one (.ptr 2 0 0)))], [.cells [.d (.list (p4.map (D.int .i64))), .d (.int .i64 p5)], .cells [.d (.int .i64 p1), .d (.int .i64 p2), .d (.int .i64 p3)], .cells [.d (.int .i64 0), .d (.int .i64 0), .d (.int .i64 0)]]⟩ (by kernel_rfl) trivial ?_
  refine K_seq ?_
  refine K_seq ?_
  obtain ⟨x1, hx1, H⟩ := bind_some' H
  refine K_reg [.r (I x1.1) [.cells [.d (.list (p4.map (D.int .i64))), .d (.int .i64 x1.2)]]] [evF X k n_keep_Src_N [(.one (.ptr 0 0 0)), (I 4)] [.cells [.d (.list (p4.map (D.int .i64))), .d (.int .i64 p5)]] = some ((I x1.1), [.cells [.d (.list (p4.map (D.int .i64))), .d (.int .i64 x1.2)]])] ⟨[(0, (.one (.ptr 0 0 0))), (3, (.one (.ptr 1 0 0))), (4, (.one (.ptr 2 0 0))), (6, (I x1.1))], [.cells [.d (.list (p4.map (D.int .i64))), .d (.int .i64 x1.2)], .cells [.d (.int .i64 p1), .d (.int .i64 p2), .d (.int .i64 p3)], .cells [.d (.int .i64 0), .d (.int .i64 0), .d (.int .i64 0)]]⟩ (by kernel_rfl) (A1 (T_keep_Src_N_ok k 4 p4 p5 x1 hx1)) ?_
  refine K_block ?_
  refine K_seq ?_
  refine K_reg [] [] ⟨[(0, (.one (.ptr 0 0 0))), (3, (.one (.ptr 1 0 0))), (4, (.one (.ptr 2 0 0))), (6, (I x1.1)), (7, (B (decide (x1.1 = 0))))], [.cells [.d (.list (p4.map (D.int .i64))), .d (.int .i64 x1.2)], .cells [.d (.int .i64 p1), .d (.int .i64 p2), .d (.int .i64 p3)], .cells [.d (.int .i64 0), .d (.int .i64 0), .d (.int .i64 0)]]⟩ (by kernel_rfl) trivial ?_
  obtain ⟨x8, hx8, H⟩ := bind_some' H
  refine K_of ⟨[(3, (.one (.ptr 1 0 0))), (4, (.one (.ptr 2 0 0)))], [.cells [.d (.list (p4.map (D.int .i64))), .d (.int .i64 x8.1)], .cells [.d (.int .i64 x8.2.1), .d (.int .i64 x8.2.2.1), .d (.int .i64 x8.2.2.2)], .cells [.d (.int .i64 0), .d (.int .i64 0), .d (.int .i64 0)]]⟩ ?_ ?_
  · clear H; have H := hx8; clear hx8; refine K_in ?_
    rcases ite_some H with ⟨hx2, H⟩ | ⟨hx2, H⟩
    · refine K_t rfl (decide_eq_true hx2) ?_
      obtain ⟨x3, hx3, H⟩ := bind_some' H
      refine K_reg [.r (I x3.1) [.cells [.d (.list (p4.map (D.int .i64))), .d (.int .i64 x3.2)]]] [evF X k n_keep_Src_Pick [(.one (.ptr 0 0 0)), (LI ([(-1), 0, 6, 1, 4] : List Int))] [.cells [.d (.list (p4.map (D.int .i64))), .d (.int .i64 x1.2)]] = some ((I x3.1), [.cells [.d (.list (p4.map (D.int .i64))), .d (.int .i64 x3.2)]])] ⟨[(3, (.one (.ptr 1 0 0))), (4, (.one (.ptr 2 0 0)))], [.cells [.d (.list (p4.map (D.int .i64))), .d (.int .i64 x3.2)], .cells [.d (.int .i64 x3.1), .d (.int .i64 p2), .d (.int .i64 p3)], .cells [.d (.int .i64 0), .d (.int .i64 0), .d (.int .i64 0)]]⟩ (by kernel_rfl) (A1 (T_keep_Src_Pick_ok k ([(-1), 0, 6, 1, 4] : List Int) p4 x1.2 x3 hx3)) ?_
      cases H
      exact K_end rfl
    · refine K_f rfl (decide_eq_false hx2) ?_
      refine K_seq ?_
      refine K_reg [] [] ⟨[(0, (.one (.ptr 0 0 0))), (3, (.one (.ptr 1 0 0))), (4, (.one (.ptr 2 0 0))), (6, (I x1.1)), (13, (B (decide (x1.1 = 1))))], [.cells [.d (.list (p4.map (D.int .i64))), .d (.int .i64 x1.2)], .cells [.d (.int .i64 p1), .d (.int .i64 p2), .d (.int .i64 p3)], .cells [.d (.int .i64 0), .d (.int .i64 0), .d (.int .i64 0)]]⟩ (by kernel_rfl) trivial ?_
      rcases ite_some H with ⟨hx4, H⟩ | ⟨hx4, H⟩
      · refine K_t rfl (decide_eq_true hx4) ?_
        obtain ⟨x5, hx5, H⟩ := bind_some' H
        refine K_reg [.r (I x5.1) [.cells [.d (.list (p4.map (D.int .i64))), .d (.int .i64 x5.2)]]] [evF X k n_keep_Src_Pick [(.one (.ptr 0 0 0)), (LI ([(-1), 1, 32, 33] : List Int))] [.cells [.d (.list (p4.map (D.int .i64))), .d (.int .i64 x1.2)]] = some ((I x5.1), [.cells [.d (.list (p4.map (D.int .i64))), .d (.int .i64 x5.2)]])] ⟨[(3, (.one (.ptr 1 0 0))), (4, (.one (.ptr 2 0 0)))], [.cells [.d (.list (p4.map (D.int .i64))), .d (.int .i64 x5.2)], .cells [.d (.int .i64 p1), .d (.int .i64 x5.1), .d (.int .i64 p3)], .cells [.d (.int .i64 0), .d (.int .i64 0), .d (.int .i64 0)]]⟩ (by kernel_rfl) (A1 (T_keep_Src_Pick_ok k ([(-1), 1, 32, 33] : List Int) p4 x1.2 x5 hx5)) ?_
        cases H
        exact K_end rfl
      · refine K_f rfl (decide_eq_false hx4) ?_
        refine K_seq ?_
        refine K_reg [] [] ⟨[(0, (.one (.ptr 0 0 0))), (3, (.one (.ptr 1 0 0))), (4, (.one (.ptr 2 0 0))), (19, (B (decide (x1.1 = 2))))], [.cells [.d (.list (p4.map (D.int .i64))), .d (.int .i64 x1.2)], .cells [.d (.int .i64 p1), .d (.int .i64 p2), .d (.int .i64 p3)], .cells [.d (.int .i64 0), .d (.int .i64 0), .d (.int .i64 0)]]⟩ (by kernel_rfl) trivial ?_
        rcases ite_some H with ⟨hx6, H⟩ | ⟨hx6, H⟩
        · refine K_t rfl (decide_eq_true hx6) ?_
          obtain ⟨x7, hx7, H⟩ := bind_some' H
          refine K_reg [.r (I x7.1) [.cells [.d (.list (p4.map (D.int .i64))), .d (.int .i64 x7.2)]]] [evF X k n_keep_Src_Pick [(.one (.ptr 0 0 0)), (LI ([(-1001), 1, 1000, 1001] : List Int))] [.cells [.d (.list (p4.map (D.int .i64))), .d (.int .i64 x1.2)]] = some ((I x7.1), [.cells [.d (.list (p4.map (D.int .i64))), .d (.int .i64 x7.2)]])] ⟨[(3, (.one (.ptr 1 0 0))), (4, (.one (.ptr 2 0 0)))], [.cells [.d (.list (p4.map (D.int .i64))), .d (.int .i64 x7.2)], .cells [.d (.int .i64 p1), .d (.int .i64 p2), .d (.int .i64 x7.1)], .cells [.d (.int .i64 0), .d (.int .i64 0), .d (.int .i64 0)]]⟩ (by kernel_rfl) (A1 (T_keep_Src_Pick_ok k ([(-1001), 1, 1000, 1001] : List Int) p4 x1.2 x7 hx7)) ?_
          cases H
          exact K_end rfl
        · refine K_f rfl (decide_eq_false hx6) ?_
          refine K_gh ⟨[(3, (.one (.ptr 1 0 0))), (4, (.one (.ptr 2 0 0)))], [.cells [.d (.list (p4.map (D.int .i64))), .d (.int .i64 x1.2)], .cells [.d (.int .i64 p1), .d (.int .i64 p2), .d (.int .i64 p3)], .cells [.d (.int .i64 0), .d (.int .i64 0), .d (.int .i64 0)]]⟩ (by kernel_rfl) ?_
          refine K_skip ?_
          cases H
          exact K_end rfl
  refine K_blk ?_
  refine K_seq ?_
  refine K_reg [] [] ⟨[(4, (.one (.ptr 1 0 0)))], [.cells [.d (.list (p4.map (D.int .i64))), .d (.int .i64 x8.1)], .cells [.d (.int .i64 x8.2.1), .d (.int .i64 x8.2.2.1), .d (.int .i64 x8.2.2.2)]]⟩ (by kernel_rfl) trivial ?_
  refine K_gh ⟨[(4, (.one (.ptr 1 0 0)))], [.cells [.d (.list (p4.map (D.int .i64))), .d (.int .i64 x8.1)], .cells [.d (.int .i64 x8.2.1), .d (.int .i64 x8.2.2.1), .d (.int .i64 x8.2.2.2)]]⟩ (by kernel_rfl) ?_
  cases H
  refine K_ret ?_
  kernel_rfl
def T_keep_Src_Queer (k : Nat) (p1 : Int) (p2 : Int) (p3 : Int) (p4 : Int) (p5 : Int) (p6 : List Int) (p7 : List Int) (p8 : Int) : Option (Int × Int × Int × Int × Int × (List Int) × Int) := match k with
 | 0 => none
 | k + 1 => ((T_keep_Src_N k 5 p7 p8).bind fun x1 => (if x1.1 = 0 then ((T_keep_Src_Odd k p1 p2 p3 p7 x1.2).bind fun x16 => some (x16.1, x16.2.1, x16.2.2.1, p4, p5, p6, x16.2.2.2)) else (if x1.1 = 1 then ((T_keep_Src_Pick k ([0, 1, 2, 32, 33] : List Int) p7 x1.2).bind fun x29 => some (p1, p2, p3, x29.1, p5, p6, x29.2)) else (if x1.1 = 2 then ((T_keep_Src_Pick k ([0, 1, 8, 9, p4, (w64 (p4 + 1))] : List Int) p7 x1.2).bind fun x40 => some (p1, p2, p3, p4, x40.1, p6, x40.2)) else (((if x1.1 = 3 then (if 0 + p6.length ≤ LIM then (T_keep_Src_Range k (-9) 9 p7 x1.2).bind fun x43 => (T_keep_Src_Pick k ([2000, 2001, 0] : List Int) p7 x43.2).bind fun x44 => (if (0 + p6.length) + 2 ≤ LIM then some (x44.2, ((0 + p6.length) + 2), ((((([] : List Int).drop 0).take 0 ++ p6).drop 0).take (0 + p6.length) ++ ([x43.1, x44.1] : List Int))) else none) else none) else (T_keep_Src_Pick k ([1, 2, 16] : List Int) p7 x1.2).bind fun x46 => (if (0 : Int) ≤ x46.1 ∧ x46.1 ≤ x46.1 ∧ x46.1 ≤ (LIM : Int) then some (x46.2, x46.1.toNat, (List.replicate x46.1.toNat (0 : Int))) else none))).bind fun x48 => some (p1, p2, p3, p4, p5, ((x48.2.2.drop 0).take x48.2.1), x48.1))))))
theorem T_keep_Src_Queer_ok (k : Nat) (p1 : Int) (p2 : Int) (p3 : Int) (p4 : Int) (p5 : Int) (p6 : List Int) (p7 : List Int) (p8 : Int) (r : Int × Int × Int × Int × Int × (List Int) × Int) : T_keep_Src_Queer k p1 p2 p3 p4 p5 p6 p7 p8 = some r → evF X k n_keep_Src_Queer [(.one (.ptr 0 0 0)), (.agg [.d (.int .i64 p1), .d (.int .i64 p2), .d (.int .i64 p3), .d (.int .i64 p4), .d (.int .i64 p5), .d (.list (p6.map (D.int .i64)))])] [.cells [.d (.list (p7.map (D.int .i64))), .d (.int .i64 p8)]] = some ((.agg [.d (.int .i64 r.1), .d (.int .i64 r.2.1), .d (.int .i64 r.2.2.1), .d (.int .i64 r.2.2.2.1), .d (.int .i64 r.2.2.2.2.1), .d (.list (r.2.2.2.2.2.1.map (D.int .i64)))]), [.cells [.d (.list (p7.map (D.int .i64))), .d (.int .i64 r.2.2.2.2.2.2)]]) := by
 intro H
 cases k with
 | zero => simp [T_keep_Src_Queer] at H
 | succ k =>
  simp only [T_keep_Src_Queer] at H
  refine F_in X_keep_Src_Queer rfl ?_
  refine K_seq ?_
  refine K_reg [] [] ⟨[(0, (.one (.ptr 0 0 0))), (3, (.one (.ptr 1 0 0))), (4, (.one (.ptr 2 0 0)))], [.cells [.d (.list (p7.map (D.int .i64))), .d (.int .i64 p8)], .cells [.d (.int .i64 p1), .d (.int .i64 p2), .d (.int .i64 p3), .d (.int .i64 p4), .d (.int .i64 p5), .d (.list (p6.map (D.int .i64)))], .cells [.d (.int .i64 0), .d (.int .i64 0), .d (.int .i64 0), .d (.int .i64 0), .d (.int .i64 0), .nil]]⟩ (by kernel_rfl) trivial ?_
  refine K_seq ?_
  refine K_seq ?_
  obtain ⟨x1, hx1, H⟩ := bind_some' H
  refine K_reg [.r (I x1.1) [.cells [.d (.list (p7.map (D.int .i64))), .d (.int .i64 x1.2)]]] [evF X k n_keep_Src_N [(.one (.ptr 0 0 0)), (I 5)] [.cells [.d (.list (p7.map (D.int .i64))), .d (.int .i64 p8)]] = some ((I x1.1), [.cells [.d (.list (p7.map (D.int .i64))), .d (.int .i64 x1.2)]])] ⟨[(0, (.one (.ptr 0 0 0))), (3, (.one (.ptr 1 0 0))), (4, (.one (.ptr 2 0 0))), (6, (I x1.1))], [.cells [.d (.list (p7.map (D.int .i64))), .d (.int .i64 x1.2)], .cells [.d (.int .i64 p1), .d (.int .i64 p2), .d (.int .i64 p3), .d (.int .i64 p4), .d (.int .i64 p5), .d (.list (p6.map (D.int .i64)))], .cells [.d (.int .i64 0), .d (.int .i64 0), .d (.int .i64 0), .d (.int .i64 0), .d (.int .i64 0), .nil]]⟩ (by kernel_rfl) (A1 (T_keep_Src_N_ok k 5 p7 p8 x1 hx1)) ?_
  refine K_block ?_
  refine K_seq ?_
  refine K_reg [] [] ⟨[(0, (.one (.ptr 0 0 0))), (3, (.one (.ptr 1 0 0))), (4, (.one (.ptr 2 0 0))), (6, (I x1.1)), (12, (B (decide (x1.1 = 0))))], [.cells [.d (.list (p7.map (D.int .i64))), .d (.int .i64 x1.2)], .cells [.d (.int .i64 p1), .d (.int .i64 p2), .d (.int .i64 p3), .d (.int .i64 p4), .d (.int .i64 p5), .d (.list (p6.map (D.int .i64)))], .cells [.d (.int .i64 0), .d (.int .i64 0), .d (.int .i64 0), .d (.int .i64 0), .d (.int .i64 0), .nil]]⟩ (by kernel_rfl) trivial ?_
  rcases ite_some H with ⟨hx15, H⟩ | ⟨hx15, H⟩
  · refine K_t rfl (decide_eq_true hx15) ?_
    obtain ⟨x16, hx16, H⟩ := bind_some' H
    refine K_reg [.r (.agg [.d (.int .i64 x16.1), .d (.int .i64 x16.2.1), .d (.int .i64 x16.2.2.1)]) [.cells [.d (.list (p7.map (D.int .i64))), .d (.int .i64 x16.2.2.2)]]] [evF X k n_keep_Src_Odd [(.one (.ptr 0 0 0)), (.agg [.d (.int .i64 p1), .d (.int .i64 p2), .d (.int .i64 p3)])] [.cells [.d (.list (p7.map (D.int .i64))), .d (.int .i64 x1.2)]] = some ((.agg [.d (.int .i64 x16.1), .d (.int .i64 x16.2.1), .d (.int .i64 x16.2.2.1)]), [.cells [.d (.list (p7.map (D.int .i64))), .d (.int .i64 x16.2.2.2)]])] ⟨[(3, (.one (.ptr 1 0 0))), (4, (.one (.ptr 2 0 0)))], [.cells [.d (.list (p7.map (D.int .i64))), .d (.int .i64 x16.2.2.2)], .cells [.d (.int .i64 x16.1), .d (.int .i64 x16.2.1), .d (.int .i64 x16.2.2.1), .d (.int .i64 p4), .d (.int .i64 p5), .d (.list (p6.map (D.int .i64)))], .cells [.d (.int .i64 0), .d (.int .i64 0), .d (.int .i64 0), .d (.int .i64 0), .d (.int .i64 0), .nil]]⟩ (by kernel_rfl) (A1 (T_keep_Src_Odd_ok k p1 p2 p3 p7 x1.2 x16 hx16)) ?_
    refine K_blk ?_
    refine K_seq ?_
    refine K_reg [] [] ⟨[(4, (.one (.ptr 1 0 0)))], [.cells [.d (.list (p7.map (D.int .i64))), .d (.int .i64 x16.2.2.2)], .cells [.d (.int .i64 x16.1), .d (.int .i64 x16.2.1), .d (.int .i64 x16.2.2.1), .d (.int .i64 p4), .d (.int .i64 p5), .d (.list (p6.map (D.int .i64)))]]⟩ (by kernel_rfl) trivial ?_
    refine K_gh ⟨[(4, (.one (.ptr 1 0 0)))], [.cells [.d (.list (p7.map (D.int .i64))), .d (.int .i64 x16.2.2.2)], .cells [.d (.int .i64 x16.1), .d (.int .i64 x16.2.1), .d (.int .i64 x16.2.2.1), .d (.int .i64 p4), .d (.int .i64 p5), .d (.list (p6.map (D.int .i64)))]]⟩ (by kernel_rfl) ?_
    cases H
    refine K_ret ?_
    kernel_rfl
  · refine K_f rfl (decide_eq_false hx15) ?_
    refine K_seq ?_
    refine K_reg [] [] ⟨[(0, (.one (.ptr 0 0 0))), (3, (.one (.ptr 1 0 0))), (4, (.one (.ptr 2 0 0))), (6, (I x1.1)), (19, (B (decide (x1.1 = 1))))], [.cells [.d (.list (p7.map (D.int .i64))), .d (.int .i64 x1.2)], .cells [.d (.int .i64 p1), .d (.int .i64 p2), .d (.int .i64 p3), .d (.int .i64 p4), .d (.int .i64 p5), .d (.list (p6.map (D.int .i64)))], .cells [.d (.int .i64 0), .d (.int .i64 0), .d (.int .i64 0), .d (.int .i64 0), .d (.int .i64 0), .nil]]⟩ (by kernel_rfl) trivial ?_
    rcases ite_some H with ⟨hx28, H⟩ | ⟨hx28, H⟩
    · refine K_t rfl (decide_eq_true hx28) ?_
      obtain ⟨x29, hx29, H⟩ := bind_some' H
      refine K_reg [.r (I x29.1) [.cells [.d (.list (p7.map (D.int .i64))), .d (.int .i64 x29.2)]]] [evF X k n_keep_Src_Pick [(.one (.ptr 0 0 0)), (LI ([0, 1, 2, 32, 33] : List Int))] [.cells [.d (.list (p7.map (D.int .i64))), .d (.int .i64 x1.2)]] = some ((I x29.1), [.cells [.d (.list (p7.map (D.int .i64))), .d (.int .i64 x29.2)]])] ⟨[(3, (.one (.ptr 1 0 0))), (4, (.one (.ptr 2 0 0)))], [.cells [.d (.list (p7.map (D.int .i64))), .d (.int .i64 x29.2)], .cells [.d (.int .i64 p1), .d (.int .i64 p2), .d (.int .i64 p3), .d (.int .i64 x29.1), .d (.int .i64 p5), .d (.list (p6.map (D.int .i64)))], .cells [.d (.int .i64 0), .d (.int .i64 0), .d (.int .i64 0), .d (.int .i64 0), .d (.int .i64 0), .nil]]⟩ (by kernel_rfl) (A1 (T_keep_Src_Pick_ok k ([0, 1, 2, 32, 33] : List Int) p7 x1.2 x29 hx29)) ?_
      refine K_blk ?_
      refine K_seq ?_
      refine K_reg [] [] ⟨[(4, (.one (.ptr 1 0 0)))], [.cells [.d (.list (p7.map (D.int .i64))), .d (.int .i64 x29.2)], .cells [.d (.int .i64 p1), .d (.int .i64 p2), .d (.int .i64 p3), .d (.int .i64 x29.1), .d (.int .i64 p5), .d (.list (p6.map (D.int .i64)))]]⟩ (by kernel_rfl) trivial ?_
      refine K_gh ⟨[(4, (.one (.ptr 1 0 0)))], [.cells [.d (.list (p7.map (D.int .i64))), .d (.int .i64 x29.2)], .cells [.d (.int .i64 p1), .d (.int .i64 p2), .d (.int .i64 p3), .d (.int .i64 x29.1), .d (.int .i64 p5), .d (.list (p6.map (D.int .i64)))]]⟩ (by kernel_rfl) ?_
      cases H
      refine K_ret ?_
      kernel_rfl
    · refine K_f rfl (decide_eq_false hx28) ?_
      refine K_seq ?_
      refine K_reg [] [] ⟨[(0, (.one (.ptr 0 0 0))), (3, (.one (.ptr 1 0 0))), (4, (.one (.ptr 2 0 0))), (6, (I x1.1)), (25, (B (decide (x1.1 = 2))))], [.cells [.d (.list (p7.map (D.int .i64))), .d (.int .i64 x1.2)], .cells [.d (.int .i64 p1), .d (.int .i64 p2), .d (.int .i64 p3), .d (.int .i64 p4), .d (.int .i64 p5), .d (.list (p6.map (D.int .i64)))], .cells [.d (.int .i64 0), .d (.int .i64 0), .d (.int .i64 0), .d (.int .i64 0), .d (.int .i64 0), .nil]]⟩ (by kernel_rfl) trivial ?_
      rcases ite_some H with ⟨hx39, H⟩ | ⟨hx39, H⟩
      · refine K_t rfl (decide_eq_true hx39) ?_
        obtain ⟨x40, hx40, H⟩ := bind_some' H
        refine K_reg [.r (I x40.1) [.cells [.d (.list (p7.map (D.int .i64))), .d (.int .i64 x40.2)]]] [evF X k n_keep_Src_Pick [(.one (.ptr 0 0 0)), (LI ([0, 1, 8, 9, p4, (w64 (p4 + 1))] : List Int))] [.cells [.d (.list (p7.map (D.int .i64))), .d (.int .i64 x1.2)]] = some ((I x40.1), [.cells [.d (.list (p7.map (D.int .i64))), .d (.int .i64 x40.2)]])] ⟨[(3, (.one (.ptr 1 0 0))), (4, (.one (.ptr 2 0 0)))], [.cells [.d (.list (p7.map (D.int .i64))), .d (.int .i64 x40.2)], .cells [.d (.int .i64 p1), .d (.int .i64 p2), .d (.int .i64 p3), .d (.int .i64 p4), .d (.int .i64 x40.1), .d (.list (p6.map (D.int .i64)))], .cells [.d (.int .i64 0), .d (.int .i64 0), .d (.int .i64 0), .d (.int .i64 0), .d (.int .i64 0), .nil]]⟩ (by kernel_rfl) (A1 (T_keep_Src_Pick_ok k ([0, 1, 8, 9, p4, (w64 (p4 + 1))] : List Int) p7 x1.2 x40 hx40)) ?_
        refine K_blk ?_
        refine K_seq ?_
        refine K_reg [] [] ⟨[(4, (.one (.ptr 1 0 0)))], [.cells [.d (.list (p7.map (D.int .i64))), .d (.int .i64 x40.2)], .cells [.d (.int .i64 p1), .d (.int .i64 p2), .d (.int .i64 p3), .d (.int .i64 p4), .d (.int .i64 x40.1), .d (.list (p6.map (D.int .i64)))]]⟩ (by kernel_rfl) trivial ?_
        refine K_gh ⟨[(4, (.one (.ptr 1 0 0)))], [.cells [.d (.list (p7.map (D.int .i64))), .d (.int .i64 x40.2)], .cells [.d (.int .i64 p1), .d (.int .i64 p2), .d (.int .i64 p3), .d (.int .i64 p4), .d (.int .i64 x40.1), .d (.list (p6.map (D.int .i64)))]]⟩ (by kernel_rfl) ?_
        cases H
        refine K_ret ?_
        kernel_rfl
      · refine K_f rfl (decide_eq_false hx39) ?_
        refine K_seq ?_
        refine K_reg [] [] ⟨[(0, (.one (.ptr 0 0 0))), (3, (.one (.ptr 1 0 0))), (4, (.one (.ptr 2 0 0))), (36, (B (decide (x1.1 = 3))))], [.cells [.d (.list (p7.map (D.int .i64))), .d (.int .i64 x1.2)], .cells [.d (.int .i64 p1), .d (.int .i64 p2), .d (.int .i64 p3), .d (.int .i64 p4), .d (.int .i64 p5), .d (.list (p6.map (D.int .i64)))], .cells [.d (.int .i64 0), .d (.int .i64 0), .d (.int .i64 0), .d (.int .i64 0), .d (.int .i64 0), .nil]]⟩ (by kernel_rfl) trivial ?_
        obtain ⟨x48, hx48, H⟩ := bind_some' H
        refine K_of ⟨[(3, (.one (.ptr 1 0 0))), (4, (.one (.ptr 3 0 0)))], [.cells [.d (.list (p7.map (D.int .i64))), .d (.int .i64 x48.1)], .cells [.d (.int .i64 p1), .d (.int .i64 p2), .d (.int .i64 p3), .d (.int .i64 p4), .d (.int .i64 p5), .own 2 0 x48.2.1], VI x48.2.2, .cells [.d (.int .i64 0), .d (.int .i64 0), .d (.int .i64 0), .d (.int .i64 0), .d (.int .i64 0), .nil]]⟩ ?_ ?_
        · clear H; have H := hx48; clear hx48; refine K_in ?_
          rcases ite_some H with ⟨hx41, H⟩ | ⟨hx41, H⟩
          · refine K_t rfl (decide_eq_true hx41) ?_
            obtain ⟨hx42, H⟩ := guard_some H
            obtain ⟨x43, hx43, H⟩ := bind_some' H
            obtain ⟨x44, hx44, H⟩ := bind_some' H
            obtain ⟨hx45, H⟩ := guard_some H
            refine K_reg [.n p6.length, .l (((([] : List Int).drop 0).take 0 ++ p6).map (D.int .i64)), .r (I x43.1) [.cells [.d (.list (p7.map (D.int .i64))), .d (.int .i64 x43.2)]], .r (I x44.1) [.cells [.d (.list (p7.map (D.int .i64))), .d (.int .i64 x44.2)]], .n 2, .l (((((([] : List Int).drop 0).take 0 ++ p6).drop 0).take (0 + p6.length) ++ ([x43.1, x44.1] : List Int)).map (D.int .i64))] [(List.all (p6.map (D.int .i64)) fun d => d.cells.length == (D.cells (.int .i64 0)).length) = true, 0 + p6.length ≤ LIM, (p6.map (D.int .i64)).length = p6.length, ((([] : List Int).map (D.int .i64)).drop 0).take 0 ++ (p6.map (D.int .i64)) = ((([] : List Int).drop 0).take 0 ++ p6).map (D.int .i64), evF X k n_keep_Src_Range [(.one (.ptr 0 0 0)), (I (-9)), (I 9)] [.cells [.d (.list (p7.map (D.int .i64))), .d (.int .i64 x1.2)]] = some ((I x43.1), [.cells [.d (.list (p7.map (D.int .i64))), .d (.int .i64 x43.2)]]), evF X k n_keep_Src_Pick [(.one (.ptr 0 0 0)), (LI ([2000, 2001, 0] : List Int))] [.cells [.d (.list (p7.map (D.int .i64))), .d (.int .i64 x43.2)]] = some ((I x44.1), [.cells [.d (.list (p7.map (D.int .i64))), .d (.int .i64 x44.2)]]), (List.all (([x43.1, x44.1] : List Int).map (D.int .i64)) fun d => d.cells.length == (D.cells (.int .i64 0)).length) = true, (0 + p6.length) + 2 ≤ LIM, (([x43.1, x44.1] : List Int).map (D.int .i64)).length = 2, ((((([] : List Int).drop 0).take 0 ++ p6).map (D.int .i64)).drop 0).take (0 + p6.length) ++ (([x43.1, x44.1] : List Int).map (D.int .i64)) = ((((([] : List Int).drop 0).take 0 ++ p6).drop 0).take (0 + p6.length) ++ ([x43.1, x44.1] : List Int)).map (D.int .i64)] ⟨[(3, (.one (.ptr 1 0 0))), (4, (.one (.ptr 3 0 0)))], [.cells [.d (.list (p7.map (D.int .i64))), .d (.int .i64 x44.2)], .cells [.d (.int .i64 p1), .d (.int .i64 p2), .d (.int .i64 p3), .d (.int .i64 p4), .d (.int .i64 p5), .own 2 0 ((0 + p6.length) + 2)], VI ((((([] : List Int).drop 0).take 0 ++ p6).drop 0).take (0 + p6.length) ++ ([x43.1, x44.1] : List Int)), .cells [.d (.int .i64 0), .d (.int .i64 0), .d (.int .i64 0), .d (.int .i64 0), .d (.int .i64 0), .nil]]⟩ (by kernel_rfl) (AC (all_ok (D.int .i64) 1 p6 (fun _ => rfl)) (AC hx42 (AC (by simp) (AC (ap_map (D.int .i64) ([] : List Int) p6 0 0) (AC (T_keep_Src_Range_ok k (-9) 9 p7 x1.2 x43 hx43) (AC (T_keep_Src_Pick_ok k ([2000, 2001, 0] : List Int) p7 x43.2 x44 hx44) (AC (all_ok (D.int .i64) 1 ([x43.1, x44.1] : List Int) (fun _ => rfl)) (AC hx45 (AC (by simp) (A1 (ap_map (D.int .i64) ((([] : List Int).drop 0).take 0 ++ p6) ([x43.1, x44.1] : List Int) 0 (0 + p6.length)))))))))))) ?_
            cases H
            exact K_end rfl
          · refine K_f rfl (decide_eq_false hx41) ?_
            obtain ⟨x46, hx46, H⟩ := bind_some' H
            obtain ⟨hx47, H⟩ := guard_some H
            refine K_reg [.r (I x46.1) [.cells [.d (.list (p7.map (D.int .i64))), .d (.int .i64 x46.2)]], .l ((List.replicate x46.1.toNat (0 : Int)).map (D.int .i64))] [evF X k n_keep_Src_Pick [(.one (.ptr 0 0 0)), (LI ([1, 2, 16] : List Int))] [.cells [.d (.list (p7.map (D.int .i64))), .d (.int .i64 x1.2)]] = some ((I x46.1), [.cells [.d (.list (p7.map (D.int .i64))), .d (.int .i64 x46.2)]]), (0 : Int) ≤ x46.1 ∧ x46.1 ≤ x46.1 ∧ x46.1 ≤ (LIM : Int), List.replicate x46.1.toNat (.int .i64 0) = (List.replicate x46.1.toNat (0 : Int)).map (D.int .i64)] ⟨[(3, (.one (.ptr 1 0 0))), (4, (.one (.ptr 3 0 0)))], [.cells [.d (.list (p7.map (D.int .i64))), .d (.int .i64 x46.2)], .cells [.d (.int .i64 p1), .d (.int .i64 p2), .d (.int .i64 p3), .d (.int .i64 p4), .d (.int .i64 p5), .own 2 0 x46.1.toNat], VI (List.replicate x46.1.toNat (0 : Int)), .cells [.d (.int .i64 0), .d (.int .i64 0), .d (.int .i64 0), .d (.int .i64 0), .d (.int .i64 0), .nil]]⟩ (by kernel_rfl) (AC (T_keep_Src_Pick_ok k ([1, 2, 16] : List Int) p7 x1.2 x46 hx46) (AC hx47 (A1 (rep_map (D.int .i64) _ (0 : Int))))) ?_
            cases H
            exact K_end rfl
        refine K_blk ?_
        refine K_seq ?_
        refine K_reg [] [] ⟨[(4, (.one (.ptr 1 0 0)))], [.cells [.d (.list (p7.map (D.int .i64))), .d (.int .i64 x48.1)], .cells [.d (.int .i64 p1), .d (.int .i64 p2), .d (.int .i64 p3), .d (.int .i64 p4), .d (.int .i64 p5), .own 2 0 x48.2.1], VI x48.2.2]⟩ (by kernel_rfl) trivial ?_
        refine K_gh ⟨[(4, (.one (.ptr 1 0 0)))], [.cells [.d (.list (p7.map (D.int .i64))), .d (.int .i64 x48.1)], .cells [.d (.int .i64 p1), .d (.int .i64 p2), .d (.int .i64 p3), .d (.int .i64 p4), .d (.int .i64 p5), .own 2 0 x48.2.1], VI x48.2.2]⟩ (by kernel_rfl) ?_
        cases H
        refine K_ret ?_
        exact Eq.trans (b := some ((.agg [.d (.int .i64 p1), .d (.int .i64 p2), .d (.int .i64 p3), .d (.int .i64 p4), .d (.int .i64 p5), .d (.list (((x48.2.2.map (D.int .i64)).drop 0).take x48.2.1))]), [.cells [.d (.list (p7.map (D.int .i64))), .d (.int .i64 x48.1)]])) (by kernel_rfl) (by simp only [dt_map, LI, VI])
def T_word_Root (k : Nat) (p1 : Int) (p2 : Int) (p3 : Int) (p4 : Int) (p5 : Int) (p6 : List Int) : Option ((List Int) × (List Int) × Int) := match k with
 | 0 => none
 | k + 1 => ((T_word_Check k p1 p2 p3 p4 p5 p6).bind fun x1 => (if (!decide (x1 = 0)) = true then some ([], [], x1) else (if (0 : Int) ≤ p5 ∧ p5 ≤ p5 ∧ p5 ≤ (LIM : Int) then some ((((List.replicate p5.toNat (0 : Int)).drop 0).take p5.toNat), (((List.replicate p5.toNat (0 : Int)).drop 0).take p5.toNat), 0) else none)))
theorem T_word_Root_ok (k : Nat) (p1 : Int) (p2 : Int) (p3 : Int) (p4 : Int) (p5 : Int) (p6 : List Int) (r : (List Int) × (List Int) × Int) : T_word_Root k p1 p2 p3 p4 p5 p6 = some r → evF X k n_word_Root [(.agg [.d (.int .i64 p1), .d (.int .i64 p2), .d (.int .i64 p3), .d (.int .i64 p4), .d (.int .i64 p5), .d (.list (p6.map (D.int .i64)))])] [] = some ((.tup [(true, [.d (.list (r.1.map (D.int .i64))), .d (.list (r.2.1.map (D.int .i64)))]), (false, [.d (.int .i64 r.2.2)])]), []) := by
 intro H
 cases k with
 | zero => simp [T_word_Root] at H
 | succ k =>
  simp only [T_word_Root] at H
  refine F_in X_word_Root rfl ?_
  refine K_seq ?_
  refine K_reg [] [] ⟨[(1, (.one (.ptr 0 0 0))), (2, (.one (.ptr 1 0 0)))], [.cells [.d (.int .i64 p1), .d (.int .i64 p2), .d (.int .i64 p3), .d (.int .i64 p4), .d (.int .i64 p5), .d (.list (p6.map (D.int .i64)))], .cells [.nil, .nil]]⟩ (by kernel_rfl) trivial ?_
  refine K_seq ?_
  refine K_seq ?_
  obtain ⟨x1, hx1, H⟩ := bind_some' H
  refine K_reg [.r (I x1) []] [evF X k n_word_Check [(.agg [.d (.int .i64 p1), .d (.int .i64 p2), .d (.int .i64 p3), .d (.int .i64 p4), .d (.int .i64 p5), .d (.list (p6.map (D.int .i64)))])] [] = some ((I x1), [])] ⟨[(1, (.one (.ptr 0 0 0))), (2, (.one (.ptr 1 0 0))), (4, (I x1))], [.cells [.d (.int .i64 p1), .d (.int .i64 p2), .d (.int .i64 p3), .d (.int .i64 p4), .d (.int .i64 p5), .d (.list (p6.map (D.int .i64)))], .cells [.nil, .nil]]⟩ (by kernel_rfl) (A1 (T_word_Check_ok k p1 p2 p3 p4 p5 p6 x1 hx1)) ?_
  refine K_seq ?_
  refine K_reg [] [] ⟨[(1, (.one (.ptr 0 0 0))), (2, (.one (.ptr 1 0 0))), (4, (I x1)), (8, (B (!decide (x1 = 0))))], [.cells [.d (.int .i64 p1), .d (.int .i64 p2), .d (.int .i64 p3), .d (.int .i64 p4), .d (.int .i64 p5), .d (.list (p6.map (D.int .i64)))], .cells [.nil, .nil]]⟩ (by kernel_rfl) trivial ?_
  rcases ite_some H with ⟨hx2, H⟩ | ⟨hx2, H⟩
  · refine K_t rfl hx2 ?_
    refine K_seq ?_
    refine K_reg [] [] ⟨[(2, (.one (.ptr 0 0 0))), (3, (I x1))], [.cells [.nil, .nil]]⟩ (by kernel_rfl) trivial ?_
    refine K_gh ⟨[(2, (.one (.ptr 0 0 0))), (3, (I x1))], [.cells [.nil, .nil]]⟩ (by kernel_rfl) ?_
    cases H
    refine K_ret ?_
    kernel_rfl
  · refine K_f rfl (Bool.eq_false_iff.2 hx2) ?_
    refine K_gh ⟨[(1, (.one (.ptr 0 0 0))), (2, (.one (.ptr 1 0 0)))], [.cells [.d (.int .i64 p1), .d (.int .i64 p2), .d (.int .i64 p3), .d (.int .i64 p4), .d (.int .i64 p5), .d (.list (p6.map (D.int .i64)))], .cells [.nil, .nil]]⟩ (by kernel_rfl) ?_
    refine K_skip ?_
    refine K_seq ?_
    obtain ⟨hx3, H⟩ := guard_some H
    refine K_regD [.l ((List.replicate p5.toNat (0 : Int)).map (D.int .i64)), .l ((List.replicate p5.toNat (0 : Int)).map (D.int .i64)), .l ((List.replicate p5.toNat (0 : Int)).map (D.int .i64)), .l ((List.replicate p5.toNat (0 : Int)).map (D.int .i64)), .l ((List.replicate p5.toNat (0 : Int)).map (D.int .i64)), .l ((List.replicate p5.toNat (0 : Int)).map (D.int .i64)), .l ((List.replicate p5.toNat (0 : Int)).map (D.int .i64)), .l ((List.replicate p5.toNat (0 : Int)).map (D.int .i64)), .l ((List.replicate p5.toNat (0 : Int)).map (D.int .i64)), .l ((List.replicate p5.toNat (0 : Int)).map (D.int .i64)), .l ((List.replicate p5.toNat (0 : Int)).map (D.int .i64)), .l ((List.replicate p5.toNat (0 : Int)).map (D.int .i64))] [(0 : Int) ≤ p5 ∧ p5 ≤ p5 ∧ p5 ≤ (LIM : Int), List.replicate p5.toNat (.int .i64 0) = (List.replicate p5.toNat (0 : Int)).map (D.int .i64), (0 : Int) ≤ p5 ∧ p5 ≤ p5 ∧ p5 ≤ (LIM : Int), List.replicate p5.toNat (.int .i64 0) = (List.replicate p5.toNat (0 : Int)).map (D.int .i64), (0 : Int) ≤ p5 ∧ p5 ≤ p5 ∧ p5 ≤ (LIM : Int), List.replicate p5.toNat (.int .i64 0) = (List.replicate p5.toNat (0 : Int)).map (D.int .i64), (0 : Int) ≤ p5 ∧ p5 ≤ p5 ∧ p5 ≤ (LIM : Int), List.replicate p5.toNat (.int .i64 0) = (List.replicate p5.toNat (0 : Int)).map (D.int .i64), (0 : Int) ≤ p5 ∧ p5 ≤ p5 ∧ p5 ≤ (LIM : Int), List.replicate p5.toNat (.int .i64 0) = (List.replicate p5.toNat (0 : Int)).map (D.int .i64), (0 : Int) ≤ p5 ∧ p5 ≤ p5 ∧ p5 ≤ (LIM : Int), List.replicate p5.toNat (.int .i64 0) = (List.replicate p5.toNat (0 : Int)).map (D.int .i64), (⟨[(2, (.one (.ptr 0 0 0))), (3, (I 0))], [.cells [.own 1 0 p5.toNat, .own 2 0 p5.toNat], VI (List.replicate p5.toNat (0 : Int)), VI (List.replicate p5.toNat (0 : Int))]⟩ : St) = ⟨[(2, (.one (.ptr 0 0 0))), (3, (I 0))], [.cells [.own 1 0 p5.toNat, .own 2 0 p5.toNat], VI (List.replicate p5.toNat (0 : Int)), VI (List.replicate p5.toNat (0 : Int))]⟩, (⟨[(2, (.one (.ptr 0 0 0))), (3, (I 0))], [.cells [.own 1 0 p5.toNat, .own 2 0 p5.toNat], VI (List.replicate p5.toNat (0 : Int)), VI (List.replicate p5.toNat (0 : Int))]⟩ : St) = ⟨[(2, (.one (.ptr 0 0 0))), (3, (I 0))], [.cells [.own 1 0 p5.toNat, .own 2 0 p5.toNat], VI (List.replicate p5.toNat (0 : Int)), VI (List.replicate p5.toNat (0 : Int))]⟩, (0 : Int) ≤ p5 ∧ p5 ≤ p5 ∧ p5 ≤ (LIM : Int), List.replicate p5.toNat (.int .i64 0) = (List.replicate p5.toNat (0 : Int)).map (D.int .i64), (0 : Int) ≤ p5 ∧ p5 ≤ p5 ∧ p5 ≤ (LIM : Int), List.replicate p5.toNat (.int .i64 0) = (List.replicate p5.toNat (0 : Int)).map (D.int .i64), (0 : Int) ≤ p5 ∧ p5 ≤ p5 ∧ p5 ≤ (LIM : Int), List.replicate p5.toNat (.int .i64 0) = (List.replicate p5.toNat (0 : Int)).map (D.int .i64), (0 : Int) ≤ p5 ∧ p5 ≤ p5 ∧ p5 ≤ (LIM : Int), List.replicate p5.toNat (.int .i64 0) = (List.replicate p5.toNat (0 : Int)).map (D.int .i64), (⟨[(2, (.one (.ptr 0 0 0))), (3, (I 0))], [.cells [.own 1 0 p5.toNat, .own 2 0 p5.toNat], VI (List.replicate p5.toNat (0 : Int)), VI (List.replicate p5.toNat (0 : Int))]⟩ : St) = ⟨[(2, (.one (.ptr 0 0 0))), (3, (I 0))], [.cells [.own 1 0 p5.toNat, .own 2 0 p5.toNat], VI (List.replicate p5.toNat (0 : Int)), VI (List.replicate p5.toNat (0 : Int))]⟩, (0 : Int) ≤ p5 ∧ p5 ≤ p5 ∧ p5 ≤ (LIM : Int), List.replicate p5.toNat (.int .i64 0) = (List.replicate p5.toNat (0 : Int)).map (D.int .i64), (0 : Int) ≤ p5 ∧ p5 ≤ p5 ∧ p5 ≤ (LIM : Int), List.replicate p5.toNat (.int .i64 0) = (List.replicate p5.toNat (0 : Int)).map (D.int .i64), (⟨[(2, (.one (.ptr 0 0 0))), (3, (I 0))], [.cells [.own 1 0 p5.toNat, .own 2 0 p5.toNat], VI (List.replicate p5.toNat (0 : Int)), VI (List.replicate p5.toNat (0 : Int))]⟩ : St) = ⟨[(2, (.one (.ptr 0 0 0))), (3, (I 0))], [.cells [.own 1 0 p5.toNat, .own 2 0 p5.toNat], VI (List.replicate p5.toNat (0 : Int)), VI (List.replicate p5.toNat (0 : Int))]⟩, (⟨[(2, (.one (.ptr 0 0 0))), (3, (I 0))], [.cells [.own 1 0 p5.toNat, .own 2 0 p5.toNat], VI (List.replicate p5.toNat (0 : Int)), VI (List.replicate p5.toNat (0 : Int))]⟩ : St) = ⟨[(2, (.one (.ptr 0 0 0))), (3, (I 0))], [.cells [.own 1 0 p5.toNat, .own 2 0 p5.toNat], VI (List.replicate p5.toNat (0 : Int)), VI (List.replicate p5.toNat (0 : Int))]⟩] ⟨[(2, (.one (.ptr 0 0 0))), (3, (I 0))], [.cells [.own 1 0 p5.toNat, .own 2 0 p5.toNat], VI (List.replicate p5.toNat (0 : Int)), VI (List.replicate p5.toNat (0 : Int))]⟩ (by kernel_rfl) (AC hx3 (AC (rep_map (D.int .i64) _ (0 : Int)) (AC hx3 (AC (rep_map (D.int .i64) _ (0 : Int)) (AC hx3 (AC (rep_map (D.int .i64) _ (0 : Int)) (AC hx3 (AC (rep_map (D.int .i64) _ (0 : Int)) (AC hx3 (AC (rep_map (D.int .i64) _ (0 : Int)) (AC hx3 (AC (rep_map (D.int .i64) _ (0 : Int)) (AC rfl (AC rfl (AC hx3 (AC (rep_map (D.int .i64) _ (0 : Int)) (AC hx3 (AC (rep_map (D.int .i64) _ (0 : Int)) (AC hx3 (AC (rep_map (D.int .i64) _ (0 : Int)) (AC hx3 (AC (rep_map (D.int .i64) _ (0 : Int)) (AC rfl (AC hx3 (AC (rep_map (D.int .i64) _ (0 : Int)) (AC hx3 (AC (rep_map (D.int .i64) _ (0 : Int)) (AC rfl (A1 rfl))))))))))))))))))))))))))))) ?_
    refine K_gh ⟨[(2, (.one (.ptr 0 0 0))), (3, (I 0))], [.cells [.own 1 0 p5.toNat, .own 2 0 p5.toNat], VI (List.replicate p5.toNat (0 : Int)), VI (List.replicate p5.toNat (0 : Int))]⟩ (by kernel_rfl) ?_
    cases H
    refine K_ret ?_
    exact Eq.trans (b := some ((.tup [(true, [.d (.list ((((List.replicate p5.toNat (0 : Int)).map (D.int .i64)).drop 0).take p5.toNat)), .d (.list ((((List.replicate p5.toNat (0 : Int)).map (D.int .i64)).drop 0).take p5.toNat))]), (false, [.d (.int .i64 0)])]), [])) (by kernel_rfl) (by simp only [dt_map, LI, VI])
def T_ref04_Sample (k : Nat) (p1 : Int) : Option Unit := match k with
 | 0 => none
 | k + 1 => some ()
theorem T_ref04_Sample_ok (k : Nat) (p1 : Int) (r : Unit) : T_ref04_Sample k p1 = some r → evF X k n_ref04_Sample [(I p1)] [] = some ((B (decide ((-1000) ≤ p1) && decide (p1 ≤ 1000))), []) := by
 intro H
 cases k with
 | zero => simp [T_ref04_Sample] at H
 | succ k =>
  simp only [T_ref04_Sample] at H
  refine F_in X_ref04_Sample rfl ?_
  refine K_seq ?_
  refine K_reg [] [] ⟨[(0, (I p1))], []⟩ (by kernel_rfl) trivial ?_
  refine K_seq ?_
  refine K_reg [.m] [([] : Heap) = []] ⟨[(2, (B (decide ((-1000) ≤ p1) && decide (p1 ≤ 1000))))], []⟩ (by kernel_rfl) (A1 rfl) ?_
  refine K_gh ⟨[(2, (B (decide ((-1000) ≤ p1) && decide (p1 ≤ 1000))))], []⟩ (by kernel_rfl) ?_
  cases H
  refine K_ret ?_
  kernel_rfl
def T_ref17_Check (k : Nat) (p1 : Int) (p2 : Int) (p3 : Int) : Option Int := match k with
 | 0 => none
 | k + 1 => (((if ((((decide (p1 < 1) || decide (5 < p1)) || decide (p2 < 0)) || decide (32 < p2)) || ((!decide (p1 = 4)) && (!decide (p2 = 0)))) = true then some true else ((T_ref04_Sample k p3).bind fun x3 => some ((!(decide ((-1000) ≤ p3) && decide (p3 ≤ 1000))) || ((!decide (p1 = 5)) && (!decide (p3 = 0))))))).bind fun x4 => (if x4 = true then some 9 else some 0))
theorem T_ref17_Check_ok (k : Nat) (p1 : Int) (p2 : Int) (p3 : Int) (r : Int) : T_ref17_Check k p1 p2 p3 = some r → evF X k n_ref17_Check [(.agg [.d (.int .i64 p1), .d (.int .i64 p2), .d (.int .i64 p3)])] [] = some ((I r), []) := by
 intro H
 cases k with
 | zero => simp [T_ref17_Check] at H
 | succ k =>
  simp only [T_ref17_Check] at H
  refine F_in X_ref17_Check rfl ?_
  refine K_seq ?_
  refine K_reg [] [] ⟨[(1, (.one (.ptr 0 0 0)))], [.cells [.d (.int .i64 p1), .d (.int .i64 p2), .d (.int .i64 p3)]]⟩ (by kernel_rfl) trivial ?_
  refine K_seq ?_
  refine K_seq ?_
  obtain ⟨x4, hx4, H⟩ := bind_some' H
  refine K_of ⟨[(46, (B x4))], []⟩ ?_ ?_
  · clear H; have H := hx4; clear hx4; refine K_in ?_
    rcases ite_some H with ⟨hx2, H⟩ | ⟨hx2, H⟩
    · refine K_reg [.m, .m, .m, .m, .m, .b true, .b true] [([.cells [.d (.int .i64 p1), .d (.int .i64 p2), .d (.int .i64 p3)]] : Heap) = [.cells [.d (.int .i64 p1), .d (.int .i64 p2), .d (.int .i64 p3)]], ([.cells [.d (.int .i64 p1), .d (.int .i64 p2), .d (.int .i64 p3)]] : Heap) = [.cells [.d (.int .i64 p1), .d (.int .i64 p2), .d (.int .i64 p3)]], ([.cells [.d (.int .i64 p1), .d (.int .i64 p2), .d (.int .i64 p3)]] : Heap) = [.cells [.d (.int .i64 p1), .d (.int .i64 p2), .d (.int .i64 p3)]], (((decide (p1 < 1) || decide (5 < p1)) || decide (p2 < 0)) || decide (32 < p2)) = false → AllT [([.cells [.d (.int .i64 p1), .d (.int .i64 p2), .d (.int .i64 p3)]] : Heap) = [.cells [.d (.int .i64 p1), .d (.int .i64 p2), .d (.int .i64 p3)]]], ([.cells [.d (.int .i64 p1), .d (.int .i64 p2), .d (.int .i64 p3)]] : Heap) = [.cells [.d (.int .i64 p1), .d (.int .i64 p2), .d (.int .i64 p3)]], ((((decide (p1 < 1) || decide (5 < p1)) || decide (p2 < 0)) || decide (32 < p2)) || ((!decide (p1 = 4)) && (!decide (p2 = 0)))) = true, true = true] ⟨[(46, (B true))], []⟩ (by kernel_rfl) (AC rfl (AC rfl (AC rfl (AC (fun _ => (A1 rfl)) (AC rfl (AC hx2 (A1 rfl))))))) ?_
      cases H
      exact K_end rfl
    · obtain ⟨x3, hx3, H⟩ := bind_some' H
      refine K_reg [.m, .m, .m, .m, .m, .b false, .r (B (decide ((-1000) ≤ p3) && decide (p3 ≤ 1000))) [], .m, .m] [([.cells [.d (.int .i64 p1), .d (.int .i64 p2), .d (.int .i64 p3)]] : Heap) = [.cells [.d (.int .i64 p1), .d (.int .i64 p2), .d (.int .i64 p3)]], ([.cells [.d (.int .i64 p1), .d (.int .i64 p2), .d (.int .i64 p3)]] : Heap) = [.cells [.d (.int .i64 p1), .d (.int .i64 p2), .d (.int .i64 p3)]], ([.cells [.d (.int .i64 p1), .d (.int .i64 p2), .d (.int .i64 p3)]] : Heap) = [.cells [.d (.int .i64 p1), .d (.int .i64 p2), .d (.int .i64 p3)]], (((decide (p1 < 1) || decide (5 < p1)) || decide (p2 < 0)) || decide (32 < p2)) = false → AllT [([.cells [.d (.int .i64 p1), .d (.int .i64 p2), .d (.int .i64 p3)]] : Heap) = [.cells [.d (.int .i64 p1), .d (.int .i64 p2), .d (.int .i64 p3)]]], ([.cells [.d (.int .i64 p1), .d (.int .i64 p2), .d (.int .i64 p3)]] : Heap) = [.cells [.d (.int .i64 p1), .d (.int .i64 p2), .d (.int .i64 p3)]], ((((decide (p1 < 1) || decide (5 < p1)) || decide (p2 < 0)) || decide (32 < p2)) || ((!decide (p1 = 4)) && (!decide (p2 = 0)))) = false, evF X k n_ref04_Sample [(I p3)] [] = some ((B (decide ((-1000) ≤ p3) && decide (p3 ≤ 1000))), []), (!(decide ((-1000) ≤ p3) && decide (p3 ≤ 1000))) = false → AllT [([.cells [.d (.int .i64 p1), .d (.int .i64 p2), .d (.int .i64 p3)]] : Heap) = [.cells [.d (.int .i64 p1), .d (.int .i64 p2), .d (.int .i64 p3)]]], ([.cells [.d (.int .i64 p1), .d (.int .i64 p2), .d (.int .i64 p3)]] : Heap) = [.cells [.d (.int .i64 p1), .d (.int .i64 p2), .d (.int .i64 p3)]]] ⟨[(46, (B ((!(decide ((-1000) ≤ p3) && decide (p3 ≤ 1000))) || ((!decide (p1 = 5)) && (!decide (p3 = 0))))))], []⟩ (by kernel_rfl) (AC rfl (AC rfl (AC rfl (AC (fun _ => (A1 rfl)) (AC rfl (AC (Bool.eq_false_iff.2 hx2) (AC (T_ref04_Sample_ok k p3 x3 hx3) (AC (fun _ => (A1 rfl)) (A1 rfl))))))))) ?_
      cases H
      exact K_end rfl
  rcases ite_some H with ⟨hx5, H⟩ | ⟨hx5, H⟩
  · refine K_t rfl hx5 ?_
    refine K_seq ?_
    refine K_reg [] [] ⟨[(2, (I 9))], []⟩ (by kernel_rfl) trivial ?_
    refine K_gh ⟨[(2, (I 9))], []⟩ (by kernel_rfl) ?_
    cases H
    refine K_ret ?_
    kernel_rfl
  · refine K_f rfl (Bool.eq_false_iff.2 hx5) ?_
    refine K_gh ⟨[], []⟩ (by kernel_rfl) ?_
    refine K_skip ?_
    refine K_seq ?_
    refine K_reg [] [] ⟨[(2, (I 0))], []⟩ (by kernel_rfl) trivial ?_
    refine K_gh ⟨[(2, (I 0))], []⟩ (by kernel_rfl) ?_
    cases H
    refine K_ret ?_
    kernel_rfl
def T_ref19_Check_l1 (k : Nat) (p1 : Int) (p2 : Int) (p3 : Int) (x3 : Int) (p4 : Int) (p5 : Int) (p6 : List Int) (x20 : Int) : Option (Int ⊕ (Unit ⊕ Unit)) :=
 (if x20 < x3 then ((((at? p6 x20).bind fun x22 => (if (decide (x22 < (-2000)) || decide (2000 < x22)) = true then some true else (if 0 < x20 then ((at? p6 (w64 (x20 - 1))).bind fun x27 => some (decide (x22 ≤ x27))) else some false)))).bind fun x28 => (if x28 = true then some (.inr (.inr ())) else some (.inl (w64 (x20 + 1))))) else some (.inr (.inl ())))
theorem T_ref19_Check_l1_ok (k : Nat) (p1 : Int) (p2 : Int) (p3 : Int) (x3 : Int) (p4 : Int) (p5 : Int) (p6 : List Int) : ∀ (x20 : Int) (x : Int ⊕ (Unit ⊕ Unit)), T_ref19_Check_l1 k p1 p2 p3 x3 p4 p5 p6 x20 = some x → evC X (evF X k) k 0 l_ref19_Check_1 ⟨[(1, (.one (.ptr 0 0 0))), (43, (I x3)), (44, (I x20))], [.cells [.d (.int .i64 p1), .d (.int .i64 p2), .d (.int .i64 p3), .d (.int .i64 p4), .d (.int .i64 p5), .d (.list (p6.map (D.int .i64)))]]⟩ = some (outS (fun (s : Int) => ⟨[(1, (.one (.ptr 0 0 0))), (43, (I x3)), (44, (I s))], [.cells [.d (.int .i64 p1), .d (.int .i64 p2), .d (.int .i64 p3), .d (.int .i64 p4), .d (.int .i64 p5), .d (.list (p6.map (D.int .i64)))]]⟩) (fun (r : Unit ⊕ Unit) => Sum.elim (fun y => (.exit 0, ⟨[], []⟩)) (fun y => (.ret, ⟨[(2, (I 10))], []⟩)) r) x) := by
 intro x20 x H
 unfold T_ref19_Check_l1 at H
 refine K_in ?_
 refine K_seq ?_
 refine K_reg [] [] ⟨[(1, (.one (.ptr 0 0 0))), (43, (I x3)), (44, (I x20)), (45, (B (decide (x20 < x3))))], [.cells [.d (.int .i64 p1), .d (.int .i64 p2), .d (.int .i64 p3), .d (.int .i64 p4), .d (.int .i64 p5), .d (.list (p6.map (D.int .i64)))]]⟩ (by kernel_rfl) trivial ?_
 refine K_seq ?_
 rcases ite_some H with ⟨hx21, H⟩ | ⟨hx21, H⟩
 · refine K_t rfl (decide_eq_true hx21) ?_
   refine K_gh ⟨[(1, (.one (.ptr 0 0 0))), (43, (I x3)), (44, (I x20))], [.cells [.d (.int .i64 p1), .d (.int .i64 p2), .d (.int .i64 p3), .d (.int .i64 p4), .d (.int .i64 p5), .d (.list (p6.map (D.int .i64)))]]⟩ (by kernel_rfl) ?_
   refine K_skip ?_
   refine K_seq ?_
   refine K_block ?_
   refine K_seq ?_
   refine K_reg [] [] ⟨[(1, (.one (.ptr 0 0 0))), (3, (I x20)), (43, (I x3)), (44, (I x20))], [.cells [.d (.int .i64 p1), .d (.int .i64 p2), .d (.int .i64 p3), .d (.int .i64 p4), .d (.int .i64 p5), .d (.list (p6.map (D.int .i64)))]]⟩ (by kernel_rfl) trivial ?_
   refine K_seq ?_
   obtain ⟨x28, hx28, H⟩ := bind_some' H
   refine K_of ⟨[(1, (.one (.ptr 0 0 0))), (43, (I x3)), (44, (I x20)), (78, (B x28))], [.cells [.d (.int .i64 p1), .d (.int .i64 p2), .d (.int .i64 p3), .d (.int .i64 p4), .d (.int .i64 p5), .d (.list (p6.map (D.int .i64)))]]⟩ ?_ ?_
   · clear H; have H := hx28; clear hx28; refine K_in ?_
     obtain ⟨x22, hx22, H⟩ := bind_some' H
     rcases ite_some H with ⟨hx24, H⟩ | ⟨hx24, H⟩
     · refine K_reg [.l [.int .i64 x22], .m, .l [.int .i64 x22], .b true] [(0 : Int) ≤ x20 ∧ x20 < (((p6.map (D.int .i64))).length : Int), ((p6.map (D.int .i64)).getD x20.toNat (.int .i64 0)).cells = [.int .i64 x22], decide (x22 < (-2000)) = false → AllT [(0 : Int) ≤ x20 ∧ x20 < (((p6.map (D.int .i64))).length : Int), ((p6.map (D.int .i64)).getD x20.toNat (.int .i64 0)).cells = [.int .i64 x22]], ([.cells [.d (.int .i64 p1), .d (.int .i64 p2), .d (.int .i64 p3), .d (.int .i64 p4), .d (.int .i64 p5), .d (.list (p6.map (D.int .i64)))]] : Heap) = [.cells [.d (.int .i64 p1), .d (.int .i64 p2), .d (.int .i64 p3), .d (.int .i64 p4), .d (.int .i64 p5), .d (.list (p6.map (D.int .i64)))]], (decide (x22 < (-2000)) || decide (2000 < x22)) = true] ⟨[(1, (.one (.ptr 0 0 0))), (43, (I x3)), (44, (I x20)), (78, (B true))], [.cells [.d (.int .i64 p1), .d (.int .i64 p2), .d (.int .i64 p3), .d (.int .i64 p4), .d (.int .i64 p5), .d (.list (p6.map (D.int .i64)))]]⟩ (by kernel_rfl) (AC (at_ok hx22 (D.int .i64) (.int .i64 0)).1 (AC (at_ok hx22 (D.int .i64) (.int .i64 0)).2 (AC (fun _ => (AC (at_ok hx22 (D.int .i64) (.int .i64 0)).1 (A1 (at_ok hx22 (D.int .i64) (.int .i64 0)).2))) (AC rfl (A1 hx24))))) ?_
       cases H
       exact K_end rfl
     · rcases ite_some H with ⟨hx26, H⟩ | ⟨hx26, H⟩
       · obtain ⟨x27, hx27, H⟩ := bind_some' H
         refine K_reg [.l [.int .i64 x22], .m, .l [.int .i64 x22], .b false, .b true, .l [.int .i64 x22], .l [.int .i64 x27]] [(0 : Int) ≤ x20 ∧ x20 < (((p6.map (D.int .i64))).length : Int), ((p6.map (D.int .i64)).getD x20.toNat (.int .i64 0)).cells = [.int .i64 x22], decide (x22 < (-2000)) = false → AllT [(0 : Int) ≤ x20 ∧ x20 < (((p6.map (D.int .i64))).length : Int), ((p6.map (D.int .i64)).getD x20.toNat (.int .i64 0)).cells = [.int .i64 x22]], ([.cells [.d (.int .i64 p1), .d (.int .i64 p2), .d (.int .i64 p3), .d (.int .i64 p4), .d (.int .i64 p5), .d (.list (p6.map (D.int .i64)))]] : Heap) = [.cells [.d (.int .i64 p1), .d (.int .i64 p2), .d (.int .i64 p3), .d (.int .i64 p4), .d (.int .i64 p5), .d (.list (p6.map (D.int .i64)))]], (decide (x22 < (-2000)) || decide (2000 < x22)) = false, decide (0 < x20) = true, (0 : Int) ≤ x20 ∧ x20 < (((p6.map (D.int .i64))).length : Int), ((p6.map (D.int .i64)).getD x20.toNat (.int .i64 0)).cells = [.int .i64 x22], (0 : Int) ≤ (w64 (x20 - 1)) ∧ (w64 (x20 - 1)) < (((p6.map (D.int .i64))).length : Int), ((p6.map (D.int .i64)).getD (w64 (x20 - 1)).toNat (.int .i64 0)).cells = [.int .i64 x27]] ⟨[(1, (.one (.ptr 0 0 0))), (43, (I x3)), (44, (I x20)), (78, (B (decide (x22 ≤ x27))))], [.cells [.d (.int .i64 p1), .d (.int .i64 p2), .d (.int .i64 p3), .d (.int .i64 p4), .d (.int .i64 p5), .d (.list (p6.map (D.int .i64)))]]⟩ (by kernel_rfl) (AC (at_ok hx22 (D.int .i64) (.int .i64 0)).1 (AC (at_ok hx22 (D.int .i64) (.int .i64 0)).2 (AC (fun _ => (AC (at_ok hx22 (D.int .i64) (.int .i64 0)).1 (A1 (at_ok hx22 (D.int .i64) (.int .i64 0)).2))) (AC rfl (AC (Bool.eq_false_iff.2 hx24) (AC (decide_eq_true hx26) (AC (at_ok hx22 (D.int .i64) (.int .i64 0)).1 (AC (at_ok hx22 (D.int .i64) (.int .i64 0)).2 (AC (at_ok hx27 (D.int .i64) (.int .i64 0)).1 (A1 (at_ok hx27 (D.int .i64) (.int .i64 0)).2)))))))))) ?_
         cases H
         exact K_end rfl
       · refine K_reg [.l [.int .i64 x22], .m, .l [.int .i64 x22], .b false, .b false] [(0 : Int) ≤ x20 ∧ x20 < (((p6.map (D.int .i64))).length : Int), ((p6.map (D.int .i64)).getD x20.toNat (.int .i64 0)).cells = [.int .i64 x22], decide (x22 < (-2000)) = false → AllT [(0 : Int) ≤ x20 ∧ x20 < (((p6.map (D.int .i64))).length : Int), ((p6.map (D.int .i64)).getD x20.toNat (.int .i64 0)).cells = [.int .i64 x22]], ([.cells [.d (.int .i64 p1), .d (.int .i64 p2), .d (.int .i64 p3), .d (.int .i64 p4), .d (.int .i64 p5), .d (.list (p6.map (D.int .i64)))]] : Heap) = [.cells [.d (.int .i64 p1), .d (.int .i64 p2), .d (.int .i64 p3), .d (.int .i64 p4), .d (.int .i64 p5), .d (.list (p6.map (D.int .i64)))]], (decide (x22 < (-2000)) || decide (2000 < x22)) = false, decide (0 < x20) = false] ⟨[(1, (.one (.ptr 0 0 0))), (43, (I x3)), (44, (I x20)), (78, (B false))], [.cells [.d (.int .i64 p1), .d (.int .i64 p2), .d (.int .i64 p3), .d (.int .i64 p4), .d (.int .i64 p5), .d (.list (p6.map (D.int .i64)))]]⟩ (by kernel_rfl) (AC (at_ok hx22 (D.int .i64) (.int .i64 0)).1 (AC (at_ok hx22 (D.int .i64) (.int .i64 0)).2 (AC (fun _ => (AC (at_ok hx22 (D.int .i64) (.int .i64 0)).1 (A1 (at_ok hx22 (D.int .i64) (.int .i64 0)).2))) (AC rfl (AC (Bool.eq_false_iff.2 hx24) (A1 (decide_eq_false hx26))))))) ?_
         cases H
         exact K_end rfl
   rcases ite_some H with ⟨hx29, H⟩ | ⟨hx29, H⟩
   · refine K_t rfl hx29 ?_
     refine K_seq ?_
     refine K_reg [] [] ⟨[(2, (I 10))], []⟩ (by kernel_rfl) trivial ?_
     refine K_gh ⟨[(2, (I 10))], []⟩ (by kernel_rfl) ?_
     cases H
     exact K_ret rfl
   · refine K_f rfl (Bool.eq_false_iff.2 hx29) ?_
     refine K_gh ⟨[(1, (.one (.ptr 0 0 0))), (43, (I x3)), (44, (I x20))], [.cells [.d (.int .i64 p1), .d (.int .i64 p2), .d (.int .i64 p3), .d (.int .i64 p4), .d (.int .i64 p5), .d (.list (p6.map (D.int .i64)))]]⟩ (by kernel_rfl) ?_
     refine K_skip ?_
     refine K_blk ?_
     refine K_reg [] [] ⟨[(1, (.one (.ptr 0 0 0))), (43, (I x3)), (44, (I (w64 (x20 + 1))))], [.cells [.d (.int .i64 p1), .d (.int .i64 p2), .d (.int .i64 p3), .d (.int .i64 p4), .d (.int .i64 p5), .d (.list (p6.map (D.int .i64)))]]⟩ (by kernel_rfl) trivial ?_
     cases H
     exact K_end rfl
 · refine K_f rfl (decide_eq_false hx21) ?_
   refine K_gh ⟨[], []⟩ (by kernel_rfl) ?_
   cases H
   exact K_exit0 rfl rfl
def T_ref19_Check (k : Nat) (p1 : Int) (p2 : Int) (p3 : Int) (p4 : Int) (p5 : Int) (p6 : List Int) : Option Int := match k with
 | 0 => none
 | k + 1 => ((T_ref17_Check k p1 p2 p3).bind fun x1 => (if (((((((!decide (x1 = 0)) || decide (p4 < 2)) || decide (32 < p4)) || decide (p5 < 1)) || decide (8 < p5)) || decide (p4 < p5)) || decide (15 < (p6.length : Int))) = true then some 10 else ((loopT (T_ref19_Check_l1 k p1 p2 p3 (p6.length : Int) p4 p5 p6) k 0).bind fun x30 => (match x30 with | .inl x31 => some 0 | .inr x32 => some 10))))
theorem T_ref19_Check_ok (k : Nat) (p1 : Int) (p2 : Int) (p3 : Int) (p4 : Int) (p5 : Int) (p6 : List Int) (r : Int) : T_ref19_Check k p1 p2 p3 p4 p5 p6 = some r → evF X k n_ref19_Check [(.agg [.d (.int .i64 p1), .d (.int .i64 p2), .d (.int .i64 p3), .d (.int .i64 p4), .d (.int .i64 p5), .d (.list (p6.map (D.int .i64)))])] [] = some ((I r), []) := by
 intro H
 cases k with
 | zero => simp [T_ref19_Check] at H
 | succ k =>
  simp only [T_ref19_Check] at H
  refine F_in X_ref19_Check rfl ?_
  refine K_seq ?_
  refine K_reg [] [] ⟨[(1, (.one (.ptr 0 0 0)))], [.cells [.d (.int .i64 p1), .d (.int .i64 p2), .d (.int .i64 p3), .d (.int .i64 p4), .d (.int .i64 p5), .d (.list (p6.map (D.int .i64)))]]⟩ (by kernel_rfl) trivial ?_
  refine K_seq ?_
  refine K_seq ?_
  obtain ⟨x1, hx1, H⟩ := bind_some' H
  refine K_reg [.r (I x1) [], .m, .m, .m, .m, .m, .m, .n p6.length] [evF X k n_ref17_Check [(.agg [.d (.int .i64 p1), .d (.int .i64 p2), .d (.int .i64 p3)])] [] = some ((I x1), []), ([.cells [.d (.int .i64 p1), .d (.int .i64 p2), .d (.int .i64 p3), .d (.int .i64 p4), .d (.int .i64 p5), .d (.list (p6.map (D.int .i64)))]] : Heap) = [.cells [.d (.int .i64 p1), .d (.int .i64 p2), .d (.int .i64 p3), .d (.int .i64 p4), .d (.int .i64 p5), .d (.list (p6.map (D.int .i64)))]], ([.cells [.d (.int .i64 p1), .d (.int .i64 p2), .d (.int .i64 p3), .d (.int .i64 p4), .d (.int .i64 p5), .d (.list (p6.map (D.int .i64)))]] : Heap) = [.cells [.d (.int .i64 p1), .d (.int .i64 p2), .d (.int .i64 p3), .d (.int .i64 p4), .d (.int .i64 p5), .d (.list (p6.map (D.int .i64)))]], ([.cells [.d (.int .i64 p1), .d (.int .i64 p2), .d (.int .i64 p3), .d (.int .i64 p4), .d (.int .i64 p5), .d (.list (p6.map (D.int .i64)))]] : Heap) = [.cells [.d (.int .i64 p1), .d (.int .i64 p2), .d (.int .i64 p3), .d (.int .i64 p4), .d (.int .i64 p5), .d (.list (p6.map (D.int .i64)))]], ([.cells [.d (.int .i64 p1), .d (.int .i64 p2), .d (.int .i64 p3), .d (.int .i64 p4), .d (.int .i64 p5), .d (.list (p6.map (D.int .i64)))]] : Heap) = [.cells [.d (.int .i64 p1), .d (.int .i64 p2), .d (.int .i64 p3), .d (.int .i64 p4), .d (.int .i64 p5), .d (.list (p6.map (D.int .i64)))]], ([.cells [.d (.int .i64 p1), .d (.int .i64 p2), .d (.int .i64 p3), .d (.int .i64 p4), .d (.int .i64 p5), .d (.list (p6.map (D.int .i64)))]] : Heap) = [.cells [.d (.int .i64 p1), .d (.int .i64 p2), .d (.int .i64 p3), .d (.int .i64 p4), .d (.int .i64 p5), .d (.list (p6.map (D.int .i64)))]], ((((((!decide (x1 = 0)) || decide (p4 < 2)) || decide (32 < p4)) || decide (p5 < 1)) || decide (8 < p5)) || decide (p4 < p5)) = false → AllT [((p6.map (D.int .i64))).length = p6.length], ([.cells [.d (.int .i64 p1), .d (.int .i64 p2), .d (.int .i64 p3), .d (.int .i64 p4), .d (.int .i64 p5), .d (.list (p6.map (D.int .i64)))]] : Heap) = [.cells [.d (.int .i64 p1), .d (.int .i64 p2), .d (.int .i64 p3), .d (.int .i64 p4), .d (.int .i64 p5), .d (.list (p6.map (D.int .i64)))]]] ⟨[(1, (.one (.ptr 0 0 0))), (40, (B (((((((!decide (x1 = 0)) || decide (p4 < 2)) || decide (32 < p4)) || decide (p5 < 1)) || decide (8 < p5)) || decide (p4 < p5)) || decide (15 < (p6.length : Int)))))], [.cells [.d (.int .i64 p1), .d (.int .i64 p2), .d (.int .i64 p3), .d (.int .i64 p4), .d (.int .i64 p5), .d (.list (p6.map (D.int .i64)))]]⟩ (by kernel_rfl) (AC (T_ref17_Check_ok k p1 p2 p3 x1 hx1) (AC rfl (AC rfl (AC rfl (AC rfl (AC rfl (AC (fun _ => (A1 (List.length_map _))) (A1 rfl)))))))) ?_
  rcases ite_some H with ⟨hx2, H⟩ | ⟨hx2, H⟩
  · refine K_t rfl hx2 ?_
    refine K_seq ?_
    refine K_reg [] [] ⟨[(2, (I 10))], []⟩ (by kernel_rfl) trivial ?_
    refine K_gh ⟨[(2, (I 10))], []⟩ (by kernel_rfl) ?_
    cases H
    refine K_ret ?_
    kernel_rfl
  · refine K_f rfl (Bool.eq_false_iff.2 hx2) ?_
    refine K_gh ⟨[(1, (.one (.ptr 0 0 0)))], [.cells [.d (.int .i64 p1), .d (.int .i64 p2), .d (.int .i64 p3), .d (.int .i64 p4), .d (.int .i64 p5), .d (.list (p6.map (D.int .i64)))]]⟩ (by kernel_rfl) ?_
    refine K_skip ?_
    refine K_seq ?_
    refine K_seq ?_
    refine K_reg [.n p6.length] [((p6.map (D.int .i64))).length = p6.length] ⟨[(1, (.one (.ptr 0 0 0))), (43, (I (p6.length : Int))), (44, (I 0))], [.cells [.d (.int .i64 p1), .d (.int .i64 p2), .d (.int .i64 p3), .d (.int .i64 p4), .d (.int .i64 p5), .d (.list (p6.map (D.int .i64)))]]⟩ (by kernel_rfl) (A1 (List.length_map _)) ?_
    refine K_block ?_
    obtain ⟨x30, hx30, H⟩ := bind_some' H
    cases x30 with
    | inl x31 =>
     dsimp only at H
     refine K_loop ⟨[], []⟩ (loop_ok (fun (s : Int) => ⟨[(1, (.one (.ptr 0 0 0))), (43, (I (p6.length : Int))), (44, (I s))], [.cells [.d (.int .i64 p1), .d (.int .i64 p2), .d (.int .i64 p3), .d (.int .i64 p4), .d (.int .i64 p5), .d (.list (p6.map (D.int .i64)))]]⟩) (fun (r : Unit ⊕ Unit) => Sum.elim (fun y => (.exit 0, ⟨[], []⟩)) (fun y => (.ret, ⟨[(2, (I 10))], []⟩)) r) (fun r h => by cases r <;> cases h) (T_ref19_Check_l1_ok k p1 p2 p3 (p6.length : Int) p4 p5 p6) k 0 (.inl x31) hx30) rfl ?_
     refine K_seq ?_
     refine K_reg [] [] ⟨[(2, (I 0))], []⟩ (by kernel_rfl) trivial ?_
     refine K_gh ⟨[(2, (I 0))], []⟩ (by kernel_rfl) ?_
     cases H
     refine K_ret ?_
     kernel_rfl
    | inr x32 =>
     dsimp only at H
     cases H
     refine K_loopr ⟨[(2, (I 10))], []⟩ (loop_ok (fun (s : Int) => ⟨[(1, (.one (.ptr 0 0 0))), (43, (I (p6.length : Int))), (44, (I s))], [.cells [.d (.int .i64 p1), .d (.int .i64 p2), .d (.int .i64 p3), .d (.int .i64 p4), .d (.int .i64 p5), .d (.list (p6.map (D.int .i64)))]]⟩) (fun (r : Unit ⊕ Unit) => Sum.elim (fun y => (.exit 0, ⟨[], []⟩)) (fun y => (.ret, ⟨[(2, (I 10))], []⟩)) r) (fun r h => by cases r <;> cases h) (T_ref19_Check_l1_ok k p1 p2 p3 (p6.length : Int) p4 p5 p6) k 0 (.inr x32) hx30) ?_
     kernel_rfl
def T_ref19_Root (k : Nat) (p1 : Int) (p2 : Int) (p3 : Int) (p4 : Int) (p5 : Int) (p6 : List Int) : Option ((List Int) × (List Int) × Int) := match k with
 | 0 => none
 | k + 1 => ((T_ref19_Check k p1 p2 p3 p4 p5 p6).bind fun x1 => (if (!decide (x1 = 0)) = true then some ([], [], x1) else (if (0 : Int) ≤ p5 ∧ p5 ≤ p5 ∧ p5 ≤ (LIM : Int) then some ((((List.replicate p5.toNat (0 : Int)).drop 0).take p5.toNat), (((List.replicate p5.toNat (0 : Int)).drop 0).take p5.toNat), 0) else none)))
theorem T_ref19_Root_ok (k : Nat) (p1 : Int) (p2 : Int) (p3 : Int) (p4 : Int) (p5 : Int) (p6 : List Int) (r : (List Int) × (List Int) × Int) : T_ref19_Root k p1 p2 p3 p4 p5 p6 = some r → evF X k n_ref19_Root [(.agg [.d (.int .i64 p1), .d (.int .i64 p2), .d (.int .i64 p3), .d (.int .i64 p4), .d (.int .i64 p5), .d (.list (p6.map (D.int .i64)))])] [] = some ((.tup [(true, [.d (.list (r.1.map (D.int .i64))), .d (.list (r.2.1.map (D.int .i64)))]), (false, [.d (.int .i64 r.2.2)])]), []) := by
 intro H
 cases k with
 | zero => simp [T_ref19_Root] at H
 | succ k =>
  simp only [T_ref19_Root] at H
  refine F_in X_ref19_Root rfl ?_
  refine K_seq ?_
  refine K_reg [] [] ⟨[(1, (.one (.ptr 0 0 0))), (2, (.one (.ptr 1 0 0)))], [.cells [.d (.int .i64 p1), .d (.int .i64 p2), .d (.int .i64 p3), .d (.int .i64 p4), .d (.int .i64 p5), .d (.list (p6.map (D.int .i64)))], .cells [.nil, .nil]]⟩ (by kernel_rfl) trivial ?_
  refine K_seq ?_
  refine K_seq ?_
  obtain ⟨x1, hx1, H⟩ := bind_some' H
  refine K_reg [.r (I x1) []] [evF X k n_ref19_Check [(.agg [.d (.int .i64 p1), .d (.int .i64 p2), .d (.int .i64 p3), .d (.int .i64 p4), .d (.int .i64 p5), .d (.list (p6.map (D.int .i64)))])] [] = some ((I x1), [])] ⟨[(1, (.one (.ptr 0 0 0))), (2, (.one (.ptr 1 0 0))), (4, (I x1))], [.cells [.d (.int .i64 p1), .d (.int .i64 p2), .d (.int .i64 p3), .d (.int .i64 p4), .d (.int .i64 p5), .d (.list (p6.map (D.int .i64)))], .cells [.nil, .nil]]⟩ (by kernel_rfl) (A1 (T_ref19_Check_ok k p1 p2 p3 p4 p5 p6 x1 hx1)) ?_
  refine K_seq ?_
  refine K_reg [] [] ⟨[(1, (.one (.ptr 0 0 0))), (2, (.one (.ptr 1 0 0))), (4, (I x1)), (8, (B (!decide (x1 = 0))))], [.cells [.d (.int .i64 p1), .d (.int .i64 p2), .d (.int .i64 p3), .d (.int .i64 p4), .d (.int .i64 p5), .d (.list (p6.map (D.int .i64)))], .cells [.nil, .nil]]⟩ (by kernel_rfl) trivial ?_
  rcases ite_some H with ⟨hx2, H⟩ | ⟨hx2, H⟩
  · refine K_t rfl hx2 ?_
    refine K_seq ?_
    refine K_reg [] [] ⟨[(2, (.one (.ptr 0 0 0))), (3, (I x1))], [.cells [.nil, .nil]]⟩ (by kernel_rfl) trivial ?_
    refine K_gh ⟨[(2, (.one (.ptr 0 0 0))), (3, (I x1))], [.cells [.nil, .nil]]⟩ (by kernel_rfl) ?_
    cases H
    refine K_ret ?_
    kernel_rfl
  · refine K_f rfl (Bool.eq_false_iff.2 hx2) ?_
    refine K_gh ⟨[(1, (.one (.ptr 0 0 0))), (2, (.one (.ptr 1 0 0)))], [.cells [.d (.int .i64 p1), .d (.int .i64 p2), .d (.int .i64 p3), .d (.int .i64 p4), .d (.int .i64 p5), .d (.list (p6.map (D.int .i64)))], .cells [.nil, .nil]]⟩ (by kernel_rfl) ?_
    refine K_skip ?_
    refine K_seq ?_
    obtain ⟨hx3, H⟩ := guard_some H
    refine K_regD [.l ((List.replicate p5.toNat (0 : Int)).map (D.int .i64)), .l ((List.replicate p5.toNat (0 : Int)).map (D.int .i64)), .l ((List.replicate p5.toNat (0 : Int)).map (D.int .i64)), .l ((List.replicate p5.toNat (0 : Int)).map (D.int .i64)), .l ((List.replicate p5.toNat (0 : Int)).map (D.int .i64)), .l ((List.replicate p5.toNat (0 : Int)).map (D.int .i64)), .l ((List.replicate p5.toNat (0 : Int)).map (D.int .i64)), .l ((List.replicate p5.toNat (0 : Int)).map (D.int .i64)), .l ((List.replicate p5.toNat (0 : Int)).map (D.int .i64)), .l ((List.replicate p5.toNat (0 : Int)).map (D.int .i64)), .l ((List.replicate p5.toNat (0 : Int)).map (D.int .i64)), .l ((List.replicate p5.toNat (0 : Int)).map (D.int .i64))] [(0 : Int) ≤ p5 ∧ p5 ≤ p5 ∧ p5 ≤ (LIM : Int), List.replicate p5.toNat (.int .i64 0) = (List.replicate p5.toNat (0 : Int)).map (D.int .i64), (0 : Int) ≤ p5 ∧ p5 ≤ p5 ∧ p5 ≤ (LIM : Int), List.replicate p5.toNat (.int .i64 0) = (List.replicate p5.toNat (0 : Int)).map (D.int .i64), (0 : Int) ≤ p5 ∧ p5 ≤ p5 ∧ p5 ≤ (LIM : Int), List.replicate p5.toNat (.int .i64 0) = (List.replicate p5.toNat (0 : Int)).map (D.int .i64), (0 : Int) ≤ p5 ∧ p5 ≤ p5 ∧ p5 ≤ (LIM : Int), List.replicate p5.toNat (.int .i64 0) = (List.replicate p5.toNat (0 : Int)).map (D.int .i64), (0 : Int) ≤ p5 ∧ p5 ≤ p5 ∧ p5 ≤ (LIM : Int), List.replicate p5.toNat (.int .i64 0) = (List.replicate p5.toNat (0 : Int)).map (D.int .i64), (0 : Int) ≤ p5 ∧ p5 ≤ p5 ∧ p5 ≤ (LIM : Int), List.replicate p5.toNat (.int .i64 0) = (List.replicate p5.toNat (0 : Int)).map (D.int .i64), (⟨[(2, (.one (.ptr 0 0 0))), (3, (I 0))], [.cells [.own 1 0 p5.toNat, .own 2 0 p5.toNat], VI (List.replicate p5.toNat (0 : Int)), VI (List.replicate p5.toNat (0 : Int))]⟩ : St) = ⟨[(2, (.one (.ptr 0 0 0))), (3, (I 0))], [.cells [.own 1 0 p5.toNat, .own 2 0 p5.toNat], VI (List.replicate p5.toNat (0 : Int)), VI (List.replicate p5.toNat (0 : Int))]⟩, (⟨[(2, (.one (.ptr 0 0 0))), (3, (I 0))], [.cells [.own 1 0 p5.toNat, .own 2 0 p5.toNat], VI (List.replicate p5.toNat (0 : Int)), VI (List.replicate p5.toNat (0 : Int))]⟩ : St) = ⟨[(2, (.one (.ptr 0 0 0))), (3, (I 0))], [.cells [.own 1 0 p5.toNat, .own 2 0 p5.toNat], VI (List.replicate p5.toNat (0 : Int)), VI (List.replicate p5.toNat (0 : Int))]⟩, (0 : Int) ≤ p5 ∧ p5 ≤ p5 ∧ p5 ≤ (LIM : Int), List.replicate p5.toNat (.int .i64 0) = (List.replicate p5.toNat (0 : Int)).map (D.int .i64), (0 : Int) ≤ p5 ∧ p5 ≤ p5 ∧ p5 ≤ (LIM : Int), List.replicate p5.toNat (.int .i64 0) = (List.replicate p5.toNat (0 : Int)).map (D.int .i64), (0 : Int) ≤ p5 ∧ p5 ≤ p5 ∧ p5 ≤ (LIM : Int), List.replicate p5.toNat (.int .i64 0) = (List.replicate p5.toNat (0 : Int)).map (D.int .i64), (0 : Int) ≤ p5 ∧ p5 ≤ p5 ∧ p5 ≤ (LIM : Int), List.replicate p5.toNat (.int .i64 0) = (List.replicate p5.toNat (0 : Int)).map (D.int .i64), (⟨[(2, (.one (.ptr 0 0 0))), (3, (I 0))], [.cells [.own 1 0 p5.toNat, .own 2 0 p5.toNat], VI (List.replicate p5.toNat (0 : Int)), VI (List.replicate p5.toNat (0 : Int))]⟩ : St) = ⟨[(2, (.one (.ptr 0 0 0))), (3, (I 0))], [.cells [.own 1 0 p5.toNat, .own 2 0 p5.toNat], VI (List.replicate p5.toNat (0 : Int)), VI (List.replicate p5.toNat (0 : Int))]⟩, (0 : Int) ≤ p5 ∧ p5 ≤ p5 ∧ p5 ≤ (LIM : Int), List.replicate p5.toNat (.int .i64 0) = (List.replicate p5.toNat (0 : Int)).map (D.int .i64), (0 : Int) ≤ p5 ∧ p5 ≤ p5 ∧ p5 ≤ (LIM : Int), List.replicate p5.toNat (.int .i64 0) = (List.replicate p5.toNat (0 : Int)).map (D.int .i64), (⟨[(2, (.one (.ptr 0 0 0))), (3, (I 0))], [.cells [.own 1 0 p5.toNat, .own 2 0 p5.toNat], VI (List.replicate p5.toNat (0 : Int)), VI (List.replicate p5.toNat (0 : Int))]⟩ : St) = ⟨[(2, (.one (.ptr 0 0 0))), (3, (I 0))], [.cells [.own 1 0 p5.toNat, .own 2 0 p5.toNat], VI (List.replicate p5.toNat (0 : Int)), VI (List.replicate p5.toNat (0 : Int))]⟩, (⟨[(2, (.one (.ptr 0 0 0))), (3, (I 0))], [.cells [.own 1 0 p5.toNat, .own 2 0 p5.toNat], VI (List.replicate p5.toNat (0 : Int)), VI (List.replicate p5.toNat (0 : Int))]⟩ : St) = ⟨[(2, (.one (.ptr 0 0 0))), (3, (I 0))], [.cells [.own 1 0 p5.toNat, .own 2 0 p5.toNat], VI (List.replicate p5.toNat (0 : Int)), VI (List.replicate p5.toNat (0 : Int))]⟩] ⟨[(2, (.one (.ptr 0 0 0))), (3, (I 0))], [.cells [.own 1 0 p5.toNat, .own 2 0 p5.toNat], VI (List.replicate p5.toNat (0 : Int)), VI (List.replicate p5.toNat (0 : Int))]⟩ (by kernel_rfl) (AC hx3 (AC (rep_map (D.int .i64) _ (0 : Int)) (AC hx3 (AC (rep_map (D.int .i64) _ (0 : Int)) (AC hx3 (AC (rep_map (D.int .i64) _ (0 : Int)) (AC hx3 (AC (rep_map (D.int .i64) _ (0 : Int)) (AC hx3 (AC (rep_map (D.int .i64) _ (0 : Int)) (AC hx3 (AC (rep_map (D.int .i64) _ (0 : Int)) (AC rfl (AC rfl (AC hx3 (AC (rep_map (D.int .i64) _ (0 : Int)) (AC hx3 (AC (rep_map (D.int .i64) _ (0 : Int)) (AC hx3 (AC (rep_map (D.int .i64) _ (0 : Int)) (AC hx3 (AC (rep_map (D.int .i64) _ (0 : Int)) (AC rfl (AC hx3 (AC (rep_map (D.int .i64) _ (0 : Int)) (AC hx3 (AC (rep_map (D.int .i64) _ (0 : Int)) (AC rfl (A1 rfl))))))))))))))))))))))))))))) ?_
    refine K_gh ⟨[(2, (.one (.ptr 0 0 0))), (3, (I 0))], [.cells [.own 1 0 p5.toNat, .own 2 0 p5.toNat], VI (List.replicate p5.toNat (0 : Int)), VI (List.replicate p5.toNat (0 : Int))]⟩ (by kernel_rfl) ?_
    cases H
    refine K_ret ?_
    exact Eq.trans (b := some ((.tup [(true, [.d (.list ((((List.replicate p5.toNat (0 : Int)).map (D.int .i64)).drop 0).take p5.toNat)), .d (.list ((((List.replicate p5.toNat (0 : Int)).map (D.int .i64)).drop 0).take p5.toNat))]), (false, [.d (.int .i64 0)])]), [])) (by kernel_rfl) (by simp only [dt_map, LI, VI])
def T_keep_Src_Bent_l1 (k : Nat) (p2 : List Int) (x14 : Nat × Int × (List Int)) : Option ((Nat × Int × (List Int)) ⊕ ((Nat × Int × (List Int)))) :=
 (if ((x14.1 : Nat) : Int) ≤ 32 then (T_keep_Src_N k 9 p2 x14.2.1).bind fun x16 => (if x14.1 + 1 ≤ LIM then some (.inl ((x14.1 + 1), x16.2, ((x14.2.2.drop 0).take x14.1 ++ ([x16.1] : List Int)))) else none) else some (.inr (x14.1, x14.2.1, x14.2.2)))
theorem T_keep_Src_Bent_l1_ok (k : Nat) (p2 : List Int) : ∀ (x14 : Nat × Int × (List Int)) (x : (Nat × Int × (List Int)) ⊕ ((Nat × Int × (List Int)))), T_keep_Src_Bent_l1 k p2 x14 = some x → evC X (evF X k) k 1 l_keep_Src_Bent_1 ⟨[(0, (.one (.ptr 0 0 0))), (5, (.one (.own 1 0 x14.1)))], [.cells [.d (.list (p2.map (D.int .i64))), .d (.int .i64 x14.2.1)], VI x14.2.2]⟩ = some (outS (fun (s : Nat × Int × (List Int)) => ⟨[(0, (.one (.ptr 0 0 0))), (5, (.one (.own 1 0 s.1)))], [.cells [.d (.list (p2.map (D.int .i64))), .d (.int .i64 s.2.1)], VI s.2.2]⟩) (fun (r : (Nat × Int × (List Int))) => (.exit 1, ⟨[(5, (.one (.own 1 0 r.1)))], [.cells [.d (.list (p2.map (D.int .i64))), .d (.int .i64 r.2.1)], VI r.2.2]⟩)) x) := by
 intro x14 x H
 unfold T_keep_Src_Bent_l1 at H
 refine K_in ?_
 refine K_seq ?_
 refine K_seq ?_
 refine K_reg [] [] ⟨[(0, (.one (.ptr 0 0 0))), (5, (.one (.own 1 0 x14.1))), (36, (B (decide (((x14.1 : Nat) : Int) ≤ 32))))], [.cells [.d (.list (p2.map (D.int .i64))), .d (.int .i64 x14.2.1)], VI x14.2.2]⟩ (by kernel_rfl) trivial ?_
 rcases ite_some H with ⟨hx15, H⟩ | ⟨hx15, H⟩
 · refine K_t rfl (decide_eq_true hx15) ?_
   refine K_gh ⟨[(0, (.one (.ptr 0 0 0))), (5, (.one (.own 1 0 x14.1)))], [.cells [.d (.list (p2.map (D.int .i64))), .d (.int .i64 x14.2.1)], VI x14.2.2]⟩ (by kernel_rfl) ?_
   refine K_skip ?_
   refine K_block ?_
   obtain ⟨x16, hx16, H⟩ := bind_some' H
   obtain ⟨hx17, H⟩ := guard_some H
   refine K_reg [.r (I x16.1) [.cells [.d (.list (p2.map (D.int .i64))), .d (.int .i64 x16.2)]], .n 1, .l (((x14.2.2.drop 0).take x14.1 ++ ([x16.1] : List Int)).map (D.int .i64))] [evF X k n_keep_Src_N [(.one (.ptr 0 0 0)), (I 9)] [.cells [.d (.list (p2.map (D.int .i64))), .d (.int .i64 x14.2.1)]] = some ((I x16.1), [.cells [.d (.list (p2.map (D.int .i64))), .d (.int .i64 x16.2)]]), (List.all (([x16.1] : List Int).map (D.int .i64)) fun d => d.cells.length == (D.cells (.int .i64 0)).length) = true, x14.1 + 1 ≤ LIM, (([x16.1] : List Int).map (D.int .i64)).length = 1, ((x14.2.2.map (D.int .i64)).drop 0).take x14.1 ++ (([x16.1] : List Int).map (D.int .i64)) = ((x14.2.2.drop 0).take x14.1 ++ ([x16.1] : List Int)).map (D.int .i64)] ⟨[(0, (.one (.ptr 0 0 0))), (5, (.one (.own 1 0 (x14.1 + 1))))], [.cells [.d (.list (p2.map (D.int .i64))), .d (.int .i64 x16.2)], VI ((x14.2.2.drop 0).take x14.1 ++ ([x16.1] : List Int))]⟩ (by kernel_rfl) (AC (T_keep_Src_N_ok k 9 p2 x14.2.1 x16 hx16) (AC (all_ok (D.int .i64) 1 ([x16.1] : List Int) (fun _ => rfl)) (AC hx17 (AC (by simp) (A1 (ap_map (D.int .i64) x14.2.2 ([x16.1] : List Int) 0 x14.1)))))) ?_
   refine K_blk ?_
   cases H
   exact K_end rfl
 · refine K_f rfl (decide_eq_false hx15) ?_
   refine K_gh ⟨[(5, (.one (.own 1 0 x14.1)))], [.cells [.d (.list (p2.map (D.int .i64))), .d (.int .i64 x14.2.1)], VI x14.2.2]⟩ (by kernel_rfl) ?_
   cases H
   exact K_exit0 rfl rfl
def T_keep_Src_Bent_l2 (k : Nat) (p2 : List Int) (x34 : Nat × Int × (List Int)) : Option ((Nat × Int × (List Int)) ⊕ ((Nat × Int × (List Int)))) :=
 (if ((x34.1 : Nat) : Int) ≤ 32 then (T_keep_Src_N k 9 p2 x34.2.1).bind fun x36 => (if x34.1 + 1 ≤ LIM then some (.inl ((x34.1 + 1), x36.2, ((x34.2.2.drop 0).take x34.1 ++ ([x36.1] : List Int)))) else none) else some (.inr (x34.1, x34.2.1, x34.2.2)))
theorem T_keep_Src_Bent_l2_ok (k : Nat) (p2 : List Int) : ∀ (x34 : Nat × Int × (List Int)) (x : (Nat × Int × (List Int)) ⊕ ((Nat × Int × (List Int)))), T_keep_Src_Bent_l2 k p2 x34 = some x → evC X (evF X k) k 1 l_keep_Src_Bent_1 ⟨[(0, (.one (.ptr 0 0 0))), (5, (.one (.own 1 0 x34.1)))], [.cells [.d (.list (p2.map (D.int .i64))), .d (.int .i64 x34.2.1)], VI x34.2.2]⟩ = some (outS (fun (s : Nat × Int × (List Int)) => ⟨[(0, (.one (.ptr 0 0 0))), (5, (.one (.own 1 0 s.1)))], [.cells [.d (.list (p2.map (D.int .i64))), .d (.int .i64 s.2.1)], VI s.2.2]⟩) (fun (r : (Nat × Int × (List Int))) => (.exit 1, ⟨[(5, (.one (.own 1 0 r.1)))], [.cells [.d (.list (p2.map (D.int .i64))), .d (.int .i64 r.2.1)], VI r.2.2]⟩)) x) := by
 intro x34 x H
 unfold T_keep_Src_Bent_l2 at H
 refine K_in ?_
 refine K_seq ?_
 refine K_seq ?_
 refine K_reg [] [] ⟨[(0, (.one (.ptr 0 0 0))), (5, (.one (.own 1 0 x34.1))), (36, (B (decide (((x34.1 : Nat) : Int) ≤ 32))))], [.cells [.d (.list (p2.map (D.int .i64))), .d (.int .i64 x34.2.1)], VI x34.2.2]⟩ (by kernel_rfl) trivial ?_
 rcases ite_some H with ⟨hx35, H⟩ | ⟨hx35, H⟩
 · refine K_t rfl (decide_eq_true hx35) ?_
   refine K_gh ⟨[(0, (.one (.ptr 0 0 0))), (5, (.one (.own 1 0 x34.1)))], [.cells [.d (.list (p2.map (D.int .i64))), .d (.int .i64 x34.2.1)], VI x34.2.2]⟩ (by kernel_rfl) ?_
   refine K_skip ?_
   refine K_block ?_
   obtain ⟨x36, hx36, H⟩ := bind_some' H
   obtain ⟨hx37, H⟩ := guard_some H
   refine K_reg [.r (I x36.1) [.cells [.d (.list (p2.map (D.int .i64))), .d (.int .i64 x36.2)]], .n 1, .l (((x34.2.2.drop 0).take x34.1 ++ ([x36.1] : List Int)).map (D.int .i64))] [evF X k n_keep_Src_N [(.one (.ptr 0 0 0)), (I 9)] [.cells [.d (.list (p2.map (D.int .i64))), .d (.int .i64 x34.2.1)]] = some ((I x36.1), [.cells [.d (.list (p2.map (D.int .i64))), .d (.int .i64 x36.2)]]), (List.all (([x36.1] : List Int).map (D.int .i64)) fun d => d.cells.length == (D.cells (.int .i64 0)).length) = true, x34.1 + 1 ≤ LIM, (([x36.1] : List Int).map (D.int .i64)).length = 1, ((x34.2.2.map (D.int .i64)).drop 0).take x34.1 ++ (([x36.1] : List Int).map (D.int .i64)) = ((x34.2.2.drop 0).take x34.1 ++ ([x36.1] : List Int)).map (D.int .i64)] ⟨[(0, (.one (.ptr 0 0 0))), (5, (.one (.own 1 0 (x34.1 + 1))))], [.cells [.d (.list (p2.map (D.int .i64))), .d (.int .i64 x36.2)], VI ((x34.2.2.drop 0).take x34.1 ++ ([x36.1] : List Int))]⟩ (by kernel_rfl) (AC (T_keep_Src_N_ok k 9 p2 x34.2.1 x36 hx36) (AC (all_ok (D.int .i64) 1 ([x36.1] : List Int) (fun _ => rfl)) (AC hx37 (AC (by simp) (A1 (ap_map (D.int .i64) x34.2.2 ([x36.1] : List Int) 0 x34.1)))))) ?_
   refine K_blk ?_
   cases H
   exact K_end rfl
 · refine K_f rfl (decide_eq_false hx35) ?_
   refine K_gh ⟨[(5, (.one (.own 1 0 x34.1)))], [.cells [.d (.list (p2.map (D.int .i64))), .d (.int .i64 x34.2.1)], VI x34.2.2]⟩ (by kernel_rfl) ?_
   cases H
   exact K_exit0 rfl rfl
def T_keep_Src_Bent (k : Nat) (p1 : List Int) (p2 : List Int) (p3 : Int) : Option ((List Int) × Int) := match k with
 | 0 => none
 | k + 1 => (if 0 + p1.length ≤ LIM then (T_keep_Src_N k 4 p2 p3).bind fun x2 => (if x2.1 = 0 then (T_keep_Src_N k 2 p2 x2.2).bind fun x24 => (if (0 : Int) ≤ 0 ∧ 0 ≤ (imin (((0 + p1.length) : Nat) : Int) x24.1) ∧ (imin (((0 + p1.length) : Nat) : Int) x24.1) ≤ (((0 + p1.length) : Nat) : Int) ∧ (((0 + p1.length) : Nat) : Int) ≤ (((0 + p1.length) : Nat) : Int) then some (((((([] : List Int).drop 0).take 0 ++ p1).drop (0 + 0)).take ((imin (((0 + p1.length) : Nat) : Int) x24.1).toNat - 0)), x24.2) else none) else (((if x2.1 = 1 then ((loopT (T_keep_Src_Bent_l2 k p2) k ((0 + p1.length), x2.2, ((([] : List Int).drop 0).take 0 ++ p1))).bind fun x38 => some (x38.1, x38.2.1, x38.2.2)) else (if 0 < (((0 + p1.length) : Nat) : Int) then (T_keep_Src_N k (((0 + p1.length) : Nat) : Int) p2 x2.2).bind fun x40 => (T_keep_Src_Pick k ([1000, 1001, (-1001), 1073741824, 4611686018427387904, (-9223372036854775808)] : List Int) p2 x40.2).bind fun x41 => (if (0 : Int) ≤ x40.1 ∧ x40.1 < (((0 + p1.length) : Nat) : Int) then some ((0 + p1.length), x41.2, (((([] : List Int).drop 0).take 0 ++ p1).set (0 + x40.1.toNat) x41.1)) else none) else some ((0 + p1.length), x2.2, ((([] : List Int).drop 0).take 0 ++ p1))))).bind fun x43 => some (((x43.2.2.drop 0).take x43.1), x43.2.1))) else none)
theorem T_keep_Src_Bent_ok (k : Nat) (p1 : List Int) (p2 : List Int) (p3 : Int) (r : (List Int) × Int) : T_keep_Src_Bent k p1 p2 p3 = some r → evF X k n_keep_Src_Bent [(.one (.ptr 0 0 0)), (LI p1)] [.cells [.d (.list (p2.map (D.int .i64))), .d (.int .i64 p3)]] = some ((LI r.1), [.cells [.d (.list (p2.map (D.int .i64))), .d (.int .i64 r.2)]]) := by
 intro H
 cases k with
 | zero => simp [T_keep_Src_Bent] at H
 | succ k =>
  simp only [T_keep_Src_Bent] at H
  refine F_in X_keep_Src_Bent rfl ?_
  refine K_seq ?_
  refine K_reg [] [] ⟨[(0, (.one (.ptr 0 0 0))), (1, (LI p1))], [.cells [.d (.list (p2.map (D.int .i64))), .d (.int .i64 p3)]]⟩ (by kernel_rfl) trivial ?_
  refine K_seq ?_
  obtain ⟨hx1, H⟩ := guard_some H
  refine K_reg [.n p1.length, .l (((([] : List Int).drop 0).take 0 ++ p1).map (D.int .i64))] [(List.all (p1.map (D.int .i64)) fun d => d.cells.length == (D.cells (.int .i64 0)).length) = true, 0 + p1.length ≤ LIM, (p1.map (D.int .i64)).length = p1.length, ((([] : List Int).map (D.int .i64)).drop 0).take 0 ++ (p1.map (D.int .i64)) = ((([] : List Int).drop 0).take 0 ++ p1).map (D.int .i64)] ⟨[(0, (.one (.ptr 0 0 0))), (5, (.one (.own 1 0 (0 + p1.length))))], [.cells [.d (.list (p2.map (D.int .i64))), .d (.int .i64 p3)], VI ((([] : List Int).drop 0).take 0 ++ p1)]⟩ (by kernel_rfl) (AC (all_ok (D.int .i64) 1 p1 (fun _ => rfl)) (AC hx1 (AC (by simp) (A1 (ap_map (D.int .i64) ([] : List Int) p1 0 0))))) ?_
  refine K_seq ?_
  refine K_seq ?_
  obtain ⟨x2, hx2, H⟩ := bind_some' H
  refine K_reg [.r (I x2.1) [.cells [.d (.list (p2.map (D.int .i64))), .d (.int .i64 x2.2)]]] [evF X k n_keep_Src_N [(.one (.ptr 0 0 0)), (I 4)] [.cells [.d (.list (p2.map (D.int .i64))), .d (.int .i64 p3)]] = some ((I x2.1), [.cells [.d (.list (p2.map (D.int .i64))), .d (.int .i64 x2.2)]])] ⟨[(0, (.one (.ptr 0 0 0))), (5, (.one (.own 1 0 (0 + p1.length)))), (10, (I x2.1))], [.cells [.d (.list (p2.map (D.int .i64))), .d (.int .i64 x2.2)], VI ((([] : List Int).drop 0).take 0 ++ p1)]⟩ (by kernel_rfl) (A1 (T_keep_Src_N_ok k 4 p2 p3 x2 hx2)) ?_
  refine K_block ?_
  refine K_seq ?_
  refine K_reg [] [] ⟨[(0, (.one (.ptr 0 0 0))), (5, (.one (.own 1 0 (0 + p1.length)))), (10, (I x2.1)), (23, (B (decide (x2.1 = 0))))], [.cells [.d (.list (p2.map (D.int .i64))), .d (.int .i64 x2.2)], VI ((([] : List Int).drop 0).take 0 ++ p1)]⟩ (by kernel_rfl) trivial ?_
  rcases ite_some H with ⟨hx23, H⟩ | ⟨hx23, H⟩
  · refine K_t rfl (decide_eq_true hx23) ?_
    refine K_seq ?_
    obtain ⟨x24, hx24, H⟩ := bind_some' H
    obtain ⟨hx25, H⟩ := guard_some H
    refine K_reg [.r (I x24.1) [.cells [.d (.list (p2.map (D.int .i64))), .d (.int .i64 x24.2)]]] [evF X k n_keep_Src_N [(.one (.ptr 0 0 0)), (I 2)] [.cells [.d (.list (p2.map (D.int .i64))), .d (.int .i64 x2.2)]] = some ((I x24.1), [.cells [.d (.list (p2.map (D.int .i64))), .d (.int .i64 x24.2)]]), (0 : Int) ≤ 0 ∧ 0 ≤ (imin (((0 + p1.length) : Nat) : Int) x24.1) ∧ (imin (((0 + p1.length) : Nat) : Int) x24.1) ≤ (((0 + p1.length) : Nat) : Int) ∧ (((0 + p1.length) : Nat) : Int) ≤ (((0 + p1.length) : Nat) : Int)] ⟨[(4, (.one (.own 1 (0 + 0) ((imin (((0 + p1.length) : Nat) : Int) x24.1).toNat - 0))))], [.cells [.d (.list (p2.map (D.int .i64))), .d (.int .i64 x24.2)], VI ((([] : List Int).drop 0).take 0 ++ p1)]⟩ (by kernel_rfl) (AC (T_keep_Src_N_ok k 2 p2 x2.2 x24 hx24) (A1 hx25)) ?_
    refine K_gh ⟨[(4, (.one (.own 1 (0 + 0) ((imin (((0 + p1.length) : Nat) : Int) x24.1).toNat - 0))))], [.cells [.d (.list (p2.map (D.int .i64))), .d (.int .i64 x24.2)], VI ((([] : List Int).drop 0).take 0 ++ p1)]⟩ (by kernel_rfl) ?_
    cases H
    refine K_ret ?_
    exact Eq.trans (b := some ((.one (.d (.list (((((([] : List Int).drop 0).take 0 ++ p1).map (D.int .i64)).drop (0 + 0)).take ((imin (((0 + p1.length) : Nat) : Int) x24.1).toNat - 0))))), [.cells [.d (.list (p2.map (D.int .i64))), .d (.int .i64 x24.2)]])) (by kernel_rfl) (by simp only [dt_map, LI, VI])
  · refine K_f rfl (decide_eq_false hx23) ?_
    refine K_seq ?_
    refine K_reg [] [] ⟨[(0, (.one (.ptr 0 0 0))), (5, (.one (.own 1 0 (0 + p1.length)))), (32, (B (decide (x2.1 = 1))))], [.cells [.d (.list (p2.map (D.int .i64))), .d (.int .i64 x2.2)], VI ((([] : List Int).drop 0).take 0 ++ p1)]⟩ (by kernel_rfl) trivial ?_
    obtain ⟨x43, hx43, H⟩ := bind_some' H
    refine K_of ⟨[(5, (.one (.own 1 0 x43.1)))], [.cells [.d (.list (p2.map (D.int .i64))), .d (.int .i64 x43.2.1)], VI x43.2.2]⟩ ?_ ?_
    · clear H; have H := hx43; clear hx43; refine K_in ?_
      rcases ite_some H with ⟨hx26, H⟩ | ⟨hx26, H⟩
      · refine K_t rfl (decide_eq_true hx26) ?_
        refine K_gh ⟨[(0, (.one (.ptr 0 0 0))), (5, (.one (.own 1 0 (0 + p1.length))))], [.cells [.d (.list (p2.map (D.int .i64))), .d (.int .i64 x2.2)], VI ((([] : List Int).drop 0).take 0 ++ p1)]⟩ (by kernel_rfl) ?_
        refine K_block ?_
        obtain ⟨x38, hx38, H⟩ := bind_some' H
        refine K_loop ⟨[(5, (.one (.own 1 0 x38.1)))], [.cells [.d (.list (p2.map (D.int .i64))), .d (.int .i64 x38.2.1)], VI x38.2.2]⟩ (loop_ok (fun (s : Nat × Int × (List Int)) => ⟨[(0, (.one (.ptr 0 0 0))), (5, (.one (.own 1 0 s.1)))], [.cells [.d (.list (p2.map (D.int .i64))), .d (.int .i64 s.2.1)], VI s.2.2]⟩) (fun (r : (Nat × Int × (List Int))) => (.exit 1, ⟨[(5, (.one (.own 1 0 r.1)))], [.cells [.d (.list (p2.map (D.int .i64))), .d (.int .i64 r.2.1)], VI r.2.2]⟩)) (fun r h => by cases h) (T_keep_Src_Bent_l2_ok k p2) k ((0 + p1.length), x2.2, ((([] : List Int).drop 0).take 0 ++ p1)) x38 hx38) rfl ?_
        cases H
        exact K_end rfl
      · refine K_f rfl (decide_eq_false hx26) ?_
        refine K_seq ?_
        refine K_reg [] [] ⟨[(0, (.one (.ptr 0 0 0))), (5, (.one (.own 1 0 (0 + p1.length)))), (13, (B (decide (0 < (((0 + p1.length) : Nat) : Int)))))], [.cells [.d (.list (p2.map (D.int .i64))), .d (.int .i64 x2.2)], VI ((([] : List Int).drop 0).take 0 ++ p1)]⟩ (by kernel_rfl) trivial ?_
        rcases ite_some H with ⟨hx39, H⟩ | ⟨hx39, H⟩
        · refine K_t rfl (decide_eq_true hx39) ?_
          obtain ⟨x40, hx40, H⟩ := bind_some' H
          obtain ⟨x41, hx41, H⟩ := bind_some' H
          obtain ⟨hx42, H⟩ := guard_some H
          refine K_reg [.r (I x40.1) [.cells [.d (.list (p2.map (D.int .i64))), .d (.int .i64 x40.2)]], .r (I x41.1) [.cells [.d (.list (p2.map (D.int .i64))), .d (.int .i64 x41.2)]], .l ((((([] : List Int).drop 0).take 0 ++ p1).set (0 + x40.1.toNat) x41.1).map (D.int .i64))] [evF X k n_keep_Src_N [(.one (.ptr 0 0 0)), (I (((0 + p1.length) : Nat) : Int))] [.cells [.d (.list (p2.map (D.int .i64))), .d (.int .i64 x2.2)]] = some ((I x40.1), [.cells [.d (.list (p2.map (D.int .i64))), .d (.int .i64 x40.2)]]), evF X k n_keep_Src_Pick [(.one (.ptr 0 0 0)), (LI ([1000, 1001, (-1001), 1073741824, 4611686018427387904, (-9223372036854775808)] : List Int))] [.cells [.d (.list (p2.map (D.int .i64))), .d (.int .i64 x40.2)]] = some ((I x41.1), [.cells [.d (.list (p2.map (D.int .i64))), .d (.int .i64 x41.2)]]), (0 : Int) ≤ x40.1 ∧ x40.1 < (((0 + p1.length) : Nat) : Int), (((([] : List Int).drop 0).take 0 ++ p1).map (D.int .i64)).set (0 + x40.1.toNat) (elemOf (.int .i64 0) (splice ((((([] : List Int).drop 0).take 0 ++ p1).map (D.int .i64)).getD (0 + x40.1.toNat) (.int .i64 0)).cells 0 [.int .i64 x41.1])) = (((([] : List Int).drop 0).take 0 ++ p1).set (0 + x40.1.toNat) x41.1).map (D.int .i64)] ⟨[(5, (.one (.own 1 0 (0 + p1.length))))], [.cells [.d (.list (p2.map (D.int .i64))), .d (.int .i64 x41.2)], VI (((([] : List Int).drop 0).take 0 ++ p1).set (0 + x40.1.toNat) x41.1)]⟩ (by kernel_rfl) (AC (T_keep_Src_N_ok k (((0 + p1.length) : Nat) : Int) p2 x2.2 x40 hx40) (AC (T_keep_Src_Pick_ok k ([1000, 1001, (-1001), 1073741824, 4611686018427387904, (-9223372036854775808)] : List Int) p2 x40.2 x41 hx41) (AC hx42 (A1 (st_one ((([] : List Int).drop 0).take 0 ++ p1) (0 + x40.1.toNat) x41.1 (D.int .i64) (.int .i64 0) rfl (fun _ => rfl) rfl))))) ?_
          cases H
          exact K_end rfl
        · refine K_f rfl (decide_eq_false hx39) ?_
          refine K_gh ⟨[(5, (.one (.own 1 0 (0 + p1.length))))], [.cells [.d (.list (p2.map (D.int .i64))), .d (.int .i64 x2.2)], VI ((([] : List Int).drop 0).take 0 ++ p1)]⟩ (by kernel_rfl) ?_
          refine K_skip ?_
          cases H
          exact K_end rfl
    refine K_blk ?_
    refine K_seq ?_
    refine K_reg [] [] ⟨[(4, (.one (.own 1 0 x43.1)))], [.cells [.d (.list (p2.map (D.int .i64))), .d (.int .i64 x43.2.1)], VI x43.2.2]⟩ (by kernel_rfl) trivial ?_
    refine K_gh ⟨[(4, (.one (.own 1 0 x43.1)))], [.cells [.d (.list (p2.map (D.int .i64))), .d (.int .i64 x43.2.1)], VI x43.2.2]⟩ (by kernel_rfl) ?_
    cases H
    refine K_ret ?_
    exact Eq.trans (b := some ((.one (.d (.list (((x43.2.2.map (D.int .i64)).drop 0).take x43.1)))), [.cells [.d (.list (p2.map (D.int .i64))), .d (.int .i64 x43.2.1)]])) (by kernel_rfl) (by simp only [dt_map, LI, VI])
def T_ref12_Samples_l1 (k : Nat) (p1 : List Int) (x2 : Int) (x8 : Int) : Option (Int ⊕ (Unit ⊕ Unit)) :=
 (if x8 < x2 then ((at? p1 x8).bind fun x10 => (T_ref04_Sample k x10).bind fun x11 => (if (!(decide ((-1000) ≤ x10) && decide (x10 ≤ 1000))) = true then some (.inr (.inr ())) else some (.inl (w64 (x8 + 1))))) else some (.inr (.inl ())))
theorem T_ref12_Samples_l1_ok (k : Nat) (p1 : List Int) (x2 : Int) : ∀ (x8 : Int) (x : Int ⊕ (Unit ⊕ Unit)), T_ref12_Samples_l1 k p1 x2 x8 = some x → evC X (evF X k) k 0 l_ref12_Samples_1 ⟨[(0, (LI p1)), (5, (I x2)), (6, (I x8))], []⟩ = some (outS (fun (s : Int) => ⟨[(0, (LI p1)), (5, (I x2)), (6, (I s))], []⟩) (fun (r : Unit ⊕ Unit) => Sum.elim (fun y => (.exit 0, ⟨[], []⟩)) (fun y => (.ret, ⟨[(2, (I 12))], []⟩)) r) x) := by
 intro x8 x H
 unfold T_ref12_Samples_l1 at H
 refine K_in ?_
 refine K_seq ?_
 refine K_reg [] [] ⟨[(0, (LI p1)), (5, (I x2)), (6, (I x8)), (7, (B (decide (x8 < x2))))], []⟩ (by kernel_rfl) trivial ?_
 refine K_seq ?_
 rcases ite_some H with ⟨hx9, H⟩ | ⟨hx9, H⟩
 · refine K_t rfl (decide_eq_true hx9) ?_
   refine K_gh ⟨[(0, (LI p1)), (5, (I x2)), (6, (I x8))], []⟩ (by kernel_rfl) ?_
   refine K_skip ?_
   refine K_seq ?_
   refine K_block ?_
   refine K_seq ?_
   refine K_reg [] [] ⟨[(0, (LI p1)), (3, (I x8)), (5, (I x2)), (6, (I x8))], []⟩ (by kernel_rfl) trivial ?_
   refine K_seq ?_
   obtain ⟨x10, hx10, H⟩ := bind_some' H
   obtain ⟨x11, hx11, H⟩ := bind_some' H
   refine K_reg [.l [.int .i64 x10], .r (B (decide ((-1000) ≤ x10) && decide (x10 ≤ 1000))) []] [(0 : Int) ≤ x8 ∧ x8 < (((p1.map (D.int .i64))).length : Int), ((p1.map (D.int .i64)).getD x8.toNat (.int .i64 0)).cells = [.int .i64 x10], evF X k n_ref04_Sample [(I x10)] [] = some ((B (decide ((-1000) ≤ x10) && decide (x10 ≤ 1000))), [])] ⟨[(0, (LI p1)), (5, (I x2)), (6, (I x8)), (14, (B (!(decide ((-1000) ≤ x10) && decide (x10 ≤ 1000)))))], []⟩ (by kernel_rfl) (AC (at_ok hx10 (D.int .i64) (.int .i64 0)).1 (AC (at_ok hx10 (D.int .i64) (.int .i64 0)).2 (A1 (T_ref04_Sample_ok k x10 x11 hx11)))) ?_
   rcases ite_some H with ⟨hx12, H⟩ | ⟨hx12, H⟩
   · refine K_t rfl hx12 ?_
     refine K_seq ?_
     refine K_reg [] [] ⟨[(2, (I 12))], []⟩ (by kernel_rfl) trivial ?_
     refine K_gh ⟨[(2, (I 12))], []⟩ (by kernel_rfl) ?_
     cases H
     exact K_ret rfl
   · refine K_f rfl (Bool.eq_false_iff.2 hx12) ?_
     refine K_gh ⟨[(0, (LI p1)), (5, (I x2)), (6, (I x8))], []⟩ (by kernel_rfl) ?_
     refine K_skip ?_
     refine K_blk ?_
     refine K_reg [] [] ⟨[(0, (LI p1)), (5, (I x2)), (6, (I (w64 (x8 + 1))))], []⟩ (by kernel_rfl) trivial ?_
     cases H
     exact K_end rfl
 · refine K_f rfl (decide_eq_false hx9) ?_
   refine K_gh ⟨[], []⟩ (by kernel_rfl) ?_
   cases H
   exact K_exit0 rfl rfl
def T_ref12_Samples (k : Nat) (p1 : List Int) : Option Int := match k with
 | 0 => none
 | k + 1 => ((loopT (T_ref12_Samples_l1 k p1 (p1.length : Int)) k 0).bind fun x13 => (match x13 with | .inl x14 => some 0 | .inr x15 => some 12))
theorem T_ref12_Samples_ok (k : Nat) (p1 : List Int) (r : Int) : T_ref12_Samples k p1 = some r → evF X k n_ref12_Samples [(LI p1)] [] = some ((I r), []) := by
 intro H
 cases k with
 | zero => simp [T_ref12_Samples] at H
 | succ k =>
  simp only [T_ref12_Samples] at H
  refine F_in X_ref12_Samples rfl ?_
  refine K_seq ?_
  refine K_reg [] [] ⟨[(0, (LI p1))], []⟩ (by kernel_rfl) trivial ?_
  refine K_seq ?_
  refine K_seq ?_
  refine K_reg [.n p1.length] [((p1.map (D.int .i64))).length = p1.length] ⟨[(0, (LI p1)), (5, (I (p1.length : Int))), (6, (I 0))], []⟩ (by kernel_rfl) (A1 (List.length_map _)) ?_
  refine K_block ?_
  obtain ⟨x13, hx13, H⟩ := bind_some' H
  cases x13 with
  | inl x14 =>
   dsimp only at H
   refine K_loop ⟨[], []⟩ (loop_ok (fun (s : Int) => ⟨[(0, (LI p1)), (5, (I (p1.length : Int))), (6, (I s))], []⟩) (fun (r : Unit ⊕ Unit) => Sum.elim (fun y => (.exit 0, ⟨[], []⟩)) (fun y => (.ret, ⟨[(2, (I 12))], []⟩)) r) (fun r h => by cases r <;> cases h) (T_ref12_Samples_l1_ok k p1 (p1.length : Int)) k 0 (.inl x14) hx13) rfl ?_
   refine K_seq ?_
   refine K_reg [] [] ⟨[(2, (I 0))], []⟩ (by kernel_rfl) trivial ?_
   refine K_gh ⟨[(2, (I 0))], []⟩ (by kernel_rfl) ?_
   cases H
   refine K_ret ?_
   kernel_rfl
  | inr x15 =>
   dsimp only at H
   cases H
   refine K_loopr ⟨[(2, (I 12))], []⟩ (loop_ok (fun (s : Int) => ⟨[(0, (LI p1)), (5, (I (p1.length : Int))), (6, (I s))], []⟩) (fun (r : Unit ⊕ Unit) => Sum.elim (fun y => (.exit 0, ⟨[], []⟩)) (fun y => (.ret, ⟨[(2, (I 12))], []⟩)) r) (fun r h => by cases r <;> cases h) (T_ref12_Samples_l1_ok k p1 (p1.length : Int)) k 0 (.inr x15) hx13) ?_
   kernel_rfl
def T_ref19_Fits (k : Nat) (p1 : Int) (p2 : Int) (p3 : Int) (p4 : Int) (p5 : Int) (p6 : List Int) (p7 : List Int) : Option Int := match k with
 | 0 => none
 | k + 1 => ((T_ref19_Check k p1 p2 p3 p4 p5 p6).bind fun x1 => (if (!decide (x1 = 0)) = true then some x1 else (if (!decide ((p7.length : Int) = p4)) = true then some 8 else ((T_ref12_Samples k p7).bind fun x4 => some x4))))
theorem T_ref19_Fits_ok (k : Nat) (p1 : Int) (p2 : Int) (p3 : Int) (p4 : Int) (p5 : Int) (p6 : List Int) (p7 : List Int) (r : Int) : T_ref19_Fits k p1 p2 p3 p4 p5 p6 p7 = some r → evF X k n_ref19_Fits [(.agg [.d (.int .i64 p1), .d (.int .i64 p2), .d (.int .i64 p3), .d (.int .i64 p4), .d (.int .i64 p5), .d (.list (p6.map (D.int .i64)))]), (LI p7)] [] = some ((I r), []) := by
 intro H
 cases k with
 | zero => simp [T_ref19_Fits] at H
 | succ k =>
  simp only [T_ref19_Fits] at H
  refine F_in X_ref19_Fits rfl ?_
  refine K_seq ?_
  refine K_reg [] [] ⟨[(1, (LI p7)), (2, (.one (.ptr 0 0 0)))], [.cells [.d (.int .i64 p1), .d (.int .i64 p2), .d (.int .i64 p3), .d (.int .i64 p4), .d (.int .i64 p5), .d (.list (p6.map (D.int .i64)))]]⟩ (by kernel_rfl) trivial ?_
  refine K_seq ?_
  refine K_seq ?_
  obtain ⟨x1, hx1, H⟩ := bind_some' H
  refine K_reg [.r (I x1) []] [evF X k n_ref19_Check [(.agg [.d (.int .i64 p1), .d (.int .i64 p2), .d (.int .i64 p3), .d (.int .i64 p4), .d (.int .i64 p5), .d (.list (p6.map (D.int .i64)))])] [] = some ((I x1), [])] ⟨[(1, (LI p7)), (2, (.one (.ptr 0 0 0))), (5, (I x1))], [.cells [.d (.int .i64 p1), .d (.int .i64 p2), .d (.int .i64 p3), .d (.int .i64 p4), .d (.int .i64 p5), .d (.list (p6.map (D.int .i64)))]]⟩ (by kernel_rfl) (A1 (T_ref19_Check_ok k p1 p2 p3 p4 p5 p6 x1 hx1)) ?_
  refine K_seq ?_
  refine K_reg [] [] ⟨[(1, (LI p7)), (2, (.one (.ptr 0 0 0))), (5, (I x1)), (9, (B (!decide (x1 = 0))))], [.cells [.d (.int .i64 p1), .d (.int .i64 p2), .d (.int .i64 p3), .d (.int .i64 p4), .d (.int .i64 p5), .d (.list (p6.map (D.int .i64)))]]⟩ (by kernel_rfl) trivial ?_
  rcases ite_some H with ⟨hx2, H⟩ | ⟨hx2, H⟩
  · refine K_t rfl hx2 ?_
    refine K_seq ?_
    refine K_reg [] [] ⟨[(4, (I x1))], []⟩ (by kernel_rfl) trivial ?_
    refine K_gh ⟨[(4, (I x1))], []⟩ (by kernel_rfl) ?_
    cases H
    refine K_ret ?_
    kernel_rfl
  · refine K_f rfl (Bool.eq_false_iff.2 hx2) ?_
    refine K_gh ⟨[(1, (LI p7)), (2, (.one (.ptr 0 0 0)))], [.cells [.d (.int .i64 p1), .d (.int .i64 p2), .d (.int .i64 p3), .d (.int .i64 p4), .d (.int .i64 p5), .d (.list (p6.map (D.int .i64)))]]⟩ (by kernel_rfl) ?_
    refine K_skip ?_
    refine K_seq ?_
    refine K_seq ?_
    refine K_reg [.n p7.length] [((p7.map (D.int .i64))).length = p7.length] ⟨[(1, (LI p7)), (15, (B (!decide ((p7.length : Int) = p4))))], []⟩ (by kernel_rfl) (A1 (List.length_map _)) ?_
    rcases ite_some H with ⟨hx3, H⟩ | ⟨hx3, H⟩
    · refine K_t rfl hx3 ?_
      refine K_seq ?_
      refine K_reg [] [] ⟨[(4, (I 8))], []⟩ (by kernel_rfl) trivial ?_
      refine K_gh ⟨[(4, (I 8))], []⟩ (by kernel_rfl) ?_
      cases H
      refine K_ret ?_
      kernel_rfl
    · refine K_f rfl (Bool.eq_false_iff.2 hx3) ?_
      refine K_gh ⟨[(1, (LI p7))], []⟩ (by kernel_rfl) ?_
      refine K_skip ?_
      refine K_seq ?_
      obtain ⟨x4, hx4, H⟩ := bind_some' H
      refine K_reg [.r (I x4) []] [evF X k n_ref12_Samples [(LI p7)] [] = some ((I x4), [])] ⟨[(4, (I x4))], []⟩ (by kernel_rfl) (A1 (T_ref12_Samples_ok k p7 x4 hx4)) ?_
      refine K_gh ⟨[(4, (I x4))], []⟩ (by kernel_rfl) ?_
      cases H
      refine K_ret ?_
      kernel_rfl
def T_ref18_Starts_l1 (k : Nat) (p1 : Int) (p2 : Int) (x11 : Nat × Int × (List Int)) : Option ((Nat × Int × (List Int)) ⊕ ((Nat × (List Int)))) :=
 (if x11.2.1 ≤ p2 then (if p2 ≠ 0 then (if x11.1 + 1 ≤ LIM then some (.inl ((x11.1 + 1), (w64 (x11.2.1 + 1)), ((x11.2.2.drop 0).take x11.1 ++ ([(w64 ((w64 (x11.2.1 * p1)).tdiv p2))] : List Int)))) else none) else none) else some (.inr (x11.1, x11.2.2)))
theorem T_ref18_Starts_l1_ok (k : Nat) (p1 : Int) (p2 : Int) : ∀ (x11 : Nat × Int × (List Int)) (x : (Nat × Int × (List Int)) ⊕ ((Nat × (List Int)))), T_ref18_Starts_l1 k p1 p2 x11 = some x → evC X (evF X k) k 0 l_ref18_Starts_1 ⟨[(0, (I p1)), (1, (I p2)), (6, (.one (.own 0 0 x11.1))), (7, (I x11.2.1))], [VI x11.2.2]⟩ = some (outS (fun (s : Nat × Int × (List Int)) => ⟨[(0, (I p1)), (1, (I p2)), (6, (.one (.own 0 0 s.1))), (7, (I s.2.1))], [VI s.2.2]⟩) (fun (r : (Nat × (List Int))) => (.exit 0, ⟨[(6, (.one (.own 0 0 r.1)))], [VI r.2]⟩)) x) := by
 intro x11 x H
 unfold T_ref18_Starts_l1 at H
 refine K_in ?_
 refine K_seq ?_
 refine K_seq ?_
 refine K_reg [] [] ⟨[(0, (I p1)), (1, (I p2)), (6, (.one (.own 0 0 x11.1))), (7, (I x11.2.1)), (27, (B (decide (x11.2.1 ≤ p2))))], [VI x11.2.2]⟩ (by kernel_rfl) trivial ?_
 rcases ite_some H with ⟨hx12, H⟩ | ⟨hx12, H⟩
 · refine K_t rfl (decide_eq_true hx12) ?_
   refine K_gh ⟨[(0, (I p1)), (1, (I p2)), (6, (.one (.own 0 0 x11.1))), (7, (I x11.2.1))], [VI x11.2.2]⟩ (by kernel_rfl) ?_
   refine K_skip ?_
   refine K_seq ?_
   refine K_block ?_
   obtain ⟨hx13, H⟩ := guard_some H
   obtain ⟨hx14, H⟩ := guard_some H
   refine K_reg [.n 1, .l (((x11.2.2.drop 0).take x11.1 ++ ([(w64 ((w64 (x11.2.1 * p1)).tdiv p2))] : List Int)).map (D.int .i64))] [p2 ≠ (0 : Int), (List.all (([(w64 ((w64 (x11.2.1 * p1)).tdiv p2))] : List Int).map (D.int .i64)) fun d => d.cells.length == (D.cells (.int .i64 0)).length) = true, x11.1 + 1 ≤ LIM, (([(w64 ((w64 (x11.2.1 * p1)).tdiv p2))] : List Int).map (D.int .i64)).length = 1, ((x11.2.2.map (D.int .i64)).drop 0).take x11.1 ++ (([(w64 ((w64 (x11.2.1 * p1)).tdiv p2))] : List Int).map (D.int .i64)) = ((x11.2.2.drop 0).take x11.1 ++ ([(w64 ((w64 (x11.2.1 * p1)).tdiv p2))] : List Int)).map (D.int .i64)] ⟨[(0, (I p1)), (1, (I p2)), (6, (.one (.own 0 0 (x11.1 + 1)))), (7, (I x11.2.1))], [VI ((x11.2.2.drop 0).take x11.1 ++ ([(w64 ((w64 (x11.2.1 * p1)).tdiv p2))] : List Int))]⟩ (by kernel_rfl) (AC hx13 (AC (all_ok (D.int .i64) 1 ([(w64 ((w64 (x11.2.1 * p1)).tdiv p2))] : List Int) (fun _ => rfl)) (AC hx14 (AC (by simp) (A1 (ap_map (D.int .i64) x11.2.2 ([(w64 ((w64 (x11.2.1 * p1)).tdiv p2))] : List Int) 0 x11.1)))))) ?_
   refine K_blk ?_
   refine K_reg [] [] ⟨[(0, (I p1)), (1, (I p2)), (6, (.one (.own 0 0 (x11.1 + 1)))), (7, (I (w64 (x11.2.1 + 1))))], [VI ((x11.2.2.drop 0).take x11.1 ++ ([(w64 ((w64 (x11.2.1 * p1)).tdiv p2))] : List Int))]⟩ (by kernel_rfl) trivial ?_
   cases H
   exact K_end rfl
 · refine K_f rfl (decide_eq_false hx12) ?_
   refine K_gh ⟨[(6, (.one (.own 0 0 x11.1)))], [VI x11.2.2]⟩ (by kernel_rfl) ?_
   cases H
   exact K_exit0 rfl rfl
def T_ref18_Starts (k : Nat) (p1 : Int) (p2 : Int) : Option ((List Int) × Int) := match k with
 | 0 => none
 | k + 1 => (if (decide (p1 < 2) || decide (32 < p1)) = true then some ([], 8) else (if ((decide (p2 < 1) || decide (8 < p2)) || decide (p1 < p2)) = true then some ([], 1) else ((loopT (T_ref18_Starts_l1 k p1 p2) k (0, 0, [])).bind fun x15 => some (((x15.2.drop 0).take x15.1), 0))))
theorem T_ref18_Starts_ok (k : Nat) (p1 : Int) (p2 : Int) (r : (List Int) × Int) : T_ref18_Starts k p1 p2 = some r → evF X k n_ref18_Starts [(I p1), (I p2)] [] = some ((.tup [(false, [.d (.list (r.1.map (D.int .i64)))]), (false, [.d (.int .i64 r.2)])]), []) := by
 intro H
 cases k with
 | zero => simp [T_ref18_Starts] at H
 | succ k =>
  simp only [T_ref18_Starts] at H
  refine F_in X_ref18_Starts rfl ?_
  refine K_seq ?_
  refine K_reg [] [] ⟨[(0, (I p1)), (1, (I p2))], []⟩ (by kernel_rfl) trivial ?_
  refine K_seq ?_
  refine K_seq ?_
  refine K_reg [.m] [([] : Heap) = []] ⟨[(0, (I p1)), (1, (I p2)), (13, (B (decide (p1 < 2) || decide (32 < p1))))], []⟩ (by kernel_rfl) (A1 rfl) ?_
  rcases ite_some H with ⟨hx1, H⟩ | ⟨hx1, H⟩
  · refine K_t rfl hx1 ?_
    refine K_seq ?_
    refine K_reg [] [] ⟨[(4, (.one (.nil))), (5, (I 8))], []⟩ (by kernel_rfl) trivial ?_
    refine K_gh ⟨[(4, (.one (.nil))), (5, (I 8))], []⟩ (by kernel_rfl) ?_
    cases H
    refine K_ret ?_
    kernel_rfl
  · refine K_f rfl (Bool.eq_false_iff.2 hx1) ?_
    refine K_gh ⟨[(0, (I p1)), (1, (I p2))], []⟩ (by kernel_rfl) ?_
    refine K_skip ?_
    refine K_seq ?_
    refine K_seq ?_
    refine K_reg [.m, .m] [([] : Heap) = [], ([] : Heap) = []] ⟨[(0, (I p1)), (1, (I p2)), (24, (B ((decide (p2 < 1) || decide (8 < p2)) || decide (p1 < p2))))], []⟩ (by kernel_rfl) (AC rfl (A1 rfl)) ?_
    rcases ite_some H with ⟨hx2, H⟩ | ⟨hx2, H⟩
    · refine K_t rfl hx2 ?_
      refine K_seq ?_
      refine K_reg [] [] ⟨[(4, (.one (.nil))), (5, (I 1))], []⟩ (by kernel_rfl) trivial ?_
      refine K_gh ⟨[(4, (.one (.nil))), (5, (I 1))], []⟩ (by kernel_rfl) ?_
      cases H
      refine K_ret ?_
      kernel_rfl
    · refine K_f rfl (Bool.eq_false_iff.2 hx2) ?_
      refine K_gh ⟨[(0, (I p1)), (1, (I p2))], []⟩ (by kernel_rfl) ?_
      refine K_skip ?_
      refine K_seq ?_
      refine K_reg [] [] ⟨[(0, (I p1)), (1, (I p2)), (6, (.one (.nil)))], []⟩ (by kernel_rfl) trivial ?_
      refine K_seq ?_
      refine K_seq ?_
      refine K_reg [] [] ⟨[(0, (I p1)), (1, (I p2)), (6, (.one (.nil))), (7, (I 0))], []⟩ (by kernel_rfl) trivial ?_
      refine K_block ?_
      refine K_gh ⟨[(0, (I p1)), (1, (I p2)), (6, (.one (.own 0 0 0))), (7, (I 0))], [VI []]⟩ (by kernel_rfl) ?_
      obtain ⟨x15, hx15, H⟩ := bind_some' H
      refine K_loop ⟨[(6, (.one (.own 0 0 x15.1)))], [VI x15.2]⟩ (loop_ok (fun (s : Nat × Int × (List Int)) => ⟨[(0, (I p1)), (1, (I p2)), (6, (.one (.own 0 0 s.1))), (7, (I s.2.1))], [VI s.2.2]⟩) (fun (r : (Nat × (List Int))) => (.exit 0, ⟨[(6, (.one (.own 0 0 r.1)))], [VI r.2]⟩)) (fun r h => by cases h) (T_ref18_Starts_l1_ok k p1 p2) k (0, 0, []) x15 hx15) rfl ?_
      refine K_seq ?_
      refine K_reg [] [] ⟨[(4, (.one (.own 0 0 x15.1))), (5, (I 0))], [VI x15.2]⟩ (by kernel_rfl) trivial ?_
      refine K_gh ⟨[(4, (.one (.own 0 0 x15.1))), (5, (I 0))], [VI x15.2]⟩ (by kernel_rfl) ?_
      cases H
      refine K_ret ?_
      exact Eq.trans (b := some ((.tup [(false, [.d (.list (((x15.2.map (D.int .i64)).drop 0).take x15.1))]), (false, [.d (.int .i64 0)])]), [])) (by kernel_rfl) (by simp only [dt_map, LI, VI])
def T_ref12_Window (k : Nat) (p1 : List Int) : Option Int := match k with
 | 0 => none
 | k + 1 => (if (decide ((p1.length : Int) < 2) || decide (32 < (p1.length : Int))) = true then some 8 else ((T_ref12_Samples k p1).bind fun x2 => some x2))
theorem T_ref12_Window_ok (k : Nat) (p1 : List Int) (r : Int) : T_ref12_Window k p1 = some r → evF X k n_ref12_Window [(LI p1)] [] = some ((I r), []) := by
 intro H
 cases k with
 | zero => simp [T_ref12_Window] at H
 | succ k =>
  simp only [T_ref12_Window] at H
  refine F_in X_ref12_Window rfl ?_
  refine K_seq ?_
  refine K_reg [] [] ⟨[(0, (LI p1))], []⟩ (by kernel_rfl) trivial ?_
  refine K_seq ?_
  refine K_seq ?_
  refine K_reg [.n p1.length, .m, .n p1.length] [((p1.map (D.int .i64))).length = p1.length, decide ((p1.length : Int) < 2) = false → AllT [((p1.map (D.int .i64))).length = p1.length], ([] : Heap) = []] ⟨[(0, (LI p1)), (10, (B (decide ((p1.length : Int) < 2) || decide (32 < (p1.length : Int)))))], []⟩ (by kernel_rfl) (AC (List.length_map _) (AC (fun _ => (A1 (List.length_map _))) (A1 rfl))) ?_
  rcases ite_some H with ⟨hx1, H⟩ | ⟨hx1, H⟩
  · refine K_t rfl hx1 ?_
    refine K_seq ?_
    refine K_reg [] [] ⟨[(2, (I 8))], []⟩ (by kernel_rfl) trivial ?_
    refine K_gh ⟨[(2, (I 8))], []⟩ (by kernel_rfl) ?_
    cases H
    refine K_ret ?_
    kernel_rfl
  · refine K_f rfl (Bool.eq_false_iff.2 hx1) ?_
    refine K_gh ⟨[(0, (LI p1))], []⟩ (by kernel_rfl) ?_
    refine K_skip ?_
    refine K_seq ?_
    obtain ⟨x2, hx2, H⟩ := bind_some' H
    refine K_reg [.r (I x2) []] [evF X k n_ref12_Samples [(LI p1)] [] = some ((I x2), [])] ⟨[(2, (I x2))], []⟩ (by kernel_rfl) (A1 (T_ref12_Samples_ok k p1 x2 hx2)) ?_
    refine K_gh ⟨[(2, (I x2))], []⟩ (by kernel_rfl) ?_
    cases H
    refine K_ret ?_
    kernel_rfl
def T_ref18_Fold_l1 (k : Nat) (p1 : List Int) (p2 : List Int) (x29 : Nat) (x30 : Int) (x33 : List Int) (x37 : Int × Int) : Option ((Int × Int) ⊕ Int) :=
 ((at? p2 x30).bind fun x38 => (if x37.2 < x38 then ((at? p1 x37.2).bind fun x40 => some (.inl ((w64 (x37.1 + x40)), (w64 (x37.2 + 1))))) else some (.inr x37.1)))
theorem T_ref18_Fold_l1_ok (k : Nat) (p1 : List Int) (p2 : List Int) (x29 : Nat) (x30 : Int) (x33 : List Int) : ∀ (x37 : Int × Int) (x : (Int × Int) ⊕ Int), T_ref18_Fold_l1 k p1 p2 x29 x30 x33 x37 = some x → evC X (evF X k) k 0 l_ref18_Fold_1 ⟨[(0, (LI p1)), (1, (LI p2)), (5, (.one (.own 0 0 x29))), (6, (I x30)), (7, (I x37.1)), (8, (I x37.2))], [VI x33]⟩ = some (outS (fun (s : Int × Int) => ⟨[(0, (LI p1)), (1, (LI p2)), (5, (.one (.own 0 0 x29))), (6, (I x30)), (7, (I s.1)), (8, (I s.2))], [VI x33]⟩) (fun (r : Int) => (.exit 2, ⟨[(0, (LI p1)), (1, (LI p2)), (5, (.one (.own 0 0 x29))), (6, (I x30)), (7, (I r))], [VI x33]⟩)) x) := by
 intro x37 x H
 unfold T_ref18_Fold_l1 at H
 refine K_in ?_
 refine K_seq ?_
 refine K_seq ?_
 obtain ⟨x38, hx38, H⟩ := bind_some' H
 refine K_reg [.l [.int .i64 x38]] [(0 : Int) ≤ x30 ∧ x30 < (((p2.map (D.int .i64))).length : Int), ((p2.map (D.int .i64)).getD x30.toNat (.int .i64 0)).cells = [.int .i64 x38]] ⟨[(0, (LI p1)), (1, (LI p2)), (5, (.one (.own 0 0 x29))), (6, (I x30)), (7, (I x37.1)), (8, (I x37.2)), (25, (B (decide (x37.2 < x38))))], [VI x33]⟩ (by kernel_rfl) (AC (at_ok hx38 (D.int .i64) (.int .i64 0)).1 (A1 (at_ok hx38 (D.int .i64) (.int .i64 0)).2)) ?_
 rcases ite_some H with ⟨hx39, H⟩ | ⟨hx39, H⟩
 · refine K_t rfl (decide_eq_true hx39) ?_
   refine K_gh ⟨[(0, (LI p1)), (1, (LI p2)), (5, (.one (.own 0 0 x29))), (6, (I x30)), (7, (I x37.1)), (8, (I x37.2))], [VI x33]⟩ (by kernel_rfl) ?_
   refine K_skip ?_
   refine K_seq ?_
   refine K_block ?_
   obtain ⟨x40, hx40, H⟩ := bind_some' H
   refine K_reg [.l [.int .i64 x40]] [(0 : Int) ≤ x37.2 ∧ x37.2 < (((p1.map (D.int .i64))).length : Int), ((p1.map (D.int .i64)).getD x37.2.toNat (.int .i64 0)).cells = [.int .i64 x40]] ⟨[(0, (LI p1)), (1, (LI p2)), (5, (.one (.own 0 0 x29))), (6, (I x30)), (7, (I (w64 (x37.1 + x40)))), (8, (I x37.2))], [VI x33]⟩ (by kernel_rfl) (AC (at_ok hx40 (D.int .i64) (.int .i64 0)).1 (A1 (at_ok hx40 (D.int .i64) (.int .i64 0)).2)) ?_
   refine K_blk ?_
   refine K_reg [] [] ⟨[(0, (LI p1)), (1, (LI p2)), (5, (.one (.own 0 0 x29))), (6, (I x30)), (7, (I (w64 (x37.1 + x40)))), (8, (I (w64 (x37.2 + 1))))], [VI x33]⟩ (by kernel_rfl) trivial ?_
   cases H
   exact K_end rfl
 · refine K_f rfl (decide_eq_false hx39) ?_
   refine K_gh ⟨[(0, (LI p1)), (1, (LI p2)), (5, (.one (.own 0 0 x29))), (6, (I x30)), (7, (I x37.1))], [VI x33]⟩ (by kernel_rfl) ?_
   cases H
   exact K_exit0 rfl rfl
def T_ref18_Fold_l2 (k : Nat) (p1 : List Int) (p2 : List Int) (x24 : Nat × Int × (List Int)) : Option ((Nat × Int × (List Int)) ⊕ ((Nat × (List Int)))) :=
 (if x24.2.1 < (p2.length : Int) then (at? p2 (w64 (x24.2.1 - 1))).bind fun x26 => (loopT (T_ref18_Fold_l1 k p1 p2 x24.1 x24.2.1 x24.2.2) k (0, x26)).bind fun x41 => (if x24.1 + 1 ≤ LIM then some (.inl ((x24.1 + 1), (w64 (x24.2.1 + 1)), ((x24.2.2.drop 0).take x24.1 ++ ([x41] : List Int)))) else none) else some (.inr (x24.1, x24.2.2)))
theorem T_ref18_Fold_l2_ok (k : Nat) (p1 : List Int) (p2 : List Int) : ∀ (x24 : Nat × Int × (List Int)) (x : (Nat × Int × (List Int)) ⊕ ((Nat × (List Int)))), T_ref18_Fold_l2 k p1 p2 x24 = some x → evC X (evF X k) k 0 l_ref18_Fold_2 ⟨[(0, (LI p1)), (1, (LI p2)), (5, (.one (.own 0 0 x24.1))), (6, (I x24.2.1))], [VI x24.2.2]⟩ = some (outS (fun (s : Nat × Int × (List Int)) => ⟨[(0, (LI p1)), (1, (LI p2)), (5, (.one (.own 0 0 s.1))), (6, (I s.2.1))], [VI s.2.2]⟩) (fun (r : (Nat × (List Int))) => (.exit 0, ⟨[(5, (.one (.own 0 0 r.1)))], [VI r.2]⟩)) x) := by
 intro x24 x H
 unfold T_ref18_Fold_l2 at H
 refine K_in ?_
 refine K_seq ?_
 refine K_seq ?_
 refine K_reg [.n p2.length] [((p2.map (D.int .i64))).length = p2.length] ⟨[(0, (LI p1)), (1, (LI p2)), (5, (.one (.own 0 0 x24.1))), (6, (I x24.2.1)), (12, (B (decide (x24.2.1 < (p2.length : Int)))))], [VI x24.2.2]⟩ (by kernel_rfl) (A1 (List.length_map _)) ?_
 rcases ite_some H with ⟨hx25, H⟩ | ⟨hx25, H⟩
 · refine K_t rfl (decide_eq_true hx25) ?_
   refine K_gh ⟨[(0, (LI p1)), (1, (LI p2)), (5, (.one (.own 0 0 x24.1))), (6, (I x24.2.1))], [VI x24.2.2]⟩ (by kernel_rfl) ?_
   refine K_skip ?_
   refine K_seq ?_
   refine K_block ?_
   refine K_seq ?_
   refine K_reg [] [] ⟨[(0, (LI p1)), (1, (LI p2)), (5, (.one (.own 0 0 x24.1))), (6, (I x24.2.1)), (7, (I 0))], [VI x24.2.2]⟩ (by kernel_rfl) trivial ?_
   refine K_seq ?_
   refine K_seq ?_
   obtain ⟨x26, hx26, H⟩ := bind_some' H
   refine K_reg [.l [.int .i64 x26]] [(0 : Int) ≤ (w64 (x24.2.1 - 1)) ∧ (w64 (x24.2.1 - 1)) < (((p2.map (D.int .i64))).length : Int), ((p2.map (D.int .i64)).getD (w64 (x24.2.1 - 1)).toNat (.int .i64 0)).cells = [.int .i64 x26]] ⟨[(0, (LI p1)), (1, (LI p2)), (5, (.one (.own 0 0 x24.1))), (6, (I x24.2.1)), (7, (I 0)), (8, (I x26))], [VI x24.2.2]⟩ (by kernel_rfl) (AC (at_ok hx26 (D.int .i64) (.int .i64 0)).1 (A1 (at_ok hx26 (D.int .i64) (.int .i64 0)).2)) ?_
   refine K_block ?_
   obtain ⟨x41, hx41, H⟩ := bind_some' H
   refine K_loop ⟨[(0, (LI p1)), (1, (LI p2)), (5, (.one (.own 0 0 x24.1))), (6, (I x24.2.1)), (7, (I x41))], [VI x24.2.2]⟩ (loop_ok (fun (s : Int × Int) => ⟨[(0, (LI p1)), (1, (LI p2)), (5, (.one (.own 0 0 x24.1))), (6, (I x24.2.1)), (7, (I s.1)), (8, (I s.2))], [VI x24.2.2]⟩) (fun (r : Int) => (.exit 2, ⟨[(0, (LI p1)), (1, (LI p2)), (5, (.one (.own 0 0 x24.1))), (6, (I x24.2.1)), (7, (I r))], [VI x24.2.2]⟩)) (fun r h => by cases h) (T_ref18_Fold_l1_ok k p1 p2 x24.1 x24.2.1 x24.2.2) k (0, x26) x41 hx41) rfl ?_
   obtain ⟨hx42, H⟩ := guard_some H
   refine K_reg [.n 1, .l (((x24.2.2.drop 0).take x24.1 ++ ([x41] : List Int)).map (D.int .i64))] [(List.all (([x41] : List Int).map (D.int .i64)) fun d => d.cells.length == (D.cells (.int .i64 0)).length) = true, x24.1 + 1 ≤ LIM, (([x41] : List Int).map (D.int .i64)).length = 1, ((x24.2.2.map (D.int .i64)).drop 0).take x24.1 ++ (([x41] : List Int).map (D.int .i64)) = ((x24.2.2.drop 0).take x24.1 ++ ([x41] : List Int)).map (D.int .i64)] ⟨[(0, (LI p1)), (1, (LI p2)), (5, (.one (.own 0 0 (x24.1 + 1)))), (6, (I x24.2.1))], [VI ((x24.2.2.drop 0).take x24.1 ++ ([x41] : List Int))]⟩ (by kernel_rfl) (AC (all_ok (D.int .i64) 1 ([x41] : List Int) (fun _ => rfl)) (AC hx42 (AC (by simp) (A1 (ap_map (D.int .i64) x24.2.2 ([x41] : List Int) 0 x24.1))))) ?_
   refine K_blk ?_
   refine K_reg [] [] ⟨[(0, (LI p1)), (1, (LI p2)), (5, (.one (.own 0 0 (x24.1 + 1)))), (6, (I (w64 (x24.2.1 + 1))))], [VI ((x24.2.2.drop 0).take x24.1 ++ ([x41] : List Int))]⟩ (by kernel_rfl) trivial ?_
   cases H
   exact K_end rfl
 · refine K_f rfl (decide_eq_false hx25) ?_
   refine K_gh ⟨[(5, (.one (.own 0 0 x24.1)))], [VI x24.2.2]⟩ (by kernel_rfl) ?_
   cases H
   exact K_exit0 rfl rfl
def T_ref18_Fold (k : Nat) (p1 : List Int) (p2 : List Int) : Option ((List Int)) := match k with
 | 0 => none
 | k + 1 => ((loopT (T_ref18_Fold_l2 k p1 p2) k (0, 1, [])).bind fun x43 => some ((x43.2.drop 0).take x43.1))
theorem T_ref18_Fold_ok (k : Nat) (p1 : List Int) (p2 : List Int) (r : (List Int)) : T_ref18_Fold k p1 p2 = some r → evF X k n_ref18_Fold [(LI p1), (LI p2)] [] = some ((LI r), []) := by
 intro H
 cases k with
 | zero => simp [T_ref18_Fold] at H
 | succ k =>
  simp only [T_ref18_Fold] at H
  refine F_in X_ref18_Fold rfl ?_
  refine K_seq ?_
  refine K_reg [] [] ⟨[(0, (LI p1)), (1, (LI p2))], []⟩ (by kernel_rfl) trivial ?_
  refine K_seq ?_
  refine K_reg [] [] ⟨[(0, (LI p1)), (1, (LI p2)), (5, (.one (.nil)))], []⟩ (by kernel_rfl) trivial ?_
  refine K_seq ?_
  refine K_seq ?_
  refine K_reg [] [] ⟨[(0, (LI p1)), (1, (LI p2)), (5, (.one (.nil))), (6, (I 1))], []⟩ (by kernel_rfl) trivial ?_
  refine K_block ?_
  refine K_gh ⟨[(0, (LI p1)), (1, (LI p2)), (5, (.one (.own 0 0 0))), (6, (I 1))], [VI []]⟩ (by kernel_rfl) ?_
  obtain ⟨x43, hx43, H⟩ := bind_some' H
  refine K_loop ⟨[(5, (.one (.own 0 0 x43.1)))], [VI x43.2]⟩ (loop_ok (fun (s : Nat × Int × (List Int)) => ⟨[(0, (LI p1)), (1, (LI p2)), (5, (.one (.own 0 0 s.1))), (6, (I s.2.1))], [VI s.2.2]⟩) (fun (r : (Nat × (List Int))) => (.exit 0, ⟨[(5, (.one (.own 0 0 r.1)))], [VI r.2]⟩)) (fun r h => by cases h) (T_ref18_Fold_l2_ok k p1 p2) k (0, 1, []) x43 hx43) rfl ?_
  refine K_seq ?_
  refine K_reg [] [] ⟨[(4, (.one (.own 0 0 x43.1)))], [VI x43.2]⟩ (by kernel_rfl) trivial ?_
  refine K_gh ⟨[(4, (.one (.own 0 0 x43.1)))], [VI x43.2]⟩ (by kernel_rfl) ?_
  cases H
  refine K_ret ?_
  exact Eq.trans (b := some ((.one (.d (.list (((x43.2.map (D.int .i64)).drop 0).take x43.1)))), [])) (by kernel_rfl) (by simp only [dt_map, LI, VI])
def T_ref18_Sums (k : Nat) (p1 : List Int) (p2 : Int) : Option ((List Int) × Int) := match k with
 | 0 => none
 | k + 1 => ((T_ref12_Window k p1).bind fun x1 => (if (!decide (x1 = 0)) = true then some ([], x1) else ((T_ref18_Starts k (p1.length : Int) p2).bind fun x3 => (if (!decide (x3.2 = 0)) = true then some ([], x3.2) else ((T_ref18_Fold k p1 x3.1).bind fun x5 => some (x5, 0))))))
theorem T_ref18_Sums_ok (k : Nat) (p1 : List Int) (p2 : Int) (r : (List Int) × Int) : T_ref18_Sums k p1 p2 = some r → evF X k n_ref18_Sums [(LI p1), (I p2)] [] = some ((.tup [(false, [.d (.list (r.1.map (D.int .i64)))]), (false, [.d (.int .i64 r.2)])]), []) := by
 intro H
 cases k with
 | zero => simp [T_ref18_Sums] at H
 | succ k =>
  simp only [T_ref18_Sums] at H
  refine F_in X_ref18_Sums rfl ?_
  refine K_seq ?_
  refine K_reg [] [] ⟨[(0, (LI p1)), (1, (I p2))], []⟩ (by kernel_rfl) trivial ?_
  refine K_seq ?_
  refine K_seq ?_
  obtain ⟨x1, hx1, H⟩ := bind_some' H
  refine K_reg [.r (I x1) []] [evF X k n_ref12_Window [(LI p1)] [] = some ((I x1), [])] ⟨[(0, (LI p1)), (1, (I p2)), (6, (I x1))], []⟩ (by kernel_rfl) (A1 (T_ref12_Window_ok k p1 x1 hx1)) ?_
  refine K_seq ?_
  refine K_reg [] [] ⟨[(0, (LI p1)), (1, (I p2)), (6, (I x1)), (12, (B (!decide (x1 = 0))))], []⟩ (by kernel_rfl) trivial ?_
  rcases ite_some H with ⟨hx2, H⟩ | ⟨hx2, H⟩
  · refine K_t rfl hx2 ?_
    refine K_seq ?_
    refine K_reg [] [] ⟨[(4, (.one (.nil))), (5, (I x1))], []⟩ (by kernel_rfl) trivial ?_
    refine K_gh ⟨[(4, (.one (.nil))), (5, (I x1))], []⟩ (by kernel_rfl) ?_
    cases H
    refine K_ret ?_
    kernel_rfl
  · refine K_f rfl (Bool.eq_false_iff.2 hx2) ?_
    refine K_gh ⟨[(0, (LI p1)), (1, (I p2))], []⟩ (by kernel_rfl) ?_
    refine K_skip ?_
    refine K_seq ?_
    obtain ⟨x3, hx3, H⟩ := bind_some' H
    refine K_reg [.n p1.length, .r (.tup [(false, [.d (.list (x3.1.map (D.int .i64)))]), (false, [.d (.int .i64 x3.2)])]) []] [((p1.map (D.int .i64))).length = p1.length, evF X k n_ref18_Starts [(I (p1.length : Int)), (I p2)] [] = some ((.tup [(false, [.d (.list (x3.1.map (D.int .i64)))]), (false, [.d (.int .i64 x3.2)])]), [])] ⟨[(0, (LI p1)), (7, (LI x3.1)), (8, (I x3.2))], []⟩ (by kernel_rfl) (AC (List.length_map _) (A1 (T_ref18_Starts_ok k (p1.length : Int) p2 x3 hx3))) ?_
    refine K_seq ?_
    refine K_seq ?_
    refine K_reg [] [] ⟨[(0, (LI p1)), (7, (LI x3.1)), (8, (I x3.2)), (22, (B (!decide (x3.2 = 0))))], []⟩ (by kernel_rfl) trivial ?_
    rcases ite_some H with ⟨hx4, H⟩ | ⟨hx4, H⟩
    · refine K_t rfl hx4 ?_
      refine K_seq ?_
      refine K_reg [] [] ⟨[(4, (.one (.nil))), (5, (I x3.2))], []⟩ (by kernel_rfl) trivial ?_
      refine K_gh ⟨[(4, (.one (.nil))), (5, (I x3.2))], []⟩ (by kernel_rfl) ?_
      cases H
      refine K_ret ?_
      kernel_rfl
    · refine K_f rfl (Bool.eq_false_iff.2 hx4) ?_
      refine K_gh ⟨[(0, (LI p1)), (7, (LI x3.1))], []⟩ (by kernel_rfl) ?_
      refine K_skip ?_
      refine K_seq ?_
      obtain ⟨x5, hx5, H⟩ := bind_some' H
      refine K_reg [.r (LI x5) []] [evF X k n_ref18_Fold [(LI p1), (LI x3.1)] [] = some ((LI x5), [])] ⟨[(4, (LI x5)), (5, (I 0))], []⟩ (by kernel_rfl) (A1 (T_ref18_Fold_ok k p1 x3.1 x5 hx5)) ?_
      refine K_gh ⟨[(4, (LI x5)), (5, (I 0))], []⟩ (by kernel_rfl) ?_
      cases H
      refine K_ret ?_
      kernel_rfl
def T_ref13_Centred_l1 (k : Nat) (p1 : List Int) (x5 : Int) (x9 : Int × Int) : Option ((Int × Int) ⊕ Int) :=
 (if x9.2 < x5 then ((at? p1 x9.2).bind fun x11 => some (.inl ((w64 (x9.1 + x11)), (w64 (x9.2 + 1))))) else some (.inr x9.1))
theorem T_ref13_Centred_l1_ok (k : Nat) (p1 : List Int) (x5 : Int) : ∀ (x9 : Int × Int) (x : (Int × Int) ⊕ Int), T_ref13_Centred_l1 k p1 x5 x9 = some x → evC X (evF X k) k 0 l_ref13_Centred_1 ⟨[(0, (LI p1)), (5, (I x9.1)), (15, (I x5)), (16, (I x9.2))], []⟩ = some (outS (fun (s : Int × Int) => ⟨[(0, (LI p1)), (5, (I s.1)), (15, (I x5)), (16, (I s.2))], []⟩) (fun (r : Int) => (.exit 0, ⟨[(0, (LI p1)), (5, (I r))], []⟩)) x) := by
 intro x9 x H
 unfold T_ref13_Centred_l1 at H
 refine K_in ?_
 refine K_seq ?_
 refine K_reg [] [] ⟨[(0, (LI p1)), (5, (I x9.1)), (15, (I x5)), (16, (I x9.2)), (17, (B (decide (x9.2 < x5))))], []⟩ (by kernel_rfl) trivial ?_
 refine K_seq ?_
 rcases ite_some H with ⟨hx10, H⟩ | ⟨hx10, H⟩
 · refine K_t rfl (decide_eq_true hx10) ?_
   refine K_gh ⟨[(0, (LI p1)), (5, (I x9.1)), (15, (I x5)), (16, (I x9.2))], []⟩ (by kernel_rfl) ?_
   refine K_skip ?_
   refine K_seq ?_
   refine K_block ?_
   refine K_seq ?_
   refine K_reg [] [] ⟨[(0, (LI p1)), (5, (I x9.1)), (6, (I x9.2)), (15, (I x5)), (16, (I x9.2))], []⟩ (by kernel_rfl) trivial ?_
   obtain ⟨x11, hx11, H⟩ := bind_some' H
   refine K_reg [.l [.int .i64 x11]] [(0 : Int) ≤ x9.2 ∧ x9.2 < (((p1.map (D.int .i64))).length : Int), ((p1.map (D.int .i64)).getD x9.2.toNat (.int .i64 0)).cells = [.int .i64 x11]] ⟨[(0, (LI p1)), (5, (I (w64 (x9.1 + x11)))), (15, (I x5)), (16, (I x9.2))], []⟩ (by kernel_rfl) (AC (at_ok hx11 (D.int .i64) (.int .i64 0)).1 (A1 (at_ok hx11 (D.int .i64) (.int .i64 0)).2)) ?_
   refine K_blk ?_
   refine K_reg [] [] ⟨[(0, (LI p1)), (5, (I (w64 (x9.1 + x11)))), (15, (I x5)), (16, (I (w64 (x9.2 + 1))))], []⟩ (by kernel_rfl) trivial ?_
   cases H
   exact K_end rfl
 · refine K_f rfl (decide_eq_false hx10) ?_
   refine K_gh ⟨[(0, (LI p1)), (5, (I x9.1))], []⟩ (by kernel_rfl) ?_
   cases H
   exact K_exit0 rfl rfl
def T_ref13_Centred_l2 (k : Nat) (p1 : List Int) (x12 : Int) (x16 : Int) (x22 : Nat × Int × (List Int)) : Option ((Nat × Int × (List Int)) ⊕ ((Nat × (List Int)))) :=
 (if x22.2.1 < x16 then (at? p1 x22.2.1).bind fun x24 => (if x22.1 + 1 ≤ LIM then some (.inl ((x22.1 + 1), (w64 (x22.2.1 + 1)), ((x22.2.2.drop 0).take x22.1 ++ ([(w64 ((w64 ((p1.length : Int) * x24)) - x12))] : List Int)))) else none) else some (.inr (x22.1, x22.2.2)))
theorem T_ref13_Centred_l2_ok (k : Nat) (p1 : List Int) (x12 : Int) (x16 : Int) : ∀ (x22 : Nat × Int × (List Int)) (x : (Nat × Int × (List Int)) ⊕ ((Nat × (List Int)))), T_ref13_Centred_l2 k p1 x12 x16 x22 = some x → evC X (evF X k) k 0 l_ref13_Centred_2 ⟨[(0, (LI p1)), (5, (I x12)), (7, (.one (.own 0 0 x22.1))), (27, (I x16)), (28, (I x22.2.1))], [VI x22.2.2]⟩ = some (outS (fun (s : Nat × Int × (List Int)) => ⟨[(0, (LI p1)), (5, (I x12)), (7, (.one (.own 0 0 s.1))), (27, (I x16)), (28, (I s.2.1))], [VI s.2.2]⟩) (fun (r : (Nat × (List Int))) => (.exit 2, ⟨[(7, (.one (.own 0 0 r.1)))], [VI r.2]⟩)) x) := by
 intro x22 x H
 unfold T_ref13_Centred_l2 at H
 refine K_in ?_
 refine K_seq ?_
 refine K_reg [] [] ⟨[(0, (LI p1)), (5, (I x12)), (7, (.one (.own 0 0 x22.1))), (27, (I x16)), (28, (I x22.2.1)), (29, (B (decide (x22.2.1 < x16))))], [VI x22.2.2]⟩ (by kernel_rfl) trivial ?_
 refine K_seq ?_
 rcases ite_some H with ⟨hx23, H⟩ | ⟨hx23, H⟩
 · refine K_t rfl (decide_eq_true hx23) ?_
   refine K_gh ⟨[(0, (LI p1)), (5, (I x12)), (7, (.one (.own 0 0 x22.1))), (27, (I x16)), (28, (I x22.2.1))], [VI x22.2.2]⟩ (by kernel_rfl) ?_
   refine K_skip ?_
   refine K_seq ?_
   refine K_block ?_
   refine K_seq ?_
   refine K_reg [] [] ⟨[(0, (LI p1)), (5, (I x12)), (7, (.one (.own 0 0 x22.1))), (8, (I x22.2.1)), (27, (I x16)), (28, (I x22.2.1))], [VI x22.2.2]⟩ (by kernel_rfl) trivial ?_
   obtain ⟨x24, hx24, H⟩ := bind_some' H
   obtain ⟨hx25, H⟩ := guard_some H
   refine K_reg [.n p1.length, .l [.int .i64 x24], .n 1, .l (((x22.2.2.drop 0).take x22.1 ++ ([(w64 ((w64 ((p1.length : Int) * x24)) - x12))] : List Int)).map (D.int .i64))] [((p1.map (D.int .i64))).length = p1.length, (0 : Int) ≤ x22.2.1 ∧ x22.2.1 < (((p1.map (D.int .i64))).length : Int), ((p1.map (D.int .i64)).getD x22.2.1.toNat (.int .i64 0)).cells = [.int .i64 x24], (List.all (([(w64 ((w64 ((p1.length : Int) * x24)) - x12))] : List Int).map (D.int .i64)) fun d => d.cells.length == (D.cells (.int .i64 0)).length) = true, x22.1 + 1 ≤ LIM, (([(w64 ((w64 ((p1.length : Int) * x24)) - x12))] : List Int).map (D.int .i64)).length = 1, ((x22.2.2.map (D.int .i64)).drop 0).take x22.1 ++ (([(w64 ((w64 ((p1.length : Int) * x24)) - x12))] : List Int).map (D.int .i64)) = ((x22.2.2.drop 0).take x22.1 ++ ([(w64 ((w64 ((p1.length : Int) * x24)) - x12))] : List Int)).map (D.int .i64)] ⟨[(0, (LI p1)), (5, (I x12)), (7, (.one (.own 0 0 (x22.1 + 1)))), (27, (I x16)), (28, (I x22.2.1))], [VI ((x22.2.2.drop 0).take x22.1 ++ ([(w64 ((w64 ((p1.length : Int) * x24)) - x12))] : List Int))]⟩ (by kernel_rfl) (AC (List.length_map _) (AC (at_ok hx24 (D.int .i64) (.int .i64 0)).1 (AC (at_ok hx24 (D.int .i64) (.int .i64 0)).2 (AC (all_ok (D.int .i64) 1 ([(w64 ((w64 ((p1.length : Int) * x24)) - x12))] : List Int) (fun _ => rfl)) (AC hx25 (AC (by simp) (A1 (ap_map (D.int .i64) x22.2.2 ([(w64 ((w64 ((p1.length : Int) * x24)) - x12))] : List Int) 0 x22.1)))))))) ?_
   refine K_blk ?_
   refine K_reg [] [] ⟨[(0, (LI p1)), (5, (I x12)), (7, (.one (.own 0 0 (x22.1 + 1)))), (27, (I x16)), (28, (I (w64 (x22.2.1 + 1))))], [VI ((x22.2.2.drop 0).take x22.1 ++ ([(w64 ((w64 ((p1.length : Int) * x24)) - x12))] : List Int))]⟩ (by kernel_rfl) trivial ?_
   cases H
   exact K_end rfl
 · refine K_f rfl (decide_eq_false hx23) ?_
   refine K_gh ⟨[(7, (.one (.own 0 0 x22.1)))], [VI x22.2.2]⟩ (by kernel_rfl) ?_
   cases H
   exact K_exit0 rfl rfl
def T_ref13_Centred (k : Nat) (p1 : List Int) : Option ((List Int) × Int) := match k with
 | 0 => none
 | k + 1 => ((T_ref12_Window k p1).bind fun x1 => (if (!decide (x1 = 0)) = true then some ([], x1) else ((loopT (T_ref13_Centred_l1 k p1 (p1.length : Int)) k (0, 0)).bind fun x12 => (loopT (T_ref13_Centred_l2 k p1 x12 (p1.length : Int)) k (0, 0, [])).bind fun x26 => some (((x26.2.drop 0).take x26.1), 0))))
theorem T_ref13_Centred_ok (k : Nat) (p1 : List Int) (r : (List Int) × Int) : T_ref13_Centred k p1 = some r → evF X k n_ref13_Centred [(LI p1)] [] = some ((.tup [(false, [.d (.list (r.1.map (D.int .i64)))]), (false, [.d (.int .i64 r.2)])]), []) := by
 intro H
 cases k with
 | zero => simp [T_ref13_Centred] at H
 | succ k =>
  simp only [T_ref13_Centred] at H
  refine F_in X_ref13_Centred rfl ?_
  refine K_seq ?_
  refine K_reg [] [] ⟨[(0, (LI p1))], []⟩ (by kernel_rfl) trivial ?_
  refine K_seq ?_
  refine K_seq ?_
  obtain ⟨x1, hx1, H⟩ := bind_some' H
  refine K_reg [.r (I x1) []] [evF X k n_ref12_Window [(LI p1)] [] = some ((I x1), [])] ⟨[(0, (LI p1)), (4, (I x1))], []⟩ (by kernel_rfl) (A1 (T_ref12_Window_ok k p1 x1 hx1)) ?_
  refine K_seq ?_
  refine K_reg [] [] ⟨[(0, (LI p1)), (4, (I x1)), (12, (B (!decide (x1 = 0))))], []⟩ (by kernel_rfl) trivial ?_
  rcases ite_some H with ⟨hx2, H⟩ | ⟨hx2, H⟩
  · refine K_t rfl hx2 ?_
    refine K_seq ?_
    refine K_reg [] [] ⟨[(2, (.one (.nil))), (3, (I x1))], []⟩ (by kernel_rfl) trivial ?_
    refine K_gh ⟨[(2, (.one (.nil))), (3, (I x1))], []⟩ (by kernel_rfl) ?_
    cases H
    refine K_ret ?_
    kernel_rfl
  · refine K_f rfl (Bool.eq_false_iff.2 hx2) ?_
    refine K_gh ⟨[(0, (LI p1))], []⟩ (by kernel_rfl) ?_
    refine K_skip ?_
    refine K_seq ?_
    refine K_reg [] [] ⟨[(0, (LI p1)), (5, (I 0))], []⟩ (by kernel_rfl) trivial ?_
    refine K_seq ?_
    refine K_seq ?_
    refine K_reg [.n p1.length] [((p1.map (D.int .i64))).length = p1.length] ⟨[(0, (LI p1)), (5, (I 0)), (15, (I (p1.length : Int))), (16, (I 0))], []⟩ (by kernel_rfl) (A1 (List.length_map _)) ?_
    refine K_block ?_
    obtain ⟨x12, hx12, H⟩ := bind_some' H
    refine K_loop ⟨[(0, (LI p1)), (5, (I x12))], []⟩ (loop_ok (fun (s : Int × Int) => ⟨[(0, (LI p1)), (5, (I s.1)), (15, (I (p1.length : Int))), (16, (I s.2))], []⟩) (fun (r : Int) => (.exit 0, ⟨[(0, (LI p1)), (5, (I r))], []⟩)) (fun r h => by cases h) (T_ref13_Centred_l1_ok k p1 (p1.length : Int)) k (0, 0) x12 hx12) rfl ?_
    refine K_seq ?_
    refine K_reg [] [] ⟨[(0, (LI p1)), (5, (I x12)), (7, (.one (.nil)))], []⟩ (by kernel_rfl) trivial ?_
    refine K_seq ?_
    refine K_seq ?_
    refine K_reg [.n p1.length] [((p1.map (D.int .i64))).length = p1.length] ⟨[(0, (LI p1)), (5, (I x12)), (7, (.one (.nil))), (27, (I (p1.length : Int))), (28, (I 0))], []⟩ (by kernel_rfl) (A1 (List.length_map _)) ?_
    refine K_block ?_
    refine K_gh ⟨[(0, (LI p1)), (5, (I x12)), (7, (.one (.own 0 0 0))), (27, (I (p1.length : Int))), (28, (I 0))], [VI []]⟩ (by kernel_rfl) ?_
    obtain ⟨x26, hx26, H⟩ := bind_some' H
    refine K_loop ⟨[(7, (.one (.own 0 0 x26.1)))], [VI x26.2]⟩ (loop_ok (fun (s : Nat × Int × (List Int)) => ⟨[(0, (LI p1)), (5, (I x12)), (7, (.one (.own 0 0 s.1))), (27, (I (p1.length : Int))), (28, (I s.2.1))], [VI s.2.2]⟩) (fun (r : (Nat × (List Int))) => (.exit 2, ⟨[(7, (.one (.own 0 0 r.1)))], [VI r.2]⟩)) (fun r h => by cases h) (T_ref13_Centred_l2_ok k p1 x12 (p1.length : Int)) k (0, 0, []) x26 hx26) rfl ?_
    refine K_seq ?_
    refine K_reg [] [] ⟨[(2, (.one (.own 0 0 x26.1))), (3, (I 0))], [VI x26.2]⟩ (by kernel_rfl) trivial ?_
    refine K_gh ⟨[(2, (.one (.own 0 0 x26.1))), (3, (I 0))], [VI x26.2]⟩ (by kernel_rfl) ?_
    cases H
    refine K_ret ?_
    exact Eq.trans (b := some ((.tup [(false, [.d (.list (((x26.2.map (D.int .i64)).drop 0).take x26.1))]), (false, [.d (.int .i64 0)])]), [])) (by kernel_rfl) (by simp only [dt_map, LI, VI])
def T_ref18_Centred (k : Nat) (p1 : List Int) (p2 : Int) : Option ((List Int) × Int) := match k with
 | 0 => none
 | k + 1 => ((T_ref13_Centred k p1).bind fun x1 => (if (!decide (x1.2 = 0)) = true then some ([], x1.2) else ((T_ref18_Starts k (p1.length : Int) p2).bind fun x3 => (if (!decide (x3.2 = 0)) = true then some ([], x3.2) else ((T_ref18_Fold k x1.1 x3.1).bind fun x5 => some (x5, 0))))))
theorem T_ref18_Centred_ok (k : Nat) (p1 : List Int) (p2 : Int) (r : (List Int) × Int) : T_ref18_Centred k p1 p2 = some r → evF X k n_ref18_Centred [(LI p1), (I p2)] [] = some ((.tup [(false, [.d (.list (r.1.map (D.int .i64)))]), (false, [.d (.int .i64 r.2)])]), []) := by
 intro H
 cases k with
 | zero => simp [T_ref18_Centred] at H
 | succ k =>
  simp only [T_ref18_Centred] at H
  refine F_in X_ref18_Centred rfl ?_
  refine K_seq ?_
  refine K_reg [] [] ⟨[(0, (LI p1)), (1, (I p2))], []⟩ (by kernel_rfl) trivial ?_
  refine K_seq ?_
  obtain ⟨x1, hx1, H⟩ := bind_some' H
  refine K_reg [.r (.tup [(false, [.d (.list (x1.1.map (D.int .i64)))]), (false, [.d (.int .i64 x1.2)])]) []] [evF X k n_ref13_Centred [(LI p1)] [] = some ((.tup [(false, [.d (.list (x1.1.map (D.int .i64)))]), (false, [.d (.int .i64 x1.2)])]), [])] ⟨[(0, (LI p1)), (1, (I p2)), (6, (LI x1.1)), (7, (I x1.2))], []⟩ (by kernel_rfl) (A1 (T_ref13_Centred_ok k p1 x1 hx1)) ?_
  refine K_seq ?_
  refine K_seq ?_
  refine K_reg [] [] ⟨[(0, (LI p1)), (1, (I p2)), (6, (LI x1.1)), (7, (I x1.2)), (15, (B (!decide (x1.2 = 0))))], []⟩ (by kernel_rfl) trivial ?_
  rcases ite_some H with ⟨hx2, H⟩ | ⟨hx2, H⟩
  · refine K_t rfl hx2 ?_
    refine K_seq ?_
    refine K_reg [] [] ⟨[(4, (.one (.nil))), (5, (I x1.2))], []⟩ (by kernel_rfl) trivial ?_
    refine K_gh ⟨[(4, (.one (.nil))), (5, (I x1.2))], []⟩ (by kernel_rfl) ?_
    cases H
    refine K_ret ?_
    kernel_rfl
  · refine K_f rfl (Bool.eq_false_iff.2 hx2) ?_
    refine K_gh ⟨[(0, (LI p1)), (1, (I p2)), (6, (LI x1.1))], []⟩ (by kernel_rfl) ?_
    refine K_skip ?_
    refine K_seq ?_
    obtain ⟨x3, hx3, H⟩ := bind_some' H
    refine K_reg [.n p1.length, .r (.tup [(false, [.d (.list (x3.1.map (D.int .i64)))]), (false, [.d (.int .i64 x3.2)])]) []] [((p1.map (D.int .i64))).length = p1.length, evF X k n_ref18_Starts [(I (p1.length : Int)), (I p2)] [] = some ((.tup [(false, [.d (.list (x3.1.map (D.int .i64)))]), (false, [.d (.int .i64 x3.2)])]), [])] ⟨[(6, (LI x1.1)), (7, (I x3.2)), (8, (LI x3.1))], []⟩ (by kernel_rfl) (AC (List.length_map _) (A1 (T_ref18_Starts_ok k (p1.length : Int) p2 x3 hx3))) ?_
    refine K_seq ?_
    refine K_seq ?_
    refine K_reg [] [] ⟨[(6, (LI x1.1)), (7, (I x3.2)), (8, (LI x3.1)), (25, (B (!decide (x3.2 = 0))))], []⟩ (by kernel_rfl) trivial ?_
    rcases ite_some H with ⟨hx4, H⟩ | ⟨hx4, H⟩
    · refine K_t rfl hx4 ?_
      refine K_seq ?_
      refine K_reg [] [] ⟨[(4, (.one (.nil))), (5, (I x3.2))], []⟩ (by kernel_rfl) trivial ?_
      refine K_gh ⟨[(4, (.one (.nil))), (5, (I x3.2))], []⟩ (by kernel_rfl) ?_
      cases H
      refine K_ret ?_
      kernel_rfl
    · refine K_f rfl (Bool.eq_false_iff.2 hx4) ?_
      refine K_gh ⟨[(6, (LI x1.1)), (8, (LI x3.1))], []⟩ (by kernel_rfl) ?_
      refine K_skip ?_
      refine K_seq ?_
      obtain ⟨x5, hx5, H⟩ := bind_some' H
      refine K_reg [.r (LI x5) []] [evF X k n_ref18_Fold [(LI x1.1), (LI x3.1)] [] = some ((LI x5), [])] ⟨[(4, (LI x5)), (5, (I 0))], []⟩ (by kernel_rfl) (A1 (T_ref18_Fold_ok k x1.1 x3.1 x5 hx5)) ?_
      refine K_gh ⟨[(4, (LI x5)), (5, (I 0))], []⟩ (by kernel_rfl) ?_
      cases H
      refine K_ret ?_
      kernel_rfl
def T_ref12_Two (k : Nat) (p1 : List Int) (p2 : List Int) (p3 : Int) : Option Int := match k with
 | 0 => none
 | k + 1 => (if (((decide ((p1.length : Int) < 2) || decide (32 < (p1.length : Int))) || decide ((p2.length : Int) < 2)) || decide (32 < (p2.length : Int))) = true then some 8 else ((((T_ref12_Samples k p1).bind fun x2 => (if (!decide (x2 = 0)) = true then some true else ((T_ref12_Samples k p2).bind fun x5 => some (!decide (x5 = 0)))))).bind fun x6 => (if x6 = true then some 12 else (if (decide (p3 < (w64 ((p1.length : Int) - (p2.length : Int)))) || decide (p3 < (w64 ((p2.length : Int) - (p1.length : Int))))) = true then some 8 else some 0))))
theorem T_ref12_Two_ok (k : Nat) (p1 : List Int) (p2 : List Int) (p3 : Int) (r : Int) : T_ref12_Two k p1 p2 p3 = some r → evF X k n_ref12_Two [(LI p1), (LI p2), (I p3)] [] = some ((I r), []) := by
 intro H
 cases k with
 | zero => simp [T_ref12_Two] at H
 | succ k =>
  simp only [T_ref12_Two] at H
  refine F_in X_ref12_Two rfl ?_
  refine K_seq ?_
  refine K_reg [] [] ⟨[(0, (LI p1)), (1, (LI p2)), (2, (I p3))], []⟩ (by kernel_rfl) trivial ?_
  refine K_seq ?_
  refine K_seq ?_
  refine K_reg [.n p1.length, .m, .n p1.length, .m, .n p2.length, .m, .n p2.length] [((p1.map (D.int .i64))).length = p1.length, decide ((p1.length : Int) < 2) = false → AllT [((p1.map (D.int .i64))).length = p1.length], ([] : Heap) = [], (decide ((p1.length : Int) < 2) || decide (32 < (p1.length : Int))) = false → AllT [((p2.map (D.int .i64))).length = p2.length], ([] : Heap) = [], ((decide ((p1.length : Int) < 2) || decide (32 < (p1.length : Int))) || decide ((p2.length : Int) < 2)) = false → AllT [((p2.map (D.int .i64))).length = p2.length], ([] : Heap) = []] ⟨[(0, (LI p1)), (1, (LI p2)), (2, (I p3)), (24, (B (((decide ((p1.length : Int) < 2) || decide (32 < (p1.length : Int))) || decide ((p2.length : Int) < 2)) || decide (32 < (p2.length : Int)))))], []⟩ (by kernel_rfl) (AC (List.length_map _) (AC (fun _ => (A1 (List.length_map _))) (AC rfl (AC (fun _ => (A1 (List.length_map _))) (AC rfl (AC (fun _ => (A1 (List.length_map _))) (A1 rfl))))))) ?_
  rcases ite_some H with ⟨hx1, H⟩ | ⟨hx1, H⟩
  · refine K_t rfl hx1 ?_
    refine K_seq ?_
    refine K_reg [] [] ⟨[(6, (I 8))], []⟩ (by kernel_rfl) trivial ?_
    refine K_gh ⟨[(6, (I 8))], []⟩ (by kernel_rfl) ?_
    cases H
    refine K_ret ?_
    kernel_rfl
  · refine K_f rfl (Bool.eq_false_iff.2 hx1) ?_
    refine K_gh ⟨[(0, (LI p1)), (1, (LI p2)), (2, (I p3))], []⟩ (by kernel_rfl) ?_
    refine K_skip ?_
    refine K_seq ?_
    refine K_seq ?_
    obtain ⟨x6, hx6, H⟩ := bind_some' H
    refine K_of ⟨[(0, (LI p1)), (1, (LI p2)), (2, (I p3)), (32, (B x6))], []⟩ ?_ ?_
    · clear H; have H := hx6; clear hx6; refine K_in ?_
      obtain ⟨x2, hx2, H⟩ := bind_some' H
      rcases ite_some H with ⟨hx4, H⟩ | ⟨hx4, H⟩
      · refine K_reg [.r (I x2) [], .b true] [evF X k n_ref12_Samples [(LI p1)] [] = some ((I x2), []), (!decide (x2 = 0)) = true] ⟨[(0, (LI p1)), (1, (LI p2)), (2, (I p3)), (32, (B true))], []⟩ (by kernel_rfl) (AC (T_ref12_Samples_ok k p1 x2 hx2) (A1 hx4)) ?_
        cases H
        exact K_end rfl
      · obtain ⟨x5, hx5, H⟩ := bind_some' H
        refine K_reg [.r (I x2) [], .b false, .r (I x5) []] [evF X k n_ref12_Samples [(LI p1)] [] = some ((I x2), []), (!decide (x2 = 0)) = false, evF X k n_ref12_Samples [(LI p2)] [] = some ((I x5), [])] ⟨[(0, (LI p1)), (1, (LI p2)), (2, (I p3)), (32, (B (!decide (x5 = 0))))], []⟩ (by kernel_rfl) (AC (T_ref12_Samples_ok k p1 x2 hx2) (AC (Bool.eq_false_iff.2 hx4) (A1 (T_ref12_Samples_ok k p2 x5 hx5)))) ?_
        cases H
        exact K_end rfl
    rcases ite_some H with ⟨hx7, H⟩ | ⟨hx7, H⟩
    · refine K_t rfl hx7 ?_
      refine K_seq ?_
      refine K_reg [] [] ⟨[(6, (I 12))], []⟩ (by kernel_rfl) trivial ?_
      refine K_gh ⟨[(6, (I 12))], []⟩ (by kernel_rfl) ?_
      cases H
      refine K_ret ?_
      kernel_rfl
    · refine K_f rfl (Bool.eq_false_iff.2 hx7) ?_
      refine K_gh ⟨[(0, (LI p1)), (1, (LI p2)), (2, (I p3))], []⟩ (by kernel_rfl) ?_
      refine K_skip ?_
      refine K_seq ?_
      refine K_seq ?_
      refine K_reg [.n p1.length, .n p2.length, .m, .n p2.length, .n p1.length] [((p1.map (D.int .i64))).length = p1.length, ((p2.map (D.int .i64))).length = p2.length, decide (p3 < (w64 ((p1.length : Int) - (p2.length : Int)))) = false → AllT [((p2.map (D.int .i64))).length = p2.length, ((p1.map (D.int .i64))).length = p1.length], ([] : Heap) = []] ⟨[(48, (B (decide (p3 < (w64 ((p1.length : Int) - (p2.length : Int)))) || decide (p3 < (w64 ((p2.length : Int) - (p1.length : Int)))))))], []⟩ (by kernel_rfl) (AC (List.length_map _) (AC (List.length_map _) (AC (fun _ => (AC (List.length_map _) (A1 (List.length_map _)))) (A1 rfl)))) ?_
      rcases ite_some H with ⟨hx8, H⟩ | ⟨hx8, H⟩
      · refine K_t rfl hx8 ?_
        refine K_seq ?_
        refine K_reg [] [] ⟨[(6, (I 8))], []⟩ (by kernel_rfl) trivial ?_
        refine K_gh ⟨[(6, (I 8))], []⟩ (by kernel_rfl) ?_
        cases H
        refine K_ret ?_
        kernel_rfl
      · refine K_f rfl (Bool.eq_false_iff.2 hx8) ?_
        refine K_gh ⟨[], []⟩ (by kernel_rfl) ?_
        refine K_skip ?_
        refine K_seq ?_
        refine K_reg [] [] ⟨[(6, (I 0))], []⟩ (by kernel_rfl) trivial ?_
        refine K_gh ⟨[(6, (I 0))], []⟩ (by kernel_rfl) ?_
        cases H
        refine K_ret ?_
        kernel_rfl
def T_ref13_product_l1 (k : Nat) (p1 : List Int) (p2 : List Int) (x6 : Int) (x11 : Int × Int × Int × Int) : Option ((Int × Int × Int × Int) ⊕ ((Int × Int × Int))) :=
 (if x11.2.2.2 < x6 then ((at? p1 x11.2.2.2).bind fun x13 => (at? p2 x11.2.2.2).bind fun x14 => some (.inl ((w64 (x11.1 + (w64 (x13 * x14)))), (w64 (x11.2.1 + x13)), (w64 (x11.2.2.1 + x14)), (w64 (x11.2.2.2 + 1))))) else some (.inr (x11.1, x11.2.1, x11.2.2.1)))
theorem T_ref13_product_l1_ok (k : Nat) (p1 : List Int) (p2 : List Int) (x6 : Int) : ∀ (x11 : Int × Int × Int × Int) (x : (Int × Int × Int × Int) ⊕ ((Int × Int × Int))), T_ref13_product_l1 k p1 p2 x6 x11 = some x → evC X (evF X k) k 0 l_ref13_product_1 ⟨[(0, (LI p1)), (1, (LI p2)), (5, (I x11.1)), (6, (I x11.2.1)), (7, (I x11.2.2.1)), (10, (I x6)), (11, (I x11.2.2.2))], []⟩ = some (outS (fun (s : Int × Int × Int × Int) => ⟨[(0, (LI p1)), (1, (LI p2)), (5, (I s.1)), (6, (I s.2.1)), (7, (I s.2.2.1)), (10, (I x6)), (11, (I s.2.2.2))], []⟩) (fun (r : (Int × Int × Int)) => (.exit 0, ⟨[(0, (LI p1)), (5, (I r.1)), (6, (I r.2.1)), (7, (I r.2.2))], []⟩)) x) := by
 intro x11 x H
 unfold T_ref13_product_l1 at H
 refine K_in ?_
 refine K_seq ?_
 refine K_reg [] [] ⟨[(0, (LI p1)), (1, (LI p2)), (5, (I x11.1)), (6, (I x11.2.1)), (7, (I x11.2.2.1)), (10, (I x6)), (11, (I x11.2.2.2)), (12, (B (decide (x11.2.2.2 < x6))))], []⟩ (by kernel_rfl) trivial ?_
 refine K_seq ?_
 rcases ite_some H with ⟨hx12, H⟩ | ⟨hx12, H⟩
 · refine K_t rfl (decide_eq_true hx12) ?_
   refine K_gh ⟨[(0, (LI p1)), (1, (LI p2)), (5, (I x11.1)), (6, (I x11.2.1)), (7, (I x11.2.2.1)), (10, (I x6)), (11, (I x11.2.2.2))], []⟩ (by kernel_rfl) ?_
   refine K_skip ?_
   refine K_seq ?_
   refine K_block ?_
   refine K_seq ?_
   refine K_reg [] [] ⟨[(0, (LI p1)), (1, (LI p2)), (5, (I x11.1)), (6, (I x11.2.1)), (7, (I x11.2.2.1)), (8, (I x11.2.2.2)), (10, (I x6)), (11, (I x11.2.2.2))], []⟩ (by kernel_rfl) trivial ?_
   obtain ⟨x13, hx13, H⟩ := bind_some' H
   obtain ⟨x14, hx14, H⟩ := bind_some' H
   refine K_reg [.l [.int .i64 x13], .l [.int .i64 x14], .l [.int .i64 x13], .l [.int .i64 x14]] [(0 : Int) ≤ x11.2.2.2 ∧ x11.2.2.2 < (((p1.map (D.int .i64))).length : Int), ((p1.map (D.int .i64)).getD x11.2.2.2.toNat (.int .i64 0)).cells = [.int .i64 x13], (0 : Int) ≤ x11.2.2.2 ∧ x11.2.2.2 < (((p2.map (D.int .i64))).length : Int), ((p2.map (D.int .i64)).getD x11.2.2.2.toNat (.int .i64 0)).cells = [.int .i64 x14], (0 : Int) ≤ x11.2.2.2 ∧ x11.2.2.2 < (((p1.map (D.int .i64))).length : Int), ((p1.map (D.int .i64)).getD x11.2.2.2.toNat (.int .i64 0)).cells = [.int .i64 x13], (0 : Int) ≤ x11.2.2.2 ∧ x11.2.2.2 < (((p2.map (D.int .i64))).length : Int), ((p2.map (D.int .i64)).getD x11.2.2.2.toNat (.int .i64 0)).cells = [.int .i64 x14]] ⟨[(0, (LI p1)), (1, (LI p2)), (5, (I (w64 (x11.1 + (w64 (x13 * x14)))))), (6, (I (w64 (x11.2.1 + x13)))), (7, (I (w64 (x11.2.2.1 + x14)))), (10, (I x6)), (11, (I x11.2.2.2))], []⟩ (by kernel_rfl) (AC (at_ok hx13 (D.int .i64) (.int .i64 0)).1 (AC (at_ok hx13 (D.int .i64) (.int .i64 0)).2 (AC (at_ok hx14 (D.int .i64) (.int .i64 0)).1 (AC (at_ok hx14 (D.int .i64) (.int .i64 0)).2 (AC (at_ok hx13 (D.int .i64) (.int .i64 0)).1 (AC (at_ok hx13 (D.int .i64) (.int .i64 0)).2 (AC (at_ok hx14 (D.int .i64) (.int .i64 0)).1 (A1 (at_ok hx14 (D.int .i64) (.int .i64 0)).2)))))))) ?_
   refine K_blk ?_
   refine K_reg [] [] ⟨[(0, (LI p1)), (1, (LI p2)), (5, (I (w64 (x11.1 + (w64 (x13 * x14)))))), (6, (I (w64 (x11.2.1 + x13)))), (7, (I (w64 (x11.2.2.1 + x14)))), (10, (I x6)), (11, (I (w64 (x11.2.2.2 + 1))))], []⟩ (by kernel_rfl) trivial ?_
   cases H
   exact K_end rfl
 · refine K_f rfl (decide_eq_false hx12) ?_
   refine K_gh ⟨[(0, (LI p1)), (5, (I x11.1)), (6, (I x11.2.1)), (7, (I x11.2.2.1))], []⟩ (by kernel_rfl) ?_
   cases H
   exact K_exit0 rfl rfl
def T_ref13_product (k : Nat) (p1 : List Int) (p2 : List Int) : Option Int := match k with
 | 0 => none
 | k + 1 => ((loopT (T_ref13_product_l1 k p1 p2 (p1.length : Int)) k (0, 0, 0, 0)).bind fun x15 => some (w64 ((w64 ((p1.length : Int) * x15.1)) - (w64 (x15.2.1 * x15.2.2)))))
theorem T_ref13_product_ok (k : Nat) (p1 : List Int) (p2 : List Int) (r : Int) : T_ref13_product k p1 p2 = some r → evF X k n_ref13_product [(LI p1), (LI p2)] [] = some ((I r), []) := by
 intro H
 cases k with
 | zero => simp [T_ref13_product] at H
 | succ k =>
  simp only [T_ref13_product] at H
  refine F_in X_ref13_product rfl ?_
  refine K_seq ?_
  refine K_reg [] [] ⟨[(0, (LI p1)), (1, (LI p2))], []⟩ (by kernel_rfl) trivial ?_
  refine K_seq ?_
  refine K_reg [] [] ⟨[(0, (LI p1)), (1, (LI p2)), (5, (I 0)), (6, (I 0)), (7, (I 0))], []⟩ (by kernel_rfl) trivial ?_
  refine K_seq ?_
  refine K_seq ?_
  refine K_reg [.n p1.length] [((p1.map (D.int .i64))).length = p1.length] ⟨[(0, (LI p1)), (1, (LI p2)), (5, (I 0)), (6, (I 0)), (7, (I 0)), (10, (I (p1.length : Int))), (11, (I 0))], []⟩ (by kernel_rfl) (A1 (List.length_map _)) ?_
  refine K_block ?_
  obtain ⟨x15, hx15, H⟩ := bind_some' H
  refine K_loop ⟨[(0, (LI p1)), (5, (I x15.1)), (6, (I x15.2.1)), (7, (I x15.2.2))], []⟩ (loop_ok (fun (s : Int × Int × Int × Int) => ⟨[(0, (LI p1)), (1, (LI p2)), (5, (I s.1)), (6, (I s.2.1)), (7, (I s.2.2.1)), (10, (I (p1.length : Int))), (11, (I s.2.2.2))], []⟩) (fun (r : (Int × Int × Int)) => (.exit 0, ⟨[(0, (LI p1)), (5, (I r.1)), (6, (I r.2.1)), (7, (I r.2.2))], []⟩)) (fun r h => by cases h) (T_ref13_product_l1_ok k p1 p2 (p1.length : Int)) k (0, 0, 0, 0) x15 hx15) rfl ?_
  refine K_seq ?_
  refine K_reg [.n p1.length] [((p1.map (D.int .i64))).length = p1.length] ⟨[(4, (I (w64 ((w64 ((p1.length : Int) * x15.1)) - (w64 (x15.2.1 * x15.2.2))))))], []⟩ (by kernel_rfl) (A1 (List.length_map _)) ?_
  refine K_gh ⟨[(4, (I (w64 ((w64 ((p1.length : Int) * x15.1)) - (w64 (x15.2.1 * x15.2.2))))))], []⟩ (by kernel_rfl) ?_
  cases H
  refine K_ret ?_
  kernel_rfl
def T_ref13_Product (k : Nat) (p1 : List Int) (p2 : List Int) : Option (Int × Int) := match k with
 | 0 => none
 | k + 1 => ((T_ref12_Two k p1 p2 0).bind fun x1 => (if (!decide (x1 = 0)) = true then some (0, x1) else ((T_ref13_product k p1 p2).bind fun x3 => some (x3, 0))))
theorem T_ref13_Product_ok (k : Nat) (p1 : List Int) (p2 : List Int) (r : Int × Int) : T_ref13_Product k p1 p2 = some r → evF X k n_ref13_Product [(LI p1), (LI p2)] [] = some ((.tup [(false, [.d (.int .i64 r.1)]), (false, [.d (.int .i64 r.2)])]), []) := by
 intro H
 cases k with
 | zero => simp [T_ref13_Product] at H
 | succ k =>
  simp only [T_ref13_Product] at H
  refine F_in X_ref13_Product rfl ?_
  refine K_seq ?_
  refine K_reg [] [] ⟨[(0, (LI p1)), (1, (LI p2))], []⟩ (by kernel_rfl) trivial ?_
  refine K_seq ?_
  refine K_seq ?_
  obtain ⟨x1, hx1, H⟩ := bind_some' H
  refine K_reg [.r (I x1) []] [evF X k n_ref12_Two [(LI p1), (LI p2), (I 0)] [] = some ((I x1), [])] ⟨[(0, (LI p1)), (1, (LI p2)), (6, (I x1))], []⟩ (by kernel_rfl) (A1 (T_ref12_Two_ok k p1 p2 0 x1 hx1)) ?_
  refine K_seq ?_
  refine K_reg [] [] ⟨[(0, (LI p1)), (1, (LI p2)), (6, (I x1)), (11, (B (!decide (x1 = 0))))], []⟩ (by kernel_rfl) trivial ?_
  rcases ite_some H with ⟨hx2, H⟩ | ⟨hx2, H⟩
  · refine K_t rfl hx2 ?_
    refine K_seq ?_
    refine K_reg [] [] ⟨[(4, (I 0)), (5, (I x1))], []⟩ (by kernel_rfl) trivial ?_
    refine K_gh ⟨[(4, (I 0)), (5, (I x1))], []⟩ (by kernel_rfl) ?_
    cases H
    refine K_ret ?_
    kernel_rfl
  · refine K_f rfl (Bool.eq_false_iff.2 hx2) ?_
    refine K_gh ⟨[(0, (LI p1)), (1, (LI p2))], []⟩ (by kernel_rfl) ?_
    refine K_skip ?_
    refine K_seq ?_
    obtain ⟨x3, hx3, H⟩ := bind_some' H
    refine K_reg [.r (I x3) []] [evF X k n_ref13_product [(LI p1), (LI p2)] [] = some ((I x3), [])] ⟨[(4, (I x3)), (5, (I 0))], []⟩ (by kernel_rfl) (A1 (T_ref13_product_ok k p1 p2 x3 hx3)) ?_
    refine K_gh ⟨[(4, (I x3)), (5, (I 0))], []⟩ (by kernel_rfl) ?_
    cases H
    refine K_ret ?_
    kernel_rfl
def T_ref04_Down (k : Nat) (p1 : Int) (p2 : Int) : Option Int := match k with
 | 0 => none
 | k + 1 => (if p2 ≠ 0 then (if p2 ≠ 0 then ((if (p1.tmod p2) < 0 then some (w64 ((w64 (p1.tdiv p2)) - 1)) else some (w64 (p1.tdiv p2)))).bind fun x4 => some x4 else none) else none)
theorem T_ref04_Down_ok (k : Nat) (p1 : Int) (p2 : Int) (r : Int) : T_ref04_Down k p1 p2 = some r → evF X k n_ref04_Down [(I p1), (I p2)] [] = some ((I r), []) := by
 intro H
 cases k with
 | zero => simp [T_ref04_Down] at H
 | succ k =>
  simp only [T_ref04_Down] at H
  refine F_in X_ref04_Down rfl ?_
  refine K_seq ?_
  refine K_reg [] [] ⟨[(0, (I p1)), (1, (I p2))], []⟩ (by kernel_rfl) trivial ?_
  refine K_seq ?_
  obtain ⟨hx1, H⟩ := guard_some H
  refine K_reg [] [p2 ≠ (0 : Int)] ⟨[(0, (I p1)), (1, (I p2)), (5, (I (w64 (p1.tdiv p2))))], []⟩ (by kernel_rfl) (A1 hx1) ?_
  refine K_seq ?_
  refine K_seq ?_
  obtain ⟨hx2, H⟩ := guard_some H
  refine K_reg [] [p2 ≠ (0 : Int)] ⟨[(5, (I (w64 (p1.tdiv p2)))), (12, (B (decide ((p1.tmod p2) < 0))))], []⟩ (by kernel_rfl) (A1 hx2) ?_
  obtain ⟨x4, hx4, H⟩ := bind_some' H
  refine K_of ⟨[(5, (I x4))], []⟩ ?_ ?_
  · clear H; have H := hx4; clear hx4; refine K_in ?_
    rcases ite_some H with ⟨hx3, H⟩ | ⟨hx3, H⟩
    · refine K_t rfl (decide_eq_true hx3) ?_
      refine K_reg [] [] ⟨[(5, (I (w64 ((w64 (p1.tdiv p2)) - 1))))], []⟩ (by kernel_rfl) trivial ?_
      cases H
      exact K_end rfl
    · refine K_f rfl (decide_eq_false hx3) ?_
      refine K_gh ⟨[(5, (I (w64 (p1.tdiv p2))))], []⟩ (by kernel_rfl) ?_
      refine K_skip ?_
      cases H
      exact K_end rfl
  refine K_seq ?_
  refine K_reg [] [] ⟨[(4, (I x4))], []⟩ (by kernel_rfl) trivial ?_
  refine K_gh ⟨[(4, (I x4))], []⟩ (by kernel_rfl) ?_
  cases H
  refine K_ret ?_
  kernel_rfl
def T_ref02_Floor_l1 (k : Nat) (p1 : Int) (x8 : Int × Int) : Option ((Int × Int) ⊕ Int) :=
 (if 0 < x8.2 then (((if (decide ((w64 (x8.1 + x8.2)) ≤ 2147483648) && decide ((w64 ((w64 (x8.1 + x8.2)) * (w64 (x8.1 + x8.2)))) ≤ p1)) = true then some (w64 (x8.1 + x8.2)) else some x8.1)).bind fun x11 => some (.inl (x11, (x8.2.fdiv (2 ^ 1))))) else some (.inr x8.1))
theorem T_ref02_Floor_l1_ok (k : Nat) (p1 : Int) : ∀ (x8 : Int × Int) (x : (Int × Int) ⊕ Int), T_ref02_Floor_l1 k p1 x8 = some x → evC X (evF X k) k 0 l_ref02_Floor_1 ⟨[(0, (I p1)), (3, (I x8.1)), (4, (I x8.2))], []⟩ = some (outS (fun (s : Int × Int) => ⟨[(0, (I p1)), (3, (I s.1)), (4, (I s.2))], []⟩) (fun (r : Int) => (.exit 0, ⟨[(3, (I r))], []⟩)) x) := by
 intro x8 x H
 unfold T_ref02_Floor_l1 at H
 refine K_in ?_
 refine K_seq ?_
 refine K_seq ?_
 refine K_reg [] [] ⟨[(0, (I p1)), (3, (I x8.1)), (4, (I x8.2)), (12, (B (decide (0 < x8.2))))], []⟩ (by kernel_rfl) trivial ?_
 rcases ite_some H with ⟨hx9, H⟩ | ⟨hx9, H⟩
 · refine K_t rfl (decide_eq_true hx9) ?_
   refine K_gh ⟨[(0, (I p1)), (3, (I x8.1)), (4, (I x8.2))], []⟩ (by kernel_rfl) ?_
   refine K_skip ?_
   refine K_seq ?_
   refine K_block ?_
   refine K_seq ?_
   refine K_reg [.m] [([] : Heap) = []] ⟨[(0, (I p1)), (3, (I x8.1)), (4, (I x8.2)), (29, (B (decide ((w64 (x8.1 + x8.2)) ≤ 2147483648) && decide ((w64 ((w64 (x8.1 + x8.2)) * (w64 (x8.1 + x8.2)))) ≤ p1))))], []⟩ (by kernel_rfl) (A1 rfl) ?_
   obtain ⟨x11, hx11, H⟩ := bind_some' H
   refine K_of ⟨[(0, (I p1)), (3, (I x11)), (4, (I x8.2))], []⟩ ?_ ?_
   · clear H; have H := hx11; clear hx11; refine K_in ?_
     rcases ite_some H with ⟨hx10, H⟩ | ⟨hx10, H⟩
     · refine K_t rfl hx10 ?_
       refine K_reg [] [] ⟨[(0, (I p1)), (3, (I (w64 (x8.1 + x8.2)))), (4, (I x8.2))], []⟩ (by kernel_rfl) trivial ?_
       cases H
       exact K_end rfl
     · refine K_f rfl (Bool.eq_false_iff.2 hx10) ?_
       refine K_gh ⟨[(0, (I p1)), (3, (I x8.1)), (4, (I x8.2))], []⟩ (by kernel_rfl) ?_
       refine K_skip ?_
       cases H
       exact K_end rfl
   refine K_blk ?_
   refine K_reg [] [(0 : Int) ≤ 1] ⟨[(0, (I p1)), (3, (I x11)), (4, (I (x8.2.fdiv (2 ^ 1))))], []⟩ (by kernel_rfl) (A1 (by decide)) ?_
   cases H
   exact K_end rfl
 · refine K_f rfl (decide_eq_false hx9) ?_
   refine K_gh ⟨[(3, (I x8.1))], []⟩ (by kernel_rfl) ?_
   cases H
   exact K_exit0 rfl rfl
def T_ref02_Floor (k : Nat) (p1 : Int) : Option Int := match k with
 | 0 => none
 | k + 1 => (if (decide (p1 < 0) || decide (4611686018427387904 < p1)) = true then some 0 else ((loopT (T_ref02_Floor_l1 k p1) k (0, 2147483648)).bind fun x12 => some x12))
theorem T_ref02_Floor_ok (k : Nat) (p1 : Int) (r : Int) : T_ref02_Floor k p1 = some r → evF X k n_ref02_Floor [(I p1)] [] = some ((I r), []) := by
 intro H
 cases k with
 | zero => simp [T_ref02_Floor] at H
 | succ k =>
  simp only [T_ref02_Floor] at H
  refine F_in X_ref02_Floor rfl ?_
  refine K_seq ?_
  refine K_reg [] [] ⟨[(0, (I p1))], []⟩ (by kernel_rfl) trivial ?_
  refine K_seq ?_
  refine K_seq ?_
  refine K_reg [.m] [([] : Heap) = []] ⟨[(0, (I p1)), (10, (B (decide (p1 < 0) || decide (4611686018427387904 < p1))))], []⟩ (by kernel_rfl) (A1 rfl) ?_
  rcases ite_some H with ⟨hx1, H⟩ | ⟨hx1, H⟩
  · refine K_t rfl hx1 ?_
    refine K_seq ?_
    refine K_reg [] [] ⟨[(2, (I 0))], []⟩ (by kernel_rfl) trivial ?_
    refine K_gh ⟨[(2, (I 0))], []⟩ (by kernel_rfl) ?_
    cases H
    refine K_ret ?_
    kernel_rfl
  · refine K_f rfl (Bool.eq_false_iff.2 hx1) ?_
    refine K_gh ⟨[(0, (I p1))], []⟩ (by kernel_rfl) ?_
    refine K_skip ?_
    refine K_seq ?_
    refine K_reg [] [] ⟨[(0, (I p1)), (3, (I 0))], []⟩ (by kernel_rfl) trivial ?_
    refine K_seq ?_
    refine K_seq ?_
    refine K_reg [] [] ⟨[(0, (I p1)), (3, (I 0)), (4, (I 2147483648))], []⟩ (by kernel_rfl) trivial ?_
    refine K_block ?_
    obtain ⟨x12, hx12, H⟩ := bind_some' H
    refine K_loop ⟨[(3, (I x12))], []⟩ (loop_ok (fun (s : Int × Int) => ⟨[(0, (I p1)), (3, (I s.1)), (4, (I s.2))], []⟩) (fun (r : Int) => (.exit 0, ⟨[(3, (I r))], []⟩)) (fun r h => by cases h) (T_ref02_Floor_l1_ok k p1) k (0, 2147483648) x12 hx12) rfl ?_
    refine K_seq ?_
    refine K_reg [] [] ⟨[(2, (I x12))], []⟩ (by kernel_rfl) trivial ?_
    refine K_gh ⟨[(2, (I x12))], []⟩ (by kernel_rfl) ?_
    cases H
    refine K_ret ?_
    kernel_rfl
def T_ref02_Ceil (k : Nat) (p1 : Int) : Option Int := match k with
 | 0 => none
 | k + 1 => ((T_ref02_Floor k p1).bind fun x1 => (if ((decide (0 ≤ p1) && decide (p1 ≤ 4611686018427387904)) && decide ((w64 (x1 * x1)) < p1)) = true then some (w64 (x1 + 1)) else some x1))
theorem T_ref02_Ceil_ok (k : Nat) (p1 : Int) (r : Int) : T_ref02_Ceil k p1 = some r → evF X k n_ref02_Ceil [(I p1)] [] = some ((I r), []) := by
 intro H
 cases k with
 | zero => simp [T_ref02_Ceil] at H
 | succ k =>
  simp only [T_ref02_Ceil] at H
  refine F_in X_ref02_Ceil rfl ?_
  refine K_seq ?_
  refine K_reg [] [] ⟨[(0, (I p1))], []⟩ (by kernel_rfl) trivial ?_
  refine K_seq ?_
  obtain ⟨x1, hx1, H⟩ := bind_some' H
  refine K_reg [.r (I x1) []] [evF X k n_ref02_Floor [(I p1)] [] = some ((I x1), [])] ⟨[(0, (I p1)), (3, (I x1))], []⟩ (by kernel_rfl) (A1 (T_ref02_Floor_ok k p1 x1 hx1)) ?_
  refine K_seq ?_
  refine K_seq ?_
  refine K_reg [.m, .m] [([] : Heap) = [], ([] : Heap) = []] ⟨[(3, (I x1)), (18, (B ((decide (0 ≤ p1) && decide (p1 ≤ 4611686018427387904)) && decide ((w64 (x1 * x1)) < p1))))], []⟩ (by kernel_rfl) (AC rfl (A1 rfl)) ?_
  rcases ite_some H with ⟨hx2, H⟩ | ⟨hx2, H⟩
  · refine K_t rfl hx2 ?_
    refine K_seq ?_
    refine K_reg [] [] ⟨[(2, (I (w64 (x1 + 1))))], []⟩ (by kernel_rfl) trivial ?_
    refine K_gh ⟨[(2, (I (w64 (x1 + 1))))], []⟩ (by kernel_rfl) ?_
    cases H
    refine K_ret ?_
    kernel_rfl
  · refine K_f rfl (Bool.eq_false_iff.2 hx2) ?_
    refine K_gh ⟨[(3, (I x1))], []⟩ (by kernel_rfl) ?_
    refine K_skip ?_
    refine K_seq ?_
    refine K_reg [] [] ⟨[(2, (I x1))], []⟩ (by kernel_rfl) trivial ?_
    refine K_gh ⟨[(2, (I x1))], []⟩ (by kernel_rfl) ?_
    cases H
    refine K_ret ?_
    kernel_rfl
def T_ref02_Quotient (k : Nat) (p1 : Int) (p2 : Int) : Option (Int × Int) := match k with
 | 0 => none
 | k + 1 => (if (((decide (p1 < (-2147483648)) || decide (2147483648 < p1)) || decide (p2 < 1)) || decide (4611686018427387904 < p2)) = true then some (0, 1) else (if p2 ≠ 0 then (if 0 ≤ p1 then ((T_ref02_Floor k (w64 ((w64 (p1 * p1)).tdiv p2))).bind fun x4 => some (x4, 0)) else (if p2 ≠ 0 then ((if (!decide (((w64 (p1 * p1)).tmod p2) = 0)) = true then some (w64 ((w64 ((w64 (p1 * p1)).tdiv p2)) + 1)) else some (w64 ((w64 (p1 * p1)).tdiv p2)))).bind fun x7 => (T_ref02_Ceil k x7).bind fun x8 => some ((w64 (0 - x8)), 0) else none)) else none))
theorem T_ref02_Quotient_ok (k : Nat) (p1 : Int) (p2 : Int) (r : Int × Int) : T_ref02_Quotient k p1 p2 = some r → evF X k n_ref02_Quotient [(I p1), (I p2)] [] = some ((.tup [(false, [.d (.int .i64 r.1)]), (false, [.d (.int .i64 r.2)])]), []) := by
 intro H
 cases k with
 | zero => simp [T_ref02_Quotient] at H
 | succ k =>
  simp only [T_ref02_Quotient] at H
  refine F_in X_ref02_Quotient rfl ?_
  refine K_seq ?_
  refine K_reg [] [] ⟨[(0, (I p1)), (1, (I p2))], []⟩ (by kernel_rfl) trivial ?_
  refine K_seq ?_
  refine K_seq ?_
  refine K_reg [.m, .m, .m] [([] : Heap) = [], ([] : Heap) = [], ([] : Heap) = []] ⟨[(0, (I p1)), (1, (I p2)), (20, (B (((decide (p1 < (-2147483648)) || decide (2147483648 < p1)) || decide (p2 < 1)) || decide (4611686018427387904 < p2))))], []⟩ (by kernel_rfl) (AC rfl (AC rfl (A1 rfl))) ?_
  rcases ite_some H with ⟨hx1, H⟩ | ⟨hx1, H⟩
  · refine K_t rfl hx1 ?_
    refine K_seq ?_
    refine K_reg [] [] ⟨[(4, (I 0)), (5, (I 1))], []⟩ (by kernel_rfl) trivial ?_
    refine K_gh ⟨[(4, (I 0)), (5, (I 1))], []⟩ (by kernel_rfl) ?_
    cases H
    refine K_ret ?_
    kernel_rfl
  · refine K_f rfl (Bool.eq_false_iff.2 hx1) ?_
    refine K_gh ⟨[(0, (I p1)), (1, (I p2))], []⟩ (by kernel_rfl) ?_
    refine K_skip ?_
    refine K_seq ?_
    obtain ⟨hx2, H⟩ := guard_some H
    refine K_reg [] [p2 ≠ (0 : Int)] ⟨[(0, (I p1)), (1, (I p2)), (6, (I (w64 ((w64 (p1 * p1)).tdiv p2))))], []⟩ (by kernel_rfl) (A1 hx2) ?_
    refine K_seq ?_
    refine K_seq ?_
    refine K_reg [] [] ⟨[(0, (I p1)), (1, (I p2)), (6, (I (w64 ((w64 (p1 * p1)).tdiv p2)))), (27, (B (decide (0 ≤ p1))))], []⟩ (by kernel_rfl) trivial ?_
    rcases ite_some H with ⟨hx3, H⟩ | ⟨hx3, H⟩
    · refine K_t rfl (decide_eq_true hx3) ?_
      refine K_seq ?_
      obtain ⟨x4, hx4, H⟩ := bind_some' H
      refine K_reg [.r (I x4) []] [evF X k n_ref02_Floor [(I (w64 ((w64 (p1 * p1)).tdiv p2)))] [] = some ((I x4), [])] ⟨[(4, (I x4)), (5, (I 0))], []⟩ (by kernel_rfl) (A1 (T_ref02_Floor_ok k (w64 ((w64 (p1 * p1)).tdiv p2)) x4 hx4)) ?_
      refine K_gh ⟨[(4, (I x4)), (5, (I 0))], []⟩ (by kernel_rfl) ?_
      cases H
      refine K_ret ?_
      kernel_rfl
    · refine K_f rfl (decide_eq_false hx3) ?_
      refine K_gh ⟨[(0, (I p1)), (1, (I p2)), (6, (I (w64 ((w64 (p1 * p1)).tdiv p2))))], []⟩ (by kernel_rfl) ?_
      refine K_skip ?_
      refine K_seq ?_
      refine K_seq ?_
      obtain ⟨hx5, H⟩ := guard_some H
      refine K_reg [] [p2 ≠ (0 : Int)] ⟨[(6, (I (w64 ((w64 (p1 * p1)).tdiv p2)))), (35, (B (!decide (((w64 (p1 * p1)).tmod p2) = 0))))], []⟩ (by kernel_rfl) (A1 hx5) ?_
      obtain ⟨x7, hx7, H⟩ := bind_some' H
      refine K_of ⟨[(6, (I x7))], []⟩ ?_ ?_
      · clear H; have H := hx7; clear hx7; refine K_in ?_
        rcases ite_some H with ⟨hx6, H⟩ | ⟨hx6, H⟩
        · refine K_t rfl hx6 ?_
          refine K_reg [] [] ⟨[(6, (I (w64 ((w64 ((w64 (p1 * p1)).tdiv p2)) + 1))))], []⟩ (by kernel_rfl) trivial ?_
          cases H
          exact K_end rfl
        · refine K_f rfl (Bool.eq_false_iff.2 hx6) ?_
          refine K_gh ⟨[(6, (I (w64 ((w64 (p1 * p1)).tdiv p2))))], []⟩ (by kernel_rfl) ?_
          refine K_skip ?_
          cases H
          exact K_end rfl
      refine K_seq ?_
      obtain ⟨x8, hx8, H⟩ := bind_some' H
      refine K_reg [.r (I x8) []] [evF X k n_ref02_Ceil [(I x7)] [] = some ((I x8), [])] ⟨[(4, (I (w64 (0 - x8)))), (5, (I 0))], []⟩ (by kernel_rfl) (A1 (T_ref02_Ceil_ok k x7 x8 hx8)) ?_
      refine K_gh ⟨[(4, (I (w64 (0 - x8)))), (5, (I 0))], []⟩ (by kernel_rfl) ?_
      cases H
      refine K_ret ?_
      kernel_rfl
def T_ref19_Coordinates_l1 (k : Nat) (p1 : Int) (p2 : Int) (p3 : Int) (p4 : Int) (p5 : Int) (p6 : List Int) (x7 : Int) (x8 : List Int) (x9 : List Int) (x10 : List Int) (x11 : Int) (x13 : Int) (x35 : Nat × Int × (List Int)) : Option ((Nat × Int × (List Int)) ⊕ ((Nat × (List Int)))) :=
 (if x35.2.1 < x13 then (at? x8 (w64 (x35.2.1 + 1))).bind fun x37 => (at? x8 x35.2.1).bind fun x38 => (at? x9 x35.2.1).bind fun x39 => (T_ref04_Down k x39 (w64 (x37 - x38))).bind fun x40 => ((if p1 = 2 then ((at? x10 x35.2.1).bind fun x42 => (T_ref04_Down k x42 (w64 (x7 * (w64 (x37 - x38))))).bind fun x43 => some x43) else (if p1 = 3 then ((at? x10 x35.2.1).bind fun x45 => (T_ref02_Quotient k (w64 (64 * x45)) (w64 (x7 * x11))).bind fun x46 => some x46.1) else some x40))).bind fun x47 => (if x35.1 + 1 ≤ LIM then some (.inl ((x35.1 + 1), (w64 (x35.2.1 + 1)), ((x35.2.2.drop 0).take x35.1 ++ ([x47] : List Int)))) else none) else some (.inr (x35.1, x35.2.2)))
theorem T_ref19_Coordinates_l1_ok (k : Nat) (p1 : Int) (p2 : Int) (p3 : Int) (p4 : Int) (p5 : Int) (p6 : List Int) (x7 : Int) (x8 : List Int) (x9 : List Int) (x10 : List Int) (x11 : Int) (x13 : Int) : ∀ (x35 : Nat × Int × (List Int)) (x : (Nat × Int × (List Int)) ⊕ ((Nat × (List Int)))), T_ref19_Coordinates_l1 k p1 p2 p3 p4 p5 p6 x7 x8 x9 x10 x11 x13 x35 = some x → evC X (evF X k) k 0 l_ref19_Coordinates_1 ⟨[(2, (.one (.ptr 0 0 0))), (7, (I x7)), (8, (LI x8)), (10, (LI x9)), (12, (LI x10)), (14, (I x11)), (16, (.one (.own 1 0 x35.1))), (56, (I x13)), (57, (I x35.2.1))], [.cells [.d (.int .i64 p1), .d (.int .i64 p2), .d (.int .i64 p3), .d (.int .i64 p4), .d (.int .i64 p5), .d (.list (p6.map (D.int .i64)))], VI x35.2.2]⟩ = some (outS (fun (s : Nat × Int × (List Int)) => ⟨[(2, (.one (.ptr 0 0 0))), (7, (I x7)), (8, (LI x8)), (10, (LI x9)), (12, (LI x10)), (14, (I x11)), (16, (.one (.own 1 0 s.1))), (56, (I x13)), (57, (I s.2.1))], [.cells [.d (.int .i64 p1), .d (.int .i64 p2), .d (.int .i64 p3), .d (.int .i64 p4), .d (.int .i64 p5), .d (.list (p6.map (D.int .i64)))], VI s.2.2]⟩) (fun (r : (Nat × (List Int))) => (.exit 0, ⟨[(16, (.one (.own 0 0 r.1)))], [VI r.2]⟩)) x) := by
 intro x35 x H
 unfold T_ref19_Coordinates_l1 at H
 refine K_in ?_
 refine K_seq ?_
 refine K_reg [] [] ⟨[(2, (.one (.ptr 0 0 0))), (7, (I x7)), (8, (LI x8)), (10, (LI x9)), (12, (LI x10)), (14, (I x11)), (16, (.one (.own 1 0 x35.1))), (56, (I x13)), (57, (I x35.2.1)), (58, (B (decide (x35.2.1 < x13))))], [.cells [.d (.int .i64 p1), .d (.int .i64 p2), .d (.int .i64 p3), .d (.int .i64 p4), .d (.int .i64 p5), .d (.list (p6.map (D.int .i64)))], VI x35.2.2]⟩ (by kernel_rfl) trivial ?_
 refine K_seq ?_
 rcases ite_some H with ⟨hx36, H⟩ | ⟨hx36, H⟩
 · refine K_t rfl (decide_eq_true hx36) ?_
   refine K_gh ⟨[(2, (.one (.ptr 0 0 0))), (7, (I x7)), (8, (LI x8)), (10, (LI x9)), (12, (LI x10)), (14, (I x11)), (16, (.one (.own 1 0 x35.1))), (56, (I x13)), (57, (I x35.2.1))], [.cells [.d (.int .i64 p1), .d (.int .i64 p2), .d (.int .i64 p3), .d (.int .i64 p4), .d (.int .i64 p5), .d (.list (p6.map (D.int .i64)))], VI x35.2.2]⟩ (by kernel_rfl) ?_
   refine K_skip ?_
   refine K_seq ?_
   refine K_block ?_
   refine K_seq ?_
   refine K_reg [] [] ⟨[(2, (.one (.ptr 0 0 0))), (7, (I x7)), (8, (LI x8)), (10, (LI x9)), (12, (LI x10)), (14, (I x11)), (16, (.one (.own 1 0 x35.1))), (17, (I x35.2.1)), (56, (I x13)), (57, (I x35.2.1))], [.cells [.d (.int .i64 p1), .d (.int .i64 p2), .d (.int .i64 p3), .d (.int .i64 p4), .d (.int .i64 p5), .d (.list (p6.map (D.int .i64)))], VI x35.2.2]⟩ (by kernel_rfl) trivial ?_
   refine K_seq ?_
   obtain ⟨x37, hx37, H⟩ := bind_some' H
   obtain ⟨x38, hx38, H⟩ := bind_some' H
   refine K_reg [.l [.int .i64 x37], .l [.int .i64 x38]] [(0 : Int) ≤ (w64 (x35.2.1 + 1)) ∧ (w64 (x35.2.1 + 1)) < (((x8.map (D.int .i64))).length : Int), ((x8.map (D.int .i64)).getD (w64 (x35.2.1 + 1)).toNat (.int .i64 0)).cells = [.int .i64 x37], (0 : Int) ≤ x35.2.1 ∧ x35.2.1 < (((x8.map (D.int .i64))).length : Int), ((x8.map (D.int .i64)).getD x35.2.1.toNat (.int .i64 0)).cells = [.int .i64 x38]] ⟨[(2, (.one (.ptr 0 0 0))), (7, (I x7)), (8, (LI x8)), (10, (LI x9)), (12, (LI x10)), (14, (I x11)), (16, (.one (.own 1 0 x35.1))), (17, (I x35.2.1)), (18, (I (w64 (x37 - x38)))), (56, (I x13)), (57, (I x35.2.1))], [.cells [.d (.int .i64 p1), .d (.int .i64 p2), .d (.int .i64 p3), .d (.int .i64 p4), .d (.int .i64 p5), .d (.list (p6.map (D.int .i64)))], VI x35.2.2]⟩ (by kernel_rfl) (AC (at_ok hx37 (D.int .i64) (.int .i64 0)).1 (AC (at_ok hx37 (D.int .i64) (.int .i64 0)).2 (AC (at_ok hx38 (D.int .i64) (.int .i64 0)).1 (A1 (at_ok hx38 (D.int .i64) (.int .i64 0)).2)))) ?_
   refine K_seq ?_
   obtain ⟨x39, hx39, H⟩ := bind_some' H
   obtain ⟨x40, hx40, H⟩ := bind_some' H
   refine K_reg [.l [.int .i64 x39], .r (I x40) []] [(0 : Int) ≤ x35.2.1 ∧ x35.2.1 < (((x9.map (D.int .i64))).length : Int), ((x9.map (D.int .i64)).getD x35.2.1.toNat (.int .i64 0)).cells = [.int .i64 x39], evF X k n_ref04_Down [(I x39), (I (w64 (x37 - x38)))] [] = some ((I x40), [])] ⟨[(2, (.one (.ptr 0 0 0))), (7, (I x7)), (8, (LI x8)), (10, (LI x9)), (12, (LI x10)), (14, (I x11)), (16, (.one (.own 1 0 x35.1))), (17, (I x35.2.1)), (18, (I (w64 (x37 - x38)))), (19, (I x40)), (56, (I x13)), (57, (I x35.2.1))], [.cells [.d (.int .i64 p1), .d (.int .i64 p2), .d (.int .i64 p3), .d (.int .i64 p4), .d (.int .i64 p5), .d (.list (p6.map (D.int .i64)))], VI x35.2.2]⟩ (by kernel_rfl) (AC (at_ok hx39 (D.int .i64) (.int .i64 0)).1 (AC (at_ok hx39 (D.int .i64) (.int .i64 0)).2 (A1 (T_ref04_Down_ok k x39 (w64 (x37 - x38)) x40 hx40)))) ?_
   refine K_seq ?_
   refine K_seq ?_
   refine K_reg [] [] ⟨[(2, (.one (.ptr 0 0 0))), (7, (I x7)), (8, (LI x8)), (10, (LI x9)), (12, (LI x10)), (14, (I x11)), (16, (.one (.own 1 0 x35.1))), (17, (I x35.2.1)), (18, (I (w64 (x37 - x38)))), (19, (I x40)), (56, (I x13)), (57, (I x35.2.1)), (78, (I p1))], [.cells [.d (.int .i64 p1), .d (.int .i64 p2), .d (.int .i64 p3), .d (.int .i64 p4), .d (.int .i64 p5), .d (.list (p6.map (D.int .i64)))], VI x35.2.2]⟩ (by kernel_rfl) trivial ?_
   refine K_block ?_
   refine K_seq ?_
   refine K_reg [] [] ⟨[(2, (.one (.ptr 0 0 0))), (7, (I x7)), (8, (LI x8)), (10, (LI x9)), (12, (LI x10)), (14, (I x11)), (16, (.one (.own 1 0 x35.1))), (17, (I x35.2.1)), (18, (I (w64 (x37 - x38)))), (19, (I x40)), (56, (I x13)), (57, (I x35.2.1)), (78, (I p1)), (79, (B (decide (p1 = 2))))], [.cells [.d (.int .i64 p1), .d (.int .i64 p2), .d (.int .i64 p3), .d (.int .i64 p4), .d (.int .i64 p5), .d (.list (p6.map (D.int .i64)))], VI x35.2.2]⟩ (by kernel_rfl) trivial ?_
   obtain ⟨x47, hx47, H⟩ := bind_some' H
   refine K_of ⟨[(2, (.one (.ptr 0 0 0))), (7, (I x7)), (8, (LI x8)), (10, (LI x9)), (12, (LI x10)), (14, (I x11)), (16, (.one (.own 1 0 x35.1))), (19, (I x47)), (56, (I x13)), (57, (I x35.2.1))], [.cells [.d (.int .i64 p1), .d (.int .i64 p2), .d (.int .i64 p3), .d (.int .i64 p4), .d (.int .i64 p5), .d (.list (p6.map (D.int .i64)))], VI x35.2.2]⟩ ?_ ?_
   · clear H; have H := hx47; clear hx47; refine K_in ?_
     rcases ite_some H with ⟨hx41, H⟩ | ⟨hx41, H⟩
     · refine K_t rfl (decide_eq_true hx41) ?_
       obtain ⟨x42, hx42, H⟩ := bind_some' H
       obtain ⟨x43, hx43, H⟩ := bind_some' H
       refine K_reg [.l [.int .i64 x42], .r (I x43) []] [(0 : Int) ≤ x35.2.1 ∧ x35.2.1 < (((x10.map (D.int .i64))).length : Int), ((x10.map (D.int .i64)).getD x35.2.1.toNat (.int .i64 0)).cells = [.int .i64 x42], evF X k n_ref04_Down [(I x42), (I (w64 (x7 * (w64 (x37 - x38)))))] [] = some ((I x43), [])] ⟨[(2, (.one (.ptr 0 0 0))), (7, (I x7)), (8, (LI x8)), (10, (LI x9)), (12, (LI x10)), (14, (I x11)), (16, (.one (.own 1 0 x35.1))), (19, (I x43)), (56, (I x13)), (57, (I x35.2.1))], [.cells [.d (.int .i64 p1), .d (.int .i64 p2), .d (.int .i64 p3), .d (.int .i64 p4), .d (.int .i64 p5), .d (.list (p6.map (D.int .i64)))], VI x35.2.2]⟩ (by kernel_rfl) (AC (at_ok hx42 (D.int .i64) (.int .i64 0)).1 (AC (at_ok hx42 (D.int .i64) (.int .i64 0)).2 (A1 (T_ref04_Down_ok k x42 (w64 (x7 * (w64 (x37 - x38)))) x43 hx43)))) ?_
       cases H
       exact K_end rfl
     · refine K_f rfl (decide_eq_false hx41) ?_
       refine K_seq ?_
       refine K_reg [] [] ⟨[(2, (.one (.ptr 0 0 0))), (7, (I x7)), (8, (LI x8)), (10, (LI x9)), (12, (LI x10)), (14, (I x11)), (16, (.one (.own 1 0 x35.1))), (17, (I x35.2.1)), (19, (I x40)), (56, (I x13)), (57, (I x35.2.1)), (89, (B (decide (p1 = 3))))], [.cells [.d (.int .i64 p1), .d (.int .i64 p2), .d (.int .i64 p3), .d (.int .i64 p4), .d (.int .i64 p5), .d (.list (p6.map (D.int .i64)))], VI x35.2.2]⟩ (by kernel_rfl) trivial ?_
       rcases ite_some H with ⟨hx44, H⟩ | ⟨hx44, H⟩
       · refine K_t rfl (decide_eq_true hx44) ?_
         obtain ⟨x45, hx45, H⟩ := bind_some' H
         obtain ⟨x46, hx46, H⟩ := bind_some' H
         refine K_reg [.l [.int .i64 x45], .r (.tup [(false, [.d (.int .i64 x46.1)]), (false, [.d (.int .i64 x46.2)])]) []] [(0 : Int) ≤ x35.2.1 ∧ x35.2.1 < (((x10.map (D.int .i64))).length : Int), ((x10.map (D.int .i64)).getD x35.2.1.toNat (.int .i64 0)).cells = [.int .i64 x45], evF X k n_ref02_Quotient [(I (w64 (64 * x45))), (I (w64 (x7 * x11)))] [] = some ((.tup [(false, [.d (.int .i64 x46.1)]), (false, [.d (.int .i64 x46.2)])]), [])] ⟨[(2, (.one (.ptr 0 0 0))), (7, (I x7)), (8, (LI x8)), (10, (LI x9)), (12, (LI x10)), (14, (I x11)), (16, (.one (.own 1 0 x35.1))), (19, (I x46.1)), (56, (I x13)), (57, (I x35.2.1))], [.cells [.d (.int .i64 p1), .d (.int .i64 p2), .d (.int .i64 p3), .d (.int .i64 p4), .d (.int .i64 p5), .d (.list (p6.map (D.int .i64)))], VI x35.2.2]⟩ (by kernel_rfl) (AC (at_ok hx45 (D.int .i64) (.int .i64 0)).1 (AC (at_ok hx45 (D.int .i64) (.int .i64 0)).2 (A1 (T_ref02_Quotient_ok k (w64 (64 * x45)) (w64 (x7 * x11)) x46 hx46)))) ?_
         cases H
         exact K_end rfl
       · refine K_f rfl (decide_eq_false hx44) ?_
         refine K_gh ⟨[(2, (.one (.ptr 0 0 0))), (7, (I x7)), (8, (LI x8)), (10, (LI x9)), (12, (LI x10)), (14, (I x11)), (16, (.one (.own 1 0 x35.1))), (19, (I x40)), (56, (I x13)), (57, (I x35.2.1))], [.cells [.d (.int .i64 p1), .d (.int .i64 p2), .d (.int .i64 p3), .d (.int .i64 p4), .d (.int .i64 p5), .d (.list (p6.map (D.int .i64)))], VI x35.2.2]⟩ (by kernel_rfl) ?_
         refine K_skip ?_
         cases H
         exact K_end rfl
   refine K_blk ?_
   obtain ⟨hx48, H⟩ := guard_some H
   refine K_reg [.n 1, .l (((x35.2.2.drop 0).take x35.1 ++ ([x47] : List Int)).map (D.int .i64))] [(List.all (([x47] : List Int).map (D.int .i64)) fun d => d.cells.length == (D.cells (.int .i64 0)).length) = true, x35.1 + 1 ≤ LIM, (([x47] : List Int).map (D.int .i64)).length = 1, ((x35.2.2.map (D.int .i64)).drop 0).take x35.1 ++ (([x47] : List Int).map (D.int .i64)) = ((x35.2.2.drop 0).take x35.1 ++ ([x47] : List Int)).map (D.int .i64)] ⟨[(2, (.one (.ptr 0 0 0))), (7, (I x7)), (8, (LI x8)), (10, (LI x9)), (12, (LI x10)), (14, (I x11)), (16, (.one (.own 1 0 (x35.1 + 1)))), (56, (I x13)), (57, (I x35.2.1))], [.cells [.d (.int .i64 p1), .d (.int .i64 p2), .d (.int .i64 p3), .d (.int .i64 p4), .d (.int .i64 p5), .d (.list (p6.map (D.int .i64)))], VI ((x35.2.2.drop 0).take x35.1 ++ ([x47] : List Int))]⟩ (by kernel_rfl) (AC (all_ok (D.int .i64) 1 ([x47] : List Int) (fun _ => rfl)) (AC hx48 (AC (by simp) (A1 (ap_map (D.int .i64) x35.2.2 ([x47] : List Int) 0 x35.1))))) ?_
   refine K_blk ?_
   refine K_reg [] [] ⟨[(2, (.one (.ptr 0 0 0))), (7, (I x7)), (8, (LI x8)), (10, (LI x9)), (12, (LI x10)), (14, (I x11)), (16, (.one (.own 1 0 (x35.1 + 1)))), (56, (I x13)), (57, (I (w64 (x35.2.1 + 1))))], [.cells [.d (.int .i64 p1), .d (.int .i64 p2), .d (.int .i64 p3), .d (.int .i64 p4), .d (.int .i64 p5), .d (.list (p6.map (D.int .i64)))], VI ((x35.2.2.drop 0).take x35.1 ++ ([x47] : List Int))]⟩ (by kernel_rfl) trivial ?_
   cases H
   exact K_end rfl
 · refine K_f rfl (decide_eq_false hx36) ?_
   refine K_gh ⟨[(16, (.one (.own 0 0 x35.1)))], [VI x35.2.2]⟩ (by kernel_rfl) ?_
   cases H
   exact K_exit0 rfl rfl
def T_ref19_Coordinates (k : Nat) (p1 : Int) (p2 : Int) (p3 : Int) (p4 : Int) (p5 : Int) (p6 : List Int) (p7 : List Int) : Option ((List Int) × Int) := match k with
 | 0 => none
 | k + 1 => ((T_ref19_Fits k p1 p2 p3 p4 p5 p6 p7).bind fun x1 => (if (!decide (x1 = 0)) = true then some ([], x1) else ((T_ref18_Starts k (p7.length : Int) p5).bind fun x3 => (T_ref18_Sums k p7 p5).bind fun x4 => (T_ref18_Centred k p7 p5).bind fun x5 => (T_ref13_Product k p7 p7).bind fun x6 => (loopT (T_ref19_Coordinates_l1 k p1 p2 p3 p4 p5 p6 (p7.length : Int) x3.1 x4.1 x5.1 x6.1 (x4.1.length : Int)) k (0, 0, [])).bind fun x49 => some (((x49.2.drop 0).take x49.1), 0))))
theorem T_ref19_Coordinates_ok (k : Nat) (p1 : Int) (p2 : Int) (p3 : Int) (p4 : Int) (p5 : Int) (p6 : List Int) (p7 : List Int) (r : (List Int) × Int) : T_ref19_Coordinates k p1 p2 p3 p4 p5 p6 p7 = some r → evF X k n_ref19_Coordinates [(.agg [.d (.int .i64 p1), .d (.int .i64 p2), .d (.int .i64 p3), .d (.int .i64 p4), .d (.int .i64 p5), .d (.list (p6.map (D.int .i64)))]), (LI p7)] [] = some ((.tup [(false, [.d (.list (r.1.map (D.int .i64)))]), (false, [.d (.int .i64 r.2)])]), []) := by
 intro H
 cases k with
 | zero => simp [T_ref19_Coordinates] at H
 | succ k =>
  simp only [T_ref19_Coordinates] at H
  refine F_in X_ref19_Coordinates rfl ?_
  refine K_seq ?_
  refine K_reg [] [] ⟨[(1, (LI p7)), (2, (.one (.ptr 0 0 0)))], [.cells [.d (.int .i64 p1), .d (.int .i64 p2), .d (.int .i64 p3), .d (.int .i64 p4), .d (.int .i64 p5), .d (.list (p6.map (D.int .i64)))]]⟩ (by kernel_rfl) trivial ?_
  refine K_seq ?_
  refine K_seq ?_
  obtain ⟨x1, hx1, H⟩ := bind_some' H
  refine K_reg [.r (I x1) []] [evF X k n_ref19_Fits [(.agg [.d (.int .i64 p1), .d (.int .i64 p2), .d (.int .i64 p3), .d (.int .i64 p4), .d (.int .i64 p5), .d (.list (p6.map (D.int .i64)))]), (LI p7)] [] = some ((I x1), [])] ⟨[(1, (LI p7)), (2, (.one (.ptr 0 0 0))), (6, (I x1))], [.cells [.d (.int .i64 p1), .d (.int .i64 p2), .d (.int .i64 p3), .d (.int .i64 p4), .d (.int .i64 p5), .d (.list (p6.map (D.int .i64)))]]⟩ (by kernel_rfl) (A1 (T_ref19_Fits_ok k p1 p2 p3 p4 p5 p6 p7 x1 hx1)) ?_
  refine K_seq ?_
  refine K_reg [] [] ⟨[(1, (LI p7)), (2, (.one (.ptr 0 0 0))), (6, (I x1)), (24, (B (!decide (x1 = 0))))], [.cells [.d (.int .i64 p1), .d (.int .i64 p2), .d (.int .i64 p3), .d (.int .i64 p4), .d (.int .i64 p5), .d (.list (p6.map (D.int .i64)))]]⟩ (by kernel_rfl) trivial ?_
  rcases ite_some H with ⟨hx2, H⟩ | ⟨hx2, H⟩
  · refine K_t rfl hx2 ?_
    refine K_seq ?_
    refine K_reg [] [] ⟨[(4, (.one (.nil))), (5, (I x1))], []⟩ (by kernel_rfl) trivial ?_
    refine K_gh ⟨[(4, (.one (.nil))), (5, (I x1))], []⟩ (by kernel_rfl) ?_
    cases H
    refine K_ret ?_
    kernel_rfl
  · refine K_f rfl (Bool.eq_false_iff.2 hx2) ?_
    refine K_gh ⟨[(1, (LI p7)), (2, (.one (.ptr 0 0 0)))], [.cells [.d (.int .i64 p1), .d (.int .i64 p2), .d (.int .i64 p3), .d (.int .i64 p4), .d (.int .i64 p5), .d (.list (p6.map (D.int .i64)))]]⟩ (by kernel_rfl) ?_
    refine K_skip ?_
    refine K_seq ?_
    refine K_reg [.n p7.length] [((p7.map (D.int .i64))).length = p7.length] ⟨[(1, (LI p7)), (2, (.one (.ptr 0 0 0))), (7, (I (p7.length : Int)))], [.cells [.d (.int .i64 p1), .d (.int .i64 p2), .d (.int .i64 p3), .d (.int .i64 p4), .d (.int .i64 p5), .d (.list (p6.map (D.int .i64)))]]⟩ (by kernel_rfl) (A1 (List.length_map _)) ?_
    refine K_seq ?_
    obtain ⟨x3, hx3, H⟩ := bind_some' H
    refine K_reg [.r (.tup [(false, [.d (.list (x3.1.map (D.int .i64)))]), (false, [.d (.int .i64 x3.2)])]) []] [evF X k n_ref18_Starts [(I (p7.length : Int)), (I p5)] [] = some ((.tup [(false, [.d (.list (x3.1.map (D.int .i64)))]), (false, [.d (.int .i64 x3.2)])]), [])] ⟨[(1, (LI p7)), (2, (.one (.ptr 0 0 0))), (7, (I (p7.length : Int))), (8, (LI x3.1))], [.cells [.d (.int .i64 p1), .d (.int .i64 p2), .d (.int .i64 p3), .d (.int .i64 p4), .d (.int .i64 p5), .d (.list (p6.map (D.int .i64)))]]⟩ (by kernel_rfl) (A1 (T_ref18_Starts_ok k (p7.length : Int) p5 x3 hx3)) ?_
    refine K_seq ?_
    obtain ⟨x4, hx4, H⟩ := bind_some' H
    refine K_reg [.r (.tup [(false, [.d (.list (x4.1.map (D.int .i64)))]), (false, [.d (.int .i64 x4.2)])]) []] [evF X k n_ref18_Sums [(LI p7), (I p5)] [] = some ((.tup [(false, [.d (.list (x4.1.map (D.int .i64)))]), (false, [.d (.int .i64 x4.2)])]), [])] ⟨[(1, (LI p7)), (2, (.one (.ptr 0 0 0))), (7, (I (p7.length : Int))), (8, (LI x3.1)), (10, (LI x4.1))], [.cells [.d (.int .i64 p1), .d (.int .i64 p2), .d (.int .i64 p3), .d (.int .i64 p4), .d (.int .i64 p5), .d (.list (p6.map (D.int .i64)))]]⟩ (by kernel_rfl) (A1 (T_ref18_Sums_ok k p7 p5 x4 hx4)) ?_
    refine K_seq ?_
    obtain ⟨x5, hx5, H⟩ := bind_some' H
    refine K_reg [.r (.tup [(false, [.d (.list (x5.1.map (D.int .i64)))]), (false, [.d (.int .i64 x5.2)])]) []] [evF X k n_ref18_Centred [(LI p7), (I p5)] [] = some ((.tup [(false, [.d (.list (x5.1.map (D.int .i64)))]), (false, [.d (.int .i64 x5.2)])]), [])] ⟨[(1, (LI p7)), (2, (.one (.ptr 0 0 0))), (7, (I (p7.length : Int))), (8, (LI x3.1)), (10, (LI x4.1)), (12, (LI x5.1))], [.cells [.d (.int .i64 p1), .d (.int .i64 p2), .d (.int .i64 p3), .d (.int .i64 p4), .d (.int .i64 p5), .d (.list (p6.map (D.int .i64)))]]⟩ (by kernel_rfl) (A1 (T_ref18_Centred_ok k p7 p5 x5 hx5)) ?_
    refine K_seq ?_
    obtain ⟨x6, hx6, H⟩ := bind_some' H
    refine K_reg [.r (.tup [(false, [.d (.int .i64 x6.1)]), (false, [.d (.int .i64 x6.2)])]) []] [evF X k n_ref13_Product [(LI p7), (LI p7)] [] = some ((.tup [(false, [.d (.int .i64 x6.1)]), (false, [.d (.int .i64 x6.2)])]), [])] ⟨[(2, (.one (.ptr 0 0 0))), (7, (I (p7.length : Int))), (8, (LI x3.1)), (10, (LI x4.1)), (12, (LI x5.1)), (14, (I x6.1))], [.cells [.d (.int .i64 p1), .d (.int .i64 p2), .d (.int .i64 p3), .d (.int .i64 p4), .d (.int .i64 p5), .d (.list (p6.map (D.int .i64)))]]⟩ (by kernel_rfl) (A1 (T_ref13_Product_ok k p7 p7 x6 hx6)) ?_
    refine K_seq ?_
    refine K_reg [] [] ⟨[(2, (.one (.ptr 0 0 0))), (7, (I (p7.length : Int))), (8, (LI x3.1)), (10, (LI x4.1)), (12, (LI x5.1)), (14, (I x6.1)), (16, (.one (.nil)))], [.cells [.d (.int .i64 p1), .d (.int .i64 p2), .d (.int .i64 p3), .d (.int .i64 p4), .d (.int .i64 p5), .d (.list (p6.map (D.int .i64)))]]⟩ (by kernel_rfl) trivial ?_
    refine K_seq ?_
    refine K_seq ?_
    refine K_reg [.n x4.1.length] [((x4.1.map (D.int .i64))).length = x4.1.length] ⟨[(2, (.one (.ptr 0 0 0))), (7, (I (p7.length : Int))), (8, (LI x3.1)), (10, (LI x4.1)), (12, (LI x5.1)), (14, (I x6.1)), (16, (.one (.nil))), (56, (I (x4.1.length : Int))), (57, (I 0))], [.cells [.d (.int .i64 p1), .d (.int .i64 p2), .d (.int .i64 p3), .d (.int .i64 p4), .d (.int .i64 p5), .d (.list (p6.map (D.int .i64)))]]⟩ (by kernel_rfl) (A1 (List.length_map _)) ?_
    refine K_block ?_
    refine K_gh ⟨[(2, (.one (.ptr 0 0 0))), (7, (I (p7.length : Int))), (8, (LI x3.1)), (10, (LI x4.1)), (12, (LI x5.1)), (14, (I x6.1)), (16, (.one (.own 1 0 0))), (56, (I (x4.1.length : Int))), (57, (I 0))], [.cells [.d (.int .i64 p1), .d (.int .i64 p2), .d (.int .i64 p3), .d (.int .i64 p4), .d (.int .i64 p5), .d (.list (p6.map (D.int .i64)))], VI []]⟩ (by kernel_rfl) ?_
    obtain ⟨x49, hx49, H⟩ := bind_some' H
    refine K_loop ⟨[(16, (.one (.own 0 0 x49.1)))], [VI x49.2]⟩ (loop_ok (fun (s : Nat × Int × (List Int)) => ⟨[(2, (.one (.ptr 0 0 0))), (7, (I (p7.length : Int))), (8, (LI x3.1)), (10, (LI x4.1)), (12, (LI x5.1)), (14, (I x6.1)), (16, (.one (.own 1 0 s.1))), (56, (I (x4.1.length : Int))), (57, (I s.2.1))], [.cells [.d (.int .i64 p1), .d (.int .i64 p2), .d (.int .i64 p3), .d (.int .i64 p4), .d (.int .i64 p5), .d (.list (p6.map (D.int .i64)))], VI s.2.2]⟩) (fun (r : (Nat × (List Int))) => (.exit 0, ⟨[(16, (.one (.own 0 0 r.1)))], [VI r.2]⟩)) (fun r h => by cases h) (T_ref19_Coordinates_l1_ok k p1 p2 p3 p4 p5 p6 (p7.length : Int) x3.1 x4.1 x5.1 x6.1 (x4.1.length : Int)) k (0, 0, []) x49 hx49) rfl ?_
    refine K_seq ?_
    refine K_reg [] [] ⟨[(4, (.one (.own 0 0 x49.1))), (5, (I 0))], [VI x49.2]⟩ (by kernel_rfl) trivial ?_
    refine K_gh ⟨[(4, (.one (.own 0 0 x49.1))), (5, (I 0))], [VI x49.2]⟩ (by kernel_rfl) ?_
    cases H
    refine K_ret ?_
    exact Eq.trans (b := some ((.tup [(false, [.d (.list (((x49.2.map (D.int .i64)).drop 0).take x49.1))]), (false, [.d (.int .i64 0)])]), [])) (by kernel_rfl) (by simp only [dt_map, LI, VI])
def T_ref19_Of_l1 (k : Nat) (p1 : Int) (p2 : Int) (p3 : Int) (x3 : List Int) (x4 : Int) (p4 : Int) (p5 : Int) (p6 : List Int) (x51 : Int) (x54 : Int) (x55 : Int) (x63 : Nat) (x64 : Nat) (x65 : List Int) (x66 : List Int) (x72 : Int × Int) : Option ((Int × Int) ⊕ Int) :=
 (if x72.2 < x55 then ((at? p6 x72.2).bind fun x74 => (at? x3 x51).bind fun x75 => ((if x74 ≤ x75 then some (w64 (x72.1 + 1)) else some x72.1)).bind fun x77 => some (.inl (x77, (w64 (x72.2 + 1))))) else some (.inr x72.1))
theorem T_ref19_Of_l1_ok (k : Nat) (p1 : Int) (p2 : Int) (p3 : Int) (x3 : List Int) (x4 : Int) (p4 : Int) (p5 : Int) (p6 : List Int) (x51 : Int) (x54 : Int) (x55 : Int) (x63 : Nat) (x64 : Nat) (x65 : List Int) (x66 : List Int) : ∀ (x72 : Int × Int) (x : (Int × Int) ⊕ Int), T_ref19_Of_l1 k p1 p2 p3 x3 x4 p4 p5 p6 x51 x54 x55 x63 x64 x65 x66 x72 = some x → evC X (evF X k) k 0 l_ref19_Of_1 ⟨[(2, (.one (.ptr 0 0 0))), (4, (.one (.ptr 1 0 0))), (6, (LI x3)), (8, (.one (.ptr 2 0 0))), (9, (I x51)), (10, (I x72.1)), (23, (I x4)), (24, (I x54)), (29, (I x55)), (30, (I x72.2))], [.cells [.d (.int .i64 p1), .d (.int .i64 p2), .d (.int .i64 p3), .d (.int .i64 p4), .d (.int .i64 p5), .d (.list (p6.map (D.int .i64)))], .cells [.nil, .nil], .cells [.own 3 0 x63, .own 4 0 x64], VI x65, VI x66]⟩ = some (outS (fun (s : Int × Int) => ⟨[(2, (.one (.ptr 0 0 0))), (4, (.one (.ptr 1 0 0))), (6, (LI x3)), (8, (.one (.ptr 2 0 0))), (9, (I x51)), (10, (I s.1)), (23, (I x4)), (24, (I x54)), (29, (I x55)), (30, (I s.2))], [.cells [.d (.int .i64 p1), .d (.int .i64 p2), .d (.int .i64 p3), .d (.int .i64 p4), .d (.int .i64 p5), .d (.list (p6.map (D.int .i64)))], .cells [.nil, .nil], .cells [.own 3 0 x63, .own 4 0 x64], VI x65, VI x66]⟩) (fun (r : Int) => (.exit 2, ⟨[(2, (.one (.ptr 0 0 0))), (4, (.one (.ptr 1 0 0))), (6, (LI x3)), (8, (.one (.ptr 2 0 0))), (10, (I r)), (23, (I x4)), (24, (I x54))], [.cells [.d (.int .i64 p1), .d (.int .i64 p2), .d (.int .i64 p3), .d (.int .i64 p4), .d (.int .i64 p5), .d (.list (p6.map (D.int .i64)))], .cells [.nil, .nil], .cells [.own 3 0 x63, .own 4 0 x64], VI x65, VI x66]⟩)) x) := by
 intro x72 x H
 unfold T_ref19_Of_l1 at H
 refine K_in ?_
 refine K_seq ?_
 refine K_reg [] [] ⟨[(2, (.one (.ptr 0 0 0))), (4, (.one (.ptr 1 0 0))), (6, (LI x3)), (8, (.one (.ptr 2 0 0))), (9, (I x51)), (10, (I x72.1)), (23, (I x4)), (24, (I x54)), (29, (I x55)), (30, (I x72.2)), (31, (B (decide (x72.2 < x55))))], [.cells [.d (.int .i64 p1), .d (.int .i64 p2), .d (.int .i64 p3), .d (.int .i64 p4), .d (.int .i64 p5), .d (.list (p6.map (D.int .i64)))], .cells [.nil, .nil], .cells [.own 3 0 x63, .own 4 0 x64], VI x65, VI x66]⟩ (by kernel_rfl) trivial ?_
 refine K_seq ?_
 rcases ite_some H with ⟨hx73, H⟩ | ⟨hx73, H⟩
 · refine K_t rfl (decide_eq_true hx73) ?_
   refine K_gh ⟨[(2, (.one (.ptr 0 0 0))), (4, (.one (.ptr 1 0 0))), (6, (LI x3)), (8, (.one (.ptr 2 0 0))), (9, (I x51)), (10, (I x72.1)), (23, (I x4)), (24, (I x54)), (29, (I x55)), (30, (I x72.2))], [.cells [.d (.int .i64 p1), .d (.int .i64 p2), .d (.int .i64 p3), .d (.int .i64 p4), .d (.int .i64 p5), .d (.list (p6.map (D.int .i64)))], .cells [.nil, .nil], .cells [.own 3 0 x63, .own 4 0 x64], VI x65, VI x66]⟩ (by kernel_rfl) ?_
   refine K_skip ?_
   refine K_seq ?_
   refine K_block ?_
   refine K_seq ?_
   refine K_reg [] [] ⟨[(2, (.one (.ptr 0 0 0))), (4, (.one (.ptr 1 0 0))), (6, (LI x3)), (8, (.one (.ptr 2 0 0))), (9, (I x51)), (10, (I x72.1)), (11, (I x72.2)), (23, (I x4)), (24, (I x54)), (29, (I x55)), (30, (I x72.2))], [.cells [.d (.int .i64 p1), .d (.int .i64 p2), .d (.int .i64 p3), .d (.int .i64 p4), .d (.int .i64 p5), .d (.list (p6.map (D.int .i64)))], .cells [.nil, .nil], .cells [.own 3 0 x63, .own 4 0 x64], VI x65, VI x66]⟩ (by kernel_rfl) trivial ?_
   refine K_seq ?_
   obtain ⟨x74, hx74, H⟩ := bind_some' H
   obtain ⟨x75, hx75, H⟩ := bind_some' H
   refine K_reg [.l [.int .i64 x74], .l [.int .i64 x75]] [(0 : Int) ≤ x72.2 ∧ x72.2 < (((p6.map (D.int .i64))).length : Int), ((p6.map (D.int .i64)).getD x72.2.toNat (.int .i64 0)).cells = [.int .i64 x74], (0 : Int) ≤ x51 ∧ x51 < (((x3.map (D.int .i64))).length : Int), ((x3.map (D.int .i64)).getD x51.toNat (.int .i64 0)).cells = [.int .i64 x75]] ⟨[(2, (.one (.ptr 0 0 0))), (4, (.one (.ptr 1 0 0))), (6, (LI x3)), (8, (.one (.ptr 2 0 0))), (9, (I x51)), (10, (I x72.1)), (23, (I x4)), (24, (I x54)), (29, (I x55)), (30, (I x72.2)), (42, (B (decide (x74 ≤ x75))))], [.cells [.d (.int .i64 p1), .d (.int .i64 p2), .d (.int .i64 p3), .d (.int .i64 p4), .d (.int .i64 p5), .d (.list (p6.map (D.int .i64)))], .cells [.nil, .nil], .cells [.own 3 0 x63, .own 4 0 x64], VI x65, VI x66]⟩ (by kernel_rfl) (AC (at_ok hx74 (D.int .i64) (.int .i64 0)).1 (AC (at_ok hx74 (D.int .i64) (.int .i64 0)).2 (AC (at_ok hx75 (D.int .i64) (.int .i64 0)).1 (A1 (at_ok hx75 (D.int .i64) (.int .i64 0)).2)))) ?_
   obtain ⟨x77, hx77, H⟩ := bind_some' H
   refine K_of ⟨[(2, (.one (.ptr 0 0 0))), (4, (.one (.ptr 1 0 0))), (6, (LI x3)), (8, (.one (.ptr 2 0 0))), (9, (I x51)), (10, (I x77)), (23, (I x4)), (24, (I x54)), (29, (I x55)), (30, (I x72.2))], [.cells [.d (.int .i64 p1), .d (.int .i64 p2), .d (.int .i64 p3), .d (.int .i64 p4), .d (.int .i64 p5), .d (.list (p6.map (D.int .i64)))], .cells [.nil, .nil], .cells [.own 3 0 x63, .own 4 0 x64], VI x65, VI x66]⟩ ?_ ?_
   · clear H; have H := hx77; clear hx77; refine K_in ?_
     rcases ite_some H with ⟨hx76, H⟩ | ⟨hx76, H⟩
     · refine K_t rfl (decide_eq_true hx76) ?_
       refine K_reg [] [] ⟨[(2, (.one (.ptr 0 0 0))), (4, (.one (.ptr 1 0 0))), (6, (LI x3)), (8, (.one (.ptr 2 0 0))), (9, (I x51)), (10, (I (w64 (x72.1 + 1)))), (23, (I x4)), (24, (I x54)), (29, (I x55)), (30, (I x72.2))], [.cells [.d (.int .i64 p1), .d (.int .i64 p2), .d (.int .i64 p3), .d (.int .i64 p4), .d (.int .i64 p5), .d (.list (p6.map (D.int .i64)))], .cells [.nil, .nil], .cells [.own 3 0 x63, .own 4 0 x64], VI x65, VI x66]⟩ (by kernel_rfl) trivial ?_
       cases H
       exact K_end rfl
     · refine K_f rfl (decide_eq_false hx76) ?_
       refine K_gh ⟨[(2, (.one (.ptr 0 0 0))), (4, (.one (.ptr 1 0 0))), (6, (LI x3)), (8, (.one (.ptr 2 0 0))), (9, (I x51)), (10, (I x72.1)), (23, (I x4)), (24, (I x54)), (29, (I x55)), (30, (I x72.2))], [.cells [.d (.int .i64 p1), .d (.int .i64 p2), .d (.int .i64 p3), .d (.int .i64 p4), .d (.int .i64 p5), .d (.list (p6.map (D.int .i64)))], .cells [.nil, .nil], .cells [.own 3 0 x63, .own 4 0 x64], VI x65, VI x66]⟩ (by kernel_rfl) ?_
       refine K_skip ?_
       cases H
       exact K_end rfl
   refine K_blk ?_
   refine K_reg [] [] ⟨[(2, (.one (.ptr 0 0 0))), (4, (.one (.ptr 1 0 0))), (6, (LI x3)), (8, (.one (.ptr 2 0 0))), (9, (I x51)), (10, (I x77)), (23, (I x4)), (24, (I x54)), (29, (I x55)), (30, (I (w64 (x72.2 + 1))))], [.cells [.d (.int .i64 p1), .d (.int .i64 p2), .d (.int .i64 p3), .d (.int .i64 p4), .d (.int .i64 p5), .d (.list (p6.map (D.int .i64)))], .cells [.nil, .nil], .cells [.own 3 0 x63, .own 4 0 x64], VI x65, VI x66]⟩ (by kernel_rfl) trivial ?_
   cases H
   exact K_end rfl
 · refine K_f rfl (decide_eq_false hx73) ?_
   refine K_gh ⟨[(2, (.one (.ptr 0 0 0))), (4, (.one (.ptr 1 0 0))), (6, (LI x3)), (8, (.one (.ptr 2 0 0))), (10, (I x72.1)), (23, (I x4)), (24, (I x54))], [.cells [.d (.int .i64 p1), .d (.int .i64 p2), .d (.int .i64 p3), .d (.int .i64 p4), .d (.int .i64 p5), .d (.list (p6.map (D.int .i64)))], .cells [.nil, .nil], .cells [.own 3 0 x63, .own 4 0 x64], VI x65, VI x66]⟩ (by kernel_rfl) ?_
   cases H
   exact K_exit0 rfl rfl
def T_ref19_Of_l2 (k : Nat) (p1 : Int) (p2 : Int) (p3 : Int) (x3 : List Int) (x4 : Int) (p4 : Int) (p5 : Int) (p6 : List Int) (x48 : Int × Nat × Nat × (List Int) × (List Int)) : Option ((Int × Nat × Nat × (List Int) × (List Int)) ⊕ ((Nat × Nat × (List Int) × (List Int)))) :=
 (if x48.1 < x4 then (loopT (T_ref19_Of_l1 k p1 p2 p3 x3 x4 p4 p5 p6 x48.1 x48.1 (p6.length : Int) x48.2.1 x48.2.2.1 x48.2.2.2.1 x48.2.2.2.2) k (0, 0)).bind fun x78 => (if x48.2.1 + 1 ≤ LIM then (if x48.2.2.1 + 1 ≤ LIM then some (.inl ((w64 (x48.1 + 1)), (x48.2.1 + 1), (x48.2.2.1 + 1), ((x48.2.2.2.1.drop 0).take x48.2.1 ++ ([x78] : List Int)), ((x48.2.2.2.2.drop 0).take x48.2.2.1 ++ ([4] : List Int)))) else none) else none) else some (.inr (x48.2.1, x48.2.2.1, x48.2.2.2.1, x48.2.2.2.2)))
theorem T_ref19_Of_l2_ok (k : Nat) (p1 : Int) (p2 : Int) (p3 : Int) (x3 : List Int) (x4 : Int) (p4 : Int) (p5 : Int) (p6 : List Int) : ∀ (x48 : Int × Nat × Nat × (List Int) × (List Int)) (x : (Int × Nat × Nat × (List Int) × (List Int)) ⊕ ((Nat × Nat × (List Int) × (List Int)))), T_ref19_Of_l2 k p1 p2 p3 x3 x4 p4 p5 p6 x48 = some x → evC X (evF X k) k 0 l_ref19_Of_2 ⟨[(2, (.one (.ptr 0 0 0))), (4, (.one (.ptr 1 0 0))), (6, (LI x3)), (8, (.one (.ptr 2 0 0))), (23, (I x4)), (24, (I x48.1))], [.cells [.d (.int .i64 p1), .d (.int .i64 p2), .d (.int .i64 p3), .d (.int .i64 p4), .d (.int .i64 p5), .d (.list (p6.map (D.int .i64)))], .cells [.nil, .nil], .cells [.own 3 0 x48.2.1, .own 4 0 x48.2.2.1], VI x48.2.2.2.1, VI x48.2.2.2.2]⟩ = some (outS (fun (s : Int × Nat × Nat × (List Int) × (List Int)) => ⟨[(2, (.one (.ptr 0 0 0))), (4, (.one (.ptr 1 0 0))), (6, (LI x3)), (8, (.one (.ptr 2 0 0))), (23, (I x4)), (24, (I s.1))], [.cells [.d (.int .i64 p1), .d (.int .i64 p2), .d (.int .i64 p3), .d (.int .i64 p4), .d (.int .i64 p5), .d (.list (p6.map (D.int .i64)))], .cells [.nil, .nil], .cells [.own 3 0 s.2.1, .own 4 0 s.2.2.1], VI s.2.2.2.1, VI s.2.2.2.2]⟩) (fun (r : (Nat × Nat × (List Int) × (List Int))) => (.exit 0, ⟨[(4, (.one (.ptr 0 0 0))), (8, (.one (.ptr 1 0 0)))], [.cells [.nil, .nil], .cells [.own 2 0 r.1, .own 3 0 r.2.1], VI r.2.2.1, VI r.2.2.2]⟩)) x) := by
 intro x48 x H
 unfold T_ref19_Of_l2 at H
 refine K_in ?_
 refine K_seq ?_
 refine K_reg [] [] ⟨[(2, (.one (.ptr 0 0 0))), (4, (.one (.ptr 1 0 0))), (6, (LI x3)), (8, (.one (.ptr 2 0 0))), (23, (I x4)), (24, (I x48.1)), (25, (B (decide (x48.1 < x4))))], [.cells [.d (.int .i64 p1), .d (.int .i64 p2), .d (.int .i64 p3), .d (.int .i64 p4), .d (.int .i64 p5), .d (.list (p6.map (D.int .i64)))], .cells [.nil, .nil], .cells [.own 3 0 x48.2.1, .own 4 0 x48.2.2.1], VI x48.2.2.2.1, VI x48.2.2.2.2]⟩ (by kernel_rfl) trivial ?_
 refine K_seq ?_
 rcases ite_some H with ⟨hx49, H⟩ | ⟨hx49, H⟩
 · refine K_t rfl (decide_eq_true hx49) ?_
   refine K_gh ⟨[(2, (.one (.ptr 0 0 0))), (4, (.one (.ptr 1 0 0))), (6, (LI x3)), (8, (.one (.ptr 2 0 0))), (23, (I x4)), (24, (I x48.1))], [.cells [.d (.int .i64 p1), .d (.int .i64 p2), .d (.int .i64 p3), .d (.int .i64 p4), .d (.int .i64 p5), .d (.list (p6.map (D.int .i64)))], .cells [.nil, .nil], .cells [.own 3 0 x48.2.1, .own 4 0 x48.2.2.1], VI x48.2.2.2.1, VI x48.2.2.2.2]⟩ (by kernel_rfl) ?_
   refine K_skip ?_
   refine K_seq ?_
   refine K_block ?_
   refine K_seq ?_
   refine K_reg [] [] ⟨[(2, (.one (.ptr 0 0 0))), (4, (.one (.ptr 1 0 0))), (6, (LI x3)), (8, (.one (.ptr 2 0 0))), (9, (I x48.1)), (23, (I x4)), (24, (I x48.1))], [.cells [.d (.int .i64 p1), .d (.int .i64 p2), .d (.int .i64 p3), .d (.int .i64 p4), .d (.int .i64 p5), .d (.list (p6.map (D.int .i64)))], .cells [.nil, .nil], .cells [.own 3 0 x48.2.1, .own 4 0 x48.2.2.1], VI x48.2.2.2.1, VI x48.2.2.2.2]⟩ (by kernel_rfl) trivial ?_
   refine K_seq ?_
   refine K_reg [] [] ⟨[(2, (.one (.ptr 0 0 0))), (4, (.one (.ptr 1 0 0))), (6, (LI x3)), (8, (.one (.ptr 2 0 0))), (9, (I x48.1)), (10, (I 0)), (23, (I x4)), (24, (I x48.1))], [.cells [.d (.int .i64 p1), .d (.int .i64 p2), .d (.int .i64 p3), .d (.int .i64 p4), .d (.int .i64 p5), .d (.list (p6.map (D.int .i64)))], .cells [.nil, .nil], .cells [.own 3 0 x48.2.1, .own 4 0 x48.2.2.1], VI x48.2.2.2.1, VI x48.2.2.2.2]⟩ (by kernel_rfl) trivial ?_
   refine K_seq ?_
   refine K_seq ?_
   refine K_reg [.n p6.length] [((p6.map (D.int .i64))).length = p6.length] ⟨[(2, (.one (.ptr 0 0 0))), (4, (.one (.ptr 1 0 0))), (6, (LI x3)), (8, (.one (.ptr 2 0 0))), (9, (I x48.1)), (10, (I 0)), (23, (I x4)), (24, (I x48.1)), (29, (I (p6.length : Int))), (30, (I 0))], [.cells [.d (.int .i64 p1), .d (.int .i64 p2), .d (.int .i64 p3), .d (.int .i64 p4), .d (.int .i64 p5), .d (.list (p6.map (D.int .i64)))], .cells [.nil, .nil], .cells [.own 3 0 x48.2.1, .own 4 0 x48.2.2.1], VI x48.2.2.2.1, VI x48.2.2.2.2]⟩ (by kernel_rfl) (A1 (List.length_map _)) ?_
   refine K_block ?_
   obtain ⟨x78, hx78, H⟩ := bind_some' H
   refine K_loop ⟨[(2, (.one (.ptr 0 0 0))), (4, (.one (.ptr 1 0 0))), (6, (LI x3)), (8, (.one (.ptr 2 0 0))), (10, (I x78)), (23, (I x4)), (24, (I x48.1))], [.cells [.d (.int .i64 p1), .d (.int .i64 p2), .d (.int .i64 p3), .d (.int .i64 p4), .d (.int .i64 p5), .d (.list (p6.map (D.int .i64)))], .cells [.nil, .nil], .cells [.own 3 0 x48.2.1, .own 4 0 x48.2.2.1], VI x48.2.2.2.1, VI x48.2.2.2.2]⟩ (loop_ok (fun (s : Int × Int) => ⟨[(2, (.one (.ptr 0 0 0))), (4, (.one (.ptr 1 0 0))), (6, (LI x3)), (8, (.one (.ptr 2 0 0))), (9, (I x48.1)), (10, (I s.1)), (23, (I x4)), (24, (I x48.1)), (29, (I (p6.length : Int))), (30, (I s.2))], [.cells [.d (.int .i64 p1), .d (.int .i64 p2), .d (.int .i64 p3), .d (.int .i64 p4), .d (.int .i64 p5), .d (.list (p6.map (D.int .i64)))], .cells [.nil, .nil], .cells [.own 3 0 x48.2.1, .own 4 0 x48.2.2.1], VI x48.2.2.2.1, VI x48.2.2.2.2]⟩) (fun (r : Int) => (.exit 2, ⟨[(2, (.one (.ptr 0 0 0))), (4, (.one (.ptr 1 0 0))), (6, (LI x3)), (8, (.one (.ptr 2 0 0))), (10, (I r)), (23, (I x4)), (24, (I x48.1))], [.cells [.d (.int .i64 p1), .d (.int .i64 p2), .d (.int .i64 p3), .d (.int .i64 p4), .d (.int .i64 p5), .d (.list (p6.map (D.int .i64)))], .cells [.nil, .nil], .cells [.own 3 0 x48.2.1, .own 4 0 x48.2.2.1], VI x48.2.2.2.1, VI x48.2.2.2.2]⟩)) (fun r h => by cases h) (T_ref19_Of_l1_ok k p1 p2 p3 x3 x4 p4 p5 p6 x48.1 x48.1 (p6.length : Int) x48.2.1 x48.2.2.1 x48.2.2.2.1 x48.2.2.2.2) k (0, 0) x78 hx78) rfl ?_
   obtain ⟨hx79, H⟩ := guard_some H
   obtain ⟨hx80, H⟩ := guard_some H
   refine K_regD [.n 1, .l (((x48.2.2.2.1.drop 0).take x48.2.1 ++ ([x78] : List Int)).map (D.int .i64)), .n 1, .l (((x48.2.2.2.2.drop 0).take x48.2.2.1 ++ ([4] : List Int)).map (D.int .i64)), .n 1, .l (((x48.2.2.2.1.drop 0).take x48.2.1 ++ ([x78] : List Int)).map (D.int .i64)), .n 1, .l (((x48.2.2.2.2.drop 0).take x48.2.2.1 ++ ([4] : List Int)).map (D.int .i64)), .n 1, .l (((x48.2.2.2.1.drop 0).take x48.2.1 ++ ([x78] : List Int)).map (D.int .i64)), .n 1, .l (((x48.2.2.2.2.drop 0).take x48.2.2.1 ++ ([4] : List Int)).map (D.int .i64))] [(List.all (([x78] : List Int).map (D.int .i64)) fun d => d.cells.length == (D.cells (.int .i64 0)).length) = true, x48.2.1 + 1 ≤ LIM, (([x78] : List Int).map (D.int .i64)).length = 1, ((x48.2.2.2.1.map (D.int .i64)).drop 0).take x48.2.1 ++ (([x78] : List Int).map (D.int .i64)) = ((x48.2.2.2.1.drop 0).take x48.2.1 ++ ([x78] : List Int)).map (D.int .i64), (List.all (([4] : List Int).map (D.int .i64)) fun d => d.cells.length == (D.cells (.int .i64 0)).length) = true, x48.2.2.1 + 1 ≤ LIM, (([4] : List Int).map (D.int .i64)).length = 1, ((x48.2.2.2.2.map (D.int .i64)).drop 0).take x48.2.2.1 ++ (([4] : List Int).map (D.int .i64)) = ((x48.2.2.2.2.drop 0).take x48.2.2.1 ++ ([4] : List Int)).map (D.int .i64), (List.all (([x78] : List Int).map (D.int .i64)) fun d => d.cells.length == (D.cells (.int .i64 0)).length) = true, x48.2.1 + 1 ≤ LIM, (([x78] : List Int).map (D.int .i64)).length = 1, ((x48.2.2.2.1.map (D.int .i64)).drop 0).take x48.2.1 ++ (([x78] : List Int).map (D.int .i64)) = ((x48.2.2.2.1.drop 0).take x48.2.1 ++ ([x78] : List Int)).map (D.int .i64), (List.all (([4] : List Int).map (D.int .i64)) fun d => d.cells.length == (D.cells (.int .i64 0)).length) = true, x48.2.2.1 + 1 ≤ LIM, (([4] : List Int).map (D.int .i64)).length = 1, ((x48.2.2.2.2.map (D.int .i64)).drop 0).take x48.2.2.1 ++ (([4] : List Int).map (D.int .i64)) = ((x48.2.2.2.2.drop 0).take x48.2.2.1 ++ ([4] : List Int)).map (D.int .i64), (⟨[(2, (.one (.ptr 0 0 0))), (4, (.one (.ptr 1 0 0))), (6, (LI x3)), (8, (.one (.ptr 2 0 0))), (23, (I x4)), (24, (I x48.1))], [.cells [.d (.int .i64 p1), .d (.int .i64 p2), .d (.int .i64 p3), .d (.int .i64 p4), .d (.int .i64 p5), .d (.list (p6.map (D.int .i64)))], .cells [.nil, .nil], .cells [.own 3 0 (x48.2.1 + 1), .own 4 0 (x48.2.2.1 + 1)], VI ((x48.2.2.2.1.drop 0).take x48.2.1 ++ ([x78] : List Int)), VI ((x48.2.2.2.2.drop 0).take x48.2.2.1 ++ ([4] : List Int))]⟩ : St) = ⟨[(2, (.one (.ptr 0 0 0))), (4, (.one (.ptr 1 0 0))), (6, (LI x3)), (8, (.one (.ptr 2 0 0))), (23, (I x4)), (24, (I x48.1))], [.cells [.d (.int .i64 p1), .d (.int .i64 p2), .d (.int .i64 p3), .d (.int .i64 p4), .d (.int .i64 p5), .d (.list (p6.map (D.int .i64)))], .cells [.nil, .nil], .cells [.own 3 0 (x48.2.1 + 1), .own 4 0 (x48.2.2.1 + 1)], VI ((x48.2.2.2.1.drop 0).take x48.2.1 ++ ([x78] : List Int)), VI ((x48.2.2.2.2.drop 0).take x48.2.2.1 ++ ([4] : List Int))]⟩, (List.all (([x78] : List Int).map (D.int .i64)) fun d => d.cells.length == (D.cells (.int .i64 0)).length) = true, x48.2.1 + 1 ≤ LIM, (([x78] : List Int).map (D.int .i64)).length = 1, ((x48.2.2.2.1.map (D.int .i64)).drop 0).take x48.2.1 ++ (([x78] : List Int).map (D.int .i64)) = ((x48.2.2.2.1.drop 0).take x48.2.1 ++ ([x78] : List Int)).map (D.int .i64), (List.all (([4] : List Int).map (D.int .i64)) fun d => d.cells.length == (D.cells (.int .i64 0)).length) = true, x48.2.2.1 + 1 ≤ LIM, (([4] : List Int).map (D.int .i64)).length = 1, ((x48.2.2.2.2.map (D.int .i64)).drop 0).take x48.2.2.1 ++ (([4] : List Int).map (D.int .i64)) = ((x48.2.2.2.2.drop 0).take x48.2.2.1 ++ ([4] : List Int)).map (D.int .i64), (⟨[(2, (.one (.ptr 0 0 0))), (4, (.one (.ptr 1 0 0))), (6, (LI x3)), (8, (.one (.ptr 2 0 0))), (23, (I x4)), (24, (I x48.1))], [.cells [.d (.int .i64 p1), .d (.int .i64 p2), .d (.int .i64 p3), .d (.int .i64 p4), .d (.int .i64 p5), .d (.list (p6.map (D.int .i64)))], .cells [.nil, .nil], .cells [.own 3 0 (x48.2.1 + 1), .own 4 0 (x48.2.2.1 + 1)], VI ((x48.2.2.2.1.drop 0).take x48.2.1 ++ ([x78] : List Int)), VI ((x48.2.2.2.2.drop 0).take x48.2.2.1 ++ ([4] : List Int))]⟩ : St) = ⟨[(2, (.one (.ptr 0 0 0))), (4, (.one (.ptr 1 0 0))), (6, (LI x3)), (8, (.one (.ptr 2 0 0))), (23, (I x4)), (24, (I x48.1))], [.cells [.d (.int .i64 p1), .d (.int .i64 p2), .d (.int .i64 p3), .d (.int .i64 p4), .d (.int .i64 p5), .d (.list (p6.map (D.int .i64)))], .cells [.nil, .nil], .cells [.own 3 0 (x48.2.1 + 1), .own 4 0 (x48.2.2.1 + 1)], VI ((x48.2.2.2.1.drop 0).take x48.2.1 ++ ([x78] : List Int)), VI ((x48.2.2.2.2.drop 0).take x48.2.2.1 ++ ([4] : List Int))]⟩] ⟨[(2, (.one (.ptr 0 0 0))), (4, (.one (.ptr 1 0 0))), (6, (LI x3)), (8, (.one (.ptr 2 0 0))), (23, (I x4)), (24, (I x48.1))], [.cells [.d (.int .i64 p1), .d (.int .i64 p2), .d (.int .i64 p3), .d (.int .i64 p4), .d (.int .i64 p5), .d (.list (p6.map (D.int .i64)))], .cells [.nil, .nil], .cells [.own 3 0 (x48.2.1 + 1), .own 4 0 (x48.2.2.1 + 1)], VI ((x48.2.2.2.1.drop 0).take x48.2.1 ++ ([x78] : List Int)), VI ((x48.2.2.2.2.drop 0).take x48.2.2.1 ++ ([4] : List Int))]⟩ (by kernel_rfl) (AC (all_ok (D.int .i64) 1 ([x78] : List Int) (fun _ => rfl)) (AC hx79 (AC (by simp) (AC (ap_map (D.int .i64) x48.2.2.2.1 ([x78] : List Int) 0 x48.2.1) (AC (all_ok (D.int .i64) 1 ([4] : List Int) (fun _ => rfl)) (AC hx80 (AC (by simp) (AC (ap_map (D.int .i64) x48.2.2.2.2 ([4] : List Int) 0 x48.2.2.1) (AC (all_ok (D.int .i64) 1 ([x78] : List Int) (fun _ => rfl)) (AC hx79 (AC (by simp) (AC (ap_map (D.int .i64) x48.2.2.2.1 ([x78] : List Int) 0 x48.2.1) (AC (all_ok (D.int .i64) 1 ([4] : List Int) (fun _ => rfl)) (AC hx80 (AC (by simp) (AC (ap_map (D.int .i64) x48.2.2.2.2 ([4] : List Int) 0 x48.2.2.1) (AC rfl (AC (all_ok (D.int .i64) 1 ([x78] : List Int) (fun _ => rfl)) (AC hx79 (AC (by simp) (AC (ap_map (D.int .i64) x48.2.2.2.1 ([x78] : List Int) 0 x48.2.1) (AC (all_ok (D.int .i64) 1 ([4] : List Int) (fun _ => rfl)) (AC hx80 (AC (by simp) (AC (ap_map (D.int .i64) x48.2.2.2.2 ([4] : List Int) 0 x48.2.2.1) (A1 rfl)))))))))))))))))))))))))) ?_
   refine K_blk ?_
   refine K_reg [] [] ⟨[(2, (.one (.ptr 0 0 0))), (4, (.one (.ptr 1 0 0))), (6, (LI x3)), (8, (.one (.ptr 2 0 0))), (23, (I x4)), (24, (I (w64 (x48.1 + 1))))], [.cells [.d (.int .i64 p1), .d (.int .i64 p2), .d (.int .i64 p3), .d (.int .i64 p4), .d (.int .i64 p5), .d (.list (p6.map (D.int .i64)))], .cells [.nil, .nil], .cells [.own 3 0 (x48.2.1 + 1), .own 4 0 (x48.2.2.1 + 1)], VI ((x48.2.2.2.1.drop 0).take x48.2.1 ++ ([x78] : List Int)), VI ((x48.2.2.2.2.drop 0).take x48.2.2.1 ++ ([4] : List Int))]⟩ (by kernel_rfl) trivial ?_
   cases H
   exact K_end rfl
 · refine K_f rfl (decide_eq_false hx49) ?_
   refine K_gh ⟨[(4, (.one (.ptr 0 0 0))), (8, (.one (.ptr 1 0 0)))], [.cells [.nil, .nil], .cells [.own 2 0 x48.2.1, .own 3 0 x48.2.2.1], VI x48.2.2.2.1, VI x48.2.2.2.2]⟩ (by kernel_rfl) ?_
   cases H
   exact K_exit0 rfl rfl
def T_ref19_Of (k : Nat) (p1 : Int) (p2 : Int) (p3 : Int) (p4 : Int) (p5 : Int) (p6 : List Int) (p7 : List Int) : Option ((List Int) × (List Int) × Int) := match k with
 | 0 => none
 | k + 1 => ((T_ref19_Coordinates k p1 p2 p3 p4 p5 p6 p7).bind fun x1 => (if (!decide (x1.2 = 0)) = true then some ([], [], x1.2) else ((loopT (T_ref19_Of_l2 k p1 p2 p3 x1.1 (x1.1.length : Int) p4 p5 p6) k (0, 0, 0, [], [])).bind fun x81 => some (((x81.2.2.1.drop 0).take x81.1), ((x81.2.2.2.drop 0).take x81.2.1), 0))))
theorem T_ref19_Of_ok (k : Nat) (p1 : Int) (p2 : Int) (p3 : Int) (p4 : Int) (p5 : Int) (p6 : List Int) (p7 : List Int) (r : (List Int) × (List Int) × Int) : T_ref19_Of k p1 p2 p3 p4 p5 p6 p7 = some r → evF X k n_ref19_Of [(.agg [.d (.int .i64 p1), .d (.int .i64 p2), .d (.int .i64 p3), .d (.int .i64 p4), .d (.int .i64 p5), .d (.list (p6.map (D.int .i64)))]), (LI p7)] [] = some ((.tup [(true, [.d (.list (r.1.map (D.int .i64))), .d (.list (r.2.1.map (D.int .i64)))]), (false, [.d (.int .i64 r.2.2)])]), []) := by
 intro H
 cases k with
 | zero => simp [T_ref19_Of] at H
 | succ k =>
  simp only [T_ref19_Of] at H
  refine F_in X_ref19_Of rfl ?_
  refine K_seq ?_
  refine K_reg [] [] ⟨[(1, (LI p7)), (2, (.one (.ptr 0 0 0))), (4, (.one (.ptr 1 0 0)))], [.cells [.d (.int .i64 p1), .d (.int .i64 p2), .d (.int .i64 p3), .d (.int .i64 p4), .d (.int .i64 p5), .d (.list (p6.map (D.int .i64)))], .cells [.nil, .nil]]⟩ (by kernel_rfl) trivial ?_
  refine K_seq ?_
  obtain ⟨x1, hx1, H⟩ := bind_some' H
  refine K_reg [.r (.tup [(false, [.d (.list (x1.1.map (D.int .i64)))]), (false, [.d (.int .i64 x1.2)])]) []] [evF X k n_ref19_Coordinates [(.agg [.d (.int .i64 p1), .d (.int .i64 p2), .d (.int .i64 p3), .d (.int .i64 p4), .d (.int .i64 p5), .d (.list (p6.map (D.int .i64)))]), (LI p7)] [] = some ((.tup [(false, [.d (.list (x1.1.map (D.int .i64)))]), (false, [.d (.int .i64 x1.2)])]), [])] ⟨[(2, (.one (.ptr 0 0 0))), (4, (.one (.ptr 1 0 0))), (6, (LI x1.1)), (7, (I x1.2))], [.cells [.d (.int .i64 p1), .d (.int .i64 p2), .d (.int .i64 p3), .d (.int .i64 p4), .d (.int .i64 p5), .d (.list (p6.map (D.int .i64)))], .cells [.nil, .nil]]⟩ (by kernel_rfl) (A1 (T_ref19_Coordinates_ok k p1 p2 p3 p4 p5 p6 p7 x1 hx1)) ?_
  refine K_seq ?_
  refine K_seq ?_
  refine K_reg [] [] ⟨[(2, (.one (.ptr 0 0 0))), (4, (.one (.ptr 1 0 0))), (6, (LI x1.1)), (7, (I x1.2)), (19, (B (!decide (x1.2 = 0))))], [.cells [.d (.int .i64 p1), .d (.int .i64 p2), .d (.int .i64 p3), .d (.int .i64 p4), .d (.int .i64 p5), .d (.list (p6.map (D.int .i64)))], .cells [.nil, .nil]]⟩ (by kernel_rfl) trivial ?_
  rcases ite_some H with ⟨hx2, H⟩ | ⟨hx2, H⟩
  · refine K_t rfl hx2 ?_
    refine K_seq ?_
    refine K_reg [] [] ⟨[(4, (.one (.ptr 0 0 0))), (5, (I x1.2))], [.cells [.nil, .nil]]⟩ (by kernel_rfl) trivial ?_
    refine K_gh ⟨[(4, (.one (.ptr 0 0 0))), (5, (I x1.2))], [.cells [.nil, .nil]]⟩ (by kernel_rfl) ?_
    cases H
    refine K_ret ?_
    kernel_rfl
  · refine K_f rfl (Bool.eq_false_iff.2 hx2) ?_
    refine K_gh ⟨[(2, (.one (.ptr 0 0 0))), (4, (.one (.ptr 1 0 0))), (6, (LI x1.1))], [.cells [.d (.int .i64 p1), .d (.int .i64 p2), .d (.int .i64 p3), .d (.int .i64 p4), .d (.int .i64 p5), .d (.list (p6.map (D.int .i64)))], .cells [.nil, .nil]]⟩ (by kernel_rfl) ?_
    refine K_skip ?_
    refine K_seq ?_
    refine K_reg [] [] ⟨[(2, (.one (.ptr 0 0 0))), (4, (.one (.ptr 1 0 0))), (6, (LI x1.1)), (8, (.one (.ptr 2 0 0)))], [.cells [.d (.int .i64 p1), .d (.int .i64 p2), .d (.int .i64 p3), .d (.int .i64 p4), .d (.int .i64 p5), .d (.list (p6.map (D.int .i64)))], .cells [.nil, .nil], .cells [.nil, .nil]]⟩ (by kernel_rfl) trivial ?_
    refine K_seq ?_
    refine K_seq ?_
    refine K_reg [.n x1.1.length] [((x1.1.map (D.int .i64))).length = x1.1.length] ⟨[(2, (.one (.ptr 0 0 0))), (4, (.one (.ptr 1 0 0))), (6, (LI x1.1)), (8, (.one (.ptr 2 0 0))), (23, (I (x1.1.length : Int))), (24, (I 0))], [.cells [.d (.int .i64 p1), .d (.int .i64 p2), .d (.int .i64 p3), .d (.int .i64 p4), .d (.int .i64 p5), .d (.list (p6.map (D.int .i64)))], .cells [.nil, .nil], .cells [.nil, .nil]]⟩ (by kernel_rfl) (A1 (List.length_map _)) ?_
    refine K_block ?_
    refine K_gh ⟨[(2, (.one (.ptr 0 0 0))), (4, (.one (.ptr 1 0 0))), (6, (LI x1.1)), (8, (.one (.ptr 2 0 0))), (23, (I (x1.1.length : Int))), (24, (I 0))], [.cells [.d (.int .i64 p1), .d (.int .i64 p2), .d (.int .i64 p3), .d (.int .i64 p4), .d (.int .i64 p5), .d (.list (p6.map (D.int .i64)))], .cells [.nil, .nil], .cells [.own 3 0 0, .own 4 0 0], VI [], VI []]⟩ (by kernel_rfl) ?_
    obtain ⟨x81, hx81, H⟩ := bind_some' H
    refine K_loop ⟨[(4, (.one (.ptr 0 0 0))), (8, (.one (.ptr 1 0 0)))], [.cells [.nil, .nil], .cells [.own 2 0 x81.1, .own 3 0 x81.2.1], VI x81.2.2.1, VI x81.2.2.2]⟩ (loop_ok (fun (s : Int × Nat × Nat × (List Int) × (List Int)) => ⟨[(2, (.one (.ptr 0 0 0))), (4, (.one (.ptr 1 0 0))), (6, (LI x1.1)), (8, (.one (.ptr 2 0 0))), (23, (I (x1.1.length : Int))), (24, (I s.1))], [.cells [.d (.int .i64 p1), .d (.int .i64 p2), .d (.int .i64 p3), .d (.int .i64 p4), .d (.int .i64 p5), .d (.list (p6.map (D.int .i64)))], .cells [.nil, .nil], .cells [.own 3 0 s.2.1, .own 4 0 s.2.2.1], VI s.2.2.2.1, VI s.2.2.2.2]⟩) (fun (r : (Nat × Nat × (List Int) × (List Int))) => (.exit 0, ⟨[(4, (.one (.ptr 0 0 0))), (8, (.one (.ptr 1 0 0)))], [.cells [.nil, .nil], .cells [.own 2 0 r.1, .own 3 0 r.2.1], VI r.2.2.1, VI r.2.2.2]⟩)) (fun r h => by cases h) (T_ref19_Of_l2_ok k p1 p2 p3 x1.1 (x1.1.length : Int) p4 p5 p6) k (0, 0, 0, [], []) x81 hx81) rfl ?_
    refine K_seq ?_
    refine K_reg [] [] ⟨[(4, (.one (.ptr 0 0 0))), (5, (I 0))], [.cells [.own 1 0 x81.1, .own 2 0 x81.2.1], VI x81.2.2.1, VI x81.2.2.2]⟩ (by kernel_rfl) trivial ?_
    refine K_gh ⟨[(4, (.one (.ptr 0 0 0))), (5, (I 0))], [.cells [.own 1 0 x81.1, .own 2 0 x81.2.1], VI x81.2.2.1, VI x81.2.2.2]⟩ (by kernel_rfl) ?_
    cases H
    refine K_ret ?_
    exact Eq.trans (b := some ((.tup [(true, [.d (.list (((x81.2.2.1.map (D.int .i64)).drop 0).take x81.1)), .d (.list (((x81.2.2.2.map (D.int .i64)).drop 0).take x81.2.1))]), (false, [.d (.int .i64 0)])]), [])) (by kernel_rfl) (by simp only [dt_map, LI, VI])
end Go.Proofs.Ytdnegloonbanpaa.wordAnswers
