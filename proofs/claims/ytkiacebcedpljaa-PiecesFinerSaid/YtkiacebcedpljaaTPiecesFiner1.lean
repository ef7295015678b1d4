/- What the functions that the statement PiecesFiner reaches compute, told as functions of Lean, and that the theory's language computes the same: part 2 of 2. There are no conditions. -/
import Derived.Test.YtkiacebcedpljaaTPiecesFiner0
set_option maxRecDepth 100000
set_option linter.unusedVariables false
set_option linter.unusedSimpArgs false
namespace Go.Proofs.Ytkiacebcedpljaa.piecesFiner
open Go
def T_keep_Ints_l1 (k : Nat) (p1 : List Int) (p2 : List Int) (x4 : Int) (x10 : Int) : Option (Int ⊕ (Unit ⊕ Unit)) :=
  (if x10 < x4 then ((at? p1 x10).bind fun x12 => (at? p2 x10).bind fun x13 => (if (!decide (x12 = x13)) = true then some (.inr (.inr ())) else some (.inl (w64 (x10 + 1))))) else some (.inr (.inl ())))
theorem T_keep_Ints_l1_ok (k : Nat) (p1 : List Int) (p2 : List Int) (x4 : Int) : ∀ (x10 : Int) (x : Int ⊕ (Unit ⊕ Unit)), T_keep_Ints_l1 k p1 p2 x4 x10 = some x → evC X (evF X k) k 0 l_keep_Ints_1 ⟨[(0, (.one (.d (.list (p1.map (D.int .i64)))))), (1, (.one (.d (.list (p2.map (D.int .i64)))))), (12, (I x4)), (13, (I x10))], []⟩ = some (outS (fun (s : Int) => ⟨[(0, (.one (.d (.list (p1.map (D.int .i64)))))), (1, (.one (.d (.list (p2.map (D.int .i64)))))), (12, (I x4)), (13, (I s))], []⟩) (fun (r : Unit ⊕ Unit) => Sum.elim (fun y => (.exit 0, ⟨[], []⟩)) (fun y => (.ret, ⟨[(4, (B false))], []⟩)) r) x) := by
  intro x10 x H
  unfold T_keep_Ints_l1 at H
  refine K_in ?_
  refine K_seq ?_
  refine K_reg [] [] ⟨[(0, (.one (.d (.list (p1.map (D.int .i64)))))), (1, (.one (.d (.list (p2.map (D.int .i64)))))), (12, (I x4)), (13, (I x10)), (14, (B (decide (x10 < x4))))], []⟩ (by kernel_rfl) trivial ?_
  refine K_seq ?_
  rcases ite_some H with ⟨hx11, H⟩ | ⟨hx11, H⟩
  · refine K_t rfl (decide_eq_true hx11) ?_
    refine K_gh ⟨[(0, (.one (.d (.list (p1.map (D.int .i64)))))), (1, (.one (.d (.list (p2.map (D.int .i64)))))), (12, (I x4)), (13, (I x10))], []⟩ (by kernel_rfl) ?_
    refine K_skip ?_
    refine K_seq ?_
    refine K_block ?_
    refine K_seq ?_
    refine K_reg [] [] ⟨[(0, (.one (.d (.list (p1.map (D.int .i64)))))), (1, (.one (.d (.list (p2.map (D.int .i64)))))), (5, (I x10)), (12, (I x4)), (13, (I x10))], []⟩ (by kernel_rfl) trivial ?_
    refine K_seq ?_
    obtain ⟨x12, hx12, H⟩ := bind_some' H
    obtain ⟨x13, hx13, H⟩ := bind_some' H
    refine K_reg [.l [.int .i64 x12], .l [.int .i64 x13]] [(0 : Int) ≤ x10 ∧ x10 < (((p1.map (D.int .i64))).length : Int), ((p1.map (D.int .i64)).getD x10.toNat (.int .i64 0)).cells = [.int .i64 x12], (0 : Int) ≤ x10 ∧ x10 < (((p2.map (D.int .i64))).length : Int), ((p2.map (D.int .i64)).getD x10.toNat (.int .i64 0)).cells = [.int .i64 x13]] ⟨[(0, (.one (.d (.list (p1.map (D.int .i64)))))), (1, (.one (.d (.list (p2.map (D.int .i64)))))), (12, (I x4)), (13, (I x10)), (24, (B (!decide (x12 = x13))))], []⟩ (by kernel_rfl) (AC (at_ok hx12 (D.int .i64) (.int .i64 0)).1 (AC (at_ok hx12 (D.int .i64) (.int .i64 0)).2 (AC (at_ok hx13 (D.int .i64) (.int .i64 0)).1 (A1 (at_ok hx13 (D.int .i64) (.int .i64 0)).2)))) ?_
    rcases ite_some H with ⟨hx14, H⟩ | ⟨hx14, H⟩
    · refine K_t rfl hx14 ?_
      refine K_seq ?_
      refine K_reg [] [] ⟨[(4, (B false))], []⟩ (by kernel_rfl) trivial ?_
      refine K_gh ⟨[(4, (B false))], []⟩ (by kernel_rfl) ?_
      cases H
      exact K_ret rfl
    · refine K_f rfl (Bool.eq_false_iff.2 hx14) ?_
      refine K_gh ⟨[(0, (.one (.d (.list (p1.map (D.int .i64)))))), (1, (.one (.d (.list (p2.map (D.int .i64)))))), (12, (I x4)), (13, (I x10))], []⟩ (by kernel_rfl) ?_
      refine K_skip ?_
      refine K_blk ?_
      refine K_reg [] [] ⟨[(0, (.one (.d (.list (p1.map (D.int .i64)))))), (1, (.one (.d (.list (p2.map (D.int .i64)))))), (12, (I x4)), (13, (I (w64 (x10 + 1))))], []⟩ (by kernel_rfl) trivial ?_
      cases H
      exact K_end rfl
  · refine K_f rfl (decide_eq_false hx11) ?_
    refine K_gh ⟨[], []⟩ (by kernel_rfl) ?_
    cases H
    exact K_exit0 rfl rfl
def T_keep_Ints (k : Nat) (p1 : List Int) (p2 : List Int) : Option Bool := match k with
  | 0 => none
  | k + 1 => (if (!decide ((p1.length : Int) = (p2.length : Int))) = true then some false else ((loopT (T_keep_Ints_l1 k p1 p2 (p1.length : Int)) k 0).bind fun x15 => (match x15 with | .inl x16 => some true | .inr x17 => some false)))
theorem T_keep_Ints_ok (k : Nat) (p1 : List Int) (p2 : List Int) (r : Bool) : T_keep_Ints k p1 p2 = some r → evF X k n_keep_Ints [(.one (.d (.list (p1.map (D.int .i64))))), (.one (.d (.list (p2.map (D.int .i64)))))] [] = some ((B r), []) := by
  intro H
  cases k with
  | zero => simp [T_keep_Ints] at H
  | succ k =>
    simp only [T_keep_Ints] at H
    refine F_in X_keep_Ints rfl ?_
    refine K_seq ?_
    refine K_reg [] [] ⟨[(0, (.one (.d (.list (p1.map (D.int .i64)))))), (1, (.one (.d (.list (p2.map (D.int .i64))))))], []⟩ (by kernel_rfl) trivial ?_
    refine K_seq ?_
    refine K_seq ?_
    refine K_reg [.n p1.length, .n p2.length] [((p1.map (D.int .i64))).length = p1.length, ((p2.map (D.int .i64))).length = p2.length] ⟨[(0, (.one (.d (.list (p1.map (D.int .i64)))))), (1, (.one (.d (.list (p2.map (D.int .i64)))))), (10, (B (!decide ((p1.length : Int) = (p2.length : Int)))))], []⟩ (by kernel_rfl) (AC (List.length_map _) (A1 (List.length_map _))) ?_
    rcases ite_some H with ⟨hx1, H⟩ | ⟨hx1, H⟩
    · refine K_t rfl hx1 ?_
      refine K_seq ?_
      refine K_reg [] [] ⟨[(4, (B false))], []⟩ (by kernel_rfl) trivial ?_
      refine K_gh ⟨[(4, (B false))], []⟩ (by kernel_rfl) ?_
      cases H
      refine K_ret ?_
      kernel_rfl
    · refine K_f rfl (Bool.eq_false_iff.2 hx1) ?_
      refine K_gh ⟨[(0, (.one (.d (.list (p1.map (D.int .i64)))))), (1, (.one (.d (.list (p2.map (D.int .i64))))))], []⟩ (by kernel_rfl) ?_
      refine K_skip ?_
      refine K_seq ?_
      refine K_seq ?_
      refine K_reg [.n p1.length] [((p1.map (D.int .i64))).length = p1.length] ⟨[(0, (.one (.d (.list (p1.map (D.int .i64)))))), (1, (.one (.d (.list (p2.map (D.int .i64)))))), (12, (I (p1.length : Int))), (13, (I 0))], []⟩ (by kernel_rfl) (A1 (List.length_map _)) ?_
      refine K_block ?_
      obtain ⟨x15, hx15, H⟩ := bind_some' H
      cases x15 with
      | inl x16 =>
        dsimp only at H
        refine K_loop ⟨[], []⟩ (loop_ok (fun (s : Int) => ⟨[(0, (.one (.d (.list (p1.map (D.int .i64)))))), (1, (.one (.d (.list (p2.map (D.int .i64)))))), (12, (I (p1.length : Int))), (13, (I s))], []⟩) (fun (r : Unit ⊕ Unit) => Sum.elim (fun y => (.exit 0, ⟨[], []⟩)) (fun y => (.ret, ⟨[(4, (B false))], []⟩)) r) (fun r h => by cases r <;> cases h) (T_keep_Ints_l1_ok k p1 p2 (p1.length : Int)) k 0 (.inl x16) hx15) rfl ?_
        refine K_seq ?_
        refine K_reg [] [] ⟨[(4, (B true))], []⟩ (by kernel_rfl) trivial ?_
        refine K_gh ⟨[(4, (B true))], []⟩ (by kernel_rfl) ?_
        cases H
        refine K_ret ?_
        kernel_rfl
      | inr x17 =>
        dsimp only at H
        cases H
        refine K_loopr ⟨[(4, (B false))], []⟩ (loop_ok (fun (s : Int) => ⟨[(0, (.one (.d (.list (p1.map (D.int .i64)))))), (1, (.one (.d (.list (p2.map (D.int .i64)))))), (12, (I (p1.length : Int))), (13, (I s))], []⟩) (fun (r : Unit ⊕ Unit) => Sum.elim (fun y => (.exit 0, ⟨[], []⟩)) (fun y => (.ret, ⟨[(4, (B false))], []⟩)) r) (fun r h => by cases r <;> cases h) (T_keep_Ints_l1_ok k p1 p2 (p1.length : Int)) k 0 (.inr x17) hx15) ?_
        kernel_rfl
def T_law18_awake (k : Nat) : Option Bool := match k with
  | 0 => none
  | k + 1 => ((T_pieces_Starts k 7 3).bind fun x1 => (T_pieces_Centred k ([1, 2, 3, 4, 5, 6, 7] : List Int) 3).bind fun x2 => (T_pieces_Lower k ([0, 0, 4, 4] : List Int) ([1, 1, 0, 0] : List Int) 2).bind fun x3 => ((if x1.2 = 0 then ((T_keep_Ints k x1.1 ([0, 2, 4, 7] : List Int)).bind fun x6 => (if (x6 && decide (x2.2 = 0)) = true then ((T_keep_Ints k x2.1 ([(-35), (-7), 42] : List Int)).bind fun x9 => some ((x9 && decide (x3.2.2 = 0)) && (decide (x3.1 = 34) && (decide (x3.2.1 = 1) && true)))) else some false)) else some false)).bind fun x10 => some x10)
theorem T_law18_awake_ok (k : Nat) (r : Bool) : T_law18_awake k = some r → evF X k n_law18_awake [] [] = some ((B r), []) := by
  intro H
  cases k with
  | zero => simp [T_law18_awake] at H
  | succ k =>
    simp only [T_law18_awake] at H
    refine F_in X_law18_awake rfl ?_
    refine K_seq ?_
    refine K_reg [] [] ⟨[], []⟩ (by kernel_rfl) trivial ?_
    refine K_seq ?_
    obtain ⟨x1, hx1, H⟩ := bind_some' H
    refine K_reg [.r (.tup [(false, [.d (.list (x1.1.map (D.int .i64)))]), (false, [.d (.int .i64 x1.2)])]) []] [evF X k n_pieces_Starts [(I 7), (I 3)] [] = some ((.tup [(false, [.d (.list (x1.1.map (D.int .i64)))]), (false, [.d (.int .i64 x1.2)])]), [])] ⟨[(1, (.one (.d (.list (x1.1.map (D.int .i64)))))), (2, (I x1.2))], []⟩ (by kernel_rfl) (A1 (T_pieces_Starts_ok k 7 3 x1 hx1)) ?_
    refine K_seq ?_
    obtain ⟨x2, hx2, H⟩ := bind_some' H
    refine K_reg [.r (.tup [(false, [.d (.list (x2.1.map (D.int .i64)))]), (false, [.d (.int .i64 x2.2)])]) []] [evF X k n_pieces_Centred [(.one (.d (.list (([1, 2, 3, 4, 5, 6, 7] : List Int).map (D.int .i64))))), (I 3)] [] = some ((.tup [(false, [.d (.list (x2.1.map (D.int .i64)))]), (false, [.d (.int .i64 x2.2)])]), [])] ⟨[(1, (.one (.d (.list (x1.1.map (D.int .i64)))))), (2, (I x1.2)), (3, (.one (.d (.list (x2.1.map (D.int .i64)))))), (4, (I x2.2))], []⟩ (by kernel_rfl) (A1 (T_pieces_Centred_ok k ([1, 2, 3, 4, 5, 6, 7] : List Int) 3 x2 hx2)) ?_
    refine K_seq ?_
    obtain ⟨x3, hx3, H⟩ := bind_some' H
    refine K_reg [.r (.tup [(true, [.d (.int .i64 x3.1), .d (.int .i64 x3.2.1)]), (false, [.d (.int .i64 x3.2.2)])]) []] [evF X k n_pieces_Lower [(.one (.d (.list (([0, 0, 4, 4] : List Int).map (D.int .i64))))), (.one (.d (.list (([1, 1, 0, 0] : List Int).map (D.int .i64))))), (I 2)] [] = some ((.tup [(true, [.d (.int .i64 x3.1), .d (.int .i64 x3.2.1)]), (false, [.d (.int .i64 x3.2.2)])]), [])] ⟨[(1, (.one (.d (.list (x1.1.map (D.int .i64)))))), (2, (I x1.2)), (3, (.one (.d (.list (x2.1.map (D.int .i64)))))), (4, (I x2.2)), (5, (.one (.ptr 0 0 0))), (6, (I x3.2.2))], [.cells [.d (.int .i64 x3.1), .d (.int .i64 x3.2.1)]]⟩ (by kernel_rfl) (A1 (T_pieces_Lower_ok k ([0, 0, 4, 4] : List Int) ([1, 1, 0, 0] : List Int) 2 x3 hx3)) ?_
    refine K_seq ?_
    obtain ⟨x10, hx10, H⟩ := bind_some' H
    refine K_of ⟨[(0, (B x10))], []⟩ ?_ ?_
    · clear H; have H := hx10; clear hx10; refine K_in ?_
      rcases ite_some H with ⟨hx5, H⟩ | ⟨hx5, H⟩
      · obtain ⟨x6, hx6, H⟩ := bind_some' H
        rcases ite_some H with ⟨hx8, H⟩ | ⟨hx8, H⟩
        · obtain ⟨x9, hx9, H⟩ := bind_some' H
          refine K_reg [.b true, .r (B x6) [], .m, .b true, .r (B x9) [], .m, .m] [decide (x1.2 = 0) = true, evF X k n_keep_Ints [(.one (.d (.list (x1.1.map (D.int .i64))))), (.one (.d (.list (([0, 2, 4, 7] : List Int).map (D.int .i64)))))] [] = some ((B x6), []), ([.cells [.d (.int .i64 x3.1), .d (.int .i64 x3.2.1)]] : Heap) = [.cells [.d (.int .i64 x3.1), .d (.int .i64 x3.2.1)]], (x6 && decide (x2.2 = 0)) = true, evF X k n_keep_Ints [(.one (.d (.list (x2.1.map (D.int .i64))))), (.one (.d (.list (([(-35), (-7), 42] : List Int).map (D.int .i64)))))] [] = some ((B x9), []), ([.cells [.d (.int .i64 x3.1), .d (.int .i64 x3.2.1)]] : Heap) = [.cells [.d (.int .i64 x3.1), .d (.int .i64 x3.2.1)]], ([.cells [.d (.int .i64 x3.1), .d (.int .i64 x3.2.1)]] : Heap) = [.cells [.d (.int .i64 x3.1), .d (.int .i64 x3.2.1)]]] ⟨[(0, (B ((x9 && decide (x3.2.2 = 0)) && (decide (x3.1 = 34) && (decide (x3.2.1 = 1) && true)))))], []⟩ (by kernel_rfl) (AC (decide_eq_true hx5) (AC (T_keep_Ints_ok k x1.1 ([0, 2, 4, 7] : List Int) x6 hx6) (AC rfl (AC hx8 (AC (T_keep_Ints_ok k x2.1 ([(-35), (-7), 42] : List Int) x9 hx9) (AC rfl (A1 rfl))))))) ?_
          cases H
          exact K_end rfl
        · refine K_reg [.b true, .r (B x6) [], .m, .b false, .b false, .b false] [decide (x1.2 = 0) = true, evF X k n_keep_Ints [(.one (.d (.list (x1.1.map (D.int .i64))))), (.one (.d (.list (([0, 2, 4, 7] : List Int).map (D.int .i64)))))] [] = some ((B x6), []), ([.cells [.d (.int .i64 x3.1), .d (.int .i64 x3.2.1)]] : Heap) = [.cells [.d (.int .i64 x3.1), .d (.int .i64 x3.2.1)]], (x6 && decide (x2.2 = 0)) = false, false = false, false = false] ⟨[(0, (B false))], []⟩ (by kernel_rfl) (AC (decide_eq_true hx5) (AC (T_keep_Ints_ok k x1.1 ([0, 2, 4, 7] : List Int) x6 hx6) (AC rfl (AC (Bool.eq_false_iff.2 hx8) (AC rfl (A1 rfl)))))) ?_
          cases H
          exact K_end rfl
      · refine K_reg [.b false, .b false, .b false, .b false, .b false] [decide (x1.2 = 0) = false, false = false, false = false, false = false, false = false] ⟨[(0, (B false))], []⟩ (by kernel_rfl) (AC (decide_eq_false hx5) (AC rfl (AC rfl (AC rfl (A1 rfl))))) ?_
        cases H
        exact K_end rfl
    refine K_gh ⟨[(0, (B x10))], []⟩ (by kernel_rfl) ?_
    cases H
    refine K_ret ?_
    kernel_rfl
def T_law18_PiecesFiner (k : Nat) (p1 : List Int) : Option Bool := match k with
  | 0 => none
  | k + 1 => ((T_keep_New k p1).bind fun x1 => (T_keep_Src_Pair k ((p1.drop 0).take ((imin (p1.length : Int) 2000).toNat - 0)) 0).bind fun x2 => (T_keep_Src_Range k 1 (w64 ((imin 8 (x2.1.length : Int)).tdiv 2)) ((p1.drop 0).take ((imin (p1.length : Int) 2000).toNat - 0)) x2.2.2).bind fun x3 => (T_pieces_Lower k x2.1 x2.2.1 x3.1).bind fun x4 => (T_pieces_Lower k x2.1 x2.2.1 (w64 (2 * x3.1))).bind fun x5 => (T_pieces_Shifted k x2.1 x2.2.1 x3.1).bind fun x6 => (T_pieces_Shifted k x2.1 x2.2.1 (w64 (2 * x3.1))).bind fun x7 => ((if (((decide (x4.2.2 = 0) && decide (x5.2.2 = 0)) && decide (x6.2.2 = 0)) && decide (x7.2.2 = 0)) = true then ((T_ref01_Cmp k x4.1 x4.2.1 x5.1 x5.2.1).bind fun x10 => (if x10 ≤ 0 then ((T_ref01_Cmp k x6.1 x6.2.1 x7.1 x7.2.1).bind fun x13 => (if x13 ≤ 0 then ((T_ref01_Valid k x5.1 x5.2.1).bind fun x16 => (if x16 = true then ((T_ref01_Valid k x7.1 x7.2.1).bind fun x19 => (if x19 = true then ((T_law18_awake k).bind fun x22 => some x22) else some false)) else some false)) else some false)) else some false)) else some false)).bind fun x23 => some x23)
theorem T_law18_PiecesFiner_ok (k : Nat) (p1 : List Int) (r : Bool) : T_law18_PiecesFiner k p1 = some r → evF X k n_law18_PiecesFiner [(.one (.d (.list (p1.map (D.int .i64)))))] [] = some ((B r), []) := by
  intro H
  cases k with
  | zero => simp [T_law18_PiecesFiner] at H
  | succ k =>
    simp only [T_law18_PiecesFiner] at H
    refine F_in X_law18_PiecesFiner rfl ?_
    refine K_seq ?_
    refine K_reg [] [] ⟨[(0, (.one (.d (.list (p1.map (D.int .i64))))))], []⟩ (by kernel_rfl) trivial ?_
    refine K_seq ?_
    obtain ⟨x1, hx1, H⟩ := bind_some' H
    refine K_reg [.r (.one (.ptr 0 0 0)) [.cells [.d (.list (((p1.drop 0).take ((imin (p1.length : Int) 2000).toNat - 0)).map (D.int .i64))), .d (.int .i64 0)]]] [evF X k n_keep_New [(.one (.d (.list (p1.map (D.int .i64)))))] [] = some ((.one (.ptr 0 0 0)), [.cells [.d (.list (((p1.drop 0).take ((imin (p1.length : Int) 2000).toNat - 0)).map (D.int .i64))), .d (.int .i64 0)]])] ⟨[(3, (.one (.ptr 0 0 0)))], [.cells [.d (.list (((p1.drop 0).take ((imin (p1.length : Int) 2000).toNat - 0)).map (D.int .i64))), .d (.int .i64 0)]]⟩ (by kernel_rfl) (A1 (T_keep_New_ok k p1 x1 hx1)) ?_
    refine K_seq ?_
    obtain ⟨x2, hx2, H⟩ := bind_some' H
    refine K_reg [.r (.tup [(false, [.d (.list (x2.1.map (D.int .i64)))]), (false, [.d (.list (x2.2.1.map (D.int .i64)))])]) [.cells [.d (.list (((p1.drop 0).take ((imin (p1.length : Int) 2000).toNat - 0)).map (D.int .i64))), .d (.int .i64 x2.2.2)]]] [evF X k n_keep_Src_Pair [(.one (.ptr 0 0 0))] [.cells [.d (.list (((p1.drop 0).take ((imin (p1.length : Int) 2000).toNat - 0)).map (D.int .i64))), .d (.int .i64 0)]] = some ((.tup [(false, [.d (.list (x2.1.map (D.int .i64)))]), (false, [.d (.list (x2.2.1.map (D.int .i64)))])]), [.cells [.d (.list (((p1.drop 0).take ((imin (p1.length : Int) 2000).toNat - 0)).map (D.int .i64))), .d (.int .i64 x2.2.2)]])] ⟨[(3, (.one (.ptr 0 0 0))), (4, (.one (.d (.list (x2.1.map (D.int .i64)))))), (5, (.one (.d (.list (x2.2.1.map (D.int .i64))))))], [.cells [.d (.list (((p1.drop 0).take ((imin (p1.length : Int) 2000).toNat - 0)).map (D.int .i64))), .d (.int .i64 x2.2.2)]]⟩ (by kernel_rfl) (A1 (T_keep_Src_Pair_ok k ((p1.drop 0).take ((imin (p1.length : Int) 2000).toNat - 0)) 0 x2 hx2)) ?_
    refine K_seq ?_
    obtain ⟨x3, hx3, H⟩ := bind_some' H
    refine K_reg [.n x2.1.length, .r (I x3.1) [.cells [.d (.list (((p1.drop 0).take ((imin (p1.length : Int) 2000).toNat - 0)).map (D.int .i64))), .d (.int .i64 x3.2)]]] [((x2.1.map (D.int .i64))).length = x2.1.length, 2 ≠ (0 : Int), evF X k n_keep_Src_Range [(.one (.ptr 0 0 0)), (I 1), (I (w64 ((imin 8 (x2.1.length : Int)).tdiv 2)))] [.cells [.d (.list (((p1.drop 0).take ((imin (p1.length : Int) 2000).toNat - 0)).map (D.int .i64))), .d (.int .i64 x2.2.2)]] = some ((I x3.1), [.cells [.d (.list (((p1.drop 0).take ((imin (p1.length : Int) 2000).toNat - 0)).map (D.int .i64))), .d (.int .i64 x3.2)]])] ⟨[(4, (.one (.d (.list (x2.1.map (D.int .i64)))))), (5, (.one (.d (.list (x2.2.1.map (D.int .i64)))))), (6, (I x3.1))], []⟩ (by kernel_rfl) (AC (List.length_map _) (AC (by decide) (A1 (T_keep_Src_Range_ok k 1 (w64 ((imin 8 (x2.1.length : Int)).tdiv 2)) ((p1.drop 0).take ((imin (p1.length : Int) 2000).toNat - 0)) x2.2.2 x3 hx3)))) ?_
    refine K_seq ?_
    obtain ⟨x4, hx4, H⟩ := bind_some' H
    refine K_reg [.r (.tup [(true, [.d (.int .i64 x4.1), .d (.int .i64 x4.2.1)]), (false, [.d (.int .i64 x4.2.2)])]) []] [evF X k n_pieces_Lower [(.one (.d (.list (x2.1.map (D.int .i64))))), (.one (.d (.list (x2.2.1.map (D.int .i64))))), (I x3.1)] [] = some ((.tup [(true, [.d (.int .i64 x4.1), .d (.int .i64 x4.2.1)]), (false, [.d (.int .i64 x4.2.2)])]), [])] ⟨[(4, (.one (.d (.list (x2.1.map (D.int .i64)))))), (5, (.one (.d (.list (x2.2.1.map (D.int .i64)))))), (6, (I x3.1)), (7, (.one (.ptr 0 0 0))), (8, (I x4.2.2))], [.cells [.d (.int .i64 x4.1), .d (.int .i64 x4.2.1)]]⟩ (by kernel_rfl) (A1 (T_pieces_Lower_ok k x2.1 x2.2.1 x3.1 x4 hx4)) ?_
    refine K_seq ?_
    obtain ⟨x5, hx5, H⟩ := bind_some' H
    refine K_reg [.r (.tup [(true, [.d (.int .i64 x5.1), .d (.int .i64 x5.2.1)]), (false, [.d (.int .i64 x5.2.2)])]) []] [evF X k n_pieces_Lower [(.one (.d (.list (x2.1.map (D.int .i64))))), (.one (.d (.list (x2.2.1.map (D.int .i64))))), (I (w64 (2 * x3.1)))] [] = some ((.tup [(true, [.d (.int .i64 x5.1), .d (.int .i64 x5.2.1)]), (false, [.d (.int .i64 x5.2.2)])]), [])] ⟨[(4, (.one (.d (.list (x2.1.map (D.int .i64)))))), (5, (.one (.d (.list (x2.2.1.map (D.int .i64)))))), (6, (I x3.1)), (7, (.one (.ptr 0 0 0))), (8, (I x4.2.2)), (9, (.one (.ptr 1 0 0))), (10, (I x5.2.2))], [.cells [.d (.int .i64 x4.1), .d (.int .i64 x4.2.1)], .cells [.d (.int .i64 x5.1), .d (.int .i64 x5.2.1)]]⟩ (by kernel_rfl) (A1 (T_pieces_Lower_ok k x2.1 x2.2.1 (w64 (2 * x3.1)) x5 hx5)) ?_
    refine K_seq ?_
    obtain ⟨x6, hx6, H⟩ := bind_some' H
    refine K_reg [.r (.tup [(true, [.d (.int .i64 x6.1), .d (.int .i64 x6.2.1)]), (false, [.d (.int .i64 x6.2.2)])]) []] [evF X k n_pieces_Shifted [(.one (.d (.list (x2.1.map (D.int .i64))))), (.one (.d (.list (x2.2.1.map (D.int .i64))))), (I x3.1)] [] = some ((.tup [(true, [.d (.int .i64 x6.1), .d (.int .i64 x6.2.1)]), (false, [.d (.int .i64 x6.2.2)])]), [])] ⟨[(4, (.one (.d (.list (x2.1.map (D.int .i64)))))), (5, (.one (.d (.list (x2.2.1.map (D.int .i64)))))), (6, (I x3.1)), (7, (.one (.ptr 0 0 0))), (8, (I x4.2.2)), (9, (.one (.ptr 1 0 0))), (10, (I x5.2.2)), (11, (.one (.ptr 2 0 0))), (12, (I x6.2.2))], [.cells [.d (.int .i64 x4.1), .d (.int .i64 x4.2.1)], .cells [.d (.int .i64 x5.1), .d (.int .i64 x5.2.1)], .cells [.d (.int .i64 x6.1), .d (.int .i64 x6.2.1)]]⟩ (by kernel_rfl) (A1 (T_pieces_Shifted_ok k x2.1 x2.2.1 x3.1 x6 hx6)) ?_
    refine K_seq ?_
    obtain ⟨x7, hx7, H⟩ := bind_some' H
    refine K_reg [.r (.tup [(true, [.d (.int .i64 x7.1), .d (.int .i64 x7.2.1)]), (false, [.d (.int .i64 x7.2.2)])]) []] [evF X k n_pieces_Shifted [(.one (.d (.list (x2.1.map (D.int .i64))))), (.one (.d (.list (x2.2.1.map (D.int .i64))))), (I (w64 (2 * x3.1)))] [] = some ((.tup [(true, [.d (.int .i64 x7.1), .d (.int .i64 x7.2.1)]), (false, [.d (.int .i64 x7.2.2)])]), [])] ⟨[(7, (.one (.ptr 0 0 0))), (8, (I x4.2.2)), (9, (.one (.ptr 1 0 0))), (10, (I x5.2.2)), (11, (.one (.ptr 2 0 0))), (12, (I x6.2.2)), (13, (.one (.ptr 3 0 0))), (14, (I x7.2.2))], [.cells [.d (.int .i64 x4.1), .d (.int .i64 x4.2.1)], .cells [.d (.int .i64 x5.1), .d (.int .i64 x5.2.1)], .cells [.d (.int .i64 x6.1), .d (.int .i64 x6.2.1)], .cells [.d (.int .i64 x7.1), .d (.int .i64 x7.2.1)]]⟩ (by kernel_rfl) (A1 (T_pieces_Shifted_ok k x2.1 x2.2.1 (w64 (2 * x3.1)) x7 hx7)) ?_
    refine K_seq ?_
    obtain ⟨x23, hx23, H⟩ := bind_some' H
    refine K_of ⟨[(2, (B x23))], []⟩ ?_ ?_
    · clear H; have H := hx23; clear hx23; refine K_in ?_
      rcases ite_some H with ⟨hx9, H⟩ | ⟨hx9, H⟩
      · obtain ⟨x10, hx10, H⟩ := bind_some' H
        rcases ite_some H with ⟨hx12, H⟩ | ⟨hx12, H⟩
        · obtain ⟨x13, hx13, H⟩ := bind_some' H
          rcases ite_some H with ⟨hx15, H⟩ | ⟨hx15, H⟩
          · obtain ⟨x16, hx16, H⟩ := bind_some' H
            rcases ite_some H with ⟨hx18, H⟩ | ⟨hx18, H⟩
            · obtain ⟨x19, hx19, H⟩ := bind_some' H
              rcases ite_some H with ⟨hx21, H⟩ | ⟨hx21, H⟩
              · obtain ⟨x22, hx22, H⟩ := bind_some' H
                refine K_reg [.m, .m, .m, .b true, .r (I x10) [], .b true, .r (I x13) [], .b true, .r (B x16) [], .b true, .r (B x19) [], .b true, .r (B x22) []] [([.cells [.d (.int .i64 x4.1), .d (.int .i64 x4.2.1)], .cells [.d (.int .i64 x5.1), .d (.int .i64 x5.2.1)], .cells [.d (.int .i64 x6.1), .d (.int .i64 x6.2.1)], .cells [.d (.int .i64 x7.1), .d (.int .i64 x7.2.1)]] : Heap) = [.cells [.d (.int .i64 x4.1), .d (.int .i64 x4.2.1)], .cells [.d (.int .i64 x5.1), .d (.int .i64 x5.2.1)], .cells [.d (.int .i64 x6.1), .d (.int .i64 x6.2.1)], .cells [.d (.int .i64 x7.1), .d (.int .i64 x7.2.1)]], ([.cells [.d (.int .i64 x4.1), .d (.int .i64 x4.2.1)], .cells [.d (.int .i64 x5.1), .d (.int .i64 x5.2.1)], .cells [.d (.int .i64 x6.1), .d (.int .i64 x6.2.1)], .cells [.d (.int .i64 x7.1), .d (.int .i64 x7.2.1)]] : Heap) = [.cells [.d (.int .i64 x4.1), .d (.int .i64 x4.2.1)], .cells [.d (.int .i64 x5.1), .d (.int .i64 x5.2.1)], .cells [.d (.int .i64 x6.1), .d (.int .i64 x6.2.1)], .cells [.d (.int .i64 x7.1), .d (.int .i64 x7.2.1)]], ([.cells [.d (.int .i64 x4.1), .d (.int .i64 x4.2.1)], .cells [.d (.int .i64 x5.1), .d (.int .i64 x5.2.1)], .cells [.d (.int .i64 x6.1), .d (.int .i64 x6.2.1)], .cells [.d (.int .i64 x7.1), .d (.int .i64 x7.2.1)]] : Heap) = [.cells [.d (.int .i64 x4.1), .d (.int .i64 x4.2.1)], .cells [.d (.int .i64 x5.1), .d (.int .i64 x5.2.1)], .cells [.d (.int .i64 x6.1), .d (.int .i64 x6.2.1)], .cells [.d (.int .i64 x7.1), .d (.int .i64 x7.2.1)]], (((decide (x4.2.2 = 0) && decide (x5.2.2 = 0)) && decide (x6.2.2 = 0)) && decide (x7.2.2 = 0)) = true, evF X k n_ref01_Cmp [(.agg [.d (.int .i64 x4.1), .d (.int .i64 x4.2.1)]), (.agg [.d (.int .i64 x5.1), .d (.int .i64 x5.2.1)])] [] = some ((I x10), []), decide (x10 ≤ 0) = true, evF X k n_ref01_Cmp [(.agg [.d (.int .i64 x6.1), .d (.int .i64 x6.2.1)]), (.agg [.d (.int .i64 x7.1), .d (.int .i64 x7.2.1)])] [] = some ((I x13), []), decide (x13 ≤ 0) = true, evF X k n_ref01_Valid [(.agg [.d (.int .i64 x5.1), .d (.int .i64 x5.2.1)])] [] = some ((B x16), []), x16 = true, evF X k n_ref01_Valid [(.agg [.d (.int .i64 x7.1), .d (.int .i64 x7.2.1)])] [] = some ((B x19), []), x19 = true, evF X k n_law18_awake [] [] = some ((B x22), [])] ⟨[(2, (B x22))], []⟩ (by kernel_rfl) (AC rfl (AC rfl (AC rfl (AC hx9 (AC (T_ref01_Cmp_ok k x4.1 x4.2.1 x5.1 x5.2.1 x10 hx10) (AC (decide_eq_true hx12) (AC (T_ref01_Cmp_ok k x6.1 x6.2.1 x7.1 x7.2.1 x13 hx13) (AC (decide_eq_true hx15) (AC (T_ref01_Valid_ok k x5.1 x5.2.1 x16 hx16) (AC hx18 (AC (T_ref01_Valid_ok k x7.1 x7.2.1 x19 hx19) (AC hx21 (A1 (T_law18_awake_ok k x22 hx22)))))))))))))) ?_
                cases H
                exact K_end rfl
              · refine K_reg [.m, .m, .m, .b true, .r (I x10) [], .b true, .r (I x13) [], .b true, .r (B x16) [], .b true, .r (B x19) [], .b false] [([.cells [.d (.int .i64 x4.1), .d (.int .i64 x4.2.1)], .cells [.d (.int .i64 x5.1), .d (.int .i64 x5.2.1)], .cells [.d (.int .i64 x6.1), .d (.int .i64 x6.2.1)], .cells [.d (.int .i64 x7.1), .d (.int .i64 x7.2.1)]] : Heap) = [.cells [.d (.int .i64 x4.1), .d (.int .i64 x4.2.1)], .cells [.d (.int .i64 x5.1), .d (.int .i64 x5.2.1)], .cells [.d (.int .i64 x6.1), .d (.int .i64 x6.2.1)], .cells [.d (.int .i64 x7.1), .d (.int .i64 x7.2.1)]], ([.cells [.d (.int .i64 x4.1), .d (.int .i64 x4.2.1)], .cells [.d (.int .i64 x5.1), .d (.int .i64 x5.2.1)], .cells [.d (.int .i64 x6.1), .d (.int .i64 x6.2.1)], .cells [.d (.int .i64 x7.1), .d (.int .i64 x7.2.1)]] : Heap) = [.cells [.d (.int .i64 x4.1), .d (.int .i64 x4.2.1)], .cells [.d (.int .i64 x5.1), .d (.int .i64 x5.2.1)], .cells [.d (.int .i64 x6.1), .d (.int .i64 x6.2.1)], .cells [.d (.int .i64 x7.1), .d (.int .i64 x7.2.1)]], ([.cells [.d (.int .i64 x4.1), .d (.int .i64 x4.2.1)], .cells [.d (.int .i64 x5.1), .d (.int .i64 x5.2.1)], .cells [.d (.int .i64 x6.1), .d (.int .i64 x6.2.1)], .cells [.d (.int .i64 x7.1), .d (.int .i64 x7.2.1)]] : Heap) = [.cells [.d (.int .i64 x4.1), .d (.int .i64 x4.2.1)], .cells [.d (.int .i64 x5.1), .d (.int .i64 x5.2.1)], .cells [.d (.int .i64 x6.1), .d (.int .i64 x6.2.1)], .cells [.d (.int .i64 x7.1), .d (.int .i64 x7.2.1)]], (((decide (x4.2.2 = 0) && decide (x5.2.2 = 0)) && decide (x6.2.2 = 0)) && decide (x7.2.2 = 0)) = true, evF X k n_ref01_Cmp [(.agg [.d (.int .i64 x4.1), .d (.int .i64 x4.2.1)]), (.agg [.d (.int .i64 x5.1), .d (.int .i64 x5.2.1)])] [] = some ((I x10), []), decide (x10 ≤ 0) = true, evF X k n_ref01_Cmp [(.agg [.d (.int .i64 x6.1), .d (.int .i64 x6.2.1)]), (.agg [.d (.int .i64 x7.1), .d (.int .i64 x7.2.1)])] [] = some ((I x13), []), decide (x13 ≤ 0) = true, evF X k n_ref01_Valid [(.agg [.d (.int .i64 x5.1), .d (.int .i64 x5.2.1)])] [] = some ((B x16), []), x16 = true, evF X k n_ref01_Valid [(.agg [.d (.int .i64 x7.1), .d (.int .i64 x7.2.1)])] [] = some ((B x19), []), x19 = false] ⟨[(2, (B false))], []⟩ (by kernel_rfl) (AC rfl (AC rfl (AC rfl (AC hx9 (AC (T_ref01_Cmp_ok k x4.1 x4.2.1 x5.1 x5.2.1 x10 hx10) (AC (decide_eq_true hx12) (AC (T_ref01_Cmp_ok k x6.1 x6.2.1 x7.1 x7.2.1 x13 hx13) (AC (decide_eq_true hx15) (AC (T_ref01_Valid_ok k x5.1 x5.2.1 x16 hx16) (AC hx18 (AC (T_ref01_Valid_ok k x7.1 x7.2.1 x19 hx19) (A1 (Bool.eq_false_iff.2 hx21))))))))))))) ?_
                cases H
                exact K_end rfl
            · refine K_reg [.m, .m, .m, .b true, .r (I x10) [], .b true, .r (I x13) [], .b true, .r (B x16) [], .b false, .b false] [([.cells [.d (.int .i64 x4.1), .d (.int .i64 x4.2.1)], .cells [.d (.int .i64 x5.1), .d (.int .i64 x5.2.1)], .cells [.d (.int .i64 x6.1), .d (.int .i64 x6.2.1)], .cells [.d (.int .i64 x7.1), .d (.int .i64 x7.2.1)]] : Heap) = [.cells [.d (.int .i64 x4.1), .d (.int .i64 x4.2.1)], .cells [.d (.int .i64 x5.1), .d (.int .i64 x5.2.1)], .cells [.d (.int .i64 x6.1), .d (.int .i64 x6.2.1)], .cells [.d (.int .i64 x7.1), .d (.int .i64 x7.2.1)]], ([.cells [.d (.int .i64 x4.1), .d (.int .i64 x4.2.1)], .cells [.d (.int .i64 x5.1), .d (.int .i64 x5.2.1)], .cells [.d (.int .i64 x6.1), .d (.int .i64 x6.2.1)], .cells [.d (.int .i64 x7.1), .d (.int .i64 x7.2.1)]] : Heap) = [.cells [.d (.int .i64 x4.1), .d (.int .i64 x4.2.1)], .cells [.d (.int .i64 x5.1), .d (.int .i64 x5.2.1)], .cells [.d (.int .i64 x6.1), .d (.int .i64 x6.2.1)], .cells [.d (.int .i64 x7.1), .d (.int .i64 x7.2.1)]], ([.cells [.d (.int .i64 x4.1), .d (.int .i64 x4.2.1)], .cells [.d (.int .i64 x5.1), .d (.int .i64 x5.2.1)], .cells [.d (.int .i64 x6.1), .d (.int .i64 x6.2.1)], .cells [.d (.int .i64 x7.1), .d (.int .i64 x7.2.1)]] : Heap) = [.cells [.d (.int .i64 x4.1), .d (.int .i64 x4.2.1)], .cells [.d (.int .i64 x5.1), .d (.int .i64 x5.2.1)], .cells [.d (.int .i64 x6.1), .d (.int .i64 x6.2.1)], .cells [.d (.int .i64 x7.1), .d (.int .i64 x7.2.1)]], (((decide (x4.2.2 = 0) && decide (x5.2.2 = 0)) && decide (x6.2.2 = 0)) && decide (x7.2.2 = 0)) = true, evF X k n_ref01_Cmp [(.agg [.d (.int .i64 x4.1), .d (.int .i64 x4.2.1)]), (.agg [.d (.int .i64 x5.1), .d (.int .i64 x5.2.1)])] [] = some ((I x10), []), decide (x10 ≤ 0) = true, evF X k n_ref01_Cmp [(.agg [.d (.int .i64 x6.1), .d (.int .i64 x6.2.1)]), (.agg [.d (.int .i64 x7.1), .d (.int .i64 x7.2.1)])] [] = some ((I x13), []), decide (x13 ≤ 0) = true, evF X k n_ref01_Valid [(.agg [.d (.int .i64 x5.1), .d (.int .i64 x5.2.1)])] [] = some ((B x16), []), x16 = false, false = false] ⟨[(2, (B false))], []⟩ (by kernel_rfl) (AC rfl (AC rfl (AC rfl (AC hx9 (AC (T_ref01_Cmp_ok k x4.1 x4.2.1 x5.1 x5.2.1 x10 hx10) (AC (decide_eq_true hx12) (AC (T_ref01_Cmp_ok k x6.1 x6.2.1 x7.1 x7.2.1 x13 hx13) (AC (decide_eq_true hx15) (AC (T_ref01_Valid_ok k x5.1 x5.2.1 x16 hx16) (AC (Bool.eq_false_iff.2 hx18) (A1 rfl))))))))))) ?_
              cases H
              exact K_end rfl
          · refine K_reg [.m, .m, .m, .b true, .r (I x10) [], .b true, .r (I x13) [], .b false, .b false, .b false] [([.cells [.d (.int .i64 x4.1), .d (.int .i64 x4.2.1)], .cells [.d (.int .i64 x5.1), .d (.int .i64 x5.2.1)], .cells [.d (.int .i64 x6.1), .d (.int .i64 x6.2.1)], .cells [.d (.int .i64 x7.1), .d (.int .i64 x7.2.1)]] : Heap) = [.cells [.d (.int .i64 x4.1), .d (.int .i64 x4.2.1)], .cells [.d (.int .i64 x5.1), .d (.int .i64 x5.2.1)], .cells [.d (.int .i64 x6.1), .d (.int .i64 x6.2.1)], .cells [.d (.int .i64 x7.1), .d (.int .i64 x7.2.1)]], ([.cells [.d (.int .i64 x4.1), .d (.int .i64 x4.2.1)], .cells [.d (.int .i64 x5.1), .d (.int .i64 x5.2.1)], .cells [.d (.int .i64 x6.1), .d (.int .i64 x6.2.1)], .cells [.d (.int .i64 x7.1), .d (.int .i64 x7.2.1)]] : Heap) = [.cells [.d (.int .i64 x4.1), .d (.int .i64 x4.2.1)], .cells [.d (.int .i64 x5.1), .d (.int .i64 x5.2.1)], .cells [.d (.int .i64 x6.1), .d (.int .i64 x6.2.1)], .cells [.d (.int .i64 x7.1), .d (.int .i64 x7.2.1)]], ([.cells [.d (.int .i64 x4.1), .d (.int .i64 x4.2.1)], .cells [.d (.int .i64 x5.1), .d (.int .i64 x5.2.1)], .cells [.d (.int .i64 x6.1), .d (.int .i64 x6.2.1)], .cells [.d (.int .i64 x7.1), .d (.int .i64 x7.2.1)]] : Heap) = [.cells [.d (.int .i64 x4.1), .d (.int .i64 x4.2.1)], .cells [.d (.int .i64 x5.1), .d (.int .i64 x5.2.1)], .cells [.d (.int .i64 x6.1), .d (.int .i64 x6.2.1)], .cells [.d (.int .i64 x7.1), .d (.int .i64 x7.2.1)]], (((decide (x4.2.2 = 0) && decide (x5.2.2 = 0)) && decide (x6.2.2 = 0)) && decide (x7.2.2 = 0)) = true, evF X k n_ref01_Cmp [(.agg [.d (.int .i64 x4.1), .d (.int .i64 x4.2.1)]), (.agg [.d (.int .i64 x5.1), .d (.int .i64 x5.2.1)])] [] = some ((I x10), []), decide (x10 ≤ 0) = true, evF X k n_ref01_Cmp [(.agg [.d (.int .i64 x6.1), .d (.int .i64 x6.2.1)]), (.agg [.d (.int .i64 x7.1), .d (.int .i64 x7.2.1)])] [] = some ((I x13), []), decide (x13 ≤ 0) = false, false = false, false = false] ⟨[(2, (B false))], []⟩ (by kernel_rfl) (AC rfl (AC rfl (AC rfl (AC hx9 (AC (T_ref01_Cmp_ok k x4.1 x4.2.1 x5.1 x5.2.1 x10 hx10) (AC (decide_eq_true hx12) (AC (T_ref01_Cmp_ok k x6.1 x6.2.1 x7.1 x7.2.1 x13 hx13) (AC (decide_eq_false hx15) (AC rfl (A1 rfl)))))))))) ?_
            cases H
            exact K_end rfl
        · refine K_reg [.m, .m, .m, .b true, .r (I x10) [], .b false, .b false, .b false, .b false] [([.cells [.d (.int .i64 x4.1), .d (.int .i64 x4.2.1)], .cells [.d (.int .i64 x5.1), .d (.int .i64 x5.2.1)], .cells [.d (.int .i64 x6.1), .d (.int .i64 x6.2.1)], .cells [.d (.int .i64 x7.1), .d (.int .i64 x7.2.1)]] : Heap) = [.cells [.d (.int .i64 x4.1), .d (.int .i64 x4.2.1)], .cells [.d (.int .i64 x5.1), .d (.int .i64 x5.2.1)], .cells [.d (.int .i64 x6.1), .d (.int .i64 x6.2.1)], .cells [.d (.int .i64 x7.1), .d (.int .i64 x7.2.1)]], ([.cells [.d (.int .i64 x4.1), .d (.int .i64 x4.2.1)], .cells [.d (.int .i64 x5.1), .d (.int .i64 x5.2.1)], .cells [.d (.int .i64 x6.1), .d (.int .i64 x6.2.1)], .cells [.d (.int .i64 x7.1), .d (.int .i64 x7.2.1)]] : Heap) = [.cells [.d (.int .i64 x4.1), .d (.int .i64 x4.2.1)], .cells [.d (.int .i64 x5.1), .d (.int .i64 x5.2.1)], .cells [.d (.int .i64 x6.1), .d (.int .i64 x6.2.1)], .cells [.d (.int .i64 x7.1), .d (.int .i64 x7.2.1)]], ([.cells [.d (.int .i64 x4.1), .d (.int .i64 x4.2.1)], .cells [.d (.int .i64 x5.1), .d (.int .i64 x5.2.1)], .cells [.d (.int .i64 x6.1), .d (.int .i64 x6.2.1)], .cells [.d (.int .i64 x7.1), .d (.int .i64 x7.2.1)]] : Heap) = [.cells [.d (.int .i64 x4.1), .d (.int .i64 x4.2.1)], .cells [.d (.int .i64 x5.1), .d (.int .i64 x5.2.1)], .cells [.d (.int .i64 x6.1), .d (.int .i64 x6.2.1)], .cells [.d (.int .i64 x7.1), .d (.int .i64 x7.2.1)]], (((decide (x4.2.2 = 0) && decide (x5.2.2 = 0)) && decide (x6.2.2 = 0)) && decide (x7.2.2 = 0)) = true, evF X k n_ref01_Cmp [(.agg [.d (.int .i64 x4.1), .d (.int .i64 x4.2.1)]), (.agg [.d (.int .i64 x5.1), .d (.int .i64 x5.2.1)])] [] = some ((I x10), []), decide (x10 ≤ 0) = false, false = false, false = false, false = false] ⟨[(2, (B false))], []⟩ (by kernel_rfl) (AC rfl (AC rfl (AC rfl (AC hx9 (AC (T_ref01_Cmp_ok k x4.1 x4.2.1 x5.1 x5.2.1 x10 hx10) (AC (decide_eq_false hx12) (AC rfl (AC rfl (A1 rfl))))))))) ?_
          cases H
          exact K_end rfl
      · refine K_reg [.m, .m, .m, .b false, .b false, .b false, .b false, .b false] [([.cells [.d (.int .i64 x4.1), .d (.int .i64 x4.2.1)], .cells [.d (.int .i64 x5.1), .d (.int .i64 x5.2.1)], .cells [.d (.int .i64 x6.1), .d (.int .i64 x6.2.1)], .cells [.d (.int .i64 x7.1), .d (.int .i64 x7.2.1)]] : Heap) = [.cells [.d (.int .i64 x4.1), .d (.int .i64 x4.2.1)], .cells [.d (.int .i64 x5.1), .d (.int .i64 x5.2.1)], .cells [.d (.int .i64 x6.1), .d (.int .i64 x6.2.1)], .cells [.d (.int .i64 x7.1), .d (.int .i64 x7.2.1)]], ([.cells [.d (.int .i64 x4.1), .d (.int .i64 x4.2.1)], .cells [.d (.int .i64 x5.1), .d (.int .i64 x5.2.1)], .cells [.d (.int .i64 x6.1), .d (.int .i64 x6.2.1)], .cells [.d (.int .i64 x7.1), .d (.int .i64 x7.2.1)]] : Heap) = [.cells [.d (.int .i64 x4.1), .d (.int .i64 x4.2.1)], .cells [.d (.int .i64 x5.1), .d (.int .i64 x5.2.1)], .cells [.d (.int .i64 x6.1), .d (.int .i64 x6.2.1)], .cells [.d (.int .i64 x7.1), .d (.int .i64 x7.2.1)]], ([.cells [.d (.int .i64 x4.1), .d (.int .i64 x4.2.1)], .cells [.d (.int .i64 x5.1), .d (.int .i64 x5.2.1)], .cells [.d (.int .i64 x6.1), .d (.int .i64 x6.2.1)], .cells [.d (.int .i64 x7.1), .d (.int .i64 x7.2.1)]] : Heap) = [.cells [.d (.int .i64 x4.1), .d (.int .i64 x4.2.1)], .cells [.d (.int .i64 x5.1), .d (.int .i64 x5.2.1)], .cells [.d (.int .i64 x6.1), .d (.int .i64 x6.2.1)], .cells [.d (.int .i64 x7.1), .d (.int .i64 x7.2.1)]], (((decide (x4.2.2 = 0) && decide (x5.2.2 = 0)) && decide (x6.2.2 = 0)) && decide (x7.2.2 = 0)) = false, false = false, false = false, false = false, false = false] ⟨[(2, (B false))], []⟩ (by kernel_rfl) (AC rfl (AC rfl (AC rfl (AC (Bool.eq_false_iff.2 hx9) (AC rfl (AC rfl (AC rfl (A1 rfl)))))))) ?_
        cases H
        exact K_end rfl
    refine K_gh ⟨[(2, (B x23))], []⟩ (by kernel_rfl) ?_
    cases H
    refine K_ret ?_
    kernel_rfl
end Go.Proofs.Ytkiacebcedpljaa.piecesFiner
