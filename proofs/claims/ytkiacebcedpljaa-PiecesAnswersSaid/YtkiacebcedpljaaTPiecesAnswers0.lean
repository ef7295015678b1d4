/- What the functions that the statement PiecesAnswers reaches compute, told as functions of Lean, and that the theory's language computes the same: part 1 of 2. There are no conditions. -/
import Derived.Test.YtkiacebcedpljaaMPiecesAnswers
set_option maxRecDepth 100000
set_option linter.unusedVariables false
set_option linter.unusedSimpArgs false
namespace Go.Proofs.Ytkiacebcedpljaa.piecesAnswers
open Go
abbrev e_st0 (p : (List Int) × (List Int)) : D := .agg [.list (p.1.map (D.int .i64)), .list (p.2.map (D.int .i64))]
def T_pieces_number (k : Nat) (p1 : Int) (p2 : Int) : Option Unit := match k with
  | 0 => none
  | k + 1 => some ()
theorem T_pieces_number_ok (k : Nat) (p1 : Int) (p2 : Int) (r : Unit) : T_pieces_number k p1 p2 = some r → evF X k n_pieces_number [(I p1), (I p2)] [] = some ((B ((decide (1 ≤ p2) && decide (p2 ≤ 8)) && decide (p2 ≤ p1))), []) := by
  intro H
  cases k with
  | zero => simp [T_pieces_number] at H
  | succ k =>
    simp only [T_pieces_number] at H
    refine F_in X_pieces_number rfl ?_
    refine K_seq ?_
    refine K_reg [] [] ⟨[(0, (I p1)), (1, (I p2))], []⟩ (by kernel_rfl) trivial ?_
    refine K_seq ?_
    refine K_reg [.m, .m] [([] : Heap) = [], ([] : Heap) = []] ⟨[(4, (B ((decide (1 ≤ p2) && decide (p2 ≤ 8)) && decide (p2 ≤ p1))))], []⟩ (by kernel_rfl) (AC rfl (A1 rfl)) ?_
    refine K_gh ⟨[(4, (B ((decide (1 ≤ p2) && decide (p2 ≤ 8)) && decide (p2 ≤ p1))))], []⟩ (by kernel_rfl) ?_
    cases H
    refine K_ret ?_
    kernel_rfl
def T_pieces_all (k : Nat) (p1 : Int) (p2 : Int) : Option Unit := match k with
  | 0 => none
  | k + 1 => some ()
theorem T_pieces_all_ok (k : Nat) (p1 : Int) (p2 : Int) (r : Unit) : T_pieces_all k p1 p2 = some r → evF X k n_pieces_all [(I p1), (I p2)] [] = some ((.one (.d (.fn (.func n_pieces_all_1) [.ref [.int .i64 p2], .ref [.int .i64 p1]]))), []) := by
  intro H
  cases k with
  | zero => simp [T_pieces_all] at H
  | succ k =>
    simp only [T_pieces_all] at H
    refine F_in X_pieces_all rfl ?_
    refine K_seq ?_
    refine K_reg [] [] ⟨[(2, (.one (.ptr 0 0 0))), (3, (.one (.ptr 1 0 0)))], [.cells [.d (.int .i64 p1)], .cells [.d (.int .i64 p2)]]⟩ (by kernel_rfl) trivial ?_
    refine K_seq ?_
    refine K_reg [] [] ⟨[(4, (.one (.fn (.func n_pieces_all_1) [.d (.ref [.int .i64 p2]), .d (.ref [.int .i64 p1])])))], []⟩ (by kernel_rfl) trivial ?_
    refine K_gh ⟨[(4, (.one (.fn (.func n_pieces_all_1) [.d (.ref [.int .i64 p2]), .d (.ref [.int .i64 p1])])))], []⟩ (by kernel_rfl) ?_
    cases H
    refine K_ret ?_
    kernel_rfl
def T_pieces_Starts_r1 (k : Nat) (p1 : Int) (p2 : Int) (x10 x11 x12 : Int) (x14 : Nat × (List Int)) : Option ((Nat × (List Int)) ⊕ Unit) :=
  (if x14.1 + 1 ≤ LIM then some (.inl ((x14.1 + 1), ((x14.2.drop 0).take x14.1 ++ ([x12] : List Int)))) else none)
theorem T_pieces_Starts_r1_ok (k : Nat) (p1 : Int) (p2 : Int) : ∀ (x10 x11 x12 : Int) (x14 : Nat × (List Int)) (x : (Nat × (List Int)) ⊕ Unit), T_pieces_Starts_r1 k p1 p2 x10 x11 x12 x14 = some x → roundM (fun b' => evC X (evF X k) k b' l_pieces_Starts_r1a) (fun b' => evC X (evF X k) k b' l_pieces_Starts_r1b) 0 [23, 24] [.gc] [I x10, .agg [.d (.int .i64 x11), .d (.int .i64 x12)]] (.normal, ⟨[(4, (.one (.nil))), (5, (I 0)), (6, (.one (.ptr 0 0 0))), (22, (.one (.d (.fn (.func n_pieces_all_1) [.ref [.int .i64 p2], .ref [.int .i64 p1]]))))], [.cells [.own 1 0 x14.1], .vals (.int .i64 0) (x14.2.map (D.int .i64))]⟩) = some (Sum.elim (fun (s : Nat × (List Int)) => (true, (.normal, ⟨[(4, (.one (.nil))), (5, (I 0)), (6, (.one (.ptr 0 0 0))), (22, (.one (.d (.fn (.func n_pieces_all_1) [.ref [.int .i64 p2], .ref [.int .i64 p1]]))))], [.cells [.own 1 0 s.1], .vals (.int .i64 0) (s.2.map (D.int .i64))]⟩))) (fun (r : Unit) => (false, (.ret, ⟨[], []⟩))) x) := by
  intro x10 x11 x12 x14 x H
  unfold T_pieces_Starts_r1 at H
  refine R_as rfl ?_
  refine K_reg [] [] ⟨[(6, (.one (.ptr 0 0 0))), (8, (.one (.ptr 2 0 0)))], [.cells [.own 1 0 x14.1], .vals (.int .i64 0) (x14.2.map (D.int .i64)), .cells [.d (.int .i64 x11), .d (.int .i64 x12)]]⟩ (by kernel_rfl) trivial ?_
  refine K_end (R_body ?_)
  refine K_block ?_
  obtain ⟨hx15, H⟩ := guard_some H
  refine K_reg [.n 1, .l (((x14.2.drop 0).take x14.1 ++ ([x12] : List Int)).map (D.int .i64))] [(List.all (([x12] : List Int).map (D.int .i64)) fun d => d.cells.length == (D.cells (.int .i64 0)).length) = true, x14.1 + 1 ≤ LIM, (([x12] : List Int).map (D.int .i64)).length = 1, ((x14.2.map (D.int .i64)).drop 0).take x14.1 ++ (([x12] : List Int).map (D.int .i64)) = ((x14.2.drop 0).take x14.1 ++ ([x12] : List Int)).map (D.int .i64)] ⟨[], [.cells [.own 3 0 (x14.1 + 1)], .dead, .cells [.d (.int .i64 x11), .d (.int .i64 x12)], .vals (.int .i64 0) (((x14.2.drop 0).take x14.1 ++ ([x12] : List Int)).map (D.int .i64))]⟩ (by kernel_rfl) (AC (all_ok (D.int .i64) 1 ([x12] : List Int) (fun _ => rfl)) (AC hx15 (AC (by simp) (A1 (ap_map (D.int .i64) x14.2 ([x12] : List Int) 0 x14.1))))) ?_
  refine K_blk ?_
  cases H
  exact K_end (R_end ⟨[(4, (.one (.nil))), (5, (I 0)), (6, (.one (.ptr 0 0 0))), (22, (.one (.d (.fn (.func n_pieces_all_1) [.ref [.int .i64 p2], .ref [.int .i64 p1]]))))], [.cells [.own 1 0 (x14.1 + 1)], .vals (.int .i64 0) (((x14.2.drop 0).take x14.1 ++ ([x12] : List Int)).map (D.int .i64))]⟩ (by kernel_rfl) rfl)
def T_pieces_Starts (k : Nat) (p1 : Int) (p2 : Int) : Option ((List Int) × Int) := match k with
  | 0 => none
  | k + 1 => (if (decide (p1 < 2) || decide (32 < p1)) = true then some ([], 8) else ((T_pieces_number k p1 p2).bind fun x2 => (if (!((decide (1 ≤ p2) && decide (p2 ≤ 8)) && decide (p2 ≤ p1))) = true then some ([], 1) else ((T_pieces_all k p1 p2).bind fun x4 => (allT (T_pieces_Starts_r1 k p1 p2) p1 p2 k 0 (1, [0])).bind fun x16 => (match x16 with | .inl x17 => some (((x17.2.drop 0).take x17.1), 0) | .inr _ => none)))))
theorem T_pieces_Starts_ok (k : Nat) (p1 : Int) (p2 : Int) (r : (List Int) × Int) : T_pieces_Starts k p1 p2 = some r → evF X k n_pieces_Starts [(I p1), (I p2)] [] = some ((.tup [(false, [.d (.list (r.1.map (D.int .i64)))]), (false, [.d (.int .i64 r.2)])]), []) := by
  intro H
  cases k with
  | zero => simp [T_pieces_Starts] at H
  | succ k =>
    simp only [T_pieces_Starts] at H
    refine F_in X_pieces_Starts rfl ?_
    refine K_seq ?_
    refine K_reg [] [] ⟨[(0, (I p1)), (1, (I p2)), (4, (.one (.nil))), (5, (I 0))], []⟩ (by kernel_rfl) trivial ?_
    refine K_seq ?_
    refine K_seq ?_
    refine K_reg [.m] [([] : Heap) = []] ⟨[(0, (I p1)), (1, (I p2)), (4, (.one (.nil))), (5, (I 0)), (14, (B (decide (p1 < 2) || decide (32 < p1))))], []⟩ (by kernel_rfl) (A1 rfl) ?_
    rcases ite_some H with ⟨hx1, H⟩ | ⟨hx1, H⟩
    · refine K_t rfl hx1 ?_
      refine K_seq ?_
      refine K_reg [] [] ⟨[(4, (.one (.nil))), (5, (I 8))], []⟩ (by kernel_rfl) trivial ?_
      refine K_gh ⟨[(4, (.one (.nil))), (5, (I 8))], []⟩ (by kernel_rfl) ?_
      cases H
      refine K_ret ?_
      kernel_rfl
    · refine K_f rfl (Bool.eq_false_iff.2 hx1) ?_
      refine K_gh ⟨[(0, (I p1)), (1, (I p2)), (4, (.one (.nil))), (5, (I 0))], []⟩ (by kernel_rfl) ?_
      refine K_skip ?_
      refine K_seq ?_
      refine K_seq ?_
      obtain ⟨x2, hx2, H⟩ := bind_some' H
      refine K_reg [.r (B ((decide (1 ≤ p2) && decide (p2 ≤ 8)) && decide (p2 ≤ p1))) []] [evF X k n_pieces_number [(I p1), (I p2)] [] = some ((B ((decide (1 ≤ p2) && decide (p2 ≤ 8)) && decide (p2 ≤ p1))), [])] ⟨[(0, (I p1)), (1, (I p2)), (4, (.one (.nil))), (5, (I 0)), (18, (B (!((decide (1 ≤ p2) && decide (p2 ≤ 8)) && decide (p2 ≤ p1)))))], []⟩ (by kernel_rfl) (A1 (T_pieces_number_ok k p1 p2 x2 hx2)) ?_
      rcases ite_some H with ⟨hx3, H⟩ | ⟨hx3, H⟩
      · refine K_t rfl hx3 ?_
        refine K_seq ?_
        refine K_reg [] [] ⟨[(4, (.one (.nil))), (5, (I 1))], []⟩ (by kernel_rfl) trivial ?_
        refine K_gh ⟨[(4, (.one (.nil))), (5, (I 1))], []⟩ (by kernel_rfl) ?_
        cases H
        refine K_ret ?_
        kernel_rfl
      · refine K_f rfl (Bool.eq_false_iff.2 hx3) ?_
        refine K_gh ⟨[(0, (I p1)), (1, (I p2)), (4, (.one (.nil))), (5, (I 0))], []⟩ (by kernel_rfl) ?_
        refine K_skip ?_
        refine K_seq ?_
        refine K_reg [] [] ⟨[(0, (I p1)), (1, (I p2)), (4, (.one (.nil))), (5, (I 0)), (6, (.one (.ptr 0 0 0)))], [.cells [.own 1 0 1], .vals (.int .i64 0) ([0].map (D.int .i64))]⟩ (by kernel_rfl) trivial ?_
        refine K_seq ?_
        refine K_seq ?_
        obtain ⟨x4, hx4, H⟩ := bind_some' H
        refine K_reg [.r (.one (.d (.fn (.func n_pieces_all_1) [.ref [.int .i64 p2], .ref [.int .i64 p1]]))) []] [evF X k n_pieces_all [(I p1), (I p2)] [] = some ((.one (.d (.fn (.func n_pieces_all_1) [.ref [.int .i64 p2], .ref [.int .i64 p1]]))), [])] ⟨[(4, (.one (.nil))), (5, (I 0)), (6, (.one (.ptr 0 0 0))), (22, (.one (.d (.fn (.func n_pieces_all_1) [.ref [.int .i64 p2], .ref [.int .i64 p1]]))))], [.cells [.own 1 0 1], .vals (.int .i64 0) ([0].map (D.int .i64))]⟩ (by kernel_rfl) (A1 (T_pieces_all_ok k p1 p2 x4 hx4)) ?_
        refine K_block ?_
        obtain ⟨x16, hx16, H⟩ := bind_some' H
        cases x16 with
        | inl x17 =>
          dsimp only at H
          refine K_of ⟨[(4, (.one (.nil))), (5, (I 0)), (6, (.one (.ptr 0 0 0))), (22, (.one (.d (.fn (.func n_pieces_all_1) [.ref [.int .i64 p2], .ref [.int .i64 p1]]))))], [.cells [.own 1 0 x17.1], .vals (.int .i64 0) (x17.2.map (D.int .i64))]⟩ (range_ok (fun (s : Nat × (List Int)) => ⟨[(4, (.one (.nil))), (5, (I 0)), (6, (.one (.ptr 0 0 0))), (22, (.one (.d (.fn (.func n_pieces_all_1) [.ref [.int .i64 p2], .ref [.int .i64 p1]]))))], [.cells [.own 1 0 s.1], .vals (.int .i64 0) (s.2.map (D.int .i64))]⟩) (fun (r : Unit) => (.ret, ⟨[], []⟩)) (s := (1, [0])) (y := (.inl x17)) rfl (X_pieces_all_1 : X n_pieces_all_1 = some allM) (T_pieces_Starts_r1_ok k p1 p2) hx16) ?_
          refine K_blk ?_
          refine K_seq ?_
          refine K_reg [] [] ⟨[(4, (.one (.own 0 0 x17.1))), (5, (I 0))], [.vals (.int .i64 0) (x17.2.map (D.int .i64))]⟩ (by kernel_rfl) trivial ?_
          refine K_gh ⟨[(4, (.one (.own 0 0 x17.1))), (5, (I 0))], [.vals (.int .i64 0) (x17.2.map (D.int .i64))]⟩ (by kernel_rfl) ?_
          cases H
          refine K_ret ?_
          exact Eq.trans (b := some ((.tup [(false, [.d (.list (((x17.2.map (D.int .i64)).drop 0).take x17.1))]), (false, [.d (.int .i64 0)])]), [])) (by kernel_rfl) (by simp only [dt_map])
        | inr _ =>
          dsimp only at H
          cases H
def T_euclid_length (k : Nat) (p1 : List Int) : Option Unit := match k with
  | 0 => none
  | k + 1 => some ()
theorem T_euclid_length_ok (k : Nat) (p1 : List Int) (r : Unit) : T_euclid_length k p1 = some r → evF X k n_euclid_length [(.one (.d (.list (p1.map (D.int .i64)))))] [] = some ((B (decide (2 ≤ (p1.length : Int)) && decide ((p1.length : Int) ≤ 32))), []) := by
  intro H
  cases k with
  | zero => simp [T_euclid_length] at H
  | succ k =>
    simp only [T_euclid_length] at H
    refine F_in X_euclid_length rfl ?_
    refine K_seq ?_
    refine K_reg [] [] ⟨[(0, (.one (.d (.list (p1.map (D.int .i64))))))], []⟩ (by kernel_rfl) trivial ?_
    refine K_seq ?_
    refine K_reg [.n p1.length, .m, .n p1.length] [((p1.map (D.int .i64))).length = p1.length, decide (2 ≤ (p1.length : Int)) = true → AllT [((p1.map (D.int .i64))).length = p1.length], ([] : Heap) = []] ⟨[(2, (B (decide (2 ≤ (p1.length : Int)) && decide ((p1.length : Int) ≤ 32))))], []⟩ (by kernel_rfl) (AC (List.length_map _) (AC (fun _ => (A1 (List.length_map _))) (A1 rfl))) ?_
    refine K_gh ⟨[(2, (B (decide (2 ≤ (p1.length : Int)) && decide ((p1.length : Int) ≤ 32))))], []⟩ (by kernel_rfl) ?_
    cases H
    refine K_ret ?_
    kernel_rfl
def T_euclid_samples_l1 (k : Nat) (p1 : List Int) (x2 : Int) (x7 : Int) : Option (Int ⊕ (Unit ⊕ Unit)) :=
  (if x7 < x2 then ((at? p1 x7).bind fun x9 => (if (decide (x9 < (-1000)) || decide (1000 < x9)) = true then some (.inr (.inr ())) else some (.inl (w64 (x7 + 1))))) else some (.inr (.inl ())))
theorem T_euclid_samples_l1_ok (k : Nat) (p1 : List Int) (x2 : Int) : ∀ (x7 : Int) (x : Int ⊕ (Unit ⊕ Unit)), T_euclid_samples_l1 k p1 x2 x7 = some x → evC X (evF X k) k 0 l_euclid_samples_1 ⟨[(5, (.one (.d (.list (p1.map (D.int .i64)))))), (6, (I x2)), (7, (I x7))], []⟩ = some (outS (fun (s : Int) => ⟨[(5, (.one (.d (.list (p1.map (D.int .i64)))))), (6, (I x2)), (7, (I s))], []⟩) (fun (r : Unit ⊕ Unit) => Sum.elim (fun y => (.exit 0, ⟨[], []⟩)) (fun y => (.ret, ⟨[(2, (B false))], []⟩)) r) x) := by
  intro x7 x H
  unfold T_euclid_samples_l1 at H
  refine K_in ?_
  refine K_seq ?_
  refine K_reg [] [] ⟨[(5, (.one (.d (.list (p1.map (D.int .i64)))))), (6, (I x2)), (7, (I x7)), (8, (B (decide (x7 < x2))))], []⟩ (by kernel_rfl) trivial ?_
  refine K_seq ?_
  rcases ite_some H with ⟨hx8, H⟩ | ⟨hx8, H⟩
  · refine K_t rfl (decide_eq_true hx8) ?_
    refine K_gh ⟨[(5, (.one (.d (.list (p1.map (D.int .i64)))))), (6, (I x2)), (7, (I x7))], []⟩ (by kernel_rfl) ?_
    refine K_skip ?_
    refine K_seq ?_
    refine K_block ?_
    refine K_seq ?_
    obtain ⟨x9, hx9, H⟩ := bind_some' H
    refine K_reg [.l [.int .i64 x9]] [(0 : Int) ≤ x7 ∧ x7 < (((p1.map (D.int .i64))).length : Int), ((p1.map (D.int .i64)).getD x7.toNat (.int .i64 0)).cells = [.int .i64 x9]] ⟨[(4, (I x9)), (5, (.one (.d (.list (p1.map (D.int .i64)))))), (6, (I x2)), (7, (I x7))], []⟩ (by kernel_rfl) (AC (at_ok hx9 (D.int .i64) (.int .i64 0)).1 (A1 (at_ok hx9 (D.int .i64) (.int .i64 0)).2)) ?_
    refine K_seq ?_
    refine K_reg [.m] [([] : Heap) = []] ⟨[(5, (.one (.d (.list (p1.map (D.int .i64)))))), (6, (I x2)), (7, (I x7)), (16, (B (decide (x9 < (-1000)) || decide (1000 < x9))))], []⟩ (by kernel_rfl) (A1 rfl) ?_
    rcases ite_some H with ⟨hx10, H⟩ | ⟨hx10, H⟩
    · refine K_t rfl hx10 ?_
      refine K_seq ?_
      refine K_reg [] [] ⟨[(2, (B false))], []⟩ (by kernel_rfl) trivial ?_
      refine K_gh ⟨[(2, (B false))], []⟩ (by kernel_rfl) ?_
      cases H
      exact K_ret rfl
    · refine K_f rfl (Bool.eq_false_iff.2 hx10) ?_
      refine K_gh ⟨[(5, (.one (.d (.list (p1.map (D.int .i64)))))), (6, (I x2)), (7, (I x7))], []⟩ (by kernel_rfl) ?_
      refine K_skip ?_
      refine K_blk ?_
      refine K_reg [] [] ⟨[(5, (.one (.d (.list (p1.map (D.int .i64)))))), (6, (I x2)), (7, (I (w64 (x7 + 1))))], []⟩ (by kernel_rfl) trivial ?_
      cases H
      exact K_end rfl
  · refine K_f rfl (decide_eq_false hx8) ?_
    refine K_gh ⟨[], []⟩ (by kernel_rfl) ?_
    cases H
    exact K_exit0 rfl rfl
def T_euclid_samples (k : Nat) (p1 : List Int) : Option Bool := match k with
  | 0 => none
  | k + 1 => ((loopT (T_euclid_samples_l1 k p1 (p1.length : Int)) k 0).bind fun x11 => (match x11 with | .inl x12 => some true | .inr x13 => some false))
theorem T_euclid_samples_ok (k : Nat) (p1 : List Int) (r : Bool) : T_euclid_samples k p1 = some r → evF X k n_euclid_samples [(.one (.d (.list (p1.map (D.int .i64)))))] [] = some ((B r), []) := by
  intro H
  cases k with
  | zero => simp [T_euclid_samples] at H
  | succ k =>
    simp only [T_euclid_samples] at H
    refine F_in X_euclid_samples rfl ?_
    refine K_seq ?_
    refine K_reg [] [] ⟨[(0, (.one (.d (.list (p1.map (D.int .i64))))))], []⟩ (by kernel_rfl) trivial ?_
    refine K_seq ?_
    refine K_seq ?_
    refine K_reg [.n p1.length] [((p1.map (D.int .i64))).length = p1.length] ⟨[(5, (.one (.d (.list (p1.map (D.int .i64)))))), (6, (I (p1.length : Int))), (7, (I 0))], []⟩ (by kernel_rfl) (A1 (List.length_map _)) ?_
    refine K_block ?_
    obtain ⟨x11, hx11, H⟩ := bind_some' H
    cases x11 with
    | inl x12 =>
      dsimp only at H
      refine K_loop ⟨[], []⟩ (loop_ok (fun (s : Int) => ⟨[(5, (.one (.d (.list (p1.map (D.int .i64)))))), (6, (I (p1.length : Int))), (7, (I s))], []⟩) (fun (r : Unit ⊕ Unit) => Sum.elim (fun y => (.exit 0, ⟨[], []⟩)) (fun y => (.ret, ⟨[(2, (B false))], []⟩)) r) (fun r h => by cases r <;> cases h) (T_euclid_samples_l1_ok k p1 (p1.length : Int)) k 0 (.inl x12) hx11) rfl ?_
      refine K_seq ?_
      refine K_reg [] [] ⟨[(2, (B true))], []⟩ (by kernel_rfl) trivial ?_
      refine K_gh ⟨[(2, (B true))], []⟩ (by kernel_rfl) ?_
      cases H
      refine K_ret ?_
      kernel_rfl
    | inr x13 =>
      dsimp only at H
      cases H
      refine K_loopr ⟨[(2, (B false))], []⟩ (loop_ok (fun (s : Int) => ⟨[(5, (.one (.d (.list (p1.map (D.int .i64)))))), (6, (I (p1.length : Int))), (7, (I s))], []⟩) (fun (r : Unit ⊕ Unit) => Sum.elim (fun y => (.exit 0, ⟨[], []⟩)) (fun y => (.ret, ⟨[(2, (B false))], []⟩)) r) (fun r h => by cases r <;> cases h) (T_euclid_samples_l1_ok k p1 (p1.length : Int)) k 0 (.inr x13) hx11) ?_
      kernel_rfl
def T_euclid_check (k : Nat) (p1 : List Int) (p2 : List Int) : Option Int := match k with
  | 0 => none
  | k + 1 => ((((T_euclid_length k p1).bind fun x1 => (if (!(decide (2 ≤ (p1.length : Int)) && decide ((p1.length : Int) ≤ 32))) = true then some true else ((T_euclid_length k p2).bind fun x4 => some (!(decide (2 ≤ (p2.length : Int)) && decide ((p2.length : Int) ≤ 32))))))).bind fun x5 => (if x5 = true then some 8 else ((((T_euclid_samples k p1).bind fun x7 => (if (!x7) = true then some true else ((T_euclid_samples k p2).bind fun x10 => some (!x10))))).bind fun x11 => (if x11 = true then some 12 else (if (!decide ((p1.length : Int) = (p2.length : Int))) = true then some 8 else some 0)))))
theorem T_euclid_check_ok (k : Nat) (p1 : List Int) (p2 : List Int) (r : Int) : T_euclid_check k p1 p2 = some r → evF X k n_euclid_check [(.one (.d (.list (p1.map (D.int .i64))))), (.one (.d (.list (p2.map (D.int .i64)))))] [] = some ((I r), []) := by
  intro H
  cases k with
  | zero => simp [T_euclid_check] at H
  | succ k =>
    simp only [T_euclid_check] at H
    refine F_in X_euclid_check rfl ?_
    refine K_seq ?_
    refine K_reg [] [] ⟨[(0, (.one (.d (.list (p1.map (D.int .i64)))))), (1, (.one (.d (.list (p2.map (D.int .i64))))))], []⟩ (by kernel_rfl) trivial ?_
    refine K_seq ?_
    refine K_block ?_
    refine K_seq ?_
    obtain ⟨x5, hx5, H⟩ := bind_some' H
    refine K_of ⟨[(0, (.one (.d (.list (p1.map (D.int .i64)))))), (1, (.one (.d (.list (p2.map (D.int .i64)))))), (5, (B x5))], []⟩ ?_ ?_
    · clear H; have H := hx5; clear hx5; refine K_in ?_
      obtain ⟨x1, hx1, H⟩ := bind_some' H
      rcases ite_some H with ⟨hx3, H⟩ | ⟨hx3, H⟩
      · refine K_reg [.r (B (decide (2 ≤ (p1.length : Int)) && decide ((p1.length : Int) ≤ 32))) [], .b true] [evF X k n_euclid_length [(.one (.d (.list (p1.map (D.int .i64)))))] [] = some ((B (decide (2 ≤ (p1.length : Int)) && decide ((p1.length : Int) ≤ 32))), []), (!(decide (2 ≤ (p1.length : Int)) && decide ((p1.length : Int) ≤ 32))) = true] ⟨[(0, (.one (.d (.list (p1.map (D.int .i64)))))), (1, (.one (.d (.list (p2.map (D.int .i64)))))), (5, (B true))], []⟩ (by kernel_rfl) (AC (T_euclid_length_ok k p1 x1 hx1) (A1 hx3)) ?_
        cases H
        exact K_end rfl
      · obtain ⟨x4, hx4, H⟩ := bind_some' H
        refine K_reg [.r (B (decide (2 ≤ (p1.length : Int)) && decide ((p1.length : Int) ≤ 32))) [], .b false, .r (B (decide (2 ≤ (p2.length : Int)) && decide ((p2.length : Int) ≤ 32))) []] [evF X k n_euclid_length [(.one (.d (.list (p1.map (D.int .i64)))))] [] = some ((B (decide (2 ≤ (p1.length : Int)) && decide ((p1.length : Int) ≤ 32))), []), (!(decide (2 ≤ (p1.length : Int)) && decide ((p1.length : Int) ≤ 32))) = false, evF X k n_euclid_length [(.one (.d (.list (p2.map (D.int .i64)))))] [] = some ((B (decide (2 ≤ (p2.length : Int)) && decide ((p2.length : Int) ≤ 32))), [])] ⟨[(0, (.one (.d (.list (p1.map (D.int .i64)))))), (1, (.one (.d (.list (p2.map (D.int .i64)))))), (5, (B (!(decide (2 ≤ (p2.length : Int)) && decide ((p2.length : Int) ≤ 32)))))], []⟩ (by kernel_rfl) (AC (T_euclid_length_ok k p1 x1 hx1) (AC (Bool.eq_false_iff.2 hx3) (A1 (T_euclid_length_ok k p2 x4 hx4)))) ?_
        cases H
        exact K_end rfl
    rcases ite_some H with ⟨hx6, H⟩ | ⟨hx6, H⟩
    · refine K_t rfl hx6 ?_
      refine K_seq ?_
      refine K_reg [] [] ⟨[(4, (I 8))], []⟩ (by kernel_rfl) trivial ?_
      refine K_gh ⟨[(4, (I 8))], []⟩ (by kernel_rfl) ?_
      cases H
      refine K_ret ?_
      kernel_rfl
    · refine K_f rfl (Bool.eq_false_iff.2 hx6) ?_
      refine K_seq ?_
      obtain ⟨x11, hx11, H⟩ := bind_some' H
      refine K_of ⟨[(0, (.one (.d (.list (p1.map (D.int .i64)))))), (1, (.one (.d (.list (p2.map (D.int .i64)))))), (14, (B x11))], []⟩ ?_ ?_
      · clear H; have H := hx11; clear hx11; refine K_in ?_
        obtain ⟨x7, hx7, H⟩ := bind_some' H
        rcases ite_some H with ⟨hx9, H⟩ | ⟨hx9, H⟩
        · refine K_reg [.r (B x7) [], .b true] [evF X k n_euclid_samples [(.one (.d (.list (p1.map (D.int .i64)))))] [] = some ((B x7), []), (!x7) = true] ⟨[(0, (.one (.d (.list (p1.map (D.int .i64)))))), (1, (.one (.d (.list (p2.map (D.int .i64)))))), (14, (B true))], []⟩ (by kernel_rfl) (AC (T_euclid_samples_ok k p1 x7 hx7) (A1 hx9)) ?_
          cases H
          exact K_end rfl
        · obtain ⟨x10, hx10, H⟩ := bind_some' H
          refine K_reg [.r (B x7) [], .b false, .r (B x10) []] [evF X k n_euclid_samples [(.one (.d (.list (p1.map (D.int .i64)))))] [] = some ((B x7), []), (!x7) = false, evF X k n_euclid_samples [(.one (.d (.list (p2.map (D.int .i64)))))] [] = some ((B x10), [])] ⟨[(0, (.one (.d (.list (p1.map (D.int .i64)))))), (1, (.one (.d (.list (p2.map (D.int .i64)))))), (14, (B (!x10)))], []⟩ (by kernel_rfl) (AC (T_euclid_samples_ok k p1 x7 hx7) (AC (Bool.eq_false_iff.2 hx9) (A1 (T_euclid_samples_ok k p2 x10 hx10)))) ?_
          cases H
          exact K_end rfl
      rcases ite_some H with ⟨hx12, H⟩ | ⟨hx12, H⟩
      · refine K_t rfl hx12 ?_
        refine K_seq ?_
        refine K_reg [] [] ⟨[(4, (I 12))], []⟩ (by kernel_rfl) trivial ?_
        refine K_gh ⟨[(4, (I 12))], []⟩ (by kernel_rfl) ?_
        cases H
        refine K_ret ?_
        kernel_rfl
      · refine K_f rfl (Bool.eq_false_iff.2 hx12) ?_
        refine K_seq ?_
        refine K_reg [.n p1.length, .n p2.length] [((p1.map (D.int .i64))).length = p1.length, ((p2.map (D.int .i64))).length = p2.length] ⟨[(23, (B (!decide ((p1.length : Int) = (p2.length : Int)))))], []⟩ (by kernel_rfl) (AC (List.length_map _) (A1 (List.length_map _))) ?_
        rcases ite_some H with ⟨hx13, H⟩ | ⟨hx13, H⟩
        · refine K_t rfl hx13 ?_
          refine K_seq ?_
          refine K_reg [] [] ⟨[(4, (I 8))], []⟩ (by kernel_rfl) trivial ?_
          refine K_gh ⟨[(4, (I 8))], []⟩ (by kernel_rfl) ?_
          cases H
          refine K_ret ?_
          kernel_rfl
        · refine K_f rfl (Bool.eq_false_iff.2 hx13) ?_
          refine K_gh ⟨[], []⟩ (by kernel_rfl) ?_
          refine K_skip ?_
          refine K_blk ?_
          refine K_seq ?_
          refine K_reg [] [] ⟨[(4, (I 0))], []⟩ (by kernel_rfl) trivial ?_
          refine K_gh ⟨[(4, (I 0))], []⟩ (by kernel_rfl) ?_
          cases H
          refine K_ret ?_
          kernel_rfl
def T_euclid_square_l1 (k : Nat) (p1 : List Int) (p2 : List Int) (x4 : Int) (x9 : Int × Int) : Option ((Int × Int) ⊕ Int) :=
  (if x9.2 < x4 then ((at? p1 x9.2).bind fun x11 => (at? p2 x9.2).bind fun x12 => some (.inl ((w64 (x9.1 + (w64 ((w64 (x11 - x12)) * (w64 (x11 - x12)))))), (w64 (x9.2 + 1))))) else some (.inr x9.1))
theorem T_euclid_square_l1_ok (k : Nat) (p1 : List Int) (p2 : List Int) (x4 : Int) : ∀ (x9 : Int × Int) (x : (Int × Int) ⊕ Int), T_euclid_square_l1 k p1 p2 x4 x9 = some x → evC X (evF X k) k 0 l_euclid_square_1 ⟨[(1, (.one (.d (.list (p2.map (D.int .i64)))))), (5, (I x9.1)), (8, (.one (.d (.list (p1.map (D.int .i64)))))), (9, (I x4)), (10, (I x9.2))], []⟩ = some (outS (fun (s : Int × Int) => ⟨[(1, (.one (.d (.list (p2.map (D.int .i64)))))), (5, (I s.1)), (8, (.one (.d (.list (p1.map (D.int .i64)))))), (9, (I x4)), (10, (I s.2))], []⟩) (fun (r : Int) => (.exit 0, ⟨[(5, (I r))], []⟩)) x) := by
  intro x9 x H
  unfold T_euclid_square_l1 at H
  refine K_in ?_
  refine K_seq ?_
  refine K_reg [] [] ⟨[(1, (.one (.d (.list (p2.map (D.int .i64)))))), (5, (I x9.1)), (8, (.one (.d (.list (p1.map (D.int .i64)))))), (9, (I x4)), (10, (I x9.2)), (11, (B (decide (x9.2 < x4))))], []⟩ (by kernel_rfl) trivial ?_
  refine K_seq ?_
  rcases ite_some H with ⟨hx10, H⟩ | ⟨hx10, H⟩
  · refine K_t rfl (decide_eq_true hx10) ?_
    refine K_gh ⟨[(1, (.one (.d (.list (p2.map (D.int .i64)))))), (5, (I x9.1)), (8, (.one (.d (.list (p1.map (D.int .i64)))))), (9, (I x4)), (10, (I x9.2))], []⟩ (by kernel_rfl) ?_
    refine K_skip ?_
    refine K_seq ?_
    refine K_block ?_
    refine K_seq ?_
    obtain ⟨x11, hx11, H⟩ := bind_some' H
    refine K_reg [.l [.int .i64 x11]] [(0 : Int) ≤ x9.2 ∧ x9.2 < (((p1.map (D.int .i64))).length : Int), ((p1.map (D.int .i64)).getD x9.2.toNat (.int .i64 0)).cells = [.int .i64 x11]] ⟨[(1, (.one (.d (.list (p2.map (D.int .i64)))))), (5, (I x9.1)), (6, (I x9.2)), (7, (I x11)), (8, (.one (.d (.list (p1.map (D.int .i64)))))), (9, (I x4)), (10, (I x9.2))], []⟩ (by kernel_rfl) (AC (at_ok hx11 (D.int .i64) (.int .i64 0)).1 (A1 (at_ok hx11 (D.int .i64) (.int .i64 0)).2)) ?_
    obtain ⟨x12, hx12, H⟩ := bind_some' H
    refine K_reg [.l [.int .i64 x12], .l [.int .i64 x12]] [(0 : Int) ≤ x9.2 ∧ x9.2 < (((p2.map (D.int .i64))).length : Int), ((p2.map (D.int .i64)).getD x9.2.toNat (.int .i64 0)).cells = [.int .i64 x12], (0 : Int) ≤ x9.2 ∧ x9.2 < (((p2.map (D.int .i64))).length : Int), ((p2.map (D.int .i64)).getD x9.2.toNat (.int .i64 0)).cells = [.int .i64 x12]] ⟨[(1, (.one (.d (.list (p2.map (D.int .i64)))))), (5, (I (w64 (x9.1 + (w64 ((w64 (x11 - x12)) * (w64 (x11 - x12)))))))), (8, (.one (.d (.list (p1.map (D.int .i64)))))), (9, (I x4)), (10, (I x9.2))], []⟩ (by kernel_rfl) (AC (at_ok hx12 (D.int .i64) (.int .i64 0)).1 (AC (at_ok hx12 (D.int .i64) (.int .i64 0)).2 (AC (at_ok hx12 (D.int .i64) (.int .i64 0)).1 (A1 (at_ok hx12 (D.int .i64) (.int .i64 0)).2)))) ?_
    refine K_blk ?_
    refine K_reg [] [] ⟨[(1, (.one (.d (.list (p2.map (D.int .i64)))))), (5, (I (w64 (x9.1 + (w64 ((w64 (x11 - x12)) * (w64 (x11 - x12)))))))), (8, (.one (.d (.list (p1.map (D.int .i64)))))), (9, (I x4)), (10, (I (w64 (x9.2 + 1))))], []⟩ (by kernel_rfl) trivial ?_
    cases H
    exact K_end rfl
  · refine K_f rfl (decide_eq_false hx10) ?_
    refine K_gh ⟨[(5, (I x9.1))], []⟩ (by kernel_rfl) ?_
    cases H
    exact K_exit0 rfl rfl
def T_euclid_square (k : Nat) (p1 : List Int) (p2 : List Int) : Option Int := match k with
  | 0 => none
  | k + 1 => ((loopT (T_euclid_square_l1 k p1 p2 (p1.length : Int)) k (0, 0)).bind fun x13 => some x13)
theorem T_euclid_square_ok (k : Nat) (p1 : List Int) (p2 : List Int) (r : Int) : T_euclid_square k p1 p2 = some r → evF X k n_euclid_square [(.one (.d (.list (p1.map (D.int .i64))))), (.one (.d (.list (p2.map (D.int .i64)))))] [] = some ((I r), []) := by
  intro H
  cases k with
  | zero => simp [T_euclid_square] at H
  | succ k =>
    simp only [T_euclid_square] at H
    refine F_in X_euclid_square rfl ?_
    refine K_seq ?_
    refine K_reg [] [] ⟨[(0, (.one (.d (.list (p1.map (D.int .i64)))))), (1, (.one (.d (.list (p2.map (D.int .i64))))))], []⟩ (by kernel_rfl) trivial ?_
    refine K_seq ?_
    refine K_reg [] [] ⟨[(0, (.one (.d (.list (p1.map (D.int .i64)))))), (1, (.one (.d (.list (p2.map (D.int .i64)))))), (5, (I 0))], []⟩ (by kernel_rfl) trivial ?_
    refine K_seq ?_
    refine K_seq ?_
    refine K_reg [.n p1.length] [((p1.map (D.int .i64))).length = p1.length] ⟨[(1, (.one (.d (.list (p2.map (D.int .i64)))))), (5, (I 0)), (8, (.one (.d (.list (p1.map (D.int .i64)))))), (9, (I (p1.length : Int))), (10, (I 0))], []⟩ (by kernel_rfl) (A1 (List.length_map _)) ?_
    refine K_block ?_
    obtain ⟨x13, hx13, H⟩ := bind_some' H
    refine K_loop ⟨[(5, (I x13))], []⟩ (loop_ok (fun (s : Int × Int) => ⟨[(1, (.one (.d (.list (p2.map (D.int .i64)))))), (5, (I s.1)), (8, (.one (.d (.list (p1.map (D.int .i64)))))), (9, (I (p1.length : Int))), (10, (I s.2))], []⟩) (fun (r : Int) => (.exit 0, ⟨[(5, (I r))], []⟩)) (fun r h => by cases h) (T_euclid_square_l1_ok k p1 p2 (p1.length : Int)) k (0, 0) x13 hx13) rfl ?_
    refine K_seq ?_
    refine K_reg [] [] ⟨[(4, (I x13))], []⟩ (by kernel_rfl) trivial ?_
    refine K_gh ⟨[(4, (I x13))], []⟩ (by kernel_rfl) ?_
    cases H
    refine K_ret ?_
    kernel_rfl
def T_euclid_Distance (k : Nat) (p1 : List Int) (p2 : List Int) : Option (Int × Int) := match k with
  | 0 => none
  | k + 1 => ((T_euclid_check k p1 p2).bind fun x1 => (if (!decide (x1 = 0)) = true then some (0, x1) else ((T_euclid_square k p1 p2).bind fun x3 => some (x3, 0))))
theorem T_euclid_Distance_ok (k : Nat) (p1 : List Int) (p2 : List Int) (r : Int × Int) : T_euclid_Distance k p1 p2 = some r → evF X k n_euclid_Distance [(.one (.d (.list (p1.map (D.int .i64))))), (.one (.d (.list (p2.map (D.int .i64)))))] [] = some ((.tup [(false, [.d (.int .i64 r.1)]), (false, [.d (.int .i64 r.2)])]), []) := by
  intro H
  cases k with
  | zero => simp [T_euclid_Distance] at H
  | succ k =>
    simp only [T_euclid_Distance] at H
    refine F_in X_euclid_Distance rfl ?_
    refine K_seq ?_
    refine K_reg [] [] ⟨[(0, (.one (.d (.list (p1.map (D.int .i64)))))), (1, (.one (.d (.list (p2.map (D.int .i64))))))], []⟩ (by kernel_rfl) trivial ?_
    refine K_seq ?_
    refine K_seq ?_
    obtain ⟨x1, hx1, H⟩ := bind_some' H
    refine K_reg [.r (I x1) []] [evF X k n_euclid_check [(.one (.d (.list (p1.map (D.int .i64))))), (.one (.d (.list (p2.map (D.int .i64)))))] [] = some ((I x1), [])] ⟨[(0, (.one (.d (.list (p1.map (D.int .i64)))))), (1, (.one (.d (.list (p2.map (D.int .i64)))))), (6, (I x1))], []⟩ (by kernel_rfl) (A1 (T_euclid_check_ok k p1 p2 x1 hx1)) ?_
    refine K_seq ?_
    refine K_reg [] [] ⟨[(0, (.one (.d (.list (p1.map (D.int .i64)))))), (1, (.one (.d (.list (p2.map (D.int .i64)))))), (6, (I x1)), (11, (B (!decide (x1 = 0))))], []⟩ (by kernel_rfl) trivial ?_
    rcases ite_some H with ⟨hx2, H⟩ | ⟨hx2, H⟩
    · refine K_t rfl hx2 ?_
      refine K_seq ?_
      refine K_reg [] [] ⟨[(4, (I 0)), (5, (I x1))], []⟩ (by kernel_rfl) trivial ?_
      refine K_gh ⟨[(4, (I 0)), (5, (I x1))], []⟩ (by kernel_rfl) ?_
      cases H
      refine K_ret ?_
      kernel_rfl
    · refine K_f rfl (Bool.eq_false_iff.2 hx2) ?_
      refine K_gh ⟨[(0, (.one (.d (.list (p1.map (D.int .i64)))))), (1, (.one (.d (.list (p2.map (D.int .i64))))))], []⟩ (by kernel_rfl) ?_
      refine K_skip ?_
      refine K_seq ?_
      obtain ⟨x3, hx3, H⟩ := bind_some' H
      refine K_reg [.r (I x3) []] [evF X k n_euclid_square [(.one (.d (.list (p1.map (D.int .i64))))), (.one (.d (.list (p2.map (D.int .i64)))))] [] = some ((I x3), [])] ⟨[(4, (I x3)), (5, (I 0))], []⟩ (by kernel_rfl) (A1 (T_euclid_square_ok k p1 p2 x3 hx3)) ?_
      refine K_gh ⟨[(4, (I x3)), (5, (I 0))], []⟩ (by kernel_rfl) ?_
      cases H
      refine K_ret ?_
      kernel_rfl
def T_pieces_check (k : Nat) (p1 : List Int) (p2 : Int) : Option Int := match k with
  | 0 => none
  | k + 1 => ((T_euclid_Distance k p1 p1).bind fun x1 => (if (!decide (x1.2 = 0)) = true then some x1.2 else ((T_pieces_number k (p1.length : Int) p2).bind fun x3 => (if (!((decide (1 ≤ p2) && decide (p2 ≤ 8)) && decide (p2 ≤ (p1.length : Int)))) = true then some 1 else some 0))))
theorem T_pieces_check_ok (k : Nat) (p1 : List Int) (p2 : Int) (r : Int) : T_pieces_check k p1 p2 = some r → evF X k n_pieces_check [(.one (.d (.list (p1.map (D.int .i64))))), (I p2)] [] = some ((I r), []) := by
  intro H
  cases k with
  | zero => simp [T_pieces_check] at H
  | succ k =>
    simp only [T_pieces_check] at H
    refine F_in X_pieces_check rfl ?_
    refine K_seq ?_
    refine K_reg [] [] ⟨[(0, (.one (.d (.list (p1.map (D.int .i64)))))), (1, (I p2))], []⟩ (by kernel_rfl) trivial ?_
    refine K_seq ?_
    refine K_seq ?_
    obtain ⟨x1, hx1, H⟩ := bind_some' H
    refine K_reg [.r (.tup [(false, [.d (.int .i64 x1.1)]), (false, [.d (.int .i64 x1.2)])]) []] [evF X k n_euclid_Distance [(.one (.d (.list (p1.map (D.int .i64))))), (.one (.d (.list (p1.map (D.int .i64)))))] [] = some ((.tup [(false, [.d (.int .i64 x1.1)]), (false, [.d (.int .i64 x1.2)])]), [])] ⟨[(0, (.one (.d (.list (p1.map (D.int .i64)))))), (1, (I p2)), (6, (I x1.2))], []⟩ (by kernel_rfl) (A1 (T_euclid_Distance_ok k p1 p1 x1 hx1)) ?_
    refine K_seq ?_
    refine K_reg [] [] ⟨[(0, (.one (.d (.list (p1.map (D.int .i64)))))), (1, (I p2)), (6, (I x1.2)), (14, (B (!decide (x1.2 = 0))))], []⟩ (by kernel_rfl) trivial ?_
    rcases ite_some H with ⟨hx2, H⟩ | ⟨hx2, H⟩
    · refine K_t rfl hx2 ?_
      refine K_seq ?_
      refine K_reg [] [] ⟨[(4, (I x1.2))], []⟩ (by kernel_rfl) trivial ?_
      refine K_gh ⟨[(4, (I x1.2))], []⟩ (by kernel_rfl) ?_
      cases H
      refine K_ret ?_
      kernel_rfl
    · refine K_f rfl (Bool.eq_false_iff.2 hx2) ?_
      refine K_gh ⟨[(0, (.one (.d (.list (p1.map (D.int .i64)))))), (1, (I p2))], []⟩ (by kernel_rfl) ?_
      refine K_skip ?_
      refine K_seq ?_
      refine K_seq ?_
      obtain ⟨x3, hx3, H⟩ := bind_some' H
      refine K_reg [.n p1.length, .r (B ((decide (1 ≤ p2) && decide (p2 ≤ 8)) && decide (p2 ≤ (p1.length : Int)))) []] [((p1.map (D.int .i64))).length = p1.length, evF X k n_pieces_number [(I (p1.length : Int)), (I p2)] [] = some ((B ((decide (1 ≤ p2) && decide (p2 ≤ 8)) && decide (p2 ≤ (p1.length : Int)))), [])] ⟨[(20, (B (!((decide (1 ≤ p2) && decide (p2 ≤ 8)) && decide (p2 ≤ (p1.length : Int))))))], []⟩ (by kernel_rfl) (AC (List.length_map _) (A1 (T_pieces_number_ok k (p1.length : Int) p2 x3 hx3))) ?_
      rcases ite_some H with ⟨hx4, H⟩ | ⟨hx4, H⟩
      · refine K_t rfl hx4 ?_
        refine K_seq ?_
        refine K_reg [] [] ⟨[(4, (I 1))], []⟩ (by kernel_rfl) trivial ?_
        refine K_gh ⟨[(4, (I 1))], []⟩ (by kernel_rfl) ?_
        cases H
        refine K_ret ?_
        kernel_rfl
      · refine K_f rfl (Bool.eq_false_iff.2 hx4) ?_
        refine K_gh ⟨[], []⟩ (by kernel_rfl) ?_
        refine K_skip ?_
        refine K_seq ?_
        refine K_reg [] [] ⟨[(4, (I 0))], []⟩ (by kernel_rfl) trivial ?_
        refine K_gh ⟨[(4, (I 0))], []⟩ (by kernel_rfl) ?_
        cases H
        refine K_ret ?_
        kernel_rfl
def T_pieces_total_l1 (k : Nat) (p1 : List Int) (x3 : Int) (x7 : Int × Int) : Option ((Int × Int) ⊕ Int) :=
  (if x7.2 < x3 then ((at? p1 x7.2).bind fun x9 => some (.inl ((w64 (x7.1 + x9)), (w64 (x7.2 + 1))))) else some (.inr x7.1))
theorem T_pieces_total_l1_ok (k : Nat) (p1 : List Int) (x3 : Int) : ∀ (x7 : Int × Int) (x : (Int × Int) ⊕ Int), T_pieces_total_l1 k p1 x3 x7 = some x → evC X (evF X k) k 0 l_pieces_total_1 ⟨[(3, (I x7.1)), (6, (.one (.d (.list (p1.map (D.int .i64)))))), (7, (I x3)), (8, (I x7.2))], []⟩ = some (outS (fun (s : Int × Int) => ⟨[(3, (I s.1)), (6, (.one (.d (.list (p1.map (D.int .i64)))))), (7, (I x3)), (8, (I s.2))], []⟩) (fun (r : Int) => (.exit 0, ⟨[(3, (I r))], []⟩)) x) := by
  intro x7 x H
  unfold T_pieces_total_l1 at H
  refine K_in ?_
  refine K_seq ?_
  refine K_reg [] [] ⟨[(3, (I x7.1)), (6, (.one (.d (.list (p1.map (D.int .i64)))))), (7, (I x3)), (8, (I x7.2)), (9, (B (decide (x7.2 < x3))))], []⟩ (by kernel_rfl) trivial ?_
  refine K_seq ?_
  rcases ite_some H with ⟨hx8, H⟩ | ⟨hx8, H⟩
  · refine K_t rfl (decide_eq_true hx8) ?_
    refine K_gh ⟨[(3, (I x7.1)), (6, (.one (.d (.list (p1.map (D.int .i64)))))), (7, (I x3)), (8, (I x7.2))], []⟩ (by kernel_rfl) ?_
    refine K_skip ?_
    refine K_seq ?_
    refine K_block ?_
    refine K_seq ?_
    obtain ⟨x9, hx9, H⟩ := bind_some' H
    refine K_reg [.l [.int .i64 x9]] [(0 : Int) ≤ x7.2 ∧ x7.2 < (((p1.map (D.int .i64))).length : Int), ((p1.map (D.int .i64)).getD x7.2.toNat (.int .i64 0)).cells = [.int .i64 x9]] ⟨[(3, (I x7.1)), (5, (I x9)), (6, (.one (.d (.list (p1.map (D.int .i64)))))), (7, (I x3)), (8, (I x7.2))], []⟩ (by kernel_rfl) (AC (at_ok hx9 (D.int .i64) (.int .i64 0)).1 (A1 (at_ok hx9 (D.int .i64) (.int .i64 0)).2)) ?_
    refine K_reg [] [] ⟨[(3, (I (w64 (x7.1 + x9)))), (6, (.one (.d (.list (p1.map (D.int .i64)))))), (7, (I x3)), (8, (I x7.2))], []⟩ (by kernel_rfl) trivial ?_
    refine K_blk ?_
    refine K_reg [] [] ⟨[(3, (I (w64 (x7.1 + x9)))), (6, (.one (.d (.list (p1.map (D.int .i64)))))), (7, (I x3)), (8, (I (w64 (x7.2 + 1))))], []⟩ (by kernel_rfl) trivial ?_
    cases H
    exact K_end rfl
  · refine K_f rfl (decide_eq_false hx8) ?_
    refine K_gh ⟨[(3, (I x7.1))], []⟩ (by kernel_rfl) ?_
    cases H
    exact K_exit0 rfl rfl
def T_pieces_total (k : Nat) (p1 : List Int) : Option Int := match k with
  | 0 => none
  | k + 1 => ((loopT (T_pieces_total_l1 k p1 (p1.length : Int)) k (0, 0)).bind fun x10 => some x10)
theorem T_pieces_total_ok (k : Nat) (p1 : List Int) (r : Int) : T_pieces_total k p1 = some r → evF X k n_pieces_total [(.one (.d (.list (p1.map (D.int .i64)))))] [] = some ((I r), []) := by
  intro H
  cases k with
  | zero => simp [T_pieces_total] at H
  | succ k =>
    simp only [T_pieces_total] at H
    refine F_in X_pieces_total rfl ?_
    refine K_seq ?_
    refine K_reg [] [] ⟨[(0, (.one (.d (.list (p1.map (D.int .i64))))))], []⟩ (by kernel_rfl) trivial ?_
    refine K_seq ?_
    refine K_reg [] [] ⟨[(0, (.one (.d (.list (p1.map (D.int .i64)))))), (3, (I 0))], []⟩ (by kernel_rfl) trivial ?_
    refine K_seq ?_
    refine K_seq ?_
    refine K_reg [.n p1.length] [((p1.map (D.int .i64))).length = p1.length] ⟨[(3, (I 0)), (6, (.one (.d (.list (p1.map (D.int .i64)))))), (7, (I (p1.length : Int))), (8, (I 0))], []⟩ (by kernel_rfl) (A1 (List.length_map _)) ?_
    refine K_block ?_
    obtain ⟨x10, hx10, H⟩ := bind_some' H
    refine K_loop ⟨[(3, (I x10))], []⟩ (loop_ok (fun (s : Int × Int) => ⟨[(3, (I s.1)), (6, (.one (.d (.list (p1.map (D.int .i64)))))), (7, (I (p1.length : Int))), (8, (I s.2))], []⟩) (fun (r : Int) => (.exit 0, ⟨[(3, (I r))], []⟩)) (fun r h => by cases h) (T_pieces_total_l1_ok k p1 (p1.length : Int)) k (0, 0) x10 hx10) rfl ?_
    refine K_seq ?_
    refine K_reg [] [] ⟨[(2, (I x10))], []⟩ (by kernel_rfl) trivial ?_
    refine K_gh ⟨[(2, (I x10))], []⟩ (by kernel_rfl) ?_
    cases H
    refine K_ret ?_
    kernel_rfl
def T_pieces_Centred_r1 (k : Nat) (p1 : List Int) (p2 : Int) (x3 : Int) (x8 : Int) (x11 : Nat) (x13 x14 x15 : Int) (x19 : (List Int)) : Option (((List Int)) ⊕ Unit) :=
  (if (0 : Int) ≤ x14 ∧ x14 ≤ x15 ∧ x15 ≤ (p1.length : Int) ∧ (p1.length : Int) ≤ (p1.length : Int) then (T_pieces_total k ((p1.drop x14.toNat).take (x15.toNat - x14.toNat))).bind fun x21 => (if (0 : Int) ≤ x13 ∧ x13 < ((x11 : Nat) : Int) then some (.inl (x19.set (0 + x13.toNat) (w64 ((w64 ((p1.length : Int) * x21)) - (w64 ((w64 (x15 - x14)) * x3)))))) else none) else none)
theorem T_pieces_Centred_r1_ok (k : Nat) (p1 : List Int) (p2 : Int) (x3 : Int) (x8 : Int) (x11 : Nat) : ∀ (x13 x14 x15 : Int) (x19 : (List Int)) (x : ((List Int)) ⊕ Unit), T_pieces_Centred_r1 k p1 p2 x3 x8 x11 x13 x14 x15 x19 = some x → roundM (fun b' => evC X (evF X k) k b' l_pieces_Centred_r1a) (fun b' => evC X (evF X k) k b' l_pieces_Centred_r1b) 0 [25, 26] [.gc] [I x13, .agg [.d (.int .i64 x14), .d (.int .i64 x15)]] (.normal, ⟨[(2, (.one (.ptr 0 0 0))), (4, (.one (.nil))), (5, (I 0)), (7, (.one (.ptr 1 0 0))), (8, (.one (.ptr 2 0 0))), (24, (.one (.d (.fn (.func n_pieces_all_1) [.ref [.int .i64 p2], .ref [.int .i64 x8]]))))], [.cells [.d (.list (p1.map (D.int .i64)))], .cells [.d (.int .i64 x3)], .cells [.own 3 0 x11], .vals (.int .i64 0) (x19.map (D.int .i64))]⟩) = some (Sum.elim (fun (s : (List Int)) => (true, (.normal, ⟨[(2, (.one (.ptr 0 0 0))), (4, (.one (.nil))), (5, (I 0)), (7, (.one (.ptr 1 0 0))), (8, (.one (.ptr 2 0 0))), (24, (.one (.d (.fn (.func n_pieces_all_1) [.ref [.int .i64 p2], .ref [.int .i64 x8]]))))], [.cells [.d (.list (p1.map (D.int .i64)))], .cells [.d (.int .i64 x3)], .cells [.own 3 0 x11], .vals (.int .i64 0) (s.map (D.int .i64))]⟩))) (fun (r : Unit) => (false, (.ret, ⟨[], []⟩))) x) := by
  intro x13 x14 x15 x19 x H
  unfold T_pieces_Centred_r1 at H
  refine R_as rfl ?_
  refine K_seq ?_
  refine K_reg [] [] ⟨[(2, (.one (.ptr 0 0 0))), (7, (.one (.ptr 1 0 0))), (8, (.one (.ptr 2 0 0))), (9, (I x13)), (26, (.agg [.d (.int .i64 x14), .d (.int .i64 x15)]))], [.cells [.d (.list (p1.map (D.int .i64)))], .cells [.d (.int .i64 x3)], .cells [.own 3 0 x11], .vals (.int .i64 0) (x19.map (D.int .i64))]⟩ (by kernel_rfl) trivial ?_
  refine K_reg [] [] ⟨[(2, (.one (.ptr 0 0 0))), (7, (.one (.ptr 1 0 0))), (8, (.one (.ptr 2 0 0))), (9, (I x13)), (10, (.one (.ptr 4 0 0)))], [.cells [.d (.list (p1.map (D.int .i64)))], .cells [.d (.int .i64 x3)], .cells [.own 3 0 x11], .vals (.int .i64 0) (x19.map (D.int .i64)), .cells [.d (.int .i64 x14), .d (.int .i64 x15)]]⟩ (by kernel_rfl) trivial ?_
  refine K_end (R_body ?_)
  refine K_block ?_
  obtain ⟨hx20, H⟩ := guard_some H
  obtain ⟨x21, hx21, H⟩ := bind_some' H
  obtain ⟨hx22, H⟩ := guard_some H
  refine K_reg [.n p1.length, .l (((p1.drop x14.toNat).take (x15.toNat - x14.toNat)).map (D.int .i64)), .r (I x21) [], .l ((x19.set (0 + x13.toNat) (w64 ((w64 ((p1.length : Int) * x21)) - (w64 ((w64 (x15 - x14)) * x3))))).map (D.int .i64))] [((p1.map (D.int .i64))).length = p1.length, ((p1.map (D.int .i64)).all fun d => d.cells.length == 1) = true, (0 : Int) ≤ x14 ∧ x14 ≤ x15 ∧ x15 ≤ (((p1.map (D.int .i64))).length : Int) ∧ (((p1.map (D.int .i64))).length : Int) ≤ (((p1.map (D.int .i64))).length : Int), ((p1.map (D.int .i64)).drop (x14 : Int).toNat).take ((x15 : Int).toNat - (x14 : Int).toNat) = ((p1.drop x14.toNat).take (x15.toNat - x14.toNat)).map (D.int .i64), evF X k n_pieces_total [(.one (.d (.list (((p1.drop x14.toNat).take (x15.toNat - x14.toNat)).map (D.int .i64)))))] [] = some ((I x21), []), (0 : Int) ≤ x13 ∧ x13 < ((x11 : Nat) : Int), (x19.map (D.int .i64)).set (0 + x13.toNat) (elemOf (.int .i64 0) (splice ((x19.map (D.int .i64)).getD (0 + x13.toNat) (.int .i64 0)).cells 0 [.int .i64 (w64 ((w64 ((p1.length : Int) * x21)) - (w64 ((w64 (x15 - x14)) * x3))))])) = (x19.set (0 + x13.toNat) (w64 ((w64 ((p1.length : Int) * x21)) - (w64 ((w64 (x15 - x14)) * x3))))).map (D.int .i64)] ⟨[], [.cells [.d (.list (p1.map (D.int .i64)))], .cells [.d (.int .i64 x3)], .cells [.own 3 0 x11], .vals (.int .i64 0) ((x19.set (0 + x13.toNat) (w64 ((w64 ((p1.length : Int) * x21)) - (w64 ((w64 (x15 - x14)) * x3))))).map (D.int .i64)), .cells [.d (.int .i64 x14), .d (.int .i64 x15)]]⟩ (by kernel_rfl) (AC (List.length_map _) (AC (all_ok (D.int .i64) 1 p1 (fun _ => rfl)) (AC (by simpa using hx20) (AC (dt_map _ _ _ _) (AC (T_pieces_total_ok k ((p1.drop x14.toNat).take (x15.toNat - x14.toNat)) x21 hx21) (AC hx22 (A1 (st_one x19 (0 + x13.toNat) (w64 ((w64 ((p1.length : Int) * x21)) - (w64 ((w64 (x15 - x14)) * x3)))) (D.int .i64) (.int .i64 0) rfl (fun _ => rfl) rfl)))))))) ?_
  refine K_blk ?_
  cases H
  exact K_end (R_end ⟨[(2, (.one (.ptr 0 0 0))), (4, (.one (.nil))), (5, (I 0)), (7, (.one (.ptr 1 0 0))), (8, (.one (.ptr 2 0 0))), (24, (.one (.d (.fn (.func n_pieces_all_1) [.ref [.int .i64 p2], .ref [.int .i64 x8]]))))], [.cells [.d (.list (p1.map (D.int .i64)))], .cells [.d (.int .i64 x3)], .cells [.own 3 0 x11], .vals (.int .i64 0) ((x19.set (0 + x13.toNat) (w64 ((w64 ((p1.length : Int) * x21)) - (w64 ((w64 (x15 - x14)) * x3))))).map (D.int .i64))]⟩ (by kernel_rfl) rfl)
def T_pieces_Centred (k : Nat) (p1 : List Int) (p2 : Int) : Option ((List Int) × Int) := match k with
  | 0 => none
  | k + 1 => ((T_pieces_check k p1 p2).bind fun x1 => (if (!decide (x1 = 0)) = true then some ([], x1) else (T_pieces_total k p1).bind fun x3 => (if (0 : Int) ≤ p2 ∧ p2 ≤ p2 ∧ p2 ≤ (LIM : Int) then (T_pieces_all k (p1.length : Int) p2).bind fun x5 => (allT (T_pieces_Centred_r1 k p1 p2 x3 (p1.length : Int) p2.toNat) (p1.length : Int) p2 k 0 (List.replicate p2.toNat (0 : Int))).bind fun x23 => (match x23 with | .inl x24 => some (((x24.drop 0).take p2.toNat), 0) | .inr _ => none) else none)))
theorem T_pieces_Centred_ok (k : Nat) (p1 : List Int) (p2 : Int) (r : (List Int) × Int) : T_pieces_Centred k p1 p2 = some r → evF X k n_pieces_Centred [(.one (.d (.list (p1.map (D.int .i64))))), (I p2)] [] = some ((.tup [(false, [.d (.list (r.1.map (D.int .i64)))]), (false, [.d (.int .i64 r.2)])]), []) := by
  intro H
  cases k with
  | zero => simp [T_pieces_Centred] at H
  | succ k =>
    simp only [T_pieces_Centred] at H
    refine F_in X_pieces_Centred rfl ?_
    refine K_seq ?_
    refine K_reg [] [] ⟨[(1, (I p2)), (2, (.one (.ptr 0 0 0))), (4, (.one (.nil))), (5, (I 0))], [.cells [.d (.list (p1.map (D.int .i64)))]]⟩ (by kernel_rfl) trivial ?_
    refine K_seq ?_
    refine K_seq ?_
    obtain ⟨x1, hx1, H⟩ := bind_some' H
    refine K_reg [.r (I x1) []] [evF X k n_pieces_check [(.one (.d (.list (p1.map (D.int .i64))))), (I p2)] [] = some ((I x1), [])] ⟨[(1, (I p2)), (2, (.one (.ptr 0 0 0))), (4, (.one (.nil))), (5, (I 0)), (6, (I x1))], [.cells [.d (.list (p1.map (D.int .i64)))]]⟩ (by kernel_rfl) (A1 (T_pieces_check_ok k p1 p2 x1 hx1)) ?_
    refine K_seq ?_
    refine K_reg [] [] ⟨[(1, (I p2)), (2, (.one (.ptr 0 0 0))), (4, (.one (.nil))), (5, (I 0)), (6, (I x1)), (15, (B (!decide (x1 = 0))))], [.cells [.d (.list (p1.map (D.int .i64)))]]⟩ (by kernel_rfl) trivial ?_
    rcases ite_some H with ⟨hx2, H⟩ | ⟨hx2, H⟩
    · refine K_t rfl hx2 ?_
      refine K_seq ?_
      refine K_reg [] [] ⟨[(4, (.one (.nil))), (5, (I x1))], []⟩ (by kernel_rfl) trivial ?_
      refine K_gh ⟨[(4, (.one (.nil))), (5, (I x1))], []⟩ (by kernel_rfl) ?_
      cases H
      refine K_ret ?_
      kernel_rfl
    · refine K_f rfl (Bool.eq_false_iff.2 hx2) ?_
      refine K_gh ⟨[(1, (I p2)), (2, (.one (.ptr 0 0 0))), (4, (.one (.nil))), (5, (I 0))], [.cells [.d (.list (p1.map (D.int .i64)))]]⟩ (by kernel_rfl) ?_
      refine K_skip ?_
      refine K_seq ?_
      obtain ⟨x3, hx3, H⟩ := bind_some' H
      refine K_reg [.r (I x3) []] [evF X k n_pieces_total [(.one (.d (.list (p1.map (D.int .i64)))))] [] = some ((I x3), [])] ⟨[(1, (I p2)), (2, (.one (.ptr 0 0 0))), (4, (.one (.nil))), (5, (I 0)), (7, (.one (.ptr 1 0 0)))], [.cells [.d (.list (p1.map (D.int .i64)))], .cells [.d (.int .i64 x3)]]⟩ (by kernel_rfl) (A1 (T_pieces_total_ok k p1 x3 hx3)) ?_
      refine K_seq ?_
      obtain ⟨hx4, H⟩ := guard_some H
      refine K_reg [.l ((List.replicate p2.toNat (0 : Int)).map (D.int .i64))] [(0 : Int) ≤ p2 ∧ p2 ≤ p2 ∧ p2 ≤ (LIM : Int), List.replicate p2.toNat (.int .i64 0) = (List.replicate p2.toNat (0 : Int)).map (D.int .i64)] ⟨[(1, (I p2)), (2, (.one (.ptr 0 0 0))), (4, (.one (.nil))), (5, (I 0)), (7, (.one (.ptr 1 0 0))), (8, (.one (.ptr 2 0 0)))], [.cells [.d (.list (p1.map (D.int .i64)))], .cells [.d (.int .i64 x3)], .cells [.own 3 0 p2.toNat], .vals (.int .i64 0) ((List.replicate p2.toNat (0 : Int)).map (D.int .i64))]⟩ (by kernel_rfl) (AC hx4 (A1 (rep_map (D.int .i64) _ (0 : Int)))) ?_
      refine K_seq ?_
      refine K_seq ?_
      obtain ⟨x5, hx5, H⟩ := bind_some' H
      refine K_reg [.n p1.length, .r (.one (.d (.fn (.func n_pieces_all_1) [.ref [.int .i64 p2], .ref [.int .i64 (p1.length : Int)]]))) []] [((p1.map (D.int .i64))).length = p1.length, evF X k n_pieces_all [(I (p1.length : Int)), (I p2)] [] = some ((.one (.d (.fn (.func n_pieces_all_1) [.ref [.int .i64 p2], .ref [.int .i64 (p1.length : Int)]]))), [])] ⟨[(2, (.one (.ptr 0 0 0))), (4, (.one (.nil))), (5, (I 0)), (7, (.one (.ptr 1 0 0))), (8, (.one (.ptr 2 0 0))), (24, (.one (.d (.fn (.func n_pieces_all_1) [.ref [.int .i64 p2], .ref [.int .i64 (p1.length : Int)]]))))], [.cells [.d (.list (p1.map (D.int .i64)))], .cells [.d (.int .i64 x3)], .cells [.own 3 0 p2.toNat], .vals (.int .i64 0) ((List.replicate p2.toNat (0 : Int)).map (D.int .i64))]⟩ (by kernel_rfl) (AC (List.length_map _) (A1 (T_pieces_all_ok k (p1.length : Int) p2 x5 hx5))) ?_
      refine K_block ?_
      obtain ⟨x23, hx23, H⟩ := bind_some' H
      cases x23 with
      | inl x24 =>
        dsimp only at H
        refine K_of ⟨[(2, (.one (.ptr 0 0 0))), (4, (.one (.nil))), (5, (I 0)), (7, (.one (.ptr 1 0 0))), (8, (.one (.ptr 2 0 0))), (24, (.one (.d (.fn (.func n_pieces_all_1) [.ref [.int .i64 p2], .ref [.int .i64 (p1.length : Int)]]))))], [.cells [.d (.list (p1.map (D.int .i64)))], .cells [.d (.int .i64 x3)], .cells [.own 3 0 p2.toNat], .vals (.int .i64 0) (x24.map (D.int .i64))]⟩ (range_ok (fun (s : (List Int)) => ⟨[(2, (.one (.ptr 0 0 0))), (4, (.one (.nil))), (5, (I 0)), (7, (.one (.ptr 1 0 0))), (8, (.one (.ptr 2 0 0))), (24, (.one (.d (.fn (.func n_pieces_all_1) [.ref [.int .i64 p2], .ref [.int .i64 (p1.length : Int)]]))))], [.cells [.d (.list (p1.map (D.int .i64)))], .cells [.d (.int .i64 x3)], .cells [.own 3 0 p2.toNat], .vals (.int .i64 0) (s.map (D.int .i64))]⟩) (fun (r : Unit) => (.ret, ⟨[], []⟩)) (s := (List.replicate p2.toNat (0 : Int))) (y := (.inl x24)) rfl (X_pieces_all_1 : X n_pieces_all_1 = some allM) (T_pieces_Centred_r1_ok k p1 p2 x3 (p1.length : Int) p2.toNat) hx23) ?_
        refine K_blk ?_
        refine K_seq ?_
        refine K_reg [] [] ⟨[(4, (.one (.own 0 0 p2.toNat))), (5, (I 0))], [.vals (.int .i64 0) (x24.map (D.int .i64))]⟩ (by kernel_rfl) trivial ?_
        refine K_gh ⟨[(4, (.one (.own 0 0 p2.toNat))), (5, (I 0))], [.vals (.int .i64 0) (x24.map (D.int .i64))]⟩ (by kernel_rfl) ?_
        cases H
        refine K_ret ?_
        exact Eq.trans (b := some ((.tup [(false, [.d (.list (((x24.map (D.int .i64)).drop 0).take p2.toNat))]), (false, [.d (.int .i64 0)])]), [])) (by kernel_rfl) (by simp only [dt_map])
      | inr _ =>
        dsimp only at H
        cases H
def T_pieces_Sums_r1 (k : Nat) (p1 : List Int) (p2 : Int) (x7 : Int) (x9 : Nat) (x11 x12 x13 : Int) (x17 : (List Int)) : Option (((List Int)) ⊕ Unit) :=
  (if (0 : Int) ≤ x12 ∧ x12 ≤ x13 ∧ x13 ≤ (p1.length : Int) ∧ (p1.length : Int) ≤ (p1.length : Int) then (T_pieces_total k ((p1.drop x12.toNat).take (x13.toNat - x12.toNat))).bind fun x19 => (if (0 : Int) ≤ x11 ∧ x11 < ((x9 : Nat) : Int) then some (.inl (x17.set (0 + x11.toNat) x19)) else none) else none)
theorem T_pieces_Sums_r1_ok (k : Nat) (p1 : List Int) (p2 : Int) (x7 : Int) (x9 : Nat) : ∀ (x11 x12 x13 : Int) (x17 : (List Int)) (x : ((List Int)) ⊕ Unit), T_pieces_Sums_r1 k p1 p2 x7 x9 x11 x12 x13 x17 = some x → roundM (fun b' => evC X (evF X k) k b' l_pieces_Sums_r1a) (fun b' => evC X (evF X k) k b' l_pieces_Sums_r1b) 0 [22, 23] [.gc] [I x11, .agg [.d (.int .i64 x12), .d (.int .i64 x13)]] (.normal, ⟨[(2, (.one (.ptr 0 0 0))), (4, (.one (.nil))), (5, (I 0)), (7, (.one (.ptr 1 0 0))), (21, (.one (.d (.fn (.func n_pieces_all_1) [.ref [.int .i64 p2], .ref [.int .i64 x7]]))))], [.cells [.d (.list (p1.map (D.int .i64)))], .cells [.own 2 0 x9], .vals (.int .i64 0) (x17.map (D.int .i64))]⟩) = some (Sum.elim (fun (s : (List Int)) => (true, (.normal, ⟨[(2, (.one (.ptr 0 0 0))), (4, (.one (.nil))), (5, (I 0)), (7, (.one (.ptr 1 0 0))), (21, (.one (.d (.fn (.func n_pieces_all_1) [.ref [.int .i64 p2], .ref [.int .i64 x7]]))))], [.cells [.d (.list (p1.map (D.int .i64)))], .cells [.own 2 0 x9], .vals (.int .i64 0) (s.map (D.int .i64))]⟩))) (fun (r : Unit) => (false, (.ret, ⟨[], []⟩))) x) := by
  intro x11 x12 x13 x17 x H
  unfold T_pieces_Sums_r1 at H
  refine R_as rfl ?_
  refine K_seq ?_
  refine K_reg [] [] ⟨[(2, (.one (.ptr 0 0 0))), (7, (.one (.ptr 1 0 0))), (8, (I x11)), (23, (.agg [.d (.int .i64 x12), .d (.int .i64 x13)]))], [.cells [.d (.list (p1.map (D.int .i64)))], .cells [.own 2 0 x9], .vals (.int .i64 0) (x17.map (D.int .i64))]⟩ (by kernel_rfl) trivial ?_
  refine K_reg [] [] ⟨[(2, (.one (.ptr 0 0 0))), (7, (.one (.ptr 1 0 0))), (8, (I x11)), (9, (.one (.ptr 3 0 0)))], [.cells [.d (.list (p1.map (D.int .i64)))], .cells [.own 2 0 x9], .vals (.int .i64 0) (x17.map (D.int .i64)), .cells [.d (.int .i64 x12), .d (.int .i64 x13)]]⟩ (by kernel_rfl) trivial ?_
  refine K_end (R_body ?_)
  refine K_block ?_
  obtain ⟨hx18, H⟩ := guard_some H
  obtain ⟨x19, hx19, H⟩ := bind_some' H
  obtain ⟨hx20, H⟩ := guard_some H
  refine K_reg [.l (((p1.drop x12.toNat).take (x13.toNat - x12.toNat)).map (D.int .i64)), .r (I x19) [], .l ((x17.set (0 + x11.toNat) x19).map (D.int .i64))] [((p1.map (D.int .i64)).all fun d => d.cells.length == 1) = true, (0 : Int) ≤ x12 ∧ x12 ≤ x13 ∧ x13 ≤ (((p1.map (D.int .i64))).length : Int) ∧ (((p1.map (D.int .i64))).length : Int) ≤ (((p1.map (D.int .i64))).length : Int), ((p1.map (D.int .i64)).drop (x12 : Int).toNat).take ((x13 : Int).toNat - (x12 : Int).toNat) = ((p1.drop x12.toNat).take (x13.toNat - x12.toNat)).map (D.int .i64), evF X k n_pieces_total [(.one (.d (.list (((p1.drop x12.toNat).take (x13.toNat - x12.toNat)).map (D.int .i64)))))] [] = some ((I x19), []), (0 : Int) ≤ x11 ∧ x11 < ((x9 : Nat) : Int), (x17.map (D.int .i64)).set (0 + x11.toNat) (elemOf (.int .i64 0) (splice ((x17.map (D.int .i64)).getD (0 + x11.toNat) (.int .i64 0)).cells 0 [.int .i64 x19])) = (x17.set (0 + x11.toNat) x19).map (D.int .i64)] ⟨[], [.cells [.d (.list (p1.map (D.int .i64)))], .cells [.own 2 0 x9], .vals (.int .i64 0) ((x17.set (0 + x11.toNat) x19).map (D.int .i64)), .cells [.d (.int .i64 x12), .d (.int .i64 x13)]]⟩ (by kernel_rfl) (AC (all_ok (D.int .i64) 1 p1 (fun _ => rfl)) (AC (by simpa using hx18) (AC (dt_map _ _ _ _) (AC (T_pieces_total_ok k ((p1.drop x12.toNat).take (x13.toNat - x12.toNat)) x19 hx19) (AC hx20 (A1 (st_one x17 (0 + x11.toNat) x19 (D.int .i64) (.int .i64 0) rfl (fun _ => rfl) rfl))))))) ?_
  refine K_blk ?_
  cases H
  exact K_end (R_end ⟨[(2, (.one (.ptr 0 0 0))), (4, (.one (.nil))), (5, (I 0)), (7, (.one (.ptr 1 0 0))), (21, (.one (.d (.fn (.func n_pieces_all_1) [.ref [.int .i64 p2], .ref [.int .i64 x7]]))))], [.cells [.d (.list (p1.map (D.int .i64)))], .cells [.own 2 0 x9], .vals (.int .i64 0) ((x17.set (0 + x11.toNat) x19).map (D.int .i64))]⟩ (by kernel_rfl) rfl)
def T_pieces_Sums (k : Nat) (p1 : List Int) (p2 : Int) : Option ((List Int) × Int) := match k with
  | 0 => none
  | k + 1 => ((T_pieces_check k p1 p2).bind fun x1 => (if (!decide (x1 = 0)) = true then some ([], x1) else (if (0 : Int) ≤ p2 ∧ p2 ≤ p2 ∧ p2 ≤ (LIM : Int) then (T_pieces_all k (p1.length : Int) p2).bind fun x4 => (allT (T_pieces_Sums_r1 k p1 p2 (p1.length : Int) p2.toNat) (p1.length : Int) p2 k 0 (List.replicate p2.toNat (0 : Int))).bind fun x21 => (match x21 with | .inl x22 => some (((x22.drop 0).take p2.toNat), 0) | .inr _ => none) else none)))
theorem T_pieces_Sums_ok (k : Nat) (p1 : List Int) (p2 : Int) (r : (List Int) × Int) : T_pieces_Sums k p1 p2 = some r → evF X k n_pieces_Sums [(.one (.d (.list (p1.map (D.int .i64))))), (I p2)] [] = some ((.tup [(false, [.d (.list (r.1.map (D.int .i64)))]), (false, [.d (.int .i64 r.2)])]), []) := by
  intro H
  cases k with
  | zero => simp [T_pieces_Sums] at H
  | succ k =>
    simp only [T_pieces_Sums] at H
    refine F_in X_pieces_Sums rfl ?_
    refine K_seq ?_
    refine K_reg [] [] ⟨[(1, (I p2)), (2, (.one (.ptr 0 0 0))), (4, (.one (.nil))), (5, (I 0))], [.cells [.d (.list (p1.map (D.int .i64)))]]⟩ (by kernel_rfl) trivial ?_
    refine K_seq ?_
    refine K_seq ?_
    obtain ⟨x1, hx1, H⟩ := bind_some' H
    refine K_reg [.r (I x1) []] [evF X k n_pieces_check [(.one (.d (.list (p1.map (D.int .i64))))), (I p2)] [] = some ((I x1), [])] ⟨[(1, (I p2)), (2, (.one (.ptr 0 0 0))), (4, (.one (.nil))), (5, (I 0)), (6, (I x1))], [.cells [.d (.list (p1.map (D.int .i64)))]]⟩ (by kernel_rfl) (A1 (T_pieces_check_ok k p1 p2 x1 hx1)) ?_
    refine K_seq ?_
    refine K_reg [] [] ⟨[(1, (I p2)), (2, (.one (.ptr 0 0 0))), (4, (.one (.nil))), (5, (I 0)), (6, (I x1)), (14, (B (!decide (x1 = 0))))], [.cells [.d (.list (p1.map (D.int .i64)))]]⟩ (by kernel_rfl) trivial ?_
    rcases ite_some H with ⟨hx2, H⟩ | ⟨hx2, H⟩
    · refine K_t rfl hx2 ?_
      refine K_seq ?_
      refine K_reg [] [] ⟨[(4, (.one (.nil))), (5, (I x1))], []⟩ (by kernel_rfl) trivial ?_
      refine K_gh ⟨[(4, (.one (.nil))), (5, (I x1))], []⟩ (by kernel_rfl) ?_
      cases H
      refine K_ret ?_
      kernel_rfl
    · refine K_f rfl (Bool.eq_false_iff.2 hx2) ?_
      refine K_gh ⟨[(1, (I p2)), (2, (.one (.ptr 0 0 0))), (4, (.one (.nil))), (5, (I 0))], [.cells [.d (.list (p1.map (D.int .i64)))]]⟩ (by kernel_rfl) ?_
      refine K_skip ?_
      refine K_seq ?_
      obtain ⟨hx3, H⟩ := guard_some H
      refine K_reg [.l ((List.replicate p2.toNat (0 : Int)).map (D.int .i64))] [(0 : Int) ≤ p2 ∧ p2 ≤ p2 ∧ p2 ≤ (LIM : Int), List.replicate p2.toNat (.int .i64 0) = (List.replicate p2.toNat (0 : Int)).map (D.int .i64)] ⟨[(1, (I p2)), (2, (.one (.ptr 0 0 0))), (4, (.one (.nil))), (5, (I 0)), (7, (.one (.ptr 1 0 0)))], [.cells [.d (.list (p1.map (D.int .i64)))], .cells [.own 2 0 p2.toNat], .vals (.int .i64 0) ((List.replicate p2.toNat (0 : Int)).map (D.int .i64))]⟩ (by kernel_rfl) (AC hx3 (A1 (rep_map (D.int .i64) _ (0 : Int)))) ?_
      refine K_seq ?_
      refine K_seq ?_
      obtain ⟨x4, hx4, H⟩ := bind_some' H
      refine K_reg [.n p1.length, .r (.one (.d (.fn (.func n_pieces_all_1) [.ref [.int .i64 p2], .ref [.int .i64 (p1.length : Int)]]))) []] [((p1.map (D.int .i64))).length = p1.length, evF X k n_pieces_all [(I (p1.length : Int)), (I p2)] [] = some ((.one (.d (.fn (.func n_pieces_all_1) [.ref [.int .i64 p2], .ref [.int .i64 (p1.length : Int)]]))), [])] ⟨[(2, (.one (.ptr 0 0 0))), (4, (.one (.nil))), (5, (I 0)), (7, (.one (.ptr 1 0 0))), (21, (.one (.d (.fn (.func n_pieces_all_1) [.ref [.int .i64 p2], .ref [.int .i64 (p1.length : Int)]]))))], [.cells [.d (.list (p1.map (D.int .i64)))], .cells [.own 2 0 p2.toNat], .vals (.int .i64 0) ((List.replicate p2.toNat (0 : Int)).map (D.int .i64))]⟩ (by kernel_rfl) (AC (List.length_map _) (A1 (T_pieces_all_ok k (p1.length : Int) p2 x4 hx4))) ?_
      refine K_block ?_
      obtain ⟨x21, hx21, H⟩ := bind_some' H
      cases x21 with
      | inl x22 =>
        dsimp only at H
        refine K_of ⟨[(2, (.one (.ptr 0 0 0))), (4, (.one (.nil))), (5, (I 0)), (7, (.one (.ptr 1 0 0))), (21, (.one (.d (.fn (.func n_pieces_all_1) [.ref [.int .i64 p2], .ref [.int .i64 (p1.length : Int)]]))))], [.cells [.d (.list (p1.map (D.int .i64)))], .cells [.own 2 0 p2.toNat], .vals (.int .i64 0) (x22.map (D.int .i64))]⟩ (range_ok (fun (s : (List Int)) => ⟨[(2, (.one (.ptr 0 0 0))), (4, (.one (.nil))), (5, (I 0)), (7, (.one (.ptr 1 0 0))), (21, (.one (.d (.fn (.func n_pieces_all_1) [.ref [.int .i64 p2], .ref [.int .i64 (p1.length : Int)]]))))], [.cells [.d (.list (p1.map (D.int .i64)))], .cells [.own 2 0 p2.toNat], .vals (.int .i64 0) (s.map (D.int .i64))]⟩) (fun (r : Unit) => (.ret, ⟨[], []⟩)) (s := (List.replicate p2.toNat (0 : Int))) (y := (.inl x22)) rfl (X_pieces_all_1 : X n_pieces_all_1 = some allM) (T_pieces_Sums_r1_ok k p1 p2 (p1.length : Int) p2.toNat) hx21) ?_
        refine K_blk ?_
        refine K_seq ?_
        refine K_reg [] [] ⟨[(4, (.one (.own 0 0 p2.toNat))), (5, (I 0))], [.vals (.int .i64 0) (x22.map (D.int .i64))]⟩ (by kernel_rfl) trivial ?_
        refine K_gh ⟨[(4, (.one (.own 0 0 p2.toNat))), (5, (I 0))], [.vals (.int .i64 0) (x22.map (D.int .i64))]⟩ (by kernel_rfl) ?_
        cases H
        refine K_ret ?_
        exact Eq.trans (b := some ((.tup [(false, [.d (.list (((x22.map (D.int .i64)).drop 0).take p2.toNat))]), (false, [.d (.int .i64 0)])]), [])) (by kernel_rfl) (by simp only [dt_map])
      | inr _ =>
        dsimp only at H
        cases H
def T_ratio_divisor_l1 (k : Nat) (x5 : Int × Int) : Option ((Int × Int) ⊕ Int) :=
  (if (!decide (x5.2 = 0)) = true then (if x5.2 ≠ 0 then some (.inl (x5.2, (x5.1.tmod x5.2))) else none) else some (.inr x5.1))
theorem T_ratio_divisor_l1_ok (k : Nat) : ∀ (x5 : Int × Int) (x : (Int × Int) ⊕ Int), T_ratio_divisor_l1 k x5 = some x → evC X (evF X k) k 0 l_ratio_divisor_1 ⟨[(0, (I x5.1)), (1, (I x5.2))], []⟩ = some (outS (fun (s : Int × Int) => ⟨[(0, (I s.1)), (1, (I s.2))], []⟩) (fun (r : Int) => (.exit 0, ⟨[(0, (I r))], []⟩)) x) := by
  intro x5 x H
  unfold T_ratio_divisor_l1 at H
  refine K_in ?_
  refine K_seq ?_
  refine K_seq ?_
  refine K_reg [] [] ⟨[(0, (I x5.1)), (1, (I x5.2)), (6, (B (!decide (x5.2 = 0))))], []⟩ (by kernel_rfl) trivial ?_
  rcases ite_some H with ⟨hx6, H⟩ | ⟨hx6, H⟩
  · refine K_t rfl hx6 ?_
    refine K_gh ⟨[(0, (I x5.1)), (1, (I x5.2))], []⟩ (by kernel_rfl) ?_
    refine K_skip ?_
    refine K_block ?_
    obtain ⟨hx7, H⟩ := guard_some H
    refine K_reg [] [x5.2 ≠ (0 : Int)] ⟨[(0, (I x5.2)), (1, (I (x5.1.tmod x5.2)))], []⟩ (by kernel_rfl) (A1 hx7) ?_
    refine K_blk ?_
    cases H
    exact K_end rfl
  · refine K_f rfl (Bool.eq_false_iff.2 hx6) ?_
    refine K_gh ⟨[(0, (I x5.1))], []⟩ (by kernel_rfl) ?_
    cases H
    exact K_exit0 rfl rfl
def T_ratio_divisor (k : Nat) (p1 : Int) (p2 : Int) : Option Int := match k with
  | 0 => none
  | k + 1 => ((loopT (T_ratio_divisor_l1 k) k (p1, p2)).bind fun x8 => some x8)
theorem T_ratio_divisor_ok (k : Nat) (p1 : Int) (p2 : Int) (r : Int) : T_ratio_divisor k p1 p2 = some r → evF X k n_ratio_divisor [(I p1), (I p2)] [] = some ((I r), []) := by
  intro H
  cases k with
  | zero => simp [T_ratio_divisor] at H
  | succ k =>
    simp only [T_ratio_divisor] at H
    refine F_in X_ratio_divisor rfl ?_
    refine K_seq ?_
    refine K_reg [] [] ⟨[(0, (I p1)), (1, (I p2))], []⟩ (by kernel_rfl) trivial ?_
    refine K_seq ?_
    refine K_block ?_
    obtain ⟨x8, hx8, H⟩ := bind_some' H
    refine K_loop ⟨[(0, (I x8))], []⟩ (loop_ok (fun (s : Int × Int) => ⟨[(0, (I s.1)), (1, (I s.2))], []⟩) (fun (r : Int) => (.exit 0, ⟨[(0, (I r))], []⟩)) (fun r h => by cases h) (T_ratio_divisor_l1_ok k) k (p1, p2) x8 hx8) rfl ?_
    refine K_seq ?_
    refine K_reg [] [] ⟨[(4, (I x8))], []⟩ (by kernel_rfl) trivial ?_
    refine K_gh ⟨[(4, (I x8))], []⟩ (by kernel_rfl) ?_
    cases H
    refine K_ret ?_
    kernel_rfl
def T_ratio_within (k : Nat) (p1 : Int) (p2 : Int) : Option Unit := match k with
  | 0 => none
  | k + 1 => some ()
theorem T_ratio_within_ok (k : Nat) (p1 : Int) (p2 : Int) (r : Unit) : T_ratio_within k p1 p2 = some r → evF X k n_ratio_within [(.agg [.d (.int .i64 p1), .d (.int .i64 p2)])] [] = some ((B (((decide (0 ≤ p1) && decide (p1 ≤ 2305843009213693952)) && decide (1 ≤ p2)) && decide (p2 ≤ 1152921504606846976))), []) := by
  intro H
  cases k with
  | zero => simp [T_ratio_within] at H
  | succ k =>
    simp only [T_ratio_within] at H
    refine F_in X_ratio_within rfl ?_
    refine K_seq ?_
    refine K_reg [] [] ⟨[(1, (.one (.ptr 0 0 0)))], [.cells [.d (.int .i64 p1), .d (.int .i64 p2)]]⟩ (by kernel_rfl) trivial ?_
    refine K_seq ?_
    refine K_reg [.m, .m, .m] [([.cells [.d (.int .i64 p1), .d (.int .i64 p2)]] : Heap) = [.cells [.d (.int .i64 p1), .d (.int .i64 p2)]], ([.cells [.d (.int .i64 p1), .d (.int .i64 p2)]] : Heap) = [.cells [.d (.int .i64 p1), .d (.int .i64 p2)]], ([.cells [.d (.int .i64 p1), .d (.int .i64 p2)]] : Heap) = [.cells [.d (.int .i64 p1), .d (.int .i64 p2)]]] ⟨[(2, (B (((decide (0 ≤ p1) && decide (p1 ≤ 2305843009213693952)) && decide (1 ≤ p2)) && decide (p2 ≤ 1152921504606846976))))], []⟩ (by kernel_rfl) (AC rfl (AC rfl (A1 rfl))) ?_
    refine K_gh ⟨[(2, (B (((decide (0 ≤ p1) && decide (p1 ≤ 2305843009213693952)) && decide (1 ≤ p2)) && decide (p2 ≤ 1152921504606846976))))], []⟩ (by kernel_rfl) ?_
    cases H
    refine K_ret ?_
    kernel_rfl
def T_ratio_Make (k : Nat) (p1 : Int) (p2 : Int) : Option (Int × Int × Int) := match k with
  | 0 => none
  | k + 1 => (if (decide (p1 < 0) || decide (p2 < 1)) = true then some (0, 0, 1) else (T_ratio_divisor k p1 p2).bind fun x2 => (if x2 ≠ 0 then (T_ratio_within k (w64 (p1.tdiv x2)) (w64 (p2.tdiv x2))).bind fun x4 => (if (!(((decide (0 ≤ (w64 (p1.tdiv x2))) && decide ((w64 (p1.tdiv x2)) ≤ 2305843009213693952)) && decide (1 ≤ (w64 (p2.tdiv x2)))) && decide ((w64 (p2.tdiv x2)) ≤ 1152921504606846976))) = true then some (0, 0, 1) else some ((w64 (p1.tdiv x2)), (w64 (p2.tdiv x2)), 0)) else none))
theorem T_ratio_Make_ok (k : Nat) (p1 : Int) (p2 : Int) (r : Int × Int × Int) : T_ratio_Make k p1 p2 = some r → evF X k n_ratio_Make [(I p1), (I p2)] [] = some ((.tup [(true, [.d (.int .i64 r.1), .d (.int .i64 r.2.1)]), (false, [.d (.int .i64 r.2.2)])]), []) := by
  intro H
  cases k with
  | zero => simp [T_ratio_Make] at H
  | succ k =>
    simp only [T_ratio_Make] at H
    refine F_in X_ratio_Make rfl ?_
    refine K_seq ?_
    refine K_reg [] [] ⟨[(0, (I p1)), (1, (I p2)), (4, (.one (.ptr 0 0 0)))], [.cells [.d (.int .i64 0), .d (.int .i64 0)]]⟩ (by kernel_rfl) trivial ?_
    refine K_seq ?_
    refine K_seq ?_
    refine K_reg [.m] [([.cells [.d (.int .i64 0), .d (.int .i64 0)]] : Heap) = [.cells [.d (.int .i64 0), .d (.int .i64 0)]]] ⟨[(0, (I p1)), (1, (I p2)), (4, (.one (.ptr 0 0 0))), (13, (B (decide (p1 < 0) || decide (p2 < 1))))], [.cells [.d (.int .i64 0), .d (.int .i64 0)]]⟩ (by kernel_rfl) (A1 rfl) ?_
    rcases ite_some H with ⟨hx1, H⟩ | ⟨hx1, H⟩
    · refine K_t rfl hx1 ?_
      refine K_seq ?_
      refine K_reg [] [] ⟨[(4, (.one (.ptr 0 0 0))), (5, (I 1))], [.cells [.d (.int .i64 0), .d (.int .i64 0)]]⟩ (by kernel_rfl) trivial ?_
      refine K_gh ⟨[(4, (.one (.ptr 0 0 0))), (5, (I 1))], [.cells [.d (.int .i64 0), .d (.int .i64 0)]]⟩ (by kernel_rfl) ?_
      cases H
      refine K_ret ?_
      kernel_rfl
    · refine K_f rfl (Bool.eq_false_iff.2 hx1) ?_
      refine K_gh ⟨[(0, (I p1)), (1, (I p2)), (4, (.one (.ptr 0 0 0)))], [.cells [.d (.int .i64 0), .d (.int .i64 0)]]⟩ (by kernel_rfl) ?_
      refine K_skip ?_
      refine K_seq ?_
      obtain ⟨x2, hx2, H⟩ := bind_some' H
      refine K_reg [.r (I x2) []] [evF X k n_ratio_divisor [(I p1), (I p2)] [] = some ((I x2), [])] ⟨[(0, (I p1)), (1, (I p2)), (4, (.one (.ptr 0 0 0))), (6, (I x2))], [.cells [.d (.int .i64 0), .d (.int .i64 0)]]⟩ (by kernel_rfl) (A1 (T_ratio_divisor_ok k p1 p2 x2 hx2)) ?_
      refine K_seq ?_
      obtain ⟨hx3, H⟩ := guard_some H
      refine K_reg [] [x2 ≠ (0 : Int), x2 ≠ (0 : Int)] ⟨[(4, (.one (.ptr 0 0 0))), (7, (.one (.ptr 1 0 0)))], [.cells [.d (.int .i64 0), .d (.int .i64 0)], .cells [.d (.int .i64 (w64 (p1.tdiv x2))), .d (.int .i64 (w64 (p2.tdiv x2)))]]⟩ (by kernel_rfl) (AC hx3 (A1 hx3)) ?_
      refine K_seq ?_
      refine K_seq ?_
      obtain ⟨x4, hx4, H⟩ := bind_some' H
      refine K_reg [.r (B (((decide (0 ≤ (w64 (p1.tdiv x2))) && decide ((w64 (p1.tdiv x2)) ≤ 2305843009213693952)) && decide (1 ≤ (w64 (p2.tdiv x2)))) && decide ((w64 (p2.tdiv x2)) ≤ 1152921504606846976))) []] [evF X k n_ratio_within [(.agg [.d (.int .i64 (w64 (p1.tdiv x2))), .d (.int .i64 (w64 (p2.tdiv x2)))])] [] = some ((B (((decide (0 ≤ (w64 (p1.tdiv x2))) && decide ((w64 (p1.tdiv x2)) ≤ 2305843009213693952)) && decide (1 ≤ (w64 (p2.tdiv x2)))) && decide ((w64 (p2.tdiv x2)) ≤ 1152921504606846976))), [])] ⟨[(4, (.one (.ptr 0 0 0))), (7, (.one (.ptr 1 0 0))), (27, (B (!(((decide (0 ≤ (w64 (p1.tdiv x2))) && decide ((w64 (p1.tdiv x2)) ≤ 2305843009213693952)) && decide (1 ≤ (w64 (p2.tdiv x2)))) && decide ((w64 (p2.tdiv x2)) ≤ 1152921504606846976)))))], [.cells [.d (.int .i64 0), .d (.int .i64 0)], .cells [.d (.int .i64 (w64 (p1.tdiv x2))), .d (.int .i64 (w64 (p2.tdiv x2)))]]⟩ (by kernel_rfl) (A1 (T_ratio_within_ok k (w64 (p1.tdiv x2)) (w64 (p2.tdiv x2)) x4 hx4)) ?_
      rcases ite_some H with ⟨hx5, H⟩ | ⟨hx5, H⟩
      · refine K_t rfl hx5 ?_
        refine K_seq ?_
        refine K_reg [] [] ⟨[(4, (.one (.ptr 0 0 0))), (5, (I 1))], [.cells [.d (.int .i64 0), .d (.int .i64 0)]]⟩ (by kernel_rfl) trivial ?_
        refine K_gh ⟨[(4, (.one (.ptr 0 0 0))), (5, (I 1))], [.cells [.d (.int .i64 0), .d (.int .i64 0)]]⟩ (by kernel_rfl) ?_
        cases H
        refine K_ret ?_
        kernel_rfl
      · refine K_f rfl (Bool.eq_false_iff.2 hx5) ?_
        refine K_gh ⟨[(4, (.one (.ptr 0 0 0))), (7, (.one (.ptr 1 0 0)))], [.cells [.d (.int .i64 0), .d (.int .i64 0)], .cells [.d (.int .i64 (w64 (p1.tdiv x2))), .d (.int .i64 (w64 (p2.tdiv x2)))]]⟩ (by kernel_rfl) ?_
        refine K_skip ?_
        refine K_seq ?_
        refine K_reg [] [] ⟨[(4, (.one (.ptr 0 0 0))), (5, (I 0))], [.cells [.d (.int .i64 (w64 (p1.tdiv x2))), .d (.int .i64 (w64 (p2.tdiv x2)))]]⟩ (by kernel_rfl) trivial ?_
        refine K_gh ⟨[(4, (.one (.ptr 0 0 0))), (5, (I 0))], [.cells [.d (.int .i64 (w64 (p1.tdiv x2))), .d (.int .i64 (w64 (p2.tdiv x2)))]]⟩ (by kernel_rfl) ?_
        cases H
        refine K_ret ?_
        kernel_rfl
def T_ratio_Valid (k : Nat) (p1 : Int) (p2 : Int) : Option Bool := match k with
  | 0 => none
  | k + 1 => ((((T_ratio_within k p1 p2).bind fun x1 => (if (((decide (0 ≤ p1) && decide (p1 ≤ 2305843009213693952)) && decide (1 ≤ p2)) && decide (p2 ≤ 1152921504606846976)) = true then ((T_ratio_divisor k p1 p2).bind fun x4 => some (decide (x4 = 1))) else some false))).bind fun x5 => some x5)
theorem T_ratio_Valid_ok (k : Nat) (p1 : Int) (p2 : Int) (r : Bool) : T_ratio_Valid k p1 p2 = some r → evF X k n_ratio_Valid [(.agg [.d (.int .i64 p1), .d (.int .i64 p2)])] [] = some ((B r), []) := by
  intro H
  cases k with
  | zero => simp [T_ratio_Valid] at H
  | succ k =>
    simp only [T_ratio_Valid] at H
    refine F_in X_ratio_Valid rfl ?_
    refine K_seq ?_
    refine K_reg [] [] ⟨[(1, (.one (.ptr 0 0 0)))], [.cells [.d (.int .i64 p1), .d (.int .i64 p2)]]⟩ (by kernel_rfl) trivial ?_
    refine K_seq ?_
    obtain ⟨x5, hx5, H⟩ := bind_some' H
    refine K_of ⟨[(2, (B x5))], []⟩ ?_ ?_
    · clear H; have H := hx5; clear hx5; refine K_in ?_
      obtain ⟨x1, hx1, H⟩ := bind_some' H
      rcases ite_some H with ⟨hx3, H⟩ | ⟨hx3, H⟩
      · obtain ⟨x4, hx4, H⟩ := bind_some' H
        refine K_reg [.r (B (((decide (0 ≤ p1) && decide (p1 ≤ 2305843009213693952)) && decide (1 ≤ p2)) && decide (p2 ≤ 1152921504606846976))) [], .b true, .r (I x4) []] [evF X k n_ratio_within [(.agg [.d (.int .i64 p1), .d (.int .i64 p2)])] [] = some ((B (((decide (0 ≤ p1) && decide (p1 ≤ 2305843009213693952)) && decide (1 ≤ p2)) && decide (p2 ≤ 1152921504606846976))), []), (((decide (0 ≤ p1) && decide (p1 ≤ 2305843009213693952)) && decide (1 ≤ p2)) && decide (p2 ≤ 1152921504606846976)) = true, evF X k n_ratio_divisor [(I p1), (I p2)] [] = some ((I x4), [])] ⟨[(2, (B (decide (x4 = 1))))], []⟩ (by kernel_rfl) (AC (T_ratio_within_ok k p1 p2 x1 hx1) (AC hx3 (A1 (T_ratio_divisor_ok k p1 p2 x4 hx4)))) ?_
        cases H
        exact K_end rfl
      · refine K_reg [.r (B (((decide (0 ≤ p1) && decide (p1 ≤ 2305843009213693952)) && decide (1 ≤ p2)) && decide (p2 ≤ 1152921504606846976))) [], .b false] [evF X k n_ratio_within [(.agg [.d (.int .i64 p1), .d (.int .i64 p2)])] [] = some ((B (((decide (0 ≤ p1) && decide (p1 ≤ 2305843009213693952)) && decide (1 ≤ p2)) && decide (p2 ≤ 1152921504606846976))), []), (((decide (0 ≤ p1) && decide (p1 ≤ 2305843009213693952)) && decide (1 ≤ p2)) && decide (p2 ≤ 1152921504606846976)) = false] ⟨[(2, (B false))], []⟩ (by kernel_rfl) (AC (T_ratio_within_ok k p1 p2 x1 hx1) (A1 (Bool.eq_false_iff.2 hx3))) ?_
        cases H
        exact K_end rfl
    refine K_gh ⟨[(2, (B x5))], []⟩ (by kernel_rfl) ?_
    cases H
    refine K_ret ?_
    kernel_rfl
def T_math_bits_Mul64 (k : Nat) (p1 : Int) (p2 : Int) : Option Unit := match k with
  | 0 => none
  | k + 1 => some ()
theorem T_math_bits_Mul64_ok (k : Nat) (p1 : Int) (p2 : Int) (r : Unit) : T_math_bits_Mul64 k p1 p2 = some r → evF X k n_math_bits_Mul64 [(.one (.d (.int .u64 p1))), (.one (.d (.int .u64 p2)))] [] = some ((.tup [(false, [.d (.int .u64 (IntKind.wrap .u64 ((IntKind.wrap .u64 ((IntKind.wrap .u64 ((p1.fdiv (2 ^ 32)) * (p2.fdiv (2 ^ 32)))) + ((IntKind.wrap .u64 ((IntKind.wrap .u64 ((p1.fdiv (2 ^ 32)) * (bAnd .u64 p2 4294967295))) + ((IntKind.wrap .u64 ((bAnd .u64 p1 4294967295) * (bAnd .u64 p2 4294967295))).fdiv (2 ^ 32)))).fdiv (2 ^ 32)))) + ((IntKind.wrap .u64 ((bAnd .u64 (IntKind.wrap .u64 ((IntKind.wrap .u64 ((p1.fdiv (2 ^ 32)) * (bAnd .u64 p2 4294967295))) + ((IntKind.wrap .u64 ((bAnd .u64 p1 4294967295) * (bAnd .u64 p2 4294967295))).fdiv (2 ^ 32)))) 4294967295) + (IntKind.wrap .u64 ((bAnd .u64 p1 4294967295) * (p2.fdiv (2 ^ 32)))))).fdiv (2 ^ 32)))))]), (false, [.d (.int .u64 (IntKind.wrap .u64 (p1 * p2)))])]), []) := by
  intro H
  cases k with
  | zero => simp [T_math_bits_Mul64] at H
  | succ k =>
    simp only [T_math_bits_Mul64] at H
    refine F_in X_math_bits_Mul64 rfl ?_
    refine K_seq ?_
    refine K_reg [] [] ⟨[(0, (.one (.d (.int .u64 p1)))), (1, (.one (.d (.int .u64 p2))))], []⟩ (by kernel_rfl) trivial ?_
    refine K_seq ?_
    refine K_reg [] [] ⟨[(0, (.one (.d (.int .u64 p1)))), (1, (.one (.d (.int .u64 p2)))), (6, (.one (.d (.int .u64 (bAnd .u64 p1 4294967295)))))], []⟩ (by kernel_rfl) trivial ?_
    refine K_seq ?_
    refine K_reg [] [(0 : Int) ≤ 32] ⟨[(0, (.one (.d (.int .u64 p1)))), (1, (.one (.d (.int .u64 p2)))), (6, (.one (.d (.int .u64 (bAnd .u64 p1 4294967295))))), (7, (.one (.d (.int .u64 (p1.fdiv (2 ^ 32))))))], []⟩ (by kernel_rfl) (A1 (by decide)) ?_
    refine K_seq ?_
    refine K_reg [] [] ⟨[(0, (.one (.d (.int .u64 p1)))), (1, (.one (.d (.int .u64 p2)))), (6, (.one (.d (.int .u64 (bAnd .u64 p1 4294967295))))), (7, (.one (.d (.int .u64 (p1.fdiv (2 ^ 32)))))), (8, (.one (.d (.int .u64 (bAnd .u64 p2 4294967295)))))], []⟩ (by kernel_rfl) trivial ?_
    refine K_seq ?_
    refine K_reg [] [(0 : Int) ≤ 32] ⟨[(0, (.one (.d (.int .u64 p1)))), (1, (.one (.d (.int .u64 p2)))), (6, (.one (.d (.int .u64 (bAnd .u64 p1 4294967295))))), (7, (.one (.d (.int .u64 (p1.fdiv (2 ^ 32)))))), (8, (.one (.d (.int .u64 (bAnd .u64 p2 4294967295))))), (9, (.one (.d (.int .u64 (p2.fdiv (2 ^ 32))))))], []⟩ (by kernel_rfl) (A1 (by decide)) ?_
    refine K_seq ?_
    refine K_reg [] [] ⟨[(0, (.one (.d (.int .u64 p1)))), (1, (.one (.d (.int .u64 p2)))), (6, (.one (.d (.int .u64 (bAnd .u64 p1 4294967295))))), (7, (.one (.d (.int .u64 (p1.fdiv (2 ^ 32)))))), (8, (.one (.d (.int .u64 (bAnd .u64 p2 4294967295))))), (9, (.one (.d (.int .u64 (p2.fdiv (2 ^ 32)))))), (10, (.one (.d (.int .u64 (IntKind.wrap .u64 ((bAnd .u64 p1 4294967295) * (bAnd .u64 p2 4294967295)))))))], []⟩ (by kernel_rfl) trivial ?_
    refine K_seq ?_
    refine K_reg [] [(0 : Int) ≤ 32] ⟨[(0, (.one (.d (.int .u64 p1)))), (1, (.one (.d (.int .u64 p2)))), (6, (.one (.d (.int .u64 (bAnd .u64 p1 4294967295))))), (7, (.one (.d (.int .u64 (p1.fdiv (2 ^ 32)))))), (9, (.one (.d (.int .u64 (p2.fdiv (2 ^ 32)))))), (11, (.one (.d (.int .u64 (IntKind.wrap .u64 ((IntKind.wrap .u64 ((p1.fdiv (2 ^ 32)) * (bAnd .u64 p2 4294967295))) + ((IntKind.wrap .u64 ((bAnd .u64 p1 4294967295) * (bAnd .u64 p2 4294967295))).fdiv (2 ^ 32))))))))], []⟩ (by kernel_rfl) (A1 (by decide)) ?_
    refine K_seq ?_
    refine K_reg [] [] ⟨[(0, (.one (.d (.int .u64 p1)))), (1, (.one (.d (.int .u64 p2)))), (6, (.one (.d (.int .u64 (bAnd .u64 p1 4294967295))))), (7, (.one (.d (.int .u64 (p1.fdiv (2 ^ 32)))))), (9, (.one (.d (.int .u64 (p2.fdiv (2 ^ 32)))))), (11, (.one (.d (.int .u64 (IntKind.wrap .u64 ((IntKind.wrap .u64 ((p1.fdiv (2 ^ 32)) * (bAnd .u64 p2 4294967295))) + ((IntKind.wrap .u64 ((bAnd .u64 p1 4294967295) * (bAnd .u64 p2 4294967295))).fdiv (2 ^ 32)))))))), (12, (.one (.d (.int .u64 (bAnd .u64 (IntKind.wrap .u64 ((IntKind.wrap .u64 ((p1.fdiv (2 ^ 32)) * (bAnd .u64 p2 4294967295))) + ((IntKind.wrap .u64 ((bAnd .u64 p1 4294967295) * (bAnd .u64 p2 4294967295))).fdiv (2 ^ 32)))) 4294967295)))))], []⟩ (by kernel_rfl) trivial ?_
    refine K_seq ?_
    refine K_reg [] [(0 : Int) ≤ 32] ⟨[(0, (.one (.d (.int .u64 p1)))), (1, (.one (.d (.int .u64 p2)))), (6, (.one (.d (.int .u64 (bAnd .u64 p1 4294967295))))), (7, (.one (.d (.int .u64 (p1.fdiv (2 ^ 32)))))), (9, (.one (.d (.int .u64 (p2.fdiv (2 ^ 32)))))), (12, (.one (.d (.int .u64 (bAnd .u64 (IntKind.wrap .u64 ((IntKind.wrap .u64 ((p1.fdiv (2 ^ 32)) * (bAnd .u64 p2 4294967295))) + ((IntKind.wrap .u64 ((bAnd .u64 p1 4294967295) * (bAnd .u64 p2 4294967295))).fdiv (2 ^ 32)))) 4294967295))))), (13, (.one (.d (.int .u64 ((IntKind.wrap .u64 ((IntKind.wrap .u64 ((p1.fdiv (2 ^ 32)) * (bAnd .u64 p2 4294967295))) + ((IntKind.wrap .u64 ((bAnd .u64 p1 4294967295) * (bAnd .u64 p2 4294967295))).fdiv (2 ^ 32)))).fdiv (2 ^ 32))))))], []⟩ (by kernel_rfl) (A1 (by decide)) ?_
    refine K_seq ?_
    refine K_reg [] [] ⟨[(0, (.one (.d (.int .u64 p1)))), (1, (.one (.d (.int .u64 p2)))), (7, (.one (.d (.int .u64 (p1.fdiv (2 ^ 32)))))), (9, (.one (.d (.int .u64 (p2.fdiv (2 ^ 32)))))), (12, (.one (.d (.int .u64 (IntKind.wrap .u64 ((bAnd .u64 (IntKind.wrap .u64 ((IntKind.wrap .u64 ((p1.fdiv (2 ^ 32)) * (bAnd .u64 p2 4294967295))) + ((IntKind.wrap .u64 ((bAnd .u64 p1 4294967295) * (bAnd .u64 p2 4294967295))).fdiv (2 ^ 32)))) 4294967295) + (IntKind.wrap .u64 ((bAnd .u64 p1 4294967295) * (p2.fdiv (2 ^ 32)))))))))), (13, (.one (.d (.int .u64 ((IntKind.wrap .u64 ((IntKind.wrap .u64 ((p1.fdiv (2 ^ 32)) * (bAnd .u64 p2 4294967295))) + ((IntKind.wrap .u64 ((bAnd .u64 p1 4294967295) * (bAnd .u64 p2 4294967295))).fdiv (2 ^ 32)))).fdiv (2 ^ 32))))))], []⟩ (by kernel_rfl) trivial ?_
    refine K_seq ?_
    refine K_reg [] [(0 : Int) ≤ 32] ⟨[(0, (.one (.d (.int .u64 p1)))), (1, (.one (.d (.int .u64 p2)))), (4, (.one (.d (.int .u64 (IntKind.wrap .u64 ((IntKind.wrap .u64 ((IntKind.wrap .u64 ((p1.fdiv (2 ^ 32)) * (p2.fdiv (2 ^ 32)))) + ((IntKind.wrap .u64 ((IntKind.wrap .u64 ((p1.fdiv (2 ^ 32)) * (bAnd .u64 p2 4294967295))) + ((IntKind.wrap .u64 ((bAnd .u64 p1 4294967295) * (bAnd .u64 p2 4294967295))).fdiv (2 ^ 32)))).fdiv (2 ^ 32)))) + ((IntKind.wrap .u64 ((bAnd .u64 (IntKind.wrap .u64 ((IntKind.wrap .u64 ((p1.fdiv (2 ^ 32)) * (bAnd .u64 p2 4294967295))) + ((IntKind.wrap .u64 ((bAnd .u64 p1 4294967295) * (bAnd .u64 p2 4294967295))).fdiv (2 ^ 32)))) 4294967295) + (IntKind.wrap .u64 ((bAnd .u64 p1 4294967295) * (p2.fdiv (2 ^ 32)))))).fdiv (2 ^ 32))))))))], []⟩ (by kernel_rfl) (A1 (by decide)) ?_
    refine K_seq ?_
    refine K_reg [] [] ⟨[(4, (.one (.d (.int .u64 (IntKind.wrap .u64 ((IntKind.wrap .u64 ((IntKind.wrap .u64 ((p1.fdiv (2 ^ 32)) * (p2.fdiv (2 ^ 32)))) + ((IntKind.wrap .u64 ((IntKind.wrap .u64 ((p1.fdiv (2 ^ 32)) * (bAnd .u64 p2 4294967295))) + ((IntKind.wrap .u64 ((bAnd .u64 p1 4294967295) * (bAnd .u64 p2 4294967295))).fdiv (2 ^ 32)))).fdiv (2 ^ 32)))) + ((IntKind.wrap .u64 ((bAnd .u64 (IntKind.wrap .u64 ((IntKind.wrap .u64 ((p1.fdiv (2 ^ 32)) * (bAnd .u64 p2 4294967295))) + ((IntKind.wrap .u64 ((bAnd .u64 p1 4294967295) * (bAnd .u64 p2 4294967295))).fdiv (2 ^ 32)))) 4294967295) + (IntKind.wrap .u64 ((bAnd .u64 p1 4294967295) * (p2.fdiv (2 ^ 32)))))).fdiv (2 ^ 32)))))))), (5, (.one (.d (.int .u64 (IntKind.wrap .u64 (p1 * p2))))))], []⟩ (by kernel_rfl) trivial ?_
    refine K_gh ⟨[(4, (.one (.d (.int .u64 (IntKind.wrap .u64 ((IntKind.wrap .u64 ((IntKind.wrap .u64 ((p1.fdiv (2 ^ 32)) * (p2.fdiv (2 ^ 32)))) + ((IntKind.wrap .u64 ((IntKind.wrap .u64 ((p1.fdiv (2 ^ 32)) * (bAnd .u64 p2 4294967295))) + ((IntKind.wrap .u64 ((bAnd .u64 p1 4294967295) * (bAnd .u64 p2 4294967295))).fdiv (2 ^ 32)))).fdiv (2 ^ 32)))) + ((IntKind.wrap .u64 ((bAnd .u64 (IntKind.wrap .u64 ((IntKind.wrap .u64 ((p1.fdiv (2 ^ 32)) * (bAnd .u64 p2 4294967295))) + ((IntKind.wrap .u64 ((bAnd .u64 p1 4294967295) * (bAnd .u64 p2 4294967295))).fdiv (2 ^ 32)))) 4294967295) + (IntKind.wrap .u64 ((bAnd .u64 p1 4294967295) * (p2.fdiv (2 ^ 32)))))).fdiv (2 ^ 32)))))))), (5, (.one (.d (.int .u64 (IntKind.wrap .u64 (p1 * p2))))))], []⟩ (by kernel_rfl) ?_
    cases H
    refine K_ret ?_
    kernel_rfl

def T_math_bits_Div64 (k : Nat) (p1 : Int) (p2 : Int) (p3 : Int) : Option Unit := match k with
  | 0 => none
  | k + 1 => (if p3 = 0 then none else (if p3 ≤ p1 then none else (if p1 = 0 then (if p3 ≠ 0 then some () else none) else none)))
theorem T_math_bits_Div64_ok (k : Nat) (p1 : Int) (p2 : Int) (p3 : Int) (r : Unit) : T_math_bits_Div64 k p1 p2 p3 = some r → evF X k n_math_bits_Div64 [(.one (.d (.int .u64 p1))), (.one (.d (.int .u64 p2))), (.one (.d (.int .u64 p3)))] [] = some ((.tup [(false, [.d (.int .u64 (IntKind.wrap .u64 (p2.tdiv p3)))]), (false, [.d (.int .u64 (p2.tmod p3))])]), []) := by
  intro H
  cases k with
  | zero => simp [T_math_bits_Div64] at H
  | succ k =>
    simp only [T_math_bits_Div64] at H
    refine F_in X_math_bits_Div64 rfl ?_
    refine K_seq ?_
    refine K_reg [] [] ⟨[(0, (.one (.d (.int .u64 p1)))), (1, (.one (.d (.int .u64 p2)))), (2, (.one (.d (.int .u64 p3))))], []⟩ (by kernel_rfl) trivial ?_
    refine K_seq ?_
    refine K_seq ?_
    refine K_reg [] [] ⟨[(0, (.one (.d (.int .u64 p1)))), (1, (.one (.d (.int .u64 p2)))), (2, (.one (.d (.int .u64 p3)))), (20, (B (decide (p3 = 0))))], []⟩ (by kernel_rfl) trivial ?_
    rcases ite_some H with ⟨hx1, H⟩ | ⟨hx1, H⟩
    · refine K_t rfl (decide_eq_true hx1) ?_
      cases H
    · refine K_f rfl (decide_eq_false hx1) ?_
      refine K_gh ⟨[(0, (.one (.d (.int .u64 p1)))), (1, (.one (.d (.int .u64 p2)))), (2, (.one (.d (.int .u64 p3))))], []⟩ (by kernel_rfl) ?_
      refine K_skip ?_
      refine K_seq ?_
      refine K_seq ?_
      refine K_reg [] [] ⟨[(0, (.one (.d (.int .u64 p1)))), (1, (.one (.d (.int .u64 p2)))), (2, (.one (.d (.int .u64 p3)))), (24, (B (decide (p3 ≤ p1))))], []⟩ (by kernel_rfl) trivial ?_
      rcases ite_some H with ⟨hx2, H⟩ | ⟨hx2, H⟩
      · refine K_t rfl (decide_eq_true hx2) ?_
        cases H
      · refine K_f rfl (decide_eq_false hx2) ?_
        refine K_gh ⟨[(0, (.one (.d (.int .u64 p1)))), (1, (.one (.d (.int .u64 p2)))), (2, (.one (.d (.int .u64 p3))))], []⟩ (by kernel_rfl) ?_
        refine K_skip ?_
        refine K_seq ?_
        refine K_seq ?_
        refine K_reg [] [] ⟨[(0, (.one (.d (.int .u64 p1)))), (1, (.one (.d (.int .u64 p2)))), (2, (.one (.d (.int .u64 p3)))), (27, (B (decide (p1 = 0))))], []⟩ (by kernel_rfl) trivial ?_
        rcases ite_some H with ⟨hx3, H⟩ | ⟨hx3, H⟩
        · refine K_t rfl (decide_eq_true hx3) ?_
          refine K_seq ?_
          obtain ⟨hx4, H⟩ := guard_some H
          refine K_reg [] [p3 ≠ (0 : Int), p3 ≠ (0 : Int)] ⟨[(6, (.one (.d (.int .u64 (IntKind.wrap .u64 (p2.tdiv p3)))))), (7, (.one (.d (.int .u64 (p2.tmod p3)))))], []⟩ (by kernel_rfl) (AC hx4 (A1 hx4)) ?_
          refine K_gh ⟨[(6, (.one (.d (.int .u64 (IntKind.wrap .u64 (p2.tdiv p3)))))), (7, (.one (.d (.int .u64 (p2.tmod p3)))))], []⟩ (by kernel_rfl) ?_
          cases H
          refine K_ret ?_
          kernel_rfl
        · refine K_f rfl (decide_eq_false hx3) ?_
          refine K_gh ⟨[(0, (.one (.d (.int .u64 p1)))), (1, (.one (.d (.int .u64 p2)))), (2, (.one (.d (.int .u64 p3))))], []⟩ (by kernel_rfl) ?_
          refine K_skip ?_
          refine K_seq ?_
          cases H
def T_ratio_Add (k : Nat) (p1 : Int) (p2 : Int) (p3 : Int) (p4 : Int) : Option (Int × Int × Int) := match k with
  | 0 => none
  | k + 1 => ((((T_ratio_Valid k p1 p2).bind fun x1 => (if (!x1) = true then some true else ((T_ratio_Valid k p3 p4).bind fun x4 => some (!x4))))).bind fun x5 => (if x5 = true then some (0, 0, 1) else (T_ratio_divisor k p2 p4).bind fun x7 => (if x7 ≠ 0 then (T_math_bits_Mul64 k (IntKind.wrap .u64 (p1)) (IntKind.wrap .u64 ((w64 (p4.tdiv x7))))).bind fun x9 => (if x7 ≠ 0 then (T_math_bits_Mul64 k (IntKind.wrap .u64 (p3)) (IntKind.wrap .u64 ((w64 (p2.tdiv x7))))).bind fun x11 => (addT k (IntKind.wrap .u64 ((IntKind.wrap .u64 (p1)) * (IntKind.wrap .u64 ((w64 (p4.tdiv x7)))))) (IntKind.wrap .u64 ((IntKind.wrap .u64 (p3)) * (IntKind.wrap .u64 ((w64 (p2.tdiv x7)))))) 0).bind fun x12 => (addT k (IntKind.wrap .u64 ((IntKind.wrap .u64 ((IntKind.wrap .u64 (((IntKind.wrap .u64 (p1)).fdiv (2 ^ 32)) * ((IntKind.wrap .u64 ((w64 (p4.tdiv x7)))).fdiv (2 ^ 32)))) + ((IntKind.wrap .u64 ((IntKind.wrap .u64 (((IntKind.wrap .u64 (p1)).fdiv (2 ^ 32)) * (bAnd .u64 (IntKind.wrap .u64 ((w64 (p4.tdiv x7)))) 4294967295))) + ((IntKind.wrap .u64 ((bAnd .u64 (IntKind.wrap .u64 (p1)) 4294967295) * (bAnd .u64 (IntKind.wrap .u64 ((w64 (p4.tdiv x7)))) 4294967295))).fdiv (2 ^ 32)))).fdiv (2 ^ 32)))) + ((IntKind.wrap .u64 ((bAnd .u64 (IntKind.wrap .u64 ((IntKind.wrap .u64 (((IntKind.wrap .u64 (p1)).fdiv (2 ^ 32)) * (bAnd .u64 (IntKind.wrap .u64 ((w64 (p4.tdiv x7)))) 4294967295))) + ((IntKind.wrap .u64 ((bAnd .u64 (IntKind.wrap .u64 (p1)) 4294967295) * (bAnd .u64 (IntKind.wrap .u64 ((w64 (p4.tdiv x7)))) 4294967295))).fdiv (2 ^ 32)))) 4294967295) + (IntKind.wrap .u64 ((bAnd .u64 (IntKind.wrap .u64 (p1)) 4294967295) * ((IntKind.wrap .u64 ((w64 (p4.tdiv x7)))).fdiv (2 ^ 32)))))).fdiv (2 ^ 32)))) (IntKind.wrap .u64 ((IntKind.wrap .u64 ((IntKind.wrap .u64 (((IntKind.wrap .u64 (p3)).fdiv (2 ^ 32)) * ((IntKind.wrap .u64 ((w64 (p2.tdiv x7)))).fdiv (2 ^ 32)))) + ((IntKind.wrap .u64 ((IntKind.wrap .u64 (((IntKind.wrap .u64 (p3)).fdiv (2 ^ 32)) * (bAnd .u64 (IntKind.wrap .u64 ((w64 (p2.tdiv x7)))) 4294967295))) + ((IntKind.wrap .u64 ((bAnd .u64 (IntKind.wrap .u64 (p3)) 4294967295) * (bAnd .u64 (IntKind.wrap .u64 ((w64 (p2.tdiv x7)))) 4294967295))).fdiv (2 ^ 32)))).fdiv (2 ^ 32)))) + ((IntKind.wrap .u64 ((bAnd .u64 (IntKind.wrap .u64 ((IntKind.wrap .u64 (((IntKind.wrap .u64 (p3)).fdiv (2 ^ 32)) * (bAnd .u64 (IntKind.wrap .u64 ((w64 (p2.tdiv x7)))) 4294967295))) + ((IntKind.wrap .u64 ((bAnd .u64 (IntKind.wrap .u64 (p3)) 4294967295) * (bAnd .u64 (IntKind.wrap .u64 ((w64 (p2.tdiv x7)))) 4294967295))).fdiv (2 ^ 32)))) 4294967295) + (IntKind.wrap .u64 ((bAnd .u64 (IntKind.wrap .u64 (p3)) 4294967295) * ((IntKind.wrap .u64 ((w64 (p2.tdiv x7)))).fdiv (2 ^ 32)))))).fdiv (2 ^ 32)))) x12.2).bind fun x13 => (if (IntKind.wrap .u64 (x7)) ≠ 0 then (T_math_bits_Div64 k (x13.1.tmod (IntKind.wrap .u64 (x7))) x12.1 (IntKind.wrap .u64 (x7))).bind fun x15 => (T_ratio_divisor k (w64 ((x12.1.tmod (IntKind.wrap .u64 (x7))))) x7).bind fun x16 => (if (IntKind.wrap .u64 (x16)) ≤ x13.1 then some (0, 0, 4) else (T_math_bits_Div64 k x13.1 x12.1 (IntKind.wrap .u64 (x16))).bind fun x18 => (if x7 ≠ 0 then (if (IntKind.wrap .u64 (x16)) ≠ 0 then (T_math_bits_Mul64 k (IntKind.wrap .u64 ((w64 (p2.tdiv x7)))) (IntKind.wrap .u64 ((IntKind.wrap .u64 (p4)).tdiv (IntKind.wrap .u64 (x16))))).bind fun x21 => (if ((decide (2305843009213693952 < (IntKind.wrap .u64 (x12.1.tdiv (IntKind.wrap .u64 (x16))))) || decide (0 < (IntKind.wrap .u64 ((IntKind.wrap .u64 ((IntKind.wrap .u64 (((IntKind.wrap .u64 ((w64 (p2.tdiv x7)))).fdiv (2 ^ 32)) * ((IntKind.wrap .u64 ((IntKind.wrap .u64 (p4)).tdiv (IntKind.wrap .u64 (x16)))).fdiv (2 ^ 32)))) + ((IntKind.wrap .u64 ((IntKind.wrap .u64 (((IntKind.wrap .u64 ((w64 (p2.tdiv x7)))).fdiv (2 ^ 32)) * (bAnd .u64 (IntKind.wrap .u64 ((IntKind.wrap .u64 (p4)).tdiv (IntKind.wrap .u64 (x16)))) 4294967295))) + ((IntKind.wrap .u64 ((bAnd .u64 (IntKind.wrap .u64 ((w64 (p2.tdiv x7)))) 4294967295) * (bAnd .u64 (IntKind.wrap .u64 ((IntKind.wrap .u64 (p4)).tdiv (IntKind.wrap .u64 (x16)))) 4294967295))).fdiv (2 ^ 32)))).fdiv (2 ^ 32)))) + ((IntKind.wrap .u64 ((bAnd .u64 (IntKind.wrap .u64 ((IntKind.wrap .u64 (((IntKind.wrap .u64 ((w64 (p2.tdiv x7)))).fdiv (2 ^ 32)) * (bAnd .u64 (IntKind.wrap .u64 ((IntKind.wrap .u64 (p4)).tdiv (IntKind.wrap .u64 (x16)))) 4294967295))) + ((IntKind.wrap .u64 ((bAnd .u64 (IntKind.wrap .u64 ((w64 (p2.tdiv x7)))) 4294967295) * (bAnd .u64 (IntKind.wrap .u64 ((IntKind.wrap .u64 (p4)).tdiv (IntKind.wrap .u64 (x16)))) 4294967295))).fdiv (2 ^ 32)))) 4294967295) + (IntKind.wrap .u64 ((bAnd .u64 (IntKind.wrap .u64 ((w64 (p2.tdiv x7)))) 4294967295) * ((IntKind.wrap .u64 ((IntKind.wrap .u64 (p4)).tdiv (IntKind.wrap .u64 (x16)))).fdiv (2 ^ 32)))))).fdiv (2 ^ 32)))))) || decide (1152921504606846976 < (IntKind.wrap .u64 ((IntKind.wrap .u64 ((w64 (p2.tdiv x7)))) * (IntKind.wrap .u64 ((IntKind.wrap .u64 (p4)).tdiv (IntKind.wrap .u64 (x16)))))))) = true then some (0, 0, 4) else some ((w64 ((IntKind.wrap .u64 (x12.1.tdiv (IntKind.wrap .u64 (x16)))))), (w64 ((IntKind.wrap .u64 ((IntKind.wrap .u64 ((w64 (p2.tdiv x7)))) * (IntKind.wrap .u64 ((IntKind.wrap .u64 (p4)).tdiv (IntKind.wrap .u64 (x16)))))))), 0)) else none) else none)) else none) else none) else none)))
theorem T_ratio_Add_ok (k : Nat) (p1 : Int) (p2 : Int) (p3 : Int) (p4 : Int) (r : Int × Int × Int) : T_ratio_Add k p1 p2 p3 p4 = some r → evF X k n_ratio_Add [(.agg [.d (.int .i64 p1), .d (.int .i64 p2)]), (.agg [.d (.int .i64 p3), .d (.int .i64 p4)])] [] = some ((.tup [(true, [.d (.int .i64 r.1), .d (.int .i64 r.2.1)]), (false, [.d (.int .i64 r.2.2)])]), []) := by
  intro H
  cases k with
  | zero => simp [T_ratio_Add] at H
  | succ k =>
    simp only [T_ratio_Add] at H
    refine F_in X_ratio_Add rfl ?_
    refine K_seq ?_
    refine K_reg [] [] ⟨[(2, (.one (.ptr 0 0 0))), (3, (.one (.ptr 1 0 0))), (4, (.one (.ptr 2 0 0)))], [.cells [.d (.int .i64 p1), .d (.int .i64 p2)], .cells [.d (.int .i64 p3), .d (.int .i64 p4)], .cells [.d (.int .i64 0), .d (.int .i64 0)]]⟩ (by kernel_rfl) trivial ?_
    refine K_seq ?_
    refine K_seq ?_
    obtain ⟨x5, hx5, H⟩ := bind_some' H
    refine K_of ⟨[(2, (.one (.ptr 0 0 0))), (3, (.one (.ptr 1 0 0))), (4, (.one (.ptr 2 0 0))), (26, (B x5))], [.cells [.d (.int .i64 p1), .d (.int .i64 p2)], .cells [.d (.int .i64 p3), .d (.int .i64 p4)], .cells [.d (.int .i64 0), .d (.int .i64 0)]]⟩ ?_ ?_
    · clear H; have H := hx5; clear hx5; refine K_in ?_
      obtain ⟨x1, hx1, H⟩ := bind_some' H
      rcases ite_some H with ⟨hx3, H⟩ | ⟨hx3, H⟩
      · refine K_reg [.r (B x1) [], .b true] [evF X k n_ratio_Valid [(.agg [.d (.int .i64 p1), .d (.int .i64 p2)])] [] = some ((B x1), []), (!x1) = true] ⟨[(2, (.one (.ptr 0 0 0))), (3, (.one (.ptr 1 0 0))), (4, (.one (.ptr 2 0 0))), (26, (B true))], [.cells [.d (.int .i64 p1), .d (.int .i64 p2)], .cells [.d (.int .i64 p3), .d (.int .i64 p4)], .cells [.d (.int .i64 0), .d (.int .i64 0)]]⟩ (by kernel_rfl) (AC (T_ratio_Valid_ok k p1 p2 x1 hx1) (A1 hx3)) ?_
        cases H
        exact K_end rfl
      · obtain ⟨x4, hx4, H⟩ := bind_some' H
        refine K_reg [.r (B x1) [], .b false, .r (B x4) []] [evF X k n_ratio_Valid [(.agg [.d (.int .i64 p1), .d (.int .i64 p2)])] [] = some ((B x1), []), (!x1) = false, evF X k n_ratio_Valid [(.agg [.d (.int .i64 p3), .d (.int .i64 p4)])] [] = some ((B x4), [])] ⟨[(2, (.one (.ptr 0 0 0))), (3, (.one (.ptr 1 0 0))), (4, (.one (.ptr 2 0 0))), (26, (B (!x4)))], [.cells [.d (.int .i64 p1), .d (.int .i64 p2)], .cells [.d (.int .i64 p3), .d (.int .i64 p4)], .cells [.d (.int .i64 0), .d (.int .i64 0)]]⟩ (by kernel_rfl) (AC (T_ratio_Valid_ok k p1 p2 x1 hx1) (AC (Bool.eq_false_iff.2 hx3) (A1 (T_ratio_Valid_ok k p3 p4 x4 hx4)))) ?_
        cases H
        exact K_end rfl
    rcases ite_some H with ⟨hx6, H⟩ | ⟨hx6, H⟩
    · refine K_t rfl hx6 ?_
      refine K_seq ?_
      refine K_reg [] [] ⟨[(4, (.one (.ptr 0 0 0))), (5, (I 1))], [.cells [.d (.int .i64 0), .d (.int .i64 0)]]⟩ (by kernel_rfl) trivial ?_
      refine K_gh ⟨[(4, (.one (.ptr 0 0 0))), (5, (I 1))], [.cells [.d (.int .i64 0), .d (.int .i64 0)]]⟩ (by kernel_rfl) ?_
      cases H
      refine K_ret ?_
      kernel_rfl
    · refine K_f rfl (Bool.eq_false_iff.2 hx6) ?_
      refine K_gh ⟨[(2, (.one (.ptr 0 0 0))), (3, (.one (.ptr 1 0 0))), (4, (.one (.ptr 2 0 0)))], [.cells [.d (.int .i64 p1), .d (.int .i64 p2)], .cells [.d (.int .i64 p3), .d (.int .i64 p4)], .cells [.d (.int .i64 0), .d (.int .i64 0)]]⟩ (by kernel_rfl) ?_
      refine K_skip ?_
      refine K_seq ?_
      obtain ⟨x7, hx7, H⟩ := bind_some' H
      refine K_reg [.r (I x7) []] [evF X k n_ratio_divisor [(I p2), (I p4)] [] = some ((I x7), [])] ⟨[(2, (.one (.ptr 0 0 0))), (3, (.one (.ptr 1 0 0))), (4, (.one (.ptr 2 0 0))), (6, (I x7))], [.cells [.d (.int .i64 p1), .d (.int .i64 p2)], .cells [.d (.int .i64 p3), .d (.int .i64 p4)], .cells [.d (.int .i64 0), .d (.int .i64 0)]]⟩ (by kernel_rfl) (A1 (T_ratio_divisor_ok k p2 p4 x7 hx7)) ?_
      refine K_seq ?_
      obtain ⟨hx8, H⟩ := guard_some H
      obtain ⟨x9, hx9, H⟩ := bind_some' H
      refine K_reg [.r (.tup [(false, [.d (.int .u64 (IntKind.wrap .u64 ((IntKind.wrap .u64 ((IntKind.wrap .u64 (((IntKind.wrap .u64 (p1)).fdiv (2 ^ 32)) * ((IntKind.wrap .u64 ((w64 (p4.tdiv x7)))).fdiv (2 ^ 32)))) + ((IntKind.wrap .u64 ((IntKind.wrap .u64 (((IntKind.wrap .u64 (p1)).fdiv (2 ^ 32)) * (bAnd .u64 (IntKind.wrap .u64 ((w64 (p4.tdiv x7)))) 4294967295))) + ((IntKind.wrap .u64 ((bAnd .u64 (IntKind.wrap .u64 (p1)) 4294967295) * (bAnd .u64 (IntKind.wrap .u64 ((w64 (p4.tdiv x7)))) 4294967295))).fdiv (2 ^ 32)))).fdiv (2 ^ 32)))) + ((IntKind.wrap .u64 ((bAnd .u64 (IntKind.wrap .u64 ((IntKind.wrap .u64 (((IntKind.wrap .u64 (p1)).fdiv (2 ^ 32)) * (bAnd .u64 (IntKind.wrap .u64 ((w64 (p4.tdiv x7)))) 4294967295))) + ((IntKind.wrap .u64 ((bAnd .u64 (IntKind.wrap .u64 (p1)) 4294967295) * (bAnd .u64 (IntKind.wrap .u64 ((w64 (p4.tdiv x7)))) 4294967295))).fdiv (2 ^ 32)))) 4294967295) + (IntKind.wrap .u64 ((bAnd .u64 (IntKind.wrap .u64 (p1)) 4294967295) * ((IntKind.wrap .u64 ((w64 (p4.tdiv x7)))).fdiv (2 ^ 32)))))).fdiv (2 ^ 32)))))]), (false, [.d (.int .u64 (IntKind.wrap .u64 ((IntKind.wrap .u64 (p1)) * (IntKind.wrap .u64 ((w64 (p4.tdiv x7)))))))])]) []] [x7 ≠ (0 : Int), evF X k n_math_bits_Mul64 [(.one (.d (.int .u64 (IntKind.wrap .u64 (p1))))), (.one (.d (.int .u64 (IntKind.wrap .u64 ((w64 (p4.tdiv x7)))))))] [] = some ((.tup [(false, [.d (.int .u64 (IntKind.wrap .u64 ((IntKind.wrap .u64 ((IntKind.wrap .u64 (((IntKind.wrap .u64 (p1)).fdiv (2 ^ 32)) * ((IntKind.wrap .u64 ((w64 (p4.tdiv x7)))).fdiv (2 ^ 32)))) + ((IntKind.wrap .u64 ((IntKind.wrap .u64 (((IntKind.wrap .u64 (p1)).fdiv (2 ^ 32)) * (bAnd .u64 (IntKind.wrap .u64 ((w64 (p4.tdiv x7)))) 4294967295))) + ((IntKind.wrap .u64 ((bAnd .u64 (IntKind.wrap .u64 (p1)) 4294967295) * (bAnd .u64 (IntKind.wrap .u64 ((w64 (p4.tdiv x7)))) 4294967295))).fdiv (2 ^ 32)))).fdiv (2 ^ 32)))) + ((IntKind.wrap .u64 ((bAnd .u64 (IntKind.wrap .u64 ((IntKind.wrap .u64 (((IntKind.wrap .u64 (p1)).fdiv (2 ^ 32)) * (bAnd .u64 (IntKind.wrap .u64 ((w64 (p4.tdiv x7)))) 4294967295))) + ((IntKind.wrap .u64 ((bAnd .u64 (IntKind.wrap .u64 (p1)) 4294967295) * (bAnd .u64 (IntKind.wrap .u64 ((w64 (p4.tdiv x7)))) 4294967295))).fdiv (2 ^ 32)))) 4294967295) + (IntKind.wrap .u64 ((bAnd .u64 (IntKind.wrap .u64 (p1)) 4294967295) * ((IntKind.wrap .u64 ((w64 (p4.tdiv x7)))).fdiv (2 ^ 32)))))).fdiv (2 ^ 32)))))]), (false, [.d (.int .u64 (IntKind.wrap .u64 ((IntKind.wrap .u64 (p1)) * (IntKind.wrap .u64 ((w64 (p4.tdiv x7)))))))])]), [])] ⟨[(2, (.one (.ptr 0 0 0))), (3, (.one (.ptr 1 0 0))), (4, (.one (.ptr 2 0 0))), (6, (I x7)), (7, (.one (.d (.int .u64 (IntKind.wrap .u64 ((IntKind.wrap .u64 ((IntKind.wrap .u64 (((IntKind.wrap .u64 (p1)).fdiv (2 ^ 32)) * ((IntKind.wrap .u64 ((w64 (p4.tdiv x7)))).fdiv (2 ^ 32)))) + ((IntKind.wrap .u64 ((IntKind.wrap .u64 (((IntKind.wrap .u64 (p1)).fdiv (2 ^ 32)) * (bAnd .u64 (IntKind.wrap .u64 ((w64 (p4.tdiv x7)))) 4294967295))) + ((IntKind.wrap .u64 ((bAnd .u64 (IntKind.wrap .u64 (p1)) 4294967295) * (bAnd .u64 (IntKind.wrap .u64 ((w64 (p4.tdiv x7)))) 4294967295))).fdiv (2 ^ 32)))).fdiv (2 ^ 32)))) + ((IntKind.wrap .u64 ((bAnd .u64 (IntKind.wrap .u64 ((IntKind.wrap .u64 (((IntKind.wrap .u64 (p1)).fdiv (2 ^ 32)) * (bAnd .u64 (IntKind.wrap .u64 ((w64 (p4.tdiv x7)))) 4294967295))) + ((IntKind.wrap .u64 ((bAnd .u64 (IntKind.wrap .u64 (p1)) 4294967295) * (bAnd .u64 (IntKind.wrap .u64 ((w64 (p4.tdiv x7)))) 4294967295))).fdiv (2 ^ 32)))) 4294967295) + (IntKind.wrap .u64 ((bAnd .u64 (IntKind.wrap .u64 (p1)) 4294967295) * ((IntKind.wrap .u64 ((w64 (p4.tdiv x7)))).fdiv (2 ^ 32)))))).fdiv (2 ^ 32)))))))), (8, (.one (.d (.int .u64 (IntKind.wrap .u64 ((IntKind.wrap .u64 (p1)) * (IntKind.wrap .u64 ((w64 (p4.tdiv x7))))))))))], [.cells [.d (.int .i64 p1), .d (.int .i64 p2)], .cells [.d (.int .i64 p3), .d (.int .i64 p4)], .cells [.d (.int .i64 0), .d (.int .i64 0)]]⟩ (by kernel_rfl) (AC hx8 (A1 (T_math_bits_Mul64_ok k (IntKind.wrap .u64 (p1)) (IntKind.wrap .u64 ((w64 (p4.tdiv x7)))) x9 hx9))) ?_
      refine K_seq ?_
      obtain ⟨hx10, H⟩ := guard_some H
      obtain ⟨x11, hx11, H⟩ := bind_some' H
      refine K_reg [.r (.tup [(false, [.d (.int .u64 (IntKind.wrap .u64 ((IntKind.wrap .u64 ((IntKind.wrap .u64 (((IntKind.wrap .u64 (p3)).fdiv (2 ^ 32)) * ((IntKind.wrap .u64 ((w64 (p2.tdiv x7)))).fdiv (2 ^ 32)))) + ((IntKind.wrap .u64 ((IntKind.wrap .u64 (((IntKind.wrap .u64 (p3)).fdiv (2 ^ 32)) * (bAnd .u64 (IntKind.wrap .u64 ((w64 (p2.tdiv x7)))) 4294967295))) + ((IntKind.wrap .u64 ((bAnd .u64 (IntKind.wrap .u64 (p3)) 4294967295) * (bAnd .u64 (IntKind.wrap .u64 ((w64 (p2.tdiv x7)))) 4294967295))).fdiv (2 ^ 32)))).fdiv (2 ^ 32)))) + ((IntKind.wrap .u64 ((bAnd .u64 (IntKind.wrap .u64 ((IntKind.wrap .u64 (((IntKind.wrap .u64 (p3)).fdiv (2 ^ 32)) * (bAnd .u64 (IntKind.wrap .u64 ((w64 (p2.tdiv x7)))) 4294967295))) + ((IntKind.wrap .u64 ((bAnd .u64 (IntKind.wrap .u64 (p3)) 4294967295) * (bAnd .u64 (IntKind.wrap .u64 ((w64 (p2.tdiv x7)))) 4294967295))).fdiv (2 ^ 32)))) 4294967295) + (IntKind.wrap .u64 ((bAnd .u64 (IntKind.wrap .u64 (p3)) 4294967295) * ((IntKind.wrap .u64 ((w64 (p2.tdiv x7)))).fdiv (2 ^ 32)))))).fdiv (2 ^ 32)))))]), (false, [.d (.int .u64 (IntKind.wrap .u64 ((IntKind.wrap .u64 (p3)) * (IntKind.wrap .u64 ((w64 (p2.tdiv x7)))))))])]) []] [x7 ≠ (0 : Int), evF X k n_math_bits_Mul64 [(.one (.d (.int .u64 (IntKind.wrap .u64 (p3))))), (.one (.d (.int .u64 (IntKind.wrap .u64 ((w64 (p2.tdiv x7)))))))] [] = some ((.tup [(false, [.d (.int .u64 (IntKind.wrap .u64 ((IntKind.wrap .u64 ((IntKind.wrap .u64 (((IntKind.wrap .u64 (p3)).fdiv (2 ^ 32)) * ((IntKind.wrap .u64 ((w64 (p2.tdiv x7)))).fdiv (2 ^ 32)))) + ((IntKind.wrap .u64 ((IntKind.wrap .u64 (((IntKind.wrap .u64 (p3)).fdiv (2 ^ 32)) * (bAnd .u64 (IntKind.wrap .u64 ((w64 (p2.tdiv x7)))) 4294967295))) + ((IntKind.wrap .u64 ((bAnd .u64 (IntKind.wrap .u64 (p3)) 4294967295) * (bAnd .u64 (IntKind.wrap .u64 ((w64 (p2.tdiv x7)))) 4294967295))).fdiv (2 ^ 32)))).fdiv (2 ^ 32)))) + ((IntKind.wrap .u64 ((bAnd .u64 (IntKind.wrap .u64 ((IntKind.wrap .u64 (((IntKind.wrap .u64 (p3)).fdiv (2 ^ 32)) * (bAnd .u64 (IntKind.wrap .u64 ((w64 (p2.tdiv x7)))) 4294967295))) + ((IntKind.wrap .u64 ((bAnd .u64 (IntKind.wrap .u64 (p3)) 4294967295) * (bAnd .u64 (IntKind.wrap .u64 ((w64 (p2.tdiv x7)))) 4294967295))).fdiv (2 ^ 32)))) 4294967295) + (IntKind.wrap .u64 ((bAnd .u64 (IntKind.wrap .u64 (p3)) 4294967295) * ((IntKind.wrap .u64 ((w64 (p2.tdiv x7)))).fdiv (2 ^ 32)))))).fdiv (2 ^ 32)))))]), (false, [.d (.int .u64 (IntKind.wrap .u64 ((IntKind.wrap .u64 (p3)) * (IntKind.wrap .u64 ((w64 (p2.tdiv x7)))))))])]), [])] ⟨[(2, (.one (.ptr 0 0 0))), (3, (.one (.ptr 1 0 0))), (4, (.one (.ptr 2 0 0))), (6, (I x7)), (7, (.one (.d (.int .u64 (IntKind.wrap .u64 ((IntKind.wrap .u64 ((IntKind.wrap .u64 (((IntKind.wrap .u64 (p1)).fdiv (2 ^ 32)) * ((IntKind.wrap .u64 ((w64 (p4.tdiv x7)))).fdiv (2 ^ 32)))) + ((IntKind.wrap .u64 ((IntKind.wrap .u64 (((IntKind.wrap .u64 (p1)).fdiv (2 ^ 32)) * (bAnd .u64 (IntKind.wrap .u64 ((w64 (p4.tdiv x7)))) 4294967295))) + ((IntKind.wrap .u64 ((bAnd .u64 (IntKind.wrap .u64 (p1)) 4294967295) * (bAnd .u64 (IntKind.wrap .u64 ((w64 (p4.tdiv x7)))) 4294967295))).fdiv (2 ^ 32)))).fdiv (2 ^ 32)))) + ((IntKind.wrap .u64 ((bAnd .u64 (IntKind.wrap .u64 ((IntKind.wrap .u64 (((IntKind.wrap .u64 (p1)).fdiv (2 ^ 32)) * (bAnd .u64 (IntKind.wrap .u64 ((w64 (p4.tdiv x7)))) 4294967295))) + ((IntKind.wrap .u64 ((bAnd .u64 (IntKind.wrap .u64 (p1)) 4294967295) * (bAnd .u64 (IntKind.wrap .u64 ((w64 (p4.tdiv x7)))) 4294967295))).fdiv (2 ^ 32)))) 4294967295) + (IntKind.wrap .u64 ((bAnd .u64 (IntKind.wrap .u64 (p1)) 4294967295) * ((IntKind.wrap .u64 ((w64 (p4.tdiv x7)))).fdiv (2 ^ 32)))))).fdiv (2 ^ 32)))))))), (8, (.one (.d (.int .u64 (IntKind.wrap .u64 ((IntKind.wrap .u64 (p1)) * (IntKind.wrap .u64 ((w64 (p4.tdiv x7)))))))))), (9, (.one (.d (.int .u64 (IntKind.wrap .u64 ((IntKind.wrap .u64 ((IntKind.wrap .u64 (((IntKind.wrap .u64 (p3)).fdiv (2 ^ 32)) * ((IntKind.wrap .u64 ((w64 (p2.tdiv x7)))).fdiv (2 ^ 32)))) + ((IntKind.wrap .u64 ((IntKind.wrap .u64 (((IntKind.wrap .u64 (p3)).fdiv (2 ^ 32)) * (bAnd .u64 (IntKind.wrap .u64 ((w64 (p2.tdiv x7)))) 4294967295))) + ((IntKind.wrap .u64 ((bAnd .u64 (IntKind.wrap .u64 (p3)) 4294967295) * (bAnd .u64 (IntKind.wrap .u64 ((w64 (p2.tdiv x7)))) 4294967295))).fdiv (2 ^ 32)))).fdiv (2 ^ 32)))) + ((IntKind.wrap .u64 ((bAnd .u64 (IntKind.wrap .u64 ((IntKind.wrap .u64 (((IntKind.wrap .u64 (p3)).fdiv (2 ^ 32)) * (bAnd .u64 (IntKind.wrap .u64 ((w64 (p2.tdiv x7)))) 4294967295))) + ((IntKind.wrap .u64 ((bAnd .u64 (IntKind.wrap .u64 (p3)) 4294967295) * (bAnd .u64 (IntKind.wrap .u64 ((w64 (p2.tdiv x7)))) 4294967295))).fdiv (2 ^ 32)))) 4294967295) + (IntKind.wrap .u64 ((bAnd .u64 (IntKind.wrap .u64 (p3)) 4294967295) * ((IntKind.wrap .u64 ((w64 (p2.tdiv x7)))).fdiv (2 ^ 32)))))).fdiv (2 ^ 32)))))))), (10, (.one (.d (.int .u64 (IntKind.wrap .u64 ((IntKind.wrap .u64 (p3)) * (IntKind.wrap .u64 ((w64 (p2.tdiv x7))))))))))], [.cells [.d (.int .i64 p1), .d (.int .i64 p2)], .cells [.d (.int .i64 p3), .d (.int .i64 p4)], .cells [.d (.int .i64 0), .d (.int .i64 0)]]⟩ (by kernel_rfl) (AC hx10 (A1 (T_math_bits_Mul64_ok k (IntKind.wrap .u64 (p3)) (IntKind.wrap .u64 ((w64 (p2.tdiv x7)))) x11 hx11))) ?_
      refine K_seq ?_
      obtain ⟨x12, hx12, H⟩ := bind_some' H
      refine K_reg [.r (.tup [(false, [.d (.int .u64 x12.1)]), (false, [.d (.int .u64 x12.2)])]) []] [evF X k n_math_bits_Add64 [(.one (.d (.int .u64 (IntKind.wrap .u64 ((IntKind.wrap .u64 (p1)) * (IntKind.wrap .u64 ((w64 (p4.tdiv x7))))))))), (.one (.d (.int .u64 (IntKind.wrap .u64 ((IntKind.wrap .u64 (p3)) * (IntKind.wrap .u64 ((w64 (p2.tdiv x7))))))))), (.one (.d (.int .u64 0)))] [] = some ((.tup [(false, [.d (.int .u64 x12.1)]), (false, [.d (.int .u64 x12.2)])]), [])] ⟨[(2, (.one (.ptr 0 0 0))), (3, (.one (.ptr 1 0 0))), (4, (.one (.ptr 2 0 0))), (6, (I x7)), (7, (.one (.d (.int .u64 (IntKind.wrap .u64 ((IntKind.wrap .u64 ((IntKind.wrap .u64 (((IntKind.wrap .u64 (p1)).fdiv (2 ^ 32)) * ((IntKind.wrap .u64 ((w64 (p4.tdiv x7)))).fdiv (2 ^ 32)))) + ((IntKind.wrap .u64 ((IntKind.wrap .u64 (((IntKind.wrap .u64 (p1)).fdiv (2 ^ 32)) * (bAnd .u64 (IntKind.wrap .u64 ((w64 (p4.tdiv x7)))) 4294967295))) + ((IntKind.wrap .u64 ((bAnd .u64 (IntKind.wrap .u64 (p1)) 4294967295) * (bAnd .u64 (IntKind.wrap .u64 ((w64 (p4.tdiv x7)))) 4294967295))).fdiv (2 ^ 32)))).fdiv (2 ^ 32)))) + ((IntKind.wrap .u64 ((bAnd .u64 (IntKind.wrap .u64 ((IntKind.wrap .u64 (((IntKind.wrap .u64 (p1)).fdiv (2 ^ 32)) * (bAnd .u64 (IntKind.wrap .u64 ((w64 (p4.tdiv x7)))) 4294967295))) + ((IntKind.wrap .u64 ((bAnd .u64 (IntKind.wrap .u64 (p1)) 4294967295) * (bAnd .u64 (IntKind.wrap .u64 ((w64 (p4.tdiv x7)))) 4294967295))).fdiv (2 ^ 32)))) 4294967295) + (IntKind.wrap .u64 ((bAnd .u64 (IntKind.wrap .u64 (p1)) 4294967295) * ((IntKind.wrap .u64 ((w64 (p4.tdiv x7)))).fdiv (2 ^ 32)))))).fdiv (2 ^ 32)))))))), (8, (.one (.d (.int .u64 x12.1)))), (9, (.one (.d (.int .u64 (IntKind.wrap .u64 ((IntKind.wrap .u64 ((IntKind.wrap .u64 (((IntKind.wrap .u64 (p3)).fdiv (2 ^ 32)) * ((IntKind.wrap .u64 ((w64 (p2.tdiv x7)))).fdiv (2 ^ 32)))) + ((IntKind.wrap .u64 ((IntKind.wrap .u64 (((IntKind.wrap .u64 (p3)).fdiv (2 ^ 32)) * (bAnd .u64 (IntKind.wrap .u64 ((w64 (p2.tdiv x7)))) 4294967295))) + ((IntKind.wrap .u64 ((bAnd .u64 (IntKind.wrap .u64 (p3)) 4294967295) * (bAnd .u64 (IntKind.wrap .u64 ((w64 (p2.tdiv x7)))) 4294967295))).fdiv (2 ^ 32)))).fdiv (2 ^ 32)))) + ((IntKind.wrap .u64 ((bAnd .u64 (IntKind.wrap .u64 ((IntKind.wrap .u64 (((IntKind.wrap .u64 (p3)).fdiv (2 ^ 32)) * (bAnd .u64 (IntKind.wrap .u64 ((w64 (p2.tdiv x7)))) 4294967295))) + ((IntKind.wrap .u64 ((bAnd .u64 (IntKind.wrap .u64 (p3)) 4294967295) * (bAnd .u64 (IntKind.wrap .u64 ((w64 (p2.tdiv x7)))) 4294967295))).fdiv (2 ^ 32)))) 4294967295) + (IntKind.wrap .u64 ((bAnd .u64 (IntKind.wrap .u64 (p3)) 4294967295) * ((IntKind.wrap .u64 ((w64 (p2.tdiv x7)))).fdiv (2 ^ 32)))))).fdiv (2 ^ 32)))))))), (11, (.one (.d (.int .u64 x12.2))))], [.cells [.d (.int .i64 p1), .d (.int .i64 p2)], .cells [.d (.int .i64 p3), .d (.int .i64 p4)], .cells [.d (.int .i64 0), .d (.int .i64 0)]]⟩ (by kernel_rfl) (A1 ((addT_ok X_math_bits_Add64) k (IntKind.wrap .u64 ((IntKind.wrap .u64 (p1)) * (IntKind.wrap .u64 ((w64 (p4.tdiv x7)))))) (IntKind.wrap .u64 ((IntKind.wrap .u64 (p3)) * (IntKind.wrap .u64 ((w64 (p2.tdiv x7)))))) 0 x12 hx12)) ?_
      refine K_seq ?_
      obtain ⟨x13, hx13, H⟩ := bind_some' H
      refine K_reg [.r (.tup [(false, [.d (.int .u64 x13.1)]), (false, [.d (.int .u64 x13.2)])]) []] [evF X k n_math_bits_Add64 [(.one (.d (.int .u64 (IntKind.wrap .u64 ((IntKind.wrap .u64 ((IntKind.wrap .u64 (((IntKind.wrap .u64 (p1)).fdiv (2 ^ 32)) * ((IntKind.wrap .u64 ((w64 (p4.tdiv x7)))).fdiv (2 ^ 32)))) + ((IntKind.wrap .u64 ((IntKind.wrap .u64 (((IntKind.wrap .u64 (p1)).fdiv (2 ^ 32)) * (bAnd .u64 (IntKind.wrap .u64 ((w64 (p4.tdiv x7)))) 4294967295))) + ((IntKind.wrap .u64 ((bAnd .u64 (IntKind.wrap .u64 (p1)) 4294967295) * (bAnd .u64 (IntKind.wrap .u64 ((w64 (p4.tdiv x7)))) 4294967295))).fdiv (2 ^ 32)))).fdiv (2 ^ 32)))) + ((IntKind.wrap .u64 ((bAnd .u64 (IntKind.wrap .u64 ((IntKind.wrap .u64 (((IntKind.wrap .u64 (p1)).fdiv (2 ^ 32)) * (bAnd .u64 (IntKind.wrap .u64 ((w64 (p4.tdiv x7)))) 4294967295))) + ((IntKind.wrap .u64 ((bAnd .u64 (IntKind.wrap .u64 (p1)) 4294967295) * (bAnd .u64 (IntKind.wrap .u64 ((w64 (p4.tdiv x7)))) 4294967295))).fdiv (2 ^ 32)))) 4294967295) + (IntKind.wrap .u64 ((bAnd .u64 (IntKind.wrap .u64 (p1)) 4294967295) * ((IntKind.wrap .u64 ((w64 (p4.tdiv x7)))).fdiv (2 ^ 32)))))).fdiv (2 ^ 32))))))), (.one (.d (.int .u64 (IntKind.wrap .u64 ((IntKind.wrap .u64 ((IntKind.wrap .u64 (((IntKind.wrap .u64 (p3)).fdiv (2 ^ 32)) * ((IntKind.wrap .u64 ((w64 (p2.tdiv x7)))).fdiv (2 ^ 32)))) + ((IntKind.wrap .u64 ((IntKind.wrap .u64 (((IntKind.wrap .u64 (p3)).fdiv (2 ^ 32)) * (bAnd .u64 (IntKind.wrap .u64 ((w64 (p2.tdiv x7)))) 4294967295))) + ((IntKind.wrap .u64 ((bAnd .u64 (IntKind.wrap .u64 (p3)) 4294967295) * (bAnd .u64 (IntKind.wrap .u64 ((w64 (p2.tdiv x7)))) 4294967295))).fdiv (2 ^ 32)))).fdiv (2 ^ 32)))) + ((IntKind.wrap .u64 ((bAnd .u64 (IntKind.wrap .u64 ((IntKind.wrap .u64 (((IntKind.wrap .u64 (p3)).fdiv (2 ^ 32)) * (bAnd .u64 (IntKind.wrap .u64 ((w64 (p2.tdiv x7)))) 4294967295))) + ((IntKind.wrap .u64 ((bAnd .u64 (IntKind.wrap .u64 (p3)) 4294967295) * (bAnd .u64 (IntKind.wrap .u64 ((w64 (p2.tdiv x7)))) 4294967295))).fdiv (2 ^ 32)))) 4294967295) + (IntKind.wrap .u64 ((bAnd .u64 (IntKind.wrap .u64 (p3)) 4294967295) * ((IntKind.wrap .u64 ((w64 (p2.tdiv x7)))).fdiv (2 ^ 32)))))).fdiv (2 ^ 32))))))), (.one (.d (.int .u64 x12.2)))] [] = some ((.tup [(false, [.d (.int .u64 x13.1)]), (false, [.d (.int .u64 x13.2)])]), [])] ⟨[(2, (.one (.ptr 0 0 0))), (3, (.one (.ptr 1 0 0))), (4, (.one (.ptr 2 0 0))), (6, (I x7)), (7, (.one (.d (.int .u64 x13.1)))), (8, (.one (.d (.int .u64 x12.1))))], [.cells [.d (.int .i64 p1), .d (.int .i64 p2)], .cells [.d (.int .i64 p3), .d (.int .i64 p4)], .cells [.d (.int .i64 0), .d (.int .i64 0)]]⟩ (by kernel_rfl) (A1 ((addT_ok X_math_bits_Add64) k (IntKind.wrap .u64 ((IntKind.wrap .u64 ((IntKind.wrap .u64 (((IntKind.wrap .u64 (p1)).fdiv (2 ^ 32)) * ((IntKind.wrap .u64 ((w64 (p4.tdiv x7)))).fdiv (2 ^ 32)))) + ((IntKind.wrap .u64 ((IntKind.wrap .u64 (((IntKind.wrap .u64 (p1)).fdiv (2 ^ 32)) * (bAnd .u64 (IntKind.wrap .u64 ((w64 (p4.tdiv x7)))) 4294967295))) + ((IntKind.wrap .u64 ((bAnd .u64 (IntKind.wrap .u64 (p1)) 4294967295) * (bAnd .u64 (IntKind.wrap .u64 ((w64 (p4.tdiv x7)))) 4294967295))).fdiv (2 ^ 32)))).fdiv (2 ^ 32)))) + ((IntKind.wrap .u64 ((bAnd .u64 (IntKind.wrap .u64 ((IntKind.wrap .u64 (((IntKind.wrap .u64 (p1)).fdiv (2 ^ 32)) * (bAnd .u64 (IntKind.wrap .u64 ((w64 (p4.tdiv x7)))) 4294967295))) + ((IntKind.wrap .u64 ((bAnd .u64 (IntKind.wrap .u64 (p1)) 4294967295) * (bAnd .u64 (IntKind.wrap .u64 ((w64 (p4.tdiv x7)))) 4294967295))).fdiv (2 ^ 32)))) 4294967295) + (IntKind.wrap .u64 ((bAnd .u64 (IntKind.wrap .u64 (p1)) 4294967295) * ((IntKind.wrap .u64 ((w64 (p4.tdiv x7)))).fdiv (2 ^ 32)))))).fdiv (2 ^ 32)))) (IntKind.wrap .u64 ((IntKind.wrap .u64 ((IntKind.wrap .u64 (((IntKind.wrap .u64 (p3)).fdiv (2 ^ 32)) * ((IntKind.wrap .u64 ((w64 (p2.tdiv x7)))).fdiv (2 ^ 32)))) + ((IntKind.wrap .u64 ((IntKind.wrap .u64 (((IntKind.wrap .u64 (p3)).fdiv (2 ^ 32)) * (bAnd .u64 (IntKind.wrap .u64 ((w64 (p2.tdiv x7)))) 4294967295))) + ((IntKind.wrap .u64 ((bAnd .u64 (IntKind.wrap .u64 (p3)) 4294967295) * (bAnd .u64 (IntKind.wrap .u64 ((w64 (p2.tdiv x7)))) 4294967295))).fdiv (2 ^ 32)))).fdiv (2 ^ 32)))) + ((IntKind.wrap .u64 ((bAnd .u64 (IntKind.wrap .u64 ((IntKind.wrap .u64 (((IntKind.wrap .u64 (p3)).fdiv (2 ^ 32)) * (bAnd .u64 (IntKind.wrap .u64 ((w64 (p2.tdiv x7)))) 4294967295))) + ((IntKind.wrap .u64 ((bAnd .u64 (IntKind.wrap .u64 (p3)) 4294967295) * (bAnd .u64 (IntKind.wrap .u64 ((w64 (p2.tdiv x7)))) 4294967295))).fdiv (2 ^ 32)))) 4294967295) + (IntKind.wrap .u64 ((bAnd .u64 (IntKind.wrap .u64 (p3)) 4294967295) * ((IntKind.wrap .u64 ((w64 (p2.tdiv x7)))).fdiv (2 ^ 32)))))).fdiv (2 ^ 32)))) x12.2 x13 hx13)) ?_
      refine K_seq ?_
      obtain ⟨hx14, H⟩ := guard_some H
      obtain ⟨x15, hx15, H⟩ := bind_some' H
      refine K_reg [.r (.tup [(false, [.d (.int .u64 (IntKind.wrap .u64 (x12.1.tdiv (IntKind.wrap .u64 (x7)))))]), (false, [.d (.int .u64 (x12.1.tmod (IntKind.wrap .u64 (x7))))])]) []] [(IntKind.wrap .u64 (x7)) ≠ (0 : Int), evF X k n_math_bits_Div64 [(.one (.d (.int .u64 (x13.1.tmod (IntKind.wrap .u64 (x7)))))), (.one (.d (.int .u64 x12.1))), (.one (.d (.int .u64 (IntKind.wrap .u64 (x7)))))] [] = some ((.tup [(false, [.d (.int .u64 (IntKind.wrap .u64 (x12.1.tdiv (IntKind.wrap .u64 (x7)))))]), (false, [.d (.int .u64 (x12.1.tmod (IntKind.wrap .u64 (x7))))])]), [])] ⟨[(2, (.one (.ptr 0 0 0))), (3, (.one (.ptr 1 0 0))), (4, (.one (.ptr 2 0 0))), (6, (I x7)), (7, (.one (.d (.int .u64 x13.1)))), (8, (.one (.d (.int .u64 x12.1)))), (13, (.one (.d (.int .u64 (x12.1.tmod (IntKind.wrap .u64 (x7)))))))], [.cells [.d (.int .i64 p1), .d (.int .i64 p2)], .cells [.d (.int .i64 p3), .d (.int .i64 p4)], .cells [.d (.int .i64 0), .d (.int .i64 0)]]⟩ (by kernel_rfl) (AC hx14 (A1 (T_math_bits_Div64_ok k (x13.1.tmod (IntKind.wrap .u64 (x7))) x12.1 (IntKind.wrap .u64 (x7)) x15 hx15))) ?_
      refine K_seq ?_
      obtain ⟨x16, hx16, H⟩ := bind_some' H
      refine K_reg [.r (I x16) []] [evF X k n_ratio_divisor [(I (w64 ((x12.1.tmod (IntKind.wrap .u64 (x7)))))), (I x7)] [] = some ((I x16), [])] ⟨[(2, (.one (.ptr 0 0 0))), (3, (.one (.ptr 1 0 0))), (4, (.one (.ptr 2 0 0))), (6, (I x7)), (7, (.one (.d (.int .u64 x13.1)))), (8, (.one (.d (.int .u64 x12.1)))), (14, (.one (.d (.int .u64 (IntKind.wrap .u64 (x16))))))], [.cells [.d (.int .i64 p1), .d (.int .i64 p2)], .cells [.d (.int .i64 p3), .d (.int .i64 p4)], .cells [.d (.int .i64 0), .d (.int .i64 0)]]⟩ (by kernel_rfl) (A1 (T_ratio_divisor_ok k (w64 ((x12.1.tmod (IntKind.wrap .u64 (x7))))) x7 x16 hx16)) ?_
      refine K_seq ?_
      refine K_seq ?_
      refine K_reg [] [] ⟨[(2, (.one (.ptr 0 0 0))), (3, (.one (.ptr 1 0 0))), (4, (.one (.ptr 2 0 0))), (6, (I x7)), (7, (.one (.d (.int .u64 x13.1)))), (8, (.one (.d (.int .u64 x12.1)))), (14, (.one (.d (.int .u64 (IntKind.wrap .u64 (x16)))))), (88, (B (decide ((IntKind.wrap .u64 (x16)) ≤ x13.1))))], [.cells [.d (.int .i64 p1), .d (.int .i64 p2)], .cells [.d (.int .i64 p3), .d (.int .i64 p4)], .cells [.d (.int .i64 0), .d (.int .i64 0)]]⟩ (by kernel_rfl) trivial ?_
      rcases ite_some H with ⟨hx17, H⟩ | ⟨hx17, H⟩
      · refine K_t rfl (decide_eq_true hx17) ?_
        refine K_seq ?_
        refine K_reg [] [] ⟨[(4, (.one (.ptr 0 0 0))), (5, (I 4))], [.cells [.d (.int .i64 0), .d (.int .i64 0)]]⟩ (by kernel_rfl) trivial ?_
        refine K_gh ⟨[(4, (.one (.ptr 0 0 0))), (5, (I 4))], [.cells [.d (.int .i64 0), .d (.int .i64 0)]]⟩ (by kernel_rfl) ?_
        cases H
        refine K_ret ?_
        kernel_rfl
      · refine K_f rfl (decide_eq_false hx17) ?_
        refine K_gh ⟨[(2, (.one (.ptr 0 0 0))), (3, (.one (.ptr 1 0 0))), (4, (.one (.ptr 2 0 0))), (6, (I x7)), (7, (.one (.d (.int .u64 x13.1)))), (8, (.one (.d (.int .u64 x12.1)))), (14, (.one (.d (.int .u64 (IntKind.wrap .u64 (x16))))))], [.cells [.d (.int .i64 p1), .d (.int .i64 p2)], .cells [.d (.int .i64 p3), .d (.int .i64 p4)], .cells [.d (.int .i64 0), .d (.int .i64 0)]]⟩ (by kernel_rfl) ?_
        refine K_skip ?_
        refine K_seq ?_
        obtain ⟨x18, hx18, H⟩ := bind_some' H
        refine K_reg [.r (.tup [(false, [.d (.int .u64 (IntKind.wrap .u64 (x12.1.tdiv (IntKind.wrap .u64 (x16)))))]), (false, [.d (.int .u64 (x12.1.tmod (IntKind.wrap .u64 (x16))))])]) []] [evF X k n_math_bits_Div64 [(.one (.d (.int .u64 x13.1))), (.one (.d (.int .u64 x12.1))), (.one (.d (.int .u64 (IntKind.wrap .u64 (x16)))))] [] = some ((.tup [(false, [.d (.int .u64 (IntKind.wrap .u64 (x12.1.tdiv (IntKind.wrap .u64 (x16)))))]), (false, [.d (.int .u64 (x12.1.tmod (IntKind.wrap .u64 (x16))))])]), [])] ⟨[(2, (.one (.ptr 0 0 0))), (3, (.one (.ptr 1 0 0))), (4, (.one (.ptr 2 0 0))), (6, (I x7)), (14, (.one (.d (.int .u64 (IntKind.wrap .u64 (x16)))))), (15, (.one (.d (.int .u64 (IntKind.wrap .u64 (x12.1.tdiv (IntKind.wrap .u64 (x16))))))))], [.cells [.d (.int .i64 p1), .d (.int .i64 p2)], .cells [.d (.int .i64 p3), .d (.int .i64 p4)], .cells [.d (.int .i64 0), .d (.int .i64 0)]]⟩ (by kernel_rfl) (A1 (T_math_bits_Div64_ok k x13.1 x12.1 (IntKind.wrap .u64 (x16)) x18 hx18)) ?_
        refine K_seq ?_
        obtain ⟨hx19, H⟩ := guard_some H
        obtain ⟨hx20, H⟩ := guard_some H
        obtain ⟨x21, hx21, H⟩ := bind_some' H
        refine K_reg [.r (.tup [(false, [.d (.int .u64 (IntKind.wrap .u64 ((IntKind.wrap .u64 ((IntKind.wrap .u64 (((IntKind.wrap .u64 ((w64 (p2.tdiv x7)))).fdiv (2 ^ 32)) * ((IntKind.wrap .u64 ((IntKind.wrap .u64 (p4)).tdiv (IntKind.wrap .u64 (x16)))).fdiv (2 ^ 32)))) + ((IntKind.wrap .u64 ((IntKind.wrap .u64 (((IntKind.wrap .u64 ((w64 (p2.tdiv x7)))).fdiv (2 ^ 32)) * (bAnd .u64 (IntKind.wrap .u64 ((IntKind.wrap .u64 (p4)).tdiv (IntKind.wrap .u64 (x16)))) 4294967295))) + ((IntKind.wrap .u64 ((bAnd .u64 (IntKind.wrap .u64 ((w64 (p2.tdiv x7)))) 4294967295) * (bAnd .u64 (IntKind.wrap .u64 ((IntKind.wrap .u64 (p4)).tdiv (IntKind.wrap .u64 (x16)))) 4294967295))).fdiv (2 ^ 32)))).fdiv (2 ^ 32)))) + ((IntKind.wrap .u64 ((bAnd .u64 (IntKind.wrap .u64 ((IntKind.wrap .u64 (((IntKind.wrap .u64 ((w64 (p2.tdiv x7)))).fdiv (2 ^ 32)) * (bAnd .u64 (IntKind.wrap .u64 ((IntKind.wrap .u64 (p4)).tdiv (IntKind.wrap .u64 (x16)))) 4294967295))) + ((IntKind.wrap .u64 ((bAnd .u64 (IntKind.wrap .u64 ((w64 (p2.tdiv x7)))) 4294967295) * (bAnd .u64 (IntKind.wrap .u64 ((IntKind.wrap .u64 (p4)).tdiv (IntKind.wrap .u64 (x16)))) 4294967295))).fdiv (2 ^ 32)))) 4294967295) + (IntKind.wrap .u64 ((bAnd .u64 (IntKind.wrap .u64 ((w64 (p2.tdiv x7)))) 4294967295) * ((IntKind.wrap .u64 ((IntKind.wrap .u64 (p4)).tdiv (IntKind.wrap .u64 (x16)))).fdiv (2 ^ 32)))))).fdiv (2 ^ 32)))))]), (false, [.d (.int .u64 (IntKind.wrap .u64 ((IntKind.wrap .u64 ((w64 (p2.tdiv x7)))) * (IntKind.wrap .u64 ((IntKind.wrap .u64 (p4)).tdiv (IntKind.wrap .u64 (x16)))))))])]) []] [x7 ≠ (0 : Int), (IntKind.wrap .u64 (x16)) ≠ (0 : Int), evF X k n_math_bits_Mul64 [(.one (.d (.int .u64 (IntKind.wrap .u64 ((w64 (p2.tdiv x7))))))), (.one (.d (.int .u64 (IntKind.wrap .u64 ((IntKind.wrap .u64 (p4)).tdiv (IntKind.wrap .u64 (x16)))))))] [] = some ((.tup [(false, [.d (.int .u64 (IntKind.wrap .u64 ((IntKind.wrap .u64 ((IntKind.wrap .u64 (((IntKind.wrap .u64 ((w64 (p2.tdiv x7)))).fdiv (2 ^ 32)) * ((IntKind.wrap .u64 ((IntKind.wrap .u64 (p4)).tdiv (IntKind.wrap .u64 (x16)))).fdiv (2 ^ 32)))) + ((IntKind.wrap .u64 ((IntKind.wrap .u64 (((IntKind.wrap .u64 ((w64 (p2.tdiv x7)))).fdiv (2 ^ 32)) * (bAnd .u64 (IntKind.wrap .u64 ((IntKind.wrap .u64 (p4)).tdiv (IntKind.wrap .u64 (x16)))) 4294967295))) + ((IntKind.wrap .u64 ((bAnd .u64 (IntKind.wrap .u64 ((w64 (p2.tdiv x7)))) 4294967295) * (bAnd .u64 (IntKind.wrap .u64 ((IntKind.wrap .u64 (p4)).tdiv (IntKind.wrap .u64 (x16)))) 4294967295))).fdiv (2 ^ 32)))).fdiv (2 ^ 32)))) + ((IntKind.wrap .u64 ((bAnd .u64 (IntKind.wrap .u64 ((IntKind.wrap .u64 (((IntKind.wrap .u64 ((w64 (p2.tdiv x7)))).fdiv (2 ^ 32)) * (bAnd .u64 (IntKind.wrap .u64 ((IntKind.wrap .u64 (p4)).tdiv (IntKind.wrap .u64 (x16)))) 4294967295))) + ((IntKind.wrap .u64 ((bAnd .u64 (IntKind.wrap .u64 ((w64 (p2.tdiv x7)))) 4294967295) * (bAnd .u64 (IntKind.wrap .u64 ((IntKind.wrap .u64 (p4)).tdiv (IntKind.wrap .u64 (x16)))) 4294967295))).fdiv (2 ^ 32)))) 4294967295) + (IntKind.wrap .u64 ((bAnd .u64 (IntKind.wrap .u64 ((w64 (p2.tdiv x7)))) 4294967295) * ((IntKind.wrap .u64 ((IntKind.wrap .u64 (p4)).tdiv (IntKind.wrap .u64 (x16)))).fdiv (2 ^ 32)))))).fdiv (2 ^ 32)))))]), (false, [.d (.int .u64 (IntKind.wrap .u64 ((IntKind.wrap .u64 ((w64 (p2.tdiv x7)))) * (IntKind.wrap .u64 ((IntKind.wrap .u64 (p4)).tdiv (IntKind.wrap .u64 (x16)))))))])]), [])] ⟨[(4, (.one (.ptr 0 0 0))), (15, (.one (.d (.int .u64 (IntKind.wrap .u64 (x12.1.tdiv (IntKind.wrap .u64 (x16)))))))), (17, (.one (.d (.int .u64 (IntKind.wrap .u64 ((IntKind.wrap .u64 ((IntKind.wrap .u64 (((IntKind.wrap .u64 ((w64 (p2.tdiv x7)))).fdiv (2 ^ 32)) * ((IntKind.wrap .u64 ((IntKind.wrap .u64 (p4)).tdiv (IntKind.wrap .u64 (x16)))).fdiv (2 ^ 32)))) + ((IntKind.wrap .u64 ((IntKind.wrap .u64 (((IntKind.wrap .u64 ((w64 (p2.tdiv x7)))).fdiv (2 ^ 32)) * (bAnd .u64 (IntKind.wrap .u64 ((IntKind.wrap .u64 (p4)).tdiv (IntKind.wrap .u64 (x16)))) 4294967295))) + ((IntKind.wrap .u64 ((bAnd .u64 (IntKind.wrap .u64 ((w64 (p2.tdiv x7)))) 4294967295) * (bAnd .u64 (IntKind.wrap .u64 ((IntKind.wrap .u64 (p4)).tdiv (IntKind.wrap .u64 (x16)))) 4294967295))).fdiv (2 ^ 32)))).fdiv (2 ^ 32)))) + ((IntKind.wrap .u64 ((bAnd .u64 (IntKind.wrap .u64 ((IntKind.wrap .u64 (((IntKind.wrap .u64 ((w64 (p2.tdiv x7)))).fdiv (2 ^ 32)) * (bAnd .u64 (IntKind.wrap .u64 ((IntKind.wrap .u64 (p4)).tdiv (IntKind.wrap .u64 (x16)))) 4294967295))) + ((IntKind.wrap .u64 ((bAnd .u64 (IntKind.wrap .u64 ((w64 (p2.tdiv x7)))) 4294967295) * (bAnd .u64 (IntKind.wrap .u64 ((IntKind.wrap .u64 (p4)).tdiv (IntKind.wrap .u64 (x16)))) 4294967295))).fdiv (2 ^ 32)))) 4294967295) + (IntKind.wrap .u64 ((bAnd .u64 (IntKind.wrap .u64 ((w64 (p2.tdiv x7)))) 4294967295) * ((IntKind.wrap .u64 ((IntKind.wrap .u64 (p4)).tdiv (IntKind.wrap .u64 (x16)))).fdiv (2 ^ 32)))))).fdiv (2 ^ 32)))))))), (18, (.one (.d (.int .u64 (IntKind.wrap .u64 ((IntKind.wrap .u64 ((w64 (p2.tdiv x7)))) * (IntKind.wrap .u64 ((IntKind.wrap .u64 (p4)).tdiv (IntKind.wrap .u64 (x16))))))))))], [.cells [.d (.int .i64 0), .d (.int .i64 0)]]⟩ (by kernel_rfl) (AC hx19 (AC hx20 (A1 (T_math_bits_Mul64_ok k (IntKind.wrap .u64 ((w64 (p2.tdiv x7)))) (IntKind.wrap .u64 ((IntKind.wrap .u64 (p4)).tdiv (IntKind.wrap .u64 (x16)))) x21 hx21)))) ?_
        refine K_seq ?_
        refine K_seq ?_
        refine K_reg [.m, .m] [([.cells [.d (.int .i64 0), .d (.int .i64 0)]] : Heap) = [.cells [.d (.int .i64 0), .d (.int .i64 0)]], ([.cells [.d (.int .i64 0), .d (.int .i64 0)]] : Heap) = [.cells [.d (.int .i64 0), .d (.int .i64 0)]]] ⟨[(4, (.one (.ptr 0 0 0))), (15, (.one (.d (.int .u64 (IntKind.wrap .u64 (x12.1.tdiv (IntKind.wrap .u64 (x16)))))))), (18, (.one (.d (.int .u64 (IntKind.wrap .u64 ((IntKind.wrap .u64 ((w64 (p2.tdiv x7)))) * (IntKind.wrap .u64 ((IntKind.wrap .u64 (p4)).tdiv (IntKind.wrap .u64 (x16)))))))))), (120, (B ((decide (2305843009213693952 < (IntKind.wrap .u64 (x12.1.tdiv (IntKind.wrap .u64 (x16))))) || decide (0 < (IntKind.wrap .u64 ((IntKind.wrap .u64 ((IntKind.wrap .u64 (((IntKind.wrap .u64 ((w64 (p2.tdiv x7)))).fdiv (2 ^ 32)) * ((IntKind.wrap .u64 ((IntKind.wrap .u64 (p4)).tdiv (IntKind.wrap .u64 (x16)))).fdiv (2 ^ 32)))) + ((IntKind.wrap .u64 ((IntKind.wrap .u64 (((IntKind.wrap .u64 ((w64 (p2.tdiv x7)))).fdiv (2 ^ 32)) * (bAnd .u64 (IntKind.wrap .u64 ((IntKind.wrap .u64 (p4)).tdiv (IntKind.wrap .u64 (x16)))) 4294967295))) + ((IntKind.wrap .u64 ((bAnd .u64 (IntKind.wrap .u64 ((w64 (p2.tdiv x7)))) 4294967295) * (bAnd .u64 (IntKind.wrap .u64 ((IntKind.wrap .u64 (p4)).tdiv (IntKind.wrap .u64 (x16)))) 4294967295))).fdiv (2 ^ 32)))).fdiv (2 ^ 32)))) + ((IntKind.wrap .u64 ((bAnd .u64 (IntKind.wrap .u64 ((IntKind.wrap .u64 (((IntKind.wrap .u64 ((w64 (p2.tdiv x7)))).fdiv (2 ^ 32)) * (bAnd .u64 (IntKind.wrap .u64 ((IntKind.wrap .u64 (p4)).tdiv (IntKind.wrap .u64 (x16)))) 4294967295))) + ((IntKind.wrap .u64 ((bAnd .u64 (IntKind.wrap .u64 ((w64 (p2.tdiv x7)))) 4294967295) * (bAnd .u64 (IntKind.wrap .u64 ((IntKind.wrap .u64 (p4)).tdiv (IntKind.wrap .u64 (x16)))) 4294967295))).fdiv (2 ^ 32)))) 4294967295) + (IntKind.wrap .u64 ((bAnd .u64 (IntKind.wrap .u64 ((w64 (p2.tdiv x7)))) 4294967295) * ((IntKind.wrap .u64 ((IntKind.wrap .u64 (p4)).tdiv (IntKind.wrap .u64 (x16)))).fdiv (2 ^ 32)))))).fdiv (2 ^ 32)))))) || decide (1152921504606846976 < (IntKind.wrap .u64 ((IntKind.wrap .u64 ((w64 (p2.tdiv x7)))) * (IntKind.wrap .u64 ((IntKind.wrap .u64 (p4)).tdiv (IntKind.wrap .u64 (x16))))))))))], [.cells [.d (.int .i64 0), .d (.int .i64 0)]]⟩ (by kernel_rfl) (AC rfl (A1 rfl)) ?_
        rcases ite_some H with ⟨hx22, H⟩ | ⟨hx22, H⟩
        · refine K_t rfl hx22 ?_
          refine K_seq ?_
          refine K_reg [] [] ⟨[(4, (.one (.ptr 0 0 0))), (5, (I 4))], [.cells [.d (.int .i64 0), .d (.int .i64 0)]]⟩ (by kernel_rfl) trivial ?_
          refine K_gh ⟨[(4, (.one (.ptr 0 0 0))), (5, (I 4))], [.cells [.d (.int .i64 0), .d (.int .i64 0)]]⟩ (by kernel_rfl) ?_
          cases H
          refine K_ret ?_
          kernel_rfl
        · refine K_f rfl (Bool.eq_false_iff.2 hx22) ?_
          refine K_gh ⟨[(4, (.one (.ptr 0 0 0))), (15, (.one (.d (.int .u64 (IntKind.wrap .u64 (x12.1.tdiv (IntKind.wrap .u64 (x16)))))))), (18, (.one (.d (.int .u64 (IntKind.wrap .u64 ((IntKind.wrap .u64 ((w64 (p2.tdiv x7)))) * (IntKind.wrap .u64 ((IntKind.wrap .u64 (p4)).tdiv (IntKind.wrap .u64 (x16))))))))))], [.cells [.d (.int .i64 0), .d (.int .i64 0)]]⟩ (by kernel_rfl) ?_
          refine K_skip ?_
          refine K_seq ?_
          refine K_reg [] [] ⟨[(4, (.one (.ptr 0 0 0))), (5, (I 0))], [.cells [.d (.int .i64 (w64 ((IntKind.wrap .u64 (x12.1.tdiv (IntKind.wrap .u64 (x16))))))), .d (.int .i64 (w64 ((IntKind.wrap .u64 ((IntKind.wrap .u64 ((w64 (p2.tdiv x7)))) * (IntKind.wrap .u64 ((IntKind.wrap .u64 (p4)).tdiv (IntKind.wrap .u64 (x16)))))))))]]⟩ (by kernel_rfl) trivial ?_
          refine K_gh ⟨[(4, (.one (.ptr 0 0 0))), (5, (I 0))], [.cells [.d (.int .i64 (w64 ((IntKind.wrap .u64 (x12.1.tdiv (IntKind.wrap .u64 (x16))))))), .d (.int .i64 (w64 ((IntKind.wrap .u64 ((IntKind.wrap .u64 ((w64 (p2.tdiv x7)))) * (IntKind.wrap .u64 ((IntKind.wrap .u64 (p4)).tdiv (IntKind.wrap .u64 (x16)))))))))]]⟩ (by kernel_rfl) ?_
          cases H
          refine K_ret ?_
          kernel_rfl
def T_pieces_squares_r1 (k : Nat) (p3 : Int) (p4 : Int) (x9 : Int) (x14 : List Int) (x16 : List Int) (x19 x20 x21 : Int) (x27 : Int × Int × Int) : Option ((Int × Int × Int) ⊕ (Int × Int × Int × Int)) :=
  ((at? x14 x19).bind fun x28 => (at? x16 x19).bind fun x29 => (T_ratio_Make k (w64 ((w64 (x28 - x29)) * (w64 (x28 - x29)))) (w64 (p4 * (w64 (x21 - x20))))).bind fun x30 => (T_ratio_Add k x27.2.1 x27.2.2 x30.1 x30.2.1).bind fun x31 => (if (!decide (x31.2.2 = 0)) = true then some (.inr (x31.2.2, x31.2.2, x31.1, x31.2.1)) else some (.inl (x31.2.2, x31.1, x31.2.1))))
theorem T_pieces_squares_r1_ok (k : Nat) (p3 : Int) (p4 : Int) (x9 : Int) (x14 : List Int) (x16 : List Int) : ∀ (x19 x20 x21 : Int) (x27 : Int × Int × Int) (x : (Int × Int × Int) ⊕ (Int × Int × Int × Int)), T_pieces_squares_r1 k p3 p4 x9 x14 x16 x19 x20 x21 x27 = some x → roundM (fun b' => evC X (evF X k) k b' l_pieces_squares_r1a) (fun b' => evC X (evF X k) k b' l_pieces_squares_r1b) 0 [60, 61] [.gc] [I x19, .agg [.d (.int .i64 x20), .d (.int .i64 x21)]] (.normal, ⟨[(8, (.one (.ptr 0 0 0))), (10, (.one (.ptr 1 0 0))), (11, (.one (.ptr 2 0 0))), (14, (.one (.ptr 3 0 0))), (15, (.one (.ptr 4 0 0))), (16, (.one (.ptr 5 0 0))), (17, (.one (.ptr 6 0 0))), (59, (.one (.d (.fn (.func n_pieces_all_1) [.ref [.int .i64 p3], .ref [.int .i64 x9]]))))], [.cells [.d (.int .i64 p4)], .cells [.d (.int .i64 0), .d (.int .i64 0)], .cells [.d (.int .i64 0)], .cells [.d (.list (x14.map (D.int .i64)))], .cells [.d (.int .i64 x27.1)], .cells [.d (.list (x16.map (D.int .i64)))], .cells [.d (.int .i64 x27.2.1), .d (.int .i64 x27.2.2)]]⟩) = some (Sum.elim (fun (s : Int × Int × Int) => (true, (.normal, ⟨[(8, (.one (.ptr 0 0 0))), (10, (.one (.ptr 1 0 0))), (11, (.one (.ptr 2 0 0))), (14, (.one (.ptr 3 0 0))), (15, (.one (.ptr 4 0 0))), (16, (.one (.ptr 5 0 0))), (17, (.one (.ptr 6 0 0))), (59, (.one (.d (.fn (.func n_pieces_all_1) [.ref [.int .i64 p3], .ref [.int .i64 x9]]))))], [.cells [.d (.int .i64 p4)], .cells [.d (.int .i64 0), .d (.int .i64 0)], .cells [.d (.int .i64 0)], .cells [.d (.list (x14.map (D.int .i64)))], .cells [.d (.int .i64 s.1)], .cells [.d (.list (x16.map (D.int .i64)))], .cells [.d (.int .i64 s.2.1), .d (.int .i64 s.2.2)]]⟩))) (fun (r : Int × Int × Int × Int) => (false, (.ret, ⟨[(8, (.one (.ptr 0 0 0))), (10, (.one (.ptr 1 0 0))), (11, (.one (.ptr 2 0 0))), (14, (.one (.ptr 3 0 0))), (15, (.one (.ptr 4 0 0))), (16, (.one (.ptr 5 0 0))), (17, (.one (.ptr 6 0 0))), (59, (.one (.d (.fn (.func n_pieces_all_1) [.ref [.int .i64 p3], .ref [.int .i64 x9]]))))], [.cells [.d (.int .i64 p4)], .cells [.d (.int .i64 0), .d (.int .i64 0)], .cells [.d (.int .i64 r.1)], .cells [.d (.list (x14.map (D.int .i64)))], .cells [.d (.int .i64 r.2.1)], .cells [.d (.list (x16.map (D.int .i64)))], .cells [.d (.int .i64 r.2.2.1), .d (.int .i64 r.2.2.2)]]⟩))) x) := by
  intro x19 x20 x21 x27 x H
  unfold T_pieces_squares_r1 at H
  refine R_as rfl ?_
  refine K_seq ?_
  refine K_reg [] [] ⟨[(8, (.one (.ptr 0 0 0))), (10, (.one (.ptr 1 0 0))), (11, (.one (.ptr 2 0 0))), (14, (.one (.ptr 3 0 0))), (15, (.one (.ptr 4 0 0))), (16, (.one (.ptr 5 0 0))), (17, (.one (.ptr 6 0 0))), (18, (I x19)), (61, (.agg [.d (.int .i64 x20), .d (.int .i64 x21)]))], [.cells [.d (.int .i64 p4)], .cells [.d (.int .i64 0), .d (.int .i64 0)], .cells [.d (.int .i64 0)], .cells [.d (.list (x14.map (D.int .i64)))], .cells [.d (.int .i64 x27.1)], .cells [.d (.list (x16.map (D.int .i64)))], .cells [.d (.int .i64 x27.2.1), .d (.int .i64 x27.2.2)]]⟩ (by kernel_rfl) trivial ?_
  refine K_reg [] [] ⟨[(8, (.one (.ptr 0 0 0))), (10, (.one (.ptr 1 0 0))), (11, (.one (.ptr 2 0 0))), (14, (.one (.ptr 3 0 0))), (15, (.one (.ptr 4 0 0))), (16, (.one (.ptr 5 0 0))), (17, (.one (.ptr 6 0 0))), (18, (I x19)), (19, (.one (.ptr 7 0 0)))], [.cells [.d (.int .i64 p4)], .cells [.d (.int .i64 0), .d (.int .i64 0)], .cells [.d (.int .i64 0)], .cells [.d (.list (x14.map (D.int .i64)))], .cells [.d (.int .i64 x27.1)], .cells [.d (.list (x16.map (D.int .i64)))], .cells [.d (.int .i64 x27.2.1), .d (.int .i64 x27.2.2)], .cells [.d (.int .i64 x20), .d (.int .i64 x21)]]⟩ (by kernel_rfl) trivial ?_
  refine K_end (R_body ?_)
  refine K_block ?_
  refine K_seq ?_
  obtain ⟨x28, hx28, H⟩ := bind_some' H
  obtain ⟨x29, hx29, H⟩ := bind_some' H
  refine K_reg [.l [.int .i64 x28], .l [.int .i64 x29]] [(0 : Int) ≤ x19 ∧ x19 < (((x14.map (D.int .i64))).length : Int), ((x14.map (D.int .i64)).getD x19.toNat (.int .i64 0)).cells = [.int .i64 x28], (0 : Int) ≤ x19 ∧ x19 < (((x16.map (D.int .i64))).length : Int), ((x16.map (D.int .i64)).getD x19.toNat (.int .i64 0)).cells = [.int .i64 x29]] ⟨[(8, (.one (.ptr 0 0 0))), (10, (.one (.ptr 1 0 0))), (11, (.one (.ptr 2 0 0))), (15, (.one (.ptr 4 0 0))), (17, (.one (.ptr 6 0 0))), (19, (.one (.ptr 7 0 0))), (20, (I (w64 (x28 - x29))))], [.cells [.d (.int .i64 p4)], .cells [.d (.int .i64 0), .d (.int .i64 0)], .cells [.d (.int .i64 0)], .cells [.d (.list (x14.map (D.int .i64)))], .cells [.d (.int .i64 x27.1)], .cells [.d (.list (x16.map (D.int .i64)))], .cells [.d (.int .i64 x27.2.1), .d (.int .i64 x27.2.2)], .cells [.d (.int .i64 x20), .d (.int .i64 x21)]]⟩ (by kernel_rfl) (AC (at_ok hx28 (D.int .i64) (.int .i64 0)).1 (AC (at_ok hx28 (D.int .i64) (.int .i64 0)).2 (AC (at_ok hx29 (D.int .i64) (.int .i64 0)).1 (A1 (at_ok hx29 (D.int .i64) (.int .i64 0)).2)))) ?_
  refine K_seq ?_
  obtain ⟨x30, hx30, H⟩ := bind_some' H
  refine K_reg [.r (.tup [(true, [.d (.int .i64 x30.1), .d (.int .i64 x30.2.1)]), (false, [.d (.int .i64 x30.2.2)])]) []] [evF X k n_ratio_Make [(I (w64 ((w64 (x28 - x29)) * (w64 (x28 - x29))))), (I (w64 (p4 * (w64 (x21 - x20)))))] [] = some ((.tup [(true, [.d (.int .i64 x30.1), .d (.int .i64 x30.2.1)]), (false, [.d (.int .i64 x30.2.2)])]), [])] ⟨[(10, (.one (.ptr 1 0 0))), (11, (.one (.ptr 2 0 0))), (15, (.one (.ptr 4 0 0))), (17, (.one (.ptr 6 0 0))), (21, (.one (.ptr 8 0 0)))], [.cells [.d (.int .i64 p4)], .cells [.d (.int .i64 0), .d (.int .i64 0)], .cells [.d (.int .i64 0)], .cells [.d (.list (x14.map (D.int .i64)))], .cells [.d (.int .i64 x27.1)], .cells [.d (.list (x16.map (D.int .i64)))], .cells [.d (.int .i64 x27.2.1), .d (.int .i64 x27.2.2)], .cells [.d (.int .i64 x20), .d (.int .i64 x21)], .cells [.d (.int .i64 x30.1), .d (.int .i64 x30.2.1)]]⟩ (by kernel_rfl) (A1 (T_ratio_Make_ok k (w64 ((w64 (x28 - x29)) * (w64 (x28 - x29)))) (w64 (p4 * (w64 (x21 - x20)))) x30 hx30)) ?_
  refine K_seq ?_
  obtain ⟨x31, hx31, H⟩ := bind_some' H
  refine K_reg [.r (.tup [(true, [.d (.int .i64 x31.1), .d (.int .i64 x31.2.1)]), (false, [.d (.int .i64 x31.2.2)])]) []] [evF X k n_ratio_Add [(.agg [.d (.int .i64 x27.2.1), .d (.int .i64 x27.2.2)]), (.agg [.d (.int .i64 x30.1), .d (.int .i64 x30.2.1)])] [] = some ((.tup [(true, [.d (.int .i64 x31.1), .d (.int .i64 x31.2.1)]), (false, [.d (.int .i64 x31.2.2)])]), [])] ⟨[(10, (.one (.ptr 1 0 0))), (11, (.one (.ptr 2 0 0))), (15, (.one (.ptr 4 0 0)))], [.cells [.d (.int .i64 p4)], .cells [.d (.int .i64 0), .d (.int .i64 0)], .cells [.d (.int .i64 0)], .cells [.d (.list (x14.map (D.int .i64)))], .cells [.d (.int .i64 x31.2.2)], .cells [.d (.list (x16.map (D.int .i64)))], .cells [.d (.int .i64 x31.1), .d (.int .i64 x31.2.1)], .cells [.d (.int .i64 x20), .d (.int .i64 x21)]]⟩ (by kernel_rfl) (A1 (T_ratio_Add_ok k x27.2.1 x27.2.2 x30.1 x30.2.1 x31 hx31)) ?_
  refine K_seq ?_
  refine K_reg [] [] ⟨[(10, (.one (.ptr 1 0 0))), (11, (.one (.ptr 2 0 0))), (15, (.one (.ptr 4 0 0))), (92, (B (!decide (x31.2.2 = 0))))], [.cells [.d (.int .i64 p4)], .cells [.d (.int .i64 0), .d (.int .i64 0)], .cells [.d (.int .i64 0)], .cells [.d (.list (x14.map (D.int .i64)))], .cells [.d (.int .i64 x31.2.2)], .cells [.d (.list (x16.map (D.int .i64)))], .cells [.d (.int .i64 x31.1), .d (.int .i64 x31.2.1)], .cells [.d (.int .i64 x20), .d (.int .i64 x21)]]⟩ (by kernel_rfl) trivial ?_
  rcases ite_some H with ⟨hx32, H⟩ | ⟨hx32, H⟩
  · refine K_t rfl hx32 ?_
    refine K_seq ?_
    refine K_regD [] [(⟨[(10, (.one (.ptr 1 0 0))), (11, (.one (.ptr 2 0 0)))], [.cells [.d (.int .i64 p4)], .cells [.d (.int .i64 0), .d (.int .i64 0)], .cells [.d (.int .i64 x31.2.2)], .cells [.d (.list (x14.map (D.int .i64)))], .cells [.d (.int .i64 x31.2.2)], .cells [.d (.list (x16.map (D.int .i64)))], .cells [.d (.int .i64 x31.1), .d (.int .i64 x31.2.1)], .cells [.d (.int .i64 x20), .d (.int .i64 x21)]]⟩ : St) = ⟨[(10, (.one (.ptr 1 0 0))), (11, (.one (.ptr 2 0 0)))], [.cells [.d (.int .i64 p4)], .cells [.d (.int .i64 0), .d (.int .i64 0)], .cells [.d (.int .i64 x31.2.2)], .cells [.d (.list (x14.map (D.int .i64)))], .cells [.d (.int .i64 x31.2.2)], .cells [.d (.list (x16.map (D.int .i64)))], .cells [.d (.int .i64 x31.1), .d (.int .i64 x31.2.1)], .cells [.d (.int .i64 x20), .d (.int .i64 x21)]]⟩] ⟨[(10, (.one (.ptr 1 0 0))), (11, (.one (.ptr 2 0 0)))], [.cells [.d (.int .i64 p4)], .cells [.d (.int .i64 0), .d (.int .i64 0)], .cells [.d (.int .i64 x31.2.2)], .cells [.d (.list (x14.map (D.int .i64)))], .cells [.d (.int .i64 x31.2.2)], .cells [.d (.list (x16.map (D.int .i64)))], .cells [.d (.int .i64 x31.1), .d (.int .i64 x31.2.1)], .cells [.d (.int .i64 x20), .d (.int .i64 x21)]]⟩ (by kernel_rfl) (A1 rfl) ?_
    refine K_gh ⟨[(10, (.one (.ptr 1 0 0))), (11, (.one (.ptr 2 0 0)))], [.cells [.d (.int .i64 p4)], .cells [.d (.int .i64 0), .d (.int .i64 0)], .cells [.d (.int .i64 x31.2.2)], .cells [.d (.list (x14.map (D.int .i64)))], .cells [.d (.int .i64 x31.2.2)], .cells [.d (.list (x16.map (D.int .i64)))], .cells [.d (.int .i64 x31.1), .d (.int .i64 x31.2.1)], .cells [.d (.int .i64 x20), .d (.int .i64 x21)]]⟩ (by kernel_rfl) ?_
    cases H
    exact K_ret (R_end ⟨[(8, (.one (.ptr 0 0 0))), (10, (.one (.ptr 1 0 0))), (11, (.one (.ptr 2 0 0))), (14, (.one (.ptr 3 0 0))), (15, (.one (.ptr 4 0 0))), (16, (.one (.ptr 5 0 0))), (17, (.one (.ptr 6 0 0))), (59, (.one (.d (.fn (.func n_pieces_all_1) [.ref [.int .i64 p3], .ref [.int .i64 x9]]))))], [.cells [.d (.int .i64 p4)], .cells [.d (.int .i64 0), .d (.int .i64 0)], .cells [.d (.int .i64 x31.2.2)], .cells [.d (.list (x14.map (D.int .i64)))], .cells [.d (.int .i64 x31.2.2)], .cells [.d (.list (x16.map (D.int .i64)))], .cells [.d (.int .i64 x31.1), .d (.int .i64 x31.2.1)]]⟩ (by kernel_rfl) rfl)
  · refine K_f rfl (Bool.eq_false_iff.2 hx32) ?_
    refine K_gh ⟨[], [.cells [.d (.int .i64 p4)], .cells [.d (.int .i64 0), .d (.int .i64 0)], .cells [.d (.int .i64 0)], .cells [.d (.list (x14.map (D.int .i64)))], .cells [.d (.int .i64 x31.2.2)], .cells [.d (.list (x16.map (D.int .i64)))], .cells [.d (.int .i64 x31.1), .d (.int .i64 x31.2.1)], .cells [.d (.int .i64 x20), .d (.int .i64 x21)]]⟩ (by kernel_rfl) ?_
    refine K_skip ?_
    refine K_blk ?_
    cases H
    exact K_end (R_end ⟨[(8, (.one (.ptr 0 0 0))), (10, (.one (.ptr 1 0 0))), (11, (.one (.ptr 2 0 0))), (14, (.one (.ptr 3 0 0))), (15, (.one (.ptr 4 0 0))), (16, (.one (.ptr 5 0 0))), (17, (.one (.ptr 6 0 0))), (59, (.one (.d (.fn (.func n_pieces_all_1) [.ref [.int .i64 p3], .ref [.int .i64 x9]]))))], [.cells [.d (.int .i64 p4)], .cells [.d (.int .i64 0), .d (.int .i64 0)], .cells [.d (.int .i64 0)], .cells [.d (.list (x14.map (D.int .i64)))], .cells [.d (.int .i64 x31.2.2)], .cells [.d (.list (x16.map (D.int .i64)))], .cells [.d (.int .i64 x31.1), .d (.int .i64 x31.2.1)]]⟩ (by kernel_rfl) rfl)
def T_pieces_squares (k : Nat) (p1 : List Int) (p2 : List Int) (p3 : Int) (p4 : Int) : Option (Int × Int × Int) := match k with
  | 0 => none
  | k + 1 => ((T_euclid_Distance k p1 p2).bind fun x1 => (if (!decide (x1.2 = 0)) = true then some (0, 0, x1.2) else ((T_pieces_Sums k p1 p3).bind fun x3 => (if (!decide (x3.2 = 0)) = true then some (0, 0, x3.2) else ((T_pieces_Sums k p2 p3).bind fun x5 => (if (!decide (x5.2 = 0)) = true then some (0, 0, x5.2) else ((T_pieces_all k (p1.length : Int) p3).bind fun x7 => (allT (T_pieces_squares_r1 k p3 p4 (p1.length : Int) x3.1 x5.1) (p1.length : Int) p3 k 0 (x5.2, 0, 1)).bind fun x33 => (match x33 with | .inl x34 => some (x34.2.1, x34.2.2, 0) | .inr x35 => some (0, 0, x35.1)))))))))
theorem T_pieces_squares_ok (k : Nat) (p1 : List Int) (p2 : List Int) (p3 : Int) (p4 : Int) (r : Int × Int × Int) : T_pieces_squares k p1 p2 p3 p4 = some r → evF X k n_pieces_squares [(.one (.d (.list (p1.map (D.int .i64))))), (.one (.d (.list (p2.map (D.int .i64))))), (I p3), (I p4), (.one (.fn (.func n_pieces_Sums) []))] [] = some ((.tup [(true, [.d (.int .i64 r.1), .d (.int .i64 r.2.1)]), (false, [.d (.int .i64 r.2.2)])]), []) := by
  intro H
  cases k with
  | zero => simp [T_pieces_squares] at H
  | succ k =>
    simp only [T_pieces_squares] at H
    refine F_in X_pieces_squares rfl ?_
    refine K_seq ?_
    refine K_reg [] [] ⟨[(0, (.one (.d (.list (p1.map (D.int .i64)))))), (1, (.one (.d (.list (p2.map (D.int .i64)))))), (2, (I p3)), (4, (.one (.fn (.func n_pieces_Sums) []))), (8, (.one (.ptr 0 0 0))), (10, (.one (.ptr 1 0 0))), (11, (.one (.ptr 2 0 0)))], [.cells [.d (.int .i64 p4)], .cells [.d (.int .i64 0), .d (.int .i64 0)], .cells [.d (.int .i64 0)]]⟩ (by kernel_rfl) trivial ?_
    refine K_seq ?_
    refine K_seq ?_
    obtain ⟨x1, hx1, H⟩ := bind_some' H
    refine K_reg [.r (.tup [(false, [.d (.int .i64 x1.1)]), (false, [.d (.int .i64 x1.2)])]) []] [evF X k n_euclid_Distance [(.one (.d (.list (p1.map (D.int .i64))))), (.one (.d (.list (p2.map (D.int .i64)))))] [] = some ((.tup [(false, [.d (.int .i64 x1.1)]), (false, [.d (.int .i64 x1.2)])]), [])] ⟨[(0, (.one (.d (.list (p1.map (D.int .i64)))))), (1, (.one (.d (.list (p2.map (D.int .i64)))))), (2, (I p3)), (4, (.one (.fn (.func n_pieces_Sums) []))), (8, (.one (.ptr 0 0 0))), (10, (.one (.ptr 1 0 0))), (11, (.one (.ptr 2 0 0))), (13, (I x1.2))], [.cells [.d (.int .i64 p4)], .cells [.d (.int .i64 0), .d (.int .i64 0)], .cells [.d (.int .i64 0)]]⟩ (by kernel_rfl) (A1 (T_euclid_Distance_ok k p1 p2 x1 hx1)) ?_
    refine K_seq ?_
    refine K_reg [] [] ⟨[(0, (.one (.d (.list (p1.map (D.int .i64)))))), (1, (.one (.d (.list (p2.map (D.int .i64)))))), (2, (I p3)), (4, (.one (.fn (.func n_pieces_Sums) []))), (8, (.one (.ptr 0 0 0))), (10, (.one (.ptr 1 0 0))), (11, (.one (.ptr 2 0 0))), (13, (I x1.2)), (30, (B (!decide (x1.2 = 0))))], [.cells [.d (.int .i64 p4)], .cells [.d (.int .i64 0), .d (.int .i64 0)], .cells [.d (.int .i64 0)]]⟩ (by kernel_rfl) trivial ?_
    rcases ite_some H with ⟨hx2, H⟩ | ⟨hx2, H⟩
    · refine K_t rfl hx2 ?_
      refine K_seq ?_
      refine K_reg [] [] ⟨[(10, (.one (.ptr 0 0 0))), (11, (.one (.ptr 1 0 0)))], [.cells [.d (.int .i64 0), .d (.int .i64 0)], .cells [.d (.int .i64 x1.2)]]⟩ (by kernel_rfl) trivial ?_
      refine K_gh ⟨[(10, (.one (.ptr 0 0 0))), (11, (.one (.ptr 1 0 0)))], [.cells [.d (.int .i64 0), .d (.int .i64 0)], .cells [.d (.int .i64 x1.2)]]⟩ (by kernel_rfl) ?_
      cases H
      refine K_ret ?_
      kernel_rfl
    · refine K_f rfl (Bool.eq_false_iff.2 hx2) ?_
      refine K_gh ⟨[(0, (.one (.d (.list (p1.map (D.int .i64)))))), (1, (.one (.d (.list (p2.map (D.int .i64)))))), (2, (I p3)), (4, (.one (.fn (.func n_pieces_Sums) []))), (8, (.one (.ptr 0 0 0))), (10, (.one (.ptr 1 0 0))), (11, (.one (.ptr 2 0 0)))], [.cells [.d (.int .i64 p4)], .cells [.d (.int .i64 0), .d (.int .i64 0)], .cells [.d (.int .i64 0)]]⟩ (by kernel_rfl) ?_
      refine K_skip ?_
      refine K_seq ?_
      obtain ⟨x3, hx3, H⟩ := bind_some' H
      refine K_reg [.r (.tup [(false, [.d (.list (x3.1.map (D.int .i64)))]), (false, [.d (.int .i64 x3.2)])]) []] [evF X k n_pieces_Sums [(.one (.d (.list (p1.map (D.int .i64))))), (I p3)] [] = some ((.tup [(false, [.d (.list (x3.1.map (D.int .i64)))]), (false, [.d (.int .i64 x3.2)])]), [])] ⟨[(0, (.one (.d (.list (p1.map (D.int .i64)))))), (1, (.one (.d (.list (p2.map (D.int .i64)))))), (2, (I p3)), (4, (.one (.fn (.func n_pieces_Sums) []))), (8, (.one (.ptr 0 0 0))), (10, (.one (.ptr 1 0 0))), (11, (.one (.ptr 2 0 0))), (14, (.one (.ptr 3 0 0))), (15, (.one (.ptr 4 0 0)))], [.cells [.d (.int .i64 p4)], .cells [.d (.int .i64 0), .d (.int .i64 0)], .cells [.d (.int .i64 0)], .cells [.d (.list (x3.1.map (D.int .i64)))], .cells [.d (.int .i64 x3.2)]]⟩ (by kernel_rfl) (A1 (T_pieces_Sums_ok k p1 p3 x3 hx3)) ?_
      refine K_seq ?_
      refine K_seq ?_
      refine K_reg [] [] ⟨[(0, (.one (.d (.list (p1.map (D.int .i64)))))), (1, (.one (.d (.list (p2.map (D.int .i64)))))), (2, (I p3)), (4, (.one (.fn (.func n_pieces_Sums) []))), (8, (.one (.ptr 0 0 0))), (10, (.one (.ptr 1 0 0))), (11, (.one (.ptr 2 0 0))), (14, (.one (.ptr 3 0 0))), (15, (.one (.ptr 4 0 0))), (41, (B (!decide (x3.2 = 0))))], [.cells [.d (.int .i64 p4)], .cells [.d (.int .i64 0), .d (.int .i64 0)], .cells [.d (.int .i64 0)], .cells [.d (.list (x3.1.map (D.int .i64)))], .cells [.d (.int .i64 x3.2)]]⟩ (by kernel_rfl) trivial ?_
      rcases ite_some H with ⟨hx4, H⟩ | ⟨hx4, H⟩
      · refine K_t rfl hx4 ?_
        refine K_seq ?_
        refine K_regD [] [(⟨[(10, (.one (.ptr 0 0 0))), (11, (.one (.ptr 1 0 0)))], [.cells [.d (.int .i64 0), .d (.int .i64 0)], .cells [.d (.int .i64 x3.2)]]⟩ : St) = ⟨[(10, (.one (.ptr 0 0 0))), (11, (.one (.ptr 1 0 0)))], [.cells [.d (.int .i64 0), .d (.int .i64 0)], .cells [.d (.int .i64 x3.2)]]⟩] ⟨[(10, (.one (.ptr 0 0 0))), (11, (.one (.ptr 1 0 0)))], [.cells [.d (.int .i64 0), .d (.int .i64 0)], .cells [.d (.int .i64 x3.2)]]⟩ (by kernel_rfl) (A1 rfl) ?_
        refine K_gh ⟨[(10, (.one (.ptr 0 0 0))), (11, (.one (.ptr 1 0 0)))], [.cells [.d (.int .i64 0), .d (.int .i64 0)], .cells [.d (.int .i64 x3.2)]]⟩ (by kernel_rfl) ?_
        cases H
        refine K_ret ?_
        kernel_rfl
      · refine K_f rfl (Bool.eq_false_iff.2 hx4) ?_
        refine K_gh ⟨[(0, (.one (.d (.list (p1.map (D.int .i64)))))), (1, (.one (.d (.list (p2.map (D.int .i64)))))), (2, (I p3)), (4, (.one (.fn (.func n_pieces_Sums) []))), (8, (.one (.ptr 0 0 0))), (10, (.one (.ptr 1 0 0))), (11, (.one (.ptr 2 0 0))), (14, (.one (.ptr 3 0 0))), (15, (.one (.ptr 4 0 0)))], [.cells [.d (.int .i64 p4)], .cells [.d (.int .i64 0), .d (.int .i64 0)], .cells [.d (.int .i64 0)], .cells [.d (.list (x3.1.map (D.int .i64)))], .cells [.d (.int .i64 x3.2)]]⟩ (by kernel_rfl) ?_
        refine K_skip ?_
        refine K_seq ?_
        obtain ⟨x5, hx5, H⟩ := bind_some' H
        refine K_reg [.r (.tup [(false, [.d (.list (x5.1.map (D.int .i64)))]), (false, [.d (.int .i64 x5.2)])]) []] [evF X k n_pieces_Sums [(.one (.d (.list (p2.map (D.int .i64))))), (I p3)] [] = some ((.tup [(false, [.d (.list (x5.1.map (D.int .i64)))]), (false, [.d (.int .i64 x5.2)])]), [])] ⟨[(0, (.one (.d (.list (p1.map (D.int .i64)))))), (2, (I p3)), (8, (.one (.ptr 0 0 0))), (10, (.one (.ptr 1 0 0))), (11, (.one (.ptr 2 0 0))), (14, (.one (.ptr 3 0 0))), (15, (.one (.ptr 4 0 0))), (16, (.one (.ptr 5 0 0)))], [.cells [.d (.int .i64 p4)], .cells [.d (.int .i64 0), .d (.int .i64 0)], .cells [.d (.int .i64 0)], .cells [.d (.list (x3.1.map (D.int .i64)))], .cells [.d (.int .i64 x5.2)], .cells [.d (.list (x5.1.map (D.int .i64)))]]⟩ (by kernel_rfl) (A1 (T_pieces_Sums_ok k p2 p3 x5 hx5)) ?_
        refine K_seq ?_
        refine K_seq ?_
        refine K_reg [] [] ⟨[(0, (.one (.d (.list (p1.map (D.int .i64)))))), (2, (I p3)), (8, (.one (.ptr 0 0 0))), (10, (.one (.ptr 1 0 0))), (11, (.one (.ptr 2 0 0))), (14, (.one (.ptr 3 0 0))), (15, (.one (.ptr 4 0 0))), (16, (.one (.ptr 5 0 0))), (52, (B (!decide (x5.2 = 0))))], [.cells [.d (.int .i64 p4)], .cells [.d (.int .i64 0), .d (.int .i64 0)], .cells [.d (.int .i64 0)], .cells [.d (.list (x3.1.map (D.int .i64)))], .cells [.d (.int .i64 x5.2)], .cells [.d (.list (x5.1.map (D.int .i64)))]]⟩ (by kernel_rfl) trivial ?_
        rcases ite_some H with ⟨hx6, H⟩ | ⟨hx6, H⟩
        · refine K_t rfl hx6 ?_
          refine K_seq ?_
          refine K_regD [] [(⟨[(10, (.one (.ptr 0 0 0))), (11, (.one (.ptr 1 0 0)))], [.cells [.d (.int .i64 0), .d (.int .i64 0)], .cells [.d (.int .i64 x5.2)]]⟩ : St) = ⟨[(10, (.one (.ptr 0 0 0))), (11, (.one (.ptr 1 0 0)))], [.cells [.d (.int .i64 0), .d (.int .i64 0)], .cells [.d (.int .i64 x5.2)]]⟩] ⟨[(10, (.one (.ptr 0 0 0))), (11, (.one (.ptr 1 0 0)))], [.cells [.d (.int .i64 0), .d (.int .i64 0)], .cells [.d (.int .i64 x5.2)]]⟩ (by kernel_rfl) (A1 rfl) ?_
          refine K_gh ⟨[(10, (.one (.ptr 0 0 0))), (11, (.one (.ptr 1 0 0)))], [.cells [.d (.int .i64 0), .d (.int .i64 0)], .cells [.d (.int .i64 x5.2)]]⟩ (by kernel_rfl) ?_
          cases H
          refine K_ret ?_
          kernel_rfl
        · refine K_f rfl (Bool.eq_false_iff.2 hx6) ?_
          refine K_gh ⟨[(0, (.one (.d (.list (p1.map (D.int .i64)))))), (2, (I p3)), (8, (.one (.ptr 0 0 0))), (10, (.one (.ptr 1 0 0))), (11, (.one (.ptr 2 0 0))), (14, (.one (.ptr 3 0 0))), (15, (.one (.ptr 4 0 0))), (16, (.one (.ptr 5 0 0)))], [.cells [.d (.int .i64 p4)], .cells [.d (.int .i64 0), .d (.int .i64 0)], .cells [.d (.int .i64 0)], .cells [.d (.list (x3.1.map (D.int .i64)))], .cells [.d (.int .i64 x5.2)], .cells [.d (.list (x5.1.map (D.int .i64)))]]⟩ (by kernel_rfl) ?_
          refine K_skip ?_
          refine K_seq ?_
          refine K_reg [] [] ⟨[(0, (.one (.d (.list (p1.map (D.int .i64)))))), (2, (I p3)), (8, (.one (.ptr 0 0 0))), (10, (.one (.ptr 1 0 0))), (11, (.one (.ptr 2 0 0))), (14, (.one (.ptr 3 0 0))), (15, (.one (.ptr 4 0 0))), (16, (.one (.ptr 5 0 0))), (17, (.one (.ptr 6 0 0)))], [.cells [.d (.int .i64 p4)], .cells [.d (.int .i64 0), .d (.int .i64 0)], .cells [.d (.int .i64 0)], .cells [.d (.list (x3.1.map (D.int .i64)))], .cells [.d (.int .i64 x5.2)], .cells [.d (.list (x5.1.map (D.int .i64)))], .cells [.d (.int .i64 0), .d (.int .i64 1)]]⟩ (by kernel_rfl) trivial ?_
          refine K_seq ?_
          refine K_seq ?_
          obtain ⟨x7, hx7, H⟩ := bind_some' H
          refine K_reg [.n p1.length, .r (.one (.d (.fn (.func n_pieces_all_1) [.ref [.int .i64 p3], .ref [.int .i64 (p1.length : Int)]]))) []] [((p1.map (D.int .i64))).length = p1.length, evF X k n_pieces_all [(I (p1.length : Int)), (I p3)] [] = some ((.one (.d (.fn (.func n_pieces_all_1) [.ref [.int .i64 p3], .ref [.int .i64 (p1.length : Int)]]))), [])] ⟨[(8, (.one (.ptr 0 0 0))), (10, (.one (.ptr 1 0 0))), (11, (.one (.ptr 2 0 0))), (14, (.one (.ptr 3 0 0))), (15, (.one (.ptr 4 0 0))), (16, (.one (.ptr 5 0 0))), (17, (.one (.ptr 6 0 0))), (59, (.one (.d (.fn (.func n_pieces_all_1) [.ref [.int .i64 p3], .ref [.int .i64 (p1.length : Int)]]))))], [.cells [.d (.int .i64 p4)], .cells [.d (.int .i64 0), .d (.int .i64 0)], .cells [.d (.int .i64 0)], .cells [.d (.list (x3.1.map (D.int .i64)))], .cells [.d (.int .i64 x5.2)], .cells [.d (.list (x5.1.map (D.int .i64)))], .cells [.d (.int .i64 0), .d (.int .i64 1)]]⟩ (by kernel_rfl) (AC (List.length_map _) (A1 (T_pieces_all_ok k (p1.length : Int) p3 x7 hx7))) ?_
          refine K_block ?_
          obtain ⟨x33, hx33, H⟩ := bind_some' H
          cases x33 with
          | inl x34 =>
            dsimp only at H
            refine K_of ⟨[(8, (.one (.ptr 0 0 0))), (10, (.one (.ptr 1 0 0))), (11, (.one (.ptr 2 0 0))), (14, (.one (.ptr 3 0 0))), (15, (.one (.ptr 4 0 0))), (16, (.one (.ptr 5 0 0))), (17, (.one (.ptr 6 0 0))), (59, (.one (.d (.fn (.func n_pieces_all_1) [.ref [.int .i64 p3], .ref [.int .i64 (p1.length : Int)]]))))], [.cells [.d (.int .i64 p4)], .cells [.d (.int .i64 0), .d (.int .i64 0)], .cells [.d (.int .i64 0)], .cells [.d (.list (x3.1.map (D.int .i64)))], .cells [.d (.int .i64 x34.1)], .cells [.d (.list (x5.1.map (D.int .i64)))], .cells [.d (.int .i64 x34.2.1), .d (.int .i64 x34.2.2)]]⟩ (range_ok (fun (s : Int × Int × Int) => ⟨[(8, (.one (.ptr 0 0 0))), (10, (.one (.ptr 1 0 0))), (11, (.one (.ptr 2 0 0))), (14, (.one (.ptr 3 0 0))), (15, (.one (.ptr 4 0 0))), (16, (.one (.ptr 5 0 0))), (17, (.one (.ptr 6 0 0))), (59, (.one (.d (.fn (.func n_pieces_all_1) [.ref [.int .i64 p3], .ref [.int .i64 (p1.length : Int)]]))))], [.cells [.d (.int .i64 p4)], .cells [.d (.int .i64 0), .d (.int .i64 0)], .cells [.d (.int .i64 0)], .cells [.d (.list (x3.1.map (D.int .i64)))], .cells [.d (.int .i64 s.1)], .cells [.d (.list (x5.1.map (D.int .i64)))], .cells [.d (.int .i64 s.2.1), .d (.int .i64 s.2.2)]]⟩) (fun (r : Int × Int × Int × Int) => (.ret, ⟨[(8, (.one (.ptr 0 0 0))), (10, (.one (.ptr 1 0 0))), (11, (.one (.ptr 2 0 0))), (14, (.one (.ptr 3 0 0))), (15, (.one (.ptr 4 0 0))), (16, (.one (.ptr 5 0 0))), (17, (.one (.ptr 6 0 0))), (59, (.one (.d (.fn (.func n_pieces_all_1) [.ref [.int .i64 p3], .ref [.int .i64 (p1.length : Int)]]))))], [.cells [.d (.int .i64 p4)], .cells [.d (.int .i64 0), .d (.int .i64 0)], .cells [.d (.int .i64 r.1)], .cells [.d (.list (x3.1.map (D.int .i64)))], .cells [.d (.int .i64 r.2.1)], .cells [.d (.list (x5.1.map (D.int .i64)))], .cells [.d (.int .i64 r.2.2.1), .d (.int .i64 r.2.2.2)]]⟩)) (s := (x5.2, 0, 1)) (y := (.inl x34)) rfl (X_pieces_all_1 : X n_pieces_all_1 = some allM) (T_pieces_squares_r1_ok k p3 p4 (p1.length : Int) x3.1 x5.1) hx33) ?_
            refine K_blk ?_
            refine K_seq ?_
            refine K_reg [] [] ⟨[(10, (.one (.ptr 0 0 0))), (11, (.one (.ptr 1 0 0)))], [.cells [.d (.int .i64 x34.2.1), .d (.int .i64 x34.2.2)], .cells [.d (.int .i64 0)]]⟩ (by kernel_rfl) trivial ?_
            refine K_gh ⟨[(10, (.one (.ptr 0 0 0))), (11, (.one (.ptr 1 0 0)))], [.cells [.d (.int .i64 x34.2.1), .d (.int .i64 x34.2.2)], .cells [.d (.int .i64 0)]]⟩ (by kernel_rfl) ?_
            cases H
            refine K_ret ?_
            kernel_rfl
          | inr x35 =>
            dsimp only at H
            cases H
            refine K_xr ⟨[(8, (.one (.ptr 0 0 0))), (10, (.one (.ptr 1 0 0))), (11, (.one (.ptr 2 0 0))), (14, (.one (.ptr 3 0 0))), (15, (.one (.ptr 4 0 0))), (16, (.one (.ptr 5 0 0))), (17, (.one (.ptr 6 0 0))), (59, (.one (.d (.fn (.func n_pieces_all_1) [.ref [.int .i64 p3], .ref [.int .i64 (p1.length : Int)]]))))], [.cells [.d (.int .i64 p4)], .cells [.d (.int .i64 0), .d (.int .i64 0)], .cells [.d (.int .i64 x35.1)], .cells [.d (.list (x3.1.map (D.int .i64)))], .cells [.d (.int .i64 x35.2.1)], .cells [.d (.list (x5.1.map (D.int .i64)))], .cells [.d (.int .i64 x35.2.2.1), .d (.int .i64 x35.2.2.2)]]⟩ (range_ok (fun (s : Int × Int × Int) => ⟨[(8, (.one (.ptr 0 0 0))), (10, (.one (.ptr 1 0 0))), (11, (.one (.ptr 2 0 0))), (14, (.one (.ptr 3 0 0))), (15, (.one (.ptr 4 0 0))), (16, (.one (.ptr 5 0 0))), (17, (.one (.ptr 6 0 0))), (59, (.one (.d (.fn (.func n_pieces_all_1) [.ref [.int .i64 p3], .ref [.int .i64 (p1.length : Int)]]))))], [.cells [.d (.int .i64 p4)], .cells [.d (.int .i64 0), .d (.int .i64 0)], .cells [.d (.int .i64 0)], .cells [.d (.list (x3.1.map (D.int .i64)))], .cells [.d (.int .i64 s.1)], .cells [.d (.list (x5.1.map (D.int .i64)))], .cells [.d (.int .i64 s.2.1), .d (.int .i64 s.2.2)]]⟩) (fun (r : Int × Int × Int × Int) => (.ret, ⟨[(8, (.one (.ptr 0 0 0))), (10, (.one (.ptr 1 0 0))), (11, (.one (.ptr 2 0 0))), (14, (.one (.ptr 3 0 0))), (15, (.one (.ptr 4 0 0))), (16, (.one (.ptr 5 0 0))), (17, (.one (.ptr 6 0 0))), (59, (.one (.d (.fn (.func n_pieces_all_1) [.ref [.int .i64 p3], .ref [.int .i64 (p1.length : Int)]]))))], [.cells [.d (.int .i64 p4)], .cells [.d (.int .i64 0), .d (.int .i64 0)], .cells [.d (.int .i64 r.1)], .cells [.d (.list (x3.1.map (D.int .i64)))], .cells [.d (.int .i64 r.2.1)], .cells [.d (.list (x5.1.map (D.int .i64)))], .cells [.d (.int .i64 r.2.2.1), .d (.int .i64 r.2.2.2)]]⟩)) (s := (x5.2, 0, 1)) (y := (.inr x35)) rfl (X_pieces_all_1 : X n_pieces_all_1 = some allM) (T_pieces_squares_r1_ok k p3 p4 (p1.length : Int) x3.1 x5.1) hx33) ?_
            kernel_rfl
def T_pieces_Lower (k : Nat) (p1 : List Int) (p2 : List Int) (p3 : Int) : Option (Int × Int × Int) := match k with
  | 0 => none
  | k + 1 => ((T_pieces_squares k p1 p2 p3 1).bind fun x1 => some (x1.1, x1.2.1, x1.2.2))
theorem T_pieces_Lower_ok (k : Nat) (p1 : List Int) (p2 : List Int) (p3 : Int) (r : Int × Int × Int) : T_pieces_Lower k p1 p2 p3 = some r → evF X k n_pieces_Lower [(.one (.d (.list (p1.map (D.int .i64))))), (.one (.d (.list (p2.map (D.int .i64))))), (I p3)] [] = some ((.tup [(true, [.d (.int .i64 r.1), .d (.int .i64 r.2.1)]), (false, [.d (.int .i64 r.2.2)])]), []) := by
  intro H
  cases k with
  | zero => simp [T_pieces_Lower] at H
  | succ k =>
    simp only [T_pieces_Lower] at H
    refine F_in X_pieces_Lower rfl ?_
    refine K_seq ?_
    refine K_reg [] [] ⟨[(0, (.one (.d (.list (p1.map (D.int .i64)))))), (1, (.one (.d (.list (p2.map (D.int .i64)))))), (2, (I p3)), (6, (.one (.ptr 0 0 0)))], [.cells [.d (.int .i64 0), .d (.int .i64 0)]]⟩ (by kernel_rfl) trivial ?_
    refine K_seq ?_
    obtain ⟨x1, hx1, H⟩ := bind_some' H
    refine K_reg [.r (.tup [(true, [.d (.int .i64 x1.1), .d (.int .i64 x1.2.1)]), (false, [.d (.int .i64 x1.2.2)])]) []] [evF X k n_pieces_squares [(.one (.d (.list (p1.map (D.int .i64))))), (.one (.d (.list (p2.map (D.int .i64))))), (I p3), (I 1), (.one (.fn (.func n_pieces_Sums) []))] [] = some ((.tup [(true, [.d (.int .i64 x1.1), .d (.int .i64 x1.2.1)]), (false, [.d (.int .i64 x1.2.2)])]), [])] ⟨[(6, (.one (.ptr 0 0 0))), (7, (I x1.2.2))], [.cells [.d (.int .i64 x1.1), .d (.int .i64 x1.2.1)]]⟩ (by kernel_rfl) (A1 (T_pieces_squares_ok k p1 p2 p3 1 x1 hx1)) ?_
    refine K_gh ⟨[(6, (.one (.ptr 0 0 0))), (7, (I x1.2.2))], [.cells [.d (.int .i64 x1.1), .d (.int .i64 x1.2.1)]]⟩ (by kernel_rfl) ?_
    cases H
    refine K_ret ?_
    kernel_rfl
def T_keep_Ints_l1 (k : Nat) (p1 : List Int) (p2 : List Int) (x4 : Int) (x10 : Int) : Option (Int ⊕ (Unit ⊕ Unit)) :=
  (if x10 < x4 then ((at? p1 x10).bind fun x12 => (at? p2 x10).bind fun x13 => (if (!decide (x12 = x13)) = true then some (.inr (.inr ())) else some (.inl (w64 (x10 + 1))))) else some (.inr (.inl ())))
theorem T_keep_Ints_l1_ok (k : Nat) (p1 : List Int) (p2 : List Int) (x4 : Int) : ∀ (x10 : Int) (x : Int ⊕ (Unit ⊕ Unit)), T_keep_Ints_l1 k p1 p2 x4 x10 = some x → evC X (evF X k) k 0 l_keep_Ints_1 ⟨[(0, (.one (.d (.list (p1.map (D.int .i64)))))), (1, (.one (.d (.list (p2.map (D.int .i64)))))), (12, (I x4)), (13, (I x10))], []⟩ = some (outS (fun (s : Int) => ⟨[(0, (.one (.d (.list (p1.map (D.int .i64)))))), (1, (.one (.d (.list (p2.map (D.int .i64)))))), (12, (I x4)), (13, (I s))], []⟩) (fun (r : Unit ⊕ Unit) => Sum.elim (fun y => (.exit 0, ⟨[], []⟩)) (fun y => (.ret, ⟨[(4, (B false))], []⟩)) r) x) := by
  intro x10 x H
  unfold T_keep_Ints_l1 at H
  refine K_in ?_
  refine K_seq ?_
  refine K_reg [] [] ⟨[(0, (.one (.d (.list (p1.map (D.int .i64)))))), (1, (.one (.d (.list (p2.map (D.int .i64)))))), (12, (I x4)), (13, (I x10)), (14, (B (decide (x10 < x4))))], []⟩ (by kernel_rfl) trivial ?_
  refine K_seq ?_
  rcases ite_some H with ⟨hx11, H⟩ | ⟨hx11, H⟩
  · refine K_t rfl (decide_eq_true hx11) ?_
    refine K_gh ⟨[(0, (.one (.d (.list (p1.map (D.int .i64)))))), (1, (.one (.d (.list (p2.map (D.int .i64)))))), (12, (I x4)), (13, (I x10))], []⟩ (by kernel_rfl) ?_
    refine K_skip ?_
    refine K_seq ?_
    refine K_block ?_
    refine K_seq ?_
    refine K_reg [] [] ⟨[(0, (.one (.d (.list (p1.map (D.int .i64)))))), (1, (.one (.d (.list (p2.map (D.int .i64)))))), (5, (I x10)), (12, (I x4)), (13, (I x10))], []⟩ (by kernel_rfl) trivial ?_
    refine K_seq ?_
    obtain ⟨x12, hx12, H⟩ := bind_some' H
    obtain ⟨x13, hx13, H⟩ := bind_some' H
    refine K_reg [.l [.int .i64 x12], .l [.int .i64 x13]] [(0 : Int) ≤ x10 ∧ x10 < (((p1.map (D.int .i64))).length : Int), ((p1.map (D.int .i64)).getD x10.toNat (.int .i64 0)).cells = [.int .i64 x12], (0 : Int) ≤ x10 ∧ x10 < (((p2.map (D.int .i64))).length : Int), ((p2.map (D.int .i64)).getD x10.toNat (.int .i64 0)).cells = [.int .i64 x13]] ⟨[(0, (.one (.d (.list (p1.map (D.int .i64)))))), (1, (.one (.d (.list (p2.map (D.int .i64)))))), (12, (I x4)), (13, (I x10)), (24, (B (!decide (x12 = x13))))], []⟩ (by kernel_rfl) (AC (at_ok hx12 (D.int .i64) (.int .i64 0)).1 (AC (at_ok hx12 (D.int .i64) (.int .i64 0)).2 (AC (at_ok hx13 (D.int .i64) (.int .i64 0)).1 (A1 (at_ok hx13 (D.int .i64) (.int .i64 0)).2)))) ?_
    rcases ite_some H with ⟨hx14, H⟩ | ⟨hx14, H⟩
    · refine K_t rfl hx14 ?_
      refine K_seq ?_
      refine K_reg [] [] ⟨[(4, (B false))], []⟩ (by kernel_rfl) trivial ?_
      refine K_gh ⟨[(4, (B false))], []⟩ (by kernel_rfl) ?_
      cases H
      exact K_ret rfl
    · refine K_f rfl (Bool.eq_false_iff.2 hx14) ?_
      refine K_gh ⟨[(0, (.one (.d (.list (p1.map (D.int .i64)))))), (1, (.one (.d (.list (p2.map (D.int .i64)))))), (12, (I x4)), (13, (I x10))], []⟩ (by kernel_rfl) ?_
      refine K_skip ?_
      refine K_blk ?_
      refine K_reg [] [] ⟨[(0, (.one (.d (.list (p1.map (D.int .i64)))))), (1, (.one (.d (.list (p2.map (D.int .i64)))))), (12, (I x4)), (13, (I (w64 (x10 + 1))))], []⟩ (by kernel_rfl) trivial ?_
      cases H
      exact K_end rfl
  · refine K_f rfl (decide_eq_false hx11) ?_
    refine K_gh ⟨[], []⟩ (by kernel_rfl) ?_
    cases H
    exact K_exit0 rfl rfl
def T_keep_Ints (k : Nat) (p1 : List Int) (p2 : List Int) : Option Bool := match k with
  | 0 => none
  | k + 1 => (if (!decide ((p1.length : Int) = (p2.length : Int))) = true then some false else ((loopT (T_keep_Ints_l1 k p1 p2 (p1.length : Int)) k 0).bind fun x15 => (match x15 with | .inl x16 => some true | .inr x17 => some false)))
theorem T_keep_Ints_ok (k : Nat) (p1 : List Int) (p2 : List Int) (r : Bool) : T_keep_Ints k p1 p2 = some r → evF X k n_keep_Ints [(.one (.d (.list (p1.map (D.int .i64))))), (.one (.d (.list (p2.map (D.int .i64)))))] [] = some ((B r), []) := by
  intro H
  cases k with
  | zero => simp [T_keep_Ints] at H
  | succ k =>
    simp only [T_keep_Ints] at H
    refine F_in X_keep_Ints rfl ?_
    refine K_seq ?_
    refine K_reg [] [] ⟨[(0, (.one (.d (.list (p1.map (D.int .i64)))))), (1, (.one (.d (.list (p2.map (D.int .i64))))))], []⟩ (by kernel_rfl) trivial ?_
    refine K_seq ?_
    refine K_seq ?_
    refine K_reg [.n p1.length, .n p2.length] [((p1.map (D.int .i64))).length = p1.length, ((p2.map (D.int .i64))).length = p2.length] ⟨[(0, (.one (.d (.list (p1.map (D.int .i64)))))), (1, (.one (.d (.list (p2.map (D.int .i64)))))), (10, (B (!decide ((p1.length : Int) = (p2.length : Int)))))], []⟩ (by kernel_rfl) (AC (List.length_map _) (A1 (List.length_map _))) ?_
    rcases ite_some H with ⟨hx1, H⟩ | ⟨hx1, H⟩
    · refine K_t rfl hx1 ?_
      refine K_seq ?_
      refine K_reg [] [] ⟨[(4, (B false))], []⟩ (by kernel_rfl) trivial ?_
      refine K_gh ⟨[(4, (B false))], []⟩ (by kernel_rfl) ?_
      cases H
      refine K_ret ?_
      kernel_rfl
    · refine K_f rfl (Bool.eq_false_iff.2 hx1) ?_
      refine K_gh ⟨[(0, (.one (.d (.list (p1.map (D.int .i64)))))), (1, (.one (.d (.list (p2.map (D.int .i64))))))], []⟩ (by kernel_rfl) ?_
      refine K_skip ?_
      refine K_seq ?_
      refine K_seq ?_
      refine K_reg [.n p1.length] [((p1.map (D.int .i64))).length = p1.length] ⟨[(0, (.one (.d (.list (p1.map (D.int .i64)))))), (1, (.one (.d (.list (p2.map (D.int .i64)))))), (12, (I (p1.length : Int))), (13, (I 0))], []⟩ (by kernel_rfl) (A1 (List.length_map _)) ?_
      refine K_block ?_
      obtain ⟨x15, hx15, H⟩ := bind_some' H
      cases x15 with
      | inl x16 =>
        dsimp only at H
        refine K_loop ⟨[], []⟩ (loop_ok (fun (s : Int) => ⟨[(0, (.one (.d (.list (p1.map (D.int .i64)))))), (1, (.one (.d (.list (p2.map (D.int .i64)))))), (12, (I (p1.length : Int))), (13, (I s))], []⟩) (fun (r : Unit ⊕ Unit) => Sum.elim (fun y => (.exit 0, ⟨[], []⟩)) (fun y => (.ret, ⟨[(4, (B false))], []⟩)) r) (fun r h => by cases r <;> cases h) (T_keep_Ints_l1_ok k p1 p2 (p1.length : Int)) k 0 (.inl x16) hx15) rfl ?_
        refine K_seq ?_
        refine K_reg [] [] ⟨[(4, (B true))], []⟩ (by kernel_rfl) trivial ?_
        refine K_gh ⟨[(4, (B true))], []⟩ (by kernel_rfl) ?_
        cases H
        refine K_ret ?_
        kernel_rfl
      | inr x17 =>
        dsimp only at H
        cases H
        refine K_loopr ⟨[(4, (B false))], []⟩ (loop_ok (fun (s : Int) => ⟨[(0, (.one (.d (.list (p1.map (D.int .i64)))))), (1, (.one (.d (.list (p2.map (D.int .i64)))))), (12, (I (p1.length : Int))), (13, (I s))], []⟩) (fun (r : Unit ⊕ Unit) => Sum.elim (fun y => (.exit 0, ⟨[], []⟩)) (fun y => (.ret, ⟨[(4, (B false))], []⟩)) r) (fun r h => by cases r <;> cases h) (T_keep_Ints_l1_ok k p1 p2 (p1.length : Int)) k 0 (.inr x17) hx15) ?_
        kernel_rfl
def T_law18_awake (k : Nat) : Option Bool := match k with
  | 0 => none
  | k + 1 => ((T_pieces_Starts k 7 3).bind fun x1 => (T_pieces_Centred k ([1, 2, 3, 4, 5, 6, 7] : List Int) 3).bind fun x2 => (T_pieces_Lower k ([0, 0, 4, 4] : List Int) ([1, 1, 0, 0] : List Int) 2).bind fun x3 => ((if x1.2 = 0 then ((T_keep_Ints k x1.1 ([0, 2, 4, 7] : List Int)).bind fun x6 => (if (x6 && decide (x2.2 = 0)) = true then ((T_keep_Ints k x2.1 ([(-35), (-7), 42] : List Int)).bind fun x9 => some ((x9 && decide (x3.2.2 = 0)) && (decide (x3.1 = 34) && (decide (x3.2.1 = 1) && true)))) else some false)) else some false)).bind fun x10 => some x10)
theorem T_law18_awake_ok (k : Nat) (r : Bool) : T_law18_awake k = some r → evF X k n_law18_awake [] [] = some ((B r), []) := by
  intro H
  cases k with
  | zero => simp [T_law18_awake] at H
  | succ k =>
    simp only [T_law18_awake] at H
    refine F_in X_law18_awake rfl ?_
    refine K_seq ?_
    refine K_reg [] [] ⟨[], []⟩ (by kernel_rfl) trivial ?_
    refine K_seq ?_
    obtain ⟨x1, hx1, H⟩ := bind_some' H
    refine K_reg [.r (.tup [(false, [.d (.list (x1.1.map (D.int .i64)))]), (false, [.d (.int .i64 x1.2)])]) []] [evF X k n_pieces_Starts [(I 7), (I 3)] [] = some ((.tup [(false, [.d (.list (x1.1.map (D.int .i64)))]), (false, [.d (.int .i64 x1.2)])]), [])] ⟨[(1, (.one (.d (.list (x1.1.map (D.int .i64)))))), (2, (I x1.2))], []⟩ (by kernel_rfl) (A1 (T_pieces_Starts_ok k 7 3 x1 hx1)) ?_
    refine K_seq ?_
    obtain ⟨x2, hx2, H⟩ := bind_some' H
    refine K_reg [.r (.tup [(false, [.d (.list (x2.1.map (D.int .i64)))]), (false, [.d (.int .i64 x2.2)])]) []] [evF X k n_pieces_Centred [(.one (.d (.list (([1, 2, 3, 4, 5, 6, 7] : List Int).map (D.int .i64))))), (I 3)] [] = some ((.tup [(false, [.d (.list (x2.1.map (D.int .i64)))]), (false, [.d (.int .i64 x2.2)])]), [])] ⟨[(1, (.one (.d (.list (x1.1.map (D.int .i64)))))), (2, (I x1.2)), (3, (.one (.d (.list (x2.1.map (D.int .i64)))))), (4, (I x2.2))], []⟩ (by kernel_rfl) (A1 (T_pieces_Centred_ok k ([1, 2, 3, 4, 5, 6, 7] : List Int) 3 x2 hx2)) ?_
    refine K_seq ?_
    obtain ⟨x3, hx3, H⟩ := bind_some' H
    refine K_reg [.r (.tup [(true, [.d (.int .i64 x3.1), .d (.int .i64 x3.2.1)]), (false, [.d (.int .i64 x3.2.2)])]) []] [evF X k n_pieces_Lower [(.one (.d (.list (([0, 0, 4, 4] : List Int).map (D.int .i64))))), (.one (.d (.list (([1, 1, 0, 0] : List Int).map (D.int .i64))))), (I 2)] [] = some ((.tup [(true, [.d (.int .i64 x3.1), .d (.int .i64 x3.2.1)]), (false, [.d (.int .i64 x3.2.2)])]), [])] ⟨[(1, (.one (.d (.list (x1.1.map (D.int .i64)))))), (2, (I x1.2)), (3, (.one (.d (.list (x2.1.map (D.int .i64)))))), (4, (I x2.2)), (5, (.one (.ptr 0 0 0))), (6, (I x3.2.2))], [.cells [.d (.int .i64 x3.1), .d (.int .i64 x3.2.1)]]⟩ (by kernel_rfl) (A1 (T_pieces_Lower_ok k ([0, 0, 4, 4] : List Int) ([1, 1, 0, 0] : List Int) 2 x3 hx3)) ?_
    refine K_seq ?_
    obtain ⟨x10, hx10, H⟩ := bind_some' H
    refine K_of ⟨[(0, (B x10))], []⟩ ?_ ?_
    · clear H; have H := hx10; clear hx10; refine K_in ?_
      rcases ite_some H with ⟨hx5, H⟩ | ⟨hx5, H⟩
      · obtain ⟨x6, hx6, H⟩ := bind_some' H
        rcases ite_some H with ⟨hx8, H⟩ | ⟨hx8, H⟩
        · obtain ⟨x9, hx9, H⟩ := bind_some' H
          refine K_reg [.b true, .r (B x6) [], .m, .b true, .r (B x9) [], .m, .m] [decide (x1.2 = 0) = true, evF X k n_keep_Ints [(.one (.d (.list (x1.1.map (D.int .i64))))), (.one (.d (.list (([0, 2, 4, 7] : List Int).map (D.int .i64)))))] [] = some ((B x6), []), ([.cells [.d (.int .i64 x3.1), .d (.int .i64 x3.2.1)]] : Heap) = [.cells [.d (.int .i64 x3.1), .d (.int .i64 x3.2.1)]], (x6 && decide (x2.2 = 0)) = true, evF X k n_keep_Ints [(.one (.d (.list (x2.1.map (D.int .i64))))), (.one (.d (.list (([(-35), (-7), 42] : List Int).map (D.int .i64)))))] [] = some ((B x9), []), ([.cells [.d (.int .i64 x3.1), .d (.int .i64 x3.2.1)]] : Heap) = [.cells [.d (.int .i64 x3.1), .d (.int .i64 x3.2.1)]], ([.cells [.d (.int .i64 x3.1), .d (.int .i64 x3.2.1)]] : Heap) = [.cells [.d (.int .i64 x3.1), .d (.int .i64 x3.2.1)]]] ⟨[(0, (B ((x9 && decide (x3.2.2 = 0)) && (decide (x3.1 = 34) && (decide (x3.2.1 = 1) && true)))))], []⟩ (by kernel_rfl) (AC (decide_eq_true hx5) (AC (T_keep_Ints_ok k x1.1 ([0, 2, 4, 7] : List Int) x6 hx6) (AC rfl (AC hx8 (AC (T_keep_Ints_ok k x2.1 ([(-35), (-7), 42] : List Int) x9 hx9) (AC rfl (A1 rfl))))))) ?_
          cases H
          exact K_end rfl
        · refine K_reg [.b true, .r (B x6) [], .m, .b false, .b false, .b false] [decide (x1.2 = 0) = true, evF X k n_keep_Ints [(.one (.d (.list (x1.1.map (D.int .i64))))), (.one (.d (.list (([0, 2, 4, 7] : List Int).map (D.int .i64)))))] [] = some ((B x6), []), ([.cells [.d (.int .i64 x3.1), .d (.int .i64 x3.2.1)]] : Heap) = [.cells [.d (.int .i64 x3.1), .d (.int .i64 x3.2.1)]], (x6 && decide (x2.2 = 0)) = false, false = false, false = false] ⟨[(0, (B false))], []⟩ (by kernel_rfl) (AC (decide_eq_true hx5) (AC (T_keep_Ints_ok k x1.1 ([0, 2, 4, 7] : List Int) x6 hx6) (AC rfl (AC (Bool.eq_false_iff.2 hx8) (AC rfl (A1 rfl)))))) ?_
          cases H
          exact K_end rfl
      · refine K_reg [.b false, .b false, .b false, .b false, .b false] [decide (x1.2 = 0) = false, false = false, false = false, false = false, false = false] ⟨[(0, (B false))], []⟩ (by kernel_rfl) (AC (decide_eq_false hx5) (AC rfl (AC rfl (AC rfl (A1 rfl))))) ?_
        cases H
        exact K_end rfl
    refine K_gh ⟨[(0, (B x10))], []⟩ (by kernel_rfl) ?_
    cases H
    refine K_ret ?_
    kernel_rfl
def T_keep_New (k : Nat) (p1 : List Int) : Option Unit := match k with
  | 0 => none
  | k + 1 => (if (0 : Int) ≤ 0 ∧ 0 ≤ (imin (p1.length : Int) 2000) ∧ (imin (p1.length : Int) 2000) ≤ (p1.length : Int) ∧ (p1.length : Int) ≤ (p1.length : Int) then some () else none)
theorem T_keep_New_ok (k : Nat) (p1 : List Int) (r : Unit) : T_keep_New k p1 = some r → evF X k n_keep_New [(.one (.d (.list (p1.map (D.int .i64)))))] [] = some ((.one (.ptr 0 0 0)), [.cells [.d (.list (((p1.drop 0).take ((imin (p1.length : Int) 2000).toNat - 0)).map (D.int .i64))), .d (.int .i64 0)]]) := by
  intro H
  cases k with
  | zero => simp [T_keep_New] at H
  | succ k =>
    simp only [T_keep_New] at H
    refine F_in X_keep_New rfl ?_
    refine K_seq ?_
    refine K_reg [] [] ⟨[(0, (.one (.d (.list (p1.map (D.int .i64))))))], []⟩ (by kernel_rfl) trivial ?_
    refine K_seq ?_
    obtain ⟨hx1, H⟩ := guard_some H
    refine K_reg [.n p1.length, .l (((p1.drop 0).take ((imin (p1.length : Int) 2000).toNat - 0)).map (D.int .i64))] [((p1.map (D.int .i64))).length = p1.length, ((p1.map (D.int .i64)).all fun d => d.cells.length == 1) = true, (0 : Int) ≤ 0 ∧ 0 ≤ (imin (p1.length : Int) 2000) ∧ (imin (p1.length : Int) 2000) ≤ (((p1.map (D.int .i64))).length : Int) ∧ (((p1.map (D.int .i64))).length : Int) ≤ (((p1.map (D.int .i64))).length : Int), ((p1.map (D.int .i64)).drop (0 : Int).toNat).take (((imin (p1.length : Int) 2000) : Int).toNat - (0 : Int).toNat) = ((p1.drop 0).take ((imin (p1.length : Int) 2000).toNat - 0)).map (D.int .i64)] ⟨[(2, (.one (.ptr 0 0 0)))], [.cells [.d (.list (((p1.drop 0).take ((imin (p1.length : Int) 2000).toNat - 0)).map (D.int .i64))), .d (.int .i64 0)]]⟩ (by kernel_rfl) (AC (List.length_map _) (AC (all_ok (D.int .i64) 1 p1 (fun _ => rfl)) (AC (by simpa using hx1) (A1 (dt_map _ _ _ _))))) ?_
    refine K_gh ⟨[(2, (.one (.ptr 0 0 0)))], [.cells [.d (.list (((p1.drop 0).take ((imin (p1.length : Int) 2000).toNat - 0)).map (D.int .i64))), .d (.int .i64 0)]]⟩ (by kernel_rfl) ?_
    cases H
    refine K_ret ?_
    kernel_rfl
def T_keep_Src_Raw (k : Nat) (p1 : List Int) (p2 : Int) : Option (Int × Int) := match k with
  | 0 => none
  | k + 1 => (if (p1.length : Int) ≤ p2 then some (0, p2) else ((at? p1 (w64 ((w64 (p2 + 1)) - 1))).bind fun x2 => some (x2, (w64 (p2 + 1)))))
theorem T_keep_Src_Raw_ok (k : Nat) (p1 : List Int) (p2 : Int) (r : Int × Int) : T_keep_Src_Raw k p1 p2 = some r → evF X k n_keep_Src_Raw [(.one (.ptr 0 0 0))] [.cells [.d (.list (p1.map (D.int .i64))), .d (.int .i64 p2)]] = some ((I r.1), [.cells [.d (.list (p1.map (D.int .i64))), .d (.int .i64 r.2)]]) := by
  intro H
  cases k with
  | zero => simp [T_keep_Src_Raw] at H
  | succ k =>
    simp only [T_keep_Src_Raw] at H
    refine F_in X_keep_Src_Raw rfl ?_
    refine K_seq ?_
    refine K_reg [] [] ⟨[(0, (.one (.ptr 0 0 0)))], [.cells [.d (.list (p1.map (D.int .i64))), .d (.int .i64 p2)]]⟩ (by kernel_rfl) trivial ?_
    refine K_seq ?_
    refine K_seq ?_
    refine K_reg [.n p1.length] [((p1.map (D.int .i64))).length = p1.length] ⟨[(0, (.one (.ptr 0 0 0))), (12, (B (decide ((p1.length : Int) ≤ p2))))], [.cells [.d (.list (p1.map (D.int .i64))), .d (.int .i64 p2)]]⟩ (by kernel_rfl) (A1 (List.length_map _)) ?_
    rcases ite_some H with ⟨hx1, H⟩ | ⟨hx1, H⟩
    · refine K_t rfl (decide_eq_true hx1) ?_
      refine K_seq ?_
      refine K_reg [] [] ⟨[(2, (I 0))], [.cells [.d (.list (p1.map (D.int .i64))), .d (.int .i64 p2)]]⟩ (by kernel_rfl) trivial ?_
      refine K_gh ⟨[(2, (I 0))], [.cells [.d (.list (p1.map (D.int .i64))), .d (.int .i64 p2)]]⟩ (by kernel_rfl) ?_
      cases H
      refine K_ret ?_
      kernel_rfl
    · refine K_f rfl (decide_eq_false hx1) ?_
      refine K_gh ⟨[(0, (.one (.ptr 0 0 0)))], [.cells [.d (.list (p1.map (D.int .i64))), .d (.int .i64 p2)]]⟩ (by kernel_rfl) ?_
      refine K_skip ?_
      refine K_seq ?_
      refine K_reg [] [] ⟨[(0, (.one (.ptr 0 0 0)))], [.cells [.d (.list (p1.map (D.int .i64))), .d (.int .i64 (w64 (p2 + 1)))]]⟩ (by kernel_rfl) trivial ?_
      refine K_seq ?_
      obtain ⟨x2, hx2, H⟩ := bind_some' H
      refine K_reg [.l [.int .i64 x2]] [(0 : Int) ≤ (w64 ((w64 (p2 + 1)) - 1)) ∧ (w64 ((w64 (p2 + 1)) - 1)) < (((p1.map (D.int .i64))).length : Int), ((p1.map (D.int .i64)).getD (w64 ((w64 (p2 + 1)) - 1)).toNat (.int .i64 0)).cells = [.int .i64 x2]] ⟨[(2, (I x2))], [.cells [.d (.list (p1.map (D.int .i64))), .d (.int .i64 (w64 (p2 + 1)))]]⟩ (by kernel_rfl) (AC (at_ok hx2 (D.int .i64) (.int .i64 0)).1 (A1 (at_ok hx2 (D.int .i64) (.int .i64 0)).2)) ?_
      refine K_gh ⟨[(2, (I x2))], [.cells [.d (.list (p1.map (D.int .i64))), .d (.int .i64 (w64 (p2 + 1)))]]⟩ (by kernel_rfl) ?_
      cases H
      refine K_ret ?_
      kernel_rfl
def T_keep_Mod (k : Nat) (p1 : Int) (p2 : Int) : Option Int := match k with
  | 0 => none
  | k + 1 => (if p2 < 1 then some 0 else (if p2 ≠ 0 then ((if (p1.tmod p2) < 0 then some (w64 ((p1.tmod p2) + p2)) else some (p1.tmod p2))).bind fun x4 => some x4 else none))
theorem T_keep_Mod_ok (k : Nat) (p1 : Int) (p2 : Int) (r : Int) : T_keep_Mod k p1 p2 = some r → evF X k n_keep_Mod [(I p1), (I p2)] [] = some ((I r), []) := by
  intro H
  cases k with
  | zero => simp [T_keep_Mod] at H
  | succ k =>
    simp only [T_keep_Mod] at H
    refine F_in X_keep_Mod rfl ?_
    refine K_seq ?_
    refine K_reg [] [] ⟨[(0, (I p1)), (1, (I p2))], []⟩ (by kernel_rfl) trivial ?_
    refine K_seq ?_
    refine K_seq ?_
    refine K_reg [] [] ⟨[(0, (I p1)), (1, (I p2)), (6, (B (decide (p2 < 1))))], []⟩ (by kernel_rfl) trivial ?_
    rcases ite_some H with ⟨hx1, H⟩ | ⟨hx1, H⟩
    · refine K_t rfl (decide_eq_true hx1) ?_
      refine K_seq ?_
      refine K_reg [] [] ⟨[(4, (I 0))], []⟩ (by kernel_rfl) trivial ?_
      refine K_gh ⟨[(4, (I 0))], []⟩ (by kernel_rfl) ?_
      cases H
      refine K_ret ?_
      kernel_rfl
    · refine K_f rfl (decide_eq_false hx1) ?_
      refine K_gh ⟨[(0, (I p1)), (1, (I p2))], []⟩ (by kernel_rfl) ?_
      refine K_skip ?_
      refine K_seq ?_
      obtain ⟨hx2, H⟩ := guard_some H
      refine K_reg [] [p2 ≠ (0 : Int)] ⟨[(0, (I (p1.tmod p2))), (1, (I p2))], []⟩ (by kernel_rfl) (A1 hx2) ?_
      refine K_seq ?_
      refine K_seq ?_
      refine K_reg [] [] ⟨[(0, (I (p1.tmod p2))), (1, (I p2)), (11, (B (decide ((p1.tmod p2) < 0))))], []⟩ (by kernel_rfl) trivial ?_
      obtain ⟨x4, hx4, H⟩ := bind_some' H
      refine K_of ⟨[(0, (I x4))], []⟩ ?_ ?_
      · clear H; have H := hx4; clear hx4; refine K_in ?_
        rcases ite_some H with ⟨hx3, H⟩ | ⟨hx3, H⟩
        · refine K_t rfl (decide_eq_true hx3) ?_
          refine K_reg [] [] ⟨[(0, (I (w64 ((p1.tmod p2) + p2))))], []⟩ (by kernel_rfl) trivial ?_
          cases H
          exact K_end rfl
        · refine K_f rfl (decide_eq_false hx3) ?_
          refine K_gh ⟨[(0, (I (p1.tmod p2)))], []⟩ (by kernel_rfl) ?_
          refine K_skip ?_
          cases H
          exact K_end rfl
      refine K_seq ?_
      refine K_reg [] [] ⟨[(4, (I x4))], []⟩ (by kernel_rfl) trivial ?_
      refine K_gh ⟨[(4, (I x4))], []⟩ (by kernel_rfl) ?_
      cases H
      refine K_ret ?_
      kernel_rfl
def T_keep_Src_N (k : Nat) (p1 : Int) (p2 : List Int) (p3 : Int) : Option (Int × Int) := match k with
  | 0 => none
  | k + 1 => ((T_keep_Src_Raw k p2 p3).bind fun x1 => (T_keep_Mod k x1.1 p1).bind fun x2 => some (x2, x1.2))
theorem T_keep_Src_N_ok (k : Nat) (p1 : Int) (p2 : List Int) (p3 : Int) (r : Int × Int) : T_keep_Src_N k p1 p2 p3 = some r → evF X k n_keep_Src_N [(.one (.ptr 0 0 0)), (I p1)] [.cells [.d (.list (p2.map (D.int .i64))), .d (.int .i64 p3)]] = some ((I r.1), [.cells [.d (.list (p2.map (D.int .i64))), .d (.int .i64 r.2)]]) := by
  intro H
  cases k with
  | zero => simp [T_keep_Src_N] at H
  | succ k =>
    simp only [T_keep_Src_N] at H
    refine F_in X_keep_Src_N rfl ?_
    refine K_seq ?_
    refine K_reg [] [] ⟨[(0, (.one (.ptr 0 0 0))), (1, (I p1))], [.cells [.d (.list (p2.map (D.int .i64))), .d (.int .i64 p3)]]⟩ (by kernel_rfl) trivial ?_
    refine K_seq ?_
    obtain ⟨x1, hx1, H⟩ := bind_some' H
    obtain ⟨x2, hx2, H⟩ := bind_some' H
    refine K_reg [.r (I x1.1) [.cells [.d (.list (p2.map (D.int .i64))), .d (.int .i64 x1.2)]], .r (I x2) []] [evF X k n_keep_Src_Raw [(.one (.ptr 0 0 0))] [.cells [.d (.list (p2.map (D.int .i64))), .d (.int .i64 p3)]] = some ((I x1.1), [.cells [.d (.list (p2.map (D.int .i64))), .d (.int .i64 x1.2)]]), evF X k n_keep_Mod [(I x1.1), (I p1)] [] = some ((I x2), [])] ⟨[(4, (I x2))], [.cells [.d (.list (p2.map (D.int .i64))), .d (.int .i64 x1.2)]]⟩ (by kernel_rfl) (AC (T_keep_Src_Raw_ok k p2 p3 x1 hx1) (A1 (T_keep_Mod_ok k x1.1 p1 x2 hx2))) ?_
    refine K_gh ⟨[(4, (I x2))], [.cells [.d (.list (p2.map (D.int .i64))), .d (.int .i64 x1.2)]]⟩ (by kernel_rfl) ?_
    cases H
    refine K_ret ?_
    kernel_rfl
def T_keep_Src_Range (k : Nat) (p1 : Int) (p2 : Int) (p3 : List Int) (p4 : Int) : Option (Int × Int) := match k with
  | 0 => none
  | k + 1 => ((T_keep_Src_N k (w64 ((w64 (p2 - p1)) + 1)) p3 p4).bind fun x1 => some ((w64 (p1 + x1.1)), x1.2))
theorem T_keep_Src_Range_ok (k : Nat) (p1 : Int) (p2 : Int) (p3 : List Int) (p4 : Int) (r : Int × Int) : T_keep_Src_Range k p1 p2 p3 p4 = some r → evF X k n_keep_Src_Range [(.one (.ptr 0 0 0)), (I p1), (I p2)] [.cells [.d (.list (p3.map (D.int .i64))), .d (.int .i64 p4)]] = some ((I r.1), [.cells [.d (.list (p3.map (D.int .i64))), .d (.int .i64 r.2)]]) := by
  intro H
  cases k with
  | zero => simp [T_keep_Src_Range] at H
  | succ k =>
    simp only [T_keep_Src_Range] at H
    refine F_in X_keep_Src_Range rfl ?_
    refine K_seq ?_
    refine K_reg [] [] ⟨[(0, (.one (.ptr 0 0 0))), (1, (I p1)), (2, (I p2))], [.cells [.d (.list (p3.map (D.int .i64))), .d (.int .i64 p4)]]⟩ (by kernel_rfl) trivial ?_
    refine K_seq ?_
    obtain ⟨x1, hx1, H⟩ := bind_some' H
    refine K_reg [.r (I x1.1) [.cells [.d (.list (p3.map (D.int .i64))), .d (.int .i64 x1.2)]]] [evF X k n_keep_Src_N [(.one (.ptr 0 0 0)), (I (w64 ((w64 (p2 - p1)) + 1)))] [.cells [.d (.list (p3.map (D.int .i64))), .d (.int .i64 p4)]] = some ((I x1.1), [.cells [.d (.list (p3.map (D.int .i64))), .d (.int .i64 x1.2)]])] ⟨[(6, (I (w64 (p1 + x1.1))))], [.cells [.d (.list (p3.map (D.int .i64))), .d (.int .i64 x1.2)]]⟩ (by kernel_rfl) (A1 (T_keep_Src_N_ok k (w64 ((w64 (p2 - p1)) + 1)) p3 p4 x1 hx1)) ?_
    refine K_gh ⟨[(6, (I (w64 (p1 + x1.1))))], [.cells [.d (.list (p3.map (D.int .i64))), .d (.int .i64 x1.2)]]⟩ (by kernel_rfl) ?_
    cases H
    refine K_ret ?_
    kernel_rfl
def T_keep_Src_Length (k : Nat) (p1 : List Int) (p2 : Int) : Option (Int × Int) := match k with
  | 0 => none
  | k + 1 => ((T_keep_Src_N k 8 p1 p2).bind fun x1 => (if x1.1 = 7 then ((T_keep_Src_Range k 13 32 p1 x1.2).bind fun x3 => some (x3.1, x3.2)) else ((T_keep_Src_Range k 2 12 p1 x1.2).bind fun x4 => some (x4.1, x4.2))))
theorem T_keep_Src_Length_ok (k : Nat) (p1 : List Int) (p2 : Int) (r : Int × Int) : T_keep_Src_Length k p1 p2 = some r → evF X k n_keep_Src_Length [(.one (.ptr 0 0 0))] [.cells [.d (.list (p1.map (D.int .i64))), .d (.int .i64 p2)]] = some ((I r.1), [.cells [.d (.list (p1.map (D.int .i64))), .d (.int .i64 r.2)]]) := by
  intro H
  cases k with
  | zero => simp [T_keep_Src_Length] at H
  | succ k =>
    simp only [T_keep_Src_Length] at H
    refine F_in X_keep_Src_Length rfl ?_
    refine K_seq ?_
    refine K_reg [] [] ⟨[(0, (.one (.ptr 0 0 0)))], [.cells [.d (.list (p1.map (D.int .i64))), .d (.int .i64 p2)]]⟩ (by kernel_rfl) trivial ?_
    refine K_seq ?_
    refine K_seq ?_
    obtain ⟨x1, hx1, H⟩ := bind_some' H
    refine K_reg [.r (I x1.1) [.cells [.d (.list (p1.map (D.int .i64))), .d (.int .i64 x1.2)]]] [evF X k n_keep_Src_N [(.one (.ptr 0 0 0)), (I 8)] [.cells [.d (.list (p1.map (D.int .i64))), .d (.int .i64 p2)]] = some ((I x1.1), [.cells [.d (.list (p1.map (D.int .i64))), .d (.int .i64 x1.2)]])] ⟨[(0, (.one (.ptr 0 0 0))), (5, (B (decide (x1.1 = 7))))], [.cells [.d (.list (p1.map (D.int .i64))), .d (.int .i64 x1.2)]]⟩ (by kernel_rfl) (A1 (T_keep_Src_N_ok k 8 p1 p2 x1 hx1)) ?_
    rcases ite_some H with ⟨hx2, H⟩ | ⟨hx2, H⟩
    · refine K_t rfl (decide_eq_true hx2) ?_
      refine K_seq ?_
      obtain ⟨x3, hx3, H⟩ := bind_some' H
      refine K_reg [.r (I x3.1) [.cells [.d (.list (p1.map (D.int .i64))), .d (.int .i64 x3.2)]]] [evF X k n_keep_Src_Range [(.one (.ptr 0 0 0)), (I 13), (I 32)] [.cells [.d (.list (p1.map (D.int .i64))), .d (.int .i64 x1.2)]] = some ((I x3.1), [.cells [.d (.list (p1.map (D.int .i64))), .d (.int .i64 x3.2)]])] ⟨[(2, (I x3.1))], [.cells [.d (.list (p1.map (D.int .i64))), .d (.int .i64 x3.2)]]⟩ (by kernel_rfl) (A1 (T_keep_Src_Range_ok k 13 32 p1 x1.2 x3 hx3)) ?_
      refine K_gh ⟨[(2, (I x3.1))], [.cells [.d (.list (p1.map (D.int .i64))), .d (.int .i64 x3.2)]]⟩ (by kernel_rfl) ?_
      cases H
      refine K_ret ?_
      kernel_rfl
    · refine K_f rfl (decide_eq_false hx2) ?_
      refine K_gh ⟨[(0, (.one (.ptr 0 0 0)))], [.cells [.d (.list (p1.map (D.int .i64))), .d (.int .i64 x1.2)]]⟩ (by kernel_rfl) ?_
      refine K_skip ?_
      refine K_seq ?_
      obtain ⟨x4, hx4, H⟩ := bind_some' H
      refine K_reg [.r (I x4.1) [.cells [.d (.list (p1.map (D.int .i64))), .d (.int .i64 x4.2)]]] [evF X k n_keep_Src_Range [(.one (.ptr 0 0 0)), (I 2), (I 12)] [.cells [.d (.list (p1.map (D.int .i64))), .d (.int .i64 x1.2)]] = some ((I x4.1), [.cells [.d (.list (p1.map (D.int .i64))), .d (.int .i64 x4.2)]])] ⟨[(2, (I x4.1))], [.cells [.d (.list (p1.map (D.int .i64))), .d (.int .i64 x4.2)]]⟩ (by kernel_rfl) (A1 (T_keep_Src_Range_ok k 2 12 p1 x1.2 x4 hx4)) ?_
      refine K_gh ⟨[(2, (I x4.1))], [.cells [.d (.list (p1.map (D.int .i64))), .d (.int .i64 x4.2)]]⟩ (by kernel_rfl) ?_
      cases H
      refine K_ret ?_
      kernel_rfl
def T_keep_Src_Pick (k : Nat) (p1 : List Int) (p2 : List Int) (p3 : Int) : Option (Int × Int) := match k with
  | 0 => none
  | k + 1 => ((T_keep_Src_N k (p1.length : Int) p2 p3).bind fun x1 => (at? p1 x1.1).bind fun x2 => some (x2, x1.2))
theorem T_keep_Src_Pick_ok (k : Nat) (p1 : List Int) (p2 : List Int) (p3 : Int) (r : Int × Int) : T_keep_Src_Pick k p1 p2 p3 = some r → evF X k n_keep_Src_Pick [(.one (.ptr 0 0 0)), (.one (.d (.list (p1.map (D.int .i64)))))] [.cells [.d (.list (p2.map (D.int .i64))), .d (.int .i64 p3)]] = some ((I r.1), [.cells [.d (.list (p2.map (D.int .i64))), .d (.int .i64 r.2)]]) := by
  intro H
  cases k with
  | zero => simp [T_keep_Src_Pick] at H
  | succ k =>
    simp only [T_keep_Src_Pick] at H
    refine F_in X_keep_Src_Pick rfl ?_
    refine K_seq ?_
    refine K_reg [] [] ⟨[(0, (.one (.ptr 0 0 0))), (1, (.one (.d (.list (p1.map (D.int .i64))))))], [.cells [.d (.list (p2.map (D.int .i64))), .d (.int .i64 p3)]]⟩ (by kernel_rfl) trivial ?_
    refine K_seq ?_
    obtain ⟨x1, hx1, H⟩ := bind_some' H
    obtain ⟨x2, hx2, H⟩ := bind_some' H
    refine K_reg [.n p1.length, .r (I x1.1) [.cells [.d (.list (p2.map (D.int .i64))), .d (.int .i64 x1.2)]], .l [.int .i64 x2]] [((p1.map (D.int .i64))).length = p1.length, evF X k n_keep_Src_N [(.one (.ptr 0 0 0)), (I (p1.length : Int))] [.cells [.d (.list (p2.map (D.int .i64))), .d (.int .i64 p3)]] = some ((I x1.1), [.cells [.d (.list (p2.map (D.int .i64))), .d (.int .i64 x1.2)]]), (0 : Int) ≤ x1.1 ∧ x1.1 < (((p1.map (D.int .i64))).length : Int), ((p1.map (D.int .i64)).getD x1.1.toNat (.int .i64 0)).cells = [.int .i64 x2]] ⟨[(4, (I x2))], [.cells [.d (.list (p2.map (D.int .i64))), .d (.int .i64 x1.2)]]⟩ (by kernel_rfl) (AC (List.length_map _) (AC (T_keep_Src_N_ok k (p1.length : Int) p2 p3 x1 hx1) (AC (at_ok hx2 (D.int .i64) (.int .i64 0)).1 (A1 (at_ok hx2 (D.int .i64) (.int .i64 0)).2)))) ?_
    refine K_gh ⟨[(4, (I x2))], [.cells [.d (.list (p2.map (D.int .i64))), .d (.int .i64 x1.2)]]⟩ (by kernel_rfl) ?_
    cases H
    refine K_ret ?_
    kernel_rfl
def T_keep_clip (k : Nat) (p1 : Int) : Option Unit := match k with
  | 0 => none
  | k + 1 => some ()
theorem T_keep_clip_ok (k : Nat) (p1 : Int) (r : Unit) : T_keep_clip k p1 = some r → evF X k n_keep_clip [(I p1)] [] = some ((I (imin (imax p1 (-1000)) 1000)), []) := by
  intro H
  cases k with
  | zero => simp [T_keep_clip] at H
  | succ k =>
    simp only [T_keep_clip] at H
    refine F_in X_keep_clip rfl ?_
    refine K_seq ?_
    refine K_reg [] [] ⟨[(0, (I p1))], []⟩ (by kernel_rfl) trivial ?_
    refine K_seq ?_
    refine K_reg [] [] ⟨[(2, (I (imin (imax p1 (-1000)) 1000)))], []⟩ (by kernel_rfl) trivial ?_
    refine K_gh ⟨[(2, (I (imin (imax p1 (-1000)) 1000)))], []⟩ (by kernel_rfl) ?_
    cases H
    refine K_ret ?_
    kernel_rfl
def T_keep_Src_List_l1 (k : Nat) (p1 : Int) (p2 : List Int) (x8 : Int) (x9 : Int) (x37 : Int × Nat × Int × Int × (List Int)) : Option ((Int × Nat × Int × Int × (List Int)) ⊕ ((Nat × Int × (List Int)))) :=
  (if x37.2.2.1 < p1 then (((if x8 = 0 then some (decide (x8 = 0)) else some (decide (x8 = 1)))).bind fun x40 => ((if x40 = true then (T_keep_Src_Range k (w64 (0 - x9)) x9 p2 x37.2.2.2.1).bind fun x42 => (if x37.2.1 + 1 ≤ LIM then some (x37.1, x42.2, ((x37.2.2.2.2.drop 0).take x37.2.1 ++ ([x42.1] : List Int))) else none) else (((if x8 = 2 then some (decide (x8 = 2)) else some (decide (x8 = 3)))).bind fun x45 => (if x45 = true then (T_keep_Src_Range k (w64 (0 - x9)) x9 p2 x37.2.2.2.1).bind fun x47 => (T_keep_clip k (w64 (x37.1 + x47.1))).bind fun x48 => (if x37.2.1 + 1 ≤ LIM then some ((imin (imax (w64 (x37.1 + x47.1)) (-1000)) 1000), x47.2, ((x37.2.2.2.2.drop 0).take x37.2.1 ++ ([(imin (imax (w64 (x37.1 + x47.1)) (-1000)) 1000)] : List Int))) else none) else (if x8 = 4 then (T_keep_Src_N k 4 p2 x37.2.2.2.1).bind fun x51 => ((if x51.1 = 0 then ((T_keep_Src_Range k (w64 (0 - x9)) x9 p2 x51.2).bind fun x53 => some (x53.1, x53.2)) else some (x37.1, x51.2))).bind fun x54 => (if x37.2.1 + 1 ≤ LIM then some (x54.1, x54.2, ((x37.2.2.2.2.drop 0).take x37.2.1 ++ ([x54.1] : List Int))) else none) else (T_keep_Src_Pick k ([(-1000), 1000, 1000, 0] : List Int) p2 x37.2.2.2.1).bind fun x56 => (if x37.2.1 + 1 ≤ LIM then some (x37.1, x56.2, ((x37.2.2.2.2.drop 0).take x37.2.1 ++ ([x56.1] : List Int))) else none)))))).bind fun x58 => some (.inl (x58.1, (x37.2.1 + 1), (w64 (x37.2.2.1 + 1)), x58.2.1, x58.2.2))) else some (.inr (x37.2.1, x37.2.2.2.1, x37.2.2.2.2)))
theorem T_keep_Src_List_l1_ok (k : Nat) (p1 : Int) (p2 : List Int) (x8 : Int) (x9 : Int) : ∀ (x37 : Int × Nat × Int × Int × (List Int)) (x : (Int × Nat × Int × Int × (List Int)) ⊕ ((Nat × Int × (List Int)))), T_keep_Src_List_l1 k p1 p2 x8 x9 x37 = some x → evC X (evF X k) k 1 l_keep_Src_List_1 ⟨[(0, (.one (.ptr 0 0 0))), (1, (I p1)), (5, (I x8)), (6, (I x9)), (7, (I x37.1)), (8, (.one (.own 1 0 x37.2.1))), (9, (I x37.2.2.1))], [.cells [.d (.list (p2.map (D.int .i64))), .d (.int .i64 x37.2.2.2.1)], .vals (.int .i64 0) (x37.2.2.2.2.map (D.int .i64))]⟩ = some (outS (fun (s : Int × Nat × Int × Int × (List Int)) => ⟨[(0, (.one (.ptr 0 0 0))), (1, (I p1)), (5, (I x8)), (6, (I x9)), (7, (I s.1)), (8, (.one (.own 1 0 s.2.1))), (9, (I s.2.2.1))], [.cells [.d (.list (p2.map (D.int .i64))), .d (.int .i64 s.2.2.2.1)], .vals (.int .i64 0) (s.2.2.2.2.map (D.int .i64))]⟩) (fun (r : (Nat × Int × (List Int))) => (.exit 0, ⟨[(8, (.one (.own 1 0 r.1)))], [.cells [.d (.list (p2.map (D.int .i64))), .d (.int .i64 r.2.1)], .vals (.int .i64 0) (r.2.2.map (D.int .i64))]⟩)) x) := by
  intro x37 x H
  unfold T_keep_Src_List_l1 at H
  refine K_in ?_
  refine K_seq ?_
  refine K_seq ?_
  refine K_reg [] [] ⟨[(0, (.one (.ptr 0 0 0))), (1, (I p1)), (5, (I x8)), (6, (I x9)), (7, (I x37.1)), (8, (.one (.own 1 0 x37.2.1))), (9, (I x37.2.2.1)), (22, (B (decide (x37.2.2.1 < p1))))], [.cells [.d (.list (p2.map (D.int .i64))), .d (.int .i64 x37.2.2.2.1)], .vals (.int .i64 0) (x37.2.2.2.2.map (D.int .i64))]⟩ (by kernel_rfl) trivial ?_
  rcases ite_some H with ⟨hx38, H⟩ | ⟨hx38, H⟩
  · refine K_t rfl (decide_eq_true hx38) ?_
    refine K_gh ⟨[(0, (.one (.ptr 0 0 0))), (1, (I p1)), (5, (I x8)), (6, (I x9)), (7, (I x37.1)), (8, (.one (.own 1 0 x37.2.1))), (9, (I x37.2.2.1))], [.cells [.d (.list (p2.map (D.int .i64))), .d (.int .i64 x37.2.2.2.1)], .vals (.int .i64 0) (x37.2.2.2.2.map (D.int .i64))]⟩ (by kernel_rfl) ?_
    refine K_skip ?_
    refine K_seq ?_
    refine K_block ?_
    refine K_seq ?_
    refine K_reg [] [] ⟨[(0, (.one (.ptr 0 0 0))), (1, (I p1)), (5, (I x8)), (6, (I x9)), (7, (I x37.1)), (8, (.one (.own 1 0 x37.2.1))), (9, (I x37.2.2.1)), (25, (I x8))], [.cells [.d (.list (p2.map (D.int .i64))), .d (.int .i64 x37.2.2.2.1)], .vals (.int .i64 0) (x37.2.2.2.2.map (D.int .i64))]⟩ (by kernel_rfl) trivial ?_
    refine K_block ?_
    refine K_seq ?_
    refine K_seq ?_
    refine K_reg [] [] ⟨[(0, (.one (.ptr 0 0 0))), (1, (I p1)), (5, (I x8)), (6, (I x9)), (7, (I x37.1)), (8, (.one (.own 1 0 x37.2.1))), (9, (I x37.2.2.1)), (25, (I x8)), (32, (B (decide (x8 = 0))))], [.cells [.d (.list (p2.map (D.int .i64))), .d (.int .i64 x37.2.2.2.1)], .vals (.int .i64 0) (x37.2.2.2.2.map (D.int .i64))]⟩ (by kernel_rfl) trivial ?_
    obtain ⟨x40, hx40, H⟩ := bind_some' H
    refine K_of ⟨[(0, (.one (.ptr 0 0 0))), (1, (I p1)), (5, (I x8)), (6, (I x9)), (7, (I x37.1)), (8, (.one (.own 1 0 x37.2.1))), (9, (I x37.2.2.1)), (25, (I x8)), (32, (B x40))], [.cells [.d (.list (p2.map (D.int .i64))), .d (.int .i64 x37.2.2.2.1)], .vals (.int .i64 0) (x37.2.2.2.2.map (D.int .i64))]⟩ ?_ ?_
    · clear H; have H := hx40; clear hx40; refine K_in ?_
      rcases ite_some H with ⟨hx39, H⟩ | ⟨hx39, H⟩
      · refine K_t rfl (decide_eq_true hx39) ?_
        refine K_gh ⟨[(0, (.one (.ptr 0 0 0))), (1, (I p1)), (5, (I x8)), (6, (I x9)), (7, (I x37.1)), (8, (.one (.own 1 0 x37.2.1))), (9, (I x37.2.2.1)), (25, (I x8)), (32, (B (decide (x8 = 0))))], [.cells [.d (.list (p2.map (D.int .i64))), .d (.int .i64 x37.2.2.2.1)], .vals (.int .i64 0) (x37.2.2.2.2.map (D.int .i64))]⟩ (by kernel_rfl) ?_
        refine K_skip ?_
        cases H
        exact K_end rfl
      · refine K_f rfl (decide_eq_false hx39) ?_
        refine K_reg [] [] ⟨[(0, (.one (.ptr 0 0 0))), (1, (I p1)), (5, (I x8)), (6, (I x9)), (7, (I x37.1)), (8, (.one (.own 1 0 x37.2.1))), (9, (I x37.2.2.1)), (25, (I x8)), (32, (B (decide (x8 = 1))))], [.cells [.d (.list (p2.map (D.int .i64))), .d (.int .i64 x37.2.2.2.1)], .vals (.int .i64 0) (x37.2.2.2.2.map (D.int .i64))]⟩ (by kernel_rfl) trivial ?_
        cases H
        exact K_end rfl
    obtain ⟨x58, hx58, H⟩ := bind_some' H
    refine K_of ⟨[(0, (.one (.ptr 0 0 0))), (1, (I p1)), (5, (I x8)), (6, (I x9)), (7, (I x58.1)), (8, (.one (.own 1 0 (x37.2.1 + 1)))), (9, (I x37.2.2.1))], [.cells [.d (.list (p2.map (D.int .i64))), .d (.int .i64 x58.2.1)], .vals (.int .i64 0) (x58.2.2.map (D.int .i64))]⟩ ?_ ?_
    · clear H; have H := hx58; clear hx58; refine K_in ?_
      rcases ite_some H with ⟨hx41, H⟩ | ⟨hx41, H⟩
      · refine K_t rfl hx41 ?_
        obtain ⟨x42, hx42, H⟩ := bind_some' H
        obtain ⟨hx43, H⟩ := guard_some H
        refine K_reg [.r (I x42.1) [.cells [.d (.list (p2.map (D.int .i64))), .d (.int .i64 x42.2)]], .n 1, .l (((x37.2.2.2.2.drop 0).take x37.2.1 ++ ([x42.1] : List Int)).map (D.int .i64))] [evF X k n_keep_Src_Range [(.one (.ptr 0 0 0)), (I (w64 (0 - x9))), (I x9)] [.cells [.d (.list (p2.map (D.int .i64))), .d (.int .i64 x37.2.2.2.1)]] = some ((I x42.1), [.cells [.d (.list (p2.map (D.int .i64))), .d (.int .i64 x42.2)]]), (List.all (([x42.1] : List Int).map (D.int .i64)) fun d => d.cells.length == (D.cells (.int .i64 0)).length) = true, x37.2.1 + 1 ≤ LIM, (([x42.1] : List Int).map (D.int .i64)).length = 1, ((x37.2.2.2.2.map (D.int .i64)).drop 0).take x37.2.1 ++ (([x42.1] : List Int).map (D.int .i64)) = ((x37.2.2.2.2.drop 0).take x37.2.1 ++ ([x42.1] : List Int)).map (D.int .i64)] ⟨[(0, (.one (.ptr 0 0 0))), (1, (I p1)), (5, (I x8)), (6, (I x9)), (7, (I x37.1)), (8, (.one (.own 1 0 (x37.2.1 + 1)))), (9, (I x37.2.2.1))], [.cells [.d (.list (p2.map (D.int .i64))), .d (.int .i64 x42.2)], .vals (.int .i64 0) (((x37.2.2.2.2.drop 0).take x37.2.1 ++ ([x42.1] : List Int)).map (D.int .i64))]⟩ (by kernel_rfl) (AC (T_keep_Src_Range_ok k (w64 (0 - x9)) x9 p2 x37.2.2.2.1 x42 hx42) (AC (all_ok (D.int .i64) 1 ([x42.1] : List Int) (fun _ => rfl)) (AC hx43 (AC (by simp) (A1 (ap_map (D.int .i64) x37.2.2.2.2 ([x42.1] : List Int) 0 x37.2.1)))))) ?_
        cases H
        exact K_end rfl
      · refine K_f rfl (Bool.eq_false_iff.2 hx41) ?_
        refine K_seq ?_
        refine K_seq ?_
        refine K_reg [] [] ⟨[(0, (.one (.ptr 0 0 0))), (1, (I p1)), (5, (I x8)), (6, (I x9)), (7, (I x37.1)), (8, (.one (.own 1 0 x37.2.1))), (9, (I x37.2.2.1)), (25, (I x8)), (43, (B (decide (x8 = 2))))], [.cells [.d (.list (p2.map (D.int .i64))), .d (.int .i64 x37.2.2.2.1)], .vals (.int .i64 0) (x37.2.2.2.2.map (D.int .i64))]⟩ (by kernel_rfl) trivial ?_
        obtain ⟨x45, hx45, H⟩ := bind_some' H
        refine K_of ⟨[(0, (.one (.ptr 0 0 0))), (1, (I p1)), (5, (I x8)), (6, (I x9)), (7, (I x37.1)), (8, (.one (.own 1 0 x37.2.1))), (9, (I x37.2.2.1)), (25, (I x8)), (43, (B x45))], [.cells [.d (.list (p2.map (D.int .i64))), .d (.int .i64 x37.2.2.2.1)], .vals (.int .i64 0) (x37.2.2.2.2.map (D.int .i64))]⟩ ?_ ?_
        · clear H; have H := hx45; clear hx45; refine K_in ?_
          rcases ite_some H with ⟨hx44, H⟩ | ⟨hx44, H⟩
          · refine K_t rfl (decide_eq_true hx44) ?_
            refine K_gh ⟨[(0, (.one (.ptr 0 0 0))), (1, (I p1)), (5, (I x8)), (6, (I x9)), (7, (I x37.1)), (8, (.one (.own 1 0 x37.2.1))), (9, (I x37.2.2.1)), (25, (I x8)), (43, (B (decide (x8 = 2))))], [.cells [.d (.list (p2.map (D.int .i64))), .d (.int .i64 x37.2.2.2.1)], .vals (.int .i64 0) (x37.2.2.2.2.map (D.int .i64))]⟩ (by kernel_rfl) ?_
            refine K_skip ?_
            cases H
            exact K_end rfl
          · refine K_f rfl (decide_eq_false hx44) ?_
            refine K_reg [] [] ⟨[(0, (.one (.ptr 0 0 0))), (1, (I p1)), (5, (I x8)), (6, (I x9)), (7, (I x37.1)), (8, (.one (.own 1 0 x37.2.1))), (9, (I x37.2.2.1)), (25, (I x8)), (43, (B (decide (x8 = 3))))], [.cells [.d (.list (p2.map (D.int .i64))), .d (.int .i64 x37.2.2.2.1)], .vals (.int .i64 0) (x37.2.2.2.2.map (D.int .i64))]⟩ (by kernel_rfl) trivial ?_
            cases H
            exact K_end rfl
        rcases ite_some H with ⟨hx46, H⟩ | ⟨hx46, H⟩
        · refine K_t rfl hx46 ?_
          refine K_seq ?_
          obtain ⟨x47, hx47, H⟩ := bind_some' H
          obtain ⟨x48, hx48, H⟩ := bind_some' H
          refine K_reg [.r (I x47.1) [.cells [.d (.list (p2.map (D.int .i64))), .d (.int .i64 x47.2)]], .r (I (imin (imax (w64 (x37.1 + x47.1)) (-1000)) 1000)) []] [evF X k n_keep_Src_Range [(.one (.ptr 0 0 0)), (I (w64 (0 - x9))), (I x9)] [.cells [.d (.list (p2.map (D.int .i64))), .d (.int .i64 x37.2.2.2.1)]] = some ((I x47.1), [.cells [.d (.list (p2.map (D.int .i64))), .d (.int .i64 x47.2)]]), evF X k n_keep_clip [(I (w64 (x37.1 + x47.1)))] [] = some ((I (imin (imax (w64 (x37.1 + x47.1)) (-1000)) 1000)), [])] ⟨[(0, (.one (.ptr 0 0 0))), (1, (I p1)), (5, (I x8)), (6, (I x9)), (7, (I (imin (imax (w64 (x37.1 + x47.1)) (-1000)) 1000))), (8, (.one (.own 1 0 x37.2.1))), (9, (I x37.2.2.1))], [.cells [.d (.list (p2.map (D.int .i64))), .d (.int .i64 x47.2)], .vals (.int .i64 0) (x37.2.2.2.2.map (D.int .i64))]⟩ (by kernel_rfl) (AC (T_keep_Src_Range_ok k (w64 (0 - x9)) x9 p2 x37.2.2.2.1 x47 hx47) (A1 (T_keep_clip_ok k (w64 (x37.1 + x47.1)) x48 hx48))) ?_
          obtain ⟨hx49, H⟩ := guard_some H
          refine K_reg [.n 1, .l (((x37.2.2.2.2.drop 0).take x37.2.1 ++ ([(imin (imax (w64 (x37.1 + x47.1)) (-1000)) 1000)] : List Int)).map (D.int .i64))] [(List.all (([(imin (imax (w64 (x37.1 + x47.1)) (-1000)) 1000)] : List Int).map (D.int .i64)) fun d => d.cells.length == (D.cells (.int .i64 0)).length) = true, x37.2.1 + 1 ≤ LIM, (([(imin (imax (w64 (x37.1 + x47.1)) (-1000)) 1000)] : List Int).map (D.int .i64)).length = 1, ((x37.2.2.2.2.map (D.int .i64)).drop 0).take x37.2.1 ++ (([(imin (imax (w64 (x37.1 + x47.1)) (-1000)) 1000)] : List Int).map (D.int .i64)) = ((x37.2.2.2.2.drop 0).take x37.2.1 ++ ([(imin (imax (w64 (x37.1 + x47.1)) (-1000)) 1000)] : List Int)).map (D.int .i64)] ⟨[(0, (.one (.ptr 0 0 0))), (1, (I p1)), (5, (I x8)), (6, (I x9)), (7, (I (imin (imax (w64 (x37.1 + x47.1)) (-1000)) 1000))), (8, (.one (.own 1 0 (x37.2.1 + 1)))), (9, (I x37.2.2.1))], [.cells [.d (.list (p2.map (D.int .i64))), .d (.int .i64 x47.2)], .vals (.int .i64 0) (((x37.2.2.2.2.drop 0).take x37.2.1 ++ ([(imin (imax (w64 (x37.1 + x47.1)) (-1000)) 1000)] : List Int)).map (D.int .i64))]⟩ (by kernel_rfl) (AC (all_ok (D.int .i64) 1 ([(imin (imax (w64 (x37.1 + x47.1)) (-1000)) 1000)] : List Int) (fun _ => rfl)) (AC hx49 (AC (by simp) (A1 (ap_map (D.int .i64) x37.2.2.2.2 ([(imin (imax (w64 (x37.1 + x47.1)) (-1000)) 1000)] : List Int) 0 x37.2.1))))) ?_
          cases H
          exact K_end rfl
        · refine K_f rfl (Bool.eq_false_iff.2 hx46) ?_
          refine K_seq ?_
          refine K_reg [] [] ⟨[(0, (.one (.ptr 0 0 0))), (1, (I p1)), (5, (I x8)), (6, (I x9)), (7, (I x37.1)), (8, (.one (.own 1 0 x37.2.1))), (9, (I x37.2.2.1)), (58, (B (decide (x8 = 4))))], [.cells [.d (.list (p2.map (D.int .i64))), .d (.int .i64 x37.2.2.2.1)], .vals (.int .i64 0) (x37.2.2.2.2.map (D.int .i64))]⟩ (by kernel_rfl) trivial ?_
          rcases ite_some H with ⟨hx50, H⟩ | ⟨hx50, H⟩
          · refine K_t rfl (decide_eq_true hx50) ?_
            refine K_seq ?_
            refine K_seq ?_
            obtain ⟨x51, hx51, H⟩ := bind_some' H
            refine K_reg [.r (I x51.1) [.cells [.d (.list (p2.map (D.int .i64))), .d (.int .i64 x51.2)]]] [evF X k n_keep_Src_N [(.one (.ptr 0 0 0)), (I 4)] [.cells [.d (.list (p2.map (D.int .i64))), .d (.int .i64 x37.2.2.2.1)]] = some ((I x51.1), [.cells [.d (.list (p2.map (D.int .i64))), .d (.int .i64 x51.2)]])] ⟨[(0, (.one (.ptr 0 0 0))), (1, (I p1)), (5, (I x8)), (6, (I x9)), (7, (I x37.1)), (8, (.one (.own 1 0 x37.2.1))), (9, (I x37.2.2.1)), (62, (B (decide (x51.1 = 0))))], [.cells [.d (.list (p2.map (D.int .i64))), .d (.int .i64 x51.2)], .vals (.int .i64 0) (x37.2.2.2.2.map (D.int .i64))]⟩ (by kernel_rfl) (A1 (T_keep_Src_N_ok k 4 p2 x37.2.2.2.1 x51 hx51)) ?_
            obtain ⟨x54, hx54, H⟩ := bind_some' H
            refine K_of ⟨[(0, (.one (.ptr 0 0 0))), (1, (I p1)), (5, (I x8)), (6, (I x9)), (7, (I x54.1)), (8, (.one (.own 1 0 x37.2.1))), (9, (I x37.2.2.1))], [.cells [.d (.list (p2.map (D.int .i64))), .d (.int .i64 x54.2)], .vals (.int .i64 0) (x37.2.2.2.2.map (D.int .i64))]⟩ ?_ ?_
            · clear H; have H := hx54; clear hx54; refine K_in ?_
              rcases ite_some H with ⟨hx52, H⟩ | ⟨hx52, H⟩
              · refine K_t rfl (decide_eq_true hx52) ?_
                obtain ⟨x53, hx53, H⟩ := bind_some' H
                refine K_reg [.r (I x53.1) [.cells [.d (.list (p2.map (D.int .i64))), .d (.int .i64 x53.2)]]] [evF X k n_keep_Src_Range [(.one (.ptr 0 0 0)), (I (w64 (0 - x9))), (I x9)] [.cells [.d (.list (p2.map (D.int .i64))), .d (.int .i64 x51.2)]] = some ((I x53.1), [.cells [.d (.list (p2.map (D.int .i64))), .d (.int .i64 x53.2)]])] ⟨[(0, (.one (.ptr 0 0 0))), (1, (I p1)), (5, (I x8)), (6, (I x9)), (7, (I x53.1)), (8, (.one (.own 1 0 x37.2.1))), (9, (I x37.2.2.1))], [.cells [.d (.list (p2.map (D.int .i64))), .d (.int .i64 x53.2)], .vals (.int .i64 0) (x37.2.2.2.2.map (D.int .i64))]⟩ (by kernel_rfl) (A1 (T_keep_Src_Range_ok k (w64 (0 - x9)) x9 p2 x51.2 x53 hx53)) ?_
                cases H
                exact K_end rfl
              · refine K_f rfl (decide_eq_false hx52) ?_
                refine K_gh ⟨[(0, (.one (.ptr 0 0 0))), (1, (I p1)), (5, (I x8)), (6, (I x9)), (7, (I x37.1)), (8, (.one (.own 1 0 x37.2.1))), (9, (I x37.2.2.1))], [.cells [.d (.list (p2.map (D.int .i64))), .d (.int .i64 x51.2)], .vals (.int .i64 0) (x37.2.2.2.2.map (D.int .i64))]⟩ (by kernel_rfl) ?_
                refine K_skip ?_
                cases H
                exact K_end rfl
            obtain ⟨hx55, H⟩ := guard_some H
            refine K_reg [.n 1, .l (((x37.2.2.2.2.drop 0).take x37.2.1 ++ ([x54.1] : List Int)).map (D.int .i64))] [(List.all (([x54.1] : List Int).map (D.int .i64)) fun d => d.cells.length == (D.cells (.int .i64 0)).length) = true, x37.2.1 + 1 ≤ LIM, (([x54.1] : List Int).map (D.int .i64)).length = 1, ((x37.2.2.2.2.map (D.int .i64)).drop 0).take x37.2.1 ++ (([x54.1] : List Int).map (D.int .i64)) = ((x37.2.2.2.2.drop 0).take x37.2.1 ++ ([x54.1] : List Int)).map (D.int .i64)] ⟨[(0, (.one (.ptr 0 0 0))), (1, (I p1)), (5, (I x8)), (6, (I x9)), (7, (I x54.1)), (8, (.one (.own 1 0 (x37.2.1 + 1)))), (9, (I x37.2.2.1))], [.cells [.d (.list (p2.map (D.int .i64))), .d (.int .i64 x54.2)], .vals (.int .i64 0) (((x37.2.2.2.2.drop 0).take x37.2.1 ++ ([x54.1] : List Int)).map (D.int .i64))]⟩ (by kernel_rfl) (AC (all_ok (D.int .i64) 1 ([x54.1] : List Int) (fun _ => rfl)) (AC hx55 (AC (by simp) (A1 (ap_map (D.int .i64) x37.2.2.2.2 ([x54.1] : List Int) 0 x37.2.1))))) ?_
            cases H
            exact K_end rfl
          · refine K_f rfl (decide_eq_false hx50) ?_
            obtain ⟨x56, hx56, H⟩ := bind_some' H
            obtain ⟨hx57, H⟩ := guard_some H
            refine K_reg [.r (I x56.1) [.cells [.d (.list (p2.map (D.int .i64))), .d (.int .i64 x56.2)]], .n 1, .l (((x37.2.2.2.2.drop 0).take x37.2.1 ++ ([x56.1] : List Int)).map (D.int .i64))] [evF X k n_keep_Src_Pick [(.one (.ptr 0 0 0)), (.one (.d (.list (([(-1000), 1000, 1000, 0] : List Int).map (D.int .i64)))))] [.cells [.d (.list (p2.map (D.int .i64))), .d (.int .i64 x37.2.2.2.1)]] = some ((I x56.1), [.cells [.d (.list (p2.map (D.int .i64))), .d (.int .i64 x56.2)]]), (List.all (([x56.1] : List Int).map (D.int .i64)) fun d => d.cells.length == (D.cells (.int .i64 0)).length) = true, x37.2.1 + 1 ≤ LIM, (([x56.1] : List Int).map (D.int .i64)).length = 1, ((x37.2.2.2.2.map (D.int .i64)).drop 0).take x37.2.1 ++ (([x56.1] : List Int).map (D.int .i64)) = ((x37.2.2.2.2.drop 0).take x37.2.1 ++ ([x56.1] : List Int)).map (D.int .i64)] ⟨[(0, (.one (.ptr 0 0 0))), (1, (I p1)), (5, (I x8)), (6, (I x9)), (7, (I x37.1)), (8, (.one (.own 1 0 (x37.2.1 + 1)))), (9, (I x37.2.2.1))], [.cells [.d (.list (p2.map (D.int .i64))), .d (.int .i64 x56.2)], .vals (.int .i64 0) (((x37.2.2.2.2.drop 0).take x37.2.1 ++ ([x56.1] : List Int)).map (D.int .i64))]⟩ (by kernel_rfl) (AC (T_keep_Src_Pick_ok k ([(-1000), 1000, 1000, 0] : List Int) p2 x37.2.2.2.1 x56 hx56) (AC (all_ok (D.int .i64) 1 ([x56.1] : List Int) (fun _ => rfl)) (AC hx57 (AC (by simp) (A1 (ap_map (D.int .i64) x37.2.2.2.2 ([x56.1] : List Int) 0 x37.2.1)))))) ?_
            cases H
            exact K_end rfl
    refine K_blk ?_
    refine K_blk ?_
    refine K_reg [] [] ⟨[(0, (.one (.ptr 0 0 0))), (1, (I p1)), (5, (I x8)), (6, (I x9)), (7, (I x58.1)), (8, (.one (.own 1 0 (x37.2.1 + 1)))), (9, (I (w64 (x37.2.2.1 + 1))))], [.cells [.d (.list (p2.map (D.int .i64))), .d (.int .i64 x58.2.1)], .vals (.int .i64 0) (x58.2.2.map (D.int .i64))]⟩ (by kernel_rfl) trivial ?_
    cases H
    exact K_end rfl
  · refine K_f rfl (decide_eq_false hx38) ?_
    refine K_gh ⟨[(8, (.one (.own 1 0 x37.2.1)))], [.cells [.d (.list (p2.map (D.int .i64))), .d (.int .i64 x37.2.2.2.1)], .vals (.int .i64 0) (x37.2.2.2.2.map (D.int .i64))]⟩ (by kernel_rfl) ?_
    cases H
    exact K_exit0 rfl rfl
def T_keep_Src_List (k : Nat) (p1 : Int) (p2 : List Int) (p3 : Int) : Option ((List Int) × Int) := match k with
  | 0 => none
  | k + 1 => ((T_keep_Src_N k 6 p2 p3).bind fun x1 => (T_keep_Src_Pick k ([1, 3, 10, 100, 1000] : List Int) p2 x1.2).bind fun x2 => (T_keep_Src_N k 3 p2 x2.2).bind fun x3 => ((if x3.1 = 0 then ((T_keep_Src_Range k (-1000) 1000 p2 x3.2).bind fun x5 => some (x5.1, x5.2)) else some (0, x3.2))).bind fun x6 => (loopT (T_keep_Src_List_l1 k p1 p2 x1.1 x2.1) k (x6.1, 0, 0, x6.2, [])).bind fun x59 => some (((x59.2.2.drop 0).take x59.1), x59.2.1))
theorem T_keep_Src_List_ok (k : Nat) (p1 : Int) (p2 : List Int) (p3 : Int) (r : (List Int) × Int) : T_keep_Src_List k p1 p2 p3 = some r → evF X k n_keep_Src_List [(.one (.ptr 0 0 0)), (I p1)] [.cells [.d (.list (p2.map (D.int .i64))), .d (.int .i64 p3)]] = some ((.one (.d (.list (r.1.map (D.int .i64))))), [.cells [.d (.list (p2.map (D.int .i64))), .d (.int .i64 r.2)]]) := by
  intro H
  cases k with
  | zero => simp [T_keep_Src_List] at H
  | succ k =>
    simp only [T_keep_Src_List] at H
    refine F_in X_keep_Src_List rfl ?_
    refine K_seq ?_
    refine K_reg [] [] ⟨[(0, (.one (.ptr 0 0 0))), (1, (I p1))], [.cells [.d (.list (p2.map (D.int .i64))), .d (.int .i64 p3)]]⟩ (by kernel_rfl) trivial ?_
    refine K_seq ?_
    obtain ⟨x1, hx1, H⟩ := bind_some' H
    obtain ⟨x2, hx2, H⟩ := bind_some' H
    refine K_reg [.r (I x1.1) [.cells [.d (.list (p2.map (D.int .i64))), .d (.int .i64 x1.2)]], .r (I x2.1) [.cells [.d (.list (p2.map (D.int .i64))), .d (.int .i64 x2.2)]]] [evF X k n_keep_Src_N [(.one (.ptr 0 0 0)), (I 6)] [.cells [.d (.list (p2.map (D.int .i64))), .d (.int .i64 p3)]] = some ((I x1.1), [.cells [.d (.list (p2.map (D.int .i64))), .d (.int .i64 x1.2)]]), evF X k n_keep_Src_Pick [(.one (.ptr 0 0 0)), (.one (.d (.list (([1, 3, 10, 100, 1000] : List Int).map (D.int .i64)))))] [.cells [.d (.list (p2.map (D.int .i64))), .d (.int .i64 x1.2)]] = some ((I x2.1), [.cells [.d (.list (p2.map (D.int .i64))), .d (.int .i64 x2.2)]])] ⟨[(0, (.one (.ptr 0 0 0))), (1, (I p1)), (5, (I x1.1)), (6, (I x2.1)), (7, (I 0))], [.cells [.d (.list (p2.map (D.int .i64))), .d (.int .i64 x2.2)]]⟩ (by kernel_rfl) (AC (T_keep_Src_N_ok k 6 p2 p3 x1 hx1) (A1 (T_keep_Src_Pick_ok k ([1, 3, 10, 100, 1000] : List Int) p2 x1.2 x2 hx2))) ?_
    refine K_seq ?_
    refine K_seq ?_
    obtain ⟨x3, hx3, H⟩ := bind_some' H
    refine K_reg [.r (I x3.1) [.cells [.d (.list (p2.map (D.int .i64))), .d (.int .i64 x3.2)]]] [evF X k n_keep_Src_N [(.one (.ptr 0 0 0)), (I 3)] [.cells [.d (.list (p2.map (D.int .i64))), .d (.int .i64 x2.2)]] = some ((I x3.1), [.cells [.d (.list (p2.map (D.int .i64))), .d (.int .i64 x3.2)]])] ⟨[(0, (.one (.ptr 0 0 0))), (1, (I p1)), (5, (I x1.1)), (6, (I x2.1)), (7, (I 0)), (17, (B (decide (x3.1 = 0))))], [.cells [.d (.list (p2.map (D.int .i64))), .d (.int .i64 x3.2)]]⟩ (by kernel_rfl) (A1 (T_keep_Src_N_ok k 3 p2 x2.2 x3 hx3)) ?_
    obtain ⟨x6, hx6, H⟩ := bind_some' H
    refine K_of ⟨[(0, (.one (.ptr 0 0 0))), (1, (I p1)), (5, (I x1.1)), (6, (I x2.1)), (7, (I x6.1))], [.cells [.d (.list (p2.map (D.int .i64))), .d (.int .i64 x6.2)]]⟩ ?_ ?_
    · clear H; have H := hx6; clear hx6; refine K_in ?_
      rcases ite_some H with ⟨hx4, H⟩ | ⟨hx4, H⟩
      · refine K_t rfl (decide_eq_true hx4) ?_
        obtain ⟨x5, hx5, H⟩ := bind_some' H
        refine K_reg [.r (I x5.1) [.cells [.d (.list (p2.map (D.int .i64))), .d (.int .i64 x5.2)]]] [evF X k n_keep_Src_Range [(.one (.ptr 0 0 0)), (I (-1000)), (I 1000)] [.cells [.d (.list (p2.map (D.int .i64))), .d (.int .i64 x3.2)]] = some ((I x5.1), [.cells [.d (.list (p2.map (D.int .i64))), .d (.int .i64 x5.2)]])] ⟨[(0, (.one (.ptr 0 0 0))), (1, (I p1)), (5, (I x1.1)), (6, (I x2.1)), (7, (I x5.1))], [.cells [.d (.list (p2.map (D.int .i64))), .d (.int .i64 x5.2)]]⟩ (by kernel_rfl) (A1 (T_keep_Src_Range_ok k (-1000) 1000 p2 x3.2 x5 hx5)) ?_
        cases H
        exact K_end rfl
      · refine K_f rfl (decide_eq_false hx4) ?_
        refine K_gh ⟨[(0, (.one (.ptr 0 0 0))), (1, (I p1)), (5, (I x1.1)), (6, (I x2.1)), (7, (I 0))], [.cells [.d (.list (p2.map (D.int .i64))), .d (.int .i64 x3.2)]]⟩ (by kernel_rfl) ?_
        refine K_skip ?_
        cases H
        exact K_end rfl
    refine K_seq ?_
    refine K_reg [] [] ⟨[(0, (.one (.ptr 0 0 0))), (1, (I p1)), (5, (I x1.1)), (6, (I x2.1)), (7, (I x6.1)), (8, (.one (.nil)))], [.cells [.d (.list (p2.map (D.int .i64))), .d (.int .i64 x6.2)]]⟩ (by kernel_rfl) trivial ?_
    refine K_seq ?_
    refine K_seq ?_
    refine K_reg [] [] ⟨[(0, (.one (.ptr 0 0 0))), (1, (I p1)), (5, (I x1.1)), (6, (I x2.1)), (7, (I x6.1)), (8, (.one (.nil))), (9, (I 0))], [.cells [.d (.list (p2.map (D.int .i64))), .d (.int .i64 x6.2)]]⟩ (by kernel_rfl) trivial ?_
    refine K_block ?_
    refine K_gh ⟨[(0, (.one (.ptr 0 0 0))), (1, (I p1)), (5, (I x1.1)), (6, (I x2.1)), (7, (I x6.1)), (8, (.one (.own 1 0 0))), (9, (I 0))], [.cells [.d (.list (p2.map (D.int .i64))), .d (.int .i64 x6.2)], .vals (.int .i64 0) ([].map (D.int .i64))]⟩ (by kernel_rfl) ?_
    obtain ⟨x59, hx59, H⟩ := bind_some' H
    refine K_loop ⟨[(8, (.one (.own 1 0 x59.1)))], [.cells [.d (.list (p2.map (D.int .i64))), .d (.int .i64 x59.2.1)], .vals (.int .i64 0) (x59.2.2.map (D.int .i64))]⟩ (loop_ok (fun (s : Int × Nat × Int × Int × (List Int)) => ⟨[(0, (.one (.ptr 0 0 0))), (1, (I p1)), (5, (I x1.1)), (6, (I x2.1)), (7, (I s.1)), (8, (.one (.own 1 0 s.2.1))), (9, (I s.2.2.1))], [.cells [.d (.list (p2.map (D.int .i64))), .d (.int .i64 s.2.2.2.1)], .vals (.int .i64 0) (s.2.2.2.2.map (D.int .i64))]⟩) (fun (r : (Nat × Int × (List Int))) => (.exit 0, ⟨[(8, (.one (.own 1 0 r.1)))], [.cells [.d (.list (p2.map (D.int .i64))), .d (.int .i64 r.2.1)], .vals (.int .i64 0) (r.2.2.map (D.int .i64))]⟩)) (fun r h => by cases h) (T_keep_Src_List_l1_ok k p1 p2 x1.1 x2.1) k (x6.1, 0, 0, x6.2, []) x59 hx59) rfl ?_
    refine K_seq ?_
    refine K_reg [] [] ⟨[(4, (.one (.own 1 0 x59.1)))], [.cells [.d (.list (p2.map (D.int .i64))), .d (.int .i64 x59.2.1)], .vals (.int .i64 0) (x59.2.2.map (D.int .i64))]⟩ (by kernel_rfl) trivial ?_
    refine K_gh ⟨[(4, (.one (.own 1 0 x59.1)))], [.cells [.d (.list (p2.map (D.int .i64))), .d (.int .i64 x59.2.1)], .vals (.int .i64 0) (x59.2.2.map (D.int .i64))]⟩ (by kernel_rfl) ?_
    cases H
    refine K_ret ?_
    exact Eq.trans (b := some ((.one (.d (.list (((x59.2.2.map (D.int .i64)).drop 0).take x59.1)))), [.cells [.d (.list (p2.map (D.int .i64))), .d (.int .i64 x59.2.1)]])) (by kernel_rfl) (by simp only [dt_map])
def T_keep_Src_Near_l1 (k : Nat) (p1 : List Int) (p2 : List Int) (x6 : Int) (x7 : Int) (x8 : Int) (x9 : Nat) (x10 : Int) (x42 : Int × Int × (List Int)) : Option ((Int × Int × (List Int)) ⊕ ((Int × (List Int)))) :=
  (if x42.1 < x10 then (((if x6 = 1 then (if (0 : Int) ≤ x42.1 ∧ x42.1 < ((x9 : Nat) : Int) then (x42.2.2[(0 + x42.1.toNat)]?).bind fun x46 => (T_keep_Src_Range k (-2) 2 p2 x42.2.1).bind fun x47 => (T_keep_clip k (w64 (x46 + x47.1))).bind fun x48 => some (x47.2, (x42.2.2.set (0 + x42.1.toNat) (imin (imax (w64 (x46 + x47.1)) (-1000)) 1000))) else none) else (if x6 = 2 then (if (0 : Int) ≤ x42.1 ∧ x42.1 < ((x9 : Nat) : Int) then (x42.2.2[(0 + x42.1.toNat)]?).bind fun x51 => (T_keep_clip k (w64 (x51 + x7))).bind fun x52 => some (x42.2.1, (x42.2.2.set (0 + x42.1.toNat) (imin (imax (w64 (x51 + x7)) (-1000)) 1000))) else none) else (if x6 = 3 then (if (0 : Int) ≤ x42.1 ∧ x42.1 < ((x9 : Nat) : Int) then (x42.2.2[(0 + x42.1.toNat)]?).bind fun x55 => (T_keep_clip k (w64 ((w64 (x55 * x8)) + x7))).bind fun x56 => some (x42.2.1, (x42.2.2.set (0 + x42.1.toNat) (imin (imax (w64 ((w64 (x55 * x8)) + x7)) (-1000)) 1000))) else none) else (if x6 = 4 then (at? p1 (w64 ((w64 ((p1.length : Int) - 1)) - x42.1))).bind fun x58 => (if (0 : Int) ≤ x42.1 ∧ x42.1 < ((x9 : Nat) : Int) then some (x42.2.1, (x42.2.2.set (0 + x42.1.toNat) x58)) else none) else (if x6 = 5 then (T_keep_Src_Range k (-1) 1 p2 x42.2.1).bind fun x61 => (T_keep_Mod k (w64 (x42.1 + x61.1)) (p1.length : Int)).bind fun x62 => (at? p1 x62).bind fun x63 => (if (0 : Int) ≤ x42.1 ∧ x42.1 < ((x9 : Nat) : Int) then some (x61.2, (x42.2.2.set (0 + x42.1.toNat) x63)) else none) else (if x6 = 6 then (if (0 : Int) ≤ x42.1 ∧ x42.1 < ((x9 : Nat) : Int) then (x42.2.2[(0 + x42.1.toNat)]?).bind fun x67 => (T_keep_clip k (w64 (x7 - (w64 (x67 * x8))))).bind fun x68 => some (x42.2.1, (x42.2.2.set (0 + x42.1.toNat) (imin (imax (w64 (x7 - (w64 (x67 * x8)))) (-1000)) 1000))) else none) else some (x42.2.1, x42.2.2)))))))).bind fun x69 => some (.inl ((w64 (x42.1 + 1)), x69.1, x69.2))) else some (.inr (x42.2.1, x42.2.2)))
theorem T_keep_Src_Near_l1_ok (k : Nat) (p1 : List Int) (p2 : List Int) (x6 : Int) (x7 : Int) (x8 : Int) (x9 : Nat) (x10 : Int) : ∀ (x42 : Int × Int × (List Int)) (x : (Int × Int × (List Int)) ⊕ ((Int × (List Int)))), T_keep_Src_Near_l1 k p1 p2 x6 x7 x8 x9 x10 x42 = some x → evC X (evF X k) k 1 l_keep_Src_Near_1 ⟨[(0, (.one (.ptr 0 0 0))), (1, (.one (.d (.list (p1.map (D.int .i64)))))), (5, (I x6)), (6, (I x7)), (7, (I x8)), (8, (.one (.own 1 0 x9))), (20, (I x10)), (21, (I x42.1))], [.cells [.d (.list (p2.map (D.int .i64))), .d (.int .i64 x42.2.1)], .vals (.int .i64 0) (x42.2.2.map (D.int .i64))]⟩ = some (outS (fun (s : Int × Int × (List Int)) => ⟨[(0, (.one (.ptr 0 0 0))), (1, (.one (.d (.list (p1.map (D.int .i64)))))), (5, (I x6)), (6, (I x7)), (7, (I x8)), (8, (.one (.own 1 0 x9))), (20, (I x10)), (21, (I s.1))], [.cells [.d (.list (p2.map (D.int .i64))), .d (.int .i64 s.2.1)], .vals (.int .i64 0) (s.2.2.map (D.int .i64))]⟩) (fun (r : (Int × (List Int))) => (.exit 0, ⟨[(8, (.one (.own 1 0 x9)))], [.cells [.d (.list (p2.map (D.int .i64))), .d (.int .i64 r.1)], .vals (.int .i64 0) (r.2.map (D.int .i64))]⟩)) x) := by
  intro x42 x H
  unfold T_keep_Src_Near_l1 at H
  refine K_in ?_
  refine K_seq ?_
  refine K_reg [] [] ⟨[(0, (.one (.ptr 0 0 0))), (1, (.one (.d (.list (p1.map (D.int .i64)))))), (5, (I x6)), (6, (I x7)), (7, (I x8)), (8, (.one (.own 1 0 x9))), (20, (I x10)), (21, (I x42.1)), (22, (B (decide (x42.1 < x10))))], [.cells [.d (.list (p2.map (D.int .i64))), .d (.int .i64 x42.2.1)], .vals (.int .i64 0) (x42.2.2.map (D.int .i64))]⟩ (by kernel_rfl) trivial ?_
  refine K_seq ?_
  rcases ite_some H with ⟨hx43, H⟩ | ⟨hx43, H⟩
  · refine K_t rfl (decide_eq_true hx43) ?_
    refine K_gh ⟨[(0, (.one (.ptr 0 0 0))), (1, (.one (.d (.list (p1.map (D.int .i64)))))), (5, (I x6)), (6, (I x7)), (7, (I x8)), (8, (.one (.own 1 0 x9))), (20, (I x10)), (21, (I x42.1))], [.cells [.d (.list (p2.map (D.int .i64))), .d (.int .i64 x42.2.1)], .vals (.int .i64 0) (x42.2.2.map (D.int .i64))]⟩ (by kernel_rfl) ?_
    refine K_skip ?_
    refine K_seq ?_
    refine K_block ?_
    refine K_seq ?_
    refine K_reg [] [] ⟨[(0, (.one (.ptr 0 0 0))), (1, (.one (.d (.list (p1.map (D.int .i64)))))), (5, (I x6)), (6, (I x7)), (7, (I x8)), (8, (.one (.own 1 0 x9))), (9, (I x42.1)), (20, (I x10)), (21, (I x42.1))], [.cells [.d (.list (p2.map (D.int .i64))), .d (.int .i64 x42.2.1)], .vals (.int .i64 0) (x42.2.2.map (D.int .i64))]⟩ (by kernel_rfl) trivial ?_
    refine K_seq ?_
    refine K_reg [] [] ⟨[(0, (.one (.ptr 0 0 0))), (1, (.one (.d (.list (p1.map (D.int .i64)))))), (5, (I x6)), (6, (I x7)), (7, (I x8)), (8, (.one (.own 1 0 x9))), (9, (I x42.1)), (20, (I x10)), (21, (I x42.1)), (24, (I x6))], [.cells [.d (.list (p2.map (D.int .i64))), .d (.int .i64 x42.2.1)], .vals (.int .i64 0) (x42.2.2.map (D.int .i64))]⟩ (by kernel_rfl) trivial ?_
    refine K_block ?_
    refine K_seq ?_
    refine K_reg [] [] ⟨[(0, (.one (.ptr 0 0 0))), (1, (.one (.d (.list (p1.map (D.int .i64)))))), (5, (I x6)), (6, (I x7)), (7, (I x8)), (8, (.one (.own 1 0 x9))), (9, (I x42.1)), (20, (I x10)), (21, (I x42.1)), (24, (I x6)), (25, (B (decide (x6 = 1))))], [.cells [.d (.list (p2.map (D.int .i64))), .d (.int .i64 x42.2.1)], .vals (.int .i64 0) (x42.2.2.map (D.int .i64))]⟩ (by kernel_rfl) trivial ?_
    obtain ⟨x69, hx69, H⟩ := bind_some' H
    refine K_of ⟨[(0, (.one (.ptr 0 0 0))), (1, (.one (.d (.list (p1.map (D.int .i64)))))), (5, (I x6)), (6, (I x7)), (7, (I x8)), (8, (.one (.own 1 0 x9))), (20, (I x10)), (21, (I x42.1))], [.cells [.d (.list (p2.map (D.int .i64))), .d (.int .i64 x69.1)], .vals (.int .i64 0) (x69.2.map (D.int .i64))]⟩ ?_ ?_
    · clear H; have H := hx69; clear hx69; refine K_in ?_
      rcases ite_some H with ⟨hx44, H⟩ | ⟨hx44, H⟩
      · refine K_t rfl (decide_eq_true hx44) ?_
        obtain ⟨hx45, H⟩ := guard_some H
        obtain ⟨x46, hx46, H⟩ := bind_some' H
        obtain ⟨x47, hx47, H⟩ := bind_some' H
        obtain ⟨x48, hx48, H⟩ := bind_some' H
        refine K_regD [.l [.int .i64 x46], .r (I x47.1) [.cells [.d (.list (p2.map (D.int .i64))), .d (.int .i64 x47.2)]], .r (I (imin (imax (w64 (x46 + x47.1)) (-1000)) 1000)) [], .l ((x42.2.2.set (0 + x42.1.toNat) (imin (imax (w64 (x46 + x47.1)) (-1000)) 1000)).map (D.int .i64)), .r (I x47.1) [.cells [.d (.list (p2.map (D.int .i64))), .d (.int .i64 x47.2)]], .l [.int .i64 x46], .r (I (imin (imax (w64 (x46 + x47.1)) (-1000)) 1000)) [], .l ((x42.2.2.set (0 + x42.1.toNat) (imin (imax (w64 (x46 + x47.1)) (-1000)) 1000)).map (D.int .i64)), .r (I x47.1) [.cells [.d (.list (p2.map (D.int .i64))), .d (.int .i64 x47.2)]], .l [.int .i64 x46], .r (I (imin (imax (w64 (x46 + x47.1)) (-1000)) 1000)) [], .l ((x42.2.2.set (0 + x42.1.toNat) (imin (imax (w64 (x46 + x47.1)) (-1000)) 1000)).map (D.int .i64))] [(0 : Int) ≤ x42.1 ∧ x42.1 < ((x9 : Nat) : Int), ((x42.2.2.map (D.int .i64)).getD (0 + x42.1.toNat) (.int .i64 0)).cells = [.int .i64 x46], evF X k n_keep_Src_Range [(.one (.ptr 0 0 0)), (I (-2)), (I 2)] [.cells [.d (.list (p2.map (D.int .i64))), .d (.int .i64 x42.2.1)]] = some ((I x47.1), [.cells [.d (.list (p2.map (D.int .i64))), .d (.int .i64 x47.2)]]), evF X k n_keep_clip [(I (w64 (x46 + x47.1)))] [] = some ((I (imin (imax (w64 (x46 + x47.1)) (-1000)) 1000)), []), (0 : Int) ≤ x42.1 ∧ x42.1 < ((x9 : Nat) : Int), (x42.2.2.map (D.int .i64)).set (0 + x42.1.toNat) (elemOf (.int .i64 0) (splice ((x42.2.2.map (D.int .i64)).getD (0 + x42.1.toNat) (.int .i64 0)).cells 0 [.int .i64 (imin (imax (w64 (x46 + x47.1)) (-1000)) 1000)])) = (x42.2.2.set (0 + x42.1.toNat) (imin (imax (w64 (x46 + x47.1)) (-1000)) 1000)).map (D.int .i64), evF X k n_keep_Src_Range [(.one (.ptr 0 0 0)), (I (-2)), (I 2)] [.cells [.d (.list (p2.map (D.int .i64))), .d (.int .i64 x42.2.1)]] = some ((I x47.1), [.cells [.d (.list (p2.map (D.int .i64))), .d (.int .i64 x47.2)]]), ((x42.2.2.map (D.int .i64)).getD (0 + x42.1.toNat) (.int .i64 0)).cells = [.int .i64 x46], evF X k n_keep_clip [(I (w64 (x46 + x47.1)))] [] = some ((I (imin (imax (w64 (x46 + x47.1)) (-1000)) 1000)), []), (0 : Int) ≤ x42.1 ∧ x42.1 < ((x9 : Nat) : Int), (x42.2.2.map (D.int .i64)).set (0 + x42.1.toNat) (elemOf (.int .i64 0) (splice ((x42.2.2.map (D.int .i64)).getD (0 + x42.1.toNat) (.int .i64 0)).cells 0 [.int .i64 (imin (imax (w64 (x46 + x47.1)) (-1000)) 1000)])) = (x42.2.2.set (0 + x42.1.toNat) (imin (imax (w64 (x46 + x47.1)) (-1000)) 1000)).map (D.int .i64), (⟨[(0, (.one (.ptr 0 0 0))), (1, (.one (.d (.list (p1.map (D.int .i64)))))), (5, (I x6)), (6, (I x7)), (7, (I x8)), (8, (.one (.own 1 0 x9))), (20, (I x10)), (21, (I x42.1))], [.cells [.d (.list (p2.map (D.int .i64))), .d (.int .i64 x47.2)], .vals (.int .i64 0) ((x42.2.2.set (0 + x42.1.toNat) (imin (imax (w64 (x46 + x47.1)) (-1000)) 1000)).map (D.int .i64))]⟩ : St) = ⟨[(0, (.one (.ptr 0 0 0))), (1, (.one (.d (.list (p1.map (D.int .i64)))))), (5, (I x6)), (6, (I x7)), (7, (I x8)), (8, (.one (.own 1 0 x9))), (20, (I x10)), (21, (I x42.1))], [.cells [.d (.list (p2.map (D.int .i64))), .d (.int .i64 x47.2)], .vals (.int .i64 0) ((x42.2.2.set (0 + x42.1.toNat) (imin (imax (w64 (x46 + x47.1)) (-1000)) 1000)).map (D.int .i64))]⟩, evF X k n_keep_Src_Range [(.one (.ptr 0 0 0)), (I (-2)), (I 2)] [.cells [.d (.list (p2.map (D.int .i64))), .d (.int .i64 x42.2.1)]] = some ((I x47.1), [.cells [.d (.list (p2.map (D.int .i64))), .d (.int .i64 x47.2)]]), (0 : Int) ≤ x42.1 ∧ x42.1 < ((x9 : Nat) : Int), ((x42.2.2.map (D.int .i64)).getD (0 + x42.1.toNat) (.int .i64 0)).cells = [.int .i64 x46], evF X k n_keep_clip [(I (w64 (x46 + x47.1)))] [] = some ((I (imin (imax (w64 (x46 + x47.1)) (-1000)) 1000)), []), (0 : Int) ≤ x42.1 ∧ x42.1 < ((x9 : Nat) : Int), (x42.2.2.map (D.int .i64)).set (0 + x42.1.toNat) (elemOf (.int .i64 0) (splice ((x42.2.2.map (D.int .i64)).getD (0 + x42.1.toNat) (.int .i64 0)).cells 0 [.int .i64 (imin (imax (w64 (x46 + x47.1)) (-1000)) 1000)])) = (x42.2.2.set (0 + x42.1.toNat) (imin (imax (w64 (x46 + x47.1)) (-1000)) 1000)).map (D.int .i64), (⟨[(0, (.one (.ptr 0 0 0))), (1, (.one (.d (.list (p1.map (D.int .i64)))))), (5, (I x6)), (6, (I x7)), (7, (I x8)), (8, (.one (.own 1 0 x9))), (20, (I x10)), (21, (I x42.1))], [.cells [.d (.list (p2.map (D.int .i64))), .d (.int .i64 x47.2)], .vals (.int .i64 0) ((x42.2.2.set (0 + x42.1.toNat) (imin (imax (w64 (x46 + x47.1)) (-1000)) 1000)).map (D.int .i64))]⟩ : St) = ⟨[(0, (.one (.ptr 0 0 0))), (1, (.one (.d (.list (p1.map (D.int .i64)))))), (5, (I x6)), (6, (I x7)), (7, (I x8)), (8, (.one (.own 1 0 x9))), (20, (I x10)), (21, (I x42.1))], [.cells [.d (.list (p2.map (D.int .i64))), .d (.int .i64 x47.2)], .vals (.int .i64 0) ((x42.2.2.set (0 + x42.1.toNat) (imin (imax (w64 (x46 + x47.1)) (-1000)) 1000)).map (D.int .i64))]⟩] ⟨[(0, (.one (.ptr 0 0 0))), (1, (.one (.d (.list (p1.map (D.int .i64)))))), (5, (I x6)), (6, (I x7)), (7, (I x8)), (8, (.one (.own 1 0 x9))), (20, (I x10)), (21, (I x42.1))], [.cells [.d (.list (p2.map (D.int .i64))), .d (.int .i64 x47.2)], .vals (.int .i64 0) ((x42.2.2.set (0 + x42.1.toNat) (imin (imax (w64 (x46 + x47.1)) (-1000)) 1000)).map (D.int .i64))]⟩ (by kernel_rfl) (AC hx45 (AC (ld_ok hx46 (D.int .i64) (.int .i64 0)) (AC (T_keep_Src_Range_ok k (-2) 2 p2 x42.2.1 x47 hx47) (AC (T_keep_clip_ok k (w64 (x46 + x47.1)) x48 hx48) (AC hx45 (AC (st_one x42.2.2 (0 + x42.1.toNat) (imin (imax (w64 (x46 + x47.1)) (-1000)) 1000) (D.int .i64) (.int .i64 0) rfl (fun _ => rfl) rfl) (AC (T_keep_Src_Range_ok k (-2) 2 p2 x42.2.1 x47 hx47) (AC (ld_ok hx46 (D.int .i64) (.int .i64 0)) (AC (T_keep_clip_ok k (w64 (x46 + x47.1)) x48 hx48) (AC hx45 (AC (st_one x42.2.2 (0 + x42.1.toNat) (imin (imax (w64 (x46 + x47.1)) (-1000)) 1000) (D.int .i64) (.int .i64 0) rfl (fun _ => rfl) rfl) (AC rfl (AC (T_keep_Src_Range_ok k (-2) 2 p2 x42.2.1 x47 hx47) (AC hx45 (AC (ld_ok hx46 (D.int .i64) (.int .i64 0)) (AC (T_keep_clip_ok k (w64 (x46 + x47.1)) x48 hx48) (AC hx45 (AC (st_one x42.2.2 (0 + x42.1.toNat) (imin (imax (w64 (x46 + x47.1)) (-1000)) 1000) (D.int .i64) (.int .i64 0) rfl (fun _ => rfl) rfl) (A1 rfl))))))))))))))))))) ?_
        cases H
        exact K_end rfl
      · refine K_f rfl (decide_eq_false hx44) ?_
        refine K_seq ?_
        refine K_reg [] [] ⟨[(0, (.one (.ptr 0 0 0))), (1, (.one (.d (.list (p1.map (D.int .i64)))))), (5, (I x6)), (6, (I x7)), (7, (I x8)), (8, (.one (.own 1 0 x9))), (9, (I x42.1)), (20, (I x10)), (21, (I x42.1)), (24, (I x6)), (38, (B (decide (x6 = 2))))], [.cells [.d (.list (p2.map (D.int .i64))), .d (.int .i64 x42.2.1)], .vals (.int .i64 0) (x42.2.2.map (D.int .i64))]⟩ (by kernel_rfl) trivial ?_
        rcases ite_some H with ⟨hx49, H⟩ | ⟨hx49, H⟩
        · refine K_t rfl (decide_eq_true hx49) ?_
          obtain ⟨hx50, H⟩ := guard_some H
          obtain ⟨x51, hx51, H⟩ := bind_some' H
          obtain ⟨x52, hx52, H⟩ := bind_some' H
          refine K_reg [.l [.int .i64 x51], .r (I (imin (imax (w64 (x51 + x7)) (-1000)) 1000)) [], .l ((x42.2.2.set (0 + x42.1.toNat) (imin (imax (w64 (x51 + x7)) (-1000)) 1000)).map (D.int .i64))] [(0 : Int) ≤ x42.1 ∧ x42.1 < ((x9 : Nat) : Int), ((x42.2.2.map (D.int .i64)).getD (0 + x42.1.toNat) (.int .i64 0)).cells = [.int .i64 x51], evF X k n_keep_clip [(I (w64 (x51 + x7)))] [] = some ((I (imin (imax (w64 (x51 + x7)) (-1000)) 1000)), []), (0 : Int) ≤ x42.1 ∧ x42.1 < ((x9 : Nat) : Int), (x42.2.2.map (D.int .i64)).set (0 + x42.1.toNat) (elemOf (.int .i64 0) (splice ((x42.2.2.map (D.int .i64)).getD (0 + x42.1.toNat) (.int .i64 0)).cells 0 [.int .i64 (imin (imax (w64 (x51 + x7)) (-1000)) 1000)])) = (x42.2.2.set (0 + x42.1.toNat) (imin (imax (w64 (x51 + x7)) (-1000)) 1000)).map (D.int .i64)] ⟨[(0, (.one (.ptr 0 0 0))), (1, (.one (.d (.list (p1.map (D.int .i64)))))), (5, (I x6)), (6, (I x7)), (7, (I x8)), (8, (.one (.own 1 0 x9))), (20, (I x10)), (21, (I x42.1))], [.cells [.d (.list (p2.map (D.int .i64))), .d (.int .i64 x42.2.1)], .vals (.int .i64 0) ((x42.2.2.set (0 + x42.1.toNat) (imin (imax (w64 (x51 + x7)) (-1000)) 1000)).map (D.int .i64))]⟩ (by kernel_rfl) (AC hx50 (AC (ld_ok hx51 (D.int .i64) (.int .i64 0)) (AC (T_keep_clip_ok k (w64 (x51 + x7)) x52 hx52) (AC hx50 (A1 (st_one x42.2.2 (0 + x42.1.toNat) (imin (imax (w64 (x51 + x7)) (-1000)) 1000) (D.int .i64) (.int .i64 0) rfl (fun _ => rfl) rfl)))))) ?_
          cases H
          exact K_end rfl
        · refine K_f rfl (decide_eq_false hx49) ?_
          refine K_seq ?_
          refine K_reg [] [] ⟨[(0, (.one (.ptr 0 0 0))), (1, (.one (.d (.list (p1.map (D.int .i64)))))), (5, (I x6)), (6, (I x7)), (7, (I x8)), (8, (.one (.own 1 0 x9))), (9, (I x42.1)), (20, (I x10)), (21, (I x42.1)), (24, (I x6)), (50, (B (decide (x6 = 3))))], [.cells [.d (.list (p2.map (D.int .i64))), .d (.int .i64 x42.2.1)], .vals (.int .i64 0) (x42.2.2.map (D.int .i64))]⟩ (by kernel_rfl) trivial ?_
          rcases ite_some H with ⟨hx53, H⟩ | ⟨hx53, H⟩
          · refine K_t rfl (decide_eq_true hx53) ?_
            obtain ⟨hx54, H⟩ := guard_some H
            obtain ⟨x55, hx55, H⟩ := bind_some' H
            obtain ⟨x56, hx56, H⟩ := bind_some' H
            refine K_reg [.l [.int .i64 x55], .r (I (imin (imax (w64 ((w64 (x55 * x8)) + x7)) (-1000)) 1000)) [], .l ((x42.2.2.set (0 + x42.1.toNat) (imin (imax (w64 ((w64 (x55 * x8)) + x7)) (-1000)) 1000)).map (D.int .i64))] [(0 : Int) ≤ x42.1 ∧ x42.1 < ((x9 : Nat) : Int), ((x42.2.2.map (D.int .i64)).getD (0 + x42.1.toNat) (.int .i64 0)).cells = [.int .i64 x55], evF X k n_keep_clip [(I (w64 ((w64 (x55 * x8)) + x7)))] [] = some ((I (imin (imax (w64 ((w64 (x55 * x8)) + x7)) (-1000)) 1000)), []), (0 : Int) ≤ x42.1 ∧ x42.1 < ((x9 : Nat) : Int), (x42.2.2.map (D.int .i64)).set (0 + x42.1.toNat) (elemOf (.int .i64 0) (splice ((x42.2.2.map (D.int .i64)).getD (0 + x42.1.toNat) (.int .i64 0)).cells 0 [.int .i64 (imin (imax (w64 ((w64 (x55 * x8)) + x7)) (-1000)) 1000)])) = (x42.2.2.set (0 + x42.1.toNat) (imin (imax (w64 ((w64 (x55 * x8)) + x7)) (-1000)) 1000)).map (D.int .i64)] ⟨[(0, (.one (.ptr 0 0 0))), (1, (.one (.d (.list (p1.map (D.int .i64)))))), (5, (I x6)), (6, (I x7)), (7, (I x8)), (8, (.one (.own 1 0 x9))), (20, (I x10)), (21, (I x42.1))], [.cells [.d (.list (p2.map (D.int .i64))), .d (.int .i64 x42.2.1)], .vals (.int .i64 0) ((x42.2.2.set (0 + x42.1.toNat) (imin (imax (w64 ((w64 (x55 * x8)) + x7)) (-1000)) 1000)).map (D.int .i64))]⟩ (by kernel_rfl) (AC hx54 (AC (ld_ok hx55 (D.int .i64) (.int .i64 0)) (AC (T_keep_clip_ok k (w64 ((w64 (x55 * x8)) + x7)) x56 hx56) (AC hx54 (A1 (st_one x42.2.2 (0 + x42.1.toNat) (imin (imax (w64 ((w64 (x55 * x8)) + x7)) (-1000)) 1000) (D.int .i64) (.int .i64 0) rfl (fun _ => rfl) rfl)))))) ?_
            cases H
            exact K_end rfl
          · refine K_f rfl (decide_eq_false hx53) ?_
            refine K_seq ?_
            refine K_reg [] [] ⟨[(0, (.one (.ptr 0 0 0))), (1, (.one (.d (.list (p1.map (D.int .i64)))))), (5, (I x6)), (6, (I x7)), (7, (I x8)), (8, (.one (.own 1 0 x9))), (9, (I x42.1)), (20, (I x10)), (21, (I x42.1)), (24, (I x6)), (64, (B (decide (x6 = 4))))], [.cells [.d (.list (p2.map (D.int .i64))), .d (.int .i64 x42.2.1)], .vals (.int .i64 0) (x42.2.2.map (D.int .i64))]⟩ (by kernel_rfl) trivial ?_
            rcases ite_some H with ⟨hx57, H⟩ | ⟨hx57, H⟩
            · refine K_t rfl (decide_eq_true hx57) ?_
              obtain ⟨x58, hx58, H⟩ := bind_some' H
              obtain ⟨hx59, H⟩ := guard_some H
              refine K_reg [.n p1.length, .l [.int .i64 x58], .l ((x42.2.2.set (0 + x42.1.toNat) x58).map (D.int .i64))] [((p1.map (D.int .i64))).length = p1.length, (0 : Int) ≤ (w64 ((w64 ((p1.length : Int) - 1)) - x42.1)) ∧ (w64 ((w64 ((p1.length : Int) - 1)) - x42.1)) < (((p1.map (D.int .i64))).length : Int), ((p1.map (D.int .i64)).getD (w64 ((w64 ((p1.length : Int) - 1)) - x42.1)).toNat (.int .i64 0)).cells = [.int .i64 x58], (0 : Int) ≤ x42.1 ∧ x42.1 < ((x9 : Nat) : Int), (x42.2.2.map (D.int .i64)).set (0 + x42.1.toNat) (elemOf (.int .i64 0) (splice ((x42.2.2.map (D.int .i64)).getD (0 + x42.1.toNat) (.int .i64 0)).cells 0 [.int .i64 x58])) = (x42.2.2.set (0 + x42.1.toNat) x58).map (D.int .i64)] ⟨[(0, (.one (.ptr 0 0 0))), (1, (.one (.d (.list (p1.map (D.int .i64)))))), (5, (I x6)), (6, (I x7)), (7, (I x8)), (8, (.one (.own 1 0 x9))), (20, (I x10)), (21, (I x42.1))], [.cells [.d (.list (p2.map (D.int .i64))), .d (.int .i64 x42.2.1)], .vals (.int .i64 0) ((x42.2.2.set (0 + x42.1.toNat) x58).map (D.int .i64))]⟩ (by kernel_rfl) (AC (List.length_map _) (AC (at_ok hx58 (D.int .i64) (.int .i64 0)).1 (AC (at_ok hx58 (D.int .i64) (.int .i64 0)).2 (AC hx59 (A1 (st_one x42.2.2 (0 + x42.1.toNat) x58 (D.int .i64) (.int .i64 0) rfl (fun _ => rfl) rfl)))))) ?_
              cases H
              exact K_end rfl
            · refine K_f rfl (decide_eq_false hx57) ?_
              refine K_seq ?_
              refine K_reg [] [] ⟨[(0, (.one (.ptr 0 0 0))), (1, (.one (.d (.list (p1.map (D.int .i64)))))), (5, (I x6)), (6, (I x7)), (7, (I x8)), (8, (.one (.own 1 0 x9))), (9, (I x42.1)), (20, (I x10)), (21, (I x42.1)), (24, (I x6)), (77, (B (decide (x6 = 5))))], [.cells [.d (.list (p2.map (D.int .i64))), .d (.int .i64 x42.2.1)], .vals (.int .i64 0) (x42.2.2.map (D.int .i64))]⟩ (by kernel_rfl) trivial ?_
              rcases ite_some H with ⟨hx60, H⟩ | ⟨hx60, H⟩
              · refine K_t rfl (decide_eq_true hx60) ?_
                obtain ⟨x61, hx61, H⟩ := bind_some' H
                obtain ⟨x62, hx62, H⟩ := bind_some' H
                obtain ⟨x63, hx63, H⟩ := bind_some' H
                obtain ⟨hx64, H⟩ := guard_some H
                refine K_reg [.r (I x61.1) [.cells [.d (.list (p2.map (D.int .i64))), .d (.int .i64 x61.2)]], .n p1.length, .r (I x62) [], .l [.int .i64 x63], .l ((x42.2.2.set (0 + x42.1.toNat) x63).map (D.int .i64))] [evF X k n_keep_Src_Range [(.one (.ptr 0 0 0)), (I (-1)), (I 1)] [.cells [.d (.list (p2.map (D.int .i64))), .d (.int .i64 x42.2.1)]] = some ((I x61.1), [.cells [.d (.list (p2.map (D.int .i64))), .d (.int .i64 x61.2)]]), ((p1.map (D.int .i64))).length = p1.length, evF X k n_keep_Mod [(I (w64 (x42.1 + x61.1))), (I (p1.length : Int))] [] = some ((I x62), []), (0 : Int) ≤ x62 ∧ x62 < (((p1.map (D.int .i64))).length : Int), ((p1.map (D.int .i64)).getD x62.toNat (.int .i64 0)).cells = [.int .i64 x63], (0 : Int) ≤ x42.1 ∧ x42.1 < ((x9 : Nat) : Int), (x42.2.2.map (D.int .i64)).set (0 + x42.1.toNat) (elemOf (.int .i64 0) (splice ((x42.2.2.map (D.int .i64)).getD (0 + x42.1.toNat) (.int .i64 0)).cells 0 [.int .i64 x63])) = (x42.2.2.set (0 + x42.1.toNat) x63).map (D.int .i64)] ⟨[(0, (.one (.ptr 0 0 0))), (1, (.one (.d (.list (p1.map (D.int .i64)))))), (5, (I x6)), (6, (I x7)), (7, (I x8)), (8, (.one (.own 1 0 x9))), (20, (I x10)), (21, (I x42.1))], [.cells [.d (.list (p2.map (D.int .i64))), .d (.int .i64 x61.2)], .vals (.int .i64 0) ((x42.2.2.set (0 + x42.1.toNat) x63).map (D.int .i64))]⟩ (by kernel_rfl) (AC (T_keep_Src_Range_ok k (-1) 1 p2 x42.2.1 x61 hx61) (AC (List.length_map _) (AC (T_keep_Mod_ok k (w64 (x42.1 + x61.1)) (p1.length : Int) x62 hx62) (AC (at_ok hx63 (D.int .i64) (.int .i64 0)).1 (AC (at_ok hx63 (D.int .i64) (.int .i64 0)).2 (AC hx64 (A1 (st_one x42.2.2 (0 + x42.1.toNat) x63 (D.int .i64) (.int .i64 0) rfl (fun _ => rfl) rfl)))))))) ?_
                cases H
                exact K_end rfl
              · refine K_f rfl (decide_eq_false hx60) ?_
                refine K_seq ?_
                refine K_reg [] [] ⟨[(0, (.one (.ptr 0 0 0))), (1, (.one (.d (.list (p1.map (D.int .i64)))))), (5, (I x6)), (6, (I x7)), (7, (I x8)), (8, (.one (.own 1 0 x9))), (9, (I x42.1)), (20, (I x10)), (21, (I x42.1)), (92, (B (decide (x6 = 6))))], [.cells [.d (.list (p2.map (D.int .i64))), .d (.int .i64 x42.2.1)], .vals (.int .i64 0) (x42.2.2.map (D.int .i64))]⟩ (by kernel_rfl) trivial ?_
                rcases ite_some H with ⟨hx65, H⟩ | ⟨hx65, H⟩
                · refine K_t rfl (decide_eq_true hx65) ?_
                  obtain ⟨hx66, H⟩ := guard_some H
                  obtain ⟨x67, hx67, H⟩ := bind_some' H
                  obtain ⟨x68, hx68, H⟩ := bind_some' H
                  refine K_reg [.l [.int .i64 x67], .r (I (imin (imax (w64 (x7 - (w64 (x67 * x8)))) (-1000)) 1000)) [], .l ((x42.2.2.set (0 + x42.1.toNat) (imin (imax (w64 (x7 - (w64 (x67 * x8)))) (-1000)) 1000)).map (D.int .i64))] [(0 : Int) ≤ x42.1 ∧ x42.1 < ((x9 : Nat) : Int), ((x42.2.2.map (D.int .i64)).getD (0 + x42.1.toNat) (.int .i64 0)).cells = [.int .i64 x67], evF X k n_keep_clip [(I (w64 (x7 - (w64 (x67 * x8)))))] [] = some ((I (imin (imax (w64 (x7 - (w64 (x67 * x8)))) (-1000)) 1000)), []), (0 : Int) ≤ x42.1 ∧ x42.1 < ((x9 : Nat) : Int), (x42.2.2.map (D.int .i64)).set (0 + x42.1.toNat) (elemOf (.int .i64 0) (splice ((x42.2.2.map (D.int .i64)).getD (0 + x42.1.toNat) (.int .i64 0)).cells 0 [.int .i64 (imin (imax (w64 (x7 - (w64 (x67 * x8)))) (-1000)) 1000)])) = (x42.2.2.set (0 + x42.1.toNat) (imin (imax (w64 (x7 - (w64 (x67 * x8)))) (-1000)) 1000)).map (D.int .i64)] ⟨[(0, (.one (.ptr 0 0 0))), (1, (.one (.d (.list (p1.map (D.int .i64)))))), (5, (I x6)), (6, (I x7)), (7, (I x8)), (8, (.one (.own 1 0 x9))), (20, (I x10)), (21, (I x42.1))], [.cells [.d (.list (p2.map (D.int .i64))), .d (.int .i64 x42.2.1)], .vals (.int .i64 0) ((x42.2.2.set (0 + x42.1.toNat) (imin (imax (w64 (x7 - (w64 (x67 * x8)))) (-1000)) 1000)).map (D.int .i64))]⟩ (by kernel_rfl) (AC hx66 (AC (ld_ok hx67 (D.int .i64) (.int .i64 0)) (AC (T_keep_clip_ok k (w64 (x7 - (w64 (x67 * x8)))) x68 hx68) (AC hx66 (A1 (st_one x42.2.2 (0 + x42.1.toNat) (imin (imax (w64 (x7 - (w64 (x67 * x8)))) (-1000)) 1000) (D.int .i64) (.int .i64 0) rfl (fun _ => rfl) rfl)))))) ?_
                  cases H
                  exact K_end rfl
                · refine K_f rfl (decide_eq_false hx65) ?_
                  refine K_gh ⟨[(0, (.one (.ptr 0 0 0))), (1, (.one (.d (.list (p1.map (D.int .i64)))))), (5, (I x6)), (6, (I x7)), (7, (I x8)), (8, (.one (.own 1 0 x9))), (20, (I x10)), (21, (I x42.1))], [.cells [.d (.list (p2.map (D.int .i64))), .d (.int .i64 x42.2.1)], .vals (.int .i64 0) (x42.2.2.map (D.int .i64))]⟩ (by kernel_rfl) ?_
                  refine K_skip ?_
                  cases H
                  exact K_end rfl
    refine K_blk ?_
    refine K_blk ?_
    refine K_reg [] [] ⟨[(0, (.one (.ptr 0 0 0))), (1, (.one (.d (.list (p1.map (D.int .i64)))))), (5, (I x6)), (6, (I x7)), (7, (I x8)), (8, (.one (.own 1 0 x9))), (20, (I x10)), (21, (I (w64 (x42.1 + 1))))], [.cells [.d (.list (p2.map (D.int .i64))), .d (.int .i64 x69.1)], .vals (.int .i64 0) (x69.2.map (D.int .i64))]⟩ (by kernel_rfl) trivial ?_
    cases H
    exact K_end rfl
  · refine K_f rfl (decide_eq_false hx43) ?_
    refine K_gh ⟨[(8, (.one (.own 1 0 x9)))], [.cells [.d (.list (p2.map (D.int .i64))), .d (.int .i64 x42.2.1)], .vals (.int .i64 0) (x42.2.2.map (D.int .i64))]⟩ (by kernel_rfl) ?_
    cases H
    exact K_exit0 rfl rfl
def T_keep_Src_Near (k : Nat) (p1 : List Int) (p2 : List Int) (p3 : Int) : Option ((List Int) × Int) := match k with
  | 0 => none
  | k + 1 => (T_keep_Src_N k 7 p2 p3).bind fun x1 => (T_keep_Src_Range k (-20) 20 p2 x1.2).bind fun x2 => (T_keep_Src_Range k 1 3 p2 x2.2).bind fun x3 => (if 0 + p1.length ≤ LIM then (loopT (T_keep_Src_Near_l1 k p1 p2 x1.1 x2.1 x3.1 (0 + p1.length) (((0 + p1.length) : Nat) : Int)) k (0, x3.2, (([].drop 0).take 0 ++ p1))).bind fun x70 => some (((x70.2.drop 0).take (0 + p1.length)), x70.1) else none)
theorem T_keep_Src_Near_ok (k : Nat) (p1 : List Int) (p2 : List Int) (p3 : Int) (r : (List Int) × Int) : T_keep_Src_Near k p1 p2 p3 = some r → evF X k n_keep_Src_Near [(.one (.ptr 0 0 0)), (.one (.d (.list (p1.map (D.int .i64)))))] [.cells [.d (.list (p2.map (D.int .i64))), .d (.int .i64 p3)]] = some ((.one (.d (.list (r.1.map (D.int .i64))))), [.cells [.d (.list (p2.map (D.int .i64))), .d (.int .i64 r.2)]]) := by
  intro H
  cases k with
  | zero => simp [T_keep_Src_Near] at H
  | succ k =>
    simp only [T_keep_Src_Near] at H
    refine F_in X_keep_Src_Near rfl ?_
    refine K_seq ?_
    refine K_reg [] [] ⟨[(0, (.one (.ptr 0 0 0))), (1, (.one (.d (.list (p1.map (D.int .i64))))))], [.cells [.d (.list (p2.map (D.int .i64))), .d (.int .i64 p3)]]⟩ (by kernel_rfl) trivial ?_
    refine K_seq ?_
    obtain ⟨x1, hx1, H⟩ := bind_some' H
    obtain ⟨x2, hx2, H⟩ := bind_some' H
    obtain ⟨x3, hx3, H⟩ := bind_some' H
    refine K_reg [.r (I x1.1) [.cells [.d (.list (p2.map (D.int .i64))), .d (.int .i64 x1.2)]], .r (I x2.1) [.cells [.d (.list (p2.map (D.int .i64))), .d (.int .i64 x2.2)]], .r (I x3.1) [.cells [.d (.list (p2.map (D.int .i64))), .d (.int .i64 x3.2)]]] [evF X k n_keep_Src_N [(.one (.ptr 0 0 0)), (I 7)] [.cells [.d (.list (p2.map (D.int .i64))), .d (.int .i64 p3)]] = some ((I x1.1), [.cells [.d (.list (p2.map (D.int .i64))), .d (.int .i64 x1.2)]]), evF X k n_keep_Src_Range [(.one (.ptr 0 0 0)), (I (-20)), (I 20)] [.cells [.d (.list (p2.map (D.int .i64))), .d (.int .i64 x1.2)]] = some ((I x2.1), [.cells [.d (.list (p2.map (D.int .i64))), .d (.int .i64 x2.2)]]), evF X k n_keep_Src_Range [(.one (.ptr 0 0 0)), (I 1), (I 3)] [.cells [.d (.list (p2.map (D.int .i64))), .d (.int .i64 x2.2)]] = some ((I x3.1), [.cells [.d (.list (p2.map (D.int .i64))), .d (.int .i64 x3.2)]])] ⟨[(0, (.one (.ptr 0 0 0))), (1, (.one (.d (.list (p1.map (D.int .i64)))))), (5, (I x1.1)), (6, (I x2.1)), (7, (I x3.1))], [.cells [.d (.list (p2.map (D.int .i64))), .d (.int .i64 x3.2)]]⟩ (by kernel_rfl) (AC (T_keep_Src_N_ok k 7 p2 p3 x1 hx1) (AC (T_keep_Src_Range_ok k (-20) 20 p2 x1.2 x2 hx2) (A1 (T_keep_Src_Range_ok k 1 3 p2 x2.2 x3 hx3)))) ?_
    refine K_seq ?_
    obtain ⟨hx4, H⟩ := guard_some H
    refine K_reg [.n p1.length, .l ((([].drop 0).take 0 ++ p1).map (D.int .i64))] [(List.all (p1.map (D.int .i64)) fun d => d.cells.length == (D.cells (.int .i64 0)).length) = true, 0 + p1.length ≤ LIM, (p1.map (D.int .i64)).length = p1.length, (([].map (D.int .i64)).drop 0).take 0 ++ (p1.map (D.int .i64)) = (([].drop 0).take 0 ++ p1).map (D.int .i64)] ⟨[(0, (.one (.ptr 0 0 0))), (1, (.one (.d (.list (p1.map (D.int .i64)))))), (5, (I x1.1)), (6, (I x2.1)), (7, (I x3.1)), (8, (.one (.own 1 0 (0 + p1.length))))], [.cells [.d (.list (p2.map (D.int .i64))), .d (.int .i64 x3.2)], .vals (.int .i64 0) ((([].drop 0).take 0 ++ p1).map (D.int .i64))]⟩ (by kernel_rfl) (AC (all_ok (D.int .i64) 1 p1 (fun _ => rfl)) (AC hx4 (AC (by simp) (A1 (ap_map (D.int .i64) [] p1 0 0))))) ?_
    refine K_seq ?_
    refine K_seq ?_
    refine K_reg [] [] ⟨[(0, (.one (.ptr 0 0 0))), (1, (.one (.d (.list (p1.map (D.int .i64)))))), (5, (I x1.1)), (6, (I x2.1)), (7, (I x3.1)), (8, (.one (.own 1 0 (0 + p1.length)))), (20, (I (((0 + p1.length) : Nat) : Int))), (21, (I 0))], [.cells [.d (.list (p2.map (D.int .i64))), .d (.int .i64 x3.2)], .vals (.int .i64 0) ((([].drop 0).take 0 ++ p1).map (D.int .i64))]⟩ (by kernel_rfl) trivial ?_
    refine K_block ?_
    obtain ⟨x70, hx70, H⟩ := bind_some' H
    refine K_loop ⟨[(8, (.one (.own 1 0 (0 + p1.length))))], [.cells [.d (.list (p2.map (D.int .i64))), .d (.int .i64 x70.1)], .vals (.int .i64 0) (x70.2.map (D.int .i64))]⟩ (loop_ok (fun (s : Int × Int × (List Int)) => ⟨[(0, (.one (.ptr 0 0 0))), (1, (.one (.d (.list (p1.map (D.int .i64)))))), (5, (I x1.1)), (6, (I x2.1)), (7, (I x3.1)), (8, (.one (.own 1 0 (0 + p1.length)))), (20, (I (((0 + p1.length) : Nat) : Int))), (21, (I s.1))], [.cells [.d (.list (p2.map (D.int .i64))), .d (.int .i64 s.2.1)], .vals (.int .i64 0) (s.2.2.map (D.int .i64))]⟩) (fun (r : (Int × (List Int))) => (.exit 0, ⟨[(8, (.one (.own 1 0 (0 + p1.length))))], [.cells [.d (.list (p2.map (D.int .i64))), .d (.int .i64 r.1)], .vals (.int .i64 0) (r.2.map (D.int .i64))]⟩)) (fun r h => by cases h) (T_keep_Src_Near_l1_ok k p1 p2 x1.1 x2.1 x3.1 (0 + p1.length) (((0 + p1.length) : Nat) : Int)) k (0, x3.2, (([].drop 0).take 0 ++ p1)) x70 hx70) rfl ?_
    refine K_seq ?_
    refine K_reg [] [] ⟨[(4, (.one (.own 1 0 (0 + p1.length))))], [.cells [.d (.list (p2.map (D.int .i64))), .d (.int .i64 x70.1)], .vals (.int .i64 0) (x70.2.map (D.int .i64))]⟩ (by kernel_rfl) trivial ?_
    refine K_gh ⟨[(4, (.one (.own 1 0 (0 + p1.length))))], [.cells [.d (.list (p2.map (D.int .i64))), .d (.int .i64 x70.1)], .vals (.int .i64 0) (x70.2.map (D.int .i64))]⟩ (by kernel_rfl) ?_
    cases H
    refine K_ret ?_
    exact Eq.trans (b := some ((.one (.d (.list (((x70.2.map (D.int .i64)).drop 0).take (0 + p1.length))))), [.cells [.d (.list (p2.map (D.int .i64))), .d (.int .i64 x70.1)]])) (by kernel_rfl) (by simp only [dt_map])
def T_keep_Src_Pair (k : Nat) (p1 : List Int) (p2 : Int) : Option ((List Int) × (List Int) × Int) := match k with
  | 0 => none
  | k + 1 => ((T_keep_Src_Length k p1 p2).bind fun x1 => (T_keep_Src_List k x1.1 p1 x1.2).bind fun x2 => (T_keep_Src_N k 3 p1 x2.2).bind fun x3 => (if x3.1 = 0 then ((T_keep_Src_List k (x2.1.length : Int) p1 x3.2).bind fun x5 => some (x2.1, x5.1, x5.2)) else ((T_keep_Src_Near k x2.1 p1 x3.2).bind fun x6 => some (x2.1, x6.1, x6.2))))
theorem T_keep_Src_Pair_ok (k : Nat) (p1 : List Int) (p2 : Int) (r : (List Int) × (List Int) × Int) : T_keep_Src_Pair k p1 p2 = some r → evF X k n_keep_Src_Pair [(.one (.ptr 0 0 0))] [.cells [.d (.list (p1.map (D.int .i64))), .d (.int .i64 p2)]] = some ((.tup [(false, [.d (.list (r.1.map (D.int .i64)))]), (false, [.d (.list (r.2.1.map (D.int .i64)))])]), [.cells [.d (.list (p1.map (D.int .i64))), .d (.int .i64 r.2.2)]]) := by
  intro H
  cases k with
  | zero => simp [T_keep_Src_Pair] at H
  | succ k =>
    simp only [T_keep_Src_Pair] at H
    refine F_in X_keep_Src_Pair rfl ?_
    refine K_seq ?_
    refine K_reg [] [] ⟨[(0, (.one (.ptr 0 0 0)))], [.cells [.d (.list (p1.map (D.int .i64))), .d (.int .i64 p2)]]⟩ (by kernel_rfl) trivial ?_
    refine K_seq ?_
    obtain ⟨x1, hx1, H⟩ := bind_some' H
    obtain ⟨x2, hx2, H⟩ := bind_some' H
    refine K_reg [.r (I x1.1) [.cells [.d (.list (p1.map (D.int .i64))), .d (.int .i64 x1.2)]], .r (.one (.d (.list (x2.1.map (D.int .i64))))) [.cells [.d (.list (p1.map (D.int .i64))), .d (.int .i64 x2.2)]]] [evF X k n_keep_Src_Length [(.one (.ptr 0 0 0))] [.cells [.d (.list (p1.map (D.int .i64))), .d (.int .i64 p2)]] = some ((I x1.1), [.cells [.d (.list (p1.map (D.int .i64))), .d (.int .i64 x1.2)]]), evF X k n_keep_Src_List [(.one (.ptr 0 0 0)), (I x1.1)] [.cells [.d (.list (p1.map (D.int .i64))), .d (.int .i64 x1.2)]] = some ((.one (.d (.list (x2.1.map (D.int .i64))))), [.cells [.d (.list (p1.map (D.int .i64))), .d (.int .i64 x2.2)]])] ⟨[(0, (.one (.ptr 0 0 0))), (4, (.one (.d (.list (x2.1.map (D.int .i64))))))], [.cells [.d (.list (p1.map (D.int .i64))), .d (.int .i64 x2.2)]]⟩ (by kernel_rfl) (AC (T_keep_Src_Length_ok k p1 p2 x1 hx1) (A1 (T_keep_Src_List_ok k x1.1 p1 x1.2 x2 hx2))) ?_
    refine K_seq ?_
    refine K_seq ?_
    obtain ⟨x3, hx3, H⟩ := bind_some' H
    refine K_reg [.r (I x3.1) [.cells [.d (.list (p1.map (D.int .i64))), .d (.int .i64 x3.2)]]] [evF X k n_keep_Src_N [(.one (.ptr 0 0 0)), (I 3)] [.cells [.d (.list (p1.map (D.int .i64))), .d (.int .i64 x2.2)]] = some ((I x3.1), [.cells [.d (.list (p1.map (D.int .i64))), .d (.int .i64 x3.2)]])] ⟨[(0, (.one (.ptr 0 0 0))), (4, (.one (.d (.list (x2.1.map (D.int .i64)))))), (11, (B (decide (x3.1 = 0))))], [.cells [.d (.list (p1.map (D.int .i64))), .d (.int .i64 x3.2)]]⟩ (by kernel_rfl) (A1 (T_keep_Src_N_ok k 3 p1 x2.2 x3 hx3)) ?_
    rcases ite_some H with ⟨hx4, H⟩ | ⟨hx4, H⟩
    · refine K_t rfl (decide_eq_true hx4) ?_
      refine K_seq ?_
      obtain ⟨x5, hx5, H⟩ := bind_some' H
      refine K_reg [.n x2.1.length, .r (.one (.d (.list (x5.1.map (D.int .i64))))) [.cells [.d (.list (p1.map (D.int .i64))), .d (.int .i64 x5.2)]]] [((x2.1.map (D.int .i64))).length = x2.1.length, evF X k n_keep_Src_List [(.one (.ptr 0 0 0)), (I (x2.1.length : Int))] [.cells [.d (.list (p1.map (D.int .i64))), .d (.int .i64 x3.2)]] = some ((.one (.d (.list (x5.1.map (D.int .i64))))), [.cells [.d (.list (p1.map (D.int .i64))), .d (.int .i64 x5.2)]])] ⟨[(2, (.one (.d (.list (x2.1.map (D.int .i64)))))), (3, (.one (.d (.list (x5.1.map (D.int .i64))))))], [.cells [.d (.list (p1.map (D.int .i64))), .d (.int .i64 x5.2)]]⟩ (by kernel_rfl) (AC (List.length_map _) (A1 (T_keep_Src_List_ok k (x2.1.length : Int) p1 x3.2 x5 hx5))) ?_
      refine K_gh ⟨[(2, (.one (.d (.list (x2.1.map (D.int .i64)))))), (3, (.one (.d (.list (x5.1.map (D.int .i64))))))], [.cells [.d (.list (p1.map (D.int .i64))), .d (.int .i64 x5.2)]]⟩ (by kernel_rfl) ?_
      cases H
      refine K_ret ?_
      kernel_rfl
    · refine K_f rfl (decide_eq_false hx4) ?_
      refine K_gh ⟨[(0, (.one (.ptr 0 0 0))), (4, (.one (.d (.list (x2.1.map (D.int .i64))))))], [.cells [.d (.list (p1.map (D.int .i64))), .d (.int .i64 x3.2)]]⟩ (by kernel_rfl) ?_
      refine K_skip ?_
      refine K_seq ?_
      obtain ⟨x6, hx6, H⟩ := bind_some' H
      refine K_reg [.r (.one (.d (.list (x6.1.map (D.int .i64))))) [.cells [.d (.list (p1.map (D.int .i64))), .d (.int .i64 x6.2)]]] [evF X k n_keep_Src_Near [(.one (.ptr 0 0 0)), (.one (.d (.list (x2.1.map (D.int .i64)))))] [.cells [.d (.list (p1.map (D.int .i64))), .d (.int .i64 x3.2)]] = some ((.one (.d (.list (x6.1.map (D.int .i64))))), [.cells [.d (.list (p1.map (D.int .i64))), .d (.int .i64 x6.2)]])] ⟨[(2, (.one (.d (.list (x2.1.map (D.int .i64)))))), (3, (.one (.d (.list (x6.1.map (D.int .i64))))))], [.cells [.d (.list (p1.map (D.int .i64))), .d (.int .i64 x6.2)]]⟩ (by kernel_rfl) (A1 (T_keep_Src_Near_ok k x2.1 p1 x3.2 x6 hx6)) ?_
      refine K_gh ⟨[(2, (.one (.d (.list (x2.1.map (D.int .i64)))))), (3, (.one (.d (.list (x6.1.map (D.int .i64))))))], [.cells [.d (.list (p1.map (D.int .i64))), .d (.int .i64 x6.2)]]⟩ (by kernel_rfl) ?_
      cases H
      refine K_ret ?_
      kernel_rfl
def T_law18_count (k : Nat) (p1 : Int) (p2 : List Int) (p3 : Int) : Option (Int × Int) := match k with
  | 0 => none
  | k + 1 => ((T_keep_Src_Range k 1 (imin 8 p1) p2 p3).bind fun x1 => some (x1.1, x1.2))
theorem T_law18_count_ok (k : Nat) (p1 : Int) (p2 : List Int) (p3 : Int) (r : Int × Int) : T_law18_count k p1 p2 p3 = some r → evF X k n_law18_count [(.one (.ptr 0 0 0)), (I p1)] [.cells [.d (.list (p2.map (D.int .i64))), .d (.int .i64 p3)]] = some ((I r.1), [.cells [.d (.list (p2.map (D.int .i64))), .d (.int .i64 r.2)]]) := by
  intro H
  cases k with
  | zero => simp [T_law18_count] at H
  | succ k =>
    simp only [T_law18_count] at H
    refine F_in X_law18_count rfl ?_
    refine K_seq ?_
    refine K_reg [] [] ⟨[(0, (.one (.ptr 0 0 0))), (1, (I p1))], [.cells [.d (.list (p2.map (D.int .i64))), .d (.int .i64 p3)]]⟩ (by kernel_rfl) trivial ?_
    refine K_seq ?_
    obtain ⟨x1, hx1, H⟩ := bind_some' H
    refine K_reg [.r (I x1.1) [.cells [.d (.list (p2.map (D.int .i64))), .d (.int .i64 x1.2)]]] [evF X k n_keep_Src_Range [(.one (.ptr 0 0 0)), (I 1), (I (imin 8 p1))] [.cells [.d (.list (p2.map (D.int .i64))), .d (.int .i64 p3)]] = some ((I x1.1), [.cells [.d (.list (p2.map (D.int .i64))), .d (.int .i64 x1.2)]])] ⟨[(4, (I x1.1))], [.cells [.d (.list (p2.map (D.int .i64))), .d (.int .i64 x1.2)]]⟩ (by kernel_rfl) (A1 (T_keep_Src_Range_ok k 1 (imin 8 p1) p2 p3 x1 hx1)) ?_
    refine K_gh ⟨[(4, (I x1.1))], [.cells [.d (.list (p2.map (D.int .i64))), .d (.int .i64 x1.2)]]⟩ (by kernel_rfl) ?_
    cases H
    refine K_ret ?_
    kernel_rfl
def T_keep_Src_Bent_l1 (k : Nat) (p2 : List Int) (x14 : Nat × Int × (List Int)) : Option ((Nat × Int × (List Int)) ⊕ ((Nat × Int × (List Int)))) :=
  (if ((x14.1 : Nat) : Int) ≤ 32 then (T_keep_Src_N k 9 p2 x14.2.1).bind fun x16 => (if x14.1 + 1 ≤ LIM then some (.inl ((x14.1 + 1), x16.2, ((x14.2.2.drop 0).take x14.1 ++ ([x16.1] : List Int)))) else none) else some (.inr (x14.1, x14.2.1, x14.2.2)))
theorem T_keep_Src_Bent_l1_ok (k : Nat) (p2 : List Int) : ∀ (x14 : Nat × Int × (List Int)) (x : (Nat × Int × (List Int)) ⊕ ((Nat × Int × (List Int)))), T_keep_Src_Bent_l1 k p2 x14 = some x → evC X (evF X k) k 1 l_keep_Src_Bent_1 ⟨[(0, (.one (.ptr 0 0 0))), (5, (.one (.own 1 0 x14.1)))], [.cells [.d (.list (p2.map (D.int .i64))), .d (.int .i64 x14.2.1)], .vals (.int .i64 0) (x14.2.2.map (D.int .i64))]⟩ = some (outS (fun (s : Nat × Int × (List Int)) => ⟨[(0, (.one (.ptr 0 0 0))), (5, (.one (.own 1 0 s.1)))], [.cells [.d (.list (p2.map (D.int .i64))), .d (.int .i64 s.2.1)], .vals (.int .i64 0) (s.2.2.map (D.int .i64))]⟩) (fun (r : (Nat × Int × (List Int))) => (.exit 1, ⟨[(5, (.one (.own 1 0 r.1)))], [.cells [.d (.list (p2.map (D.int .i64))), .d (.int .i64 r.2.1)], .vals (.int .i64 0) (r.2.2.map (D.int .i64))]⟩)) x) := by
  intro x14 x H
  unfold T_keep_Src_Bent_l1 at H
  refine K_in ?_
  refine K_seq ?_
  refine K_seq ?_
  refine K_reg [] [] ⟨[(0, (.one (.ptr 0 0 0))), (5, (.one (.own 1 0 x14.1))), (36, (B (decide (((x14.1 : Nat) : Int) ≤ 32))))], [.cells [.d (.list (p2.map (D.int .i64))), .d (.int .i64 x14.2.1)], .vals (.int .i64 0) (x14.2.2.map (D.int .i64))]⟩ (by kernel_rfl) trivial ?_
  rcases ite_some H with ⟨hx15, H⟩ | ⟨hx15, H⟩
  · refine K_t rfl (decide_eq_true hx15) ?_
    refine K_gh ⟨[(0, (.one (.ptr 0 0 0))), (5, (.one (.own 1 0 x14.1)))], [.cells [.d (.list (p2.map (D.int .i64))), .d (.int .i64 x14.2.1)], .vals (.int .i64 0) (x14.2.2.map (D.int .i64))]⟩ (by kernel_rfl) ?_
    refine K_skip ?_
    refine K_block ?_
    obtain ⟨x16, hx16, H⟩ := bind_some' H
    obtain ⟨hx17, H⟩ := guard_some H
    refine K_reg [.r (I x16.1) [.cells [.d (.list (p2.map (D.int .i64))), .d (.int .i64 x16.2)]], .n 1, .l (((x14.2.2.drop 0).take x14.1 ++ ([x16.1] : List Int)).map (D.int .i64))] [evF X k n_keep_Src_N [(.one (.ptr 0 0 0)), (I 9)] [.cells [.d (.list (p2.map (D.int .i64))), .d (.int .i64 x14.2.1)]] = some ((I x16.1), [.cells [.d (.list (p2.map (D.int .i64))), .d (.int .i64 x16.2)]]), (List.all (([x16.1] : List Int).map (D.int .i64)) fun d => d.cells.length == (D.cells (.int .i64 0)).length) = true, x14.1 + 1 ≤ LIM, (([x16.1] : List Int).map (D.int .i64)).length = 1, ((x14.2.2.map (D.int .i64)).drop 0).take x14.1 ++ (([x16.1] : List Int).map (D.int .i64)) = ((x14.2.2.drop 0).take x14.1 ++ ([x16.1] : List Int)).map (D.int .i64)] ⟨[(0, (.one (.ptr 0 0 0))), (5, (.one (.own 1 0 (x14.1 + 1))))], [.cells [.d (.list (p2.map (D.int .i64))), .d (.int .i64 x16.2)], .vals (.int .i64 0) (((x14.2.2.drop 0).take x14.1 ++ ([x16.1] : List Int)).map (D.int .i64))]⟩ (by kernel_rfl) (AC (T_keep_Src_N_ok k 9 p2 x14.2.1 x16 hx16) (AC (all_ok (D.int .i64) 1 ([x16.1] : List Int) (fun _ => rfl)) (AC hx17 (AC (by simp) (A1 (ap_map (D.int .i64) x14.2.2 ([x16.1] : List Int) 0 x14.1)))))) ?_
    refine K_blk ?_
    cases H
    exact K_end rfl
  · refine K_f rfl (decide_eq_false hx15) ?_
    refine K_gh ⟨[(5, (.one (.own 1 0 x14.1)))], [.cells [.d (.list (p2.map (D.int .i64))), .d (.int .i64 x14.2.1)], .vals (.int .i64 0) (x14.2.2.map (D.int .i64))]⟩ (by kernel_rfl) ?_
    cases H
    exact K_exit0 rfl rfl
def T_keep_Src_Bent_l2 (k : Nat) (p2 : List Int) (x34 : Nat × Int × (List Int)) : Option ((Nat × Int × (List Int)) ⊕ ((Nat × Int × (List Int)))) :=
  (if ((x34.1 : Nat) : Int) ≤ 32 then (T_keep_Src_N k 9 p2 x34.2.1).bind fun x36 => (if x34.1 + 1 ≤ LIM then some (.inl ((x34.1 + 1), x36.2, ((x34.2.2.drop 0).take x34.1 ++ ([x36.1] : List Int)))) else none) else some (.inr (x34.1, x34.2.1, x34.2.2)))
theorem T_keep_Src_Bent_l2_ok (k : Nat) (p2 : List Int) : ∀ (x34 : Nat × Int × (List Int)) (x : (Nat × Int × (List Int)) ⊕ ((Nat × Int × (List Int)))), T_keep_Src_Bent_l2 k p2 x34 = some x → evC X (evF X k) k 1 l_keep_Src_Bent_1 ⟨[(0, (.one (.ptr 0 0 0))), (5, (.one (.own 1 0 x34.1)))], [.cells [.d (.list (p2.map (D.int .i64))), .d (.int .i64 x34.2.1)], .vals (.int .i64 0) (x34.2.2.map (D.int .i64))]⟩ = some (outS (fun (s : Nat × Int × (List Int)) => ⟨[(0, (.one (.ptr 0 0 0))), (5, (.one (.own 1 0 s.1)))], [.cells [.d (.list (p2.map (D.int .i64))), .d (.int .i64 s.2.1)], .vals (.int .i64 0) (s.2.2.map (D.int .i64))]⟩) (fun (r : (Nat × Int × (List Int))) => (.exit 1, ⟨[(5, (.one (.own 1 0 r.1)))], [.cells [.d (.list (p2.map (D.int .i64))), .d (.int .i64 r.2.1)], .vals (.int .i64 0) (r.2.2.map (D.int .i64))]⟩)) x) := by
  intro x34 x H
  unfold T_keep_Src_Bent_l2 at H
  refine K_in ?_
  refine K_seq ?_
  refine K_seq ?_
  refine K_reg [] [] ⟨[(0, (.one (.ptr 0 0 0))), (5, (.one (.own 1 0 x34.1))), (36, (B (decide (((x34.1 : Nat) : Int) ≤ 32))))], [.cells [.d (.list (p2.map (D.int .i64))), .d (.int .i64 x34.2.1)], .vals (.int .i64 0) (x34.2.2.map (D.int .i64))]⟩ (by kernel_rfl) trivial ?_
  rcases ite_some H with ⟨hx35, H⟩ | ⟨hx35, H⟩
  · refine K_t rfl (decide_eq_true hx35) ?_
    refine K_gh ⟨[(0, (.one (.ptr 0 0 0))), (5, (.one (.own 1 0 x34.1)))], [.cells [.d (.list (p2.map (D.int .i64))), .d (.int .i64 x34.2.1)], .vals (.int .i64 0) (x34.2.2.map (D.int .i64))]⟩ (by kernel_rfl) ?_
    refine K_skip ?_
    refine K_block ?_
    obtain ⟨x36, hx36, H⟩ := bind_some' H
    obtain ⟨hx37, H⟩ := guard_some H
    refine K_reg [.r (I x36.1) [.cells [.d (.list (p2.map (D.int .i64))), .d (.int .i64 x36.2)]], .n 1, .l (((x34.2.2.drop 0).take x34.1 ++ ([x36.1] : List Int)).map (D.int .i64))] [evF X k n_keep_Src_N [(.one (.ptr 0 0 0)), (I 9)] [.cells [.d (.list (p2.map (D.int .i64))), .d (.int .i64 x34.2.1)]] = some ((I x36.1), [.cells [.d (.list (p2.map (D.int .i64))), .d (.int .i64 x36.2)]]), (List.all (([x36.1] : List Int).map (D.int .i64)) fun d => d.cells.length == (D.cells (.int .i64 0)).length) = true, x34.1 + 1 ≤ LIM, (([x36.1] : List Int).map (D.int .i64)).length = 1, ((x34.2.2.map (D.int .i64)).drop 0).take x34.1 ++ (([x36.1] : List Int).map (D.int .i64)) = ((x34.2.2.drop 0).take x34.1 ++ ([x36.1] : List Int)).map (D.int .i64)] ⟨[(0, (.one (.ptr 0 0 0))), (5, (.one (.own 1 0 (x34.1 + 1))))], [.cells [.d (.list (p2.map (D.int .i64))), .d (.int .i64 x36.2)], .vals (.int .i64 0) (((x34.2.2.drop 0).take x34.1 ++ ([x36.1] : List Int)).map (D.int .i64))]⟩ (by kernel_rfl) (AC (T_keep_Src_N_ok k 9 p2 x34.2.1 x36 hx36) (AC (all_ok (D.int .i64) 1 ([x36.1] : List Int) (fun _ => rfl)) (AC hx37 (AC (by simp) (A1 (ap_map (D.int .i64) x34.2.2 ([x36.1] : List Int) 0 x34.1)))))) ?_
    refine K_blk ?_
    cases H
    exact K_end rfl
  · refine K_f rfl (decide_eq_false hx35) ?_
    refine K_gh ⟨[(5, (.one (.own 1 0 x34.1)))], [.cells [.d (.list (p2.map (D.int .i64))), .d (.int .i64 x34.2.1)], .vals (.int .i64 0) (x34.2.2.map (D.int .i64))]⟩ (by kernel_rfl) ?_
    cases H
    exact K_exit0 rfl rfl
def T_keep_Src_Bent (k : Nat) (p1 : List Int) (p2 : List Int) (p3 : Int) : Option ((List Int) × Int) := match k with
  | 0 => none
  | k + 1 => (if 0 + p1.length ≤ LIM then (T_keep_Src_N k 4 p2 p3).bind fun x2 => (if x2.1 = 0 then (T_keep_Src_N k 2 p2 x2.2).bind fun x24 => (if (0 : Int) ≤ 0 ∧ 0 ≤ (imin (((0 + p1.length) : Nat) : Int) x24.1) ∧ (imin (((0 + p1.length) : Nat) : Int) x24.1) ≤ (((0 + p1.length) : Nat) : Int) ∧ (((0 + p1.length) : Nat) : Int) ≤ (((0 + p1.length) : Nat) : Int) then some ((((([].drop 0).take 0 ++ p1).drop (0 + 0)).take ((imin (((0 + p1.length) : Nat) : Int) x24.1).toNat - 0)), x24.2) else none) else (((if x2.1 = 1 then ((loopT (T_keep_Src_Bent_l2 k p2) k ((0 + p1.length), x2.2, (([].drop 0).take 0 ++ p1))).bind fun x38 => some (x38.1, x38.2.1, x38.2.2)) else (if 0 < (((0 + p1.length) : Nat) : Int) then (T_keep_Src_N k (((0 + p1.length) : Nat) : Int) p2 x2.2).bind fun x40 => (T_keep_Src_Pick k ([1000, 1001, (-1001), 1073741824, 4611686018427387904, (-9223372036854775808)] : List Int) p2 x40.2).bind fun x41 => (if (0 : Int) ≤ x40.1 ∧ x40.1 < (((0 + p1.length) : Nat) : Int) then some ((0 + p1.length), x41.2, ((([].drop 0).take 0 ++ p1).set (0 + x40.1.toNat) x41.1)) else none) else some ((0 + p1.length), x2.2, (([].drop 0).take 0 ++ p1))))).bind fun x43 => some (((x43.2.2.drop 0).take x43.1), x43.2.1))) else none)
theorem T_keep_Src_Bent_ok (k : Nat) (p1 : List Int) (p2 : List Int) (p3 : Int) (r : (List Int) × Int) : T_keep_Src_Bent k p1 p2 p3 = some r → evF X k n_keep_Src_Bent [(.one (.ptr 0 0 0)), (.one (.d (.list (p1.map (D.int .i64)))))] [.cells [.d (.list (p2.map (D.int .i64))), .d (.int .i64 p3)]] = some ((.one (.d (.list (r.1.map (D.int .i64))))), [.cells [.d (.list (p2.map (D.int .i64))), .d (.int .i64 r.2)]]) := by
  intro H
  cases k with
  | zero => simp [T_keep_Src_Bent] at H
  | succ k =>
    simp only [T_keep_Src_Bent] at H
    refine F_in X_keep_Src_Bent rfl ?_
    refine K_seq ?_
    refine K_reg [] [] ⟨[(0, (.one (.ptr 0 0 0))), (1, (.one (.d (.list (p1.map (D.int .i64))))))], [.cells [.d (.list (p2.map (D.int .i64))), .d (.int .i64 p3)]]⟩ (by kernel_rfl) trivial ?_
    refine K_seq ?_
    obtain ⟨hx1, H⟩ := guard_some H
    refine K_reg [.n p1.length, .l ((([].drop 0).take 0 ++ p1).map (D.int .i64))] [(List.all (p1.map (D.int .i64)) fun d => d.cells.length == (D.cells (.int .i64 0)).length) = true, 0 + p1.length ≤ LIM, (p1.map (D.int .i64)).length = p1.length, (([].map (D.int .i64)).drop 0).take 0 ++ (p1.map (D.int .i64)) = (([].drop 0).take 0 ++ p1).map (D.int .i64)] ⟨[(0, (.one (.ptr 0 0 0))), (5, (.one (.own 1 0 (0 + p1.length))))], [.cells [.d (.list (p2.map (D.int .i64))), .d (.int .i64 p3)], .vals (.int .i64 0) ((([].drop 0).take 0 ++ p1).map (D.int .i64))]⟩ (by kernel_rfl) (AC (all_ok (D.int .i64) 1 p1 (fun _ => rfl)) (AC hx1 (AC (by simp) (A1 (ap_map (D.int .i64) [] p1 0 0))))) ?_
    refine K_seq ?_
    refine K_seq ?_
    obtain ⟨x2, hx2, H⟩ := bind_some' H
    refine K_reg [.r (I x2.1) [.cells [.d (.list (p2.map (D.int .i64))), .d (.int .i64 x2.2)]]] [evF X k n_keep_Src_N [(.one (.ptr 0 0 0)), (I 4)] [.cells [.d (.list (p2.map (D.int .i64))), .d (.int .i64 p3)]] = some ((I x2.1), [.cells [.d (.list (p2.map (D.int .i64))), .d (.int .i64 x2.2)]])] ⟨[(0, (.one (.ptr 0 0 0))), (5, (.one (.own 1 0 (0 + p1.length)))), (10, (I x2.1))], [.cells [.d (.list (p2.map (D.int .i64))), .d (.int .i64 x2.2)], .vals (.int .i64 0) ((([].drop 0).take 0 ++ p1).map (D.int .i64))]⟩ (by kernel_rfl) (A1 (T_keep_Src_N_ok k 4 p2 p3 x2 hx2)) ?_
    refine K_block ?_
    refine K_seq ?_
    refine K_reg [] [] ⟨[(0, (.one (.ptr 0 0 0))), (5, (.one (.own 1 0 (0 + p1.length)))), (10, (I x2.1)), (23, (B (decide (x2.1 = 0))))], [.cells [.d (.list (p2.map (D.int .i64))), .d (.int .i64 x2.2)], .vals (.int .i64 0) ((([].drop 0).take 0 ++ p1).map (D.int .i64))]⟩ (by kernel_rfl) trivial ?_
    rcases ite_some H with ⟨hx23, H⟩ | ⟨hx23, H⟩
    · refine K_t rfl (decide_eq_true hx23) ?_
      refine K_seq ?_
      obtain ⟨x24, hx24, H⟩ := bind_some' H
      obtain ⟨hx25, H⟩ := guard_some H
      refine K_reg [.r (I x24.1) [.cells [.d (.list (p2.map (D.int .i64))), .d (.int .i64 x24.2)]]] [evF X k n_keep_Src_N [(.one (.ptr 0 0 0)), (I 2)] [.cells [.d (.list (p2.map (D.int .i64))), .d (.int .i64 x2.2)]] = some ((I x24.1), [.cells [.d (.list (p2.map (D.int .i64))), .d (.int .i64 x24.2)]]), (0 : Int) ≤ 0 ∧ 0 ≤ (imin (((0 + p1.length) : Nat) : Int) x24.1) ∧ (imin (((0 + p1.length) : Nat) : Int) x24.1) ≤ (((0 + p1.length) : Nat) : Int) ∧ (((0 + p1.length) : Nat) : Int) ≤ (((0 + p1.length) : Nat) : Int)] ⟨[(4, (.one (.own 1 (0 + 0) ((imin (((0 + p1.length) : Nat) : Int) x24.1).toNat - 0))))], [.cells [.d (.list (p2.map (D.int .i64))), .d (.int .i64 x24.2)], .vals (.int .i64 0) ((([].drop 0).take 0 ++ p1).map (D.int .i64))]⟩ (by kernel_rfl) (AC (T_keep_Src_N_ok k 2 p2 x2.2 x24 hx24) (A1 hx25)) ?_
      refine K_gh ⟨[(4, (.one (.own 1 (0 + 0) ((imin (((0 + p1.length) : Nat) : Int) x24.1).toNat - 0))))], [.cells [.d (.list (p2.map (D.int .i64))), .d (.int .i64 x24.2)], .vals (.int .i64 0) ((([].drop 0).take 0 ++ p1).map (D.int .i64))]⟩ (by kernel_rfl) ?_
      cases H
      refine K_ret ?_
      exact Eq.trans (b := some ((.one (.d (.list ((((([].drop 0).take 0 ++ p1).map (D.int .i64)).drop (0 + 0)).take ((imin (((0 + p1.length) : Nat) : Int) x24.1).toNat - 0))))), [.cells [.d (.list (p2.map (D.int .i64))), .d (.int .i64 x24.2)]])) (by kernel_rfl) (by simp only [dt_map])
    · refine K_f rfl (decide_eq_false hx23) ?_
      refine K_seq ?_
      refine K_reg [] [] ⟨[(0, (.one (.ptr 0 0 0))), (5, (.one (.own 1 0 (0 + p1.length)))), (32, (B (decide (x2.1 = 1))))], [.cells [.d (.list (p2.map (D.int .i64))), .d (.int .i64 x2.2)], .vals (.int .i64 0) ((([].drop 0).take 0 ++ p1).map (D.int .i64))]⟩ (by kernel_rfl) trivial ?_
      obtain ⟨x43, hx43, H⟩ := bind_some' H
      refine K_of ⟨[(5, (.one (.own 1 0 x43.1)))], [.cells [.d (.list (p2.map (D.int .i64))), .d (.int .i64 x43.2.1)], .vals (.int .i64 0) (x43.2.2.map (D.int .i64))]⟩ ?_ ?_
      · clear H; have H := hx43; clear hx43; refine K_in ?_
        rcases ite_some H with ⟨hx26, H⟩ | ⟨hx26, H⟩
        · refine K_t rfl (decide_eq_true hx26) ?_
          refine K_gh ⟨[(0, (.one (.ptr 0 0 0))), (5, (.one (.own 1 0 (0 + p1.length))))], [.cells [.d (.list (p2.map (D.int .i64))), .d (.int .i64 x2.2)], .vals (.int .i64 0) ((([].drop 0).take 0 ++ p1).map (D.int .i64))]⟩ (by kernel_rfl) ?_
          refine K_block ?_
          obtain ⟨x38, hx38, H⟩ := bind_some' H
          refine K_loop ⟨[(5, (.one (.own 1 0 x38.1)))], [.cells [.d (.list (p2.map (D.int .i64))), .d (.int .i64 x38.2.1)], .vals (.int .i64 0) (x38.2.2.map (D.int .i64))]⟩ (loop_ok (fun (s : Nat × Int × (List Int)) => ⟨[(0, (.one (.ptr 0 0 0))), (5, (.one (.own 1 0 s.1)))], [.cells [.d (.list (p2.map (D.int .i64))), .d (.int .i64 s.2.1)], .vals (.int .i64 0) (s.2.2.map (D.int .i64))]⟩) (fun (r : (Nat × Int × (List Int))) => (.exit 1, ⟨[(5, (.one (.own 1 0 r.1)))], [.cells [.d (.list (p2.map (D.int .i64))), .d (.int .i64 r.2.1)], .vals (.int .i64 0) (r.2.2.map (D.int .i64))]⟩)) (fun r h => by cases h) (T_keep_Src_Bent_l2_ok k p2) k ((0 + p1.length), x2.2, (([].drop 0).take 0 ++ p1)) x38 hx38) rfl ?_
          cases H
          exact K_end rfl
        · refine K_f rfl (decide_eq_false hx26) ?_
          refine K_seq ?_
          refine K_reg [] [] ⟨[(0, (.one (.ptr 0 0 0))), (5, (.one (.own 1 0 (0 + p1.length)))), (13, (B (decide (0 < (((0 + p1.length) : Nat) : Int)))))], [.cells [.d (.list (p2.map (D.int .i64))), .d (.int .i64 x2.2)], .vals (.int .i64 0) ((([].drop 0).take 0 ++ p1).map (D.int .i64))]⟩ (by kernel_rfl) trivial ?_
          rcases ite_some H with ⟨hx39, H⟩ | ⟨hx39, H⟩
          · refine K_t rfl (decide_eq_true hx39) ?_
            obtain ⟨x40, hx40, H⟩ := bind_some' H
            obtain ⟨x41, hx41, H⟩ := bind_some' H
            obtain ⟨hx42, H⟩ := guard_some H
            refine K_reg [.r (I x40.1) [.cells [.d (.list (p2.map (D.int .i64))), .d (.int .i64 x40.2)]], .r (I x41.1) [.cells [.d (.list (p2.map (D.int .i64))), .d (.int .i64 x41.2)]], .l (((([].drop 0).take 0 ++ p1).set (0 + x40.1.toNat) x41.1).map (D.int .i64))] [evF X k n_keep_Src_N [(.one (.ptr 0 0 0)), (I (((0 + p1.length) : Nat) : Int))] [.cells [.d (.list (p2.map (D.int .i64))), .d (.int .i64 x2.2)]] = some ((I x40.1), [.cells [.d (.list (p2.map (D.int .i64))), .d (.int .i64 x40.2)]]), evF X k n_keep_Src_Pick [(.one (.ptr 0 0 0)), (.one (.d (.list (([1000, 1001, (-1001), 1073741824, 4611686018427387904, (-9223372036854775808)] : List Int).map (D.int .i64)))))] [.cells [.d (.list (p2.map (D.int .i64))), .d (.int .i64 x40.2)]] = some ((I x41.1), [.cells [.d (.list (p2.map (D.int .i64))), .d (.int .i64 x41.2)]]), (0 : Int) ≤ x40.1 ∧ x40.1 < (((0 + p1.length) : Nat) : Int), ((([].drop 0).take 0 ++ p1).map (D.int .i64)).set (0 + x40.1.toNat) (elemOf (.int .i64 0) (splice (((([].drop 0).take 0 ++ p1).map (D.int .i64)).getD (0 + x40.1.toNat) (.int .i64 0)).cells 0 [.int .i64 x41.1])) = ((([].drop 0).take 0 ++ p1).set (0 + x40.1.toNat) x41.1).map (D.int .i64)] ⟨[(5, (.one (.own 1 0 (0 + p1.length))))], [.cells [.d (.list (p2.map (D.int .i64))), .d (.int .i64 x41.2)], .vals (.int .i64 0) (((([].drop 0).take 0 ++ p1).set (0 + x40.1.toNat) x41.1).map (D.int .i64))]⟩ (by kernel_rfl) (AC (T_keep_Src_N_ok k (((0 + p1.length) : Nat) : Int) p2 x2.2 x40 hx40) (AC (T_keep_Src_Pick_ok k ([1000, 1001, (-1001), 1073741824, 4611686018427387904, (-9223372036854775808)] : List Int) p2 x40.2 x41 hx41) (AC hx42 (A1 (st_one (([].drop 0).take 0 ++ p1) (0 + x40.1.toNat) x41.1 (D.int .i64) (.int .i64 0) rfl (fun _ => rfl) rfl))))) ?_
            cases H
            exact K_end rfl
          · refine K_f rfl (decide_eq_false hx39) ?_
            refine K_gh ⟨[(5, (.one (.own 1 0 (0 + p1.length))))], [.cells [.d (.list (p2.map (D.int .i64))), .d (.int .i64 x2.2)], .vals (.int .i64 0) ((([].drop 0).take 0 ++ p1).map (D.int .i64))]⟩ (by kernel_rfl) ?_
            refine K_skip ?_
            cases H
            exact K_end rfl
      refine K_blk ?_
      refine K_seq ?_
      refine K_reg [] [] ⟨[(4, (.one (.own 1 0 x43.1)))], [.cells [.d (.list (p2.map (D.int .i64))), .d (.int .i64 x43.2.1)], .vals (.int .i64 0) (x43.2.2.map (D.int .i64))]⟩ (by kernel_rfl) trivial ?_
      refine K_gh ⟨[(4, (.one (.own 1 0 x43.1)))], [.cells [.d (.list (p2.map (D.int .i64))), .d (.int .i64 x43.2.1)], .vals (.int .i64 0) (x43.2.2.map (D.int .i64))]⟩ (by kernel_rfl) ?_
      cases H
      refine K_ret ?_
      exact Eq.trans (b := some ((.one (.d (.list (((x43.2.2.map (D.int .i64)).drop 0).take x43.1)))), [.cells [.d (.list (p2.map (D.int .i64))), .d (.int .i64 x43.2.1)]])) (by kernel_rfl) (by simp only [dt_map])
def T_ref04_Sample (k : Nat) (p1 : Int) : Option Unit := match k with
  | 0 => none
  | k + 1 => some ()
theorem T_ref04_Sample_ok (k : Nat) (p1 : Int) (r : Unit) : T_ref04_Sample k p1 = some r → evF X k n_ref04_Sample [(I p1)] [] = some ((B (decide ((-1000) ≤ p1) && decide (p1 ≤ 1000))), []) := by
  intro H
  cases k with
  | zero => simp [T_ref04_Sample] at H
  | succ k =>
    simp only [T_ref04_Sample] at H
    refine F_in X_ref04_Sample rfl ?_
    refine K_seq ?_
    refine K_reg [] [] ⟨[(0, (I p1))], []⟩ (by kernel_rfl) trivial ?_
    refine K_seq ?_
    refine K_reg [.m] [([] : Heap) = []] ⟨[(2, (B (decide ((-1000) ≤ p1) && decide (p1 ≤ 1000))))], []⟩ (by kernel_rfl) (A1 rfl) ?_
    refine K_gh ⟨[(2, (B (decide ((-1000) ≤ p1) && decide (p1 ≤ 1000))))], []⟩ (by kernel_rfl) ?_
    cases H
    refine K_ret ?_
    kernel_rfl
def T_ref12_Samples_l1 (k : Nat) (p1 : List Int) (x2 : Int) (x8 : Int) : Option (Int ⊕ (Unit ⊕ Unit)) :=
  (if x8 < x2 then ((at? p1 x8).bind fun x10 => (T_ref04_Sample k x10).bind fun x11 => (if (!(decide ((-1000) ≤ x10) && decide (x10 ≤ 1000))) = true then some (.inr (.inr ())) else some (.inl (w64 (x8 + 1))))) else some (.inr (.inl ())))
theorem T_ref12_Samples_l1_ok (k : Nat) (p1 : List Int) (x2 : Int) : ∀ (x8 : Int) (x : Int ⊕ (Unit ⊕ Unit)), T_ref12_Samples_l1 k p1 x2 x8 = some x → evC X (evF X k) k 0 l_ref12_Samples_1 ⟨[(0, (.one (.d (.list (p1.map (D.int .i64)))))), (5, (I x2)), (6, (I x8))], []⟩ = some (outS (fun (s : Int) => ⟨[(0, (.one (.d (.list (p1.map (D.int .i64)))))), (5, (I x2)), (6, (I s))], []⟩) (fun (r : Unit ⊕ Unit) => Sum.elim (fun y => (.exit 0, ⟨[], []⟩)) (fun y => (.ret, ⟨[(2, (I 12))], []⟩)) r) x) := by
  intro x8 x H
  unfold T_ref12_Samples_l1 at H
  refine K_in ?_
  refine K_seq ?_
  refine K_reg [] [] ⟨[(0, (.one (.d (.list (p1.map (D.int .i64)))))), (5, (I x2)), (6, (I x8)), (7, (B (decide (x8 < x2))))], []⟩ (by kernel_rfl) trivial ?_
  refine K_seq ?_
  rcases ite_some H with ⟨hx9, H⟩ | ⟨hx9, H⟩
  · refine K_t rfl (decide_eq_true hx9) ?_
    refine K_gh ⟨[(0, (.one (.d (.list (p1.map (D.int .i64)))))), (5, (I x2)), (6, (I x8))], []⟩ (by kernel_rfl) ?_
    refine K_skip ?_
    refine K_seq ?_
    refine K_block ?_
    refine K_seq ?_
    refine K_reg [] [] ⟨[(0, (.one (.d (.list (p1.map (D.int .i64)))))), (3, (I x8)), (5, (I x2)), (6, (I x8))], []⟩ (by kernel_rfl) trivial ?_
    refine K_seq ?_
    obtain ⟨x10, hx10, H⟩ := bind_some' H
    obtain ⟨x11, hx11, H⟩ := bind_some' H
    refine K_reg [.l [.int .i64 x10], .r (B (decide ((-1000) ≤ x10) && decide (x10 ≤ 1000))) []] [(0 : Int) ≤ x8 ∧ x8 < (((p1.map (D.int .i64))).length : Int), ((p1.map (D.int .i64)).getD x8.toNat (.int .i64 0)).cells = [.int .i64 x10], evF X k n_ref04_Sample [(I x10)] [] = some ((B (decide ((-1000) ≤ x10) && decide (x10 ≤ 1000))), [])] ⟨[(0, (.one (.d (.list (p1.map (D.int .i64)))))), (5, (I x2)), (6, (I x8)), (14, (B (!(decide ((-1000) ≤ x10) && decide (x10 ≤ 1000)))))], []⟩ (by kernel_rfl) (AC (at_ok hx10 (D.int .i64) (.int .i64 0)).1 (AC (at_ok hx10 (D.int .i64) (.int .i64 0)).2 (A1 (T_ref04_Sample_ok k x10 x11 hx11)))) ?_
    rcases ite_some H with ⟨hx12, H⟩ | ⟨hx12, H⟩
    · refine K_t rfl hx12 ?_
      refine K_seq ?_
      refine K_reg [] [] ⟨[(2, (I 12))], []⟩ (by kernel_rfl) trivial ?_
      refine K_gh ⟨[(2, (I 12))], []⟩ (by kernel_rfl) ?_
      cases H
      exact K_ret rfl
    · refine K_f rfl (Bool.eq_false_iff.2 hx12) ?_
      refine K_gh ⟨[(0, (.one (.d (.list (p1.map (D.int .i64)))))), (5, (I x2)), (6, (I x8))], []⟩ (by kernel_rfl) ?_
      refine K_skip ?_
      refine K_blk ?_
      refine K_reg [] [] ⟨[(0, (.one (.d (.list (p1.map (D.int .i64)))))), (5, (I x2)), (6, (I (w64 (x8 + 1))))], []⟩ (by kernel_rfl) trivial ?_
      cases H
      exact K_end rfl
  · refine K_f rfl (decide_eq_false hx9) ?_
    refine K_gh ⟨[], []⟩ (by kernel_rfl) ?_
    cases H
    exact K_exit0 rfl rfl
def T_ref12_Samples (k : Nat) (p1 : List Int) : Option Int := match k with
  | 0 => none
  | k + 1 => ((loopT (T_ref12_Samples_l1 k p1 (p1.length : Int)) k 0).bind fun x13 => (match x13 with | .inl x14 => some 0 | .inr x15 => some 12))
theorem T_ref12_Samples_ok (k : Nat) (p1 : List Int) (r : Int) : T_ref12_Samples k p1 = some r → evF X k n_ref12_Samples [(.one (.d (.list (p1.map (D.int .i64)))))] [] = some ((I r), []) := by
  intro H
  cases k with
  | zero => simp [T_ref12_Samples] at H
  | succ k =>
    simp only [T_ref12_Samples] at H
    refine F_in X_ref12_Samples rfl ?_
    refine K_seq ?_
    refine K_reg [] [] ⟨[(0, (.one (.d (.list (p1.map (D.int .i64))))))], []⟩ (by kernel_rfl) trivial ?_
    refine K_seq ?_
    refine K_seq ?_
    refine K_reg [.n p1.length] [((p1.map (D.int .i64))).length = p1.length] ⟨[(0, (.one (.d (.list (p1.map (D.int .i64)))))), (5, (I (p1.length : Int))), (6, (I 0))], []⟩ (by kernel_rfl) (A1 (List.length_map _)) ?_
    refine K_block ?_
    obtain ⟨x13, hx13, H⟩ := bind_some' H
    cases x13 with
    | inl x14 =>
      dsimp only at H
      refine K_loop ⟨[], []⟩ (loop_ok (fun (s : Int) => ⟨[(0, (.one (.d (.list (p1.map (D.int .i64)))))), (5, (I (p1.length : Int))), (6, (I s))], []⟩) (fun (r : Unit ⊕ Unit) => Sum.elim (fun y => (.exit 0, ⟨[], []⟩)) (fun y => (.ret, ⟨[(2, (I 12))], []⟩)) r) (fun r h => by cases r <;> cases h) (T_ref12_Samples_l1_ok k p1 (p1.length : Int)) k 0 (.inl x14) hx13) rfl ?_
      refine K_seq ?_
      refine K_reg [] [] ⟨[(2, (I 0))], []⟩ (by kernel_rfl) trivial ?_
      refine K_gh ⟨[(2, (I 0))], []⟩ (by kernel_rfl) ?_
      cases H
      refine K_ret ?_
      kernel_rfl
    | inr x15 =>
      dsimp only at H
      cases H
      refine K_loopr ⟨[(2, (I 12))], []⟩ (loop_ok (fun (s : Int) => ⟨[(0, (.one (.d (.list (p1.map (D.int .i64)))))), (5, (I (p1.length : Int))), (6, (I s))], []⟩) (fun (r : Unit ⊕ Unit) => Sum.elim (fun y => (.exit 0, ⟨[], []⟩)) (fun y => (.ret, ⟨[(2, (I 12))], []⟩)) r) (fun r h => by cases r <;> cases h) (T_ref12_Samples_l1_ok k p1 (p1.length : Int)) k 0 (.inr x15) hx13) ?_
      kernel_rfl
def T_ref12_Window (k : Nat) (p1 : List Int) : Option Int := match k with
  | 0 => none
  | k + 1 => (if (decide ((p1.length : Int) < 2) || decide (32 < (p1.length : Int))) = true then some 8 else ((T_ref12_Samples k p1).bind fun x2 => some x2))
theorem T_ref12_Window_ok (k : Nat) (p1 : List Int) (r : Int) : T_ref12_Window k p1 = some r → evF X k n_ref12_Window [(.one (.d (.list (p1.map (D.int .i64)))))] [] = some ((I r), []) := by
  intro H
  cases k with
  | zero => simp [T_ref12_Window] at H
  | succ k =>
    simp only [T_ref12_Window] at H
    refine F_in X_ref12_Window rfl ?_
    refine K_seq ?_
    refine K_reg [] [] ⟨[(0, (.one (.d (.list (p1.map (D.int .i64))))))], []⟩ (by kernel_rfl) trivial ?_
    refine K_seq ?_
    refine K_seq ?_
    refine K_reg [.n p1.length, .m, .n p1.length] [((p1.map (D.int .i64))).length = p1.length, decide ((p1.length : Int) < 2) = false → AllT [((p1.map (D.int .i64))).length = p1.length], ([] : Heap) = []] ⟨[(0, (.one (.d (.list (p1.map (D.int .i64)))))), (10, (B (decide ((p1.length : Int) < 2) || decide (32 < (p1.length : Int)))))], []⟩ (by kernel_rfl) (AC (List.length_map _) (AC (fun _ => (A1 (List.length_map _))) (A1 rfl))) ?_
    rcases ite_some H with ⟨hx1, H⟩ | ⟨hx1, H⟩
    · refine K_t rfl hx1 ?_
      refine K_seq ?_
      refine K_reg [] [] ⟨[(2, (I 8))], []⟩ (by kernel_rfl) trivial ?_
      refine K_gh ⟨[(2, (I 8))], []⟩ (by kernel_rfl) ?_
      cases H
      refine K_ret ?_
      kernel_rfl
    · refine K_f rfl (Bool.eq_false_iff.2 hx1) ?_
      refine K_gh ⟨[(0, (.one (.d (.list (p1.map (D.int .i64))))))], []⟩ (by kernel_rfl) ?_
      refine K_skip ?_
      refine K_seq ?_
      obtain ⟨x2, hx2, H⟩ := bind_some' H
      refine K_reg [.r (I x2) []] [evF X k n_ref12_Samples [(.one (.d (.list (p1.map (D.int .i64)))))] [] = some ((I x2), [])] ⟨[(2, (I x2))], []⟩ (by kernel_rfl) (A1 (T_ref12_Samples_ok k p1 x2 hx2)) ?_
      refine K_gh ⟨[(2, (I x2))], []⟩ (by kernel_rfl) ?_
      cases H
      refine K_ret ?_
      kernel_rfl
def T_ref18_Starts_l1 (k : Nat) (p1 : Int) (p2 : Int) (x11 : Nat × Int × (List Int)) : Option ((Nat × Int × (List Int)) ⊕ ((Nat × (List Int)))) :=
  (if x11.2.1 ≤ p2 then (if p2 ≠ 0 then (if x11.1 + 1 ≤ LIM then some (.inl ((x11.1 + 1), (w64 (x11.2.1 + 1)), ((x11.2.2.drop 0).take x11.1 ++ ([(w64 ((w64 (x11.2.1 * p1)).tdiv p2))] : List Int)))) else none) else none) else some (.inr (x11.1, x11.2.2)))
theorem T_ref18_Starts_l1_ok (k : Nat) (p1 : Int) (p2 : Int) : ∀ (x11 : Nat × Int × (List Int)) (x : (Nat × Int × (List Int)) ⊕ ((Nat × (List Int)))), T_ref18_Starts_l1 k p1 p2 x11 = some x → evC X (evF X k) k 0 l_ref18_Starts_1 ⟨[(0, (I p1)), (1, (I p2)), (6, (.one (.own 0 0 x11.1))), (7, (I x11.2.1))], [.vals (.int .i64 0) (x11.2.2.map (D.int .i64))]⟩ = some (outS (fun (s : Nat × Int × (List Int)) => ⟨[(0, (I p1)), (1, (I p2)), (6, (.one (.own 0 0 s.1))), (7, (I s.2.1))], [.vals (.int .i64 0) (s.2.2.map (D.int .i64))]⟩) (fun (r : (Nat × (List Int))) => (.exit 0, ⟨[(6, (.one (.own 0 0 r.1)))], [.vals (.int .i64 0) (r.2.map (D.int .i64))]⟩)) x) := by
  intro x11 x H
  unfold T_ref18_Starts_l1 at H
  refine K_in ?_
  refine K_seq ?_
  refine K_seq ?_
  refine K_reg [] [] ⟨[(0, (I p1)), (1, (I p2)), (6, (.one (.own 0 0 x11.1))), (7, (I x11.2.1)), (27, (B (decide (x11.2.1 ≤ p2))))], [.vals (.int .i64 0) (x11.2.2.map (D.int .i64))]⟩ (by kernel_rfl) trivial ?_
  rcases ite_some H with ⟨hx12, H⟩ | ⟨hx12, H⟩
  · refine K_t rfl (decide_eq_true hx12) ?_
    refine K_gh ⟨[(0, (I p1)), (1, (I p2)), (6, (.one (.own 0 0 x11.1))), (7, (I x11.2.1))], [.vals (.int .i64 0) (x11.2.2.map (D.int .i64))]⟩ (by kernel_rfl) ?_
    refine K_skip ?_
    refine K_seq ?_
    refine K_block ?_
    obtain ⟨hx13, H⟩ := guard_some H
    obtain ⟨hx14, H⟩ := guard_some H
    refine K_reg [.n 1, .l (((x11.2.2.drop 0).take x11.1 ++ ([(w64 ((w64 (x11.2.1 * p1)).tdiv p2))] : List Int)).map (D.int .i64))] [p2 ≠ (0 : Int), (List.all (([(w64 ((w64 (x11.2.1 * p1)).tdiv p2))] : List Int).map (D.int .i64)) fun d => d.cells.length == (D.cells (.int .i64 0)).length) = true, x11.1 + 1 ≤ LIM, (([(w64 ((w64 (x11.2.1 * p1)).tdiv p2))] : List Int).map (D.int .i64)).length = 1, ((x11.2.2.map (D.int .i64)).drop 0).take x11.1 ++ (([(w64 ((w64 (x11.2.1 * p1)).tdiv p2))] : List Int).map (D.int .i64)) = ((x11.2.2.drop 0).take x11.1 ++ ([(w64 ((w64 (x11.2.1 * p1)).tdiv p2))] : List Int)).map (D.int .i64)] ⟨[(0, (I p1)), (1, (I p2)), (6, (.one (.own 0 0 (x11.1 + 1)))), (7, (I x11.2.1))], [.vals (.int .i64 0) (((x11.2.2.drop 0).take x11.1 ++ ([(w64 ((w64 (x11.2.1 * p1)).tdiv p2))] : List Int)).map (D.int .i64))]⟩ (by kernel_rfl) (AC hx13 (AC (all_ok (D.int .i64) 1 ([(w64 ((w64 (x11.2.1 * p1)).tdiv p2))] : List Int) (fun _ => rfl)) (AC hx14 (AC (by simp) (A1 (ap_map (D.int .i64) x11.2.2 ([(w64 ((w64 (x11.2.1 * p1)).tdiv p2))] : List Int) 0 x11.1)))))) ?_
    refine K_blk ?_
    refine K_reg [] [] ⟨[(0, (I p1)), (1, (I p2)), (6, (.one (.own 0 0 (x11.1 + 1)))), (7, (I (w64 (x11.2.1 + 1))))], [.vals (.int .i64 0) (((x11.2.2.drop 0).take x11.1 ++ ([(w64 ((w64 (x11.2.1 * p1)).tdiv p2))] : List Int)).map (D.int .i64))]⟩ (by kernel_rfl) trivial ?_
    cases H
    exact K_end rfl
  · refine K_f rfl (decide_eq_false hx12) ?_
    refine K_gh ⟨[(6, (.one (.own 0 0 x11.1)))], [.vals (.int .i64 0) (x11.2.2.map (D.int .i64))]⟩ (by kernel_rfl) ?_
    cases H
    exact K_exit0 rfl rfl
def T_ref18_Starts (k : Nat) (p1 : Int) (p2 : Int) : Option ((List Int) × Int) := match k with
  | 0 => none
  | k + 1 => (if (decide (p1 < 2) || decide (32 < p1)) = true then some ([], 8) else (if ((decide (p2 < 1) || decide (8 < p2)) || decide (p1 < p2)) = true then some ([], 1) else ((loopT (T_ref18_Starts_l1 k p1 p2) k (0, 0, [])).bind fun x15 => some (((x15.2.drop 0).take x15.1), 0))))
theorem T_ref18_Starts_ok (k : Nat) (p1 : Int) (p2 : Int) (r : (List Int) × Int) : T_ref18_Starts k p1 p2 = some r → evF X k n_ref18_Starts [(I p1), (I p2)] [] = some ((.tup [(false, [.d (.list (r.1.map (D.int .i64)))]), (false, [.d (.int .i64 r.2)])]), []) := by
  intro H
  cases k with
  | zero => simp [T_ref18_Starts] at H
  | succ k =>
    simp only [T_ref18_Starts] at H
    refine F_in X_ref18_Starts rfl ?_
    refine K_seq ?_
    refine K_reg [] [] ⟨[(0, (I p1)), (1, (I p2))], []⟩ (by kernel_rfl) trivial ?_
    refine K_seq ?_
    refine K_seq ?_
    refine K_reg [.m] [([] : Heap) = []] ⟨[(0, (I p1)), (1, (I p2)), (13, (B (decide (p1 < 2) || decide (32 < p1))))], []⟩ (by kernel_rfl) (A1 rfl) ?_
    rcases ite_some H with ⟨hx1, H⟩ | ⟨hx1, H⟩
    · refine K_t rfl hx1 ?_
      refine K_seq ?_
      refine K_reg [] [] ⟨[(4, (.one (.nil))), (5, (I 8))], []⟩ (by kernel_rfl) trivial ?_
      refine K_gh ⟨[(4, (.one (.nil))), (5, (I 8))], []⟩ (by kernel_rfl) ?_
      cases H
      refine K_ret ?_
      kernel_rfl
    · refine K_f rfl (Bool.eq_false_iff.2 hx1) ?_
      refine K_gh ⟨[(0, (I p1)), (1, (I p2))], []⟩ (by kernel_rfl) ?_
      refine K_skip ?_
      refine K_seq ?_
      refine K_seq ?_
      refine K_reg [.m, .m] [([] : Heap) = [], ([] : Heap) = []] ⟨[(0, (I p1)), (1, (I p2)), (24, (B ((decide (p2 < 1) || decide (8 < p2)) || decide (p1 < p2))))], []⟩ (by kernel_rfl) (AC rfl (A1 rfl)) ?_
      rcases ite_some H with ⟨hx2, H⟩ | ⟨hx2, H⟩
      · refine K_t rfl hx2 ?_
        refine K_seq ?_
        refine K_reg [] [] ⟨[(4, (.one (.nil))), (5, (I 1))], []⟩ (by kernel_rfl) trivial ?_
        refine K_gh ⟨[(4, (.one (.nil))), (5, (I 1))], []⟩ (by kernel_rfl) ?_
        cases H
        refine K_ret ?_
        kernel_rfl
      · refine K_f rfl (Bool.eq_false_iff.2 hx2) ?_
        refine K_gh ⟨[(0, (I p1)), (1, (I p2))], []⟩ (by kernel_rfl) ?_
        refine K_skip ?_
        refine K_seq ?_
        refine K_reg [] [] ⟨[(0, (I p1)), (1, (I p2)), (6, (.one (.nil)))], []⟩ (by kernel_rfl) trivial ?_
        refine K_seq ?_
        refine K_seq ?_
        refine K_reg [] [] ⟨[(0, (I p1)), (1, (I p2)), (6, (.one (.nil))), (7, (I 0))], []⟩ (by kernel_rfl) trivial ?_
        refine K_block ?_
        refine K_gh ⟨[(0, (I p1)), (1, (I p2)), (6, (.one (.own 0 0 0))), (7, (I 0))], [.vals (.int .i64 0) ([].map (D.int .i64))]⟩ (by kernel_rfl) ?_
        obtain ⟨x15, hx15, H⟩ := bind_some' H
        refine K_loop ⟨[(6, (.one (.own 0 0 x15.1)))], [.vals (.int .i64 0) (x15.2.map (D.int .i64))]⟩ (loop_ok (fun (s : Nat × Int × (List Int)) => ⟨[(0, (I p1)), (1, (I p2)), (6, (.one (.own 0 0 s.1))), (7, (I s.2.1))], [.vals (.int .i64 0) (s.2.2.map (D.int .i64))]⟩) (fun (r : (Nat × (List Int))) => (.exit 0, ⟨[(6, (.one (.own 0 0 r.1)))], [.vals (.int .i64 0) (r.2.map (D.int .i64))]⟩)) (fun r h => by cases h) (T_ref18_Starts_l1_ok k p1 p2) k (0, 0, []) x15 hx15) rfl ?_
        refine K_seq ?_
        refine K_reg [] [] ⟨[(4, (.one (.own 0 0 x15.1))), (5, (I 0))], [.vals (.int .i64 0) (x15.2.map (D.int .i64))]⟩ (by kernel_rfl) trivial ?_
        refine K_gh ⟨[(4, (.one (.own 0 0 x15.1))), (5, (I 0))], [.vals (.int .i64 0) (x15.2.map (D.int .i64))]⟩ (by kernel_rfl) ?_
        cases H
        refine K_ret ?_
        exact Eq.trans (b := some ((.tup [(false, [.d (.list (((x15.2.map (D.int .i64)).drop 0).take x15.1))]), (false, [.d (.int .i64 0)])]), [])) (by kernel_rfl) (by simp only [dt_map])
end Go.Proofs.Ytkiacebcedpljaa.piecesAnswers
