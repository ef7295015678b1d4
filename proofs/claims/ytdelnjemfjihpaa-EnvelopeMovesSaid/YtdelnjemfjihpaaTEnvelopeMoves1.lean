/- What the functions that the statement EnvelopeMoves reaches compute, told as functions of Lean, and that the theory's language computes the same: part 2 of 2. There are no conditions. -/
import Derived.Test.YtdelnjemfjihpaaTEnvelopeMoves0
set_option maxRecDepth 100000
set_option linter.unusedVariables false
set_option linter.unusedSimpArgs false
namespace Go.Proofs.Ytdelnjemfjihpaa.envelopeMoves
open Go
def T_pieces_Sums_r1 (k : Nat) (p1 : List Int) (p2 : Int) (x7 : Int) (x9 : Nat) (x11 x12 x13 : Int) (x17 : (List Int)) : Option (((List Int)) ⊕ Unit) :=
  (if (0 : Int) ≤ x12 ∧ x12 ≤ x13 ∧ x13 ≤ (p1.length : Int) ∧ (p1.length : Int) ≤ (p1.length : Int) then (T_pieces_total k ((p1.drop x12.toNat).take (x13.toNat - x12.toNat))).bind fun x19 => (if (0 : Int) ≤ x11 ∧ x11 < ((x9 : Nat) : Int) then some (.inl (x17.set (0 + x11.toNat) x19)) else none) else none)
theorem T_pieces_Sums_r1_ok (k : Nat) (p1 : List Int) (p2 : Int) (x7 : Int) (x9 : Nat) : ∀ (x11 x12 x13 : Int) (x17 : (List Int)) (x : ((List Int)) ⊕ Unit), T_pieces_Sums_r1 k p1 p2 x7 x9 x11 x12 x13 x17 = some x → roundM (fun b' => evC X (evF X k) k b' l_pieces_Sums_r1a) (fun b' => evC X (evF X k) k b' l_pieces_Sums_r1b) 0 [22, 23] [.gc] [I x11, .agg [.d (.int .i64 x12), .d (.int .i64 x13)]] (.normal, ⟨[(2, (.one (.ptr 0 0 0))), (4, (.one (.nil))), (5, (I 0)), (7, (.one (.ptr 1 0 0))), (21, (.one (.d (.fn (.func n_pieces_all_1) [.ref [.int .i64 p2], .ref [.int .i64 x7]]))))], [.cells [.d (.list (p1.map (D.int .i64)))], .cells [.own 2 0 x9], .vals (.int .i64 0) (x17.map (D.int .i64))]⟩) = some (Sum.elim (fun (s : (List Int)) => (true, (.normal, ⟨[(2, (.one (.ptr 0 0 0))), (4, (.one (.nil))), (5, (I 0)), (7, (.one (.ptr 1 0 0))), (21, (.one (.d (.fn (.func n_pieces_all_1) [.ref [.int .i64 p2], .ref [.int .i64 x7]]))))], [.cells [.d (.list (p1.map (D.int .i64)))], .cells [.own 2 0 x9], .vals (.int .i64 0) (s.map (D.int .i64))]⟩))) (fun (r : Unit) => (false, (.ret, ⟨[], []⟩))) x) := by
  intro x11 x12 x13 x17 x H
  unfold T_pieces_Sums_r1 at H
  refine R_as rfl ?_
  refine K_seq ?_
  refine K_reg [] [] ⟨[(2, (.one (.ptr 0 0 0))), (7, (.one (.ptr 1 0 0))), (8, (I x11)), (23, (.agg [.d (.int .i64 x12), .d (.int .i64 x13)]))], [.cells [.d (.list (p1.map (D.int .i64)))], .cells [.own 2 0 x9], .vals (.int .i64 0) (x17.map (D.int .i64))]⟩ (by kernel_rfl) trivial ?_
  refine K_reg [] [] ⟨[(2, (.one (.ptr 0 0 0))), (7, (.one (.ptr 1 0 0))), (8, (I x11)), (9, (.one (.ptr 3 0 0)))], [.cells [.d (.list (p1.map (D.int .i64)))], .cells [.own 2 0 x9], .vals (.int .i64 0) (x17.map (D.int .i64)), .cells [.d (.int .i64 x12), .d (.int .i64 x13)]]⟩ (by kernel_rfl) trivial ?_
  refine K_end (R_body ?_)
  refine K_block ?_
  obtain ⟨hx18, H⟩ := guard_some H
  obtain ⟨x19, hx19, H⟩ := bind_some' H
  obtain ⟨hx20, H⟩ := guard_some H
  refine K_reg [.l (((p1.drop x12.toNat).take (x13.toNat - x12.toNat)).map (D.int .i64)), .r (I x19) [], .l ((x17.set (0 + x11.toNat) x19).map (D.int .i64))] [((p1.map (D.int .i64)).all fun d => d.cells.length == 1) = true, (0 : Int) ≤ x12 ∧ x12 ≤ x13 ∧ x13 ≤ (((p1.map (D.int .i64))).length : Int) ∧ (((p1.map (D.int .i64))).length : Int) ≤ (((p1.map (D.int .i64))).length : Int), ((p1.map (D.int .i64)).drop (x12 : Int).toNat).take ((x13 : Int).toNat - (x12 : Int).toNat) = ((p1.drop x12.toNat).take (x13.toNat - x12.toNat)).map (D.int .i64), evF X k n_pieces_total [(.one (.d (.list (((p1.drop x12.toNat).take (x13.toNat - x12.toNat)).map (D.int .i64)))))] [] = some ((I x19), []), (0 : Int) ≤ x11 ∧ x11 < ((x9 : Nat) : Int), (x17.map (D.int .i64)).set (0 + x11.toNat) (elemOf (.int .i64 0) (splice ((x17.map (D.int .i64)).getD (0 + x11.toNat) (.int .i64 0)).cells 0 [.int .i64 x19])) = (x17.set (0 + x11.toNat) x19).map (D.int .i64)] ⟨[], [.cells [.d (.list (p1.map (D.int .i64)))], .cells [.own 2 0 x9], .vals (.int .i64 0) ((x17.set (0 + x11.toNat) x19).map (D.int .i64)), .cells [.d (.int .i64 x12), .d (.int .i64 x13)]]⟩ (by kernel_rfl) (AC (all_ok (D.int .i64) 1 p1 (fun _ => rfl)) (AC (by simpa using hx18) (AC (dt_map _ _ _ _) (AC (T_pieces_total_ok k ((p1.drop x12.toNat).take (x13.toNat - x12.toNat)) x19 hx19) (AC hx20 (A1 (st_one x17 (0 + x11.toNat) x19 (D.int .i64) (.int .i64 0) rfl (fun _ => rfl) rfl))))))) ?_
  refine K_blk ?_
  cases H
  exact K_end (R_end ⟨[(2, (.one (.ptr 0 0 0))), (4, (.one (.nil))), (5, (I 0)), (7, (.one (.ptr 1 0 0))), (21, (.one (.d (.fn (.func n_pieces_all_1) [.ref [.int .i64 p2], .ref [.int .i64 x7]]))))], [.cells [.d (.list (p1.map (D.int .i64)))], .cells [.own 2 0 x9], .vals (.int .i64 0) ((x17.set (0 + x11.toNat) x19).map (D.int .i64))]⟩ (by kernel_rfl) rfl)
def T_pieces_Sums (k : Nat) (p1 : List Int) (p2 : Int) : Option ((List Int) × Int) := match k with
  | 0 => none
  | k + 1 => ((T_pieces_check k p1 p2).bind fun x1 => (if (!decide (x1 = 0)) = true then some ([], x1) else (if (0 : Int) ≤ p2 ∧ p2 ≤ p2 ∧ p2 ≤ (LIM : Int) then (T_pieces_all k (p1.length : Int) p2).bind fun x4 => (allT (T_pieces_Sums_r1 k p1 p2 (p1.length : Int) p2.toNat) (p1.length : Int) p2 k 0 (List.replicate p2.toNat (0 : Int))).bind fun x21 => (match x21 with | .inl x22 => some (((x22.drop 0).take p2.toNat), 0) | .inr _ => none) else none)))
theorem T_pieces_Sums_ok (k : Nat) (p1 : List Int) (p2 : Int) (r : (List Int) × Int) : T_pieces_Sums k p1 p2 = some r → evF X k n_pieces_Sums [(.one (.d (.list (p1.map (D.int .i64))))), (I p2)] [] = some ((.tup [(false, [.d (.list (r.1.map (D.int .i64)))]), (false, [.d (.int .i64 r.2)])]), []) := by
  intro H
  cases k with
  | zero => simp [T_pieces_Sums] at H
  | succ k =>
    simp only [T_pieces_Sums] at H
    refine F_in X_pieces_Sums rfl ?_
    refine K_seq ?_
    refine K_reg [] [] ⟨[(1, (I p2)), (2, (.one (.ptr 0 0 0))), (4, (.one (.nil))), (5, (I 0))], [.cells [.d (.list (p1.map (D.int .i64)))]]⟩ (by kernel_rfl) trivial ?_
    refine K_seq ?_
    refine K_seq ?_
    obtain ⟨x1, hx1, H⟩ := bind_some' H
    refine K_reg [.r (I x1) []] [evF X k n_pieces_check [(.one (.d (.list (p1.map (D.int .i64))))), (I p2)] [] = some ((I x1), [])] ⟨[(1, (I p2)), (2, (.one (.ptr 0 0 0))), (4, (.one (.nil))), (5, (I 0)), (6, (I x1))], [.cells [.d (.list (p1.map (D.int .i64)))]]⟩ (by kernel_rfl) (A1 (T_pieces_check_ok k p1 p2 x1 hx1)) ?_
    refine K_seq ?_
    refine K_reg [] [] ⟨[(1, (I p2)), (2, (.one (.ptr 0 0 0))), (4, (.one (.nil))), (5, (I 0)), (6, (I x1)), (14, (B (!decide (x1 = 0))))], [.cells [.d (.list (p1.map (D.int .i64)))]]⟩ (by kernel_rfl) trivial ?_
    rcases ite_some H with ⟨hx2, H⟩ | ⟨hx2, H⟩
    · refine K_t rfl hx2 ?_
      refine K_seq ?_
      refine K_reg [] [] ⟨[(4, (.one (.nil))), (5, (I x1))], []⟩ (by kernel_rfl) trivial ?_
      refine K_gh ⟨[(4, (.one (.nil))), (5, (I x1))], []⟩ (by kernel_rfl) ?_
      cases H
      refine K_ret ?_
      kernel_rfl
    · refine K_f rfl (Bool.eq_false_iff.2 hx2) ?_
      refine K_gh ⟨[(1, (I p2)), (2, (.one (.ptr 0 0 0))), (4, (.one (.nil))), (5, (I 0))], [.cells [.d (.list (p1.map (D.int .i64)))]]⟩ (by kernel_rfl) ?_
      refine K_skip ?_
      refine K_seq ?_
      obtain ⟨hx3, H⟩ := guard_some H
      refine K_reg [.l ((List.replicate p2.toNat (0 : Int)).map (D.int .i64))] [(0 : Int) ≤ p2 ∧ p2 ≤ p2 ∧ p2 ≤ (LIM : Int), List.replicate p2.toNat (.int .i64 0) = (List.replicate p2.toNat (0 : Int)).map (D.int .i64)] ⟨[(1, (I p2)), (2, (.one (.ptr 0 0 0))), (4, (.one (.nil))), (5, (I 0)), (7, (.one (.ptr 1 0 0)))], [.cells [.d (.list (p1.map (D.int .i64)))], .cells [.own 2 0 p2.toNat], .vals (.int .i64 0) ((List.replicate p2.toNat (0 : Int)).map (D.int .i64))]⟩ (by kernel_rfl) (AC hx3 (A1 (rep_map (D.int .i64) _ (0 : Int)))) ?_
      refine K_seq ?_
      refine K_seq ?_
      obtain ⟨x4, hx4, H⟩ := bind_some' H
      refine K_reg [.n p1.length, .r (.one (.d (.fn (.func n_pieces_all_1) [.ref [.int .i64 p2], .ref [.int .i64 (p1.length : Int)]]))) []] [((p1.map (D.int .i64))).length = p1.length, evF X k n_pieces_all [(I (p1.length : Int)), (I p2)] [] = some ((.one (.d (.fn (.func n_pieces_all_1) [.ref [.int .i64 p2], .ref [.int .i64 (p1.length : Int)]]))), [])] ⟨[(2, (.one (.ptr 0 0 0))), (4, (.one (.nil))), (5, (I 0)), (7, (.one (.ptr 1 0 0))), (21, (.one (.d (.fn (.func n_pieces_all_1) [.ref [.int .i64 p2], .ref [.int .i64 (p1.length : Int)]]))))], [.cells [.d (.list (p1.map (D.int .i64)))], .cells [.own 2 0 p2.toNat], .vals (.int .i64 0) ((List.replicate p2.toNat (0 : Int)).map (D.int .i64))]⟩ (by kernel_rfl) (AC (List.length_map _) (A1 (T_pieces_all_ok k (p1.length : Int) p2 x4 hx4))) ?_
      refine K_block ?_
      obtain ⟨x21, hx21, H⟩ := bind_some' H
      cases x21 with
      | inl x22 =>
        dsimp only at H
        refine K_of ⟨[(2, (.one (.ptr 0 0 0))), (4, (.one (.nil))), (5, (I 0)), (7, (.one (.ptr 1 0 0))), (21, (.one (.d (.fn (.func n_pieces_all_1) [.ref [.int .i64 p2], .ref [.int .i64 (p1.length : Int)]]))))], [.cells [.d (.list (p1.map (D.int .i64)))], .cells [.own 2 0 p2.toNat], .vals (.int .i64 0) (x22.map (D.int .i64))]⟩ (range_ok (fun (s : (List Int)) => ⟨[(2, (.one (.ptr 0 0 0))), (4, (.one (.nil))), (5, (I 0)), (7, (.one (.ptr 1 0 0))), (21, (.one (.d (.fn (.func n_pieces_all_1) [.ref [.int .i64 p2], .ref [.int .i64 (p1.length : Int)]]))))], [.cells [.d (.list (p1.map (D.int .i64)))], .cells [.own 2 0 p2.toNat], .vals (.int .i64 0) (s.map (D.int .i64))]⟩) (fun (r : Unit) => (.ret, ⟨[], []⟩)) (s := (List.replicate p2.toNat (0 : Int))) (y := (.inl x22)) rfl (X_pieces_all_1 : X n_pieces_all_1 = some allM) (T_pieces_Sums_r1_ok k p1 p2 (p1.length : Int) p2.toNat) hx21) ?_
        refine K_blk ?_
        refine K_seq ?_
        refine K_reg [] [] ⟨[(4, (.one (.own 0 0 p2.toNat))), (5, (I 0))], [.vals (.int .i64 0) (x22.map (D.int .i64))]⟩ (by kernel_rfl) trivial ?_
        refine K_gh ⟨[(4, (.one (.own 0 0 p2.toNat))), (5, (I 0))], [.vals (.int .i64 0) (x22.map (D.int .i64))]⟩ (by kernel_rfl) ?_
        cases H
        refine K_ret ?_
        exact Eq.trans (b := some ((.tup [(false, [.d (.list (((x22.map (D.int .i64)).drop 0).take p2.toNat))]), (false, [.d (.int .i64 0)])]), [])) (by kernel_rfl) (by simp only [dt_map])
      | inr _ =>
        dsimp only at H
        cases H
def T_pieces_Starts_r1 (k : Nat) (p1 : Int) (p2 : Int) (x10 x11 x12 : Int) (x14 : Nat × (List Int)) : Option ((Nat × (List Int)) ⊕ Unit) :=
  (if x14.1 + 1 ≤ LIM then some (.inl ((x14.1 + 1), ((x14.2.drop 0).take x14.1 ++ ([x12] : List Int)))) else none)
theorem T_pieces_Starts_r1_ok (k : Nat) (p1 : Int) (p2 : Int) : ∀ (x10 x11 x12 : Int) (x14 : Nat × (List Int)) (x : (Nat × (List Int)) ⊕ Unit), T_pieces_Starts_r1 k p1 p2 x10 x11 x12 x14 = some x → roundM (fun b' => evC X (evF X k) k b' l_pieces_Starts_r1a) (fun b' => evC X (evF X k) k b' l_pieces_Starts_r1b) 0 [23, 24] [.gc] [I x10, .agg [.d (.int .i64 x11), .d (.int .i64 x12)]] (.normal, ⟨[(4, (.one (.nil))), (5, (I 0)), (6, (.one (.ptr 0 0 0))), (22, (.one (.d (.fn (.func n_pieces_all_1) [.ref [.int .i64 p2], .ref [.int .i64 p1]]))))], [.cells [.own 1 0 x14.1], .vals (.int .i64 0) (x14.2.map (D.int .i64))]⟩) = some (Sum.elim (fun (s : Nat × (List Int)) => (true, (.normal, ⟨[(4, (.one (.nil))), (5, (I 0)), (6, (.one (.ptr 0 0 0))), (22, (.one (.d (.fn (.func n_pieces_all_1) [.ref [.int .i64 p2], .ref [.int .i64 p1]]))))], [.cells [.own 1 0 s.1], .vals (.int .i64 0) (s.2.map (D.int .i64))]⟩))) (fun (r : Unit) => (false, (.ret, ⟨[], []⟩))) x) := by
  intro x10 x11 x12 x14 x H
  unfold T_pieces_Starts_r1 at H
  refine R_as rfl ?_
  refine K_reg [] [] ⟨[(6, (.one (.ptr 0 0 0))), (8, (.one (.ptr 2 0 0)))], [.cells [.own 1 0 x14.1], .vals (.int .i64 0) (x14.2.map (D.int .i64)), .cells [.d (.int .i64 x11), .d (.int .i64 x12)]]⟩ (by kernel_rfl) trivial ?_
  refine K_end (R_body ?_)
  refine K_block ?_
  obtain ⟨hx15, H⟩ := guard_some H
  refine K_reg [.n 1, .l (((x14.2.drop 0).take x14.1 ++ ([x12] : List Int)).map (D.int .i64))] [(List.all (([x12] : List Int).map (D.int .i64)) fun d => d.cells.length == (D.cells (.int .i64 0)).length) = true, x14.1 + 1 ≤ LIM, (([x12] : List Int).map (D.int .i64)).length = 1, ((x14.2.map (D.int .i64)).drop 0).take x14.1 ++ (([x12] : List Int).map (D.int .i64)) = ((x14.2.drop 0).take x14.1 ++ ([x12] : List Int)).map (D.int .i64)] ⟨[], [.cells [.own 3 0 (x14.1 + 1)], .dead, .cells [.d (.int .i64 x11), .d (.int .i64 x12)], .vals (.int .i64 0) (((x14.2.drop 0).take x14.1 ++ ([x12] : List Int)).map (D.int .i64))]⟩ (by kernel_rfl) (AC (all_ok (D.int .i64) 1 ([x12] : List Int) (fun _ => rfl)) (AC hx15 (AC (by simp) (A1 (ap_map (D.int .i64) x14.2 ([x12] : List Int) 0 x14.1))))) ?_
  refine K_blk ?_
  cases H
  exact K_end (R_end ⟨[(4, (.one (.nil))), (5, (I 0)), (6, (.one (.ptr 0 0 0))), (22, (.one (.d (.fn (.func n_pieces_all_1) [.ref [.int .i64 p2], .ref [.int .i64 p1]]))))], [.cells [.own 1 0 (x14.1 + 1)], .vals (.int .i64 0) (((x14.2.drop 0).take x14.1 ++ ([x12] : List Int)).map (D.int .i64))]⟩ (by kernel_rfl) rfl)
def T_pieces_Starts (k : Nat) (p1 : Int) (p2 : Int) : Option ((List Int) × Int) := match k with
  | 0 => none
  | k + 1 => (if (decide (p1 < 2) || decide (32 < p1)) = true then some ([], 8) else ((T_pieces_number k p1 p2).bind fun x2 => (if (!((decide (1 ≤ p2) && decide (p2 ≤ 8)) && decide (p2 ≤ p1))) = true then some ([], 1) else ((T_pieces_all k p1 p2).bind fun x4 => (allT (T_pieces_Starts_r1 k p1 p2) p1 p2 k 0 (1, [0])).bind fun x16 => (match x16 with | .inl x17 => some (((x17.2.drop 0).take x17.1), 0) | .inr _ => none)))))
theorem T_pieces_Starts_ok (k : Nat) (p1 : Int) (p2 : Int) (r : (List Int) × Int) : T_pieces_Starts k p1 p2 = some r → evF X k n_pieces_Starts [(I p1), (I p2)] [] = some ((.tup [(false, [.d (.list (r.1.map (D.int .i64)))]), (false, [.d (.int .i64 r.2)])]), []) := by
  intro H
  cases k with
  | zero => simp [T_pieces_Starts] at H
  | succ k =>
    simp only [T_pieces_Starts] at H
    refine F_in X_pieces_Starts rfl ?_
    refine K_seq ?_
    refine K_reg [] [] ⟨[(0, (I p1)), (1, (I p2)), (4, (.one (.nil))), (5, (I 0))], []⟩ (by kernel_rfl) trivial ?_
    refine K_seq ?_
    refine K_seq ?_
    refine K_reg [.m] [([] : Heap) = []] ⟨[(0, (I p1)), (1, (I p2)), (4, (.one (.nil))), (5, (I 0)), (14, (B (decide (p1 < 2) || decide (32 < p1))))], []⟩ (by kernel_rfl) (A1 rfl) ?_
    rcases ite_some H with ⟨hx1, H⟩ | ⟨hx1, H⟩
    · refine K_t rfl hx1 ?_
      refine K_seq ?_
      refine K_reg [] [] ⟨[(4, (.one (.nil))), (5, (I 8))], []⟩ (by kernel_rfl) trivial ?_
      refine K_gh ⟨[(4, (.one (.nil))), (5, (I 8))], []⟩ (by kernel_rfl) ?_
      cases H
      refine K_ret ?_
      kernel_rfl
    · refine K_f rfl (Bool.eq_false_iff.2 hx1) ?_
      refine K_gh ⟨[(0, (I p1)), (1, (I p2)), (4, (.one (.nil))), (5, (I 0))], []⟩ (by kernel_rfl) ?_
      refine K_skip ?_
      refine K_seq ?_
      refine K_seq ?_
      obtain ⟨x2, hx2, H⟩ := bind_some' H
      refine K_reg [.r (B ((decide (1 ≤ p2) && decide (p2 ≤ 8)) && decide (p2 ≤ p1))) []] [evF X k n_pieces_number [(I p1), (I p2)] [] = some ((B ((decide (1 ≤ p2) && decide (p2 ≤ 8)) && decide (p2 ≤ p1))), [])] ⟨[(0, (I p1)), (1, (I p2)), (4, (.one (.nil))), (5, (I 0)), (18, (B (!((decide (1 ≤ p2) && decide (p2 ≤ 8)) && decide (p2 ≤ p1)))))], []⟩ (by kernel_rfl) (A1 (T_pieces_number_ok k p1 p2 x2 hx2)) ?_
      rcases ite_some H with ⟨hx3, H⟩ | ⟨hx3, H⟩
      · refine K_t rfl hx3 ?_
        refine K_seq ?_
        refine K_reg [] [] ⟨[(4, (.one (.nil))), (5, (I 1))], []⟩ (by kernel_rfl) trivial ?_
        refine K_gh ⟨[(4, (.one (.nil))), (5, (I 1))], []⟩ (by kernel_rfl) ?_
        cases H
        refine K_ret ?_
        kernel_rfl
      · refine K_f rfl (Bool.eq_false_iff.2 hx3) ?_
        refine K_gh ⟨[(0, (I p1)), (1, (I p2)), (4, (.one (.nil))), (5, (I 0))], []⟩ (by kernel_rfl) ?_
        refine K_skip ?_
        refine K_seq ?_
        refine K_reg [] [] ⟨[(0, (I p1)), (1, (I p2)), (4, (.one (.nil))), (5, (I 0)), (6, (.one (.ptr 0 0 0)))], [.cells [.own 1 0 1], .vals (.int .i64 0) ([0].map (D.int .i64))]⟩ (by kernel_rfl) trivial ?_
        refine K_seq ?_
        refine K_seq ?_
        obtain ⟨x4, hx4, H⟩ := bind_some' H
        refine K_reg [.r (.one (.d (.fn (.func n_pieces_all_1) [.ref [.int .i64 p2], .ref [.int .i64 p1]]))) []] [evF X k n_pieces_all [(I p1), (I p2)] [] = some ((.one (.d (.fn (.func n_pieces_all_1) [.ref [.int .i64 p2], .ref [.int .i64 p1]]))), [])] ⟨[(4, (.one (.nil))), (5, (I 0)), (6, (.one (.ptr 0 0 0))), (22, (.one (.d (.fn (.func n_pieces_all_1) [.ref [.int .i64 p2], .ref [.int .i64 p1]]))))], [.cells [.own 1 0 1], .vals (.int .i64 0) ([0].map (D.int .i64))]⟩ (by kernel_rfl) (A1 (T_pieces_all_ok k p1 p2 x4 hx4)) ?_
        refine K_block ?_
        obtain ⟨x16, hx16, H⟩ := bind_some' H
        cases x16 with
        | inl x17 =>
          dsimp only at H
          refine K_of ⟨[(4, (.one (.nil))), (5, (I 0)), (6, (.one (.ptr 0 0 0))), (22, (.one (.d (.fn (.func n_pieces_all_1) [.ref [.int .i64 p2], .ref [.int .i64 p1]]))))], [.cells [.own 1 0 x17.1], .vals (.int .i64 0) (x17.2.map (D.int .i64))]⟩ (range_ok (fun (s : Nat × (List Int)) => ⟨[(4, (.one (.nil))), (5, (I 0)), (6, (.one (.ptr 0 0 0))), (22, (.one (.d (.fn (.func n_pieces_all_1) [.ref [.int .i64 p2], .ref [.int .i64 p1]]))))], [.cells [.own 1 0 s.1], .vals (.int .i64 0) (s.2.map (D.int .i64))]⟩) (fun (r : Unit) => (.ret, ⟨[], []⟩)) (s := (1, [0])) (y := (.inl x17)) rfl (X_pieces_all_1 : X n_pieces_all_1 = some allM) (T_pieces_Starts_r1_ok k p1 p2) hx16) ?_
          refine K_blk ?_
          refine K_seq ?_
          refine K_reg [] [] ⟨[(4, (.one (.own 0 0 x17.1))), (5, (I 0))], [.vals (.int .i64 0) (x17.2.map (D.int .i64))]⟩ (by kernel_rfl) trivial ?_
          refine K_gh ⟨[(4, (.one (.own 0 0 x17.1))), (5, (I 0))], [.vals (.int .i64 0) (x17.2.map (D.int .i64))]⟩ (by kernel_rfl) ?_
          cases H
          refine K_ret ?_
          exact Eq.trans (b := some ((.tup [(false, [.d (.list (((x17.2.map (D.int .i64)).drop 0).take x17.1))]), (false, [.d (.int .i64 0)])]), [])) (by kernel_rfl) (by simp only [dt_map])
        | inr _ =>
          dsimp only at H
          cases H
def T_ratio_divisor_l1 (k : Nat) (x5 : Int × Int) : Option ((Int × Int) ⊕ Int) :=
  (if (!decide (x5.2 = 0)) = true then (if x5.2 ≠ 0 then some (.inl (x5.2, (x5.1.tmod x5.2))) else none) else some (.inr x5.1))
theorem T_ratio_divisor_l1_ok (k : Nat) : ∀ (x5 : Int × Int) (x : (Int × Int) ⊕ Int), T_ratio_divisor_l1 k x5 = some x → evC X (evF X k) k 0 l_ratio_divisor_1 ⟨[(0, (I x5.1)), (1, (I x5.2))], []⟩ = some (outS (fun (s : Int × Int) => ⟨[(0, (I s.1)), (1, (I s.2))], []⟩) (fun (r : Int) => (.exit 0, ⟨[(0, (I r))], []⟩)) x) := by
  intro x5 x H
  unfold T_ratio_divisor_l1 at H
  refine K_in ?_
  refine K_seq ?_
  refine K_seq ?_
  refine K_reg [] [] ⟨[(0, (I x5.1)), (1, (I x5.2)), (6, (B (!decide (x5.2 = 0))))], []⟩ (by kernel_rfl) trivial ?_
  rcases ite_some H with ⟨hx6, H⟩ | ⟨hx6, H⟩
  · refine K_t rfl hx6 ?_
    refine K_gh ⟨[(0, (I x5.1)), (1, (I x5.2))], []⟩ (by kernel_rfl) ?_
    refine K_skip ?_
    refine K_block ?_
    obtain ⟨hx7, H⟩ := guard_some H
    refine K_reg [] [x5.2 ≠ (0 : Int)] ⟨[(0, (I x5.2)), (1, (I (x5.1.tmod x5.2)))], []⟩ (by kernel_rfl) (A1 hx7) ?_
    refine K_blk ?_
    cases H
    exact K_end rfl
  · refine K_f rfl (Bool.eq_false_iff.2 hx6) ?_
    refine K_gh ⟨[(0, (I x5.1))], []⟩ (by kernel_rfl) ?_
    cases H
    exact K_exit0 rfl rfl
def T_ratio_divisor (k : Nat) (p1 : Int) (p2 : Int) : Option Int := match k with
  | 0 => none
  | k + 1 => ((loopT (T_ratio_divisor_l1 k) k (p1, p2)).bind fun x8 => some x8)
theorem T_ratio_divisor_ok (k : Nat) (p1 : Int) (p2 : Int) (r : Int) : T_ratio_divisor k p1 p2 = some r → evF X k n_ratio_divisor [(I p1), (I p2)] [] = some ((I r), []) := by
  intro H
  cases k with
  | zero => simp [T_ratio_divisor] at H
  | succ k =>
    simp only [T_ratio_divisor] at H
    refine F_in X_ratio_divisor rfl ?_
    refine K_seq ?_
    refine K_reg [] [] ⟨[(0, (I p1)), (1, (I p2))], []⟩ (by kernel_rfl) trivial ?_
    refine K_seq ?_
    refine K_block ?_
    obtain ⟨x8, hx8, H⟩ := bind_some' H
    refine K_loop ⟨[(0, (I x8))], []⟩ (loop_ok (fun (s : Int × Int) => ⟨[(0, (I s.1)), (1, (I s.2))], []⟩) (fun (r : Int) => (.exit 0, ⟨[(0, (I r))], []⟩)) (fun r h => by cases h) (T_ratio_divisor_l1_ok k) k (p1, p2) x8 hx8) rfl ?_
    refine K_seq ?_
    refine K_reg [] [] ⟨[(4, (I x8))], []⟩ (by kernel_rfl) trivial ?_
    refine K_gh ⟨[(4, (I x8))], []⟩ (by kernel_rfl) ?_
    cases H
    refine K_ret ?_
    kernel_rfl
def T_ratio_within (k : Nat) (p1 : Int) (p2 : Int) : Option Unit := match k with
  | 0 => none
  | k + 1 => some ()
theorem T_ratio_within_ok (k : Nat) (p1 : Int) (p2 : Int) (r : Unit) : T_ratio_within k p1 p2 = some r → evF X k n_ratio_within [(.agg [.d (.int .i64 p1), .d (.int .i64 p2)])] [] = some ((B (((decide (0 ≤ p1) && decide (p1 ≤ 2305843009213693952)) && decide (1 ≤ p2)) && decide (p2 ≤ 1152921504606846976))), []) := by
  intro H
  cases k with
  | zero => simp [T_ratio_within] at H
  | succ k =>
    simp only [T_ratio_within] at H
    refine F_in X_ratio_within rfl ?_
    refine K_seq ?_
    refine K_reg [] [] ⟨[(1, (.one (.ptr 0 0 0)))], [.cells [.d (.int .i64 p1), .d (.int .i64 p2)]]⟩ (by kernel_rfl) trivial ?_
    refine K_seq ?_
    refine K_reg [.m, .m, .m] [([.cells [.d (.int .i64 p1), .d (.int .i64 p2)]] : Heap) = [.cells [.d (.int .i64 p1), .d (.int .i64 p2)]], ([.cells [.d (.int .i64 p1), .d (.int .i64 p2)]] : Heap) = [.cells [.d (.int .i64 p1), .d (.int .i64 p2)]], ([.cells [.d (.int .i64 p1), .d (.int .i64 p2)]] : Heap) = [.cells [.d (.int .i64 p1), .d (.int .i64 p2)]]] ⟨[(2, (B (((decide (0 ≤ p1) && decide (p1 ≤ 2305843009213693952)) && decide (1 ≤ p2)) && decide (p2 ≤ 1152921504606846976))))], []⟩ (by kernel_rfl) (AC rfl (AC rfl (A1 rfl))) ?_
    refine K_gh ⟨[(2, (B (((decide (0 ≤ p1) && decide (p1 ≤ 2305843009213693952)) && decide (1 ≤ p2)) && decide (p2 ≤ 1152921504606846976))))], []⟩ (by kernel_rfl) ?_
    cases H
    refine K_ret ?_
    kernel_rfl
def T_ratio_Make (k : Nat) (p1 : Int) (p2 : Int) : Option (Int × Int × Int) := match k with
  | 0 => none
  | k + 1 => (if (decide (p1 < 0) || decide (p2 < 1)) = true then some (0, 0, 1) else (T_ratio_divisor k p1 p2).bind fun x2 => (if x2 ≠ 0 then (T_ratio_within k (w64 (p1.tdiv x2)) (w64 (p2.tdiv x2))).bind fun x4 => (if (!(((decide (0 ≤ (w64 (p1.tdiv x2))) && decide ((w64 (p1.tdiv x2)) ≤ 2305843009213693952)) && decide (1 ≤ (w64 (p2.tdiv x2)))) && decide ((w64 (p2.tdiv x2)) ≤ 1152921504606846976))) = true then some (0, 0, 1) else some ((w64 (p1.tdiv x2)), (w64 (p2.tdiv x2)), 0)) else none))
theorem T_ratio_Make_ok (k : Nat) (p1 : Int) (p2 : Int) (r : Int × Int × Int) : T_ratio_Make k p1 p2 = some r → evF X k n_ratio_Make [(I p1), (I p2)] [] = some ((.tup [(true, [.d (.int .i64 r.1), .d (.int .i64 r.2.1)]), (false, [.d (.int .i64 r.2.2)])]), []) := by
  intro H
  cases k with
  | zero => simp [T_ratio_Make] at H
  | succ k =>
    simp only [T_ratio_Make] at H
    refine F_in X_ratio_Make rfl ?_
    refine K_seq ?_
    refine K_reg [] [] ⟨[(0, (I p1)), (1, (I p2)), (4, (.one (.ptr 0 0 0)))], [.cells [.d (.int .i64 0), .d (.int .i64 0)]]⟩ (by kernel_rfl) trivial ?_
    refine K_seq ?_
    refine K_seq ?_
    refine K_reg [.m] [([.cells [.d (.int .i64 0), .d (.int .i64 0)]] : Heap) = [.cells [.d (.int .i64 0), .d (.int .i64 0)]]] ⟨[(0, (I p1)), (1, (I p2)), (4, (.one (.ptr 0 0 0))), (13, (B (decide (p1 < 0) || decide (p2 < 1))))], [.cells [.d (.int .i64 0), .d (.int .i64 0)]]⟩ (by kernel_rfl) (A1 rfl) ?_
    rcases ite_some H with ⟨hx1, H⟩ | ⟨hx1, H⟩
    · refine K_t rfl hx1 ?_
      refine K_seq ?_
      refine K_reg [] [] ⟨[(4, (.one (.ptr 0 0 0))), (5, (I 1))], [.cells [.d (.int .i64 0), .d (.int .i64 0)]]⟩ (by kernel_rfl) trivial ?_
      refine K_gh ⟨[(4, (.one (.ptr 0 0 0))), (5, (I 1))], [.cells [.d (.int .i64 0), .d (.int .i64 0)]]⟩ (by kernel_rfl) ?_
      cases H
      refine K_ret ?_
      kernel_rfl
    · refine K_f rfl (Bool.eq_false_iff.2 hx1) ?_
      refine K_gh ⟨[(0, (I p1)), (1, (I p2)), (4, (.one (.ptr 0 0 0)))], [.cells [.d (.int .i64 0), .d (.int .i64 0)]]⟩ (by kernel_rfl) ?_
      refine K_skip ?_
      refine K_seq ?_
      obtain ⟨x2, hx2, H⟩ := bind_some' H
      refine K_reg [.r (I x2) []] [evF X k n_ratio_divisor [(I p1), (I p2)] [] = some ((I x2), [])] ⟨[(0, (I p1)), (1, (I p2)), (4, (.one (.ptr 0 0 0))), (6, (I x2))], [.cells [.d (.int .i64 0), .d (.int .i64 0)]]⟩ (by kernel_rfl) (A1 (T_ratio_divisor_ok k p1 p2 x2 hx2)) ?_
      refine K_seq ?_
      obtain ⟨hx3, H⟩ := guard_some H
      refine K_reg [] [x2 ≠ (0 : Int), x2 ≠ (0 : Int)] ⟨[(4, (.one (.ptr 0 0 0))), (7, (.one (.ptr 1 0 0)))], [.cells [.d (.int .i64 0), .d (.int .i64 0)], .cells [.d (.int .i64 (w64 (p1.tdiv x2))), .d (.int .i64 (w64 (p2.tdiv x2)))]]⟩ (by kernel_rfl) (AC hx3 (A1 hx3)) ?_
      refine K_seq ?_
      refine K_seq ?_
      obtain ⟨x4, hx4, H⟩ := bind_some' H
      refine K_reg [.r (B (((decide (0 ≤ (w64 (p1.tdiv x2))) && decide ((w64 (p1.tdiv x2)) ≤ 2305843009213693952)) && decide (1 ≤ (w64 (p2.tdiv x2)))) && decide ((w64 (p2.tdiv x2)) ≤ 1152921504606846976))) []] [evF X k n_ratio_within [(.agg [.d (.int .i64 (w64 (p1.tdiv x2))), .d (.int .i64 (w64 (p2.tdiv x2)))])] [] = some ((B (((decide (0 ≤ (w64 (p1.tdiv x2))) && decide ((w64 (p1.tdiv x2)) ≤ 2305843009213693952)) && decide (1 ≤ (w64 (p2.tdiv x2)))) && decide ((w64 (p2.tdiv x2)) ≤ 1152921504606846976))), [])] ⟨[(4, (.one (.ptr 0 0 0))), (7, (.one (.ptr 1 0 0))), (27, (B (!(((decide (0 ≤ (w64 (p1.tdiv x2))) && decide ((w64 (p1.tdiv x2)) ≤ 2305843009213693952)) && decide (1 ≤ (w64 (p2.tdiv x2)))) && decide ((w64 (p2.tdiv x2)) ≤ 1152921504606846976)))))], [.cells [.d (.int .i64 0), .d (.int .i64 0)], .cells [.d (.int .i64 (w64 (p1.tdiv x2))), .d (.int .i64 (w64 (p2.tdiv x2)))]]⟩ (by kernel_rfl) (A1 (T_ratio_within_ok k (w64 (p1.tdiv x2)) (w64 (p2.tdiv x2)) x4 hx4)) ?_
      rcases ite_some H with ⟨hx5, H⟩ | ⟨hx5, H⟩
      · refine K_t rfl hx5 ?_
        refine K_seq ?_
        refine K_reg [] [] ⟨[(4, (.one (.ptr 0 0 0))), (5, (I 1))], [.cells [.d (.int .i64 0), .d (.int .i64 0)]]⟩ (by kernel_rfl) trivial ?_
        refine K_gh ⟨[(4, (.one (.ptr 0 0 0))), (5, (I 1))], [.cells [.d (.int .i64 0), .d (.int .i64 0)]]⟩ (by kernel_rfl) ?_
        cases H
        refine K_ret ?_
        kernel_rfl
      · refine K_f rfl (Bool.eq_false_iff.2 hx5) ?_
        refine K_gh ⟨[(4, (.one (.ptr 0 0 0))), (7, (.one (.ptr 1 0 0)))], [.cells [.d (.int .i64 0), .d (.int .i64 0)], .cells [.d (.int .i64 (w64 (p1.tdiv x2))), .d (.int .i64 (w64 (p2.tdiv x2)))]]⟩ (by kernel_rfl) ?_
        refine K_skip ?_
        refine K_seq ?_
        refine K_reg [] [] ⟨[(4, (.one (.ptr 0 0 0))), (5, (I 0))], [.cells [.d (.int .i64 (w64 (p1.tdiv x2))), .d (.int .i64 (w64 (p2.tdiv x2)))]]⟩ (by kernel_rfl) trivial ?_
        refine K_gh ⟨[(4, (.one (.ptr 0 0 0))), (5, (I 0))], [.cells [.d (.int .i64 (w64 (p1.tdiv x2))), .d (.int .i64 (w64 (p2.tdiv x2)))]]⟩ (by kernel_rfl) ?_
        cases H
        refine K_ret ?_
        kernel_rfl
def T_ratio_Valid (k : Nat) (p1 : Int) (p2 : Int) : Option Bool := match k with
  | 0 => none
  | k + 1 => ((((T_ratio_within k p1 p2).bind fun x1 => (if (((decide (0 ≤ p1) && decide (p1 ≤ 2305843009213693952)) && decide (1 ≤ p2)) && decide (p2 ≤ 1152921504606846976)) = true then ((T_ratio_divisor k p1 p2).bind fun x4 => some (decide (x4 = 1))) else some false))).bind fun x5 => some x5)
theorem T_ratio_Valid_ok (k : Nat) (p1 : Int) (p2 : Int) (r : Bool) : T_ratio_Valid k p1 p2 = some r → evF X k n_ratio_Valid [(.agg [.d (.int .i64 p1), .d (.int .i64 p2)])] [] = some ((B r), []) := by
  intro H
  cases k with
  | zero => simp [T_ratio_Valid] at H
  | succ k =>
    simp only [T_ratio_Valid] at H
    refine F_in X_ratio_Valid rfl ?_
    refine K_seq ?_
    refine K_reg [] [] ⟨[(1, (.one (.ptr 0 0 0)))], [.cells [.d (.int .i64 p1), .d (.int .i64 p2)]]⟩ (by kernel_rfl) trivial ?_
    refine K_seq ?_
    obtain ⟨x5, hx5, H⟩ := bind_some' H
    refine K_of ⟨[(2, (B x5))], []⟩ ?_ ?_
    · clear H; have H := hx5; clear hx5; refine K_in ?_
      obtain ⟨x1, hx1, H⟩ := bind_some' H
      rcases ite_some H with ⟨hx3, H⟩ | ⟨hx3, H⟩
      · obtain ⟨x4, hx4, H⟩ := bind_some' H
        refine K_reg [.r (B (((decide (0 ≤ p1) && decide (p1 ≤ 2305843009213693952)) && decide (1 ≤ p2)) && decide (p2 ≤ 1152921504606846976))) [], .b true, .r (I x4) []] [evF X k n_ratio_within [(.agg [.d (.int .i64 p1), .d (.int .i64 p2)])] [] = some ((B (((decide (0 ≤ p1) && decide (p1 ≤ 2305843009213693952)) && decide (1 ≤ p2)) && decide (p2 ≤ 1152921504606846976))), []), (((decide (0 ≤ p1) && decide (p1 ≤ 2305843009213693952)) && decide (1 ≤ p2)) && decide (p2 ≤ 1152921504606846976)) = true, evF X k n_ratio_divisor [(I p1), (I p2)] [] = some ((I x4), [])] ⟨[(2, (B (decide (x4 = 1))))], []⟩ (by kernel_rfl) (AC (T_ratio_within_ok k p1 p2 x1 hx1) (AC hx3 (A1 (T_ratio_divisor_ok k p1 p2 x4 hx4)))) ?_
        cases H
        exact K_end rfl
      · refine K_reg [.r (B (((decide (0 ≤ p1) && decide (p1 ≤ 2305843009213693952)) && decide (1 ≤ p2)) && decide (p2 ≤ 1152921504606846976))) [], .b false] [evF X k n_ratio_within [(.agg [.d (.int .i64 p1), .d (.int .i64 p2)])] [] = some ((B (((decide (0 ≤ p1) && decide (p1 ≤ 2305843009213693952)) && decide (1 ≤ p2)) && decide (p2 ≤ 1152921504606846976))), []), (((decide (0 ≤ p1) && decide (p1 ≤ 2305843009213693952)) && decide (1 ≤ p2)) && decide (p2 ≤ 1152921504606846976)) = false] ⟨[(2, (B false))], []⟩ (by kernel_rfl) (AC (T_ratio_within_ok k p1 p2 x1 hx1) (A1 (Bool.eq_false_iff.2 hx3))) ?_
        cases H
        exact K_end rfl
    refine K_gh ⟨[(2, (B x5))], []⟩ (by kernel_rfl) ?_
    cases H
    refine K_ret ?_
    kernel_rfl
def T_math_bits_Mul64 (k : Nat) (p1 : Int) (p2 : Int) : Option Unit := match k with
  | 0 => none
  | k + 1 => some ()
theorem T_math_bits_Mul64_ok (k : Nat) (p1 : Int) (p2 : Int) (r : Unit) : T_math_bits_Mul64 k p1 p2 = some r → evF X k n_math_bits_Mul64 [(.one (.d (.int .u64 p1))), (.one (.d (.int .u64 p2)))] [] = some ((.tup [(false, [.d (.int .u64 (IntKind.wrap .u64 ((IntKind.wrap .u64 ((IntKind.wrap .u64 ((p1.fdiv (2 ^ 32)) * (p2.fdiv (2 ^ 32)))) + ((IntKind.wrap .u64 ((IntKind.wrap .u64 ((p1.fdiv (2 ^ 32)) * (bAnd .u64 p2 4294967295))) + ((IntKind.wrap .u64 ((bAnd .u64 p1 4294967295) * (bAnd .u64 p2 4294967295))).fdiv (2 ^ 32)))).fdiv (2 ^ 32)))) + ((IntKind.wrap .u64 ((bAnd .u64 (IntKind.wrap .u64 ((IntKind.wrap .u64 ((p1.fdiv (2 ^ 32)) * (bAnd .u64 p2 4294967295))) + ((IntKind.wrap .u64 ((bAnd .u64 p1 4294967295) * (bAnd .u64 p2 4294967295))).fdiv (2 ^ 32)))) 4294967295) + (IntKind.wrap .u64 ((bAnd .u64 p1 4294967295) * (p2.fdiv (2 ^ 32)))))).fdiv (2 ^ 32)))))]), (false, [.d (.int .u64 (IntKind.wrap .u64 (p1 * p2)))])]), []) := by
  intro H
  cases k with
  | zero => simp [T_math_bits_Mul64] at H
  | succ k =>
    simp only [T_math_bits_Mul64] at H
    refine F_in X_math_bits_Mul64 rfl ?_
    refine K_seq ?_
    refine K_reg [] [] ⟨[(0, (.one (.d (.int .u64 p1)))), (1, (.one (.d (.int .u64 p2))))], []⟩ (by kernel_rfl) trivial ?_
    refine K_seq ?_
    refine K_reg [] [] ⟨[(0, (.one (.d (.int .u64 p1)))), (1, (.one (.d (.int .u64 p2)))), (6, (.one (.d (.int .u64 (bAnd .u64 p1 4294967295)))))], []⟩ (by kernel_rfl) trivial ?_
    refine K_seq ?_
    refine K_reg [] [(0 : Int) ≤ 32] ⟨[(0, (.one (.d (.int .u64 p1)))), (1, (.one (.d (.int .u64 p2)))), (6, (.one (.d (.int .u64 (bAnd .u64 p1 4294967295))))), (7, (.one (.d (.int .u64 (p1.fdiv (2 ^ 32))))))], []⟩ (by kernel_rfl) (A1 (by decide)) ?_
    refine K_seq ?_
    refine K_reg [] [] ⟨[(0, (.one (.d (.int .u64 p1)))), (1, (.one (.d (.int .u64 p2)))), (6, (.one (.d (.int .u64 (bAnd .u64 p1 4294967295))))), (7, (.one (.d (.int .u64 (p1.fdiv (2 ^ 32)))))), (8, (.one (.d (.int .u64 (bAnd .u64 p2 4294967295)))))], []⟩ (by kernel_rfl) trivial ?_
    refine K_seq ?_
    refine K_reg [] [(0 : Int) ≤ 32] ⟨[(0, (.one (.d (.int .u64 p1)))), (1, (.one (.d (.int .u64 p2)))), (6, (.one (.d (.int .u64 (bAnd .u64 p1 4294967295))))), (7, (.one (.d (.int .u64 (p1.fdiv (2 ^ 32)))))), (8, (.one (.d (.int .u64 (bAnd .u64 p2 4294967295))))), (9, (.one (.d (.int .u64 (p2.fdiv (2 ^ 32))))))], []⟩ (by kernel_rfl) (A1 (by decide)) ?_
    refine K_seq ?_
    refine K_reg [] [] ⟨[(0, (.one (.d (.int .u64 p1)))), (1, (.one (.d (.int .u64 p2)))), (6, (.one (.d (.int .u64 (bAnd .u64 p1 4294967295))))), (7, (.one (.d (.int .u64 (p1.fdiv (2 ^ 32)))))), (8, (.one (.d (.int .u64 (bAnd .u64 p2 4294967295))))), (9, (.one (.d (.int .u64 (p2.fdiv (2 ^ 32)))))), (10, (.one (.d (.int .u64 (IntKind.wrap .u64 ((bAnd .u64 p1 4294967295) * (bAnd .u64 p2 4294967295)))))))], []⟩ (by kernel_rfl) trivial ?_
    refine K_seq ?_
    refine K_reg [] [(0 : Int) ≤ 32] ⟨[(0, (.one (.d (.int .u64 p1)))), (1, (.one (.d (.int .u64 p2)))), (6, (.one (.d (.int .u64 (bAnd .u64 p1 4294967295))))), (7, (.one (.d (.int .u64 (p1.fdiv (2 ^ 32)))))), (9, (.one (.d (.int .u64 (p2.fdiv (2 ^ 32)))))), (11, (.one (.d (.int .u64 (IntKind.wrap .u64 ((IntKind.wrap .u64 ((p1.fdiv (2 ^ 32)) * (bAnd .u64 p2 4294967295))) + ((IntKind.wrap .u64 ((bAnd .u64 p1 4294967295) * (bAnd .u64 p2 4294967295))).fdiv (2 ^ 32))))))))], []⟩ (by kernel_rfl) (A1 (by decide)) ?_
    refine K_seq ?_
    refine K_reg [] [] ⟨[(0, (.one (.d (.int .u64 p1)))), (1, (.one (.d (.int .u64 p2)))), (6, (.one (.d (.int .u64 (bAnd .u64 p1 4294967295))))), (7, (.one (.d (.int .u64 (p1.fdiv (2 ^ 32)))))), (9, (.one (.d (.int .u64 (p2.fdiv (2 ^ 32)))))), (11, (.one (.d (.int .u64 (IntKind.wrap .u64 ((IntKind.wrap .u64 ((p1.fdiv (2 ^ 32)) * (bAnd .u64 p2 4294967295))) + ((IntKind.wrap .u64 ((bAnd .u64 p1 4294967295) * (bAnd .u64 p2 4294967295))).fdiv (2 ^ 32)))))))), (12, (.one (.d (.int .u64 (bAnd .u64 (IntKind.wrap .u64 ((IntKind.wrap .u64 ((p1.fdiv (2 ^ 32)) * (bAnd .u64 p2 4294967295))) + ((IntKind.wrap .u64 ((bAnd .u64 p1 4294967295) * (bAnd .u64 p2 4294967295))).fdiv (2 ^ 32)))) 4294967295)))))], []⟩ (by kernel_rfl) trivial ?_
    refine K_seq ?_
    refine K_reg [] [(0 : Int) ≤ 32] ⟨[(0, (.one (.d (.int .u64 p1)))), (1, (.one (.d (.int .u64 p2)))), (6, (.one (.d (.int .u64 (bAnd .u64 p1 4294967295))))), (7, (.one (.d (.int .u64 (p1.fdiv (2 ^ 32)))))), (9, (.one (.d (.int .u64 (p2.fdiv (2 ^ 32)))))), (12, (.one (.d (.int .u64 (bAnd .u64 (IntKind.wrap .u64 ((IntKind.wrap .u64 ((p1.fdiv (2 ^ 32)) * (bAnd .u64 p2 4294967295))) + ((IntKind.wrap .u64 ((bAnd .u64 p1 4294967295) * (bAnd .u64 p2 4294967295))).fdiv (2 ^ 32)))) 4294967295))))), (13, (.one (.d (.int .u64 ((IntKind.wrap .u64 ((IntKind.wrap .u64 ((p1.fdiv (2 ^ 32)) * (bAnd .u64 p2 4294967295))) + ((IntKind.wrap .u64 ((bAnd .u64 p1 4294967295) * (bAnd .u64 p2 4294967295))).fdiv (2 ^ 32)))).fdiv (2 ^ 32))))))], []⟩ (by kernel_rfl) (A1 (by decide)) ?_
    refine K_seq ?_
    refine K_reg [] [] ⟨[(0, (.one (.d (.int .u64 p1)))), (1, (.one (.d (.int .u64 p2)))), (7, (.one (.d (.int .u64 (p1.fdiv (2 ^ 32)))))), (9, (.one (.d (.int .u64 (p2.fdiv (2 ^ 32)))))), (12, (.one (.d (.int .u64 (IntKind.wrap .u64 ((bAnd .u64 (IntKind.wrap .u64 ((IntKind.wrap .u64 ((p1.fdiv (2 ^ 32)) * (bAnd .u64 p2 4294967295))) + ((IntKind.wrap .u64 ((bAnd .u64 p1 4294967295) * (bAnd .u64 p2 4294967295))).fdiv (2 ^ 32)))) 4294967295) + (IntKind.wrap .u64 ((bAnd .u64 p1 4294967295) * (p2.fdiv (2 ^ 32)))))))))), (13, (.one (.d (.int .u64 ((IntKind.wrap .u64 ((IntKind.wrap .u64 ((p1.fdiv (2 ^ 32)) * (bAnd .u64 p2 4294967295))) + ((IntKind.wrap .u64 ((bAnd .u64 p1 4294967295) * (bAnd .u64 p2 4294967295))).fdiv (2 ^ 32)))).fdiv (2 ^ 32))))))], []⟩ (by kernel_rfl) trivial ?_
    refine K_seq ?_
    refine K_reg [] [(0 : Int) ≤ 32] ⟨[(0, (.one (.d (.int .u64 p1)))), (1, (.one (.d (.int .u64 p2)))), (4, (.one (.d (.int .u64 (IntKind.wrap .u64 ((IntKind.wrap .u64 ((IntKind.wrap .u64 ((p1.fdiv (2 ^ 32)) * (p2.fdiv (2 ^ 32)))) + ((IntKind.wrap .u64 ((IntKind.wrap .u64 ((p1.fdiv (2 ^ 32)) * (bAnd .u64 p2 4294967295))) + ((IntKind.wrap .u64 ((bAnd .u64 p1 4294967295) * (bAnd .u64 p2 4294967295))).fdiv (2 ^ 32)))).fdiv (2 ^ 32)))) + ((IntKind.wrap .u64 ((bAnd .u64 (IntKind.wrap .u64 ((IntKind.wrap .u64 ((p1.fdiv (2 ^ 32)) * (bAnd .u64 p2 4294967295))) + ((IntKind.wrap .u64 ((bAnd .u64 p1 4294967295) * (bAnd .u64 p2 4294967295))).fdiv (2 ^ 32)))) 4294967295) + (IntKind.wrap .u64 ((bAnd .u64 p1 4294967295) * (p2.fdiv (2 ^ 32)))))).fdiv (2 ^ 32))))))))], []⟩ (by kernel_rfl) (A1 (by decide)) ?_
    refine K_seq ?_
    refine K_reg [] [] ⟨[(4, (.one (.d (.int .u64 (IntKind.wrap .u64 ((IntKind.wrap .u64 ((IntKind.wrap .u64 ((p1.fdiv (2 ^ 32)) * (p2.fdiv (2 ^ 32)))) + ((IntKind.wrap .u64 ((IntKind.wrap .u64 ((p1.fdiv (2 ^ 32)) * (bAnd .u64 p2 4294967295))) + ((IntKind.wrap .u64 ((bAnd .u64 p1 4294967295) * (bAnd .u64 p2 4294967295))).fdiv (2 ^ 32)))).fdiv (2 ^ 32)))) + ((IntKind.wrap .u64 ((bAnd .u64 (IntKind.wrap .u64 ((IntKind.wrap .u64 ((p1.fdiv (2 ^ 32)) * (bAnd .u64 p2 4294967295))) + ((IntKind.wrap .u64 ((bAnd .u64 p1 4294967295) * (bAnd .u64 p2 4294967295))).fdiv (2 ^ 32)))) 4294967295) + (IntKind.wrap .u64 ((bAnd .u64 p1 4294967295) * (p2.fdiv (2 ^ 32)))))).fdiv (2 ^ 32)))))))), (5, (.one (.d (.int .u64 (IntKind.wrap .u64 (p1 * p2))))))], []⟩ (by kernel_rfl) trivial ?_
    refine K_gh ⟨[(4, (.one (.d (.int .u64 (IntKind.wrap .u64 ((IntKind.wrap .u64 ((IntKind.wrap .u64 ((p1.fdiv (2 ^ 32)) * (p2.fdiv (2 ^ 32)))) + ((IntKind.wrap .u64 ((IntKind.wrap .u64 ((p1.fdiv (2 ^ 32)) * (bAnd .u64 p2 4294967295))) + ((IntKind.wrap .u64 ((bAnd .u64 p1 4294967295) * (bAnd .u64 p2 4294967295))).fdiv (2 ^ 32)))).fdiv (2 ^ 32)))) + ((IntKind.wrap .u64 ((bAnd .u64 (IntKind.wrap .u64 ((IntKind.wrap .u64 ((p1.fdiv (2 ^ 32)) * (bAnd .u64 p2 4294967295))) + ((IntKind.wrap .u64 ((bAnd .u64 p1 4294967295) * (bAnd .u64 p2 4294967295))).fdiv (2 ^ 32)))) 4294967295) + (IntKind.wrap .u64 ((bAnd .u64 p1 4294967295) * (p2.fdiv (2 ^ 32)))))).fdiv (2 ^ 32)))))))), (5, (.one (.d (.int .u64 (IntKind.wrap .u64 (p1 * p2))))))], []⟩ (by kernel_rfl) ?_
    cases H
    refine K_ret ?_
    kernel_rfl

def T_math_bits_Div64 (k : Nat) (p1 : Int) (p2 : Int) (p3 : Int) : Option Unit := match k with
  | 0 => none
  | k + 1 => (if p3 = 0 then none else (if p3 ≤ p1 then none else (if p1 = 0 then (if p3 ≠ 0 then some () else none) else none)))
theorem T_math_bits_Div64_ok (k : Nat) (p1 : Int) (p2 : Int) (p3 : Int) (r : Unit) : T_math_bits_Div64 k p1 p2 p3 = some r → evF X k n_math_bits_Div64 [(.one (.d (.int .u64 p1))), (.one (.d (.int .u64 p2))), (.one (.d (.int .u64 p3)))] [] = some ((.tup [(false, [.d (.int .u64 (IntKind.wrap .u64 (p2.tdiv p3)))]), (false, [.d (.int .u64 (p2.tmod p3))])]), []) := by
  intro H
  cases k with
  | zero => simp [T_math_bits_Div64] at H
  | succ k =>
    simp only [T_math_bits_Div64] at H
    refine F_in X_math_bits_Div64 rfl ?_
    refine K_seq ?_
    refine K_reg [] [] ⟨[(0, (.one (.d (.int .u64 p1)))), (1, (.one (.d (.int .u64 p2)))), (2, (.one (.d (.int .u64 p3))))], []⟩ (by kernel_rfl) trivial ?_
    refine K_seq ?_
    refine K_seq ?_
    refine K_reg [] [] ⟨[(0, (.one (.d (.int .u64 p1)))), (1, (.one (.d (.int .u64 p2)))), (2, (.one (.d (.int .u64 p3)))), (20, (B (decide (p3 = 0))))], []⟩ (by kernel_rfl) trivial ?_
    rcases ite_some H with ⟨hx1, H⟩ | ⟨hx1, H⟩
    · refine K_t rfl (decide_eq_true hx1) ?_
      cases H
    · refine K_f rfl (decide_eq_false hx1) ?_
      refine K_gh ⟨[(0, (.one (.d (.int .u64 p1)))), (1, (.one (.d (.int .u64 p2)))), (2, (.one (.d (.int .u64 p3))))], []⟩ (by kernel_rfl) ?_
      refine K_skip ?_
      refine K_seq ?_
      refine K_seq ?_
      refine K_reg [] [] ⟨[(0, (.one (.d (.int .u64 p1)))), (1, (.one (.d (.int .u64 p2)))), (2, (.one (.d (.int .u64 p3)))), (24, (B (decide (p3 ≤ p1))))], []⟩ (by kernel_rfl) trivial ?_
      rcases ite_some H with ⟨hx2, H⟩ | ⟨hx2, H⟩
      · refine K_t rfl (decide_eq_true hx2) ?_
        cases H
      · refine K_f rfl (decide_eq_false hx2) ?_
        refine K_gh ⟨[(0, (.one (.d (.int .u64 p1)))), (1, (.one (.d (.int .u64 p2)))), (2, (.one (.d (.int .u64 p3))))], []⟩ (by kernel_rfl) ?_
        refine K_skip ?_
        refine K_seq ?_
        refine K_seq ?_
        refine K_reg [] [] ⟨[(0, (.one (.d (.int .u64 p1)))), (1, (.one (.d (.int .u64 p2)))), (2, (.one (.d (.int .u64 p3)))), (27, (B (decide (p1 = 0))))], []⟩ (by kernel_rfl) trivial ?_
        rcases ite_some H with ⟨hx3, H⟩ | ⟨hx3, H⟩
        · refine K_t rfl (decide_eq_true hx3) ?_
          refine K_seq ?_
          obtain ⟨hx4, H⟩ := guard_some H
          refine K_reg [] [p3 ≠ (0 : Int), p3 ≠ (0 : Int)] ⟨[(6, (.one (.d (.int .u64 (IntKind.wrap .u64 (p2.tdiv p3)))))), (7, (.one (.d (.int .u64 (p2.tmod p3)))))], []⟩ (by kernel_rfl) (AC hx4 (A1 hx4)) ?_
          refine K_gh ⟨[(6, (.one (.d (.int .u64 (IntKind.wrap .u64 (p2.tdiv p3)))))), (7, (.one (.d (.int .u64 (p2.tmod p3)))))], []⟩ (by kernel_rfl) ?_
          cases H
          refine K_ret ?_
          kernel_rfl
        · refine K_f rfl (decide_eq_false hx3) ?_
          refine K_gh ⟨[(0, (.one (.d (.int .u64 p1)))), (1, (.one (.d (.int .u64 p2)))), (2, (.one (.d (.int .u64 p3))))], []⟩ (by kernel_rfl) ?_
          refine K_skip ?_
          refine K_seq ?_
          cases H
def T_ratio_Add (k : Nat) (p1 : Int) (p2 : Int) (p3 : Int) (p4 : Int) : Option (Int × Int × Int) := match k with
  | 0 => none
  | k + 1 => ((((T_ratio_Valid k p1 p2).bind fun x1 => (if (!x1) = true then some true else ((T_ratio_Valid k p3 p4).bind fun x4 => some (!x4))))).bind fun x5 => (if x5 = true then some (0, 0, 1) else (T_ratio_divisor k p2 p4).bind fun x7 => (if x7 ≠ 0 then (T_math_bits_Mul64 k (IntKind.wrap .u64 (p1)) (IntKind.wrap .u64 ((w64 (p4.tdiv x7))))).bind fun x9 => (if x7 ≠ 0 then (T_math_bits_Mul64 k (IntKind.wrap .u64 (p3)) (IntKind.wrap .u64 ((w64 (p2.tdiv x7))))).bind fun x11 => (addT k (IntKind.wrap .u64 ((IntKind.wrap .u64 (p1)) * (IntKind.wrap .u64 ((w64 (p4.tdiv x7)))))) (IntKind.wrap .u64 ((IntKind.wrap .u64 (p3)) * (IntKind.wrap .u64 ((w64 (p2.tdiv x7)))))) 0).bind fun x12 => (addT k (IntKind.wrap .u64 ((IntKind.wrap .u64 ((IntKind.wrap .u64 (((IntKind.wrap .u64 (p1)).fdiv (2 ^ 32)) * ((IntKind.wrap .u64 ((w64 (p4.tdiv x7)))).fdiv (2 ^ 32)))) + ((IntKind.wrap .u64 ((IntKind.wrap .u64 (((IntKind.wrap .u64 (p1)).fdiv (2 ^ 32)) * (bAnd .u64 (IntKind.wrap .u64 ((w64 (p4.tdiv x7)))) 4294967295))) + ((IntKind.wrap .u64 ((bAnd .u64 (IntKind.wrap .u64 (p1)) 4294967295) * (bAnd .u64 (IntKind.wrap .u64 ((w64 (p4.tdiv x7)))) 4294967295))).fdiv (2 ^ 32)))).fdiv (2 ^ 32)))) + ((IntKind.wrap .u64 ((bAnd .u64 (IntKind.wrap .u64 ((IntKind.wrap .u64 (((IntKind.wrap .u64 (p1)).fdiv (2 ^ 32)) * (bAnd .u64 (IntKind.wrap .u64 ((w64 (p4.tdiv x7)))) 4294967295))) + ((IntKind.wrap .u64 ((bAnd .u64 (IntKind.wrap .u64 (p1)) 4294967295) * (bAnd .u64 (IntKind.wrap .u64 ((w64 (p4.tdiv x7)))) 4294967295))).fdiv (2 ^ 32)))) 4294967295) + (IntKind.wrap .u64 ((bAnd .u64 (IntKind.wrap .u64 (p1)) 4294967295) * ((IntKind.wrap .u64 ((w64 (p4.tdiv x7)))).fdiv (2 ^ 32)))))).fdiv (2 ^ 32)))) (IntKind.wrap .u64 ((IntKind.wrap .u64 ((IntKind.wrap .u64 (((IntKind.wrap .u64 (p3)).fdiv (2 ^ 32)) * ((IntKind.wrap .u64 ((w64 (p2.tdiv x7)))).fdiv (2 ^ 32)))) + ((IntKind.wrap .u64 ((IntKind.wrap .u64 (((IntKind.wrap .u64 (p3)).fdiv (2 ^ 32)) * (bAnd .u64 (IntKind.wrap .u64 ((w64 (p2.tdiv x7)))) 4294967295))) + ((IntKind.wrap .u64 ((bAnd .u64 (IntKind.wrap .u64 (p3)) 4294967295) * (bAnd .u64 (IntKind.wrap .u64 ((w64 (p2.tdiv x7)))) 4294967295))).fdiv (2 ^ 32)))).fdiv (2 ^ 32)))) + ((IntKind.wrap .u64 ((bAnd .u64 (IntKind.wrap .u64 ((IntKind.wrap .u64 (((IntKind.wrap .u64 (p3)).fdiv (2 ^ 32)) * (bAnd .u64 (IntKind.wrap .u64 ((w64 (p2.tdiv x7)))) 4294967295))) + ((IntKind.wrap .u64 ((bAnd .u64 (IntKind.wrap .u64 (p3)) 4294967295) * (bAnd .u64 (IntKind.wrap .u64 ((w64 (p2.tdiv x7)))) 4294967295))).fdiv (2 ^ 32)))) 4294967295) + (IntKind.wrap .u64 ((bAnd .u64 (IntKind.wrap .u64 (p3)) 4294967295) * ((IntKind.wrap .u64 ((w64 (p2.tdiv x7)))).fdiv (2 ^ 32)))))).fdiv (2 ^ 32)))) x12.2).bind fun x13 => (if (IntKind.wrap .u64 (x7)) ≠ 0 then (T_math_bits_Div64 k (x13.1.tmod (IntKind.wrap .u64 (x7))) x12.1 (IntKind.wrap .u64 (x7))).bind fun x15 => (T_ratio_divisor k (w64 ((x12.1.tmod (IntKind.wrap .u64 (x7))))) x7).bind fun x16 => (if (IntKind.wrap .u64 (x16)) ≤ x13.1 then some (0, 0, 4) else (T_math_bits_Div64 k x13.1 x12.1 (IntKind.wrap .u64 (x16))).bind fun x18 => (if x7 ≠ 0 then (if (IntKind.wrap .u64 (x16)) ≠ 0 then (T_math_bits_Mul64 k (IntKind.wrap .u64 ((w64 (p2.tdiv x7)))) (IntKind.wrap .u64 ((IntKind.wrap .u64 (p4)).tdiv (IntKind.wrap .u64 (x16))))).bind fun x21 => (if ((decide (2305843009213693952 < (IntKind.wrap .u64 (x12.1.tdiv (IntKind.wrap .u64 (x16))))) || decide (0 < (IntKind.wrap .u64 ((IntKind.wrap .u64 ((IntKind.wrap .u64 (((IntKind.wrap .u64 ((w64 (p2.tdiv x7)))).fdiv (2 ^ 32)) * ((IntKind.wrap .u64 ((IntKind.wrap .u64 (p4)).tdiv (IntKind.wrap .u64 (x16)))).fdiv (2 ^ 32)))) + ((IntKind.wrap .u64 ((IntKind.wrap .u64 (((IntKind.wrap .u64 ((w64 (p2.tdiv x7)))).fdiv (2 ^ 32)) * (bAnd .u64 (IntKind.wrap .u64 ((IntKind.wrap .u64 (p4)).tdiv (IntKind.wrap .u64 (x16)))) 4294967295))) + ((IntKind.wrap .u64 ((bAnd .u64 (IntKind.wrap .u64 ((w64 (p2.tdiv x7)))) 4294967295) * (bAnd .u64 (IntKind.wrap .u64 ((IntKind.wrap .u64 (p4)).tdiv (IntKind.wrap .u64 (x16)))) 4294967295))).fdiv (2 ^ 32)))).fdiv (2 ^ 32)))) + ((IntKind.wrap .u64 ((bAnd .u64 (IntKind.wrap .u64 ((IntKind.wrap .u64 (((IntKind.wrap .u64 ((w64 (p2.tdiv x7)))).fdiv (2 ^ 32)) * (bAnd .u64 (IntKind.wrap .u64 ((IntKind.wrap .u64 (p4)).tdiv (IntKind.wrap .u64 (x16)))) 4294967295))) + ((IntKind.wrap .u64 ((bAnd .u64 (IntKind.wrap .u64 ((w64 (p2.tdiv x7)))) 4294967295) * (bAnd .u64 (IntKind.wrap .u64 ((IntKind.wrap .u64 (p4)).tdiv (IntKind.wrap .u64 (x16)))) 4294967295))).fdiv (2 ^ 32)))) 4294967295) + (IntKind.wrap .u64 ((bAnd .u64 (IntKind.wrap .u64 ((w64 (p2.tdiv x7)))) 4294967295) * ((IntKind.wrap .u64 ((IntKind.wrap .u64 (p4)).tdiv (IntKind.wrap .u64 (x16)))).fdiv (2 ^ 32)))))).fdiv (2 ^ 32)))))) || decide (1152921504606846976 < (IntKind.wrap .u64 ((IntKind.wrap .u64 ((w64 (p2.tdiv x7)))) * (IntKind.wrap .u64 ((IntKind.wrap .u64 (p4)).tdiv (IntKind.wrap .u64 (x16)))))))) = true then some (0, 0, 4) else some ((w64 ((IntKind.wrap .u64 (x12.1.tdiv (IntKind.wrap .u64 (x16)))))), (w64 ((IntKind.wrap .u64 ((IntKind.wrap .u64 ((w64 (p2.tdiv x7)))) * (IntKind.wrap .u64 ((IntKind.wrap .u64 (p4)).tdiv (IntKind.wrap .u64 (x16)))))))), 0)) else none) else none)) else none) else none) else none)))
theorem T_ratio_Add_ok (k : Nat) (p1 : Int) (p2 : Int) (p3 : Int) (p4 : Int) (r : Int × Int × Int) : T_ratio_Add k p1 p2 p3 p4 = some r → evF X k n_ratio_Add [(.agg [.d (.int .i64 p1), .d (.int .i64 p2)]), (.agg [.d (.int .i64 p3), .d (.int .i64 p4)])] [] = some ((.tup [(true, [.d (.int .i64 r.1), .d (.int .i64 r.2.1)]), (false, [.d (.int .i64 r.2.2)])]), []) := by
  intro H
  cases k with
  | zero => simp [T_ratio_Add] at H
  | succ k =>
    simp only [T_ratio_Add] at H
    refine F_in X_ratio_Add rfl ?_
    refine K_seq ?_
    refine K_reg [] [] ⟨[(2, (.one (.ptr 0 0 0))), (3, (.one (.ptr 1 0 0))), (4, (.one (.ptr 2 0 0)))], [.cells [.d (.int .i64 p1), .d (.int .i64 p2)], .cells [.d (.int .i64 p3), .d (.int .i64 p4)], .cells [.d (.int .i64 0), .d (.int .i64 0)]]⟩ (by kernel_rfl) trivial ?_
    refine K_seq ?_
    refine K_seq ?_
    obtain ⟨x5, hx5, H⟩ := bind_some' H
    refine K_of ⟨[(2, (.one (.ptr 0 0 0))), (3, (.one (.ptr 1 0 0))), (4, (.one (.ptr 2 0 0))), (26, (B x5))], [.cells [.d (.int .i64 p1), .d (.int .i64 p2)], .cells [.d (.int .i64 p3), .d (.int .i64 p4)], .cells [.d (.int .i64 0), .d (.int .i64 0)]]⟩ ?_ ?_
    · clear H; have H := hx5; clear hx5; refine K_in ?_
      obtain ⟨x1, hx1, H⟩ := bind_some' H
      rcases ite_some H with ⟨hx3, H⟩ | ⟨hx3, H⟩
      · refine K_reg [.r (B x1) [], .b true] [evF X k n_ratio_Valid [(.agg [.d (.int .i64 p1), .d (.int .i64 p2)])] [] = some ((B x1), []), (!x1) = true] ⟨[(2, (.one (.ptr 0 0 0))), (3, (.one (.ptr 1 0 0))), (4, (.one (.ptr 2 0 0))), (26, (B true))], [.cells [.d (.int .i64 p1), .d (.int .i64 p2)], .cells [.d (.int .i64 p3), .d (.int .i64 p4)], .cells [.d (.int .i64 0), .d (.int .i64 0)]]⟩ (by kernel_rfl) (AC (T_ratio_Valid_ok k p1 p2 x1 hx1) (A1 hx3)) ?_
        cases H
        exact K_end rfl
      · obtain ⟨x4, hx4, H⟩ := bind_some' H
        refine K_reg [.r (B x1) [], .b false, .r (B x4) []] [evF X k n_ratio_Valid [(.agg [.d (.int .i64 p1), .d (.int .i64 p2)])] [] = some ((B x1), []), (!x1) = false, evF X k n_ratio_Valid [(.agg [.d (.int .i64 p3), .d (.int .i64 p4)])] [] = some ((B x4), [])] ⟨[(2, (.one (.ptr 0 0 0))), (3, (.one (.ptr 1 0 0))), (4, (.one (.ptr 2 0 0))), (26, (B (!x4)))], [.cells [.d (.int .i64 p1), .d (.int .i64 p2)], .cells [.d (.int .i64 p3), .d (.int .i64 p4)], .cells [.d (.int .i64 0), .d (.int .i64 0)]]⟩ (by kernel_rfl) (AC (T_ratio_Valid_ok k p1 p2 x1 hx1) (AC (Bool.eq_false_iff.2 hx3) (A1 (T_ratio_Valid_ok k p3 p4 x4 hx4)))) ?_
        cases H
        exact K_end rfl
    rcases ite_some H with ⟨hx6, H⟩ | ⟨hx6, H⟩
    · refine K_t rfl hx6 ?_
      refine K_seq ?_
      refine K_reg [] [] ⟨[(4, (.one (.ptr 0 0 0))), (5, (I 1))], [.cells [.d (.int .i64 0), .d (.int .i64 0)]]⟩ (by kernel_rfl) trivial ?_
      refine K_gh ⟨[(4, (.one (.ptr 0 0 0))), (5, (I 1))], [.cells [.d (.int .i64 0), .d (.int .i64 0)]]⟩ (by kernel_rfl) ?_
      cases H
      refine K_ret ?_
      kernel_rfl
    · refine K_f rfl (Bool.eq_false_iff.2 hx6) ?_
      refine K_gh ⟨[(2, (.one (.ptr 0 0 0))), (3, (.one (.ptr 1 0 0))), (4, (.one (.ptr 2 0 0)))], [.cells [.d (.int .i64 p1), .d (.int .i64 p2)], .cells [.d (.int .i64 p3), .d (.int .i64 p4)], .cells [.d (.int .i64 0), .d (.int .i64 0)]]⟩ (by kernel_rfl) ?_
      refine K_skip ?_
      refine K_seq ?_
      obtain ⟨x7, hx7, H⟩ := bind_some' H
      refine K_reg [.r (I x7) []] [evF X k n_ratio_divisor [(I p2), (I p4)] [] = some ((I x7), [])] ⟨[(2, (.one (.ptr 0 0 0))), (3, (.one (.ptr 1 0 0))), (4, (.one (.ptr 2 0 0))), (6, (I x7))], [.cells [.d (.int .i64 p1), .d (.int .i64 p2)], .cells [.d (.int .i64 p3), .d (.int .i64 p4)], .cells [.d (.int .i64 0), .d (.int .i64 0)]]⟩ (by kernel_rfl) (A1 (T_ratio_divisor_ok k p2 p4 x7 hx7)) ?_
      refine K_seq ?_
      obtain ⟨hx8, H⟩ := guard_some H
      obtain ⟨x9, hx9, H⟩ := bind_some' H
      refine K_reg [.r (.tup [(false, [.d (.int .u64 (IntKind.wrap .u64 ((IntKind.wrap .u64 ((IntKind.wrap .u64 (((IntKind.wrap .u64 (p1)).fdiv (2 ^ 32)) * ((IntKind.wrap .u64 ((w64 (p4.tdiv x7)))).fdiv (2 ^ 32)))) + ((IntKind.wrap .u64 ((IntKind.wrap .u64 (((IntKind.wrap .u64 (p1)).fdiv (2 ^ 32)) * (bAnd .u64 (IntKind.wrap .u64 ((w64 (p4.tdiv x7)))) 4294967295))) + ((IntKind.wrap .u64 ((bAnd .u64 (IntKind.wrap .u64 (p1)) 4294967295) * (bAnd .u64 (IntKind.wrap .u64 ((w64 (p4.tdiv x7)))) 4294967295))).fdiv (2 ^ 32)))).fdiv (2 ^ 32)))) + ((IntKind.wrap .u64 ((bAnd .u64 (IntKind.wrap .u64 ((IntKind.wrap .u64 (((IntKind.wrap .u64 (p1)).fdiv (2 ^ 32)) * (bAnd .u64 (IntKind.wrap .u64 ((w64 (p4.tdiv x7)))) 4294967295))) + ((IntKind.wrap .u64 ((bAnd .u64 (IntKind.wrap .u64 (p1)) 4294967295) * (bAnd .u64 (IntKind.wrap .u64 ((w64 (p4.tdiv x7)))) 4294967295))).fdiv (2 ^ 32)))) 4294967295) + (IntKind.wrap .u64 ((bAnd .u64 (IntKind.wrap .u64 (p1)) 4294967295) * ((IntKind.wrap .u64 ((w64 (p4.tdiv x7)))).fdiv (2 ^ 32)))))).fdiv (2 ^ 32)))))]), (false, [.d (.int .u64 (IntKind.wrap .u64 ((IntKind.wrap .u64 (p1)) * (IntKind.wrap .u64 ((w64 (p4.tdiv x7)))))))])]) []] [x7 ≠ (0 : Int), evF X k n_math_bits_Mul64 [(.one (.d (.int .u64 (IntKind.wrap .u64 (p1))))), (.one (.d (.int .u64 (IntKind.wrap .u64 ((w64 (p4.tdiv x7)))))))] [] = some ((.tup [(false, [.d (.int .u64 (IntKind.wrap .u64 ((IntKind.wrap .u64 ((IntKind.wrap .u64 (((IntKind.wrap .u64 (p1)).fdiv (2 ^ 32)) * ((IntKind.wrap .u64 ((w64 (p4.tdiv x7)))).fdiv (2 ^ 32)))) + ((IntKind.wrap .u64 ((IntKind.wrap .u64 (((IntKind.wrap .u64 (p1)).fdiv (2 ^ 32)) * (bAnd .u64 (IntKind.wrap .u64 ((w64 (p4.tdiv x7)))) 4294967295))) + ((IntKind.wrap .u64 ((bAnd .u64 (IntKind.wrap .u64 (p1)) 4294967295) * (bAnd .u64 (IntKind.wrap .u64 ((w64 (p4.tdiv x7)))) 4294967295))).fdiv (2 ^ 32)))).fdiv (2 ^ 32)))) + ((IntKind.wrap .u64 ((bAnd .u64 (IntKind.wrap .u64 ((IntKind.wrap .u64 (((IntKind.wrap .u64 (p1)).fdiv (2 ^ 32)) * (bAnd .u64 (IntKind.wrap .u64 ((w64 (p4.tdiv x7)))) 4294967295))) + ((IntKind.wrap .u64 ((bAnd .u64 (IntKind.wrap .u64 (p1)) 4294967295) * (bAnd .u64 (IntKind.wrap .u64 ((w64 (p4.tdiv x7)))) 4294967295))).fdiv (2 ^ 32)))) 4294967295) + (IntKind.wrap .u64 ((bAnd .u64 (IntKind.wrap .u64 (p1)) 4294967295) * ((IntKind.wrap .u64 ((w64 (p4.tdiv x7)))).fdiv (2 ^ 32)))))).fdiv (2 ^ 32)))))]), (false, [.d (.int .u64 (IntKind.wrap .u64 ((IntKind.wrap .u64 (p1)) * (IntKind.wrap .u64 ((w64 (p4.tdiv x7)))))))])]), [])] ⟨[(2, (.one (.ptr 0 0 0))), (3, (.one (.ptr 1 0 0))), (4, (.one (.ptr 2 0 0))), (6, (I x7)), (7, (.one (.d (.int .u64 (IntKind.wrap .u64 ((IntKind.wrap .u64 ((IntKind.wrap .u64 (((IntKind.wrap .u64 (p1)).fdiv (2 ^ 32)) * ((IntKind.wrap .u64 ((w64 (p4.tdiv x7)))).fdiv (2 ^ 32)))) + ((IntKind.wrap .u64 ((IntKind.wrap .u64 (((IntKind.wrap .u64 (p1)).fdiv (2 ^ 32)) * (bAnd .u64 (IntKind.wrap .u64 ((w64 (p4.tdiv x7)))) 4294967295))) + ((IntKind.wrap .u64 ((bAnd .u64 (IntKind.wrap .u64 (p1)) 4294967295) * (bAnd .u64 (IntKind.wrap .u64 ((w64 (p4.tdiv x7)))) 4294967295))).fdiv (2 ^ 32)))).fdiv (2 ^ 32)))) + ((IntKind.wrap .u64 ((bAnd .u64 (IntKind.wrap .u64 ((IntKind.wrap .u64 (((IntKind.wrap .u64 (p1)).fdiv (2 ^ 32)) * (bAnd .u64 (IntKind.wrap .u64 ((w64 (p4.tdiv x7)))) 4294967295))) + ((IntKind.wrap .u64 ((bAnd .u64 (IntKind.wrap .u64 (p1)) 4294967295) * (bAnd .u64 (IntKind.wrap .u64 ((w64 (p4.tdiv x7)))) 4294967295))).fdiv (2 ^ 32)))) 4294967295) + (IntKind.wrap .u64 ((bAnd .u64 (IntKind.wrap .u64 (p1)) 4294967295) * ((IntKind.wrap .u64 ((w64 (p4.tdiv x7)))).fdiv (2 ^ 32)))))).fdiv (2 ^ 32)))))))), (8, (.one (.d (.int .u64 (IntKind.wrap .u64 ((IntKind.wrap .u64 (p1)) * (IntKind.wrap .u64 ((w64 (p4.tdiv x7))))))))))], [.cells [.d (.int .i64 p1), .d (.int .i64 p2)], .cells [.d (.int .i64 p3), .d (.int .i64 p4)], .cells [.d (.int .i64 0), .d (.int .i64 0)]]⟩ (by kernel_rfl) (AC hx8 (A1 (T_math_bits_Mul64_ok k (IntKind.wrap .u64 (p1)) (IntKind.wrap .u64 ((w64 (p4.tdiv x7)))) x9 hx9))) ?_
      refine K_seq ?_
      obtain ⟨hx10, H⟩ := guard_some H
      obtain ⟨x11, hx11, H⟩ := bind_some' H
      refine K_reg [.r (.tup [(false, [.d (.int .u64 (IntKind.wrap .u64 ((IntKind.wrap .u64 ((IntKind.wrap .u64 (((IntKind.wrap .u64 (p3)).fdiv (2 ^ 32)) * ((IntKind.wrap .u64 ((w64 (p2.tdiv x7)))).fdiv (2 ^ 32)))) + ((IntKind.wrap .u64 ((IntKind.wrap .u64 (((IntKind.wrap .u64 (p3)).fdiv (2 ^ 32)) * (bAnd .u64 (IntKind.wrap .u64 ((w64 (p2.tdiv x7)))) 4294967295))) + ((IntKind.wrap .u64 ((bAnd .u64 (IntKind.wrap .u64 (p3)) 4294967295) * (bAnd .u64 (IntKind.wrap .u64 ((w64 (p2.tdiv x7)))) 4294967295))).fdiv (2 ^ 32)))).fdiv (2 ^ 32)))) + ((IntKind.wrap .u64 ((bAnd .u64 (IntKind.wrap .u64 ((IntKind.wrap .u64 (((IntKind.wrap .u64 (p3)).fdiv (2 ^ 32)) * (bAnd .u64 (IntKind.wrap .u64 ((w64 (p2.tdiv x7)))) 4294967295))) + ((IntKind.wrap .u64 ((bAnd .u64 (IntKind.wrap .u64 (p3)) 4294967295) * (bAnd .u64 (IntKind.wrap .u64 ((w64 (p2.tdiv x7)))) 4294967295))).fdiv (2 ^ 32)))) 4294967295) + (IntKind.wrap .u64 ((bAnd .u64 (IntKind.wrap .u64 (p3)) 4294967295) * ((IntKind.wrap .u64 ((w64 (p2.tdiv x7)))).fdiv (2 ^ 32)))))).fdiv (2 ^ 32)))))]), (false, [.d (.int .u64 (IntKind.wrap .u64 ((IntKind.wrap .u64 (p3)) * (IntKind.wrap .u64 ((w64 (p2.tdiv x7)))))))])]) []] [x7 ≠ (0 : Int), evF X k n_math_bits_Mul64 [(.one (.d (.int .u64 (IntKind.wrap .u64 (p3))))), (.one (.d (.int .u64 (IntKind.wrap .u64 ((w64 (p2.tdiv x7)))))))] [] = some ((.tup [(false, [.d (.int .u64 (IntKind.wrap .u64 ((IntKind.wrap .u64 ((IntKind.wrap .u64 (((IntKind.wrap .u64 (p3)).fdiv (2 ^ 32)) * ((IntKind.wrap .u64 ((w64 (p2.tdiv x7)))).fdiv (2 ^ 32)))) + ((IntKind.wrap .u64 ((IntKind.wrap .u64 (((IntKind.wrap .u64 (p3)).fdiv (2 ^ 32)) * (bAnd .u64 (IntKind.wrap .u64 ((w64 (p2.tdiv x7)))) 4294967295))) + ((IntKind.wrap .u64 ((bAnd .u64 (IntKind.wrap .u64 (p3)) 4294967295) * (bAnd .u64 (IntKind.wrap .u64 ((w64 (p2.tdiv x7)))) 4294967295))).fdiv (2 ^ 32)))).fdiv (2 ^ 32)))) + ((IntKind.wrap .u64 ((bAnd .u64 (IntKind.wrap .u64 ((IntKind.wrap .u64 (((IntKind.wrap .u64 (p3)).fdiv (2 ^ 32)) * (bAnd .u64 (IntKind.wrap .u64 ((w64 (p2.tdiv x7)))) 4294967295))) + ((IntKind.wrap .u64 ((bAnd .u64 (IntKind.wrap .u64 (p3)) 4294967295) * (bAnd .u64 (IntKind.wrap .u64 ((w64 (p2.tdiv x7)))) 4294967295))).fdiv (2 ^ 32)))) 4294967295) + (IntKind.wrap .u64 ((bAnd .u64 (IntKind.wrap .u64 (p3)) 4294967295) * ((IntKind.wrap .u64 ((w64 (p2.tdiv x7)))).fdiv (2 ^ 32)))))).fdiv (2 ^ 32)))))]), (false, [.d (.int .u64 (IntKind.wrap .u64 ((IntKind.wrap .u64 (p3)) * (IntKind.wrap .u64 ((w64 (p2.tdiv x7)))))))])]), [])] ⟨[(2, (.one (.ptr 0 0 0))), (3, (.one (.ptr 1 0 0))), (4, (.one (.ptr 2 0 0))), (6, (I x7)), (7, (.one (.d (.int .u64 (IntKind.wrap .u64 ((IntKind.wrap .u64 ((IntKind.wrap .u64 (((IntKind.wrap .u64 (p1)).fdiv (2 ^ 32)) * ((IntKind.wrap .u64 ((w64 (p4.tdiv x7)))).fdiv (2 ^ 32)))) + ((IntKind.wrap .u64 ((IntKind.wrap .u64 (((IntKind.wrap .u64 (p1)).fdiv (2 ^ 32)) * (bAnd .u64 (IntKind.wrap .u64 ((w64 (p4.tdiv x7)))) 4294967295))) + ((IntKind.wrap .u64 ((bAnd .u64 (IntKind.wrap .u64 (p1)) 4294967295) * (bAnd .u64 (IntKind.wrap .u64 ((w64 (p4.tdiv x7)))) 4294967295))).fdiv (2 ^ 32)))).fdiv (2 ^ 32)))) + ((IntKind.wrap .u64 ((bAnd .u64 (IntKind.wrap .u64 ((IntKind.wrap .u64 (((IntKind.wrap .u64 (p1)).fdiv (2 ^ 32)) * (bAnd .u64 (IntKind.wrap .u64 ((w64 (p4.tdiv x7)))) 4294967295))) + ((IntKind.wrap .u64 ((bAnd .u64 (IntKind.wrap .u64 (p1)) 4294967295) * (bAnd .u64 (IntKind.wrap .u64 ((w64 (p4.tdiv x7)))) 4294967295))).fdiv (2 ^ 32)))) 4294967295) + (IntKind.wrap .u64 ((bAnd .u64 (IntKind.wrap .u64 (p1)) 4294967295) * ((IntKind.wrap .u64 ((w64 (p4.tdiv x7)))).fdiv (2 ^ 32)))))).fdiv (2 ^ 32)))))))), (8, (.one (.d (.int .u64 (IntKind.wrap .u64 ((IntKind.wrap .u64 (p1)) * (IntKind.wrap .u64 ((w64 (p4.tdiv x7)))))))))), (9, (.one (.d (.int .u64 (IntKind.wrap .u64 ((IntKind.wrap .u64 ((IntKind.wrap .u64 (((IntKind.wrap .u64 (p3)).fdiv (2 ^ 32)) * ((IntKind.wrap .u64 ((w64 (p2.tdiv x7)))).fdiv (2 ^ 32)))) + ((IntKind.wrap .u64 ((IntKind.wrap .u64 (((IntKind.wrap .u64 (p3)).fdiv (2 ^ 32)) * (bAnd .u64 (IntKind.wrap .u64 ((w64 (p2.tdiv x7)))) 4294967295))) + ((IntKind.wrap .u64 ((bAnd .u64 (IntKind.wrap .u64 (p3)) 4294967295) * (bAnd .u64 (IntKind.wrap .u64 ((w64 (p2.tdiv x7)))) 4294967295))).fdiv (2 ^ 32)))).fdiv (2 ^ 32)))) + ((IntKind.wrap .u64 ((bAnd .u64 (IntKind.wrap .u64 ((IntKind.wrap .u64 (((IntKind.wrap .u64 (p3)).fdiv (2 ^ 32)) * (bAnd .u64 (IntKind.wrap .u64 ((w64 (p2.tdiv x7)))) 4294967295))) + ((IntKind.wrap .u64 ((bAnd .u64 (IntKind.wrap .u64 (p3)) 4294967295) * (bAnd .u64 (IntKind.wrap .u64 ((w64 (p2.tdiv x7)))) 4294967295))).fdiv (2 ^ 32)))) 4294967295) + (IntKind.wrap .u64 ((bAnd .u64 (IntKind.wrap .u64 (p3)) 4294967295) * ((IntKind.wrap .u64 ((w64 (p2.tdiv x7)))).fdiv (2 ^ 32)))))).fdiv (2 ^ 32)))))))), (10, (.one (.d (.int .u64 (IntKind.wrap .u64 ((IntKind.wrap .u64 (p3)) * (IntKind.wrap .u64 ((w64 (p2.tdiv x7))))))))))], [.cells [.d (.int .i64 p1), .d (.int .i64 p2)], .cells [.d (.int .i64 p3), .d (.int .i64 p4)], .cells [.d (.int .i64 0), .d (.int .i64 0)]]⟩ (by kernel_rfl) (AC hx10 (A1 (T_math_bits_Mul64_ok k (IntKind.wrap .u64 (p3)) (IntKind.wrap .u64 ((w64 (p2.tdiv x7)))) x11 hx11))) ?_
      refine K_seq ?_
      obtain ⟨x12, hx12, H⟩ := bind_some' H
      refine K_reg [.r (.tup [(false, [.d (.int .u64 x12.1)]), (false, [.d (.int .u64 x12.2)])]) []] [evF X k n_math_bits_Add64 [(.one (.d (.int .u64 (IntKind.wrap .u64 ((IntKind.wrap .u64 (p1)) * (IntKind.wrap .u64 ((w64 (p4.tdiv x7))))))))), (.one (.d (.int .u64 (IntKind.wrap .u64 ((IntKind.wrap .u64 (p3)) * (IntKind.wrap .u64 ((w64 (p2.tdiv x7))))))))), (.one (.d (.int .u64 0)))] [] = some ((.tup [(false, [.d (.int .u64 x12.1)]), (false, [.d (.int .u64 x12.2)])]), [])] ⟨[(2, (.one (.ptr 0 0 0))), (3, (.one (.ptr 1 0 0))), (4, (.one (.ptr 2 0 0))), (6, (I x7)), (7, (.one (.d (.int .u64 (IntKind.wrap .u64 ((IntKind.wrap .u64 ((IntKind.wrap .u64 (((IntKind.wrap .u64 (p1)).fdiv (2 ^ 32)) * ((IntKind.wrap .u64 ((w64 (p4.tdiv x7)))).fdiv (2 ^ 32)))) + ((IntKind.wrap .u64 ((IntKind.wrap .u64 (((IntKind.wrap .u64 (p1)).fdiv (2 ^ 32)) * (bAnd .u64 (IntKind.wrap .u64 ((w64 (p4.tdiv x7)))) 4294967295))) + ((IntKind.wrap .u64 ((bAnd .u64 (IntKind.wrap .u64 (p1)) 4294967295) * (bAnd .u64 (IntKind.wrap .u64 ((w64 (p4.tdiv x7)))) 4294967295))).fdiv (2 ^ 32)))).fdiv (2 ^ 32)))) + ((IntKind.wrap .u64 ((bAnd .u64 (IntKind.wrap .u64 ((IntKind.wrap .u64 (((IntKind.wrap .u64 (p1)).fdiv (2 ^ 32)) * (bAnd .u64 (IntKind.wrap .u64 ((w64 (p4.tdiv x7)))) 4294967295))) + ((IntKind.wrap .u64 ((bAnd .u64 (IntKind.wrap .u64 (p1)) 4294967295) * (bAnd .u64 (IntKind.wrap .u64 ((w64 (p4.tdiv x7)))) 4294967295))).fdiv (2 ^ 32)))) 4294967295) + (IntKind.wrap .u64 ((bAnd .u64 (IntKind.wrap .u64 (p1)) 4294967295) * ((IntKind.wrap .u64 ((w64 (p4.tdiv x7)))).fdiv (2 ^ 32)))))).fdiv (2 ^ 32)))))))), (8, (.one (.d (.int .u64 x12.1)))), (9, (.one (.d (.int .u64 (IntKind.wrap .u64 ((IntKind.wrap .u64 ((IntKind.wrap .u64 (((IntKind.wrap .u64 (p3)).fdiv (2 ^ 32)) * ((IntKind.wrap .u64 ((w64 (p2.tdiv x7)))).fdiv (2 ^ 32)))) + ((IntKind.wrap .u64 ((IntKind.wrap .u64 (((IntKind.wrap .u64 (p3)).fdiv (2 ^ 32)) * (bAnd .u64 (IntKind.wrap .u64 ((w64 (p2.tdiv x7)))) 4294967295))) + ((IntKind.wrap .u64 ((bAnd .u64 (IntKind.wrap .u64 (p3)) 4294967295) * (bAnd .u64 (IntKind.wrap .u64 ((w64 (p2.tdiv x7)))) 4294967295))).fdiv (2 ^ 32)))).fdiv (2 ^ 32)))) + ((IntKind.wrap .u64 ((bAnd .u64 (IntKind.wrap .u64 ((IntKind.wrap .u64 (((IntKind.wrap .u64 (p3)).fdiv (2 ^ 32)) * (bAnd .u64 (IntKind.wrap .u64 ((w64 (p2.tdiv x7)))) 4294967295))) + ((IntKind.wrap .u64 ((bAnd .u64 (IntKind.wrap .u64 (p3)) 4294967295) * (bAnd .u64 (IntKind.wrap .u64 ((w64 (p2.tdiv x7)))) 4294967295))).fdiv (2 ^ 32)))) 4294967295) + (IntKind.wrap .u64 ((bAnd .u64 (IntKind.wrap .u64 (p3)) 4294967295) * ((IntKind.wrap .u64 ((w64 (p2.tdiv x7)))).fdiv (2 ^ 32)))))).fdiv (2 ^ 32)))))))), (11, (.one (.d (.int .u64 x12.2))))], [.cells [.d (.int .i64 p1), .d (.int .i64 p2)], .cells [.d (.int .i64 p3), .d (.int .i64 p4)], .cells [.d (.int .i64 0), .d (.int .i64 0)]]⟩ (by kernel_rfl) (A1 ((addT_ok X_math_bits_Add64) k (IntKind.wrap .u64 ((IntKind.wrap .u64 (p1)) * (IntKind.wrap .u64 ((w64 (p4.tdiv x7)))))) (IntKind.wrap .u64 ((IntKind.wrap .u64 (p3)) * (IntKind.wrap .u64 ((w64 (p2.tdiv x7)))))) 0 x12 hx12)) ?_
      refine K_seq ?_
      obtain ⟨x13, hx13, H⟩ := bind_some' H
      refine K_reg [.r (.tup [(false, [.d (.int .u64 x13.1)]), (false, [.d (.int .u64 x13.2)])]) []] [evF X k n_math_bits_Add64 [(.one (.d (.int .u64 (IntKind.wrap .u64 ((IntKind.wrap .u64 ((IntKind.wrap .u64 (((IntKind.wrap .u64 (p1)).fdiv (2 ^ 32)) * ((IntKind.wrap .u64 ((w64 (p4.tdiv x7)))).fdiv (2 ^ 32)))) + ((IntKind.wrap .u64 ((IntKind.wrap .u64 (((IntKind.wrap .u64 (p1)).fdiv (2 ^ 32)) * (bAnd .u64 (IntKind.wrap .u64 ((w64 (p4.tdiv x7)))) 4294967295))) + ((IntKind.wrap .u64 ((bAnd .u64 (IntKind.wrap .u64 (p1)) 4294967295) * (bAnd .u64 (IntKind.wrap .u64 ((w64 (p4.tdiv x7)))) 4294967295))).fdiv (2 ^ 32)))).fdiv (2 ^ 32)))) + ((IntKind.wrap .u64 ((bAnd .u64 (IntKind.wrap .u64 ((IntKind.wrap .u64 (((IntKind.wrap .u64 (p1)).fdiv (2 ^ 32)) * (bAnd .u64 (IntKind.wrap .u64 ((w64 (p4.tdiv x7)))) 4294967295))) + ((IntKind.wrap .u64 ((bAnd .u64 (IntKind.wrap .u64 (p1)) 4294967295) * (bAnd .u64 (IntKind.wrap .u64 ((w64 (p4.tdiv x7)))) 4294967295))).fdiv (2 ^ 32)))) 4294967295) + (IntKind.wrap .u64 ((bAnd .u64 (IntKind.wrap .u64 (p1)) 4294967295) * ((IntKind.wrap .u64 ((w64 (p4.tdiv x7)))).fdiv (2 ^ 32)))))).fdiv (2 ^ 32))))))), (.one (.d (.int .u64 (IntKind.wrap .u64 ((IntKind.wrap .u64 ((IntKind.wrap .u64 (((IntKind.wrap .u64 (p3)).fdiv (2 ^ 32)) * ((IntKind.wrap .u64 ((w64 (p2.tdiv x7)))).fdiv (2 ^ 32)))) + ((IntKind.wrap .u64 ((IntKind.wrap .u64 (((IntKind.wrap .u64 (p3)).fdiv (2 ^ 32)) * (bAnd .u64 (IntKind.wrap .u64 ((w64 (p2.tdiv x7)))) 4294967295))) + ((IntKind.wrap .u64 ((bAnd .u64 (IntKind.wrap .u64 (p3)) 4294967295) * (bAnd .u64 (IntKind.wrap .u64 ((w64 (p2.tdiv x7)))) 4294967295))).fdiv (2 ^ 32)))).fdiv (2 ^ 32)))) + ((IntKind.wrap .u64 ((bAnd .u64 (IntKind.wrap .u64 ((IntKind.wrap .u64 (((IntKind.wrap .u64 (p3)).fdiv (2 ^ 32)) * (bAnd .u64 (IntKind.wrap .u64 ((w64 (p2.tdiv x7)))) 4294967295))) + ((IntKind.wrap .u64 ((bAnd .u64 (IntKind.wrap .u64 (p3)) 4294967295) * (bAnd .u64 (IntKind.wrap .u64 ((w64 (p2.tdiv x7)))) 4294967295))).fdiv (2 ^ 32)))) 4294967295) + (IntKind.wrap .u64 ((bAnd .u64 (IntKind.wrap .u64 (p3)) 4294967295) * ((IntKind.wrap .u64 ((w64 (p2.tdiv x7)))).fdiv (2 ^ 32)))))).fdiv (2 ^ 32))))))), (.one (.d (.int .u64 x12.2)))] [] = some ((.tup [(false, [.d (.int .u64 x13.1)]), (false, [.d (.int .u64 x13.2)])]), [])] ⟨[(2, (.one (.ptr 0 0 0))), (3, (.one (.ptr 1 0 0))), (4, (.one (.ptr 2 0 0))), (6, (I x7)), (7, (.one (.d (.int .u64 x13.1)))), (8, (.one (.d (.int .u64 x12.1))))], [.cells [.d (.int .i64 p1), .d (.int .i64 p2)], .cells [.d (.int .i64 p3), .d (.int .i64 p4)], .cells [.d (.int .i64 0), .d (.int .i64 0)]]⟩ (by kernel_rfl) (A1 ((addT_ok X_math_bits_Add64) k (IntKind.wrap .u64 ((IntKind.wrap .u64 ((IntKind.wrap .u64 (((IntKind.wrap .u64 (p1)).fdiv (2 ^ 32)) * ((IntKind.wrap .u64 ((w64 (p4.tdiv x7)))).fdiv (2 ^ 32)))) + ((IntKind.wrap .u64 ((IntKind.wrap .u64 (((IntKind.wrap .u64 (p1)).fdiv (2 ^ 32)) * (bAnd .u64 (IntKind.wrap .u64 ((w64 (p4.tdiv x7)))) 4294967295))) + ((IntKind.wrap .u64 ((bAnd .u64 (IntKind.wrap .u64 (p1)) 4294967295) * (bAnd .u64 (IntKind.wrap .u64 ((w64 (p4.tdiv x7)))) 4294967295))).fdiv (2 ^ 32)))).fdiv (2 ^ 32)))) + ((IntKind.wrap .u64 ((bAnd .u64 (IntKind.wrap .u64 ((IntKind.wrap .u64 (((IntKind.wrap .u64 (p1)).fdiv (2 ^ 32)) * (bAnd .u64 (IntKind.wrap .u64 ((w64 (p4.tdiv x7)))) 4294967295))) + ((IntKind.wrap .u64 ((bAnd .u64 (IntKind.wrap .u64 (p1)) 4294967295) * (bAnd .u64 (IntKind.wrap .u64 ((w64 (p4.tdiv x7)))) 4294967295))).fdiv (2 ^ 32)))) 4294967295) + (IntKind.wrap .u64 ((bAnd .u64 (IntKind.wrap .u64 (p1)) 4294967295) * ((IntKind.wrap .u64 ((w64 (p4.tdiv x7)))).fdiv (2 ^ 32)))))).fdiv (2 ^ 32)))) (IntKind.wrap .u64 ((IntKind.wrap .u64 ((IntKind.wrap .u64 (((IntKind.wrap .u64 (p3)).fdiv (2 ^ 32)) * ((IntKind.wrap .u64 ((w64 (p2.tdiv x7)))).fdiv (2 ^ 32)))) + ((IntKind.wrap .u64 ((IntKind.wrap .u64 (((IntKind.wrap .u64 (p3)).fdiv (2 ^ 32)) * (bAnd .u64 (IntKind.wrap .u64 ((w64 (p2.tdiv x7)))) 4294967295))) + ((IntKind.wrap .u64 ((bAnd .u64 (IntKind.wrap .u64 (p3)) 4294967295) * (bAnd .u64 (IntKind.wrap .u64 ((w64 (p2.tdiv x7)))) 4294967295))).fdiv (2 ^ 32)))).fdiv (2 ^ 32)))) + ((IntKind.wrap .u64 ((bAnd .u64 (IntKind.wrap .u64 ((IntKind.wrap .u64 (((IntKind.wrap .u64 (p3)).fdiv (2 ^ 32)) * (bAnd .u64 (IntKind.wrap .u64 ((w64 (p2.tdiv x7)))) 4294967295))) + ((IntKind.wrap .u64 ((bAnd .u64 (IntKind.wrap .u64 (p3)) 4294967295) * (bAnd .u64 (IntKind.wrap .u64 ((w64 (p2.tdiv x7)))) 4294967295))).fdiv (2 ^ 32)))) 4294967295) + (IntKind.wrap .u64 ((bAnd .u64 (IntKind.wrap .u64 (p3)) 4294967295) * ((IntKind.wrap .u64 ((w64 (p2.tdiv x7)))).fdiv (2 ^ 32)))))).fdiv (2 ^ 32)))) x12.2 x13 hx13)) ?_
      refine K_seq ?_
      obtain ⟨hx14, H⟩ := guard_some H
      obtain ⟨x15, hx15, H⟩ := bind_some' H
      refine K_reg [.r (.tup [(false, [.d (.int .u64 (IntKind.wrap .u64 (x12.1.tdiv (IntKind.wrap .u64 (x7)))))]), (false, [.d (.int .u64 (x12.1.tmod (IntKind.wrap .u64 (x7))))])]) []] [(IntKind.wrap .u64 (x7)) ≠ (0 : Int), evF X k n_math_bits_Div64 [(.one (.d (.int .u64 (x13.1.tmod (IntKind.wrap .u64 (x7)))))), (.one (.d (.int .u64 x12.1))), (.one (.d (.int .u64 (IntKind.wrap .u64 (x7)))))] [] = some ((.tup [(false, [.d (.int .u64 (IntKind.wrap .u64 (x12.1.tdiv (IntKind.wrap .u64 (x7)))))]), (false, [.d (.int .u64 (x12.1.tmod (IntKind.wrap .u64 (x7))))])]), [])] ⟨[(2, (.one (.ptr 0 0 0))), (3, (.one (.ptr 1 0 0))), (4, (.one (.ptr 2 0 0))), (6, (I x7)), (7, (.one (.d (.int .u64 x13.1)))), (8, (.one (.d (.int .u64 x12.1)))), (13, (.one (.d (.int .u64 (x12.1.tmod (IntKind.wrap .u64 (x7)))))))], [.cells [.d (.int .i64 p1), .d (.int .i64 p2)], .cells [.d (.int .i64 p3), .d (.int .i64 p4)], .cells [.d (.int .i64 0), .d (.int .i64 0)]]⟩ (by kernel_rfl) (AC hx14 (A1 (T_math_bits_Div64_ok k (x13.1.tmod (IntKind.wrap .u64 (x7))) x12.1 (IntKind.wrap .u64 (x7)) x15 hx15))) ?_
      refine K_seq ?_
      obtain ⟨x16, hx16, H⟩ := bind_some' H
      refine K_reg [.r (I x16) []] [evF X k n_ratio_divisor [(I (w64 ((x12.1.tmod (IntKind.wrap .u64 (x7)))))), (I x7)] [] = some ((I x16), [])] ⟨[(2, (.one (.ptr 0 0 0))), (3, (.one (.ptr 1 0 0))), (4, (.one (.ptr 2 0 0))), (6, (I x7)), (7, (.one (.d (.int .u64 x13.1)))), (8, (.one (.d (.int .u64 x12.1)))), (14, (.one (.d (.int .u64 (IntKind.wrap .u64 (x16))))))], [.cells [.d (.int .i64 p1), .d (.int .i64 p2)], .cells [.d (.int .i64 p3), .d (.int .i64 p4)], .cells [.d (.int .i64 0), .d (.int .i64 0)]]⟩ (by kernel_rfl) (A1 (T_ratio_divisor_ok k (w64 ((x12.1.tmod (IntKind.wrap .u64 (x7))))) x7 x16 hx16)) ?_
      refine K_seq ?_
      refine K_seq ?_
      refine K_reg [] [] ⟨[(2, (.one (.ptr 0 0 0))), (3, (.one (.ptr 1 0 0))), (4, (.one (.ptr 2 0 0))), (6, (I x7)), (7, (.one (.d (.int .u64 x13.1)))), (8, (.one (.d (.int .u64 x12.1)))), (14, (.one (.d (.int .u64 (IntKind.wrap .u64 (x16)))))), (88, (B (decide ((IntKind.wrap .u64 (x16)) ≤ x13.1))))], [.cells [.d (.int .i64 p1), .d (.int .i64 p2)], .cells [.d (.int .i64 p3), .d (.int .i64 p4)], .cells [.d (.int .i64 0), .d (.int .i64 0)]]⟩ (by kernel_rfl) trivial ?_
      rcases ite_some H with ⟨hx17, H⟩ | ⟨hx17, H⟩
      · refine K_t rfl (decide_eq_true hx17) ?_
        refine K_seq ?_
        refine K_reg [] [] ⟨[(4, (.one (.ptr 0 0 0))), (5, (I 4))], [.cells [.d (.int .i64 0), .d (.int .i64 0)]]⟩ (by kernel_rfl) trivial ?_
        refine K_gh ⟨[(4, (.one (.ptr 0 0 0))), (5, (I 4))], [.cells [.d (.int .i64 0), .d (.int .i64 0)]]⟩ (by kernel_rfl) ?_
        cases H
        refine K_ret ?_
        kernel_rfl
      · refine K_f rfl (decide_eq_false hx17) ?_
        refine K_gh ⟨[(2, (.one (.ptr 0 0 0))), (3, (.one (.ptr 1 0 0))), (4, (.one (.ptr 2 0 0))), (6, (I x7)), (7, (.one (.d (.int .u64 x13.1)))), (8, (.one (.d (.int .u64 x12.1)))), (14, (.one (.d (.int .u64 (IntKind.wrap .u64 (x16))))))], [.cells [.d (.int .i64 p1), .d (.int .i64 p2)], .cells [.d (.int .i64 p3), .d (.int .i64 p4)], .cells [.d (.int .i64 0), .d (.int .i64 0)]]⟩ (by kernel_rfl) ?_
        refine K_skip ?_
        refine K_seq ?_
        obtain ⟨x18, hx18, H⟩ := bind_some' H
        refine K_reg [.r (.tup [(false, [.d (.int .u64 (IntKind.wrap .u64 (x12.1.tdiv (IntKind.wrap .u64 (x16)))))]), (false, [.d (.int .u64 (x12.1.tmod (IntKind.wrap .u64 (x16))))])]) []] [evF X k n_math_bits_Div64 [(.one (.d (.int .u64 x13.1))), (.one (.d (.int .u64 x12.1))), (.one (.d (.int .u64 (IntKind.wrap .u64 (x16)))))] [] = some ((.tup [(false, [.d (.int .u64 (IntKind.wrap .u64 (x12.1.tdiv (IntKind.wrap .u64 (x16)))))]), (false, [.d (.int .u64 (x12.1.tmod (IntKind.wrap .u64 (x16))))])]), [])] ⟨[(2, (.one (.ptr 0 0 0))), (3, (.one (.ptr 1 0 0))), (4, (.one (.ptr 2 0 0))), (6, (I x7)), (14, (.one (.d (.int .u64 (IntKind.wrap .u64 (x16)))))), (15, (.one (.d (.int .u64 (IntKind.wrap .u64 (x12.1.tdiv (IntKind.wrap .u64 (x16))))))))], [.cells [.d (.int .i64 p1), .d (.int .i64 p2)], .cells [.d (.int .i64 p3), .d (.int .i64 p4)], .cells [.d (.int .i64 0), .d (.int .i64 0)]]⟩ (by kernel_rfl) (A1 (T_math_bits_Div64_ok k x13.1 x12.1 (IntKind.wrap .u64 (x16)) x18 hx18)) ?_
        refine K_seq ?_
        obtain ⟨hx19, H⟩ := guard_some H
        obtain ⟨hx20, H⟩ := guard_some H
        obtain ⟨x21, hx21, H⟩ := bind_some' H
        refine K_reg [.r (.tup [(false, [.d (.int .u64 (IntKind.wrap .u64 ((IntKind.wrap .u64 ((IntKind.wrap .u64 (((IntKind.wrap .u64 ((w64 (p2.tdiv x7)))).fdiv (2 ^ 32)) * ((IntKind.wrap .u64 ((IntKind.wrap .u64 (p4)).tdiv (IntKind.wrap .u64 (x16)))).fdiv (2 ^ 32)))) + ((IntKind.wrap .u64 ((IntKind.wrap .u64 (((IntKind.wrap .u64 ((w64 (p2.tdiv x7)))).fdiv (2 ^ 32)) * (bAnd .u64 (IntKind.wrap .u64 ((IntKind.wrap .u64 (p4)).tdiv (IntKind.wrap .u64 (x16)))) 4294967295))) + ((IntKind.wrap .u64 ((bAnd .u64 (IntKind.wrap .u64 ((w64 (p2.tdiv x7)))) 4294967295) * (bAnd .u64 (IntKind.wrap .u64 ((IntKind.wrap .u64 (p4)).tdiv (IntKind.wrap .u64 (x16)))) 4294967295))).fdiv (2 ^ 32)))).fdiv (2 ^ 32)))) + ((IntKind.wrap .u64 ((bAnd .u64 (IntKind.wrap .u64 ((IntKind.wrap .u64 (((IntKind.wrap .u64 ((w64 (p2.tdiv x7)))).fdiv (2 ^ 32)) * (bAnd .u64 (IntKind.wrap .u64 ((IntKind.wrap .u64 (p4)).tdiv (IntKind.wrap .u64 (x16)))) 4294967295))) + ((IntKind.wrap .u64 ((bAnd .u64 (IntKind.wrap .u64 ((w64 (p2.tdiv x7)))) 4294967295) * (bAnd .u64 (IntKind.wrap .u64 ((IntKind.wrap .u64 (p4)).tdiv (IntKind.wrap .u64 (x16)))) 4294967295))).fdiv (2 ^ 32)))) 4294967295) + (IntKind.wrap .u64 ((bAnd .u64 (IntKind.wrap .u64 ((w64 (p2.tdiv x7)))) 4294967295) * ((IntKind.wrap .u64 ((IntKind.wrap .u64 (p4)).tdiv (IntKind.wrap .u64 (x16)))).fdiv (2 ^ 32)))))).fdiv (2 ^ 32)))))]), (false, [.d (.int .u64 (IntKind.wrap .u64 ((IntKind.wrap .u64 ((w64 (p2.tdiv x7)))) * (IntKind.wrap .u64 ((IntKind.wrap .u64 (p4)).tdiv (IntKind.wrap .u64 (x16)))))))])]) []] [x7 ≠ (0 : Int), (IntKind.wrap .u64 (x16)) ≠ (0 : Int), evF X k n_math_bits_Mul64 [(.one (.d (.int .u64 (IntKind.wrap .u64 ((w64 (p2.tdiv x7))))))), (.one (.d (.int .u64 (IntKind.wrap .u64 ((IntKind.wrap .u64 (p4)).tdiv (IntKind.wrap .u64 (x16)))))))] [] = some ((.tup [(false, [.d (.int .u64 (IntKind.wrap .u64 ((IntKind.wrap .u64 ((IntKind.wrap .u64 (((IntKind.wrap .u64 ((w64 (p2.tdiv x7)))).fdiv (2 ^ 32)) * ((IntKind.wrap .u64 ((IntKind.wrap .u64 (p4)).tdiv (IntKind.wrap .u64 (x16)))).fdiv (2 ^ 32)))) + ((IntKind.wrap .u64 ((IntKind.wrap .u64 (((IntKind.wrap .u64 ((w64 (p2.tdiv x7)))).fdiv (2 ^ 32)) * (bAnd .u64 (IntKind.wrap .u64 ((IntKind.wrap .u64 (p4)).tdiv (IntKind.wrap .u64 (x16)))) 4294967295))) + ((IntKind.wrap .u64 ((bAnd .u64 (IntKind.wrap .u64 ((w64 (p2.tdiv x7)))) 4294967295) * (bAnd .u64 (IntKind.wrap .u64 ((IntKind.wrap .u64 (p4)).tdiv (IntKind.wrap .u64 (x16)))) 4294967295))).fdiv (2 ^ 32)))).fdiv (2 ^ 32)))) + ((IntKind.wrap .u64 ((bAnd .u64 (IntKind.wrap .u64 ((IntKind.wrap .u64 (((IntKind.wrap .u64 ((w64 (p2.tdiv x7)))).fdiv (2 ^ 32)) * (bAnd .u64 (IntKind.wrap .u64 ((IntKind.wrap .u64 (p4)).tdiv (IntKind.wrap .u64 (x16)))) 4294967295))) + ((IntKind.wrap .u64 ((bAnd .u64 (IntKind.wrap .u64 ((w64 (p2.tdiv x7)))) 4294967295) * (bAnd .u64 (IntKind.wrap .u64 ((IntKind.wrap .u64 (p4)).tdiv (IntKind.wrap .u64 (x16)))) 4294967295))).fdiv (2 ^ 32)))) 4294967295) + (IntKind.wrap .u64 ((bAnd .u64 (IntKind.wrap .u64 ((w64 (p2.tdiv x7)))) 4294967295) * ((IntKind.wrap .u64 ((IntKind.wrap .u64 (p4)).tdiv (IntKind.wrap .u64 (x16)))).fdiv (2 ^ 32)))))).fdiv (2 ^ 32)))))]), (false, [.d (.int .u64 (IntKind.wrap .u64 ((IntKind.wrap .u64 ((w64 (p2.tdiv x7)))) * (IntKind.wrap .u64 ((IntKind.wrap .u64 (p4)).tdiv (IntKind.wrap .u64 (x16)))))))])]), [])] ⟨[(4, (.one (.ptr 0 0 0))), (15, (.one (.d (.int .u64 (IntKind.wrap .u64 (x12.1.tdiv (IntKind.wrap .u64 (x16)))))))), (17, (.one (.d (.int .u64 (IntKind.wrap .u64 ((IntKind.wrap .u64 ((IntKind.wrap .u64 (((IntKind.wrap .u64 ((w64 (p2.tdiv x7)))).fdiv (2 ^ 32)) * ((IntKind.wrap .u64 ((IntKind.wrap .u64 (p4)).tdiv (IntKind.wrap .u64 (x16)))).fdiv (2 ^ 32)))) + ((IntKind.wrap .u64 ((IntKind.wrap .u64 (((IntKind.wrap .u64 ((w64 (p2.tdiv x7)))).fdiv (2 ^ 32)) * (bAnd .u64 (IntKind.wrap .u64 ((IntKind.wrap .u64 (p4)).tdiv (IntKind.wrap .u64 (x16)))) 4294967295))) + ((IntKind.wrap .u64 ((bAnd .u64 (IntKind.wrap .u64 ((w64 (p2.tdiv x7)))) 4294967295) * (bAnd .u64 (IntKind.wrap .u64 ((IntKind.wrap .u64 (p4)).tdiv (IntKind.wrap .u64 (x16)))) 4294967295))).fdiv (2 ^ 32)))).fdiv (2 ^ 32)))) + ((IntKind.wrap .u64 ((bAnd .u64 (IntKind.wrap .u64 ((IntKind.wrap .u64 (((IntKind.wrap .u64 ((w64 (p2.tdiv x7)))).fdiv (2 ^ 32)) * (bAnd .u64 (IntKind.wrap .u64 ((IntKind.wrap .u64 (p4)).tdiv (IntKind.wrap .u64 (x16)))) 4294967295))) + ((IntKind.wrap .u64 ((bAnd .u64 (IntKind.wrap .u64 ((w64 (p2.tdiv x7)))) 4294967295) * (bAnd .u64 (IntKind.wrap .u64 ((IntKind.wrap .u64 (p4)).tdiv (IntKind.wrap .u64 (x16)))) 4294967295))).fdiv (2 ^ 32)))) 4294967295) + (IntKind.wrap .u64 ((bAnd .u64 (IntKind.wrap .u64 ((w64 (p2.tdiv x7)))) 4294967295) * ((IntKind.wrap .u64 ((IntKind.wrap .u64 (p4)).tdiv (IntKind.wrap .u64 (x16)))).fdiv (2 ^ 32)))))).fdiv (2 ^ 32)))))))), (18, (.one (.d (.int .u64 (IntKind.wrap .u64 ((IntKind.wrap .u64 ((w64 (p2.tdiv x7)))) * (IntKind.wrap .u64 ((IntKind.wrap .u64 (p4)).tdiv (IntKind.wrap .u64 (x16))))))))))], [.cells [.d (.int .i64 0), .d (.int .i64 0)]]⟩ (by kernel_rfl) (AC hx19 (AC hx20 (A1 (T_math_bits_Mul64_ok k (IntKind.wrap .u64 ((w64 (p2.tdiv x7)))) (IntKind.wrap .u64 ((IntKind.wrap .u64 (p4)).tdiv (IntKind.wrap .u64 (x16)))) x21 hx21)))) ?_
        refine K_seq ?_
        refine K_seq ?_
        refine K_reg [.m, .m] [([.cells [.d (.int .i64 0), .d (.int .i64 0)]] : Heap) = [.cells [.d (.int .i64 0), .d (.int .i64 0)]], ([.cells [.d (.int .i64 0), .d (.int .i64 0)]] : Heap) = [.cells [.d (.int .i64 0), .d (.int .i64 0)]]] ⟨[(4, (.one (.ptr 0 0 0))), (15, (.one (.d (.int .u64 (IntKind.wrap .u64 (x12.1.tdiv (IntKind.wrap .u64 (x16)))))))), (18, (.one (.d (.int .u64 (IntKind.wrap .u64 ((IntKind.wrap .u64 ((w64 (p2.tdiv x7)))) * (IntKind.wrap .u64 ((IntKind.wrap .u64 (p4)).tdiv (IntKind.wrap .u64 (x16)))))))))), (120, (B ((decide (2305843009213693952 < (IntKind.wrap .u64 (x12.1.tdiv (IntKind.wrap .u64 (x16))))) || decide (0 < (IntKind.wrap .u64 ((IntKind.wrap .u64 ((IntKind.wrap .u64 (((IntKind.wrap .u64 ((w64 (p2.tdiv x7)))).fdiv (2 ^ 32)) * ((IntKind.wrap .u64 ((IntKind.wrap .u64 (p4)).tdiv (IntKind.wrap .u64 (x16)))).fdiv (2 ^ 32)))) + ((IntKind.wrap .u64 ((IntKind.wrap .u64 (((IntKind.wrap .u64 ((w64 (p2.tdiv x7)))).fdiv (2 ^ 32)) * (bAnd .u64 (IntKind.wrap .u64 ((IntKind.wrap .u64 (p4)).tdiv (IntKind.wrap .u64 (x16)))) 4294967295))) + ((IntKind.wrap .u64 ((bAnd .u64 (IntKind.wrap .u64 ((w64 (p2.tdiv x7)))) 4294967295) * (bAnd .u64 (IntKind.wrap .u64 ((IntKind.wrap .u64 (p4)).tdiv (IntKind.wrap .u64 (x16)))) 4294967295))).fdiv (2 ^ 32)))).fdiv (2 ^ 32)))) + ((IntKind.wrap .u64 ((bAnd .u64 (IntKind.wrap .u64 ((IntKind.wrap .u64 (((IntKind.wrap .u64 ((w64 (p2.tdiv x7)))).fdiv (2 ^ 32)) * (bAnd .u64 (IntKind.wrap .u64 ((IntKind.wrap .u64 (p4)).tdiv (IntKind.wrap .u64 (x16)))) 4294967295))) + ((IntKind.wrap .u64 ((bAnd .u64 (IntKind.wrap .u64 ((w64 (p2.tdiv x7)))) 4294967295) * (bAnd .u64 (IntKind.wrap .u64 ((IntKind.wrap .u64 (p4)).tdiv (IntKind.wrap .u64 (x16)))) 4294967295))).fdiv (2 ^ 32)))) 4294967295) + (IntKind.wrap .u64 ((bAnd .u64 (IntKind.wrap .u64 ((w64 (p2.tdiv x7)))) 4294967295) * ((IntKind.wrap .u64 ((IntKind.wrap .u64 (p4)).tdiv (IntKind.wrap .u64 (x16)))).fdiv (2 ^ 32)))))).fdiv (2 ^ 32)))))) || decide (1152921504606846976 < (IntKind.wrap .u64 ((IntKind.wrap .u64 ((w64 (p2.tdiv x7)))) * (IntKind.wrap .u64 ((IntKind.wrap .u64 (p4)).tdiv (IntKind.wrap .u64 (x16))))))))))], [.cells [.d (.int .i64 0), .d (.int .i64 0)]]⟩ (by kernel_rfl) (AC rfl (A1 rfl)) ?_
        rcases ite_some H with ⟨hx22, H⟩ | ⟨hx22, H⟩
        · refine K_t rfl hx22 ?_
          refine K_seq ?_
          refine K_reg [] [] ⟨[(4, (.one (.ptr 0 0 0))), (5, (I 4))], [.cells [.d (.int .i64 0), .d (.int .i64 0)]]⟩ (by kernel_rfl) trivial ?_
          refine K_gh ⟨[(4, (.one (.ptr 0 0 0))), (5, (I 4))], [.cells [.d (.int .i64 0), .d (.int .i64 0)]]⟩ (by kernel_rfl) ?_
          cases H
          refine K_ret ?_
          kernel_rfl
        · refine K_f rfl (Bool.eq_false_iff.2 hx22) ?_
          refine K_gh ⟨[(4, (.one (.ptr 0 0 0))), (15, (.one (.d (.int .u64 (IntKind.wrap .u64 (x12.1.tdiv (IntKind.wrap .u64 (x16)))))))), (18, (.one (.d (.int .u64 (IntKind.wrap .u64 ((IntKind.wrap .u64 ((w64 (p2.tdiv x7)))) * (IntKind.wrap .u64 ((IntKind.wrap .u64 (p4)).tdiv (IntKind.wrap .u64 (x16))))))))))], [.cells [.d (.int .i64 0), .d (.int .i64 0)]]⟩ (by kernel_rfl) ?_
          refine K_skip ?_
          refine K_seq ?_
          refine K_reg [] [] ⟨[(4, (.one (.ptr 0 0 0))), (5, (I 0))], [.cells [.d (.int .i64 (w64 ((IntKind.wrap .u64 (x12.1.tdiv (IntKind.wrap .u64 (x16))))))), .d (.int .i64 (w64 ((IntKind.wrap .u64 ((IntKind.wrap .u64 ((w64 (p2.tdiv x7)))) * (IntKind.wrap .u64 ((IntKind.wrap .u64 (p4)).tdiv (IntKind.wrap .u64 (x16)))))))))]]⟩ (by kernel_rfl) trivial ?_
          refine K_gh ⟨[(4, (.one (.ptr 0 0 0))), (5, (I 0))], [.cells [.d (.int .i64 (w64 ((IntKind.wrap .u64 (x12.1.tdiv (IntKind.wrap .u64 (x16))))))), .d (.int .i64 (w64 ((IntKind.wrap .u64 ((IntKind.wrap .u64 ((w64 (p2.tdiv x7)))) * (IntKind.wrap .u64 ((IntKind.wrap .u64 (p4)).tdiv (IntKind.wrap .u64 (x16)))))))))]]⟩ (by kernel_rfl) ?_
          cases H
          refine K_ret ?_
          kernel_rfl
def T_envelope_Pieces_l1 (k : Nat) (x7 : List Int) (x8 : List Int) (x9 : Int) (x13 : List Int) (x14 : List Int) (x53 : Int) (x56 : Int) (x63 : Int) (x68 : Int) (x69 : Int) (x74 : Int × Int × Int) : Option ((Int × Int × Int) ⊕ ((Int × Int))) :=
  ((at? x7 (w64 (x56 + 1))).bind fun x75 => (if x74.2.2 < x75 then ((at? x14 x74.2.2).bind fun x77 => (at? x13 x74.2.2).bind fun x78 => some (.inl ((w64 (x74.1 + x77)), (w64 (x74.2.1 + x78)), (w64 (x74.2.2 + 1))))) else some (.inr (x74.1, x74.2.1))))
theorem T_envelope_Pieces_l1_ok (k : Nat) (x7 : List Int) (x8 : List Int) (x9 : Int) (x13 : List Int) (x14 : List Int) (x53 : Int) (x56 : Int) (x63 : Int) (x68 : Int) (x69 : Int) : ∀ (x74 : Int × Int × Int) (x : (Int × Int × Int) ⊕ ((Int × Int))), T_envelope_Pieces_l1 k x7 x8 x9 x13 x14 x53 x56 x63 x68 x69 x74 = some x → evC X (evF X k) k 0 l_envelope_Pieces_1 ⟨[(8, (.one (.ptr 0 0 0))), (14, (.one (.d (.list (x7.map (D.int .i64)))))), (16, (.one (.ptr 1 0 0))), (17, (.one (.ptr 2 0 0))), (18, (I x56)), (19, (I x53)), (20, (I x74.1)), (21, (I x74.2.1)), (22, (I x74.2.2)), (60, (.one (.d (.list (x8.map (D.int .i64)))))), (61, (I x9)), (62, (I x63))], [.cells [.d (.int .i64 0), .d (.int .i64 0)], .cells [.d (.list (x13.map (D.int .i64))), .d (.list (x14.map (D.int .i64)))], .cells [.d (.int .i64 x68), .d (.int .i64 x69)]]⟩ = some (outS (fun (s : Int × Int × Int) => ⟨[(8, (.one (.ptr 0 0 0))), (14, (.one (.d (.list (x7.map (D.int .i64)))))), (16, (.one (.ptr 1 0 0))), (17, (.one (.ptr 2 0 0))), (18, (I x56)), (19, (I x53)), (20, (I s.1)), (21, (I s.2.1)), (22, (I s.2.2)), (60, (.one (.d (.list (x8.map (D.int .i64)))))), (61, (I x9)), (62, (I x63))], [.cells [.d (.int .i64 0), .d (.int .i64 0)], .cells [.d (.list (x13.map (D.int .i64))), .d (.list (x14.map (D.int .i64)))], .cells [.d (.int .i64 x68), .d (.int .i64 x69)]]⟩) (fun (r : (Int × Int)) => (.exit 2, ⟨[(8, (.one (.ptr 0 0 0))), (14, (.one (.d (.list (x7.map (D.int .i64)))))), (16, (.one (.ptr 1 0 0))), (17, (.one (.ptr 2 0 0))), (18, (I x56)), (19, (I x53)), (20, (I r.1)), (21, (I r.2)), (60, (.one (.d (.list (x8.map (D.int .i64)))))), (61, (I x9)), (62, (I x63))], [.cells [.d (.int .i64 0), .d (.int .i64 0)], .cells [.d (.list (x13.map (D.int .i64))), .d (.list (x14.map (D.int .i64)))], .cells [.d (.int .i64 x68), .d (.int .i64 x69)]]⟩)) x) := by
  intro x74 x H
  unfold T_envelope_Pieces_l1 at H
  refine K_in ?_
  refine K_seq ?_
  refine K_seq ?_
  obtain ⟨x75, hx75, H⟩ := bind_some' H
  refine K_reg [.l [.int .i64 x75]] [(0 : Int) ≤ (w64 (x56 + 1)) ∧ (w64 (x56 + 1)) < (((x7.map (D.int .i64))).length : Int), ((x7.map (D.int .i64)).getD (w64 (x56 + 1)).toNat (.int .i64 0)).cells = [.int .i64 x75]] ⟨[(8, (.one (.ptr 0 0 0))), (14, (.one (.d (.list (x7.map (D.int .i64)))))), (16, (.one (.ptr 1 0 0))), (17, (.one (.ptr 2 0 0))), (18, (I x56)), (19, (I x53)), (20, (I x74.1)), (21, (I x74.2.1)), (22, (I x74.2.2)), (60, (.one (.d (.list (x8.map (D.int .i64)))))), (61, (I x9)), (62, (I x63)), (77, (B (decide (x74.2.2 < x75))))], [.cells [.d (.int .i64 0), .d (.int .i64 0)], .cells [.d (.list (x13.map (D.int .i64))), .d (.list (x14.map (D.int .i64)))], .cells [.d (.int .i64 x68), .d (.int .i64 x69)]]⟩ (by kernel_rfl) (AC (at_ok hx75 (D.int .i64) (.int .i64 0)).1 (A1 (at_ok hx75 (D.int .i64) (.int .i64 0)).2)) ?_
  rcases ite_some H with ⟨hx76, H⟩ | ⟨hx76, H⟩
  · refine K_t rfl (decide_eq_true hx76) ?_
    refine K_gh ⟨[(8, (.one (.ptr 0 0 0))), (14, (.one (.d (.list (x7.map (D.int .i64)))))), (16, (.one (.ptr 1 0 0))), (17, (.one (.ptr 2 0 0))), (18, (I x56)), (19, (I x53)), (20, (I x74.1)), (21, (I x74.2.1)), (22, (I x74.2.2)), (60, (.one (.d (.list (x8.map (D.int .i64)))))), (61, (I x9)), (62, (I x63))], [.cells [.d (.int .i64 0), .d (.int .i64 0)], .cells [.d (.list (x13.map (D.int .i64))), .d (.list (x14.map (D.int .i64)))], .cells [.d (.int .i64 x68), .d (.int .i64 x69)]]⟩ (by kernel_rfl) ?_
    refine K_skip ?_
    refine K_seq ?_
    refine K_block ?_
    obtain ⟨x77, hx77, H⟩ := bind_some' H
    obtain ⟨x78, hx78, H⟩ := bind_some' H
    refine K_reg [.l [.int .i64 x77], .l [.int .i64 x78]] [(0 : Int) ≤ x74.2.2 ∧ x74.2.2 < (((x14.map (D.int .i64))).length : Int), ((x14.map (D.int .i64)).getD x74.2.2.toNat (.int .i64 0)).cells = [.int .i64 x77], (0 : Int) ≤ x74.2.2 ∧ x74.2.2 < (((x13.map (D.int .i64))).length : Int), ((x13.map (D.int .i64)).getD x74.2.2.toNat (.int .i64 0)).cells = [.int .i64 x78]] ⟨[(8, (.one (.ptr 0 0 0))), (14, (.one (.d (.list (x7.map (D.int .i64)))))), (16, (.one (.ptr 1 0 0))), (17, (.one (.ptr 2 0 0))), (18, (I x56)), (19, (I x53)), (20, (I (w64 (x74.1 + x77)))), (21, (I (w64 (x74.2.1 + x78)))), (22, (I x74.2.2)), (60, (.one (.d (.list (x8.map (D.int .i64)))))), (61, (I x9)), (62, (I x63))], [.cells [.d (.int .i64 0), .d (.int .i64 0)], .cells [.d (.list (x13.map (D.int .i64))), .d (.list (x14.map (D.int .i64)))], .cells [.d (.int .i64 x68), .d (.int .i64 x69)]]⟩ (by kernel_rfl) (AC (at_ok hx77 (D.int .i64) (.int .i64 0)).1 (AC (at_ok hx77 (D.int .i64) (.int .i64 0)).2 (AC (at_ok hx78 (D.int .i64) (.int .i64 0)).1 (A1 (at_ok hx78 (D.int .i64) (.int .i64 0)).2)))) ?_
    refine K_blk ?_
    refine K_reg [] [] ⟨[(8, (.one (.ptr 0 0 0))), (14, (.one (.d (.list (x7.map (D.int .i64)))))), (16, (.one (.ptr 1 0 0))), (17, (.one (.ptr 2 0 0))), (18, (I x56)), (19, (I x53)), (20, (I (w64 (x74.1 + x77)))), (21, (I (w64 (x74.2.1 + x78)))), (22, (I (w64 (x74.2.2 + 1)))), (60, (.one (.d (.list (x8.map (D.int .i64)))))), (61, (I x9)), (62, (I x63))], [.cells [.d (.int .i64 0), .d (.int .i64 0)], .cells [.d (.list (x13.map (D.int .i64))), .d (.list (x14.map (D.int .i64)))], .cells [.d (.int .i64 x68), .d (.int .i64 x69)]]⟩ (by kernel_rfl) trivial ?_
    cases H
    exact K_end rfl
  · refine K_f rfl (decide_eq_false hx76) ?_
    refine K_gh ⟨[(8, (.one (.ptr 0 0 0))), (14, (.one (.d (.list (x7.map (D.int .i64)))))), (16, (.one (.ptr 1 0 0))), (17, (.one (.ptr 2 0 0))), (18, (I x56)), (19, (I x53)), (20, (I x74.1)), (21, (I x74.2.1)), (60, (.one (.d (.list (x8.map (D.int .i64)))))), (61, (I x9)), (62, (I x63))], [.cells [.d (.int .i64 0), .d (.int .i64 0)], .cells [.d (.list (x13.map (D.int .i64))), .d (.list (x14.map (D.int .i64)))], .cells [.d (.int .i64 x68), .d (.int .i64 x69)]]⟩ (by kernel_rfl) ?_
    cases H
    exact K_exit0 rfl rfl
def T_envelope_Pieces_l2 (k : Nat) (x7 : List Int) (x8 : List Int) (x9 : Int) (x13 : List Int) (x14 : List Int) (x51 : Int × Int × Int) : Option ((Int × Int × Int) ⊕ ((Int × Int) ⊕ Int)) :=
  (if x51.1 < x9 then ((at? x8 x51.1).bind fun x53 => (at? x7 x51.1).bind fun x54 => (loopT (T_envelope_Pieces_l1 k x7 x8 x9 x13 x14 x53 x51.1 x51.1 x51.2.1 x51.2.2) k (0, 0, x54)).bind fun x79 => (T_envelope_passes k x53 x79.1 x79.2).bind fun x80 => (at? x7 (w64 (x51.1 + 1))).bind fun x81 => (at? x7 x51.1).bind fun x82 => (T_ratio_Make k (w64 ((imax (imax 0 (w64 (x53 - x79.2))) (w64 (x79.1 - x53))) * (imax (imax 0 (w64 (x53 - x79.2))) (w64 (x79.1 - x53))))) (w64 (x81 - x82))).bind fun x83 => (T_ratio_Add k x51.2.1 x51.2.2 x83.1 x83.2.1).bind fun x84 => (if (!decide (x84.2.2 = 0)) = true then some (.inr (.inr x84.2.2)) else some (.inl ((w64 (x51.1 + 1)), x84.1, x84.2.1)))) else some (.inr (.inl (x51.2.1, x51.2.2))))
theorem T_envelope_Pieces_l2_ok (k : Nat) (x7 : List Int) (x8 : List Int) (x9 : Int) (x13 : List Int) (x14 : List Int) : ∀ (x51 : Int × Int × Int) (x : (Int × Int × Int) ⊕ ((Int × Int) ⊕ Int)), T_envelope_Pieces_l2 k x7 x8 x9 x13 x14 x51 = some x → evC X (evF X k) k 0 l_envelope_Pieces_2 ⟨[(8, (.one (.ptr 0 0 0))), (14, (.one (.d (.list (x7.map (D.int .i64)))))), (16, (.one (.ptr 1 0 0))), (17, (.one (.ptr 2 0 0))), (60, (.one (.d (.list (x8.map (D.int .i64)))))), (61, (I x9)), (62, (I x51.1))], [.cells [.d (.int .i64 0), .d (.int .i64 0)], .cells [.d (.list (x13.map (D.int .i64))), .d (.list (x14.map (D.int .i64)))], .cells [.d (.int .i64 x51.2.1), .d (.int .i64 x51.2.2)]]⟩ = some (outS (fun (s : Int × Int × Int) => ⟨[(8, (.one (.ptr 0 0 0))), (14, (.one (.d (.list (x7.map (D.int .i64)))))), (16, (.one (.ptr 1 0 0))), (17, (.one (.ptr 2 0 0))), (60, (.one (.d (.list (x8.map (D.int .i64)))))), (61, (I x9)), (62, (I s.1))], [.cells [.d (.int .i64 0), .d (.int .i64 0)], .cells [.d (.list (x13.map (D.int .i64))), .d (.list (x14.map (D.int .i64)))], .cells [.d (.int .i64 s.2.1), .d (.int .i64 s.2.2)]]⟩) (fun (r : (Int × Int) ⊕ Int) => Sum.elim (fun y => (.exit 0, ⟨[(8, (.one (.ptr 0 0 0))), (17, (.one (.ptr 1 0 0)))], [.cells [.d (.int .i64 0), .d (.int .i64 0)], .cells [.d (.int .i64 y.1), .d (.int .i64 y.2)]]⟩)) (fun y => (.ret, ⟨[(8, (.one (.ptr 0 0 0))), (9, (I y))], [.cells [.d (.int .i64 0), .d (.int .i64 0)]]⟩)) r) x) := by
  intro x51 x H
  unfold T_envelope_Pieces_l2 at H
  refine K_in ?_
  refine K_seq ?_
  refine K_reg [] [] ⟨[(8, (.one (.ptr 0 0 0))), (14, (.one (.d (.list (x7.map (D.int .i64)))))), (16, (.one (.ptr 1 0 0))), (17, (.one (.ptr 2 0 0))), (60, (.one (.d (.list (x8.map (D.int .i64)))))), (61, (I x9)), (62, (I x51.1)), (63, (B (decide (x51.1 < x9))))], [.cells [.d (.int .i64 0), .d (.int .i64 0)], .cells [.d (.list (x13.map (D.int .i64))), .d (.list (x14.map (D.int .i64)))], .cells [.d (.int .i64 x51.2.1), .d (.int .i64 x51.2.2)]]⟩ (by kernel_rfl) trivial ?_
  refine K_seq ?_
  rcases ite_some H with ⟨hx52, H⟩ | ⟨hx52, H⟩
  · refine K_t rfl (decide_eq_true hx52) ?_
    refine K_gh ⟨[(8, (.one (.ptr 0 0 0))), (14, (.one (.d (.list (x7.map (D.int .i64)))))), (16, (.one (.ptr 1 0 0))), (17, (.one (.ptr 2 0 0))), (60, (.one (.d (.list (x8.map (D.int .i64)))))), (61, (I x9)), (62, (I x51.1))], [.cells [.d (.int .i64 0), .d (.int .i64 0)], .cells [.d (.list (x13.map (D.int .i64))), .d (.list (x14.map (D.int .i64)))], .cells [.d (.int .i64 x51.2.1), .d (.int .i64 x51.2.2)]]⟩ (by kernel_rfl) ?_
    refine K_skip ?_
    refine K_seq ?_
    refine K_block ?_
    refine K_seq ?_
    obtain ⟨x53, hx53, H⟩ := bind_some' H
    refine K_reg [.l [.int .i64 x53]] [(0 : Int) ≤ x51.1 ∧ x51.1 < (((x8.map (D.int .i64))).length : Int), ((x8.map (D.int .i64)).getD x51.1.toNat (.int .i64 0)).cells = [.int .i64 x53]] ⟨[(8, (.one (.ptr 0 0 0))), (14, (.one (.d (.list (x7.map (D.int .i64)))))), (16, (.one (.ptr 1 0 0))), (17, (.one (.ptr 2 0 0))), (18, (I x51.1)), (19, (I x53)), (60, (.one (.d (.list (x8.map (D.int .i64)))))), (61, (I x9)), (62, (I x51.1))], [.cells [.d (.int .i64 0), .d (.int .i64 0)], .cells [.d (.list (x13.map (D.int .i64))), .d (.list (x14.map (D.int .i64)))], .cells [.d (.int .i64 x51.2.1), .d (.int .i64 x51.2.2)]]⟩ (by kernel_rfl) (AC (at_ok hx53 (D.int .i64) (.int .i64 0)).1 (A1 (at_ok hx53 (D.int .i64) (.int .i64 0)).2)) ?_
    refine K_seq ?_
    refine K_reg [] [] ⟨[(8, (.one (.ptr 0 0 0))), (14, (.one (.d (.list (x7.map (D.int .i64)))))), (16, (.one (.ptr 1 0 0))), (17, (.one (.ptr 2 0 0))), (18, (I x51.1)), (19, (I x53)), (20, (I 0)), (21, (I 0)), (60, (.one (.d (.list (x8.map (D.int .i64)))))), (61, (I x9)), (62, (I x51.1))], [.cells [.d (.int .i64 0), .d (.int .i64 0)], .cells [.d (.list (x13.map (D.int .i64))), .d (.list (x14.map (D.int .i64)))], .cells [.d (.int .i64 x51.2.1), .d (.int .i64 x51.2.2)]]⟩ (by kernel_rfl) trivial ?_
    refine K_seq ?_
    refine K_seq ?_
    obtain ⟨x54, hx54, H⟩ := bind_some' H
    refine K_reg [.l [.int .i64 x54]] [(0 : Int) ≤ x51.1 ∧ x51.1 < (((x7.map (D.int .i64))).length : Int), ((x7.map (D.int .i64)).getD x51.1.toNat (.int .i64 0)).cells = [.int .i64 x54]] ⟨[(8, (.one (.ptr 0 0 0))), (14, (.one (.d (.list (x7.map (D.int .i64)))))), (16, (.one (.ptr 1 0 0))), (17, (.one (.ptr 2 0 0))), (18, (I x51.1)), (19, (I x53)), (20, (I 0)), (21, (I 0)), (22, (I x54)), (60, (.one (.d (.list (x8.map (D.int .i64)))))), (61, (I x9)), (62, (I x51.1))], [.cells [.d (.int .i64 0), .d (.int .i64 0)], .cells [.d (.list (x13.map (D.int .i64))), .d (.list (x14.map (D.int .i64)))], .cells [.d (.int .i64 x51.2.1), .d (.int .i64 x51.2.2)]]⟩ (by kernel_rfl) (AC (at_ok hx54 (D.int .i64) (.int .i64 0)).1 (A1 (at_ok hx54 (D.int .i64) (.int .i64 0)).2)) ?_
    refine K_block ?_
    obtain ⟨x79, hx79, H⟩ := bind_some' H
    refine K_loop ⟨[(8, (.one (.ptr 0 0 0))), (14, (.one (.d (.list (x7.map (D.int .i64)))))), (16, (.one (.ptr 1 0 0))), (17, (.one (.ptr 2 0 0))), (18, (I x51.1)), (19, (I x53)), (20, (I x79.1)), (21, (I x79.2)), (60, (.one (.d (.list (x8.map (D.int .i64)))))), (61, (I x9)), (62, (I x51.1))], [.cells [.d (.int .i64 0), .d (.int .i64 0)], .cells [.d (.list (x13.map (D.int .i64))), .d (.list (x14.map (D.int .i64)))], .cells [.d (.int .i64 x51.2.1), .d (.int .i64 x51.2.2)]]⟩ (loop_ok (fun (s : Int × Int × Int) => ⟨[(8, (.one (.ptr 0 0 0))), (14, (.one (.d (.list (x7.map (D.int .i64)))))), (16, (.one (.ptr 1 0 0))), (17, (.one (.ptr 2 0 0))), (18, (I x51.1)), (19, (I x53)), (20, (I s.1)), (21, (I s.2.1)), (22, (I s.2.2)), (60, (.one (.d (.list (x8.map (D.int .i64)))))), (61, (I x9)), (62, (I x51.1))], [.cells [.d (.int .i64 0), .d (.int .i64 0)], .cells [.d (.list (x13.map (D.int .i64))), .d (.list (x14.map (D.int .i64)))], .cells [.d (.int .i64 x51.2.1), .d (.int .i64 x51.2.2)]]⟩) (fun (r : (Int × Int)) => (.exit 2, ⟨[(8, (.one (.ptr 0 0 0))), (14, (.one (.d (.list (x7.map (D.int .i64)))))), (16, (.one (.ptr 1 0 0))), (17, (.one (.ptr 2 0 0))), (18, (I x51.1)), (19, (I x53)), (20, (I r.1)), (21, (I r.2)), (60, (.one (.d (.list (x8.map (D.int .i64)))))), (61, (I x9)), (62, (I x51.1))], [.cells [.d (.int .i64 0), .d (.int .i64 0)], .cells [.d (.list (x13.map (D.int .i64))), .d (.list (x14.map (D.int .i64)))], .cells [.d (.int .i64 x51.2.1), .d (.int .i64 x51.2.2)]]⟩)) (fun r h => by cases h) (T_envelope_Pieces_l1_ok k x7 x8 x9 x13 x14 x53 x51.1 x51.1 x51.2.1 x51.2.2) k (0, 0, x54) x79 hx79) rfl ?_
    refine K_seq ?_
    obtain ⟨x80, hx80, H⟩ := bind_some' H
    refine K_reg [.r (I (imax (imax 0 (w64 (x53 - x79.2))) (w64 (x79.1 - x53)))) []] [evF X k n_envelope_passes [(I x53), (I x79.1), (I x79.2)] [] = some ((I (imax (imax 0 (w64 (x53 - x79.2))) (w64 (x79.1 - x53)))), [])] ⟨[(8, (.one (.ptr 0 0 0))), (14, (.one (.d (.list (x7.map (D.int .i64)))))), (16, (.one (.ptr 1 0 0))), (17, (.one (.ptr 2 0 0))), (18, (I x51.1)), (23, (I (imax (imax 0 (w64 (x53 - x79.2))) (w64 (x79.1 - x53))))), (60, (.one (.d (.list (x8.map (D.int .i64)))))), (61, (I x9)), (62, (I x51.1))], [.cells [.d (.int .i64 0), .d (.int .i64 0)], .cells [.d (.list (x13.map (D.int .i64))), .d (.list (x14.map (D.int .i64)))], .cells [.d (.int .i64 x51.2.1), .d (.int .i64 x51.2.2)]]⟩ (by kernel_rfl) (A1 (T_envelope_passes_ok k x53 x79.1 x79.2 x80 hx80)) ?_
    refine K_seq ?_
    obtain ⟨x81, hx81, H⟩ := bind_some' H
    obtain ⟨x82, hx82, H⟩ := bind_some' H
    obtain ⟨x83, hx83, H⟩ := bind_some' H
    refine K_regD [.l [.int .i64 x81], .l [.int .i64 x82], .r (.tup [(true, [.d (.int .i64 x83.1), .d (.int .i64 x83.2.1)]), (false, [.d (.int .i64 x83.2.2)])]) []] [(0 : Int) ≤ (w64 (x51.1 + 1)) ∧ (w64 (x51.1 + 1)) < (((x7.map (D.int .i64))).length : Int), ((x7.map (D.int .i64)).getD (w64 (x51.1 + 1)).toNat (.int .i64 0)).cells = [.int .i64 x81], (0 : Int) ≤ x51.1 ∧ x51.1 < (((x7.map (D.int .i64))).length : Int), ((x7.map (D.int .i64)).getD x51.1.toNat (.int .i64 0)).cells = [.int .i64 x82], evF X k n_ratio_Make [(I (w64 ((imax (imax 0 (w64 (x53 - x79.2))) (w64 (x79.1 - x53))) * (imax (imax 0 (w64 (x53 - x79.2))) (w64 (x79.1 - x53)))))), (I (w64 (x81 - x82)))] [] = some ((.tup [(true, [.d (.int .i64 x83.1), .d (.int .i64 x83.2.1)]), (false, [.d (.int .i64 x83.2.2)])]), [])] ⟨[(8, (.one (.ptr 0 0 0))), (14, (.one (.d (.list (x7.map (D.int .i64)))))), (16, (.one (.ptr 1 0 0))), (17, (.one (.ptr 2 0 0))), (24, (.one (.ptr 3 0 0))), (60, (.one (.d (.list (x8.map (D.int .i64)))))), (61, (I x9)), (62, (I x51.1))], [.cells [.d (.int .i64 0), .d (.int .i64 0)], .cells [.d (.list (x13.map (D.int .i64))), .d (.list (x14.map (D.int .i64)))], .cells [.d (.int .i64 x51.2.1), .d (.int .i64 x51.2.2)], .cells [.d (.int .i64 x83.1), .d (.int .i64 x83.2.1)]]⟩ (by kernel_rfl) (AC (at_ok hx81 (D.int .i64) (.int .i64 0)).1 (AC (at_ok hx81 (D.int .i64) (.int .i64 0)).2 (AC (at_ok hx82 (D.int .i64) (.int .i64 0)).1 (AC (at_ok hx82 (D.int .i64) (.int .i64 0)).2 (A1 (T_ratio_Make_ok k (w64 ((imax (imax 0 (w64 (x53 - x79.2))) (w64 (x79.1 - x53))) * (imax (imax 0 (w64 (x53 - x79.2))) (w64 (x79.1 - x53))))) (w64 (x81 - x82)) x83 hx83)))))) ?_
    refine K_seq ?_
    obtain ⟨x84, hx84, H⟩ := bind_some' H
    refine K_reg [.r (.tup [(true, [.d (.int .i64 x84.1), .d (.int .i64 x84.2.1)]), (false, [.d (.int .i64 x84.2.2)])]) []] [evF X k n_ratio_Add [(.agg [.d (.int .i64 x51.2.1), .d (.int .i64 x51.2.2)]), (.agg [.d (.int .i64 x83.1), .d (.int .i64 x83.2.1)])] [] = some ((.tup [(true, [.d (.int .i64 x84.1), .d (.int .i64 x84.2.1)]), (false, [.d (.int .i64 x84.2.2)])]), [])] ⟨[(8, (.one (.ptr 0 0 0))), (13, (I x84.2.2)), (14, (.one (.d (.list (x7.map (D.int .i64)))))), (16, (.one (.ptr 1 0 0))), (17, (.one (.ptr 2 0 0))), (60, (.one (.d (.list (x8.map (D.int .i64)))))), (61, (I x9)), (62, (I x51.1))], [.cells [.d (.int .i64 0), .d (.int .i64 0)], .cells [.d (.list (x13.map (D.int .i64))), .d (.list (x14.map (D.int .i64)))], .cells [.d (.int .i64 x84.1), .d (.int .i64 x84.2.1)]]⟩ (by kernel_rfl) (A1 (T_ratio_Add_ok k x51.2.1 x51.2.2 x83.1 x83.2.1 x84 hx84)) ?_
    refine K_seq ?_
    refine K_reg [] [] ⟨[(8, (.one (.ptr 0 0 0))), (13, (I x84.2.2)), (14, (.one (.d (.list (x7.map (D.int .i64)))))), (16, (.one (.ptr 1 0 0))), (17, (.one (.ptr 2 0 0))), (60, (.one (.d (.list (x8.map (D.int .i64)))))), (61, (I x9)), (62, (I x51.1)), (122, (B (!decide (x84.2.2 = 0))))], [.cells [.d (.int .i64 0), .d (.int .i64 0)], .cells [.d (.list (x13.map (D.int .i64))), .d (.list (x14.map (D.int .i64)))], .cells [.d (.int .i64 x84.1), .d (.int .i64 x84.2.1)]]⟩ (by kernel_rfl) trivial ?_
    rcases ite_some H with ⟨hx85, H⟩ | ⟨hx85, H⟩
    · refine K_t rfl hx85 ?_
      refine K_seq ?_
      refine K_reg [] [] ⟨[(8, (.one (.ptr 0 0 0))), (9, (I x84.2.2))], [.cells [.d (.int .i64 0), .d (.int .i64 0)]]⟩ (by kernel_rfl) trivial ?_
      refine K_gh ⟨[(8, (.one (.ptr 0 0 0))), (9, (I x84.2.2))], [.cells [.d (.int .i64 0), .d (.int .i64 0)]]⟩ (by kernel_rfl) ?_
      cases H
      exact K_ret rfl
    · refine K_f rfl (Bool.eq_false_iff.2 hx85) ?_
      refine K_gh ⟨[(8, (.one (.ptr 0 0 0))), (14, (.one (.d (.list (x7.map (D.int .i64)))))), (16, (.one (.ptr 1 0 0))), (17, (.one (.ptr 2 0 0))), (60, (.one (.d (.list (x8.map (D.int .i64)))))), (61, (I x9)), (62, (I x51.1))], [.cells [.d (.int .i64 0), .d (.int .i64 0)], .cells [.d (.list (x13.map (D.int .i64))), .d (.list (x14.map (D.int .i64)))], .cells [.d (.int .i64 x84.1), .d (.int .i64 x84.2.1)]]⟩ (by kernel_rfl) ?_
      refine K_skip ?_
      refine K_blk ?_
      refine K_reg [] [] ⟨[(8, (.one (.ptr 0 0 0))), (14, (.one (.d (.list (x7.map (D.int .i64)))))), (16, (.one (.ptr 1 0 0))), (17, (.one (.ptr 2 0 0))), (60, (.one (.d (.list (x8.map (D.int .i64)))))), (61, (I x9)), (62, (I (w64 (x51.1 + 1))))], [.cells [.d (.int .i64 0), .d (.int .i64 0)], .cells [.d (.list (x13.map (D.int .i64))), .d (.list (x14.map (D.int .i64)))], .cells [.d (.int .i64 x84.1), .d (.int .i64 x84.2.1)]]⟩ (by kernel_rfl) trivial ?_
      cases H
      exact K_end rfl
  · refine K_f rfl (decide_eq_false hx52) ?_
    refine K_gh ⟨[(8, (.one (.ptr 0 0 0))), (17, (.one (.ptr 1 0 0)))], [.cells [.d (.int .i64 0), .d (.int .i64 0)], .cells [.d (.int .i64 x51.2.1), .d (.int .i64 x51.2.2)]]⟩ (by kernel_rfl) ?_
    cases H
    exact K_exit0 rfl rfl
def T_envelope_Pieces (k : Nat) (p1 : List Int) (p2 : List Int) (p3 : Int) (p4 : Int) : Option (Int × Int × Int) := match k with
  | 0 => none
  | k + 1 => ((T_warp_Distance k p1 p2 p3).bind fun x1 => (if (!decide (x1.2 = 0)) = true then some (0, 0, x1.2) else ((T_pieces_Sums k p2 p4).bind fun x3 => (if (!decide (x3.2 = 0)) = true then some (0, 0, x3.2) else ((T_pieces_Starts k (p2.length : Int) p4).bind fun x5 => (T_envelope_of k p1 p3 (p2.length : Int)).bind fun x6 => (loopT (T_envelope_Pieces_l2 k x5.1 x3.1 (x3.1.length : Int) x6.1 x6.2) k (0, 0, 1)).bind fun x86 => (match x86 with | .inl x87 => some (x87.1, x87.2, 0) | .inr x88 => some (0, 0, x88)))))))
theorem T_envelope_Pieces_ok (k : Nat) (p1 : List Int) (p2 : List Int) (p3 : Int) (p4 : Int) (r : Int × Int × Int) : T_envelope_Pieces k p1 p2 p3 p4 = some r → evF X k n_envelope_Pieces [(.one (.d (.list (p1.map (D.int .i64))))), (.one (.d (.list (p2.map (D.int .i64))))), (I p3), (I p4)] [] = some ((.tup [(true, [.d (.int .i64 r.1), .d (.int .i64 r.2.1)]), (false, [.d (.int .i64 r.2.2)])]), []) := by
  intro H
  cases k with
  | zero => simp [T_envelope_Pieces] at H
  | succ k =>
    simp only [T_envelope_Pieces] at H
    refine F_in X_envelope_Pieces rfl ?_
    refine K_seq ?_
    refine K_reg [] [] ⟨[(0, (.one (.d (.list (p1.map (D.int .i64)))))), (1, (.one (.d (.list (p2.map (D.int .i64)))))), (2, (I p3)), (3, (I p4)), (8, (.one (.ptr 0 0 0)))], [.cells [.d (.int .i64 0), .d (.int .i64 0)]]⟩ (by kernel_rfl) trivial ?_
    refine K_seq ?_
    refine K_seq ?_
    obtain ⟨x1, hx1, H⟩ := bind_some' H
    refine K_reg [.r (.tup [(false, [.d (.int .i64 x1.1)]), (false, [.d (.int .i64 x1.2)])]) []] [evF X k n_warp_Distance [(.one (.d (.list (p1.map (D.int .i64))))), (.one (.d (.list (p2.map (D.int .i64))))), (I p3)] [] = some ((.tup [(false, [.d (.int .i64 x1.1)]), (false, [.d (.int .i64 x1.2)])]), [])] ⟨[(0, (.one (.d (.list (p1.map (D.int .i64)))))), (1, (.one (.d (.list (p2.map (D.int .i64)))))), (2, (I p3)), (3, (I p4)), (8, (.one (.ptr 0 0 0))), (11, (I x1.2))], [.cells [.d (.int .i64 0), .d (.int .i64 0)]]⟩ (by kernel_rfl) (A1 (T_warp_Distance_ok k p1 p2 p3 x1 hx1)) ?_
    refine K_seq ?_
    refine K_reg [] [] ⟨[(0, (.one (.d (.list (p1.map (D.int .i64)))))), (1, (.one (.d (.list (p2.map (D.int .i64)))))), (2, (I p3)), (3, (I p4)), (8, (.one (.ptr 0 0 0))), (11, (I x1.2)), (34, (B (!decide (x1.2 = 0))))], [.cells [.d (.int .i64 0), .d (.int .i64 0)]]⟩ (by kernel_rfl) trivial ?_
    rcases ite_some H with ⟨hx2, H⟩ | ⟨hx2, H⟩
    · refine K_t rfl hx2 ?_
      refine K_seq ?_
      refine K_reg [] [] ⟨[(8, (.one (.ptr 0 0 0))), (9, (I x1.2))], [.cells [.d (.int .i64 0), .d (.int .i64 0)]]⟩ (by kernel_rfl) trivial ?_
      refine K_gh ⟨[(8, (.one (.ptr 0 0 0))), (9, (I x1.2))], [.cells [.d (.int .i64 0), .d (.int .i64 0)]]⟩ (by kernel_rfl) ?_
      cases H
      refine K_ret ?_
      kernel_rfl
    · refine K_f rfl (Bool.eq_false_iff.2 hx2) ?_
      refine K_gh ⟨[(0, (.one (.d (.list (p1.map (D.int .i64)))))), (1, (.one (.d (.list (p2.map (D.int .i64)))))), (2, (I p3)), (3, (I p4)), (8, (.one (.ptr 0 0 0)))], [.cells [.d (.int .i64 0), .d (.int .i64 0)]]⟩ (by kernel_rfl) ?_
      refine K_skip ?_
      refine K_seq ?_
      obtain ⟨x3, hx3, H⟩ := bind_some' H
      refine K_reg [.r (.tup [(false, [.d (.list (x3.1.map (D.int .i64)))]), (false, [.d (.int .i64 x3.2)])]) []] [evF X k n_pieces_Sums [(.one (.d (.list (p2.map (D.int .i64))))), (I p4)] [] = some ((.tup [(false, [.d (.list (x3.1.map (D.int .i64)))]), (false, [.d (.int .i64 x3.2)])]), [])] ⟨[(0, (.one (.d (.list (p1.map (D.int .i64)))))), (1, (.one (.d (.list (p2.map (D.int .i64)))))), (2, (I p3)), (3, (I p4)), (8, (.one (.ptr 0 0 0))), (12, (.one (.d (.list (x3.1.map (D.int .i64)))))), (13, (I x3.2))], [.cells [.d (.int .i64 0), .d (.int .i64 0)]]⟩ (by kernel_rfl) (A1 (T_pieces_Sums_ok k p2 p4 x3 hx3)) ?_
      refine K_seq ?_
      refine K_seq ?_
      refine K_reg [] [] ⟨[(0, (.one (.d (.list (p1.map (D.int .i64)))))), (1, (.one (.d (.list (p2.map (D.int .i64)))))), (2, (I p3)), (3, (I p4)), (8, (.one (.ptr 0 0 0))), (12, (.one (.d (.list (x3.1.map (D.int .i64)))))), (13, (I x3.2)), (44, (B (!decide (x3.2 = 0))))], [.cells [.d (.int .i64 0), .d (.int .i64 0)]]⟩ (by kernel_rfl) trivial ?_
      rcases ite_some H with ⟨hx4, H⟩ | ⟨hx4, H⟩
      · refine K_t rfl hx4 ?_
        refine K_seq ?_
        refine K_reg [] [] ⟨[(8, (.one (.ptr 0 0 0))), (9, (I x3.2))], [.cells [.d (.int .i64 0), .d (.int .i64 0)]]⟩ (by kernel_rfl) trivial ?_
        refine K_gh ⟨[(8, (.one (.ptr 0 0 0))), (9, (I x3.2))], [.cells [.d (.int .i64 0), .d (.int .i64 0)]]⟩ (by kernel_rfl) ?_
        cases H
        refine K_ret ?_
        kernel_rfl
      · refine K_f rfl (Bool.eq_false_iff.2 hx4) ?_
        refine K_gh ⟨[(0, (.one (.d (.list (p1.map (D.int .i64)))))), (1, (.one (.d (.list (p2.map (D.int .i64)))))), (2, (I p3)), (3, (I p4)), (8, (.one (.ptr 0 0 0))), (12, (.one (.d (.list (x3.1.map (D.int .i64))))))], [.cells [.d (.int .i64 0), .d (.int .i64 0)]]⟩ (by kernel_rfl) ?_
        refine K_skip ?_
        refine K_seq ?_
        obtain ⟨x5, hx5, H⟩ := bind_some' H
        refine K_reg [.n p2.length, .r (.tup [(false, [.d (.list (x5.1.map (D.int .i64)))]), (false, [.d (.int .i64 x5.2)])]) []] [((p2.map (D.int .i64))).length = p2.length, evF X k n_pieces_Starts [(I (p2.length : Int)), (I p4)] [] = some ((.tup [(false, [.d (.list (x5.1.map (D.int .i64)))]), (false, [.d (.int .i64 x5.2)])]), [])] ⟨[(0, (.one (.d (.list (p1.map (D.int .i64)))))), (1, (.one (.d (.list (p2.map (D.int .i64)))))), (2, (I p3)), (8, (.one (.ptr 0 0 0))), (12, (.one (.d (.list (x3.1.map (D.int .i64)))))), (14, (.one (.d (.list (x5.1.map (D.int .i64))))))], [.cells [.d (.int .i64 0), .d (.int .i64 0)]]⟩ (by kernel_rfl) (AC (List.length_map _) (A1 (T_pieces_Starts_ok k (p2.length : Int) p4 x5 hx5))) ?_
        refine K_seq ?_
        obtain ⟨x6, hx6, H⟩ := bind_some' H
        refine K_reg [.n p2.length, .r (.agg [.d (.list (x6.1.map (D.int .i64))), .d (.list (x6.2.map (D.int .i64)))]) []] [((p2.map (D.int .i64))).length = p2.length, evF X k n_envelope_of [(.one (.d (.list (p1.map (D.int .i64))))), (I p3), (I (p2.length : Int))] [] = some ((.agg [.d (.list (x6.1.map (D.int .i64))), .d (.list (x6.2.map (D.int .i64)))]), [])] ⟨[(8, (.one (.ptr 0 0 0))), (12, (.one (.d (.list (x3.1.map (D.int .i64)))))), (14, (.one (.d (.list (x5.1.map (D.int .i64)))))), (16, (.one (.ptr 1 0 0)))], [.cells [.d (.int .i64 0), .d (.int .i64 0)], .cells [.d (.list (x6.1.map (D.int .i64))), .d (.list (x6.2.map (D.int .i64)))]]⟩ (by kernel_rfl) (AC (List.length_map _) (A1 (T_envelope_of_ok k p1 p3 (p2.length : Int) x6 hx6))) ?_
        refine K_seq ?_
        refine K_reg [] [] ⟨[(8, (.one (.ptr 0 0 0))), (12, (.one (.d (.list (x3.1.map (D.int .i64)))))), (14, (.one (.d (.list (x5.1.map (D.int .i64)))))), (16, (.one (.ptr 1 0 0))), (17, (.one (.ptr 2 0 0)))], [.cells [.d (.int .i64 0), .d (.int .i64 0)], .cells [.d (.list (x6.1.map (D.int .i64))), .d (.list (x6.2.map (D.int .i64)))], .cells [.d (.int .i64 0), .d (.int .i64 1)]]⟩ (by kernel_rfl) trivial ?_
        refine K_seq ?_
        refine K_seq ?_
        refine K_reg [.n x3.1.length] [((x3.1.map (D.int .i64))).length = x3.1.length] ⟨[(8, (.one (.ptr 0 0 0))), (14, (.one (.d (.list (x5.1.map (D.int .i64)))))), (16, (.one (.ptr 1 0 0))), (17, (.one (.ptr 2 0 0))), (60, (.one (.d (.list (x3.1.map (D.int .i64)))))), (61, (I (x3.1.length : Int))), (62, (I 0))], [.cells [.d (.int .i64 0), .d (.int .i64 0)], .cells [.d (.list (x6.1.map (D.int .i64))), .d (.list (x6.2.map (D.int .i64)))], .cells [.d (.int .i64 0), .d (.int .i64 1)]]⟩ (by kernel_rfl) (A1 (List.length_map _)) ?_
        refine K_block ?_
        obtain ⟨x86, hx86, H⟩ := bind_some' H
        cases x86 with
        | inl x87 =>
          dsimp only at H
          refine K_loop ⟨[(8, (.one (.ptr 0 0 0))), (17, (.one (.ptr 1 0 0)))], [.cells [.d (.int .i64 0), .d (.int .i64 0)], .cells [.d (.int .i64 x87.1), .d (.int .i64 x87.2)]]⟩ (loop_ok (fun (s : Int × Int × Int) => ⟨[(8, (.one (.ptr 0 0 0))), (14, (.one (.d (.list (x5.1.map (D.int .i64)))))), (16, (.one (.ptr 1 0 0))), (17, (.one (.ptr 2 0 0))), (60, (.one (.d (.list (x3.1.map (D.int .i64)))))), (61, (I (x3.1.length : Int))), (62, (I s.1))], [.cells [.d (.int .i64 0), .d (.int .i64 0)], .cells [.d (.list (x6.1.map (D.int .i64))), .d (.list (x6.2.map (D.int .i64)))], .cells [.d (.int .i64 s.2.1), .d (.int .i64 s.2.2)]]⟩) (fun (r : (Int × Int) ⊕ Int) => Sum.elim (fun y => (.exit 0, ⟨[(8, (.one (.ptr 0 0 0))), (17, (.one (.ptr 1 0 0)))], [.cells [.d (.int .i64 0), .d (.int .i64 0)], .cells [.d (.int .i64 y.1), .d (.int .i64 y.2)]]⟩)) (fun y => (.ret, ⟨[(8, (.one (.ptr 0 0 0))), (9, (I y))], [.cells [.d (.int .i64 0), .d (.int .i64 0)]]⟩)) r) (fun r h => by cases r <;> cases h) (T_envelope_Pieces_l2_ok k x5.1 x3.1 (x3.1.length : Int) x6.1 x6.2) k (0, 0, 1) (.inl x87) hx86) rfl ?_
          refine K_seq ?_
          refine K_reg [] [] ⟨[(8, (.one (.ptr 0 0 0))), (9, (I 0))], [.cells [.d (.int .i64 x87.1), .d (.int .i64 x87.2)]]⟩ (by kernel_rfl) trivial ?_
          refine K_gh ⟨[(8, (.one (.ptr 0 0 0))), (9, (I 0))], [.cells [.d (.int .i64 x87.1), .d (.int .i64 x87.2)]]⟩ (by kernel_rfl) ?_
          cases H
          refine K_ret ?_
          kernel_rfl
        | inr x88 =>
          dsimp only at H
          cases H
          refine K_loopr ⟨[(8, (.one (.ptr 0 0 0))), (9, (I x88))], [.cells [.d (.int .i64 0), .d (.int .i64 0)]]⟩ (loop_ok (fun (s : Int × Int × Int) => ⟨[(8, (.one (.ptr 0 0 0))), (14, (.one (.d (.list (x5.1.map (D.int .i64)))))), (16, (.one (.ptr 1 0 0))), (17, (.one (.ptr 2 0 0))), (60, (.one (.d (.list (x3.1.map (D.int .i64)))))), (61, (I (x3.1.length : Int))), (62, (I s.1))], [.cells [.d (.int .i64 0), .d (.int .i64 0)], .cells [.d (.list (x6.1.map (D.int .i64))), .d (.list (x6.2.map (D.int .i64)))], .cells [.d (.int .i64 s.2.1), .d (.int .i64 s.2.2)]]⟩) (fun (r : (Int × Int) ⊕ Int) => Sum.elim (fun y => (.exit 0, ⟨[(8, (.one (.ptr 0 0 0))), (17, (.one (.ptr 1 0 0)))], [.cells [.d (.int .i64 0), .d (.int .i64 0)], .cells [.d (.int .i64 y.1), .d (.int .i64 y.2)]]⟩)) (fun y => (.ret, ⟨[(8, (.one (.ptr 0 0 0))), (9, (I y))], [.cells [.d (.int .i64 0), .d (.int .i64 0)]]⟩)) r) (fun r h => by cases r <;> cases h) (T_envelope_Pieces_l2_ok k x5.1 x3.1 (x3.1.length : Int) x6.1 x6.2) k (0, 0, 1) (.inr x88) hx86) ?_
          kernel_rfl
def T_envelope_Of (k : Nat) (p1 : List Int) (p2 : Int) (p3 : Int) : Option ((List Int) × (List Int) × Int) := match k with
  | 0 => none
  | k + 1 => (if (decide (p2 < 0) || decide (32 < p2)) = true then some ([], [], 1) else ((T_euclid_Distance k p1 p1).bind fun x2 => (if (!decide (x2.2 = 0)) = true then some ([], [], x2.2) else (if (((decide (p3 < 2) || decide (32 < p3)) || decide (p2 < (w64 (p3 - (p1.length : Int))))) || decide (p2 < (w64 ((p1.length : Int) - p3)))) = true then some ([], [], 8) else ((T_envelope_of k p1 p2 p3).bind fun x5 => some (x5.1, x5.2, 0))))))
theorem T_envelope_Of_ok (k : Nat) (p1 : List Int) (p2 : Int) (p3 : Int) (r : (List Int) × (List Int) × Int) : T_envelope_Of k p1 p2 p3 = some r → evF X k n_envelope_Of [(.one (.d (.list (p1.map (D.int .i64))))), (I p2), (I p3)] [] = some ((.tup [(false, [.d (.list (r.1.map (D.int .i64)))]), (false, [.d (.list (r.2.1.map (D.int .i64)))]), (false, [.d (.int .i64 r.2.2)])]), []) := by
  intro H
  cases k with
  | zero => simp [T_envelope_Of] at H
  | succ k =>
    simp only [T_envelope_Of] at H
    refine F_in X_envelope_Of rfl ?_
    refine K_seq ?_
    refine K_reg [] [] ⟨[(0, (.one (.d (.list (p1.map (D.int .i64)))))), (1, (I p2)), (2, (I p3))], []⟩ (by kernel_rfl) trivial ?_
    refine K_seq ?_
    refine K_seq ?_
    refine K_reg [.m] [([] : Heap) = []] ⟨[(0, (.one (.d (.list (p1.map (D.int .i64)))))), (1, (I p2)), (2, (I p3)), (17, (B (decide (p2 < 0) || decide (32 < p2))))], []⟩ (by kernel_rfl) (A1 rfl) ?_
    rcases ite_some H with ⟨hx1, H⟩ | ⟨hx1, H⟩
    · refine K_t rfl hx1 ?_
      refine K_seq ?_
      refine K_reg [] [] ⟨[(6, (.one (.nil))), (7, (.one (.nil))), (8, (I 1))], []⟩ (by kernel_rfl) trivial ?_
      refine K_gh ⟨[(6, (.one (.nil))), (7, (.one (.nil))), (8, (I 1))], []⟩ (by kernel_rfl) ?_
      cases H
      refine K_ret ?_
      kernel_rfl
    · refine K_f rfl (Bool.eq_false_iff.2 hx1) ?_
      refine K_gh ⟨[(0, (.one (.d (.list (p1.map (D.int .i64)))))), (1, (I p2)), (2, (I p3))], []⟩ (by kernel_rfl) ?_
      refine K_skip ?_
      refine K_seq ?_
      refine K_seq ?_
      obtain ⟨x2, hx2, H⟩ := bind_some' H
      refine K_reg [.r (.tup [(false, [.d (.int .i64 x2.1)]), (false, [.d (.int .i64 x2.2)])]) []] [evF X k n_euclid_Distance [(.one (.d (.list (p1.map (D.int .i64))))), (.one (.d (.list (p1.map (D.int .i64)))))] [] = some ((.tup [(false, [.d (.int .i64 x2.1)]), (false, [.d (.int .i64 x2.2)])]), [])] ⟨[(0, (.one (.d (.list (p1.map (D.int .i64)))))), (1, (I p2)), (2, (I p3)), (10, (I x2.2))], []⟩ (by kernel_rfl) (A1 (T_euclid_Distance_ok k p1 p1 x2 hx2)) ?_
      refine K_seq ?_
      refine K_reg [] [] ⟨[(0, (.one (.d (.list (p1.map (D.int .i64)))))), (1, (I p2)), (2, (I p3)), (10, (I x2.2)), (25, (B (!decide (x2.2 = 0))))], []⟩ (by kernel_rfl) trivial ?_
      rcases ite_some H with ⟨hx3, H⟩ | ⟨hx3, H⟩
      · refine K_t rfl hx3 ?_
        refine K_seq ?_
        refine K_reg [] [] ⟨[(6, (.one (.nil))), (7, (.one (.nil))), (8, (I x2.2))], []⟩ (by kernel_rfl) trivial ?_
        refine K_gh ⟨[(6, (.one (.nil))), (7, (.one (.nil))), (8, (I x2.2))], []⟩ (by kernel_rfl) ?_
        cases H
        refine K_ret ?_
        kernel_rfl
      · refine K_f rfl (Bool.eq_false_iff.2 hx3) ?_
        refine K_gh ⟨[(0, (.one (.d (.list (p1.map (D.int .i64)))))), (1, (I p2)), (2, (I p3))], []⟩ (by kernel_rfl) ?_
        refine K_skip ?_
        refine K_seq ?_
        refine K_seq ?_
        refine K_reg [.m, .m, .n p1.length, .m, .n p1.length] [([] : Heap) = [], (decide (p3 < 2) || decide (32 < p3)) = false → AllT [((p1.map (D.int .i64))).length = p1.length], ([] : Heap) = [], ((decide (p3 < 2) || decide (32 < p3)) || decide (p2 < (w64 (p3 - (p1.length : Int))))) = false → AllT [((p1.map (D.int .i64))).length = p1.length], ([] : Heap) = []] ⟨[(0, (.one (.d (.list (p1.map (D.int .i64)))))), (1, (I p2)), (2, (I p3)), (48, (B (((decide (p3 < 2) || decide (32 < p3)) || decide (p2 < (w64 (p3 - (p1.length : Int))))) || decide (p2 < (w64 ((p1.length : Int) - p3))))))], []⟩ (by kernel_rfl) (AC rfl (AC (fun _ => (A1 (List.length_map _))) (AC rfl (AC (fun _ => (A1 (List.length_map _))) (A1 rfl))))) ?_
        rcases ite_some H with ⟨hx4, H⟩ | ⟨hx4, H⟩
        · refine K_t rfl hx4 ?_
          refine K_seq ?_
          refine K_reg [] [] ⟨[(6, (.one (.nil))), (7, (.one (.nil))), (8, (I 8))], []⟩ (by kernel_rfl) trivial ?_
          refine K_gh ⟨[(6, (.one (.nil))), (7, (.one (.nil))), (8, (I 8))], []⟩ (by kernel_rfl) ?_
          cases H
          refine K_ret ?_
          kernel_rfl
        · refine K_f rfl (Bool.eq_false_iff.2 hx4) ?_
          refine K_gh ⟨[(0, (.one (.d (.list (p1.map (D.int .i64)))))), (1, (I p2)), (2, (I p3))], []⟩ (by kernel_rfl) ?_
          refine K_skip ?_
          refine K_seq ?_
          obtain ⟨x5, hx5, H⟩ := bind_some' H
          refine K_reg [.r (.agg [.d (.list (x5.1.map (D.int .i64))), .d (.list (x5.2.map (D.int .i64)))]) []] [evF X k n_envelope_of [(.one (.d (.list (p1.map (D.int .i64))))), (I p2), (I p3)] [] = some ((.agg [.d (.list (x5.1.map (D.int .i64))), .d (.list (x5.2.map (D.int .i64)))]), [])] ⟨[(11, (.one (.ptr 0 0 0)))], [.cells [.d (.list (x5.1.map (D.int .i64))), .d (.list (x5.2.map (D.int .i64)))]]⟩ (by kernel_rfl) (A1 (T_envelope_of_ok k p1 p2 p3 x5 hx5)) ?_
          refine K_seq ?_
          refine K_reg [] [] ⟨[(6, (.one (.d (.list (x5.1.map (D.int .i64)))))), (7, (.one (.d (.list (x5.2.map (D.int .i64)))))), (8, (I 0))], []⟩ (by kernel_rfl) trivial ?_
          refine K_gh ⟨[(6, (.one (.d (.list (x5.1.map (D.int .i64)))))), (7, (.one (.d (.list (x5.2.map (D.int .i64)))))), (8, (I 0))], []⟩ (by kernel_rfl) ?_
          cases H
          refine K_ret ?_
          kernel_rfl
def T_keep_Ints_l1 (k : Nat) (p1 : List Int) (p2 : List Int) (x4 : Int) (x10 : Int) : Option (Int ⊕ (Unit ⊕ Unit)) :=
  (if x10 < x4 then ((at? p1 x10).bind fun x12 => (at? p2 x10).bind fun x13 => (if (!decide (x12 = x13)) = true then some (.inr (.inr ())) else some (.inl (w64 (x10 + 1))))) else some (.inr (.inl ())))
theorem T_keep_Ints_l1_ok (k : Nat) (p1 : List Int) (p2 : List Int) (x4 : Int) : ∀ (x10 : Int) (x : Int ⊕ (Unit ⊕ Unit)), T_keep_Ints_l1 k p1 p2 x4 x10 = some x → evC X (evF X k) k 0 l_keep_Ints_1 ⟨[(0, (.one (.d (.list (p1.map (D.int .i64)))))), (1, (.one (.d (.list (p2.map (D.int .i64)))))), (12, (I x4)), (13, (I x10))], []⟩ = some (outS (fun (s : Int) => ⟨[(0, (.one (.d (.list (p1.map (D.int .i64)))))), (1, (.one (.d (.list (p2.map (D.int .i64)))))), (12, (I x4)), (13, (I s))], []⟩) (fun (r : Unit ⊕ Unit) => Sum.elim (fun y => (.exit 0, ⟨[], []⟩)) (fun y => (.ret, ⟨[(4, (B false))], []⟩)) r) x) := by
  intro x10 x H
  unfold T_keep_Ints_l1 at H
  refine K_in ?_
  refine K_seq ?_
  refine K_reg [] [] ⟨[(0, (.one (.d (.list (p1.map (D.int .i64)))))), (1, (.one (.d (.list (p2.map (D.int .i64)))))), (12, (I x4)), (13, (I x10)), (14, (B (decide (x10 < x4))))], []⟩ (by kernel_rfl) trivial ?_
  refine K_seq ?_
  rcases ite_some H with ⟨hx11, H⟩ | ⟨hx11, H⟩
  · refine K_t rfl (decide_eq_true hx11) ?_
    refine K_gh ⟨[(0, (.one (.d (.list (p1.map (D.int .i64)))))), (1, (.one (.d (.list (p2.map (D.int .i64)))))), (12, (I x4)), (13, (I x10))], []⟩ (by kernel_rfl) ?_
    refine K_skip ?_
    refine K_seq ?_
    refine K_block ?_
    refine K_seq ?_
    refine K_reg [] [] ⟨[(0, (.one (.d (.list (p1.map (D.int .i64)))))), (1, (.one (.d (.list (p2.map (D.int .i64)))))), (5, (I x10)), (12, (I x4)), (13, (I x10))], []⟩ (by kernel_rfl) trivial ?_
    refine K_seq ?_
    obtain ⟨x12, hx12, H⟩ := bind_some' H
    obtain ⟨x13, hx13, H⟩ := bind_some' H
    refine K_reg [.l [.int .i64 x12], .l [.int .i64 x13]] [(0 : Int) ≤ x10 ∧ x10 < (((p1.map (D.int .i64))).length : Int), ((p1.map (D.int .i64)).getD x10.toNat (.int .i64 0)).cells = [.int .i64 x12], (0 : Int) ≤ x10 ∧ x10 < (((p2.map (D.int .i64))).length : Int), ((p2.map (D.int .i64)).getD x10.toNat (.int .i64 0)).cells = [.int .i64 x13]] ⟨[(0, (.one (.d (.list (p1.map (D.int .i64)))))), (1, (.one (.d (.list (p2.map (D.int .i64)))))), (12, (I x4)), (13, (I x10)), (24, (B (!decide (x12 = x13))))], []⟩ (by kernel_rfl) (AC (at_ok hx12 (D.int .i64) (.int .i64 0)).1 (AC (at_ok hx12 (D.int .i64) (.int .i64 0)).2 (AC (at_ok hx13 (D.int .i64) (.int .i64 0)).1 (A1 (at_ok hx13 (D.int .i64) (.int .i64 0)).2)))) ?_
    rcases ite_some H with ⟨hx14, H⟩ | ⟨hx14, H⟩
    · refine K_t rfl hx14 ?_
      refine K_seq ?_
      refine K_reg [] [] ⟨[(4, (B false))], []⟩ (by kernel_rfl) trivial ?_
      refine K_gh ⟨[(4, (B false))], []⟩ (by kernel_rfl) ?_
      cases H
      exact K_ret rfl
    · refine K_f rfl (Bool.eq_false_iff.2 hx14) ?_
      refine K_gh ⟨[(0, (.one (.d (.list (p1.map (D.int .i64)))))), (1, (.one (.d (.list (p2.map (D.int .i64)))))), (12, (I x4)), (13, (I x10))], []⟩ (by kernel_rfl) ?_
      refine K_skip ?_
      refine K_blk ?_
      refine K_reg [] [] ⟨[(0, (.one (.d (.list (p1.map (D.int .i64)))))), (1, (.one (.d (.list (p2.map (D.int .i64)))))), (12, (I x4)), (13, (I (w64 (x10 + 1))))], []⟩ (by kernel_rfl) trivial ?_
      cases H
      exact K_end rfl
  · refine K_f rfl (decide_eq_false hx11) ?_
    refine K_gh ⟨[], []⟩ (by kernel_rfl) ?_
    cases H
    exact K_exit0 rfl rfl
def T_keep_Ints (k : Nat) (p1 : List Int) (p2 : List Int) : Option Bool := match k with
  | 0 => none
  | k + 1 => (if (!decide ((p1.length : Int) = (p2.length : Int))) = true then some false else ((loopT (T_keep_Ints_l1 k p1 p2 (p1.length : Int)) k 0).bind fun x15 => (match x15 with | .inl x16 => some true | .inr x17 => some false)))
theorem T_keep_Ints_ok (k : Nat) (p1 : List Int) (p2 : List Int) (r : Bool) : T_keep_Ints k p1 p2 = some r → evF X k n_keep_Ints [(.one (.d (.list (p1.map (D.int .i64))))), (.one (.d (.list (p2.map (D.int .i64)))))] [] = some ((B r), []) := by
  intro H
  cases k with
  | zero => simp [T_keep_Ints] at H
  | succ k =>
    simp only [T_keep_Ints] at H
    refine F_in X_keep_Ints rfl ?_
    refine K_seq ?_
    refine K_reg [] [] ⟨[(0, (.one (.d (.list (p1.map (D.int .i64)))))), (1, (.one (.d (.list (p2.map (D.int .i64))))))], []⟩ (by kernel_rfl) trivial ?_
    refine K_seq ?_
    refine K_seq ?_
    refine K_reg [.n p1.length, .n p2.length] [((p1.map (D.int .i64))).length = p1.length, ((p2.map (D.int .i64))).length = p2.length] ⟨[(0, (.one (.d (.list (p1.map (D.int .i64)))))), (1, (.one (.d (.list (p2.map (D.int .i64)))))), (10, (B (!decide ((p1.length : Int) = (p2.length : Int)))))], []⟩ (by kernel_rfl) (AC (List.length_map _) (A1 (List.length_map _))) ?_
    rcases ite_some H with ⟨hx1, H⟩ | ⟨hx1, H⟩
    · refine K_t rfl hx1 ?_
      refine K_seq ?_
      refine K_reg [] [] ⟨[(4, (B false))], []⟩ (by kernel_rfl) trivial ?_
      refine K_gh ⟨[(4, (B false))], []⟩ (by kernel_rfl) ?_
      cases H
      refine K_ret ?_
      kernel_rfl
    · refine K_f rfl (Bool.eq_false_iff.2 hx1) ?_
      refine K_gh ⟨[(0, (.one (.d (.list (p1.map (D.int .i64)))))), (1, (.one (.d (.list (p2.map (D.int .i64))))))], []⟩ (by kernel_rfl) ?_
      refine K_skip ?_
      refine K_seq ?_
      refine K_seq ?_
      refine K_reg [.n p1.length] [((p1.map (D.int .i64))).length = p1.length] ⟨[(0, (.one (.d (.list (p1.map (D.int .i64)))))), (1, (.one (.d (.list (p2.map (D.int .i64)))))), (12, (I (p1.length : Int))), (13, (I 0))], []⟩ (by kernel_rfl) (A1 (List.length_map _)) ?_
      refine K_block ?_
      obtain ⟨x15, hx15, H⟩ := bind_some' H
      cases x15 with
      | inl x16 =>
        dsimp only at H
        refine K_loop ⟨[], []⟩ (loop_ok (fun (s : Int) => ⟨[(0, (.one (.d (.list (p1.map (D.int .i64)))))), (1, (.one (.d (.list (p2.map (D.int .i64)))))), (12, (I (p1.length : Int))), (13, (I s))], []⟩) (fun (r : Unit ⊕ Unit) => Sum.elim (fun y => (.exit 0, ⟨[], []⟩)) (fun y => (.ret, ⟨[(4, (B false))], []⟩)) r) (fun r h => by cases r <;> cases h) (T_keep_Ints_l1_ok k p1 p2 (p1.length : Int)) k 0 (.inl x16) hx15) rfl ?_
        refine K_seq ?_
        refine K_reg [] [] ⟨[(4, (B true))], []⟩ (by kernel_rfl) trivial ?_
        refine K_gh ⟨[(4, (B true))], []⟩ (by kernel_rfl) ?_
        cases H
        refine K_ret ?_
        kernel_rfl
      | inr x17 =>
        dsimp only at H
        cases H
        refine K_loopr ⟨[(4, (B false))], []⟩ (loop_ok (fun (s : Int) => ⟨[(0, (.one (.d (.list (p1.map (D.int .i64)))))), (1, (.one (.d (.list (p2.map (D.int .i64)))))), (12, (I (p1.length : Int))), (13, (I s))], []⟩) (fun (r : Unit ⊕ Unit) => Sum.elim (fun y => (.exit 0, ⟨[], []⟩)) (fun y => (.ret, ⟨[(4, (B false))], []⟩)) r) (fun r h => by cases r <;> cases h) (T_keep_Ints_l1_ok k p1 p2 (p1.length : Int)) k 0 (.inr x17) hx15) ?_
        kernel_rfl
def T_law20_awake (k : Nat) : Option Bool := match k with
  | 0 => none
  | k + 1 => ((T_envelope_Of k ([0, 0, 5] : List Int) 1 3).bind fun x1 => (T_envelope_Keogh k ([0, 0, 5] : List Int) ([0, 5, 9] : List Int) 1).bind fun x2 => (T_envelope_Pieces k ([0, 0, 5] : List Int) ([0, 5, 9] : List Int) 1 1).bind fun x3 => ((if x1.2.2 = 0 then ((T_keep_Ints k x1.1 ([0, 5, 5] : List Int)).bind fun x6 => (if x6 = true then ((T_keep_Ints k x1.2.1 ([0, 0, 0] : List Int)).bind fun x9 => some ((((x9 && decide (x2.2 = 0)) && decide (x2.1 = 16)) && decide (x3.2.2 = 0)) && (decide (x3.1 = 16) && (decide (x3.2.1 = 3) && true)))) else some false)) else some false)).bind fun x10 => some x10)
theorem T_law20_awake_ok (k : Nat) (r : Bool) : T_law20_awake k = some r → evF X k n_law20_awake [] [] = some ((B r), []) := by
  intro H
  cases k with
  | zero => simp [T_law20_awake] at H
  | succ k =>
    simp only [T_law20_awake] at H
    refine F_in X_law20_awake rfl ?_
    refine K_seq ?_
    refine K_reg [] [] ⟨[], []⟩ (by kernel_rfl) trivial ?_
    refine K_seq ?_
    refine K_reg [] [] ⟨[(1, (.one (.d (.list (([0, 0, 5] : List Int).map (D.int .i64)))))), (2, (.one (.d (.list (([0, 5, 9] : List Int).map (D.int .i64))))))], []⟩ (by kernel_rfl) trivial ?_
    refine K_seq ?_
    obtain ⟨x1, hx1, H⟩ := bind_some' H
    refine K_reg [.r (.tup [(false, [.d (.list (x1.1.map (D.int .i64)))]), (false, [.d (.list (x1.2.1.map (D.int .i64)))]), (false, [.d (.int .i64 x1.2.2)])]) []] [evF X k n_envelope_Of [(.one (.d (.list (([0, 0, 5] : List Int).map (D.int .i64))))), (I 1), (I 3)] [] = some ((.tup [(false, [.d (.list (x1.1.map (D.int .i64)))]), (false, [.d (.list (x1.2.1.map (D.int .i64)))]), (false, [.d (.int .i64 x1.2.2)])]), [])] ⟨[(1, (.one (.d (.list (([0, 0, 5] : List Int).map (D.int .i64)))))), (2, (.one (.d (.list (([0, 5, 9] : List Int).map (D.int .i64)))))), (3, (.one (.d (.list (x1.1.map (D.int .i64)))))), (4, (.one (.d (.list (x1.2.1.map (D.int .i64)))))), (5, (I x1.2.2))], []⟩ (by kernel_rfl) (A1 (T_envelope_Of_ok k ([0, 0, 5] : List Int) 1 3 x1 hx1)) ?_
    refine K_seq ?_
    obtain ⟨x2, hx2, H⟩ := bind_some' H
    refine K_reg [.r (.tup [(false, [.d (.int .i64 x2.1)]), (false, [.d (.int .i64 x2.2)])]) []] [evF X k n_envelope_Keogh [(.one (.d (.list (([0, 0, 5] : List Int).map (D.int .i64))))), (.one (.d (.list (([0, 5, 9] : List Int).map (D.int .i64))))), (I 1)] [] = some ((.tup [(false, [.d (.int .i64 x2.1)]), (false, [.d (.int .i64 x2.2)])]), [])] ⟨[(1, (.one (.d (.list (([0, 0, 5] : List Int).map (D.int .i64)))))), (2, (.one (.d (.list (([0, 5, 9] : List Int).map (D.int .i64)))))), (3, (.one (.d (.list (x1.1.map (D.int .i64)))))), (4, (.one (.d (.list (x1.2.1.map (D.int .i64)))))), (5, (I x1.2.2)), (6, (I x2.1)), (7, (I x2.2))], []⟩ (by kernel_rfl) (A1 (T_envelope_Keogh_ok k ([0, 0, 5] : List Int) ([0, 5, 9] : List Int) 1 x2 hx2)) ?_
    refine K_seq ?_
    obtain ⟨x3, hx3, H⟩ := bind_some' H
    refine K_reg [.r (.tup [(true, [.d (.int .i64 x3.1), .d (.int .i64 x3.2.1)]), (false, [.d (.int .i64 x3.2.2)])]) []] [evF X k n_envelope_Pieces [(.one (.d (.list (([0, 0, 5] : List Int).map (D.int .i64))))), (.one (.d (.list (([0, 5, 9] : List Int).map (D.int .i64))))), (I 1), (I 1)] [] = some ((.tup [(true, [.d (.int .i64 x3.1), .d (.int .i64 x3.2.1)]), (false, [.d (.int .i64 x3.2.2)])]), [])] ⟨[(3, (.one (.d (.list (x1.1.map (D.int .i64)))))), (4, (.one (.d (.list (x1.2.1.map (D.int .i64)))))), (5, (I x1.2.2)), (6, (I x2.1)), (7, (I x2.2)), (8, (.one (.ptr 0 0 0))), (9, (I x3.2.2))], [.cells [.d (.int .i64 x3.1), .d (.int .i64 x3.2.1)]]⟩ (by kernel_rfl) (A1 (T_envelope_Pieces_ok k ([0, 0, 5] : List Int) ([0, 5, 9] : List Int) 1 1 x3 hx3)) ?_
    refine K_seq ?_
    obtain ⟨x10, hx10, H⟩ := bind_some' H
    refine K_of ⟨[(0, (B x10))], []⟩ ?_ ?_
    · clear H; have H := hx10; clear hx10; refine K_in ?_
      rcases ite_some H with ⟨hx5, H⟩ | ⟨hx5, H⟩
      · obtain ⟨x6, hx6, H⟩ := bind_some' H
        rcases ite_some H with ⟨hx8, H⟩ | ⟨hx8, H⟩
        · obtain ⟨x9, hx9, H⟩ := bind_some' H
          refine K_reg [.b true, .r (B x6) [], .b true, .r (B x9) [], .m, .m, .m, .m] [decide (x1.2.2 = 0) = true, evF X k n_keep_Ints [(.one (.d (.list (x1.1.map (D.int .i64))))), (.one (.d (.list (([0, 5, 5] : List Int).map (D.int .i64)))))] [] = some ((B x6), []), x6 = true, evF X k n_keep_Ints [(.one (.d (.list (x1.2.1.map (D.int .i64))))), (.one (.d (.list (([0, 0, 0] : List Int).map (D.int .i64)))))] [] = some ((B x9), []), ([.cells [.d (.int .i64 x3.1), .d (.int .i64 x3.2.1)]] : Heap) = [.cells [.d (.int .i64 x3.1), .d (.int .i64 x3.2.1)]], ([.cells [.d (.int .i64 x3.1), .d (.int .i64 x3.2.1)]] : Heap) = [.cells [.d (.int .i64 x3.1), .d (.int .i64 x3.2.1)]], ([.cells [.d (.int .i64 x3.1), .d (.int .i64 x3.2.1)]] : Heap) = [.cells [.d (.int .i64 x3.1), .d (.int .i64 x3.2.1)]], ([.cells [.d (.int .i64 x3.1), .d (.int .i64 x3.2.1)]] : Heap) = [.cells [.d (.int .i64 x3.1), .d (.int .i64 x3.2.1)]]] ⟨[(0, (B ((((x9 && decide (x2.2 = 0)) && decide (x2.1 = 16)) && decide (x3.2.2 = 0)) && (decide (x3.1 = 16) && (decide (x3.2.1 = 3) && true)))))], []⟩ (by kernel_rfl) (AC (decide_eq_true hx5) (AC (T_keep_Ints_ok k x1.1 ([0, 5, 5] : List Int) x6 hx6) (AC hx8 (AC (T_keep_Ints_ok k x1.2.1 ([0, 0, 0] : List Int) x9 hx9) (AC rfl (AC rfl (AC rfl (A1 rfl)))))))) ?_
          cases H
          exact K_end rfl
        · refine K_reg [.b true, .r (B x6) [], .b false, .b false, .b false, .b false, .b false] [decide (x1.2.2 = 0) = true, evF X k n_keep_Ints [(.one (.d (.list (x1.1.map (D.int .i64))))), (.one (.d (.list (([0, 5, 5] : List Int).map (D.int .i64)))))] [] = some ((B x6), []), x6 = false, false = false, false = false, false = false, false = false] ⟨[(0, (B false))], []⟩ (by kernel_rfl) (AC (decide_eq_true hx5) (AC (T_keep_Ints_ok k x1.1 ([0, 5, 5] : List Int) x6 hx6) (AC (Bool.eq_false_iff.2 hx8) (AC rfl (AC rfl (AC rfl (A1 rfl))))))) ?_
          cases H
          exact K_end rfl
      · refine K_reg [.b false, .b false, .b false, .b false, .b false, .b false] [decide (x1.2.2 = 0) = false, false = false, false = false, false = false, false = false, false = false] ⟨[(0, (B false))], []⟩ (by kernel_rfl) (AC (decide_eq_false hx5) (AC rfl (AC rfl (AC rfl (AC rfl (A1 rfl)))))) ?_
        cases H
        exact K_end rfl
    refine K_gh ⟨[(0, (B x10))], []⟩ (by kernel_rfl) ?_
    cases H
    refine K_ret ?_
    kernel_rfl
def T_law20_EnvelopeMoves_l1 (k : Nat) (p2 : Int) (x5 : Nat) (x6 : Nat) (x7 : Nat) (x8 : Nat) (x9 : Int) (x10 : Int) (x12 : Int) (x15 : List Int) (x23 : Nat × Int × (List Int) × (List Int)) : Option ((Nat × Int × (List Int) × (List Int)) ⊕ ((Nat × (List Int) × (List Int)))) :=
  (if x23.2.1 < x12 then (if (0 : Int) ≤ x23.2.1 ∧ x23.2.1 < ((x6 : Nat) : Int) then (x23.2.2.1[(x5 + x23.2.1.toNat)]?).bind fun x26 => (if (0 : Int) ≤ x23.2.1 ∧ x23.2.1 < ((x6 : Nat) : Int) then ((x23.2.2.1.set (x5 + x23.2.1.toNat) (w64 ((w64 (x26 * 4)).tdiv 5)))[(x5 + x23.2.1.toNat)]?).bind fun x28 => (if x23.1 + 1 ≤ LIM then some (.inl ((x23.1 + 1), (w64 (x23.2.1 + 1)), (x23.2.2.1.set (x5 + x23.2.1.toNat) (w64 ((w64 (x26 * 4)).tdiv 5))), ((x23.2.2.2.drop 0).take x23.1 ++ ([(w64 (x28 + (w64 (p2))))] : List Int)))) else none) else none) else none) else some (.inr (x23.1, x23.2.2.1, x23.2.2.2)))
theorem T_law20_EnvelopeMoves_l1_ok (k : Nat) (p2 : Int) (x5 : Nat) (x6 : Nat) (x7 : Nat) (x8 : Nat) (x9 : Int) (x10 : Int) (x12 : Int) (x15 : List Int) : ∀ (x23 : Nat × Int × (List Int) × (List Int)) (x : (Nat × Int × (List Int) × (List Int)) ⊕ ((Nat × (List Int) × (List Int)))), T_law20_EnvelopeMoves_l1 k p2 x5 x6 x7 x8 x9 x10 x12 x15 x23 = some x → evC X (evF X k) k 0 l_law20_EnvelopeMoves_1 ⟨[(1, (.one (.d (.int .i8 p2)))), (6, (.one (.own 0 x5 x6))), (7, (.one (.own 1 x7 x8))), (8, (I x9)), (9, (I x10)), (10, (.one (.own 2 0 x23.1))), (11, (.one (.nil))), (42, (I x12)), (43, (I x23.2.1))], [.vals (.int .i64 0) (x23.2.2.1.map (D.int .i64)), .vals (.int .i64 0) (x15.map (D.int .i64)), .vals (.int .i64 0) (x23.2.2.2.map (D.int .i64))]⟩ = some (outS (fun (s : Nat × Int × (List Int) × (List Int)) => ⟨[(1, (.one (.d (.int .i8 p2)))), (6, (.one (.own 0 x5 x6))), (7, (.one (.own 1 x7 x8))), (8, (I x9)), (9, (I x10)), (10, (.one (.own 2 0 s.1))), (11, (.one (.nil))), (42, (I x12)), (43, (I s.2.1))], [.vals (.int .i64 0) (s.2.2.1.map (D.int .i64)), .vals (.int .i64 0) (x15.map (D.int .i64)), .vals (.int .i64 0) (s.2.2.2.map (D.int .i64))]⟩) (fun (r : (Nat × (List Int) × (List Int))) => (.exit 0, ⟨[(1, (.one (.d (.int .i8 p2)))), (6, (.one (.own 0 x5 x6))), (7, (.one (.own 1 x7 x8))), (8, (I x9)), (9, (I x10)), (10, (.one (.own 2 0 r.1))), (11, (.one (.nil)))], [.vals (.int .i64 0) (r.2.1.map (D.int .i64)), .vals (.int .i64 0) (x15.map (D.int .i64)), .vals (.int .i64 0) (r.2.2.map (D.int .i64))]⟩)) x) := by
  intro x23 x H
  unfold T_law20_EnvelopeMoves_l1 at H
  refine K_in ?_
  refine K_seq ?_
  refine K_reg [] [] ⟨[(1, (.one (.d (.int .i8 p2)))), (6, (.one (.own 0 x5 x6))), (7, (.one (.own 1 x7 x8))), (8, (I x9)), (9, (I x10)), (10, (.one (.own 2 0 x23.1))), (11, (.one (.nil))), (42, (I x12)), (43, (I x23.2.1)), (44, (B (decide (x23.2.1 < x12))))], [.vals (.int .i64 0) (x23.2.2.1.map (D.int .i64)), .vals (.int .i64 0) (x15.map (D.int .i64)), .vals (.int .i64 0) (x23.2.2.2.map (D.int .i64))]⟩ (by kernel_rfl) trivial ?_
  refine K_seq ?_
  rcases ite_some H with ⟨hx24, H⟩ | ⟨hx24, H⟩
  · refine K_t rfl (decide_eq_true hx24) ?_
    refine K_gh ⟨[(1, (.one (.d (.int .i8 p2)))), (6, (.one (.own 0 x5 x6))), (7, (.one (.own 1 x7 x8))), (8, (I x9)), (9, (I x10)), (10, (.one (.own 2 0 x23.1))), (11, (.one (.nil))), (42, (I x12)), (43, (I x23.2.1))], [.vals (.int .i64 0) (x23.2.2.1.map (D.int .i64)), .vals (.int .i64 0) (x15.map (D.int .i64)), .vals (.int .i64 0) (x23.2.2.2.map (D.int .i64))]⟩ (by kernel_rfl) ?_
    refine K_skip ?_
    refine K_seq ?_
    refine K_block ?_
    refine K_seq ?_
    refine K_reg [] [] ⟨[(1, (.one (.d (.int .i8 p2)))), (6, (.one (.own 0 x5 x6))), (7, (.one (.own 1 x7 x8))), (8, (I x9)), (9, (I x10)), (10, (.one (.own 2 0 x23.1))), (11, (.one (.nil))), (12, (I x23.2.1)), (42, (I x12)), (43, (I x23.2.1))], [.vals (.int .i64 0) (x23.2.2.1.map (D.int .i64)), .vals (.int .i64 0) (x15.map (D.int .i64)), .vals (.int .i64 0) (x23.2.2.2.map (D.int .i64))]⟩ (by kernel_rfl) trivial ?_
    refine K_seq ?_
    obtain ⟨hx25, H⟩ := guard_some H
    obtain ⟨x26, hx26, H⟩ := bind_some' H
    refine K_reg [.l [.int .i64 x26], .l ((x23.2.2.1.set (x5 + x23.2.1.toNat) (w64 ((w64 (x26 * 4)).tdiv 5))).map (D.int .i64))] [(0 : Int) ≤ x23.2.1 ∧ x23.2.1 < ((x6 : Nat) : Int), ((x23.2.2.1.map (D.int .i64)).getD (x5 + x23.2.1.toNat) (.int .i64 0)).cells = [.int .i64 x26], 5 ≠ (0 : Int), (0 : Int) ≤ x23.2.1 ∧ x23.2.1 < ((x6 : Nat) : Int), (x23.2.2.1.map (D.int .i64)).set (x5 + x23.2.1.toNat) (elemOf (.int .i64 0) (splice ((x23.2.2.1.map (D.int .i64)).getD (x5 + x23.2.1.toNat) (.int .i64 0)).cells 0 [.int .i64 (w64 ((w64 (x26 * 4)).tdiv 5))])) = (x23.2.2.1.set (x5 + x23.2.1.toNat) (w64 ((w64 (x26 * 4)).tdiv 5))).map (D.int .i64)] ⟨[(1, (.one (.d (.int .i8 p2)))), (6, (.one (.own 0 x5 x6))), (7, (.one (.own 1 x7 x8))), (8, (I x9)), (9, (I x10)), (10, (.one (.own 2 0 x23.1))), (11, (.one (.nil))), (12, (I x23.2.1)), (42, (I x12)), (43, (I x23.2.1))], [.vals (.int .i64 0) ((x23.2.2.1.set (x5 + x23.2.1.toNat) (w64 ((w64 (x26 * 4)).tdiv 5))).map (D.int .i64)), .vals (.int .i64 0) (x15.map (D.int .i64)), .vals (.int .i64 0) (x23.2.2.2.map (D.int .i64))]⟩ (by kernel_rfl) (AC hx25 (AC (ld_ok hx26 (D.int .i64) (.int .i64 0)) (AC (by decide) (AC hx25 (A1 (st_one x23.2.2.1 (x5 + x23.2.1.toNat) (w64 ((w64 (x26 * 4)).tdiv 5)) (D.int .i64) (.int .i64 0) rfl (fun _ => rfl) rfl)))))) ?_
    obtain ⟨hx27, H⟩ := guard_some H
    obtain ⟨x28, hx28, H⟩ := bind_some' H
    obtain ⟨hx29, H⟩ := guard_some H
    refine K_reg [.l [.int .i64 x28], .n 1, .l (((x23.2.2.2.drop 0).take x23.1 ++ ([(w64 (x28 + (w64 (p2))))] : List Int)).map (D.int .i64))] [(0 : Int) ≤ x23.2.1 ∧ x23.2.1 < ((x6 : Nat) : Int), (((x23.2.2.1.set (x5 + x23.2.1.toNat) (w64 ((w64 (x26 * 4)).tdiv 5))).map (D.int .i64)).getD (x5 + x23.2.1.toNat) (.int .i64 0)).cells = [.int .i64 x28], (List.all (([(w64 (x28 + (w64 (p2))))] : List Int).map (D.int .i64)) fun d => d.cells.length == (D.cells (.int .i64 0)).length) = true, x23.1 + 1 ≤ LIM, (([(w64 (x28 + (w64 (p2))))] : List Int).map (D.int .i64)).length = 1, ((x23.2.2.2.map (D.int .i64)).drop 0).take x23.1 ++ (([(w64 (x28 + (w64 (p2))))] : List Int).map (D.int .i64)) = ((x23.2.2.2.drop 0).take x23.1 ++ ([(w64 (x28 + (w64 (p2))))] : List Int)).map (D.int .i64)] ⟨[(1, (.one (.d (.int .i8 p2)))), (6, (.one (.own 0 x5 x6))), (7, (.one (.own 1 x7 x8))), (8, (I x9)), (9, (I x10)), (10, (.one (.own 2 0 (x23.1 + 1)))), (11, (.one (.nil))), (42, (I x12)), (43, (I x23.2.1))], [.vals (.int .i64 0) ((x23.2.2.1.set (x5 + x23.2.1.toNat) (w64 ((w64 (x26 * 4)).tdiv 5))).map (D.int .i64)), .vals (.int .i64 0) (x15.map (D.int .i64)), .vals (.int .i64 0) (((x23.2.2.2.drop 0).take x23.1 ++ ([(w64 (x28 + (w64 (p2))))] : List Int)).map (D.int .i64))]⟩ (by kernel_rfl) (AC hx27 (AC (ld_ok hx28 (D.int .i64) (.int .i64 0)) (AC (all_ok (D.int .i64) 1 ([(w64 (x28 + (w64 (p2))))] : List Int) (fun _ => rfl)) (AC hx29 (AC (by simp) (A1 (ap_map (D.int .i64) x23.2.2.2 ([(w64 (x28 + (w64 (p2))))] : List Int) 0 x23.1))))))) ?_
    refine K_blk ?_
    refine K_reg [] [] ⟨[(1, (.one (.d (.int .i8 p2)))), (6, (.one (.own 0 x5 x6))), (7, (.one (.own 1 x7 x8))), (8, (I x9)), (9, (I x10)), (10, (.one (.own 2 0 (x23.1 + 1)))), (11, (.one (.nil))), (42, (I x12)), (43, (I (w64 (x23.2.1 + 1))))], [.vals (.int .i64 0) ((x23.2.2.1.set (x5 + x23.2.1.toNat) (w64 ((w64 (x26 * 4)).tdiv 5))).map (D.int .i64)), .vals (.int .i64 0) (x15.map (D.int .i64)), .vals (.int .i64 0) (((x23.2.2.2.drop 0).take x23.1 ++ ([(w64 (x28 + (w64 (p2))))] : List Int)).map (D.int .i64))]⟩ (by kernel_rfl) trivial ?_
    cases H
    exact K_end rfl
  · refine K_f rfl (decide_eq_false hx24) ?_
    refine K_gh ⟨[(1, (.one (.d (.int .i8 p2)))), (6, (.one (.own 0 x5 x6))), (7, (.one (.own 1 x7 x8))), (8, (I x9)), (9, (I x10)), (10, (.one (.own 2 0 x23.1))), (11, (.one (.nil)))], [.vals (.int .i64 0) (x23.2.2.1.map (D.int .i64)), .vals (.int .i64 0) (x15.map (D.int .i64)), .vals (.int .i64 0) (x23.2.2.2.map (D.int .i64))]⟩ (by kernel_rfl) ?_
    cases H
    exact K_exit0 rfl rfl
def T_law20_EnvelopeMoves_l2 (k : Nat) (p2 : Int) (x32 : Nat) (x33 : Nat) (x34 : Nat) (x35 : Nat) (x36 : Int) (x37 : Int) (x38 : Nat) (x40 : Int) (x42 : List Int) (x44 : List Int) (x52 : Nat × Int × (List Int) × (List Int)) : Option ((Nat × Int × (List Int) × (List Int)) ⊕ ((Nat × (List Int) × (List Int)))) :=
  (if x52.2.1 < x40 then (if (0 : Int) ≤ x52.2.1 ∧ x52.2.1 < ((x35 : Nat) : Int) then (x52.2.2.1[(x34 + x52.2.1.toNat)]?).bind fun x55 => (if (0 : Int) ≤ x52.2.1 ∧ x52.2.1 < ((x35 : Nat) : Int) then ((x52.2.2.1.set (x34 + x52.2.1.toNat) (w64 ((w64 (x55 * 4)).tdiv 5)))[(x34 + x52.2.1.toNat)]?).bind fun x57 => (if x52.1 + 1 ≤ LIM then some (.inl ((x52.1 + 1), (w64 (x52.2.1 + 1)), (x52.2.2.1.set (x34 + x52.2.1.toNat) (w64 ((w64 (x55 * 4)).tdiv 5))), ((x52.2.2.2.drop 0).take x52.1 ++ ([(w64 (x57 + (w64 (p2))))] : List Int)))) else none) else none) else none) else some (.inr (x52.1, x52.2.2.1, x52.2.2.2)))
theorem T_law20_EnvelopeMoves_l2_ok (k : Nat) (p2 : Int) (x32 : Nat) (x33 : Nat) (x34 : Nat) (x35 : Nat) (x36 : Int) (x37 : Int) (x38 : Nat) (x40 : Int) (x42 : List Int) (x44 : List Int) : ∀ (x52 : Nat × Int × (List Int) × (List Int)) (x : (Nat × Int × (List Int) × (List Int)) ⊕ ((Nat × (List Int) × (List Int)))), T_law20_EnvelopeMoves_l2 k p2 x32 x33 x34 x35 x36 x37 x38 x40 x42 x44 x52 = some x → evC X (evF X k) k 0 l_law20_EnvelopeMoves_2 ⟨[(1, (.one (.d (.int .i8 p2)))), (6, (.one (.own 0 x32 x33))), (7, (.one (.own 1 x34 x35))), (8, (I x36)), (9, (I x37)), (10, (.one (.own 2 0 x38))), (11, (.one (.own 3 0 x52.1))), (67, (I x40)), (68, (I x52.2.1))], [.vals (.int .i64 0) (x42.map (D.int .i64)), .vals (.int .i64 0) (x52.2.2.1.map (D.int .i64)), .vals (.int .i64 0) (x44.map (D.int .i64)), .vals (.int .i64 0) (x52.2.2.2.map (D.int .i64))]⟩ = some (outS (fun (s : Nat × Int × (List Int) × (List Int)) => ⟨[(1, (.one (.d (.int .i8 p2)))), (6, (.one (.own 0 x32 x33))), (7, (.one (.own 1 x34 x35))), (8, (I x36)), (9, (I x37)), (10, (.one (.own 2 0 x38))), (11, (.one (.own 3 0 s.1))), (67, (I x40)), (68, (I s.2.1))], [.vals (.int .i64 0) (x42.map (D.int .i64)), .vals (.int .i64 0) (s.2.2.1.map (D.int .i64)), .vals (.int .i64 0) (x44.map (D.int .i64)), .vals (.int .i64 0) (s.2.2.2.map (D.int .i64))]⟩) (fun (r : (Nat × (List Int) × (List Int))) => (.exit 2, ⟨[(6, (.one (.own 0 x32 x33))), (7, (.one (.own 1 x34 x35))), (8, (I x36)), (9, (I x37)), (10, (.one (.own 2 0 x38))), (11, (.one (.own 3 0 r.1)))], [.vals (.int .i64 0) (x42.map (D.int .i64)), .vals (.int .i64 0) (r.2.1.map (D.int .i64)), .vals (.int .i64 0) (x44.map (D.int .i64)), .vals (.int .i64 0) (r.2.2.map (D.int .i64))]⟩)) x) := by
  intro x52 x H
  unfold T_law20_EnvelopeMoves_l2 at H
  refine K_in ?_
  refine K_seq ?_
  refine K_reg [] [] ⟨[(1, (.one (.d (.int .i8 p2)))), (6, (.one (.own 0 x32 x33))), (7, (.one (.own 1 x34 x35))), (8, (I x36)), (9, (I x37)), (10, (.one (.own 2 0 x38))), (11, (.one (.own 3 0 x52.1))), (67, (I x40)), (68, (I x52.2.1)), (69, (B (decide (x52.2.1 < x40))))], [.vals (.int .i64 0) (x42.map (D.int .i64)), .vals (.int .i64 0) (x52.2.2.1.map (D.int .i64)), .vals (.int .i64 0) (x44.map (D.int .i64)), .vals (.int .i64 0) (x52.2.2.2.map (D.int .i64))]⟩ (by kernel_rfl) trivial ?_
  refine K_seq ?_
  rcases ite_some H with ⟨hx53, H⟩ | ⟨hx53, H⟩
  · refine K_t rfl (decide_eq_true hx53) ?_
    refine K_gh ⟨[(1, (.one (.d (.int .i8 p2)))), (6, (.one (.own 0 x32 x33))), (7, (.one (.own 1 x34 x35))), (8, (I x36)), (9, (I x37)), (10, (.one (.own 2 0 x38))), (11, (.one (.own 3 0 x52.1))), (67, (I x40)), (68, (I x52.2.1))], [.vals (.int .i64 0) (x42.map (D.int .i64)), .vals (.int .i64 0) (x52.2.2.1.map (D.int .i64)), .vals (.int .i64 0) (x44.map (D.int .i64)), .vals (.int .i64 0) (x52.2.2.2.map (D.int .i64))]⟩ (by kernel_rfl) ?_
    refine K_skip ?_
    refine K_seq ?_
    refine K_block ?_
    refine K_seq ?_
    refine K_reg [] [] ⟨[(1, (.one (.d (.int .i8 p2)))), (6, (.one (.own 0 x32 x33))), (7, (.one (.own 1 x34 x35))), (8, (I x36)), (9, (I x37)), (10, (.one (.own 2 0 x38))), (11, (.one (.own 3 0 x52.1))), (13, (I x52.2.1)), (67, (I x40)), (68, (I x52.2.1))], [.vals (.int .i64 0) (x42.map (D.int .i64)), .vals (.int .i64 0) (x52.2.2.1.map (D.int .i64)), .vals (.int .i64 0) (x44.map (D.int .i64)), .vals (.int .i64 0) (x52.2.2.2.map (D.int .i64))]⟩ (by kernel_rfl) trivial ?_
    refine K_seq ?_
    obtain ⟨hx54, H⟩ := guard_some H
    obtain ⟨x55, hx55, H⟩ := bind_some' H
    refine K_reg [.l [.int .i64 x55], .l ((x52.2.2.1.set (x34 + x52.2.1.toNat) (w64 ((w64 (x55 * 4)).tdiv 5))).map (D.int .i64))] [(0 : Int) ≤ x52.2.1 ∧ x52.2.1 < ((x35 : Nat) : Int), ((x52.2.2.1.map (D.int .i64)).getD (x34 + x52.2.1.toNat) (.int .i64 0)).cells = [.int .i64 x55], 5 ≠ (0 : Int), (0 : Int) ≤ x52.2.1 ∧ x52.2.1 < ((x35 : Nat) : Int), (x52.2.2.1.map (D.int .i64)).set (x34 + x52.2.1.toNat) (elemOf (.int .i64 0) (splice ((x52.2.2.1.map (D.int .i64)).getD (x34 + x52.2.1.toNat) (.int .i64 0)).cells 0 [.int .i64 (w64 ((w64 (x55 * 4)).tdiv 5))])) = (x52.2.2.1.set (x34 + x52.2.1.toNat) (w64 ((w64 (x55 * 4)).tdiv 5))).map (D.int .i64)] ⟨[(1, (.one (.d (.int .i8 p2)))), (6, (.one (.own 0 x32 x33))), (7, (.one (.own 1 x34 x35))), (8, (I x36)), (9, (I x37)), (10, (.one (.own 2 0 x38))), (11, (.one (.own 3 0 x52.1))), (13, (I x52.2.1)), (67, (I x40)), (68, (I x52.2.1))], [.vals (.int .i64 0) (x42.map (D.int .i64)), .vals (.int .i64 0) ((x52.2.2.1.set (x34 + x52.2.1.toNat) (w64 ((w64 (x55 * 4)).tdiv 5))).map (D.int .i64)), .vals (.int .i64 0) (x44.map (D.int .i64)), .vals (.int .i64 0) (x52.2.2.2.map (D.int .i64))]⟩ (by kernel_rfl) (AC hx54 (AC (ld_ok hx55 (D.int .i64) (.int .i64 0)) (AC (by decide) (AC hx54 (A1 (st_one x52.2.2.1 (x34 + x52.2.1.toNat) (w64 ((w64 (x55 * 4)).tdiv 5)) (D.int .i64) (.int .i64 0) rfl (fun _ => rfl) rfl)))))) ?_
    obtain ⟨hx56, H⟩ := guard_some H
    obtain ⟨x57, hx57, H⟩ := bind_some' H
    obtain ⟨hx58, H⟩ := guard_some H
    refine K_reg [.l [.int .i64 x57], .n 1, .l (((x52.2.2.2.drop 0).take x52.1 ++ ([(w64 (x57 + (w64 (p2))))] : List Int)).map (D.int .i64))] [(0 : Int) ≤ x52.2.1 ∧ x52.2.1 < ((x35 : Nat) : Int), (((x52.2.2.1.set (x34 + x52.2.1.toNat) (w64 ((w64 (x55 * 4)).tdiv 5))).map (D.int .i64)).getD (x34 + x52.2.1.toNat) (.int .i64 0)).cells = [.int .i64 x57], (List.all (([(w64 (x57 + (w64 (p2))))] : List Int).map (D.int .i64)) fun d => d.cells.length == (D.cells (.int .i64 0)).length) = true, x52.1 + 1 ≤ LIM, (([(w64 (x57 + (w64 (p2))))] : List Int).map (D.int .i64)).length = 1, ((x52.2.2.2.map (D.int .i64)).drop 0).take x52.1 ++ (([(w64 (x57 + (w64 (p2))))] : List Int).map (D.int .i64)) = ((x52.2.2.2.drop 0).take x52.1 ++ ([(w64 (x57 + (w64 (p2))))] : List Int)).map (D.int .i64)] ⟨[(1, (.one (.d (.int .i8 p2)))), (6, (.one (.own 0 x32 x33))), (7, (.one (.own 1 x34 x35))), (8, (I x36)), (9, (I x37)), (10, (.one (.own 2 0 x38))), (11, (.one (.own 3 0 (x52.1 + 1)))), (67, (I x40)), (68, (I x52.2.1))], [.vals (.int .i64 0) (x42.map (D.int .i64)), .vals (.int .i64 0) ((x52.2.2.1.set (x34 + x52.2.1.toNat) (w64 ((w64 (x55 * 4)).tdiv 5))).map (D.int .i64)), .vals (.int .i64 0) (x44.map (D.int .i64)), .vals (.int .i64 0) (((x52.2.2.2.drop 0).take x52.1 ++ ([(w64 (x57 + (w64 (p2))))] : List Int)).map (D.int .i64))]⟩ (by kernel_rfl) (AC hx56 (AC (ld_ok hx57 (D.int .i64) (.int .i64 0)) (AC (all_ok (D.int .i64) 1 ([(w64 (x57 + (w64 (p2))))] : List Int) (fun _ => rfl)) (AC hx58 (AC (by simp) (A1 (ap_map (D.int .i64) x52.2.2.2 ([(w64 (x57 + (w64 (p2))))] : List Int) 0 x52.1))))))) ?_
    refine K_blk ?_
    refine K_reg [] [] ⟨[(1, (.one (.d (.int .i8 p2)))), (6, (.one (.own 0 x32 x33))), (7, (.one (.own 1 x34 x35))), (8, (I x36)), (9, (I x37)), (10, (.one (.own 2 0 x38))), (11, (.one (.own 3 0 (x52.1 + 1)))), (67, (I x40)), (68, (I (w64 (x52.2.1 + 1))))], [.vals (.int .i64 0) (x42.map (D.int .i64)), .vals (.int .i64 0) ((x52.2.2.1.set (x34 + x52.2.1.toNat) (w64 ((w64 (x55 * 4)).tdiv 5))).map (D.int .i64)), .vals (.int .i64 0) (x44.map (D.int .i64)), .vals (.int .i64 0) (((x52.2.2.2.drop 0).take x52.1 ++ ([(w64 (x57 + (w64 (p2))))] : List Int)).map (D.int .i64))]⟩ (by kernel_rfl) trivial ?_
    cases H
    exact K_end rfl
  · refine K_f rfl (decide_eq_false hx53) ?_
    refine K_gh ⟨[(6, (.one (.own 0 x32 x33))), (7, (.one (.own 1 x34 x35))), (8, (I x36)), (9, (I x37)), (10, (.one (.own 2 0 x38))), (11, (.one (.own 3 0 x52.1)))], [.vals (.int .i64 0) (x42.map (D.int .i64)), .vals (.int .i64 0) (x52.2.2.1.map (D.int .i64)), .vals (.int .i64 0) (x44.map (D.int .i64)), .vals (.int .i64 0) (x52.2.2.2.map (D.int .i64))]⟩ (by kernel_rfl) ?_
    cases H
    exact K_exit0 rfl rfl
def T_law20_EnvelopeMoves (k : Nat) (p1 : List Int) (p2 : Int) : Option Bool := match k with
  | 0 => none
  | k + 1 => ((T_keep_New k p1).bind fun x1 => (T_keep_Src_Uneven k ((p1.drop 0).take ((imin (p1.length : Int) 2000).toNat - 0)) 0).bind fun x2 => (T_keep_Src_Range k 1 (imin 8 ((x2.2.2.2.1 : Nat) : Int)) ((p1.drop 0).take ((imin (p1.length : Int) 2000).toNat - 0)) x2.2.2.2.2.2.1).bind fun x3 => (loopT (T_law20_EnvelopeMoves_l1 k p2 x2.1 x2.2.1 x2.2.2.1 x2.2.2.2.1 x2.2.2.2.2.1 x3.1 ((x2.2.1 : Nat) : Int) x2.2.2.2.2.2.2.2) k (0, 0, x2.2.2.2.2.2.2.1, [])).bind fun x30 => (loopT (T_law20_EnvelopeMoves_l2 k p2 x2.1 x2.2.1 x2.2.2.1 x2.2.2.2.1 x2.2.2.2.2.1 x3.1 x30.1 ((x2.2.2.2.1 : Nat) : Int) x30.2.1 x30.2.2) k (0, 0, x2.2.2.2.2.2.2.2, [])).bind fun x59 => (T_envelope_Keogh k ((x30.2.1.drop x2.1).take x2.2.1) ((x59.2.1.drop x2.2.2.1).take x2.2.2.2.1) x2.2.2.2.2.1).bind fun x60 => (T_envelope_Keogh k ((x30.2.2.drop 0).take x30.1) ((x59.2.2.drop 0).take x59.1) x2.2.2.2.2.1).bind fun x61 => (T_envelope_Improved k ((x30.2.1.drop x2.1).take x2.2.1) ((x59.2.1.drop x2.2.2.1).take x2.2.2.2.1) x2.2.2.2.2.1).bind fun x62 => (T_envelope_Improved k ((x30.2.2.drop 0).take x30.1) ((x59.2.2.drop 0).take x59.1) x2.2.2.2.2.1).bind fun x63 => (T_envelope_Pieces k ((x30.2.1.drop x2.1).take x2.2.1) ((x59.2.1.drop x2.2.2.1).take x2.2.2.2.1) x2.2.2.2.2.1 x3.1).bind fun x64 => (T_envelope_Pieces k ((x30.2.2.drop 0).take x30.1) ((x59.2.2.drop 0).take x59.1) x2.2.2.2.2.1 x3.1).bind fun x65 => (T_envelope_Improved k ((x30.2.1.drop x2.1).take x2.2.1) ((x30.2.1.drop x2.1).take x2.2.1) x2.2.2.2.2.1).bind fun x66 => ((if ((((((((((decide (x60.2 = 0) && decide (x61.2 = 0)) && decide (x62.2 = 0)) && decide (x63.2 = 0)) && decide (x64.2.2 = 0)) && decide (x65.2.2 = 0)) && decide (x66.2 = 0)) && decide (x60.1 = x61.1)) && decide (x62.1 = x63.1)) && (decide (x64.1 = x65.1) && (decide (x64.2.1 = x65.2.1) && true))) && decide (x66.1 = 0)) = true then ((T_law20_awake k).bind fun x69 => some x69) else some false)).bind fun x70 => some x70)
theorem T_law20_EnvelopeMoves_ok (k : Nat) (p1 : List Int) (p2 : Int) (r : Bool) : T_law20_EnvelopeMoves k p1 p2 = some r → evF X k n_law20_EnvelopeMoves [(.one (.d (.list (p1.map (D.int .i64))))), (.one (.d (.int .i8 p2)))] [] = some ((B r), []) := by
  intro H
  cases k with
  | zero => simp [T_law20_EnvelopeMoves] at H
  | succ k =>
    simp only [T_law20_EnvelopeMoves] at H
    refine F_in X_law20_EnvelopeMoves rfl ?_
    refine K_seq ?_
    refine K_reg [] [] ⟨[(0, (.one (.d (.list (p1.map (D.int .i64)))))), (1, (.one (.d (.int .i8 p2))))], []⟩ (by kernel_rfl) trivial ?_
    refine K_seq ?_
    obtain ⟨x1, hx1, H⟩ := bind_some' H
    refine K_reg [.r (.one (.ptr 0 0 0)) [.cells [.d (.list (((p1.drop 0).take ((imin (p1.length : Int) 2000).toNat - 0)).map (D.int .i64))), .d (.int .i64 0)]]] [evF X k n_keep_New [(.one (.d (.list (p1.map (D.int .i64)))))] [] = some ((.one (.ptr 0 0 0)), [.cells [.d (.list (((p1.drop 0).take ((imin (p1.length : Int) 2000).toNat - 0)).map (D.int .i64))), .d (.int .i64 0)]])] ⟨[(1, (.one (.d (.int .i8 p2)))), (5, (.one (.ptr 0 0 0)))], [.cells [.d (.list (((p1.drop 0).take ((imin (p1.length : Int) 2000).toNat - 0)).map (D.int .i64))), .d (.int .i64 0)]]⟩ (by kernel_rfl) (A1 (T_keep_New_ok k p1 x1 hx1)) ?_
    refine K_seq ?_
    obtain ⟨x2, hx2, H⟩ := bind_some' H
    refine K_reg [.r (.tup [(false, [.own 1 x2.1 x2.2.1]), (false, [.own 2 x2.2.2.1 x2.2.2.2.1]), (false, [.d (.int .i64 x2.2.2.2.2.1)])]) [.cells [.d (.list (((p1.drop 0).take ((imin (p1.length : Int) 2000).toNat - 0)).map (D.int .i64))), .d (.int .i64 x2.2.2.2.2.2.1)], .vals (.int .i64 0) (x2.2.2.2.2.2.2.1.map (D.int .i64)), .vals (.int .i64 0) (x2.2.2.2.2.2.2.2.map (D.int .i64))]] [evF X k n_keep_Src_Uneven [(.one (.ptr 0 0 0))] [.cells [.d (.list (((p1.drop 0).take ((imin (p1.length : Int) 2000).toNat - 0)).map (D.int .i64))), .d (.int .i64 0)]] = some ((.tup [(false, [.own 1 x2.1 x2.2.1]), (false, [.own 2 x2.2.2.1 x2.2.2.2.1]), (false, [.d (.int .i64 x2.2.2.2.2.1)])]), [.cells [.d (.list (((p1.drop 0).take ((imin (p1.length : Int) 2000).toNat - 0)).map (D.int .i64))), .d (.int .i64 x2.2.2.2.2.2.1)], .vals (.int .i64 0) (x2.2.2.2.2.2.2.1.map (D.int .i64)), .vals (.int .i64 0) (x2.2.2.2.2.2.2.2.map (D.int .i64))])] ⟨[(1, (.one (.d (.int .i8 p2)))), (5, (.one (.ptr 0 0 0))), (6, (.one (.own 1 x2.1 x2.2.1))), (7, (.one (.own 2 x2.2.2.1 x2.2.2.2.1))), (8, (I x2.2.2.2.2.1))], [.cells [.d (.list (((p1.drop 0).take ((imin (p1.length : Int) 2000).toNat - 0)).map (D.int .i64))), .d (.int .i64 x2.2.2.2.2.2.1)], .vals (.int .i64 0) (x2.2.2.2.2.2.2.1.map (D.int .i64)), .vals (.int .i64 0) (x2.2.2.2.2.2.2.2.map (D.int .i64))]⟩ (by kernel_rfl) (A1 (T_keep_Src_Uneven_ok k ((p1.drop 0).take ((imin (p1.length : Int) 2000).toNat - 0)) 0 x2 hx2)) ?_
    refine K_seq ?_
    obtain ⟨x3, hx3, H⟩ := bind_some' H
    refine K_reg [.r (I x3.1) [.cells [.d (.list (((p1.drop 0).take ((imin (p1.length : Int) 2000).toNat - 0)).map (D.int .i64))), .d (.int .i64 x3.2)]]] [evF X k n_keep_Src_Range [(.one (.ptr 0 0 0)), (I 1), (I (imin 8 ((x2.2.2.2.1 : Nat) : Int)))] [.cells [.d (.list (((p1.drop 0).take ((imin (p1.length : Int) 2000).toNat - 0)).map (D.int .i64))), .d (.int .i64 x2.2.2.2.2.2.1)]] = some ((I x3.1), [.cells [.d (.list (((p1.drop 0).take ((imin (p1.length : Int) 2000).toNat - 0)).map (D.int .i64))), .d (.int .i64 x3.2)]])] ⟨[(1, (.one (.d (.int .i8 p2)))), (6, (.one (.own 0 x2.1 x2.2.1))), (7, (.one (.own 1 x2.2.2.1 x2.2.2.2.1))), (8, (I x2.2.2.2.2.1)), (9, (I x3.1))], [.vals (.int .i64 0) (x2.2.2.2.2.2.2.1.map (D.int .i64)), .vals (.int .i64 0) (x2.2.2.2.2.2.2.2.map (D.int .i64))]⟩ (by kernel_rfl) (A1 (T_keep_Src_Range_ok k 1 (imin 8 ((x2.2.2.2.1 : Nat) : Int)) ((p1.drop 0).take ((imin (p1.length : Int) 2000).toNat - 0)) x2.2.2.2.2.2.1 x3 hx3)) ?_
    refine K_seq ?_
    refine K_reg [] [] ⟨[(1, (.one (.d (.int .i8 p2)))), (6, (.one (.own 0 x2.1 x2.2.1))), (7, (.one (.own 1 x2.2.2.1 x2.2.2.2.1))), (8, (I x2.2.2.2.2.1)), (9, (I x3.1)), (10, (.one (.nil))), (11, (.one (.nil)))], [.vals (.int .i64 0) (x2.2.2.2.2.2.2.1.map (D.int .i64)), .vals (.int .i64 0) (x2.2.2.2.2.2.2.2.map (D.int .i64))]⟩ (by kernel_rfl) trivial ?_
    refine K_seq ?_
    refine K_seq ?_
    refine K_reg [] [] ⟨[(1, (.one (.d (.int .i8 p2)))), (6, (.one (.own 0 x2.1 x2.2.1))), (7, (.one (.own 1 x2.2.2.1 x2.2.2.2.1))), (8, (I x2.2.2.2.2.1)), (9, (I x3.1)), (10, (.one (.nil))), (11, (.one (.nil))), (42, (I ((x2.2.1 : Nat) : Int))), (43, (I 0))], [.vals (.int .i64 0) (x2.2.2.2.2.2.2.1.map (D.int .i64)), .vals (.int .i64 0) (x2.2.2.2.2.2.2.2.map (D.int .i64))]⟩ (by kernel_rfl) trivial ?_
    refine K_block ?_
    refine K_gh ⟨[(1, (.one (.d (.int .i8 p2)))), (6, (.one (.own 0 x2.1 x2.2.1))), (7, (.one (.own 1 x2.2.2.1 x2.2.2.2.1))), (8, (I x2.2.2.2.2.1)), (9, (I x3.1)), (10, (.one (.own 2 0 0))), (11, (.one (.nil))), (42, (I ((x2.2.1 : Nat) : Int))), (43, (I 0))], [.vals (.int .i64 0) (x2.2.2.2.2.2.2.1.map (D.int .i64)), .vals (.int .i64 0) (x2.2.2.2.2.2.2.2.map (D.int .i64)), .vals (.int .i64 0) ([].map (D.int .i64))]⟩ (by kernel_rfl) ?_
    obtain ⟨x30, hx30, H⟩ := bind_some' H
    refine K_loop ⟨[(1, (.one (.d (.int .i8 p2)))), (6, (.one (.own 0 x2.1 x2.2.1))), (7, (.one (.own 1 x2.2.2.1 x2.2.2.2.1))), (8, (I x2.2.2.2.2.1)), (9, (I x3.1)), (10, (.one (.own 2 0 x30.1))), (11, (.one (.nil)))], [.vals (.int .i64 0) (x30.2.1.map (D.int .i64)), .vals (.int .i64 0) (x2.2.2.2.2.2.2.2.map (D.int .i64)), .vals (.int .i64 0) (x30.2.2.map (D.int .i64))]⟩ (loop_ok (fun (s : Nat × Int × (List Int) × (List Int)) => ⟨[(1, (.one (.d (.int .i8 p2)))), (6, (.one (.own 0 x2.1 x2.2.1))), (7, (.one (.own 1 x2.2.2.1 x2.2.2.2.1))), (8, (I x2.2.2.2.2.1)), (9, (I x3.1)), (10, (.one (.own 2 0 s.1))), (11, (.one (.nil))), (42, (I ((x2.2.1 : Nat) : Int))), (43, (I s.2.1))], [.vals (.int .i64 0) (s.2.2.1.map (D.int .i64)), .vals (.int .i64 0) (x2.2.2.2.2.2.2.2.map (D.int .i64)), .vals (.int .i64 0) (s.2.2.2.map (D.int .i64))]⟩) (fun (r : (Nat × (List Int) × (List Int))) => (.exit 0, ⟨[(1, (.one (.d (.int .i8 p2)))), (6, (.one (.own 0 x2.1 x2.2.1))), (7, (.one (.own 1 x2.2.2.1 x2.2.2.2.1))), (8, (I x2.2.2.2.2.1)), (9, (I x3.1)), (10, (.one (.own 2 0 r.1))), (11, (.one (.nil)))], [.vals (.int .i64 0) (r.2.1.map (D.int .i64)), .vals (.int .i64 0) (x2.2.2.2.2.2.2.2.map (D.int .i64)), .vals (.int .i64 0) (r.2.2.map (D.int .i64))]⟩)) (fun r h => by cases h) (T_law20_EnvelopeMoves_l1_ok k p2 x2.1 x2.2.1 x2.2.2.1 x2.2.2.2.1 x2.2.2.2.2.1 x3.1 ((x2.2.1 : Nat) : Int) x2.2.2.2.2.2.2.2) k (0, 0, x2.2.2.2.2.2.2.1, []) x30 hx30) rfl ?_
    refine K_seq ?_
    refine K_seq ?_
    refine K_reg [] [] ⟨[(1, (.one (.d (.int .i8 p2)))), (6, (.one (.own 0 x2.1 x2.2.1))), (7, (.one (.own 1 x2.2.2.1 x2.2.2.2.1))), (8, (I x2.2.2.2.2.1)), (9, (I x3.1)), (10, (.one (.own 2 0 x30.1))), (11, (.one (.nil))), (67, (I ((x2.2.2.2.1 : Nat) : Int))), (68, (I 0))], [.vals (.int .i64 0) (x30.2.1.map (D.int .i64)), .vals (.int .i64 0) (x2.2.2.2.2.2.2.2.map (D.int .i64)), .vals (.int .i64 0) (x30.2.2.map (D.int .i64))]⟩ (by kernel_rfl) trivial ?_
    refine K_block ?_
    refine K_gh ⟨[(1, (.one (.d (.int .i8 p2)))), (6, (.one (.own 0 x2.1 x2.2.1))), (7, (.one (.own 1 x2.2.2.1 x2.2.2.2.1))), (8, (I x2.2.2.2.2.1)), (9, (I x3.1)), (10, (.one (.own 2 0 x30.1))), (11, (.one (.own 3 0 0))), (67, (I ((x2.2.2.2.1 : Nat) : Int))), (68, (I 0))], [.vals (.int .i64 0) (x30.2.1.map (D.int .i64)), .vals (.int .i64 0) (x2.2.2.2.2.2.2.2.map (D.int .i64)), .vals (.int .i64 0) (x30.2.2.map (D.int .i64)), .vals (.int .i64 0) ([].map (D.int .i64))]⟩ (by kernel_rfl) ?_
    obtain ⟨x59, hx59, H⟩ := bind_some' H
    refine K_loop ⟨[(6, (.one (.own 0 x2.1 x2.2.1))), (7, (.one (.own 1 x2.2.2.1 x2.2.2.2.1))), (8, (I x2.2.2.2.2.1)), (9, (I x3.1)), (10, (.one (.own 2 0 x30.1))), (11, (.one (.own 3 0 x59.1)))], [.vals (.int .i64 0) (x30.2.1.map (D.int .i64)), .vals (.int .i64 0) (x59.2.1.map (D.int .i64)), .vals (.int .i64 0) (x30.2.2.map (D.int .i64)), .vals (.int .i64 0) (x59.2.2.map (D.int .i64))]⟩ (loop_ok (fun (s : Nat × Int × (List Int) × (List Int)) => ⟨[(1, (.one (.d (.int .i8 p2)))), (6, (.one (.own 0 x2.1 x2.2.1))), (7, (.one (.own 1 x2.2.2.1 x2.2.2.2.1))), (8, (I x2.2.2.2.2.1)), (9, (I x3.1)), (10, (.one (.own 2 0 x30.1))), (11, (.one (.own 3 0 s.1))), (67, (I ((x2.2.2.2.1 : Nat) : Int))), (68, (I s.2.1))], [.vals (.int .i64 0) (x30.2.1.map (D.int .i64)), .vals (.int .i64 0) (s.2.2.1.map (D.int .i64)), .vals (.int .i64 0) (x30.2.2.map (D.int .i64)), .vals (.int .i64 0) (s.2.2.2.map (D.int .i64))]⟩) (fun (r : (Nat × (List Int) × (List Int))) => (.exit 2, ⟨[(6, (.one (.own 0 x2.1 x2.2.1))), (7, (.one (.own 1 x2.2.2.1 x2.2.2.2.1))), (8, (I x2.2.2.2.2.1)), (9, (I x3.1)), (10, (.one (.own 2 0 x30.1))), (11, (.one (.own 3 0 r.1)))], [.vals (.int .i64 0) (x30.2.1.map (D.int .i64)), .vals (.int .i64 0) (r.2.1.map (D.int .i64)), .vals (.int .i64 0) (x30.2.2.map (D.int .i64)), .vals (.int .i64 0) (r.2.2.map (D.int .i64))]⟩)) (fun r h => by cases h) (T_law20_EnvelopeMoves_l2_ok k p2 x2.1 x2.2.1 x2.2.2.1 x2.2.2.2.1 x2.2.2.2.2.1 x3.1 x30.1 ((x2.2.2.2.1 : Nat) : Int) x30.2.1 x30.2.2) k (0, 0, x2.2.2.2.2.2.2.2, []) x59 hx59) rfl ?_
    refine K_seq ?_
    refine K_gh ⟨[(6, (.one (.d (.list (((x30.2.1.map (D.int .i64)).drop x2.1).take x2.2.1))))), (7, (.one (.d (.list (((x59.2.1.map (D.int .i64)).drop x2.2.2.1).take x2.2.2.2.1))))), (8, (I x2.2.2.2.2.1)), (9, (I x3.1)), (10, (.one (.d (.list (((x30.2.2.map (D.int .i64)).drop 0).take x30.1))))), (11, (.one (.d (.list (((x59.2.2.map (D.int .i64)).drop 0).take x59.1)))))], []⟩ (by kernel_rfl) ?_
    refine K_conv (σ' := ⟨[(6, (.one (.d (.list (((x30.2.1.drop x2.1).take x2.2.1).map (D.int .i64)))))), (7, (.one (.d (.list (((x59.2.1.drop x2.2.2.1).take x2.2.2.2.1).map (D.int .i64)))))), (8, (I x2.2.2.2.2.1)), (9, (I x3.1)), (10, (.one (.d (.list (((x30.2.2.drop 0).take x30.1).map (D.int .i64)))))), (11, (.one (.d (.list (((x59.2.2.drop 0).take x59.1).map (D.int .i64))))))], []⟩) (by simp only [dt_map]) ?_
    obtain ⟨x60, hx60, H⟩ := bind_some' H
    refine K_reg [.r (.tup [(false, [.d (.int .i64 x60.1)]), (false, [.d (.int .i64 x60.2)])]) []] [evF X k n_envelope_Keogh [(.one (.d (.list (((x30.2.1.drop x2.1).take x2.2.1).map (D.int .i64))))), (.one (.d (.list (((x59.2.1.drop x2.2.2.1).take x2.2.2.2.1).map (D.int .i64))))), (I x2.2.2.2.2.1)] [] = some ((.tup [(false, [.d (.int .i64 x60.1)]), (false, [.d (.int .i64 x60.2)])]), [])] ⟨[(6, (.one (.d (.list (((x30.2.1.drop x2.1).take x2.2.1).map (D.int .i64)))))), (7, (.one (.d (.list (((x59.2.1.drop x2.2.2.1).take x2.2.2.2.1).map (D.int .i64)))))), (8, (I x2.2.2.2.2.1)), (9, (I x3.1)), (10, (.one (.d (.list (((x30.2.2.drop 0).take x30.1).map (D.int .i64)))))), (11, (.one (.d (.list (((x59.2.2.drop 0).take x59.1).map (D.int .i64)))))), (14, (I x60.1)), (15, (I x60.2))], []⟩ (by kernel_rfl) (A1 (T_envelope_Keogh_ok k ((x30.2.1.drop x2.1).take x2.2.1) ((x59.2.1.drop x2.2.2.1).take x2.2.2.2.1) x2.2.2.2.2.1 x60 hx60)) ?_
    refine K_seq ?_
    obtain ⟨x61, hx61, H⟩ := bind_some' H
    refine K_reg [.r (.tup [(false, [.d (.int .i64 x61.1)]), (false, [.d (.int .i64 x61.2)])]) []] [evF X k n_envelope_Keogh [(.one (.d (.list (((x30.2.2.drop 0).take x30.1).map (D.int .i64))))), (.one (.d (.list (((x59.2.2.drop 0).take x59.1).map (D.int .i64))))), (I x2.2.2.2.2.1)] [] = some ((.tup [(false, [.d (.int .i64 x61.1)]), (false, [.d (.int .i64 x61.2)])]), [])] ⟨[(6, (.one (.d (.list (((x30.2.1.drop x2.1).take x2.2.1).map (D.int .i64)))))), (7, (.one (.d (.list (((x59.2.1.drop x2.2.2.1).take x2.2.2.2.1).map (D.int .i64)))))), (8, (I x2.2.2.2.2.1)), (9, (I x3.1)), (10, (.one (.d (.list (((x30.2.2.drop 0).take x30.1).map (D.int .i64)))))), (11, (.one (.d (.list (((x59.2.2.drop 0).take x59.1).map (D.int .i64)))))), (14, (I x60.1)), (15, (I x60.2)), (16, (I x61.1)), (17, (I x61.2))], []⟩ (by kernel_rfl) (A1 (T_envelope_Keogh_ok k ((x30.2.2.drop 0).take x30.1) ((x59.2.2.drop 0).take x59.1) x2.2.2.2.2.1 x61 hx61)) ?_
    refine K_seq ?_
    obtain ⟨x62, hx62, H⟩ := bind_some' H
    refine K_reg [.r (.tup [(false, [.d (.int .i64 x62.1)]), (false, [.d (.int .i64 x62.2)])]) []] [evF X k n_envelope_Improved [(.one (.d (.list (((x30.2.1.drop x2.1).take x2.2.1).map (D.int .i64))))), (.one (.d (.list (((x59.2.1.drop x2.2.2.1).take x2.2.2.2.1).map (D.int .i64))))), (I x2.2.2.2.2.1)] [] = some ((.tup [(false, [.d (.int .i64 x62.1)]), (false, [.d (.int .i64 x62.2)])]), [])] ⟨[(6, (.one (.d (.list (((x30.2.1.drop x2.1).take x2.2.1).map (D.int .i64)))))), (7, (.one (.d (.list (((x59.2.1.drop x2.2.2.1).take x2.2.2.2.1).map (D.int .i64)))))), (8, (I x2.2.2.2.2.1)), (9, (I x3.1)), (10, (.one (.d (.list (((x30.2.2.drop 0).take x30.1).map (D.int .i64)))))), (11, (.one (.d (.list (((x59.2.2.drop 0).take x59.1).map (D.int .i64)))))), (14, (I x60.1)), (15, (I x60.2)), (16, (I x61.1)), (17, (I x61.2)), (18, (I x62.1)), (19, (I x62.2))], []⟩ (by kernel_rfl) (A1 (T_envelope_Improved_ok k ((x30.2.1.drop x2.1).take x2.2.1) ((x59.2.1.drop x2.2.2.1).take x2.2.2.2.1) x2.2.2.2.2.1 x62 hx62)) ?_
    refine K_seq ?_
    obtain ⟨x63, hx63, H⟩ := bind_some' H
    refine K_reg [.r (.tup [(false, [.d (.int .i64 x63.1)]), (false, [.d (.int .i64 x63.2)])]) []] [evF X k n_envelope_Improved [(.one (.d (.list (((x30.2.2.drop 0).take x30.1).map (D.int .i64))))), (.one (.d (.list (((x59.2.2.drop 0).take x59.1).map (D.int .i64))))), (I x2.2.2.2.2.1)] [] = some ((.tup [(false, [.d (.int .i64 x63.1)]), (false, [.d (.int .i64 x63.2)])]), [])] ⟨[(6, (.one (.d (.list (((x30.2.1.drop x2.1).take x2.2.1).map (D.int .i64)))))), (7, (.one (.d (.list (((x59.2.1.drop x2.2.2.1).take x2.2.2.2.1).map (D.int .i64)))))), (8, (I x2.2.2.2.2.1)), (9, (I x3.1)), (10, (.one (.d (.list (((x30.2.2.drop 0).take x30.1).map (D.int .i64)))))), (11, (.one (.d (.list (((x59.2.2.drop 0).take x59.1).map (D.int .i64)))))), (14, (I x60.1)), (15, (I x60.2)), (16, (I x61.1)), (17, (I x61.2)), (18, (I x62.1)), (19, (I x62.2)), (20, (I x63.1)), (21, (I x63.2))], []⟩ (by kernel_rfl) (A1 (T_envelope_Improved_ok k ((x30.2.2.drop 0).take x30.1) ((x59.2.2.drop 0).take x59.1) x2.2.2.2.2.1 x63 hx63)) ?_
    refine K_seq ?_
    obtain ⟨x64, hx64, H⟩ := bind_some' H
    refine K_reg [.r (.tup [(true, [.d (.int .i64 x64.1), .d (.int .i64 x64.2.1)]), (false, [.d (.int .i64 x64.2.2)])]) []] [evF X k n_envelope_Pieces [(.one (.d (.list (((x30.2.1.drop x2.1).take x2.2.1).map (D.int .i64))))), (.one (.d (.list (((x59.2.1.drop x2.2.2.1).take x2.2.2.2.1).map (D.int .i64))))), (I x2.2.2.2.2.1), (I x3.1)] [] = some ((.tup [(true, [.d (.int .i64 x64.1), .d (.int .i64 x64.2.1)]), (false, [.d (.int .i64 x64.2.2)])]), [])] ⟨[(6, (.one (.d (.list (((x30.2.1.drop x2.1).take x2.2.1).map (D.int .i64)))))), (8, (I x2.2.2.2.2.1)), (9, (I x3.1)), (10, (.one (.d (.list (((x30.2.2.drop 0).take x30.1).map (D.int .i64)))))), (11, (.one (.d (.list (((x59.2.2.drop 0).take x59.1).map (D.int .i64)))))), (14, (I x60.1)), (15, (I x60.2)), (16, (I x61.1)), (17, (I x61.2)), (18, (I x62.1)), (19, (I x62.2)), (20, (I x63.1)), (21, (I x63.2)), (22, (.one (.ptr 0 0 0))), (23, (I x64.2.2))], [.cells [.d (.int .i64 x64.1), .d (.int .i64 x64.2.1)]]⟩ (by kernel_rfl) (A1 (T_envelope_Pieces_ok k ((x30.2.1.drop x2.1).take x2.2.1) ((x59.2.1.drop x2.2.2.1).take x2.2.2.2.1) x2.2.2.2.2.1 x3.1 x64 hx64)) ?_
    refine K_seq ?_
    obtain ⟨x65, hx65, H⟩ := bind_some' H
    refine K_reg [.r (.tup [(true, [.d (.int .i64 x65.1), .d (.int .i64 x65.2.1)]), (false, [.d (.int .i64 x65.2.2)])]) []] [evF X k n_envelope_Pieces [(.one (.d (.list (((x30.2.2.drop 0).take x30.1).map (D.int .i64))))), (.one (.d (.list (((x59.2.2.drop 0).take x59.1).map (D.int .i64))))), (I x2.2.2.2.2.1), (I x3.1)] [] = some ((.tup [(true, [.d (.int .i64 x65.1), .d (.int .i64 x65.2.1)]), (false, [.d (.int .i64 x65.2.2)])]), [])] ⟨[(6, (.one (.d (.list (((x30.2.1.drop x2.1).take x2.2.1).map (D.int .i64)))))), (8, (I x2.2.2.2.2.1)), (14, (I x60.1)), (15, (I x60.2)), (16, (I x61.1)), (17, (I x61.2)), (18, (I x62.1)), (19, (I x62.2)), (20, (I x63.1)), (21, (I x63.2)), (22, (.one (.ptr 0 0 0))), (23, (I x64.2.2)), (24, (.one (.ptr 1 0 0))), (25, (I x65.2.2))], [.cells [.d (.int .i64 x64.1), .d (.int .i64 x64.2.1)], .cells [.d (.int .i64 x65.1), .d (.int .i64 x65.2.1)]]⟩ (by kernel_rfl) (A1 (T_envelope_Pieces_ok k ((x30.2.2.drop 0).take x30.1) ((x59.2.2.drop 0).take x59.1) x2.2.2.2.2.1 x3.1 x65 hx65)) ?_
    refine K_seq ?_
    obtain ⟨x66, hx66, H⟩ := bind_some' H
    refine K_reg [.r (.tup [(false, [.d (.int .i64 x66.1)]), (false, [.d (.int .i64 x66.2)])]) []] [evF X k n_envelope_Improved [(.one (.d (.list (((x30.2.1.drop x2.1).take x2.2.1).map (D.int .i64))))), (.one (.d (.list (((x30.2.1.drop x2.1).take x2.2.1).map (D.int .i64))))), (I x2.2.2.2.2.1)] [] = some ((.tup [(false, [.d (.int .i64 x66.1)]), (false, [.d (.int .i64 x66.2)])]), [])] ⟨[(14, (I x60.1)), (15, (I x60.2)), (16, (I x61.1)), (17, (I x61.2)), (18, (I x62.1)), (19, (I x62.2)), (20, (I x63.1)), (21, (I x63.2)), (22, (.one (.ptr 0 0 0))), (23, (I x64.2.2)), (24, (.one (.ptr 1 0 0))), (25, (I x65.2.2)), (26, (I x66.1)), (27, (I x66.2))], [.cells [.d (.int .i64 x64.1), .d (.int .i64 x64.2.1)], .cells [.d (.int .i64 x65.1), .d (.int .i64 x65.2.1)]]⟩ (by kernel_rfl) (A1 (T_envelope_Improved_ok k ((x30.2.1.drop x2.1).take x2.2.1) ((x30.2.1.drop x2.1).take x2.2.1) x2.2.2.2.2.1 x66 hx66)) ?_
    refine K_seq ?_
    obtain ⟨x70, hx70, H⟩ := bind_some' H
    refine K_of ⟨[(4, (B x70))], []⟩ ?_ ?_
    · clear H; have H := hx70; clear hx70; refine K_in ?_
      rcases ite_some H with ⟨hx68, H⟩ | ⟨hx68, H⟩
      · obtain ⟨x69, hx69, H⟩ := bind_some' H
        refine K_reg [.m, .m, .m, .m, .m, .m, .m, .m, .m, .m, .b true, .r (B x69) []] [([.cells [.d (.int .i64 x64.1), .d (.int .i64 x64.2.1)], .cells [.d (.int .i64 x65.1), .d (.int .i64 x65.2.1)]] : Heap) = [.cells [.d (.int .i64 x64.1), .d (.int .i64 x64.2.1)], .cells [.d (.int .i64 x65.1), .d (.int .i64 x65.2.1)]], ([.cells [.d (.int .i64 x64.1), .d (.int .i64 x64.2.1)], .cells [.d (.int .i64 x65.1), .d (.int .i64 x65.2.1)]] : Heap) = [.cells [.d (.int .i64 x64.1), .d (.int .i64 x64.2.1)], .cells [.d (.int .i64 x65.1), .d (.int .i64 x65.2.1)]], ([.cells [.d (.int .i64 x64.1), .d (.int .i64 x64.2.1)], .cells [.d (.int .i64 x65.1), .d (.int .i64 x65.2.1)]] : Heap) = [.cells [.d (.int .i64 x64.1), .d (.int .i64 x64.2.1)], .cells [.d (.int .i64 x65.1), .d (.int .i64 x65.2.1)]], ([.cells [.d (.int .i64 x64.1), .d (.int .i64 x64.2.1)], .cells [.d (.int .i64 x65.1), .d (.int .i64 x65.2.1)]] : Heap) = [.cells [.d (.int .i64 x64.1), .d (.int .i64 x64.2.1)], .cells [.d (.int .i64 x65.1), .d (.int .i64 x65.2.1)]], ([.cells [.d (.int .i64 x64.1), .d (.int .i64 x64.2.1)], .cells [.d (.int .i64 x65.1), .d (.int .i64 x65.2.1)]] : Heap) = [.cells [.d (.int .i64 x64.1), .d (.int .i64 x64.2.1)], .cells [.d (.int .i64 x65.1), .d (.int .i64 x65.2.1)]], ([.cells [.d (.int .i64 x64.1), .d (.int .i64 x64.2.1)], .cells [.d (.int .i64 x65.1), .d (.int .i64 x65.2.1)]] : Heap) = [.cells [.d (.int .i64 x64.1), .d (.int .i64 x64.2.1)], .cells [.d (.int .i64 x65.1), .d (.int .i64 x65.2.1)]], ([.cells [.d (.int .i64 x64.1), .d (.int .i64 x64.2.1)], .cells [.d (.int .i64 x65.1), .d (.int .i64 x65.2.1)]] : Heap) = [.cells [.d (.int .i64 x64.1), .d (.int .i64 x64.2.1)], .cells [.d (.int .i64 x65.1), .d (.int .i64 x65.2.1)]], ([.cells [.d (.int .i64 x64.1), .d (.int .i64 x64.2.1)], .cells [.d (.int .i64 x65.1), .d (.int .i64 x65.2.1)]] : Heap) = [.cells [.d (.int .i64 x64.1), .d (.int .i64 x64.2.1)], .cells [.d (.int .i64 x65.1), .d (.int .i64 x65.2.1)]], ([.cells [.d (.int .i64 x64.1), .d (.int .i64 x64.2.1)], .cells [.d (.int .i64 x65.1), .d (.int .i64 x65.2.1)]] : Heap) = [.cells [.d (.int .i64 x64.1), .d (.int .i64 x64.2.1)], .cells [.d (.int .i64 x65.1), .d (.int .i64 x65.2.1)]], ([.cells [.d (.int .i64 x64.1), .d (.int .i64 x64.2.1)], .cells [.d (.int .i64 x65.1), .d (.int .i64 x65.2.1)]] : Heap) = [.cells [.d (.int .i64 x64.1), .d (.int .i64 x64.2.1)], .cells [.d (.int .i64 x65.1), .d (.int .i64 x65.2.1)]], ((((((((((decide (x60.2 = 0) && decide (x61.2 = 0)) && decide (x62.2 = 0)) && decide (x63.2 = 0)) && decide (x64.2.2 = 0)) && decide (x65.2.2 = 0)) && decide (x66.2 = 0)) && decide (x60.1 = x61.1)) && decide (x62.1 = x63.1)) && (decide (x64.1 = x65.1) && (decide (x64.2.1 = x65.2.1) && true))) && decide (x66.1 = 0)) = true, evF X k n_law20_awake [] [] = some ((B x69), [])] ⟨[(4, (B x69))], []⟩ (by kernel_rfl) (AC rfl (AC rfl (AC rfl (AC rfl (AC rfl (AC rfl (AC rfl (AC rfl (AC rfl (AC rfl (AC hx68 (A1 (T_law20_awake_ok k x69 hx69))))))))))))) ?_
        cases H
        exact K_end rfl
      · refine K_reg [.m, .m, .m, .m, .m, .m, .m, .m, .m, .m, .b false] [([.cells [.d (.int .i64 x64.1), .d (.int .i64 x64.2.1)], .cells [.d (.int .i64 x65.1), .d (.int .i64 x65.2.1)]] : Heap) = [.cells [.d (.int .i64 x64.1), .d (.int .i64 x64.2.1)], .cells [.d (.int .i64 x65.1), .d (.int .i64 x65.2.1)]], ([.cells [.d (.int .i64 x64.1), .d (.int .i64 x64.2.1)], .cells [.d (.int .i64 x65.1), .d (.int .i64 x65.2.1)]] : Heap) = [.cells [.d (.int .i64 x64.1), .d (.int .i64 x64.2.1)], .cells [.d (.int .i64 x65.1), .d (.int .i64 x65.2.1)]], ([.cells [.d (.int .i64 x64.1), .d (.int .i64 x64.2.1)], .cells [.d (.int .i64 x65.1), .d (.int .i64 x65.2.1)]] : Heap) = [.cells [.d (.int .i64 x64.1), .d (.int .i64 x64.2.1)], .cells [.d (.int .i64 x65.1), .d (.int .i64 x65.2.1)]], ([.cells [.d (.int .i64 x64.1), .d (.int .i64 x64.2.1)], .cells [.d (.int .i64 x65.1), .d (.int .i64 x65.2.1)]] : Heap) = [.cells [.d (.int .i64 x64.1), .d (.int .i64 x64.2.1)], .cells [.d (.int .i64 x65.1), .d (.int .i64 x65.2.1)]], ([.cells [.d (.int .i64 x64.1), .d (.int .i64 x64.2.1)], .cells [.d (.int .i64 x65.1), .d (.int .i64 x65.2.1)]] : Heap) = [.cells [.d (.int .i64 x64.1), .d (.int .i64 x64.2.1)], .cells [.d (.int .i64 x65.1), .d (.int .i64 x65.2.1)]], ([.cells [.d (.int .i64 x64.1), .d (.int .i64 x64.2.1)], .cells [.d (.int .i64 x65.1), .d (.int .i64 x65.2.1)]] : Heap) = [.cells [.d (.int .i64 x64.1), .d (.int .i64 x64.2.1)], .cells [.d (.int .i64 x65.1), .d (.int .i64 x65.2.1)]], ([.cells [.d (.int .i64 x64.1), .d (.int .i64 x64.2.1)], .cells [.d (.int .i64 x65.1), .d (.int .i64 x65.2.1)]] : Heap) = [.cells [.d (.int .i64 x64.1), .d (.int .i64 x64.2.1)], .cells [.d (.int .i64 x65.1), .d (.int .i64 x65.2.1)]], ([.cells [.d (.int .i64 x64.1), .d (.int .i64 x64.2.1)], .cells [.d (.int .i64 x65.1), .d (.int .i64 x65.2.1)]] : Heap) = [.cells [.d (.int .i64 x64.1), .d (.int .i64 x64.2.1)], .cells [.d (.int .i64 x65.1), .d (.int .i64 x65.2.1)]], ([.cells [.d (.int .i64 x64.1), .d (.int .i64 x64.2.1)], .cells [.d (.int .i64 x65.1), .d (.int .i64 x65.2.1)]] : Heap) = [.cells [.d (.int .i64 x64.1), .d (.int .i64 x64.2.1)], .cells [.d (.int .i64 x65.1), .d (.int .i64 x65.2.1)]], ([.cells [.d (.int .i64 x64.1), .d (.int .i64 x64.2.1)], .cells [.d (.int .i64 x65.1), .d (.int .i64 x65.2.1)]] : Heap) = [.cells [.d (.int .i64 x64.1), .d (.int .i64 x64.2.1)], .cells [.d (.int .i64 x65.1), .d (.int .i64 x65.2.1)]], ((((((((((decide (x60.2 = 0) && decide (x61.2 = 0)) && decide (x62.2 = 0)) && decide (x63.2 = 0)) && decide (x64.2.2 = 0)) && decide (x65.2.2 = 0)) && decide (x66.2 = 0)) && decide (x60.1 = x61.1)) && decide (x62.1 = x63.1)) && (decide (x64.1 = x65.1) && (decide (x64.2.1 = x65.2.1) && true))) && decide (x66.1 = 0)) = false] ⟨[(4, (B false))], []⟩ (by kernel_rfl) (AC rfl (AC rfl (AC rfl (AC rfl (AC rfl (AC rfl (AC rfl (AC rfl (AC rfl (AC rfl (A1 (Bool.eq_false_iff.2 hx68)))))))))))) ?_
        cases H
        exact K_end rfl
    refine K_gh ⟨[(4, (B x70))], []⟩ (by kernel_rfl) ?_
    cases H
    refine K_ret ?_
    kernel_rfl
end Go.Proofs.Ytdelnjemfjihpaa.envelopeMoves
