/- What the functions that the statement SketchNarrow reaches compute, told as functions of Lean, and that the theory's language computes the same: part 1 of 2. There are no conditions. -/
import Derived.Test.YtdmipmhpjdmopaaMSketchNarrow
set_option maxRecDepth 100000
set_option linter.unusedVariables false
set_option linter.unusedSimpArgs false
namespace Go.Proofs.Ytdmipmhpjdmopaa.sketchNarrow
open Go
abbrev e_st0 (p : Int × Int) : D := .agg [.int .i64 p.1, .int .i64 p.2]
def T_keep_New (k : Nat) (p1 : List Int) : Option Unit := match k with
  | 0 => none
  | k + 1 => (if (0 : Int) ≤ 0 ∧ 0 ≤ (imin (p1.length : Int) 2000) ∧ (imin (p1.length : Int) 2000) ≤ (p1.length : Int) ∧ (p1.length : Int) ≤ (p1.length : Int) then some () else none)
theorem T_keep_New_ok (k : Nat) (p1 : List Int) (r : Unit) : T_keep_New k p1 = some r → evF X k n_keep_New [(.one (.d (.list (p1.map (D.int .i64)))))] [] = some ((.one (.ptr 0 0 0)), [.cells [.d (.list (((p1.drop 0).take ((imin (p1.length : Int) 2000).toNat - 0)).map (D.int .i64))), .d (.int .i64 0)]]) := by
  intro H
  cases k with
  | zero => simp [T_keep_New] at H
  | succ k =>
    simp only [T_keep_New] at H
    refine F_in X_keep_New rfl ?_
    refine K_seq ?_
    refine K_reg [] [] ⟨[(0, (.one (.d (.list (p1.map (D.int .i64))))))], []⟩ (by kernel_rfl) trivial ?_
    refine K_seq ?_
    obtain ⟨hx1, H⟩ := guard_some H
    refine K_reg [.n p1.length, .l (((p1.drop 0).take ((imin (p1.length : Int) 2000).toNat - 0)).map (D.int .i64))] [((p1.map (D.int .i64))).length = p1.length, ((p1.map (D.int .i64)).all fun d => d.cells.length == 1) = true, (0 : Int) ≤ 0 ∧ 0 ≤ (imin (p1.length : Int) 2000) ∧ (imin (p1.length : Int) 2000) ≤ (((p1.map (D.int .i64))).length : Int) ∧ (((p1.map (D.int .i64))).length : Int) ≤ (((p1.map (D.int .i64))).length : Int), ((p1.map (D.int .i64)).drop (0 : Int).toNat).take (((imin (p1.length : Int) 2000) : Int).toNat - (0 : Int).toNat) = ((p1.drop 0).take ((imin (p1.length : Int) 2000).toNat - 0)).map (D.int .i64)] ⟨[(2, (.one (.ptr 0 0 0)))], [.cells [.d (.list (((p1.drop 0).take ((imin (p1.length : Int) 2000).toNat - 0)).map (D.int .i64))), .d (.int .i64 0)]]⟩ (by kernel_rfl) (AC (List.length_map _) (AC (all_ok (D.int .i64) 1 p1 (fun _ => rfl)) (AC (by simpa using hx1) (A1 (dt_map _ _ _ _))))) ?_
    refine K_gh ⟨[(2, (.one (.ptr 0 0 0)))], [.cells [.d (.list (((p1.drop 0).take ((imin (p1.length : Int) 2000).toNat - 0)).map (D.int .i64))), .d (.int .i64 0)]]⟩ (by kernel_rfl) ?_
    cases H
    refine K_ret ?_
    kernel_rfl
def T_keep_Src_Raw (k : Nat) (p1 : List Int) (p2 : Int) : Option (Int × Int) := match k with
  | 0 => none
  | k + 1 => (if (p1.length : Int) ≤ p2 then some (0, p2) else ((at? p1 (w64 ((w64 (p2 + 1)) - 1))).bind fun x2 => some (x2, (w64 (p2 + 1)))))
theorem T_keep_Src_Raw_ok (k : Nat) (p1 : List Int) (p2 : Int) (r : Int × Int) : T_keep_Src_Raw k p1 p2 = some r → evF X k n_keep_Src_Raw [(.one (.ptr 0 0 0))] [.cells [.d (.list (p1.map (D.int .i64))), .d (.int .i64 p2)]] = some ((I r.1), [.cells [.d (.list (p1.map (D.int .i64))), .d (.int .i64 r.2)]]) := by
  intro H
  cases k with
  | zero => simp [T_keep_Src_Raw] at H
  | succ k =>
    simp only [T_keep_Src_Raw] at H
    refine F_in X_keep_Src_Raw rfl ?_
    refine K_seq ?_
    refine K_reg [] [] ⟨[(0, (.one (.ptr 0 0 0)))], [.cells [.d (.list (p1.map (D.int .i64))), .d (.int .i64 p2)]]⟩ (by kernel_rfl) trivial ?_
    refine K_seq ?_
    refine K_seq ?_
    refine K_reg [.n p1.length] [((p1.map (D.int .i64))).length = p1.length] ⟨[(0, (.one (.ptr 0 0 0))), (12, (B (decide ((p1.length : Int) ≤ p2))))], [.cells [.d (.list (p1.map (D.int .i64))), .d (.int .i64 p2)]]⟩ (by kernel_rfl) (A1 (List.length_map _)) ?_
    rcases ite_some H with ⟨hx1, H⟩ | ⟨hx1, H⟩
    · refine K_t rfl (decide_eq_true hx1) ?_
      refine K_seq ?_
      refine K_reg [] [] ⟨[(2, (I 0))], [.cells [.d (.list (p1.map (D.int .i64))), .d (.int .i64 p2)]]⟩ (by kernel_rfl) trivial ?_
      refine K_gh ⟨[(2, (I 0))], [.cells [.d (.list (p1.map (D.int .i64))), .d (.int .i64 p2)]]⟩ (by kernel_rfl) ?_
      cases H
      refine K_ret ?_
      kernel_rfl
    · refine K_f rfl (decide_eq_false hx1) ?_
      refine K_gh ⟨[(0, (.one (.ptr 0 0 0)))], [.cells [.d (.list (p1.map (D.int .i64))), .d (.int .i64 p2)]]⟩ (by kernel_rfl) ?_
      refine K_skip ?_
      refine K_seq ?_
      refine K_reg [] [] ⟨[(0, (.one (.ptr 0 0 0)))], [.cells [.d (.list (p1.map (D.int .i64))), .d (.int .i64 (w64 (p2 + 1)))]]⟩ (by kernel_rfl) trivial ?_
      refine K_seq ?_
      obtain ⟨x2, hx2, H⟩ := bind_some' H
      refine K_reg [.l [.int .i64 x2]] [(0 : Int) ≤ (w64 ((w64 (p2 + 1)) - 1)) ∧ (w64 ((w64 (p2 + 1)) - 1)) < (((p1.map (D.int .i64))).length : Int), ((p1.map (D.int .i64)).getD (w64 ((w64 (p2 + 1)) - 1)).toNat (.int .i64 0)).cells = [.int .i64 x2]] ⟨[(2, (I x2))], [.cells [.d (.list (p1.map (D.int .i64))), .d (.int .i64 (w64 (p2 + 1)))]]⟩ (by kernel_rfl) (AC (at_ok hx2 (D.int .i64) (.int .i64 0)).1 (A1 (at_ok hx2 (D.int .i64) (.int .i64 0)).2)) ?_
      refine K_gh ⟨[(2, (I x2))], [.cells [.d (.list (p1.map (D.int .i64))), .d (.int .i64 (w64 (p2 + 1)))]]⟩ (by kernel_rfl) ?_
      cases H
      refine K_ret ?_
      kernel_rfl
def T_keep_Mod (k : Nat) (p1 : Int) (p2 : Int) : Option Int := match k with
  | 0 => none
  | k + 1 => (if p2 < 1 then some 0 else (if p2 ≠ 0 then ((if (p1.tmod p2) < 0 then some (w64 ((p1.tmod p2) + p2)) else some (p1.tmod p2))).bind fun x4 => some x4 else none))
theorem T_keep_Mod_ok (k : Nat) (p1 : Int) (p2 : Int) (r : Int) : T_keep_Mod k p1 p2 = some r → evF X k n_keep_Mod [(I p1), (I p2)] [] = some ((I r), []) := by
  intro H
  cases k with
  | zero => simp [T_keep_Mod] at H
  | succ k =>
    simp only [T_keep_Mod] at H
    refine F_in X_keep_Mod rfl ?_
    refine K_seq ?_
    refine K_reg [] [] ⟨[(0, (I p1)), (1, (I p2))], []⟩ (by kernel_rfl) trivial ?_
    refine K_seq ?_
    refine K_seq ?_
    refine K_reg [] [] ⟨[(0, (I p1)), (1, (I p2)), (6, (B (decide (p2 < 1))))], []⟩ (by kernel_rfl) trivial ?_
    rcases ite_some H with ⟨hx1, H⟩ | ⟨hx1, H⟩
    · refine K_t rfl (decide_eq_true hx1) ?_
      refine K_seq ?_
      refine K_reg [] [] ⟨[(4, (I 0))], []⟩ (by kernel_rfl) trivial ?_
      refine K_gh ⟨[(4, (I 0))], []⟩ (by kernel_rfl) ?_
      cases H
      refine K_ret ?_
      kernel_rfl
    · refine K_f rfl (decide_eq_false hx1) ?_
      refine K_gh ⟨[(0, (I p1)), (1, (I p2))], []⟩ (by kernel_rfl) ?_
      refine K_skip ?_
      refine K_seq ?_
      obtain ⟨hx2, H⟩ := guard_some H
      refine K_reg [] [p2 ≠ (0 : Int)] ⟨[(0, (I (p1.tmod p2))), (1, (I p2))], []⟩ (by kernel_rfl) (A1 hx2) ?_
      refine K_seq ?_
      refine K_seq ?_
      refine K_reg [] [] ⟨[(0, (I (p1.tmod p2))), (1, (I p2)), (11, (B (decide ((p1.tmod p2) < 0))))], []⟩ (by kernel_rfl) trivial ?_
      obtain ⟨x4, hx4, H⟩ := bind_some' H
      refine K_of ⟨[(0, (I x4))], []⟩ ?_ ?_
      · clear H; have H := hx4; clear hx4; refine K_in ?_
        rcases ite_some H with ⟨hx3, H⟩ | ⟨hx3, H⟩
        · refine K_t rfl (decide_eq_true hx3) ?_
          refine K_reg [] [] ⟨[(0, (I (w64 ((p1.tmod p2) + p2))))], []⟩ (by kernel_rfl) trivial ?_
          cases H
          exact K_end rfl
        · refine K_f rfl (decide_eq_false hx3) ?_
          refine K_gh ⟨[(0, (I (p1.tmod p2)))], []⟩ (by kernel_rfl) ?_
          refine K_skip ?_
          cases H
          exact K_end rfl
      refine K_seq ?_
      refine K_reg [] [] ⟨[(4, (I x4))], []⟩ (by kernel_rfl) trivial ?_
      refine K_gh ⟨[(4, (I x4))], []⟩ (by kernel_rfl) ?_
      cases H
      refine K_ret ?_
      kernel_rfl
def T_keep_Src_N (k : Nat) (p1 : Int) (p2 : List Int) (p3 : Int) : Option (Int × Int) := match k with
  | 0 => none
  | k + 1 => ((T_keep_Src_Raw k p2 p3).bind fun x1 => (T_keep_Mod k x1.1 p1).bind fun x2 => some (x2, x1.2))
theorem T_keep_Src_N_ok (k : Nat) (p1 : Int) (p2 : List Int) (p3 : Int) (r : Int × Int) : T_keep_Src_N k p1 p2 p3 = some r → evF X k n_keep_Src_N [(.one (.ptr 0 0 0)), (I p1)] [.cells [.d (.list (p2.map (D.int .i64))), .d (.int .i64 p3)]] = some ((I r.1), [.cells [.d (.list (p2.map (D.int .i64))), .d (.int .i64 r.2)]]) := by
  intro H
  cases k with
  | zero => simp [T_keep_Src_N] at H
  | succ k =>
    simp only [T_keep_Src_N] at H
    refine F_in X_keep_Src_N rfl ?_
    refine K_seq ?_
    refine K_reg [] [] ⟨[(0, (.one (.ptr 0 0 0))), (1, (I p1))], [.cells [.d (.list (p2.map (D.int .i64))), .d (.int .i64 p3)]]⟩ (by kernel_rfl) trivial ?_
    refine K_seq ?_
    obtain ⟨x1, hx1, H⟩ := bind_some' H
    obtain ⟨x2, hx2, H⟩ := bind_some' H
    refine K_reg [.r (I x1.1) [.cells [.d (.list (p2.map (D.int .i64))), .d (.int .i64 x1.2)]], .r (I x2) []] [evF X k n_keep_Src_Raw [(.one (.ptr 0 0 0))] [.cells [.d (.list (p2.map (D.int .i64))), .d (.int .i64 p3)]] = some ((I x1.1), [.cells [.d (.list (p2.map (D.int .i64))), .d (.int .i64 x1.2)]]), evF X k n_keep_Mod [(I x1.1), (I p1)] [] = some ((I x2), [])] ⟨[(4, (I x2))], [.cells [.d (.list (p2.map (D.int .i64))), .d (.int .i64 x1.2)]]⟩ (by kernel_rfl) (AC (T_keep_Src_Raw_ok k p2 p3 x1 hx1) (A1 (T_keep_Mod_ok k x1.1 p1 x2 hx2))) ?_
    refine K_gh ⟨[(4, (I x2))], [.cells [.d (.list (p2.map (D.int .i64))), .d (.int .i64 x1.2)]]⟩ (by kernel_rfl) ?_
    cases H
    refine K_ret ?_
    kernel_rfl
def T_keep_Src_Range (k : Nat) (p1 : Int) (p2 : Int) (p3 : List Int) (p4 : Int) : Option (Int × Int) := match k with
  | 0 => none
  | k + 1 => ((T_keep_Src_N k (w64 ((w64 (p2 - p1)) + 1)) p3 p4).bind fun x1 => some ((w64 (p1 + x1.1)), x1.2))
theorem T_keep_Src_Range_ok (k : Nat) (p1 : Int) (p2 : Int) (p3 : List Int) (p4 : Int) (r : Int × Int) : T_keep_Src_Range k p1 p2 p3 p4 = some r → evF X k n_keep_Src_Range [(.one (.ptr 0 0 0)), (I p1), (I p2)] [.cells [.d (.list (p3.map (D.int .i64))), .d (.int .i64 p4)]] = some ((I r.1), [.cells [.d (.list (p3.map (D.int .i64))), .d (.int .i64 r.2)]]) := by
  intro H
  cases k with
  | zero => simp [T_keep_Src_Range] at H
  | succ k =>
    simp only [T_keep_Src_Range] at H
    refine F_in X_keep_Src_Range rfl ?_
    refine K_seq ?_
    refine K_reg [] [] ⟨[(0, (.one (.ptr 0 0 0))), (1, (I p1)), (2, (I p2))], [.cells [.d (.list (p3.map (D.int .i64))), .d (.int .i64 p4)]]⟩ (by kernel_rfl) trivial ?_
    refine K_seq ?_
    obtain ⟨x1, hx1, H⟩ := bind_some' H
    refine K_reg [.r (I x1.1) [.cells [.d (.list (p3.map (D.int .i64))), .d (.int .i64 x1.2)]]] [evF X k n_keep_Src_N [(.one (.ptr 0 0 0)), (I (w64 ((w64 (p2 - p1)) + 1)))] [.cells [.d (.list (p3.map (D.int .i64))), .d (.int .i64 p4)]] = some ((I x1.1), [.cells [.d (.list (p3.map (D.int .i64))), .d (.int .i64 x1.2)]])] ⟨[(6, (I (w64 (p1 + x1.1))))], [.cells [.d (.list (p3.map (D.int .i64))), .d (.int .i64 x1.2)]]⟩ (by kernel_rfl) (A1 (T_keep_Src_N_ok k (w64 ((w64 (p2 - p1)) + 1)) p3 p4 x1 hx1)) ?_
    refine K_gh ⟨[(6, (I (w64 (p1 + x1.1))))], [.cells [.d (.list (p3.map (D.int .i64))), .d (.int .i64 x1.2)]]⟩ (by kernel_rfl) ?_
    cases H
    refine K_ret ?_
    kernel_rfl
def T_keep_Src_Pick (k : Nat) (p1 : List Int) (p2 : List Int) (p3 : Int) : Option (Int × Int) := match k with
  | 0 => none
  | k + 1 => ((T_keep_Src_N k (p1.length : Int) p2 p3).bind fun x1 => (at? p1 x1.1).bind fun x2 => some (x2, x1.2))
theorem T_keep_Src_Pick_ok (k : Nat) (p1 : List Int) (p2 : List Int) (p3 : Int) (r : Int × Int) : T_keep_Src_Pick k p1 p2 p3 = some r → evF X k n_keep_Src_Pick [(.one (.ptr 0 0 0)), (.one (.d (.list (p1.map (D.int .i64)))))] [.cells [.d (.list (p2.map (D.int .i64))), .d (.int .i64 p3)]] = some ((I r.1), [.cells [.d (.list (p2.map (D.int .i64))), .d (.int .i64 r.2)]]) := by
  intro H
  cases k with
  | zero => simp [T_keep_Src_Pick] at H
  | succ k =>
    simp only [T_keep_Src_Pick] at H
    refine F_in X_keep_Src_Pick rfl ?_
    refine K_seq ?_
    refine K_reg [] [] ⟨[(0, (.one (.ptr 0 0 0))), (1, (.one (.d (.list (p1.map (D.int .i64))))))], [.cells [.d (.list (p2.map (D.int .i64))), .d (.int .i64 p3)]]⟩ (by kernel_rfl) trivial ?_
    refine K_seq ?_
    obtain ⟨x1, hx1, H⟩ := bind_some' H
    obtain ⟨x2, hx2, H⟩ := bind_some' H
    refine K_reg [.n p1.length, .r (I x1.1) [.cells [.d (.list (p2.map (D.int .i64))), .d (.int .i64 x1.2)]], .l [.int .i64 x2]] [((p1.map (D.int .i64))).length = p1.length, evF X k n_keep_Src_N [(.one (.ptr 0 0 0)), (I (p1.length : Int))] [.cells [.d (.list (p2.map (D.int .i64))), .d (.int .i64 p3)]] = some ((I x1.1), [.cells [.d (.list (p2.map (D.int .i64))), .d (.int .i64 x1.2)]]), (0 : Int) ≤ x1.1 ∧ x1.1 < (((p1.map (D.int .i64))).length : Int), ((p1.map (D.int .i64)).getD x1.1.toNat (.int .i64 0)).cells = [.int .i64 x2]] ⟨[(4, (I x2))], [.cells [.d (.list (p2.map (D.int .i64))), .d (.int .i64 x1.2)]]⟩ (by kernel_rfl) (AC (List.length_map _) (AC (T_keep_Src_N_ok k (p1.length : Int) p2 p3 x1 hx1) (AC (at_ok hx2 (D.int .i64) (.int .i64 0)).1 (A1 (at_ok hx2 (D.int .i64) (.int .i64 0)).2)))) ?_
    refine K_gh ⟨[(4, (I x2))], [.cells [.d (.list (p2.map (D.int .i64))), .d (.int .i64 x1.2)]]⟩ (by kernel_rfl) ?_
    cases H
    refine K_ret ?_
    kernel_rfl
def T_keep_Src_Measure (k : Nat) (p1 : List Int) (p2 : Int) : Option (Int × Int × Int × Int) := match k with
  | 0 => none
  | k + 1 => ((T_keep_Src_Range k 1 5 p1 p2).bind fun x1 => ((if x1.1 = 4 then ((T_keep_Src_Pick k ([0, 1, 2, 3, 5, 32] : List Int) p1 x1.2).bind fun x3 => some (x3.2, x3.1)) else some (x1.2, 0))).bind fun x4 => ((if x1.1 = 5 then ((T_keep_Src_Pick k ([0, 0, 1, (-3), 20, (-1000)] : List Int) p1 x4.1).bind fun x6 => some (x6.2, x6.1)) else some (x4.1, 0))).bind fun x7 => some (x1.1, x4.2, x7.2, x7.1))
theorem T_keep_Src_Measure_ok (k : Nat) (p1 : List Int) (p2 : Int) (r : Int × Int × Int × Int) : T_keep_Src_Measure k p1 p2 = some r → evF X k n_keep_Src_Measure [(.one (.ptr 0 0 0))] [.cells [.d (.list (p1.map (D.int .i64))), .d (.int .i64 p2)]] = some ((.agg [.d (.int .i64 r.1), .d (.int .i64 r.2.1), .d (.int .i64 r.2.2.1)]), [.cells [.d (.list (p1.map (D.int .i64))), .d (.int .i64 r.2.2.2)]]) := by
  intro H
  cases k with
  | zero => simp [T_keep_Src_Measure] at H
  | succ k =>
    simp only [T_keep_Src_Measure] at H
    refine F_in X_keep_Src_Measure rfl ?_
    refine K_seq ?_
    refine K_reg [] [] ⟨[(0, (.one (.ptr 0 0 0))), (2, (.one (.ptr 1 0 0)))], [.cells [.d (.list (p1.map (D.int .i64))), .d (.int .i64 p2)], .cells [.d (.int .i64 0), .d (.int .i64 0), .d (.int .i64 0)]]⟩ (by kernel_rfl) trivial ?_
    refine K_seq ?_
    obtain ⟨x1, hx1, H⟩ := bind_some' H
    refine K_reg [.r (I x1.1) [.cells [.d (.list (p1.map (D.int .i64))), .d (.int .i64 x1.2)]]] [evF X k n_keep_Src_Range [(.one (.ptr 0 0 0)), (I 1), (I 5)] [.cells [.d (.list (p1.map (D.int .i64))), .d (.int .i64 p2)]] = some ((I x1.1), [.cells [.d (.list (p1.map (D.int .i64))), .d (.int .i64 x1.2)]])] ⟨[(0, (.one (.ptr 0 0 0))), (2, (.one (.ptr 1 0 0))), (3, (.one (.ptr 2 0 0)))], [.cells [.d (.list (p1.map (D.int .i64))), .d (.int .i64 x1.2)], .cells [.d (.int .i64 0), .d (.int .i64 0), .d (.int .i64 0)], .cells [.d (.int .i64 x1.1), .d (.int .i64 0), .d (.int .i64 0)]]⟩ (by kernel_rfl) (A1 (T_keep_Src_Range_ok k 1 5 p1 p2 x1 hx1)) ?_
    refine K_seq ?_
    refine K_seq ?_
    refine K_reg [] [] ⟨[(0, (.one (.ptr 0 0 0))), (2, (.one (.ptr 1 0 0))), (3, (.one (.ptr 2 0 0))), (9, (B (decide (x1.1 = 4))))], [.cells [.d (.list (p1.map (D.int .i64))), .d (.int .i64 x1.2)], .cells [.d (.int .i64 0), .d (.int .i64 0), .d (.int .i64 0)], .cells [.d (.int .i64 x1.1), .d (.int .i64 0), .d (.int .i64 0)]]⟩ (by kernel_rfl) trivial ?_
    obtain ⟨x4, hx4, H⟩ := bind_some' H
    refine K_of ⟨[(0, (.one (.ptr 0 0 0))), (2, (.one (.ptr 1 0 0))), (3, (.one (.ptr 2 0 0)))], [.cells [.d (.list (p1.map (D.int .i64))), .d (.int .i64 x4.1)], .cells [.d (.int .i64 0), .d (.int .i64 0), .d (.int .i64 0)], .cells [.d (.int .i64 x1.1), .d (.int .i64 x4.2), .d (.int .i64 0)]]⟩ ?_ ?_
    · clear H; have H := hx4; clear hx4; refine K_in ?_
      rcases ite_some H with ⟨hx2, H⟩ | ⟨hx2, H⟩
      · refine K_t rfl (decide_eq_true hx2) ?_
        obtain ⟨x3, hx3, H⟩ := bind_some' H
        refine K_reg [.r (I x3.1) [.cells [.d (.list (p1.map (D.int .i64))), .d (.int .i64 x3.2)]]] [evF X k n_keep_Src_Pick [(.one (.ptr 0 0 0)), (.one (.d (.list (([0, 1, 2, 3, 5, 32] : List Int).map (D.int .i64)))))] [.cells [.d (.list (p1.map (D.int .i64))), .d (.int .i64 x1.2)]] = some ((I x3.1), [.cells [.d (.list (p1.map (D.int .i64))), .d (.int .i64 x3.2)]])] ⟨[(0, (.one (.ptr 0 0 0))), (2, (.one (.ptr 1 0 0))), (3, (.one (.ptr 2 0 0)))], [.cells [.d (.list (p1.map (D.int .i64))), .d (.int .i64 x3.2)], .cells [.d (.int .i64 0), .d (.int .i64 0), .d (.int .i64 0)], .cells [.d (.int .i64 x1.1), .d (.int .i64 x3.1), .d (.int .i64 0)]]⟩ (by kernel_rfl) (A1 (T_keep_Src_Pick_ok k ([0, 1, 2, 3, 5, 32] : List Int) p1 x1.2 x3 hx3)) ?_
        cases H
        exact K_end rfl
      · refine K_f rfl (decide_eq_false hx2) ?_
        refine K_gh ⟨[(0, (.one (.ptr 0 0 0))), (2, (.one (.ptr 1 0 0))), (3, (.one (.ptr 2 0 0)))], [.cells [.d (.list (p1.map (D.int .i64))), .d (.int .i64 x1.2)], .cells [.d (.int .i64 0), .d (.int .i64 0), .d (.int .i64 0)], .cells [.d (.int .i64 x1.1), .d (.int .i64 0), .d (.int .i64 0)]]⟩ (by kernel_rfl) ?_
        refine K_skip ?_
        cases H
        exact K_end rfl
    refine K_seq ?_
    refine K_seq ?_
    refine K_reg [] [] ⟨[(0, (.one (.ptr 0 0 0))), (2, (.one (.ptr 1 0 0))), (3, (.one (.ptr 2 0 0))), (16, (B (decide (x1.1 = 5))))], [.cells [.d (.list (p1.map (D.int .i64))), .d (.int .i64 x4.1)], .cells [.d (.int .i64 0), .d (.int .i64 0), .d (.int .i64 0)], .cells [.d (.int .i64 x1.1), .d (.int .i64 x4.2), .d (.int .i64 0)]]⟩ (by kernel_rfl) trivial ?_
    obtain ⟨x7, hx7, H⟩ := bind_some' H
    refine K_of ⟨[(2, (.one (.ptr 1 0 0))), (3, (.one (.ptr 2 0 0)))], [.cells [.d (.list (p1.map (D.int .i64))), .d (.int .i64 x7.1)], .cells [.d (.int .i64 0), .d (.int .i64 0), .d (.int .i64 0)], .cells [.d (.int .i64 x1.1), .d (.int .i64 x4.2), .d (.int .i64 x7.2)]]⟩ ?_ ?_
    · clear H; have H := hx7; clear hx7; refine K_in ?_
      rcases ite_some H with ⟨hx5, H⟩ | ⟨hx5, H⟩
      · refine K_t rfl (decide_eq_true hx5) ?_
        obtain ⟨x6, hx6, H⟩ := bind_some' H
        refine K_reg [.r (I x6.1) [.cells [.d (.list (p1.map (D.int .i64))), .d (.int .i64 x6.2)]]] [evF X k n_keep_Src_Pick [(.one (.ptr 0 0 0)), (.one (.d (.list (([0, 0, 1, (-3), 20, (-1000)] : List Int).map (D.int .i64)))))] [.cells [.d (.list (p1.map (D.int .i64))), .d (.int .i64 x4.1)]] = some ((I x6.1), [.cells [.d (.list (p1.map (D.int .i64))), .d (.int .i64 x6.2)]])] ⟨[(2, (.one (.ptr 1 0 0))), (3, (.one (.ptr 2 0 0)))], [.cells [.d (.list (p1.map (D.int .i64))), .d (.int .i64 x6.2)], .cells [.d (.int .i64 0), .d (.int .i64 0), .d (.int .i64 0)], .cells [.d (.int .i64 x1.1), .d (.int .i64 x4.2), .d (.int .i64 x6.1)]]⟩ (by kernel_rfl) (A1 (T_keep_Src_Pick_ok k ([0, 0, 1, (-3), 20, (-1000)] : List Int) p1 x4.1 x6 hx6)) ?_
        cases H
        exact K_end rfl
      · refine K_f rfl (decide_eq_false hx5) ?_
        refine K_gh ⟨[(2, (.one (.ptr 1 0 0))), (3, (.one (.ptr 2 0 0)))], [.cells [.d (.list (p1.map (D.int .i64))), .d (.int .i64 x4.1)], .cells [.d (.int .i64 0), .d (.int .i64 0), .d (.int .i64 0)], .cells [.d (.int .i64 x1.1), .d (.int .i64 x4.2), .d (.int .i64 0)]]⟩ (by kernel_rfl) ?_
        refine K_skip ?_
        cases H
        exact K_end rfl
    refine K_seq ?_
    refine K_reg [] [] ⟨[(2, (.one (.ptr 1 0 0)))], [.cells [.d (.list (p1.map (D.int .i64))), .d (.int .i64 x7.1)], .cells [.d (.int .i64 x1.1), .d (.int .i64 x4.2), .d (.int .i64 x7.2)]]⟩ (by kernel_rfl) trivial ?_
    refine K_gh ⟨[(2, (.one (.ptr 1 0 0)))], [.cells [.d (.list (p1.map (D.int .i64))), .d (.int .i64 x7.1)], .cells [.d (.int .i64 x1.1), .d (.int .i64 x4.2), .d (.int .i64 x7.2)]]⟩ (by kernel_rfl) ?_
    cases H
    refine K_ret ?_
    kernel_rfl
def T_keep_Src_Length (k : Nat) (p1 : List Int) (p2 : Int) : Option (Int × Int) := match k with
  | 0 => none
  | k + 1 => ((T_keep_Src_N k 8 p1 p2).bind fun x1 => (if x1.1 = 7 then ((T_keep_Src_Range k 13 32 p1 x1.2).bind fun x3 => some (x3.1, x3.2)) else ((T_keep_Src_Range k 2 12 p1 x1.2).bind fun x4 => some (x4.1, x4.2))))
theorem T_keep_Src_Length_ok (k : Nat) (p1 : List Int) (p2 : Int) (r : Int × Int) : T_keep_Src_Length k p1 p2 = some r → evF X k n_keep_Src_Length [(.one (.ptr 0 0 0))] [.cells [.d (.list (p1.map (D.int .i64))), .d (.int .i64 p2)]] = some ((I r.1), [.cells [.d (.list (p1.map (D.int .i64))), .d (.int .i64 r.2)]]) := by
  intro H
  cases k with
  | zero => simp [T_keep_Src_Length] at H
  | succ k =>
    simp only [T_keep_Src_Length] at H
    refine F_in X_keep_Src_Length rfl ?_
    refine K_seq ?_
    refine K_reg [] [] ⟨[(0, (.one (.ptr 0 0 0)))], [.cells [.d (.list (p1.map (D.int .i64))), .d (.int .i64 p2)]]⟩ (by kernel_rfl) trivial ?_
    refine K_seq ?_
    refine K_seq ?_
    obtain ⟨x1, hx1, H⟩ := bind_some' H
    refine K_reg [.r (I x1.1) [.cells [.d (.list (p1.map (D.int .i64))), .d (.int .i64 x1.2)]]] [evF X k n_keep_Src_N [(.one (.ptr 0 0 0)), (I 8)] [.cells [.d (.list (p1.map (D.int .i64))), .d (.int .i64 p2)]] = some ((I x1.1), [.cells [.d (.list (p1.map (D.int .i64))), .d (.int .i64 x1.2)]])] ⟨[(0, (.one (.ptr 0 0 0))), (5, (B (decide (x1.1 = 7))))], [.cells [.d (.list (p1.map (D.int .i64))), .d (.int .i64 x1.2)]]⟩ (by kernel_rfl) (A1 (T_keep_Src_N_ok k 8 p1 p2 x1 hx1)) ?_
    rcases ite_some H with ⟨hx2, H⟩ | ⟨hx2, H⟩
    · refine K_t rfl (decide_eq_true hx2) ?_
      refine K_seq ?_
      obtain ⟨x3, hx3, H⟩ := bind_some' H
      refine K_reg [.r (I x3.1) [.cells [.d (.list (p1.map (D.int .i64))), .d (.int .i64 x3.2)]]] [evF X k n_keep_Src_Range [(.one (.ptr 0 0 0)), (I 13), (I 32)] [.cells [.d (.list (p1.map (D.int .i64))), .d (.int .i64 x1.2)]] = some ((I x3.1), [.cells [.d (.list (p1.map (D.int .i64))), .d (.int .i64 x3.2)]])] ⟨[(2, (I x3.1))], [.cells [.d (.list (p1.map (D.int .i64))), .d (.int .i64 x3.2)]]⟩ (by kernel_rfl) (A1 (T_keep_Src_Range_ok k 13 32 p1 x1.2 x3 hx3)) ?_
      refine K_gh ⟨[(2, (I x3.1))], [.cells [.d (.list (p1.map (D.int .i64))), .d (.int .i64 x3.2)]]⟩ (by kernel_rfl) ?_
      cases H
      refine K_ret ?_
      kernel_rfl
    · refine K_f rfl (decide_eq_false hx2) ?_
      refine K_gh ⟨[(0, (.one (.ptr 0 0 0)))], [.cells [.d (.list (p1.map (D.int .i64))), .d (.int .i64 x1.2)]]⟩ (by kernel_rfl) ?_
      refine K_skip ?_
      refine K_seq ?_
      obtain ⟨x4, hx4, H⟩ := bind_some' H
      refine K_reg [.r (I x4.1) [.cells [.d (.list (p1.map (D.int .i64))), .d (.int .i64 x4.2)]]] [evF X k n_keep_Src_Range [(.one (.ptr 0 0 0)), (I 2), (I 12)] [.cells [.d (.list (p1.map (D.int .i64))), .d (.int .i64 x1.2)]] = some ((I x4.1), [.cells [.d (.list (p1.map (D.int .i64))), .d (.int .i64 x4.2)]])] ⟨[(2, (I x4.1))], [.cells [.d (.list (p1.map (D.int .i64))), .d (.int .i64 x4.2)]]⟩ (by kernel_rfl) (A1 (T_keep_Src_Range_ok k 2 12 p1 x1.2 x4 hx4)) ?_
      refine K_gh ⟨[(2, (I x4.1))], [.cells [.d (.list (p1.map (D.int .i64))), .d (.int .i64 x4.2)]]⟩ (by kernel_rfl) ?_
      cases H
      refine K_ret ?_
      kernel_rfl
def T_keep_Src_Cuts_l1 (k : Nat) (p1 : List Int) (x6 : Int) (x14 : Nat × Int × Int × Int × (List Int)) : Option ((Nat × Int × Int × Int × (List Int)) ⊕ ((Nat × Int × (List Int)))) :=
  (if 0 < x14.2.2.1 then (T_keep_Src_Range k 1 x6 p1 x14.2.2.2.1).bind fun x16 => (if x14.1 + 1 ≤ LIM then some (.inl ((x14.1 + 1), (w64 (x14.2.1 + x16.1)), (w64 (x14.2.2.1 - 1)), x16.2, ((x14.2.2.2.2.drop 0).take x14.1 ++ ([(w64 (x14.2.1 + x16.1))] : List Int)))) else none) else some (.inr (x14.1, x14.2.2.2.1, x14.2.2.2.2)))
theorem T_keep_Src_Cuts_l1_ok (k : Nat) (p1 : List Int) (x6 : Int) : ∀ (x14 : Nat × Int × Int × Int × (List Int)) (x : (Nat × Int × Int × Int × (List Int)) ⊕ ((Nat × Int × (List Int)))), T_keep_Src_Cuts_l1 k p1 x6 x14 = some x → evC X (evF X k) k 1 l_keep_Src_Cuts_1 ⟨[(0, (.one (.ptr 0 0 0))), (3, (.one (.own 1 0 x14.1))), (4, (I x14.2.1)), (5, (I x6)), (6, (I x14.2.2.1))], [.cells [.d (.list (p1.map (D.int .i64))), .d (.int .i64 x14.2.2.2.1)], .vals (.int .i64 0) (x14.2.2.2.2.map (D.int .i64))]⟩ = some (outS (fun (s : Nat × Int × Int × Int × (List Int)) => ⟨[(0, (.one (.ptr 0 0 0))), (3, (.one (.own 1 0 s.1))), (4, (I s.2.1)), (5, (I x6)), (6, (I s.2.2.1))], [.cells [.d (.list (p1.map (D.int .i64))), .d (.int .i64 s.2.2.2.1)], .vals (.int .i64 0) (s.2.2.2.2.map (D.int .i64))]⟩) (fun (r : (Nat × Int × (List Int))) => (.exit 0, ⟨[(3, (.one (.own 1 0 r.1)))], [.cells [.d (.list (p1.map (D.int .i64))), .d (.int .i64 r.2.1)], .vals (.int .i64 0) (r.2.2.map (D.int .i64))]⟩)) x) := by
  intro x14 x H
  unfold T_keep_Src_Cuts_l1 at H
  refine K_in ?_
  refine K_seq ?_
  refine K_seq ?_
  refine K_reg [] [] ⟨[(0, (.one (.ptr 0 0 0))), (3, (.one (.own 1 0 x14.1))), (4, (I x14.2.1)), (5, (I x6)), (6, (I x14.2.2.1)), (16, (B (decide (0 < x14.2.2.1))))], [.cells [.d (.list (p1.map (D.int .i64))), .d (.int .i64 x14.2.2.2.1)], .vals (.int .i64 0) (x14.2.2.2.2.map (D.int .i64))]⟩ (by kernel_rfl) trivial ?_
  rcases ite_some H with ⟨hx15, H⟩ | ⟨hx15, H⟩
  · refine K_t rfl (decide_eq_true hx15) ?_
    refine K_gh ⟨[(0, (.one (.ptr 0 0 0))), (3, (.one (.own 1 0 x14.1))), (4, (I x14.2.1)), (5, (I x6)), (6, (I x14.2.2.1))], [.cells [.d (.list (p1.map (D.int .i64))), .d (.int .i64 x14.2.2.2.1)], .vals (.int .i64 0) (x14.2.2.2.2.map (D.int .i64))]⟩ (by kernel_rfl) ?_
    refine K_skip ?_
    refine K_seq ?_
    refine K_block ?_
    refine K_seq ?_
    obtain ⟨x16, hx16, H⟩ := bind_some' H
    refine K_reg [.r (I x16.1) [.cells [.d (.list (p1.map (D.int .i64))), .d (.int .i64 x16.2)]]] [evF X k n_keep_Src_Range [(.one (.ptr 0 0 0)), (I 1), (I x6)] [.cells [.d (.list (p1.map (D.int .i64))), .d (.int .i64 x14.2.2.2.1)]] = some ((I x16.1), [.cells [.d (.list (p1.map (D.int .i64))), .d (.int .i64 x16.2)]])] ⟨[(0, (.one (.ptr 0 0 0))), (3, (.one (.own 1 0 x14.1))), (4, (I (w64 (x14.2.1 + x16.1)))), (5, (I x6)), (6, (I x14.2.2.1))], [.cells [.d (.list (p1.map (D.int .i64))), .d (.int .i64 x16.2)], .vals (.int .i64 0) (x14.2.2.2.2.map (D.int .i64))]⟩ (by kernel_rfl) (A1 (T_keep_Src_Range_ok k 1 x6 p1 x14.2.2.2.1 x16 hx16)) ?_
    obtain ⟨hx17, H⟩ := guard_some H
    refine K_reg [.n 1, .l (((x14.2.2.2.2.drop 0).take x14.1 ++ ([(w64 (x14.2.1 + x16.1))] : List Int)).map (D.int .i64))] [(List.all (([(w64 (x14.2.1 + x16.1))] : List Int).map (D.int .i64)) fun d => d.cells.length == (D.cells (.int .i64 0)).length) = true, x14.1 + 1 ≤ LIM, (([(w64 (x14.2.1 + x16.1))] : List Int).map (D.int .i64)).length = 1, ((x14.2.2.2.2.map (D.int .i64)).drop 0).take x14.1 ++ (([(w64 (x14.2.1 + x16.1))] : List Int).map (D.int .i64)) = ((x14.2.2.2.2.drop 0).take x14.1 ++ ([(w64 (x14.2.1 + x16.1))] : List Int)).map (D.int .i64)] ⟨[(0, (.one (.ptr 0 0 0))), (3, (.one (.own 1 0 (x14.1 + 1)))), (4, (I (w64 (x14.2.1 + x16.1)))), (5, (I x6)), (6, (I x14.2.2.1))], [.cells [.d (.list (p1.map (D.int .i64))), .d (.int .i64 x16.2)], .vals (.int .i64 0) (((x14.2.2.2.2.drop 0).take x14.1 ++ ([(w64 (x14.2.1 + x16.1))] : List Int)).map (D.int .i64))]⟩ (by kernel_rfl) (AC (all_ok (D.int .i64) 1 ([(w64 (x14.2.1 + x16.1))] : List Int) (fun _ => rfl)) (AC hx17 (AC (by simp) (A1 (ap_map (D.int .i64) x14.2.2.2.2 ([(w64 (x14.2.1 + x16.1))] : List Int) 0 x14.1))))) ?_
    refine K_blk ?_
    refine K_reg [] [] ⟨[(0, (.one (.ptr 0 0 0))), (3, (.one (.own 1 0 (x14.1 + 1)))), (4, (I (w64 (x14.2.1 + x16.1)))), (5, (I x6)), (6, (I (w64 (x14.2.2.1 - 1))))], [.cells [.d (.list (p1.map (D.int .i64))), .d (.int .i64 x16.2)], .vals (.int .i64 0) (((x14.2.2.2.2.drop 0).take x14.1 ++ ([(w64 (x14.2.1 + x16.1))] : List Int)).map (D.int .i64))]⟩ (by kernel_rfl) trivial ?_
    cases H
    exact K_end rfl
  · refine K_f rfl (decide_eq_false hx15) ?_
    refine K_gh ⟨[(3, (.one (.own 1 0 x14.1)))], [.cells [.d (.list (p1.map (D.int .i64))), .d (.int .i64 x14.2.2.2.1)], .vals (.int .i64 0) (x14.2.2.2.2.map (D.int .i64))]⟩ (by kernel_rfl) ?_
    cases H
    exact K_exit0 rfl rfl
def T_keep_Src_Cuts (k : Nat) (p1 : List Int) (p2 : Int) : Option ((List Int) × Int) := match k with
  | 0 => none
  | k + 1 => ((T_keep_Src_Pick k ([(-400), (-60), (-10), (-3), 0] : List Int) p1 p2).bind fun x1 => (T_keep_Src_Pick k ([1, 3, 10, 60] : List Int) p1 x1.2).bind fun x2 => (T_keep_Src_N k 16 p1 x2.2).bind fun x3 => (loopT (T_keep_Src_Cuts_l1 k p1 x2.1) k (0, x1.1, x3.1, x3.2, [])).bind fun x18 => some (((x18.2.2.drop 0).take x18.1), x18.2.1))
theorem T_keep_Src_Cuts_ok (k : Nat) (p1 : List Int) (p2 : Int) (r : (List Int) × Int) : T_keep_Src_Cuts k p1 p2 = some r → evF X k n_keep_Src_Cuts [(.one (.ptr 0 0 0))] [.cells [.d (.list (p1.map (D.int .i64))), .d (.int .i64 p2)]] = some ((.one (.d (.list (r.1.map (D.int .i64))))), [.cells [.d (.list (p1.map (D.int .i64))), .d (.int .i64 r.2)]]) := by
  intro H
  cases k with
  | zero => simp [T_keep_Src_Cuts] at H
  | succ k =>
    simp only [T_keep_Src_Cuts] at H
    refine F_in X_keep_Src_Cuts rfl ?_
    refine K_seq ?_
    refine K_reg [] [] ⟨[(0, (.one (.ptr 0 0 0)))], [.cells [.d (.list (p1.map (D.int .i64))), .d (.int .i64 p2)]]⟩ (by kernel_rfl) trivial ?_
    refine K_seq ?_
    refine K_reg [] [] ⟨[(0, (.one (.ptr 0 0 0))), (3, (.one (.nil)))], [.cells [.d (.list (p1.map (D.int .i64))), .d (.int .i64 p2)]]⟩ (by kernel_rfl) trivial ?_
    refine K_seq ?_
    obtain ⟨x1, hx1, H⟩ := bind_some' H
    obtain ⟨x2, hx2, H⟩ := bind_some' H
    refine K_reg [.r (I x1.1) [.cells [.d (.list (p1.map (D.int .i64))), .d (.int .i64 x1.2)]], .r (I x2.1) [.cells [.d (.list (p1.map (D.int .i64))), .d (.int .i64 x2.2)]]] [evF X k n_keep_Src_Pick [(.one (.ptr 0 0 0)), (.one (.d (.list (([(-400), (-60), (-10), (-3), 0] : List Int).map (D.int .i64)))))] [.cells [.d (.list (p1.map (D.int .i64))), .d (.int .i64 p2)]] = some ((I x1.1), [.cells [.d (.list (p1.map (D.int .i64))), .d (.int .i64 x1.2)]]), evF X k n_keep_Src_Pick [(.one (.ptr 0 0 0)), (.one (.d (.list (([1, 3, 10, 60] : List Int).map (D.int .i64)))))] [.cells [.d (.list (p1.map (D.int .i64))), .d (.int .i64 x1.2)]] = some ((I x2.1), [.cells [.d (.list (p1.map (D.int .i64))), .d (.int .i64 x2.2)]])] ⟨[(0, (.one (.ptr 0 0 0))), (3, (.one (.nil))), (4, (I x1.1)), (5, (I x2.1))], [.cells [.d (.list (p1.map (D.int .i64))), .d (.int .i64 x2.2)]]⟩ (by kernel_rfl) (AC (T_keep_Src_Pick_ok k ([(-400), (-60), (-10), (-3), 0] : List Int) p1 p2 x1 hx1) (A1 (T_keep_Src_Pick_ok k ([1, 3, 10, 60] : List Int) p1 x1.2 x2 hx2))) ?_
    refine K_seq ?_
    refine K_seq ?_
    obtain ⟨x3, hx3, H⟩ := bind_some' H
    refine K_reg [.r (I x3.1) [.cells [.d (.list (p1.map (D.int .i64))), .d (.int .i64 x3.2)]]] [evF X k n_keep_Src_N [(.one (.ptr 0 0 0)), (I 16)] [.cells [.d (.list (p1.map (D.int .i64))), .d (.int .i64 x2.2)]] = some ((I x3.1), [.cells [.d (.list (p1.map (D.int .i64))), .d (.int .i64 x3.2)]])] ⟨[(0, (.one (.ptr 0 0 0))), (3, (.one (.nil))), (4, (I x1.1)), (5, (I x2.1)), (6, (I x3.1))], [.cells [.d (.list (p1.map (D.int .i64))), .d (.int .i64 x3.2)]]⟩ (by kernel_rfl) (A1 (T_keep_Src_N_ok k 16 p1 x2.2 x3 hx3)) ?_
    refine K_block ?_
    refine K_gh ⟨[(0, (.one (.ptr 0 0 0))), (3, (.one (.own 1 0 0))), (4, (I x1.1)), (5, (I x2.1)), (6, (I x3.1))], [.cells [.d (.list (p1.map (D.int .i64))), .d (.int .i64 x3.2)], .vals (.int .i64 0) ([].map (D.int .i64))]⟩ (by kernel_rfl) ?_
    obtain ⟨x18, hx18, H⟩ := bind_some' H
    refine K_loop ⟨[(3, (.one (.own 1 0 x18.1)))], [.cells [.d (.list (p1.map (D.int .i64))), .d (.int .i64 x18.2.1)], .vals (.int .i64 0) (x18.2.2.map (D.int .i64))]⟩ (loop_ok (fun (s : Nat × Int × Int × Int × (List Int)) => ⟨[(0, (.one (.ptr 0 0 0))), (3, (.one (.own 1 0 s.1))), (4, (I s.2.1)), (5, (I x2.1)), (6, (I s.2.2.1))], [.cells [.d (.list (p1.map (D.int .i64))), .d (.int .i64 s.2.2.2.1)], .vals (.int .i64 0) (s.2.2.2.2.map (D.int .i64))]⟩) (fun (r : (Nat × Int × (List Int))) => (.exit 0, ⟨[(3, (.one (.own 1 0 r.1)))], [.cells [.d (.list (p1.map (D.int .i64))), .d (.int .i64 r.2.1)], .vals (.int .i64 0) (r.2.2.map (D.int .i64))]⟩)) (fun r h => by cases h) (T_keep_Src_Cuts_l1_ok k p1 x2.1) k (0, x1.1, x3.1, x3.2, []) x18 hx18) rfl ?_
    refine K_seq ?_
    refine K_reg [] [] ⟨[(2, (.one (.own 1 0 x18.1)))], [.cells [.d (.list (p1.map (D.int .i64))), .d (.int .i64 x18.2.1)], .vals (.int .i64 0) (x18.2.2.map (D.int .i64))]⟩ (by kernel_rfl) trivial ?_
    refine K_gh ⟨[(2, (.one (.own 1 0 x18.1)))], [.cells [.d (.list (p1.map (D.int .i64))), .d (.int .i64 x18.2.1)], .vals (.int .i64 0) (x18.2.2.map (D.int .i64))]⟩ (by kernel_rfl) ?_
    cases H
    refine K_ret ?_
    exact Eq.trans (b := some ((.one (.d (.list (((x18.2.2.map (D.int .i64)).drop 0).take x18.1)))), [.cells [.d (.list (p1.map (D.int .i64))), .d (.int .i64 x18.2.1)]])) (by kernel_rfl) (by simp only [dt_map])
def T_keep_Src_Scheme (k : Nat) (p1 : List Int) (p2 : Int) : Option (Int × Int × Int × Int × Int × (List Int) × Int) := match k with
  | 0 => none
  | k + 1 => ((T_keep_Src_Measure k p1 p2).bind fun x1 => (T_keep_Src_Length k p1 x1.2.2.2).bind fun x2 => (T_keep_Src_Range k 1 (imin 8 x2.1) p1 x2.2).bind fun x3 => (T_keep_Src_Cuts k p1 x3.2).bind fun x4 => some (x1.1, x1.2.1, x1.2.2.1, x2.1, x3.1, x4.1, x4.2))
theorem T_keep_Src_Scheme_ok (k : Nat) (p1 : List Int) (p2 : Int) (r : Int × Int × Int × Int × Int × (List Int) × Int) : T_keep_Src_Scheme k p1 p2 = some r → evF X k n_keep_Src_Scheme [(.one (.ptr 0 0 0))] [.cells [.d (.list (p1.map (D.int .i64))), .d (.int .i64 p2)]] = some ((.agg [.d (.int .i64 r.1), .d (.int .i64 r.2.1), .d (.int .i64 r.2.2.1), .d (.int .i64 r.2.2.2.1), .d (.int .i64 r.2.2.2.2.1), .d (.list (r.2.2.2.2.2.1.map (D.int .i64)))]), [.cells [.d (.list (p1.map (D.int .i64))), .d (.int .i64 r.2.2.2.2.2.2)]]) := by
  intro H
  cases k with
  | zero => simp [T_keep_Src_Scheme] at H
  | succ k =>
    simp only [T_keep_Src_Scheme] at H
    refine F_in X_keep_Src_Scheme rfl ?_
    refine K_seq ?_
    refine K_reg [] [] ⟨[(0, (.one (.ptr 0 0 0))), (2, (.one (.ptr 1 0 0)))], [.cells [.d (.list (p1.map (D.int .i64))), .d (.int .i64 p2)], .cells [.d (.int .i64 0), .d (.int .i64 0), .d (.int .i64 0), .d (.int .i64 0), .d (.int .i64 0), .nil]]⟩ (by kernel_rfl) trivial ?_
    refine K_seq ?_
    obtain ⟨x1, hx1, H⟩ := bind_some' H
    obtain ⟨x2, hx2, H⟩ := bind_some' H
    refine K_reg [.r (.agg [.d (.int .i64 x1.1), .d (.int .i64 x1.2.1), .d (.int .i64 x1.2.2.1)]) [.cells [.d (.list (p1.map (D.int .i64))), .d (.int .i64 x1.2.2.2)]], .r (I x2.1) [.cells [.d (.list (p1.map (D.int .i64))), .d (.int .i64 x2.2)]]] [evF X k n_keep_Src_Measure [(.one (.ptr 0 0 0))] [.cells [.d (.list (p1.map (D.int .i64))), .d (.int .i64 p2)]] = some ((.agg [.d (.int .i64 x1.1), .d (.int .i64 x1.2.1), .d (.int .i64 x1.2.2.1)]), [.cells [.d (.list (p1.map (D.int .i64))), .d (.int .i64 x1.2.2.2)]]), evF X k n_keep_Src_Length [(.one (.ptr 0 0 0))] [.cells [.d (.list (p1.map (D.int .i64))), .d (.int .i64 x1.2.2.2)]] = some ((I x2.1), [.cells [.d (.list (p1.map (D.int .i64))), .d (.int .i64 x2.2)]])] ⟨[(0, (.one (.ptr 0 0 0))), (2, (.one (.ptr 1 0 0))), (3, (.one (.ptr 2 0 0)))], [.cells [.d (.list (p1.map (D.int .i64))), .d (.int .i64 x2.2)], .cells [.d (.int .i64 0), .d (.int .i64 0), .d (.int .i64 0), .d (.int .i64 0), .d (.int .i64 0), .nil], .cells [.d (.int .i64 x1.1), .d (.int .i64 x1.2.1), .d (.int .i64 x1.2.2.1), .d (.int .i64 x2.1), .d (.int .i64 0), .nil]]⟩ (by kernel_rfl) (AC (T_keep_Src_Measure_ok k p1 p2 x1 hx1) (A1 (T_keep_Src_Length_ok k p1 x1.2.2.2 x2 hx2))) ?_
    refine K_seq ?_
    obtain ⟨x3, hx3, H⟩ := bind_some' H
    refine K_reg [.r (I x3.1) [.cells [.d (.list (p1.map (D.int .i64))), .d (.int .i64 x3.2)]]] [evF X k n_keep_Src_Range [(.one (.ptr 0 0 0)), (I 1), (I (imin 8 x2.1))] [.cells [.d (.list (p1.map (D.int .i64))), .d (.int .i64 x2.2)]] = some ((I x3.1), [.cells [.d (.list (p1.map (D.int .i64))), .d (.int .i64 x3.2)]])] ⟨[(0, (.one (.ptr 0 0 0))), (2, (.one (.ptr 1 0 0))), (3, (.one (.ptr 2 0 0)))], [.cells [.d (.list (p1.map (D.int .i64))), .d (.int .i64 x3.2)], .cells [.d (.int .i64 0), .d (.int .i64 0), .d (.int .i64 0), .d (.int .i64 0), .d (.int .i64 0), .nil], .cells [.d (.int .i64 x1.1), .d (.int .i64 x1.2.1), .d (.int .i64 x1.2.2.1), .d (.int .i64 x2.1), .d (.int .i64 x3.1), .nil]]⟩ (by kernel_rfl) (A1 (T_keep_Src_Range_ok k 1 (imin 8 x2.1) p1 x2.2 x3 hx3)) ?_
    refine K_seq ?_
    obtain ⟨x4, hx4, H⟩ := bind_some' H
    refine K_reg [.r (.one (.d (.list (x4.1.map (D.int .i64))))) [.cells [.d (.list (p1.map (D.int .i64))), .d (.int .i64 x4.2)]]] [evF X k n_keep_Src_Cuts [(.one (.ptr 0 0 0))] [.cells [.d (.list (p1.map (D.int .i64))), .d (.int .i64 x3.2)]] = some ((.one (.d (.list (x4.1.map (D.int .i64))))), [.cells [.d (.list (p1.map (D.int .i64))), .d (.int .i64 x4.2)]])] ⟨[(2, (.one (.ptr 1 0 0))), (3, (.one (.ptr 2 0 0)))], [.cells [.d (.list (p1.map (D.int .i64))), .d (.int .i64 x4.2)], .cells [.d (.int .i64 0), .d (.int .i64 0), .d (.int .i64 0), .d (.int .i64 0), .d (.int .i64 0), .nil], .cells [.d (.int .i64 x1.1), .d (.int .i64 x1.2.1), .d (.int .i64 x1.2.2.1), .d (.int .i64 x2.1), .d (.int .i64 x3.1), .d (.list (x4.1.map (D.int .i64)))]]⟩ (by kernel_rfl) (A1 (T_keep_Src_Cuts_ok k p1 x3.2 x4 hx4)) ?_
    refine K_seq ?_
    refine K_reg [] [] ⟨[(2, (.one (.ptr 1 0 0)))], [.cells [.d (.list (p1.map (D.int .i64))), .d (.int .i64 x4.2)], .cells [.d (.int .i64 x1.1), .d (.int .i64 x1.2.1), .d (.int .i64 x1.2.2.1), .d (.int .i64 x2.1), .d (.int .i64 x3.1), .d (.list (x4.1.map (D.int .i64)))]]⟩ (by kernel_rfl) trivial ?_
    refine K_gh ⟨[(2, (.one (.ptr 1 0 0)))], [.cells [.d (.list (p1.map (D.int .i64))), .d (.int .i64 x4.2)], .cells [.d (.int .i64 x1.1), .d (.int .i64 x1.2.1), .d (.int .i64 x1.2.2.1), .d (.int .i64 x2.1), .d (.int .i64 x3.1), .d (.list (x4.1.map (D.int .i64)))]]⟩ (by kernel_rfl) ?_
    cases H
    refine K_ret ?_
    kernel_rfl
def T_law21_normal (k : Nat) (p1 : List Int) (p2 : Int) : Option (Int × Int × (List Int) × Int) := match k with
  | 0 => none
  | k + 1 => ((T_keep_Src_Scheme k p1 p2).bind fun x1 => some (x1.2.2.2.1, x1.2.2.2.2.1, x1.2.2.2.2.2.1, x1.2.2.2.2.2.2))
theorem T_law21_normal_ok (k : Nat) (p1 : List Int) (p2 : Int) (r : Int × Int × (List Int) × Int) : T_law21_normal k p1 p2 = some r → evF X k n_law21_normal [(.one (.ptr 0 0 0))] [.cells [.d (.list (p1.map (D.int .i64))), .d (.int .i64 p2)]] = some ((.agg [.d (.int .i64 3), .d (.int .i64 0), .d (.int .i64 0), .d (.int .i64 r.1), .d (.int .i64 r.2.1), .d (.list (r.2.2.1.map (D.int .i64)))]), [.cells [.d (.list (p1.map (D.int .i64))), .d (.int .i64 r.2.2.2)]]) := by
  intro H
  cases k with
  | zero => simp [T_law21_normal] at H
  | succ k =>
    simp only [T_law21_normal] at H
    refine F_in X_law21_normal rfl ?_
    refine K_seq ?_
    refine K_reg [] [] ⟨[(0, (.one (.ptr 0 0 0))), (2, (.one (.ptr 1 0 0)))], [.cells [.d (.list (p1.map (D.int .i64))), .d (.int .i64 p2)], .cells [.d (.int .i64 0), .d (.int .i64 0), .d (.int .i64 0), .d (.int .i64 0), .d (.int .i64 0), .nil]]⟩ (by kernel_rfl) trivial ?_
    refine K_seq ?_
    obtain ⟨x1, hx1, H⟩ := bind_some' H
    refine K_reg [.r (.agg [.d (.int .i64 x1.1), .d (.int .i64 x1.2.1), .d (.int .i64 x1.2.2.1), .d (.int .i64 x1.2.2.2.1), .d (.int .i64 x1.2.2.2.2.1), .d (.list (x1.2.2.2.2.2.1.map (D.int .i64)))]) [.cells [.d (.list (p1.map (D.int .i64))), .d (.int .i64 x1.2.2.2.2.2.2)]]] [evF X k n_keep_Src_Scheme [(.one (.ptr 0 0 0))] [.cells [.d (.list (p1.map (D.int .i64))), .d (.int .i64 p2)]] = some ((.agg [.d (.int .i64 x1.1), .d (.int .i64 x1.2.1), .d (.int .i64 x1.2.2.1), .d (.int .i64 x1.2.2.2.1), .d (.int .i64 x1.2.2.2.2.1), .d (.list (x1.2.2.2.2.2.1.map (D.int .i64)))]), [.cells [.d (.list (p1.map (D.int .i64))), .d (.int .i64 x1.2.2.2.2.2.2)]])] ⟨[(2, (.one (.ptr 1 0 0))), (3, (.one (.ptr 2 0 0)))], [.cells [.d (.list (p1.map (D.int .i64))), .d (.int .i64 x1.2.2.2.2.2.2)], .cells [.d (.int .i64 0), .d (.int .i64 0), .d (.int .i64 0), .d (.int .i64 0), .d (.int .i64 0), .nil], .cells [.d (.int .i64 x1.1), .d (.int .i64 x1.2.1), .d (.int .i64 x1.2.2.1), .d (.int .i64 x1.2.2.2.1), .d (.int .i64 x1.2.2.2.2.1), .d (.list (x1.2.2.2.2.2.1.map (D.int .i64)))]]⟩ (by kernel_rfl) (A1 (T_keep_Src_Scheme_ok k p1 p2 x1 hx1)) ?_
    refine K_seq ?_
    refine K_reg [] [] ⟨[(2, (.one (.ptr 1 0 0))), (3, (.one (.ptr 2 0 0)))], [.cells [.d (.list (p1.map (D.int .i64))), .d (.int .i64 x1.2.2.2.2.2.2)], .cells [.d (.int .i64 0), .d (.int .i64 0), .d (.int .i64 0), .d (.int .i64 0), .d (.int .i64 0), .nil], .cells [.d (.int .i64 3), .d (.int .i64 0), .d (.int .i64 0), .d (.int .i64 x1.2.2.2.1), .d (.int .i64 x1.2.2.2.2.1), .d (.list (x1.2.2.2.2.2.1.map (D.int .i64)))]]⟩ (by kernel_rfl) trivial ?_
    refine K_seq ?_
    refine K_reg [] [] ⟨[(2, (.one (.ptr 1 0 0)))], [.cells [.d (.list (p1.map (D.int .i64))), .d (.int .i64 x1.2.2.2.2.2.2)], .cells [.d (.int .i64 3), .d (.int .i64 0), .d (.int .i64 0), .d (.int .i64 x1.2.2.2.1), .d (.int .i64 x1.2.2.2.2.1), .d (.list (x1.2.2.2.2.2.1.map (D.int .i64)))]]⟩ (by kernel_rfl) trivial ?_
    refine K_gh ⟨[(2, (.one (.ptr 1 0 0)))], [.cells [.d (.list (p1.map (D.int .i64))), .d (.int .i64 x1.2.2.2.2.2.2)], .cells [.d (.int .i64 3), .d (.int .i64 0), .d (.int .i64 0), .d (.int .i64 x1.2.2.2.1), .d (.int .i64 x1.2.2.2.2.1), .d (.list (x1.2.2.2.2.2.1.map (D.int .i64)))]]⟩ (by kernel_rfl) ?_
    cases H
    refine K_ret ?_
    kernel_rfl
def T_keep_clip (k : Nat) (p1 : Int) : Option Unit := match k with
  | 0 => none
  | k + 1 => some ()
theorem T_keep_clip_ok (k : Nat) (p1 : Int) (r : Unit) : T_keep_clip k p1 = some r → evF X k n_keep_clip [(I p1)] [] = some ((I (imin (imax p1 (-1000)) 1000)), []) := by
  intro H
  cases k with
  | zero => simp [T_keep_clip] at H
  | succ k =>
    simp only [T_keep_clip] at H
    refine F_in X_keep_clip rfl ?_
    refine K_seq ?_
    refine K_reg [] [] ⟨[(0, (I p1))], []⟩ (by kernel_rfl) trivial ?_
    refine K_seq ?_
    refine K_reg [] [] ⟨[(2, (I (imin (imax p1 (-1000)) 1000)))], []⟩ (by kernel_rfl) trivial ?_
    refine K_gh ⟨[(2, (I (imin (imax p1 (-1000)) 1000)))], []⟩ (by kernel_rfl) ?_
    cases H
    refine K_ret ?_
    kernel_rfl
def T_keep_Src_List_l1 (k : Nat) (p1 : Int) (p2 : List Int) (x8 : Int) (x9 : Int) (x37 : Int × Nat × Int × Int × (List Int)) : Option ((Int × Nat × Int × Int × (List Int)) ⊕ ((Nat × Int × (List Int)))) :=
  (if x37.2.2.1 < p1 then (((if x8 = 0 then some (decide (x8 = 0)) else some (decide (x8 = 1)))).bind fun x40 => ((if x40 = true then (T_keep_Src_Range k (w64 (0 - x9)) x9 p2 x37.2.2.2.1).bind fun x42 => (if x37.2.1 + 1 ≤ LIM then some (x37.1, x42.2, ((x37.2.2.2.2.drop 0).take x37.2.1 ++ ([x42.1] : List Int))) else none) else (((if x8 = 2 then some (decide (x8 = 2)) else some (decide (x8 = 3)))).bind fun x45 => (if x45 = true then (T_keep_Src_Range k (w64 (0 - x9)) x9 p2 x37.2.2.2.1).bind fun x47 => (T_keep_clip k (w64 (x37.1 + x47.1))).bind fun x48 => (if x37.2.1 + 1 ≤ LIM then some ((imin (imax (w64 (x37.1 + x47.1)) (-1000)) 1000), x47.2, ((x37.2.2.2.2.drop 0).take x37.2.1 ++ ([(imin (imax (w64 (x37.1 + x47.1)) (-1000)) 1000)] : List Int))) else none) else (if x8 = 4 then (T_keep_Src_N k 4 p2 x37.2.2.2.1).bind fun x51 => ((if x51.1 = 0 then ((T_keep_Src_Range k (w64 (0 - x9)) x9 p2 x51.2).bind fun x53 => some (x53.1, x53.2)) else some (x37.1, x51.2))).bind fun x54 => (if x37.2.1 + 1 ≤ LIM then some (x54.1, x54.2, ((x37.2.2.2.2.drop 0).take x37.2.1 ++ ([x54.1] : List Int))) else none) else (T_keep_Src_Pick k ([(-1000), 1000, 1000, 0] : List Int) p2 x37.2.2.2.1).bind fun x56 => (if x37.2.1 + 1 ≤ LIM then some (x37.1, x56.2, ((x37.2.2.2.2.drop 0).take x37.2.1 ++ ([x56.1] : List Int))) else none)))))).bind fun x58 => some (.inl (x58.1, (x37.2.1 + 1), (w64 (x37.2.2.1 + 1)), x58.2.1, x58.2.2))) else some (.inr (x37.2.1, x37.2.2.2.1, x37.2.2.2.2)))
theorem T_keep_Src_List_l1_ok (k : Nat) (p1 : Int) (p2 : List Int) (x8 : Int) (x9 : Int) : ∀ (x37 : Int × Nat × Int × Int × (List Int)) (x : (Int × Nat × Int × Int × (List Int)) ⊕ ((Nat × Int × (List Int)))), T_keep_Src_List_l1 k p1 p2 x8 x9 x37 = some x → evC X (evF X k) k 1 l_keep_Src_List_1 ⟨[(0, (.one (.ptr 0 0 0))), (1, (I p1)), (5, (I x8)), (6, (I x9)), (7, (I x37.1)), (8, (.one (.own 1 0 x37.2.1))), (9, (I x37.2.2.1))], [.cells [.d (.list (p2.map (D.int .i64))), .d (.int .i64 x37.2.2.2.1)], .vals (.int .i64 0) (x37.2.2.2.2.map (D.int .i64))]⟩ = some (outS (fun (s : Int × Nat × Int × Int × (List Int)) => ⟨[(0, (.one (.ptr 0 0 0))), (1, (I p1)), (5, (I x8)), (6, (I x9)), (7, (I s.1)), (8, (.one (.own 1 0 s.2.1))), (9, (I s.2.2.1))], [.cells [.d (.list (p2.map (D.int .i64))), .d (.int .i64 s.2.2.2.1)], .vals (.int .i64 0) (s.2.2.2.2.map (D.int .i64))]⟩) (fun (r : (Nat × Int × (List Int))) => (.exit 0, ⟨[(8, (.one (.own 1 0 r.1)))], [.cells [.d (.list (p2.map (D.int .i64))), .d (.int .i64 r.2.1)], .vals (.int .i64 0) (r.2.2.map (D.int .i64))]⟩)) x) := by
  intro x37 x H
  unfold T_keep_Src_List_l1 at H
  refine K_in ?_
  refine K_seq ?_
  refine K_seq ?_
  refine K_reg [] [] ⟨[(0, (.one (.ptr 0 0 0))), (1, (I p1)), (5, (I x8)), (6, (I x9)), (7, (I x37.1)), (8, (.one (.own 1 0 x37.2.1))), (9, (I x37.2.2.1)), (22, (B (decide (x37.2.2.1 < p1))))], [.cells [.d (.list (p2.map (D.int .i64))), .d (.int .i64 x37.2.2.2.1)], .vals (.int .i64 0) (x37.2.2.2.2.map (D.int .i64))]⟩ (by kernel_rfl) trivial ?_
  rcases ite_some H with ⟨hx38, H⟩ | ⟨hx38, H⟩
  · refine K_t rfl (decide_eq_true hx38) ?_
    refine K_gh ⟨[(0, (.one (.ptr 0 0 0))), (1, (I p1)), (5, (I x8)), (6, (I x9)), (7, (I x37.1)), (8, (.one (.own 1 0 x37.2.1))), (9, (I x37.2.2.1))], [.cells [.d (.list (p2.map (D.int .i64))), .d (.int .i64 x37.2.2.2.1)], .vals (.int .i64 0) (x37.2.2.2.2.map (D.int .i64))]⟩ (by kernel_rfl) ?_
    refine K_skip ?_
    refine K_seq ?_
    refine K_block ?_
    refine K_seq ?_
    refine K_reg [] [] ⟨[(0, (.one (.ptr 0 0 0))), (1, (I p1)), (5, (I x8)), (6, (I x9)), (7, (I x37.1)), (8, (.one (.own 1 0 x37.2.1))), (9, (I x37.2.2.1)), (25, (I x8))], [.cells [.d (.list (p2.map (D.int .i64))), .d (.int .i64 x37.2.2.2.1)], .vals (.int .i64 0) (x37.2.2.2.2.map (D.int .i64))]⟩ (by kernel_rfl) trivial ?_
    refine K_block ?_
    refine K_seq ?_
    refine K_seq ?_
    refine K_reg [] [] ⟨[(0, (.one (.ptr 0 0 0))), (1, (I p1)), (5, (I x8)), (6, (I x9)), (7, (I x37.1)), (8, (.one (.own 1 0 x37.2.1))), (9, (I x37.2.2.1)), (25, (I x8)), (32, (B (decide (x8 = 0))))], [.cells [.d (.list (p2.map (D.int .i64))), .d (.int .i64 x37.2.2.2.1)], .vals (.int .i64 0) (x37.2.2.2.2.map (D.int .i64))]⟩ (by kernel_rfl) trivial ?_
    obtain ⟨x40, hx40, H⟩ := bind_some' H
    refine K_of ⟨[(0, (.one (.ptr 0 0 0))), (1, (I p1)), (5, (I x8)), (6, (I x9)), (7, (I x37.1)), (8, (.one (.own 1 0 x37.2.1))), (9, (I x37.2.2.1)), (25, (I x8)), (32, (B x40))], [.cells [.d (.list (p2.map (D.int .i64))), .d (.int .i64 x37.2.2.2.1)], .vals (.int .i64 0) (x37.2.2.2.2.map (D.int .i64))]⟩ ?_ ?_
    · clear H; have H := hx40; clear hx40; refine K_in ?_
      rcases ite_some H with ⟨hx39, H⟩ | ⟨hx39, H⟩
      · refine K_t rfl (decide_eq_true hx39) ?_
        refine K_gh ⟨[(0, (.one (.ptr 0 0 0))), (1, (I p1)), (5, (I x8)), (6, (I x9)), (7, (I x37.1)), (8, (.one (.own 1 0 x37.2.1))), (9, (I x37.2.2.1)), (25, (I x8)), (32, (B (decide (x8 = 0))))], [.cells [.d (.list (p2.map (D.int .i64))), .d (.int .i64 x37.2.2.2.1)], .vals (.int .i64 0) (x37.2.2.2.2.map (D.int .i64))]⟩ (by kernel_rfl) ?_
        refine K_skip ?_
        cases H
        exact K_end rfl
      · refine K_f rfl (decide_eq_false hx39) ?_
        refine K_reg [] [] ⟨[(0, (.one (.ptr 0 0 0))), (1, (I p1)), (5, (I x8)), (6, (I x9)), (7, (I x37.1)), (8, (.one (.own 1 0 x37.2.1))), (9, (I x37.2.2.1)), (25, (I x8)), (32, (B (decide (x8 = 1))))], [.cells [.d (.list (p2.map (D.int .i64))), .d (.int .i64 x37.2.2.2.1)], .vals (.int .i64 0) (x37.2.2.2.2.map (D.int .i64))]⟩ (by kernel_rfl) trivial ?_
        cases H
        exact K_end rfl
    obtain ⟨x58, hx58, H⟩ := bind_some' H
    refine K_of ⟨[(0, (.one (.ptr 0 0 0))), (1, (I p1)), (5, (I x8)), (6, (I x9)), (7, (I x58.1)), (8, (.one (.own 1 0 (x37.2.1 + 1)))), (9, (I x37.2.2.1))], [.cells [.d (.list (p2.map (D.int .i64))), .d (.int .i64 x58.2.1)], .vals (.int .i64 0) (x58.2.2.map (D.int .i64))]⟩ ?_ ?_
    · clear H; have H := hx58; clear hx58; refine K_in ?_
      rcases ite_some H with ⟨hx41, H⟩ | ⟨hx41, H⟩
      · refine K_t rfl hx41 ?_
        obtain ⟨x42, hx42, H⟩ := bind_some' H
        obtain ⟨hx43, H⟩ := guard_some H
        refine K_reg [.r (I x42.1) [.cells [.d (.list (p2.map (D.int .i64))), .d (.int .i64 x42.2)]], .n 1, .l (((x37.2.2.2.2.drop 0).take x37.2.1 ++ ([x42.1] : List Int)).map (D.int .i64))] [evF X k n_keep_Src_Range [(.one (.ptr 0 0 0)), (I (w64 (0 - x9))), (I x9)] [.cells [.d (.list (p2.map (D.int .i64))), .d (.int .i64 x37.2.2.2.1)]] = some ((I x42.1), [.cells [.d (.list (p2.map (D.int .i64))), .d (.int .i64 x42.2)]]), (List.all (([x42.1] : List Int).map (D.int .i64)) fun d => d.cells.length == (D.cells (.int .i64 0)).length) = true, x37.2.1 + 1 ≤ LIM, (([x42.1] : List Int).map (D.int .i64)).length = 1, ((x37.2.2.2.2.map (D.int .i64)).drop 0).take x37.2.1 ++ (([x42.1] : List Int).map (D.int .i64)) = ((x37.2.2.2.2.drop 0).take x37.2.1 ++ ([x42.1] : List Int)).map (D.int .i64)] ⟨[(0, (.one (.ptr 0 0 0))), (1, (I p1)), (5, (I x8)), (6, (I x9)), (7, (I x37.1)), (8, (.one (.own 1 0 (x37.2.1 + 1)))), (9, (I x37.2.2.1))], [.cells [.d (.list (p2.map (D.int .i64))), .d (.int .i64 x42.2)], .vals (.int .i64 0) (((x37.2.2.2.2.drop 0).take x37.2.1 ++ ([x42.1] : List Int)).map (D.int .i64))]⟩ (by kernel_rfl) (AC (T_keep_Src_Range_ok k (w64 (0 - x9)) x9 p2 x37.2.2.2.1 x42 hx42) (AC (all_ok (D.int .i64) 1 ([x42.1] : List Int) (fun _ => rfl)) (AC hx43 (AC (by simp) (A1 (ap_map (D.int .i64) x37.2.2.2.2 ([x42.1] : List Int) 0 x37.2.1)))))) ?_
        cases H
        exact K_end rfl
      · refine K_f rfl (Bool.eq_false_iff.2 hx41) ?_
        refine K_seq ?_
        refine K_seq ?_
        refine K_reg [] [] ⟨[(0, (.one (.ptr 0 0 0))), (1, (I p1)), (5, (I x8)), (6, (I x9)), (7, (I x37.1)), (8, (.one (.own 1 0 x37.2.1))), (9, (I x37.2.2.1)), (25, (I x8)), (43, (B (decide (x8 = 2))))], [.cells [.d (.list (p2.map (D.int .i64))), .d (.int .i64 x37.2.2.2.1)], .vals (.int .i64 0) (x37.2.2.2.2.map (D.int .i64))]⟩ (by kernel_rfl) trivial ?_
        obtain ⟨x45, hx45, H⟩ := bind_some' H
        refine K_of ⟨[(0, (.one (.ptr 0 0 0))), (1, (I p1)), (5, (I x8)), (6, (I x9)), (7, (I x37.1)), (8, (.one (.own 1 0 x37.2.1))), (9, (I x37.2.2.1)), (25, (I x8)), (43, (B x45))], [.cells [.d (.list (p2.map (D.int .i64))), .d (.int .i64 x37.2.2.2.1)], .vals (.int .i64 0) (x37.2.2.2.2.map (D.int .i64))]⟩ ?_ ?_
        · clear H; have H := hx45; clear hx45; refine K_in ?_
          rcases ite_some H with ⟨hx44, H⟩ | ⟨hx44, H⟩
          · refine K_t rfl (decide_eq_true hx44) ?_
            refine K_gh ⟨[(0, (.one (.ptr 0 0 0))), (1, (I p1)), (5, (I x8)), (6, (I x9)), (7, (I x37.1)), (8, (.one (.own 1 0 x37.2.1))), (9, (I x37.2.2.1)), (25, (I x8)), (43, (B (decide (x8 = 2))))], [.cells [.d (.list (p2.map (D.int .i64))), .d (.int .i64 x37.2.2.2.1)], .vals (.int .i64 0) (x37.2.2.2.2.map (D.int .i64))]⟩ (by kernel_rfl) ?_
            refine K_skip ?_
            cases H
            exact K_end rfl
          · refine K_f rfl (decide_eq_false hx44) ?_
            refine K_reg [] [] ⟨[(0, (.one (.ptr 0 0 0))), (1, (I p1)), (5, (I x8)), (6, (I x9)), (7, (I x37.1)), (8, (.one (.own 1 0 x37.2.1))), (9, (I x37.2.2.1)), (25, (I x8)), (43, (B (decide (x8 = 3))))], [.cells [.d (.list (p2.map (D.int .i64))), .d (.int .i64 x37.2.2.2.1)], .vals (.int .i64 0) (x37.2.2.2.2.map (D.int .i64))]⟩ (by kernel_rfl) trivial ?_
            cases H
            exact K_end rfl
        rcases ite_some H with ⟨hx46, H⟩ | ⟨hx46, H⟩
        · refine K_t rfl hx46 ?_
          refine K_seq ?_
          obtain ⟨x47, hx47, H⟩ := bind_some' H
          obtain ⟨x48, hx48, H⟩ := bind_some' H
          refine K_reg [.r (I x47.1) [.cells [.d (.list (p2.map (D.int .i64))), .d (.int .i64 x47.2)]], .r (I (imin (imax (w64 (x37.1 + x47.1)) (-1000)) 1000)) []] [evF X k n_keep_Src_Range [(.one (.ptr 0 0 0)), (I (w64 (0 - x9))), (I x9)] [.cells [.d (.list (p2.map (D.int .i64))), .d (.int .i64 x37.2.2.2.1)]] = some ((I x47.1), [.cells [.d (.list (p2.map (D.int .i64))), .d (.int .i64 x47.2)]]), evF X k n_keep_clip [(I (w64 (x37.1 + x47.1)))] [] = some ((I (imin (imax (w64 (x37.1 + x47.1)) (-1000)) 1000)), [])] ⟨[(0, (.one (.ptr 0 0 0))), (1, (I p1)), (5, (I x8)), (6, (I x9)), (7, (I (imin (imax (w64 (x37.1 + x47.1)) (-1000)) 1000))), (8, (.one (.own 1 0 x37.2.1))), (9, (I x37.2.2.1))], [.cells [.d (.list (p2.map (D.int .i64))), .d (.int .i64 x47.2)], .vals (.int .i64 0) (x37.2.2.2.2.map (D.int .i64))]⟩ (by kernel_rfl) (AC (T_keep_Src_Range_ok k (w64 (0 - x9)) x9 p2 x37.2.2.2.1 x47 hx47) (A1 (T_keep_clip_ok k (w64 (x37.1 + x47.1)) x48 hx48))) ?_
          obtain ⟨hx49, H⟩ := guard_some H
          refine K_reg [.n 1, .l (((x37.2.2.2.2.drop 0).take x37.2.1 ++ ([(imin (imax (w64 (x37.1 + x47.1)) (-1000)) 1000)] : List Int)).map (D.int .i64))] [(List.all (([(imin (imax (w64 (x37.1 + x47.1)) (-1000)) 1000)] : List Int).map (D.int .i64)) fun d => d.cells.length == (D.cells (.int .i64 0)).length) = true, x37.2.1 + 1 ≤ LIM, (([(imin (imax (w64 (x37.1 + x47.1)) (-1000)) 1000)] : List Int).map (D.int .i64)).length = 1, ((x37.2.2.2.2.map (D.int .i64)).drop 0).take x37.2.1 ++ (([(imin (imax (w64 (x37.1 + x47.1)) (-1000)) 1000)] : List Int).map (D.int .i64)) = ((x37.2.2.2.2.drop 0).take x37.2.1 ++ ([(imin (imax (w64 (x37.1 + x47.1)) (-1000)) 1000)] : List Int)).map (D.int .i64)] ⟨[(0, (.one (.ptr 0 0 0))), (1, (I p1)), (5, (I x8)), (6, (I x9)), (7, (I (imin (imax (w64 (x37.1 + x47.1)) (-1000)) 1000))), (8, (.one (.own 1 0 (x37.2.1 + 1)))), (9, (I x37.2.2.1))], [.cells [.d (.list (p2.map (D.int .i64))), .d (.int .i64 x47.2)], .vals (.int .i64 0) (((x37.2.2.2.2.drop 0).take x37.2.1 ++ ([(imin (imax (w64 (x37.1 + x47.1)) (-1000)) 1000)] : List Int)).map (D.int .i64))]⟩ (by kernel_rfl) (AC (all_ok (D.int .i64) 1 ([(imin (imax (w64 (x37.1 + x47.1)) (-1000)) 1000)] : List Int) (fun _ => rfl)) (AC hx49 (AC (by simp) (A1 (ap_map (D.int .i64) x37.2.2.2.2 ([(imin (imax (w64 (x37.1 + x47.1)) (-1000)) 1000)] : List Int) 0 x37.2.1))))) ?_
          cases H
          exact K_end rfl
        · refine K_f rfl (Bool.eq_false_iff.2 hx46) ?_
          refine K_seq ?_
          refine K_reg [] [] ⟨[(0, (.one (.ptr 0 0 0))), (1, (I p1)), (5, (I x8)), (6, (I x9)), (7, (I x37.1)), (8, (.one (.own 1 0 x37.2.1))), (9, (I x37.2.2.1)), (58, (B (decide (x8 = 4))))], [.cells [.d (.list (p2.map (D.int .i64))), .d (.int .i64 x37.2.2.2.1)], .vals (.int .i64 0) (x37.2.2.2.2.map (D.int .i64))]⟩ (by kernel_rfl) trivial ?_
          rcases ite_some H with ⟨hx50, H⟩ | ⟨hx50, H⟩
          · refine K_t rfl (decide_eq_true hx50) ?_
            refine K_seq ?_
            refine K_seq ?_
            obtain ⟨x51, hx51, H⟩ := bind_some' H
            refine K_reg [.r (I x51.1) [.cells [.d (.list (p2.map (D.int .i64))), .d (.int .i64 x51.2)]]] [evF X k n_keep_Src_N [(.one (.ptr 0 0 0)), (I 4)] [.cells [.d (.list (p2.map (D.int .i64))), .d (.int .i64 x37.2.2.2.1)]] = some ((I x51.1), [.cells [.d (.list (p2.map (D.int .i64))), .d (.int .i64 x51.2)]])] ⟨[(0, (.one (.ptr 0 0 0))), (1, (I p1)), (5, (I x8)), (6, (I x9)), (7, (I x37.1)), (8, (.one (.own 1 0 x37.2.1))), (9, (I x37.2.2.1)), (62, (B (decide (x51.1 = 0))))], [.cells [.d (.list (p2.map (D.int .i64))), .d (.int .i64 x51.2)], .vals (.int .i64 0) (x37.2.2.2.2.map (D.int .i64))]⟩ (by kernel_rfl) (A1 (T_keep_Src_N_ok k 4 p2 x37.2.2.2.1 x51 hx51)) ?_
            obtain ⟨x54, hx54, H⟩ := bind_some' H
            refine K_of ⟨[(0, (.one (.ptr 0 0 0))), (1, (I p1)), (5, (I x8)), (6, (I x9)), (7, (I x54.1)), (8, (.one (.own 1 0 x37.2.1))), (9, (I x37.2.2.1))], [.cells [.d (.list (p2.map (D.int .i64))), .d (.int .i64 x54.2)], .vals (.int .i64 0) (x37.2.2.2.2.map (D.int .i64))]⟩ ?_ ?_
            · clear H; have H := hx54; clear hx54; refine K_in ?_
              rcases ite_some H with ⟨hx52, H⟩ | ⟨hx52, H⟩
              · refine K_t rfl (decide_eq_true hx52) ?_
                obtain ⟨x53, hx53, H⟩ := bind_some' H
                refine K_reg [.r (I x53.1) [.cells [.d (.list (p2.map (D.int .i64))), .d (.int .i64 x53.2)]]] [evF X k n_keep_Src_Range [(.one (.ptr 0 0 0)), (I (w64 (0 - x9))), (I x9)] [.cells [.d (.list (p2.map (D.int .i64))), .d (.int .i64 x51.2)]] = some ((I x53.1), [.cells [.d (.list (p2.map (D.int .i64))), .d (.int .i64 x53.2)]])] ⟨[(0, (.one (.ptr 0 0 0))), (1, (I p1)), (5, (I x8)), (6, (I x9)), (7, (I x53.1)), (8, (.one (.own 1 0 x37.2.1))), (9, (I x37.2.2.1))], [.cells [.d (.list (p2.map (D.int .i64))), .d (.int .i64 x53.2)], .vals (.int .i64 0) (x37.2.2.2.2.map (D.int .i64))]⟩ (by kernel_rfl) (A1 (T_keep_Src_Range_ok k (w64 (0 - x9)) x9 p2 x51.2 x53 hx53)) ?_
                cases H
                exact K_end rfl
              · refine K_f rfl (decide_eq_false hx52) ?_
                refine K_gh ⟨[(0, (.one (.ptr 0 0 0))), (1, (I p1)), (5, (I x8)), (6, (I x9)), (7, (I x37.1)), (8, (.one (.own 1 0 x37.2.1))), (9, (I x37.2.2.1))], [.cells [.d (.list (p2.map (D.int .i64))), .d (.int .i64 x51.2)], .vals (.int .i64 0) (x37.2.2.2.2.map (D.int .i64))]⟩ (by kernel_rfl) ?_
                refine K_skip ?_
                cases H
                exact K_end rfl
            obtain ⟨hx55, H⟩ := guard_some H
            refine K_reg [.n 1, .l (((x37.2.2.2.2.drop 0).take x37.2.1 ++ ([x54.1] : List Int)).map (D.int .i64))] [(List.all (([x54.1] : List Int).map (D.int .i64)) fun d => d.cells.length == (D.cells (.int .i64 0)).length) = true, x37.2.1 + 1 ≤ LIM, (([x54.1] : List Int).map (D.int .i64)).length = 1, ((x37.2.2.2.2.map (D.int .i64)).drop 0).take x37.2.1 ++ (([x54.1] : List Int).map (D.int .i64)) = ((x37.2.2.2.2.drop 0).take x37.2.1 ++ ([x54.1] : List Int)).map (D.int .i64)] ⟨[(0, (.one (.ptr 0 0 0))), (1, (I p1)), (5, (I x8)), (6, (I x9)), (7, (I x54.1)), (8, (.one (.own 1 0 (x37.2.1 + 1)))), (9, (I x37.2.2.1))], [.cells [.d (.list (p2.map (D.int .i64))), .d (.int .i64 x54.2)], .vals (.int .i64 0) (((x37.2.2.2.2.drop 0).take x37.2.1 ++ ([x54.1] : List Int)).map (D.int .i64))]⟩ (by kernel_rfl) (AC (all_ok (D.int .i64) 1 ([x54.1] : List Int) (fun _ => rfl)) (AC hx55 (AC (by simp) (A1 (ap_map (D.int .i64) x37.2.2.2.2 ([x54.1] : List Int) 0 x37.2.1))))) ?_
            cases H
            exact K_end rfl
          · refine K_f rfl (decide_eq_false hx50) ?_
            obtain ⟨x56, hx56, H⟩ := bind_some' H
            obtain ⟨hx57, H⟩ := guard_some H
            refine K_reg [.r (I x56.1) [.cells [.d (.list (p2.map (D.int .i64))), .d (.int .i64 x56.2)]], .n 1, .l (((x37.2.2.2.2.drop 0).take x37.2.1 ++ ([x56.1] : List Int)).map (D.int .i64))] [evF X k n_keep_Src_Pick [(.one (.ptr 0 0 0)), (.one (.d (.list (([(-1000), 1000, 1000, 0] : List Int).map (D.int .i64)))))] [.cells [.d (.list (p2.map (D.int .i64))), .d (.int .i64 x37.2.2.2.1)]] = some ((I x56.1), [.cells [.d (.list (p2.map (D.int .i64))), .d (.int .i64 x56.2)]]), (List.all (([x56.1] : List Int).map (D.int .i64)) fun d => d.cells.length == (D.cells (.int .i64 0)).length) = true, x37.2.1 + 1 ≤ LIM, (([x56.1] : List Int).map (D.int .i64)).length = 1, ((x37.2.2.2.2.map (D.int .i64)).drop 0).take x37.2.1 ++ (([x56.1] : List Int).map (D.int .i64)) = ((x37.2.2.2.2.drop 0).take x37.2.1 ++ ([x56.1] : List Int)).map (D.int .i64)] ⟨[(0, (.one (.ptr 0 0 0))), (1, (I p1)), (5, (I x8)), (6, (I x9)), (7, (I x37.1)), (8, (.one (.own 1 0 (x37.2.1 + 1)))), (9, (I x37.2.2.1))], [.cells [.d (.list (p2.map (D.int .i64))), .d (.int .i64 x56.2)], .vals (.int .i64 0) (((x37.2.2.2.2.drop 0).take x37.2.1 ++ ([x56.1] : List Int)).map (D.int .i64))]⟩ (by kernel_rfl) (AC (T_keep_Src_Pick_ok k ([(-1000), 1000, 1000, 0] : List Int) p2 x37.2.2.2.1 x56 hx56) (AC (all_ok (D.int .i64) 1 ([x56.1] : List Int) (fun _ => rfl)) (AC hx57 (AC (by simp) (A1 (ap_map (D.int .i64) x37.2.2.2.2 ([x56.1] : List Int) 0 x37.2.1)))))) ?_
            cases H
            exact K_end rfl
    refine K_blk ?_
    refine K_blk ?_
    refine K_reg [] [] ⟨[(0, (.one (.ptr 0 0 0))), (1, (I p1)), (5, (I x8)), (6, (I x9)), (7, (I x58.1)), (8, (.one (.own 1 0 (x37.2.1 + 1)))), (9, (I (w64 (x37.2.2.1 + 1))))], [.cells [.d (.list (p2.map (D.int .i64))), .d (.int .i64 x58.2.1)], .vals (.int .i64 0) (x58.2.2.map (D.int .i64))]⟩ (by kernel_rfl) trivial ?_
    cases H
    exact K_end rfl
  · refine K_f rfl (decide_eq_false hx38) ?_
    refine K_gh ⟨[(8, (.one (.own 1 0 x37.2.1)))], [.cells [.d (.list (p2.map (D.int .i64))), .d (.int .i64 x37.2.2.2.1)], .vals (.int .i64 0) (x37.2.2.2.2.map (D.int .i64))]⟩ (by kernel_rfl) ?_
    cases H
    exact K_exit0 rfl rfl
def T_keep_Src_List (k : Nat) (p1 : Int) (p2 : List Int) (p3 : Int) : Option ((List Int) × Int) := match k with
  | 0 => none
  | k + 1 => ((T_keep_Src_N k 6 p2 p3).bind fun x1 => (T_keep_Src_Pick k ([1, 3, 10, 100, 1000] : List Int) p2 x1.2).bind fun x2 => (T_keep_Src_N k 3 p2 x2.2).bind fun x3 => ((if x3.1 = 0 then ((T_keep_Src_Range k (-1000) 1000 p2 x3.2).bind fun x5 => some (x5.1, x5.2)) else some (0, x3.2))).bind fun x6 => (loopT (T_keep_Src_List_l1 k p1 p2 x1.1 x2.1) k (x6.1, 0, 0, x6.2, [])).bind fun x59 => some (((x59.2.2.drop 0).take x59.1), x59.2.1))
theorem T_keep_Src_List_ok (k : Nat) (p1 : Int) (p2 : List Int) (p3 : Int) (r : (List Int) × Int) : T_keep_Src_List k p1 p2 p3 = some r → evF X k n_keep_Src_List [(.one (.ptr 0 0 0)), (I p1)] [.cells [.d (.list (p2.map (D.int .i64))), .d (.int .i64 p3)]] = some ((.one (.d (.list (r.1.map (D.int .i64))))), [.cells [.d (.list (p2.map (D.int .i64))), .d (.int .i64 r.2)]]) := by
  intro H
  cases k with
  | zero => simp [T_keep_Src_List] at H
  | succ k =>
    simp only [T_keep_Src_List] at H
    refine F_in X_keep_Src_List rfl ?_
    refine K_seq ?_
    refine K_reg [] [] ⟨[(0, (.one (.ptr 0 0 0))), (1, (I p1))], [.cells [.d (.list (p2.map (D.int .i64))), .d (.int .i64 p3)]]⟩ (by kernel_rfl) trivial ?_
    refine K_seq ?_
    obtain ⟨x1, hx1, H⟩ := bind_some' H
    obtain ⟨x2, hx2, H⟩ := bind_some' H
    refine K_reg [.r (I x1.1) [.cells [.d (.list (p2.map (D.int .i64))), .d (.int .i64 x1.2)]], .r (I x2.1) [.cells [.d (.list (p2.map (D.int .i64))), .d (.int .i64 x2.2)]]] [evF X k n_keep_Src_N [(.one (.ptr 0 0 0)), (I 6)] [.cells [.d (.list (p2.map (D.int .i64))), .d (.int .i64 p3)]] = some ((I x1.1), [.cells [.d (.list (p2.map (D.int .i64))), .d (.int .i64 x1.2)]]), evF X k n_keep_Src_Pick [(.one (.ptr 0 0 0)), (.one (.d (.list (([1, 3, 10, 100, 1000] : List Int).map (D.int .i64)))))] [.cells [.d (.list (p2.map (D.int .i64))), .d (.int .i64 x1.2)]] = some ((I x2.1), [.cells [.d (.list (p2.map (D.int .i64))), .d (.int .i64 x2.2)]])] ⟨[(0, (.one (.ptr 0 0 0))), (1, (I p1)), (5, (I x1.1)), (6, (I x2.1)), (7, (I 0))], [.cells [.d (.list (p2.map (D.int .i64))), .d (.int .i64 x2.2)]]⟩ (by kernel_rfl) (AC (T_keep_Src_N_ok k 6 p2 p3 x1 hx1) (A1 (T_keep_Src_Pick_ok k ([1, 3, 10, 100, 1000] : List Int) p2 x1.2 x2 hx2))) ?_
    refine K_seq ?_
    refine K_seq ?_
    obtain ⟨x3, hx3, H⟩ := bind_some' H
    refine K_reg [.r (I x3.1) [.cells [.d (.list (p2.map (D.int .i64))), .d (.int .i64 x3.2)]]] [evF X k n_keep_Src_N [(.one (.ptr 0 0 0)), (I 3)] [.cells [.d (.list (p2.map (D.int .i64))), .d (.int .i64 x2.2)]] = some ((I x3.1), [.cells [.d (.list (p2.map (D.int .i64))), .d (.int .i64 x3.2)]])] ⟨[(0, (.one (.ptr 0 0 0))), (1, (I p1)), (5, (I x1.1)), (6, (I x2.1)), (7, (I 0)), (17, (B (decide (x3.1 = 0))))], [.cells [.d (.list (p2.map (D.int .i64))), .d (.int .i64 x3.2)]]⟩ (by kernel_rfl) (A1 (T_keep_Src_N_ok k 3 p2 x2.2 x3 hx3)) ?_
    obtain ⟨x6, hx6, H⟩ := bind_some' H
    refine K_of ⟨[(0, (.one (.ptr 0 0 0))), (1, (I p1)), (5, (I x1.1)), (6, (I x2.1)), (7, (I x6.1))], [.cells [.d (.list (p2.map (D.int .i64))), .d (.int .i64 x6.2)]]⟩ ?_ ?_
    · clear H; have H := hx6; clear hx6; refine K_in ?_
      rcases ite_some H with ⟨hx4, H⟩ | ⟨hx4, H⟩
      · refine K_t rfl (decide_eq_true hx4) ?_
        obtain ⟨x5, hx5, H⟩ := bind_some' H
        refine K_reg [.r (I x5.1) [.cells [.d (.list (p2.map (D.int .i64))), .d (.int .i64 x5.2)]]] [evF X k n_keep_Src_Range [(.one (.ptr 0 0 0)), (I (-1000)), (I 1000)] [.cells [.d (.list (p2.map (D.int .i64))), .d (.int .i64 x3.2)]] = some ((I x5.1), [.cells [.d (.list (p2.map (D.int .i64))), .d (.int .i64 x5.2)]])] ⟨[(0, (.one (.ptr 0 0 0))), (1, (I p1)), (5, (I x1.1)), (6, (I x2.1)), (7, (I x5.1))], [.cells [.d (.list (p2.map (D.int .i64))), .d (.int .i64 x5.2)]]⟩ (by kernel_rfl) (A1 (T_keep_Src_Range_ok k (-1000) 1000 p2 x3.2 x5 hx5)) ?_
        cases H
        exact K_end rfl
      · refine K_f rfl (decide_eq_false hx4) ?_
        refine K_gh ⟨[(0, (.one (.ptr 0 0 0))), (1, (I p1)), (5, (I x1.1)), (6, (I x2.1)), (7, (I 0))], [.cells [.d (.list (p2.map (D.int .i64))), .d (.int .i64 x3.2)]]⟩ (by kernel_rfl) ?_
        refine K_skip ?_
        cases H
        exact K_end rfl
    refine K_seq ?_
    refine K_reg [] [] ⟨[(0, (.one (.ptr 0 0 0))), (1, (I p1)), (5, (I x1.1)), (6, (I x2.1)), (7, (I x6.1)), (8, (.one (.nil)))], [.cells [.d (.list (p2.map (D.int .i64))), .d (.int .i64 x6.2)]]⟩ (by kernel_rfl) trivial ?_
    refine K_seq ?_
    refine K_seq ?_
    refine K_reg [] [] ⟨[(0, (.one (.ptr 0 0 0))), (1, (I p1)), (5, (I x1.1)), (6, (I x2.1)), (7, (I x6.1)), (8, (.one (.nil))), (9, (I 0))], [.cells [.d (.list (p2.map (D.int .i64))), .d (.int .i64 x6.2)]]⟩ (by kernel_rfl) trivial ?_
    refine K_block ?_
    refine K_gh ⟨[(0, (.one (.ptr 0 0 0))), (1, (I p1)), (5, (I x1.1)), (6, (I x2.1)), (7, (I x6.1)), (8, (.one (.own 1 0 0))), (9, (I 0))], [.cells [.d (.list (p2.map (D.int .i64))), .d (.int .i64 x6.2)], .vals (.int .i64 0) ([].map (D.int .i64))]⟩ (by kernel_rfl) ?_
    obtain ⟨x59, hx59, H⟩ := bind_some' H
    refine K_loop ⟨[(8, (.one (.own 1 0 x59.1)))], [.cells [.d (.list (p2.map (D.int .i64))), .d (.int .i64 x59.2.1)], .vals (.int .i64 0) (x59.2.2.map (D.int .i64))]⟩ (loop_ok (fun (s : Int × Nat × Int × Int × (List Int)) => ⟨[(0, (.one (.ptr 0 0 0))), (1, (I p1)), (5, (I x1.1)), (6, (I x2.1)), (7, (I s.1)), (8, (.one (.own 1 0 s.2.1))), (9, (I s.2.2.1))], [.cells [.d (.list (p2.map (D.int .i64))), .d (.int .i64 s.2.2.2.1)], .vals (.int .i64 0) (s.2.2.2.2.map (D.int .i64))]⟩) (fun (r : (Nat × Int × (List Int))) => (.exit 0, ⟨[(8, (.one (.own 1 0 r.1)))], [.cells [.d (.list (p2.map (D.int .i64))), .d (.int .i64 r.2.1)], .vals (.int .i64 0) (r.2.2.map (D.int .i64))]⟩)) (fun r h => by cases h) (T_keep_Src_List_l1_ok k p1 p2 x1.1 x2.1) k (x6.1, 0, 0, x6.2, []) x59 hx59) rfl ?_
    refine K_seq ?_
    refine K_reg [] [] ⟨[(4, (.one (.own 1 0 x59.1)))], [.cells [.d (.list (p2.map (D.int .i64))), .d (.int .i64 x59.2.1)], .vals (.int .i64 0) (x59.2.2.map (D.int .i64))]⟩ (by kernel_rfl) trivial ?_
    refine K_gh ⟨[(4, (.one (.own 1 0 x59.1)))], [.cells [.d (.list (p2.map (D.int .i64))), .d (.int .i64 x59.2.1)], .vals (.int .i64 0) (x59.2.2.map (D.int .i64))]⟩ (by kernel_rfl) ?_
    cases H
    refine K_ret ?_
    exact Eq.trans (b := some ((.one (.d (.list (((x59.2.2.map (D.int .i64)).drop 0).take x59.1)))), [.cells [.d (.list (p2.map (D.int .i64))), .d (.int .i64 x59.2.1)]])) (by kernel_rfl) (by simp only [dt_map])
def T_euclid_length (k : Nat) (p1 : List Int) : Option Unit := match k with
  | 0 => none
  | k + 1 => some ()
theorem T_euclid_length_ok (k : Nat) (p1 : List Int) (r : Unit) : T_euclid_length k p1 = some r → evF X k n_euclid_length [(.one (.d (.list (p1.map (D.int .i64)))))] [] = some ((B (decide (2 ≤ (p1.length : Int)) && decide ((p1.length : Int) ≤ 32))), []) := by
  intro H
  cases k with
  | zero => simp [T_euclid_length] at H
  | succ k =>
    simp only [T_euclid_length] at H
    refine F_in X_euclid_length rfl ?_
    refine K_seq ?_
    refine K_reg [] [] ⟨[(0, (.one (.d (.list (p1.map (D.int .i64))))))], []⟩ (by kernel_rfl) trivial ?_
    refine K_seq ?_
    refine K_reg [.n p1.length, .m, .n p1.length] [((p1.map (D.int .i64))).length = p1.length, decide (2 ≤ (p1.length : Int)) = true → AllT [((p1.map (D.int .i64))).length = p1.length], ([] : Heap) = []] ⟨[(2, (B (decide (2 ≤ (p1.length : Int)) && decide ((p1.length : Int) ≤ 32))))], []⟩ (by kernel_rfl) (AC (List.length_map _) (AC (fun _ => (A1 (List.length_map _))) (A1 rfl))) ?_
    refine K_gh ⟨[(2, (B (decide (2 ≤ (p1.length : Int)) && decide ((p1.length : Int) ≤ 32))))], []⟩ (by kernel_rfl) ?_
    cases H
    refine K_ret ?_
    kernel_rfl
def T_euclid_samples_l1 (k : Nat) (p1 : List Int) (x2 : Int) (x7 : Int) : Option (Int ⊕ (Unit ⊕ Unit)) :=
  (if x7 < x2 then ((at? p1 x7).bind fun x9 => (if (decide (x9 < (-1000)) || decide (1000 < x9)) = true then some (.inr (.inr ())) else some (.inl (w64 (x7 + 1))))) else some (.inr (.inl ())))
theorem T_euclid_samples_l1_ok (k : Nat) (p1 : List Int) (x2 : Int) : ∀ (x7 : Int) (x : Int ⊕ (Unit ⊕ Unit)), T_euclid_samples_l1 k p1 x2 x7 = some x → evC X (evF X k) k 0 l_euclid_samples_1 ⟨[(5, (.one (.d (.list (p1.map (D.int .i64)))))), (6, (I x2)), (7, (I x7))], []⟩ = some (outS (fun (s : Int) => ⟨[(5, (.one (.d (.list (p1.map (D.int .i64)))))), (6, (I x2)), (7, (I s))], []⟩) (fun (r : Unit ⊕ Unit) => Sum.elim (fun y => (.exit 0, ⟨[], []⟩)) (fun y => (.ret, ⟨[(2, (B false))], []⟩)) r) x) := by
  intro x7 x H
  unfold T_euclid_samples_l1 at H
  refine K_in ?_
  refine K_seq ?_
  refine K_reg [] [] ⟨[(5, (.one (.d (.list (p1.map (D.int .i64)))))), (6, (I x2)), (7, (I x7)), (8, (B (decide (x7 < x2))))], []⟩ (by kernel_rfl) trivial ?_
  refine K_seq ?_
  rcases ite_some H with ⟨hx8, H⟩ | ⟨hx8, H⟩
  · refine K_t rfl (decide_eq_true hx8) ?_
    refine K_gh ⟨[(5, (.one (.d (.list (p1.map (D.int .i64)))))), (6, (I x2)), (7, (I x7))], []⟩ (by kernel_rfl) ?_
    refine K_skip ?_
    refine K_seq ?_
    refine K_block ?_
    refine K_seq ?_
    obtain ⟨x9, hx9, H⟩ := bind_some' H
    refine K_reg [.l [.int .i64 x9]] [(0 : Int) ≤ x7 ∧ x7 < (((p1.map (D.int .i64))).length : Int), ((p1.map (D.int .i64)).getD x7.toNat (.int .i64 0)).cells = [.int .i64 x9]] ⟨[(4, (I x9)), (5, (.one (.d (.list (p1.map (D.int .i64)))))), (6, (I x2)), (7, (I x7))], []⟩ (by kernel_rfl) (AC (at_ok hx9 (D.int .i64) (.int .i64 0)).1 (A1 (at_ok hx9 (D.int .i64) (.int .i64 0)).2)) ?_
    refine K_seq ?_
    refine K_reg [.m] [([] : Heap) = []] ⟨[(5, (.one (.d (.list (p1.map (D.int .i64)))))), (6, (I x2)), (7, (I x7)), (16, (B (decide (x9 < (-1000)) || decide (1000 < x9))))], []⟩ (by kernel_rfl) (A1 rfl) ?_
    rcases ite_some H with ⟨hx10, H⟩ | ⟨hx10, H⟩
    · refine K_t rfl hx10 ?_
      refine K_seq ?_
      refine K_reg [] [] ⟨[(2, (B false))], []⟩ (by kernel_rfl) trivial ?_
      refine K_gh ⟨[(2, (B false))], []⟩ (by kernel_rfl) ?_
      cases H
      exact K_ret rfl
    · refine K_f rfl (Bool.eq_false_iff.2 hx10) ?_
      refine K_gh ⟨[(5, (.one (.d (.list (p1.map (D.int .i64)))))), (6, (I x2)), (7, (I x7))], []⟩ (by kernel_rfl) ?_
      refine K_skip ?_
      refine K_blk ?_
      refine K_reg [] [] ⟨[(5, (.one (.d (.list (p1.map (D.int .i64)))))), (6, (I x2)), (7, (I (w64 (x7 + 1))))], []⟩ (by kernel_rfl) trivial ?_
      cases H
      exact K_end rfl
  · refine K_f rfl (decide_eq_false hx8) ?_
    refine K_gh ⟨[], []⟩ (by kernel_rfl) ?_
    cases H
    exact K_exit0 rfl rfl
def T_euclid_samples (k : Nat) (p1 : List Int) : Option Bool := match k with
  | 0 => none
  | k + 1 => ((loopT (T_euclid_samples_l1 k p1 (p1.length : Int)) k 0).bind fun x11 => (match x11 with | .inl x12 => some true | .inr x13 => some false))
theorem T_euclid_samples_ok (k : Nat) (p1 : List Int) (r : Bool) : T_euclid_samples k p1 = some r → evF X k n_euclid_samples [(.one (.d (.list (p1.map (D.int .i64)))))] [] = some ((B r), []) := by
  intro H
  cases k with
  | zero => simp [T_euclid_samples] at H
  | succ k =>
    simp only [T_euclid_samples] at H
    refine F_in X_euclid_samples rfl ?_
    refine K_seq ?_
    refine K_reg [] [] ⟨[(0, (.one (.d (.list (p1.map (D.int .i64))))))], []⟩ (by kernel_rfl) trivial ?_
    refine K_seq ?_
    refine K_seq ?_
    refine K_reg [.n p1.length] [((p1.map (D.int .i64))).length = p1.length] ⟨[(5, (.one (.d (.list (p1.map (D.int .i64)))))), (6, (I (p1.length : Int))), (7, (I 0))], []⟩ (by kernel_rfl) (A1 (List.length_map _)) ?_
    refine K_block ?_
    obtain ⟨x11, hx11, H⟩ := bind_some' H
    cases x11 with
    | inl x12 =>
      dsimp only at H
      refine K_loop ⟨[], []⟩ (loop_ok (fun (s : Int) => ⟨[(5, (.one (.d (.list (p1.map (D.int .i64)))))), (6, (I (p1.length : Int))), (7, (I s))], []⟩) (fun (r : Unit ⊕ Unit) => Sum.elim (fun y => (.exit 0, ⟨[], []⟩)) (fun y => (.ret, ⟨[(2, (B false))], []⟩)) r) (fun r h => by cases r <;> cases h) (T_euclid_samples_l1_ok k p1 (p1.length : Int)) k 0 (.inl x12) hx11) rfl ?_
      refine K_seq ?_
      refine K_reg [] [] ⟨[(2, (B true))], []⟩ (by kernel_rfl) trivial ?_
      refine K_gh ⟨[(2, (B true))], []⟩ (by kernel_rfl) ?_
      cases H
      refine K_ret ?_
      kernel_rfl
    | inr x13 =>
      dsimp only at H
      cases H
      refine K_loopr ⟨[(2, (B false))], []⟩ (loop_ok (fun (s : Int) => ⟨[(5, (.one (.d (.list (p1.map (D.int .i64)))))), (6, (I (p1.length : Int))), (7, (I s))], []⟩) (fun (r : Unit ⊕ Unit) => Sum.elim (fun y => (.exit 0, ⟨[], []⟩)) (fun y => (.ret, ⟨[(2, (B false))], []⟩)) r) (fun r h => by cases r <;> cases h) (T_euclid_samples_l1_ok k p1 (p1.length : Int)) k 0 (.inr x13) hx11) ?_
      kernel_rfl
def T_euclid_check (k : Nat) (p1 : List Int) (p2 : List Int) : Option Int := match k with
  | 0 => none
  | k + 1 => ((((T_euclid_length k p1).bind fun x1 => (if (!(decide (2 ≤ (p1.length : Int)) && decide ((p1.length : Int) ≤ 32))) = true then some true else ((T_euclid_length k p2).bind fun x4 => some (!(decide (2 ≤ (p2.length : Int)) && decide ((p2.length : Int) ≤ 32))))))).bind fun x5 => (if x5 = true then some 8 else ((((T_euclid_samples k p1).bind fun x7 => (if (!x7) = true then some true else ((T_euclid_samples k p2).bind fun x10 => some (!x10))))).bind fun x11 => (if x11 = true then some 12 else (if (!decide ((p1.length : Int) = (p2.length : Int))) = true then some 8 else some 0)))))
theorem T_euclid_check_ok (k : Nat) (p1 : List Int) (p2 : List Int) (r : Int) : T_euclid_check k p1 p2 = some r → evF X k n_euclid_check [(.one (.d (.list (p1.map (D.int .i64))))), (.one (.d (.list (p2.map (D.int .i64)))))] [] = some ((I r), []) := by
  intro H
  cases k with
  | zero => simp [T_euclid_check] at H
  | succ k =>
    simp only [T_euclid_check] at H
    refine F_in X_euclid_check rfl ?_
    refine K_seq ?_
    refine K_reg [] [] ⟨[(0, (.one (.d (.list (p1.map (D.int .i64)))))), (1, (.one (.d (.list (p2.map (D.int .i64))))))], []⟩ (by kernel_rfl) trivial ?_
    refine K_seq ?_
    refine K_block ?_
    refine K_seq ?_
    obtain ⟨x5, hx5, H⟩ := bind_some' H
    refine K_of ⟨[(0, (.one (.d (.list (p1.map (D.int .i64)))))), (1, (.one (.d (.list (p2.map (D.int .i64)))))), (5, (B x5))], []⟩ ?_ ?_
    · clear H; have H := hx5; clear hx5; refine K_in ?_
      obtain ⟨x1, hx1, H⟩ := bind_some' H
      rcases ite_some H with ⟨hx3, H⟩ | ⟨hx3, H⟩
      · refine K_reg [.r (B (decide (2 ≤ (p1.length : Int)) && decide ((p1.length : Int) ≤ 32))) [], .b true] [evF X k n_euclid_length [(.one (.d (.list (p1.map (D.int .i64)))))] [] = some ((B (decide (2 ≤ (p1.length : Int)) && decide ((p1.length : Int) ≤ 32))), []), (!(decide (2 ≤ (p1.length : Int)) && decide ((p1.length : Int) ≤ 32))) = true] ⟨[(0, (.one (.d (.list (p1.map (D.int .i64)))))), (1, (.one (.d (.list (p2.map (D.int .i64)))))), (5, (B true))], []⟩ (by kernel_rfl) (AC (T_euclid_length_ok k p1 x1 hx1) (A1 hx3)) ?_
        cases H
        exact K_end rfl
      · obtain ⟨x4, hx4, H⟩ := bind_some' H
        refine K_reg [.r (B (decide (2 ≤ (p1.length : Int)) && decide ((p1.length : Int) ≤ 32))) [], .b false, .r (B (decide (2 ≤ (p2.length : Int)) && decide ((p2.length : Int) ≤ 32))) []] [evF X k n_euclid_length [(.one (.d (.list (p1.map (D.int .i64)))))] [] = some ((B (decide (2 ≤ (p1.length : Int)) && decide ((p1.length : Int) ≤ 32))), []), (!(decide (2 ≤ (p1.length : Int)) && decide ((p1.length : Int) ≤ 32))) = false, evF X k n_euclid_length [(.one (.d (.list (p2.map (D.int .i64)))))] [] = some ((B (decide (2 ≤ (p2.length : Int)) && decide ((p2.length : Int) ≤ 32))), [])] ⟨[(0, (.one (.d (.list (p1.map (D.int .i64)))))), (1, (.one (.d (.list (p2.map (D.int .i64)))))), (5, (B (!(decide (2 ≤ (p2.length : Int)) && decide ((p2.length : Int) ≤ 32)))))], []⟩ (by kernel_rfl) (AC (T_euclid_length_ok k p1 x1 hx1) (AC (Bool.eq_false_iff.2 hx3) (A1 (T_euclid_length_ok k p2 x4 hx4)))) ?_
        cases H
        exact K_end rfl
    rcases ite_some H with ⟨hx6, H⟩ | ⟨hx6, H⟩
    · refine K_t rfl hx6 ?_
      refine K_seq ?_
      refine K_reg [] [] ⟨[(4, (I 8))], []⟩ (by kernel_rfl) trivial ?_
      refine K_gh ⟨[(4, (I 8))], []⟩ (by kernel_rfl) ?_
      cases H
      refine K_ret ?_
      kernel_rfl
    · refine K_f rfl (Bool.eq_false_iff.2 hx6) ?_
      refine K_seq ?_
      obtain ⟨x11, hx11, H⟩ := bind_some' H
      refine K_of ⟨[(0, (.one (.d (.list (p1.map (D.int .i64)))))), (1, (.one (.d (.list (p2.map (D.int .i64)))))), (14, (B x11))], []⟩ ?_ ?_
      · clear H; have H := hx11; clear hx11; refine K_in ?_
        obtain ⟨x7, hx7, H⟩ := bind_some' H
        rcases ite_some H with ⟨hx9, H⟩ | ⟨hx9, H⟩
        · refine K_reg [.r (B x7) [], .b true] [evF X k n_euclid_samples [(.one (.d (.list (p1.map (D.int .i64)))))] [] = some ((B x7), []), (!x7) = true] ⟨[(0, (.one (.d (.list (p1.map (D.int .i64)))))), (1, (.one (.d (.list (p2.map (D.int .i64)))))), (14, (B true))], []⟩ (by kernel_rfl) (AC (T_euclid_samples_ok k p1 x7 hx7) (A1 hx9)) ?_
          cases H
          exact K_end rfl
        · obtain ⟨x10, hx10, H⟩ := bind_some' H
          refine K_reg [.r (B x7) [], .b false, .r (B x10) []] [evF X k n_euclid_samples [(.one (.d (.list (p1.map (D.int .i64)))))] [] = some ((B x7), []), (!x7) = false, evF X k n_euclid_samples [(.one (.d (.list (p2.map (D.int .i64)))))] [] = some ((B x10), [])] ⟨[(0, (.one (.d (.list (p1.map (D.int .i64)))))), (1, (.one (.d (.list (p2.map (D.int .i64)))))), (14, (B (!x10)))], []⟩ (by kernel_rfl) (AC (T_euclid_samples_ok k p1 x7 hx7) (AC (Bool.eq_false_iff.2 hx9) (A1 (T_euclid_samples_ok k p2 x10 hx10)))) ?_
          cases H
          exact K_end rfl
      rcases ite_some H with ⟨hx12, H⟩ | ⟨hx12, H⟩
      · refine K_t rfl hx12 ?_
        refine K_seq ?_
        refine K_reg [] [] ⟨[(4, (I 12))], []⟩ (by kernel_rfl) trivial ?_
        refine K_gh ⟨[(4, (I 12))], []⟩ (by kernel_rfl) ?_
        cases H
        refine K_ret ?_
        kernel_rfl
      · refine K_f rfl (Bool.eq_false_iff.2 hx12) ?_
        refine K_seq ?_
        refine K_reg [.n p1.length, .n p2.length] [((p1.map (D.int .i64))).length = p1.length, ((p2.map (D.int .i64))).length = p2.length] ⟨[(23, (B (!decide ((p1.length : Int) = (p2.length : Int)))))], []⟩ (by kernel_rfl) (AC (List.length_map _) (A1 (List.length_map _))) ?_
        rcases ite_some H with ⟨hx13, H⟩ | ⟨hx13, H⟩
        · refine K_t rfl hx13 ?_
          refine K_seq ?_
          refine K_reg [] [] ⟨[(4, (I 8))], []⟩ (by kernel_rfl) trivial ?_
          refine K_gh ⟨[(4, (I 8))], []⟩ (by kernel_rfl) ?_
          cases H
          refine K_ret ?_
          kernel_rfl
        · refine K_f rfl (Bool.eq_false_iff.2 hx13) ?_
          refine K_gh ⟨[], []⟩ (by kernel_rfl) ?_
          refine K_skip ?_
          refine K_blk ?_
          refine K_seq ?_
          refine K_reg [] [] ⟨[(4, (I 0))], []⟩ (by kernel_rfl) trivial ?_
          refine K_gh ⟨[(4, (I 0))], []⟩ (by kernel_rfl) ?_
          cases H
          refine K_ret ?_
          kernel_rfl
def T_euclid_square_l1 (k : Nat) (p1 : List Int) (p2 : List Int) (x4 : Int) (x9 : Int × Int) : Option ((Int × Int) ⊕ Int) :=
  (if x9.2 < x4 then ((at? p1 x9.2).bind fun x11 => (at? p2 x9.2).bind fun x12 => some (.inl ((w64 (x9.1 + (w64 ((w64 (x11 - x12)) * (w64 (x11 - x12)))))), (w64 (x9.2 + 1))))) else some (.inr x9.1))
theorem T_euclid_square_l1_ok (k : Nat) (p1 : List Int) (p2 : List Int) (x4 : Int) : ∀ (x9 : Int × Int) (x : (Int × Int) ⊕ Int), T_euclid_square_l1 k p1 p2 x4 x9 = some x → evC X (evF X k) k 0 l_euclid_square_1 ⟨[(1, (.one (.d (.list (p2.map (D.int .i64)))))), (5, (I x9.1)), (8, (.one (.d (.list (p1.map (D.int .i64)))))), (9, (I x4)), (10, (I x9.2))], []⟩ = some (outS (fun (s : Int × Int) => ⟨[(1, (.one (.d (.list (p2.map (D.int .i64)))))), (5, (I s.1)), (8, (.one (.d (.list (p1.map (D.int .i64)))))), (9, (I x4)), (10, (I s.2))], []⟩) (fun (r : Int) => (.exit 0, ⟨[(5, (I r))], []⟩)) x) := by
  intro x9 x H
  unfold T_euclid_square_l1 at H
  refine K_in ?_
  refine K_seq ?_
  refine K_reg [] [] ⟨[(1, (.one (.d (.list (p2.map (D.int .i64)))))), (5, (I x9.1)), (8, (.one (.d (.list (p1.map (D.int .i64)))))), (9, (I x4)), (10, (I x9.2)), (11, (B (decide (x9.2 < x4))))], []⟩ (by kernel_rfl) trivial ?_
  refine K_seq ?_
  rcases ite_some H with ⟨hx10, H⟩ | ⟨hx10, H⟩
  · refine K_t rfl (decide_eq_true hx10) ?_
    refine K_gh ⟨[(1, (.one (.d (.list (p2.map (D.int .i64)))))), (5, (I x9.1)), (8, (.one (.d (.list (p1.map (D.int .i64)))))), (9, (I x4)), (10, (I x9.2))], []⟩ (by kernel_rfl) ?_
    refine K_skip ?_
    refine K_seq ?_
    refine K_block ?_
    refine K_seq ?_
    obtain ⟨x11, hx11, H⟩ := bind_some' H
    refine K_reg [.l [.int .i64 x11]] [(0 : Int) ≤ x9.2 ∧ x9.2 < (((p1.map (D.int .i64))).length : Int), ((p1.map (D.int .i64)).getD x9.2.toNat (.int .i64 0)).cells = [.int .i64 x11]] ⟨[(1, (.one (.d (.list (p2.map (D.int .i64)))))), (5, (I x9.1)), (6, (I x9.2)), (7, (I x11)), (8, (.one (.d (.list (p1.map (D.int .i64)))))), (9, (I x4)), (10, (I x9.2))], []⟩ (by kernel_rfl) (AC (at_ok hx11 (D.int .i64) (.int .i64 0)).1 (A1 (at_ok hx11 (D.int .i64) (.int .i64 0)).2)) ?_
    obtain ⟨x12, hx12, H⟩ := bind_some' H
    refine K_reg [.l [.int .i64 x12], .l [.int .i64 x12]] [(0 : Int) ≤ x9.2 ∧ x9.2 < (((p2.map (D.int .i64))).length : Int), ((p2.map (D.int .i64)).getD x9.2.toNat (.int .i64 0)).cells = [.int .i64 x12], (0 : Int) ≤ x9.2 ∧ x9.2 < (((p2.map (D.int .i64))).length : Int), ((p2.map (D.int .i64)).getD x9.2.toNat (.int .i64 0)).cells = [.int .i64 x12]] ⟨[(1, (.one (.d (.list (p2.map (D.int .i64)))))), (5, (I (w64 (x9.1 + (w64 ((w64 (x11 - x12)) * (w64 (x11 - x12)))))))), (8, (.one (.d (.list (p1.map (D.int .i64)))))), (9, (I x4)), (10, (I x9.2))], []⟩ (by kernel_rfl) (AC (at_ok hx12 (D.int .i64) (.int .i64 0)).1 (AC (at_ok hx12 (D.int .i64) (.int .i64 0)).2 (AC (at_ok hx12 (D.int .i64) (.int .i64 0)).1 (A1 (at_ok hx12 (D.int .i64) (.int .i64 0)).2)))) ?_
    refine K_blk ?_
    refine K_reg [] [] ⟨[(1, (.one (.d (.list (p2.map (D.int .i64)))))), (5, (I (w64 (x9.1 + (w64 ((w64 (x11 - x12)) * (w64 (x11 - x12)))))))), (8, (.one (.d (.list (p1.map (D.int .i64)))))), (9, (I x4)), (10, (I (w64 (x9.2 + 1))))], []⟩ (by kernel_rfl) trivial ?_
    cases H
    exact K_end rfl
  · refine K_f rfl (decide_eq_false hx10) ?_
    refine K_gh ⟨[(5, (I x9.1))], []⟩ (by kernel_rfl) ?_
    cases H
    exact K_exit0 rfl rfl
def T_euclid_square (k : Nat) (p1 : List Int) (p2 : List Int) : Option Int := match k with
  | 0 => none
  | k + 1 => ((loopT (T_euclid_square_l1 k p1 p2 (p1.length : Int)) k (0, 0)).bind fun x13 => some x13)
theorem T_euclid_square_ok (k : Nat) (p1 : List Int) (p2 : List Int) (r : Int) : T_euclid_square k p1 p2 = some r → evF X k n_euclid_square [(.one (.d (.list (p1.map (D.int .i64))))), (.one (.d (.list (p2.map (D.int .i64)))))] [] = some ((I r), []) := by
  intro H
  cases k with
  | zero => simp [T_euclid_square] at H
  | succ k =>
    simp only [T_euclid_square] at H
    refine F_in X_euclid_square rfl ?_
    refine K_seq ?_
    refine K_reg [] [] ⟨[(0, (.one (.d (.list (p1.map (D.int .i64)))))), (1, (.one (.d (.list (p2.map (D.int .i64))))))], []⟩ (by kernel_rfl) trivial ?_
    refine K_seq ?_
    refine K_reg [] [] ⟨[(0, (.one (.d (.list (p1.map (D.int .i64)))))), (1, (.one (.d (.list (p2.map (D.int .i64)))))), (5, (I 0))], []⟩ (by kernel_rfl) trivial ?_
    refine K_seq ?_
    refine K_seq ?_
    refine K_reg [.n p1.length] [((p1.map (D.int .i64))).length = p1.length] ⟨[(1, (.one (.d (.list (p2.map (D.int .i64)))))), (5, (I 0)), (8, (.one (.d (.list (p1.map (D.int .i64)))))), (9, (I (p1.length : Int))), (10, (I 0))], []⟩ (by kernel_rfl) (A1 (List.length_map _)) ?_
    refine K_block ?_
    obtain ⟨x13, hx13, H⟩ := bind_some' H
    refine K_loop ⟨[(5, (I x13))], []⟩ (loop_ok (fun (s : Int × Int) => ⟨[(1, (.one (.d (.list (p2.map (D.int .i64)))))), (5, (I s.1)), (8, (.one (.d (.list (p1.map (D.int .i64)))))), (9, (I (p1.length : Int))), (10, (I s.2))], []⟩) (fun (r : Int) => (.exit 0, ⟨[(5, (I r))], []⟩)) (fun r h => by cases h) (T_euclid_square_l1_ok k p1 p2 (p1.length : Int)) k (0, 0) x13 hx13) rfl ?_
    refine K_seq ?_
    refine K_reg [] [] ⟨[(4, (I x13))], []⟩ (by kernel_rfl) trivial ?_
    refine K_gh ⟨[(4, (I x13))], []⟩ (by kernel_rfl) ?_
    cases H
    refine K_ret ?_
    kernel_rfl
def T_euclid_Distance (k : Nat) (p1 : List Int) (p2 : List Int) : Option (Int × Int) := match k with
  | 0 => none
  | k + 1 => ((T_euclid_check k p1 p2).bind fun x1 => (if (!decide (x1 = 0)) = true then some (0, x1) else ((T_euclid_square k p1 p2).bind fun x3 => some (x3, 0))))
theorem T_euclid_Distance_ok (k : Nat) (p1 : List Int) (p2 : List Int) (r : Int × Int) : T_euclid_Distance k p1 p2 = some r → evF X k n_euclid_Distance [(.one (.d (.list (p1.map (D.int .i64))))), (.one (.d (.list (p2.map (D.int .i64)))))] [] = some ((.tup [(false, [.d (.int .i64 r.1)]), (false, [.d (.int .i64 r.2)])]), []) := by
  intro H
  cases k with
  | zero => simp [T_euclid_Distance] at H
  | succ k =>
    simp only [T_euclid_Distance] at H
    refine F_in X_euclid_Distance rfl ?_
    refine K_seq ?_
    refine K_reg [] [] ⟨[(0, (.one (.d (.list (p1.map (D.int .i64)))))), (1, (.one (.d (.list (p2.map (D.int .i64))))))], []⟩ (by kernel_rfl) trivial ?_
    refine K_seq ?_
    refine K_seq ?_
    obtain ⟨x1, hx1, H⟩ := bind_some' H
    refine K_reg [.r (I x1) []] [evF X k n_euclid_check [(.one (.d (.list (p1.map (D.int .i64))))), (.one (.d (.list (p2.map (D.int .i64)))))] [] = some ((I x1), [])] ⟨[(0, (.one (.d (.list (p1.map (D.int .i64)))))), (1, (.one (.d (.list (p2.map (D.int .i64)))))), (6, (I x1))], []⟩ (by kernel_rfl) (A1 (T_euclid_check_ok k p1 p2 x1 hx1)) ?_
    refine K_seq ?_
    refine K_reg [] [] ⟨[(0, (.one (.d (.list (p1.map (D.int .i64)))))), (1, (.one (.d (.list (p2.map (D.int .i64)))))), (6, (I x1)), (11, (B (!decide (x1 = 0))))], []⟩ (by kernel_rfl) trivial ?_
    rcases ite_some H with ⟨hx2, H⟩ | ⟨hx2, H⟩
    · refine K_t rfl hx2 ?_
      refine K_seq ?_
      refine K_reg [] [] ⟨[(4, (I 0)), (5, (I x1))], []⟩ (by kernel_rfl) trivial ?_
      refine K_gh ⟨[(4, (I 0)), (5, (I x1))], []⟩ (by kernel_rfl) ?_
      cases H
      refine K_ret ?_
      kernel_rfl
    · refine K_f rfl (Bool.eq_false_iff.2 hx2) ?_
      refine K_gh ⟨[(0, (.one (.d (.list (p1.map (D.int .i64)))))), (1, (.one (.d (.list (p2.map (D.int .i64))))))], []⟩ (by kernel_rfl) ?_
      refine K_skip ?_
      refine K_seq ?_
      obtain ⟨x3, hx3, H⟩ := bind_some' H
      refine K_reg [.r (I x3) []] [evF X k n_euclid_square [(.one (.d (.list (p1.map (D.int .i64))))), (.one (.d (.list (p2.map (D.int .i64)))))] [] = some ((I x3), [])] ⟨[(4, (I x3)), (5, (I 0))], []⟩ (by kernel_rfl) (A1 (T_euclid_square_ok k p1 p2 x3 hx3)) ?_
      refine K_gh ⟨[(4, (I x3)), (5, (I 0))], []⟩ (by kernel_rfl) ?_
      cases H
      refine K_ret ?_
      kernel_rfl
def T_pieces_number (k : Nat) (p1 : Int) (p2 : Int) : Option Unit := match k with
  | 0 => none
  | k + 1 => some ()
theorem T_pieces_number_ok (k : Nat) (p1 : Int) (p2 : Int) (r : Unit) : T_pieces_number k p1 p2 = some r → evF X k n_pieces_number [(I p1), (I p2)] [] = some ((B ((decide (1 ≤ p2) && decide (p2 ≤ 8)) && decide (p2 ≤ p1))), []) := by
  intro H
  cases k with
  | zero => simp [T_pieces_number] at H
  | succ k =>
    simp only [T_pieces_number] at H
    refine F_in X_pieces_number rfl ?_
    refine K_seq ?_
    refine K_reg [] [] ⟨[(0, (I p1)), (1, (I p2))], []⟩ (by kernel_rfl) trivial ?_
    refine K_seq ?_
    refine K_reg [.m, .m] [([] : Heap) = [], ([] : Heap) = []] ⟨[(4, (B ((decide (1 ≤ p2) && decide (p2 ≤ 8)) && decide (p2 ≤ p1))))], []⟩ (by kernel_rfl) (AC rfl (A1 rfl)) ?_
    refine K_gh ⟨[(4, (B ((decide (1 ≤ p2) && decide (p2 ≤ 8)) && decide (p2 ≤ p1))))], []⟩ (by kernel_rfl) ?_
    cases H
    refine K_ret ?_
    kernel_rfl
def T_pieces_check (k : Nat) (p1 : List Int) (p2 : Int) : Option Int := match k with
  | 0 => none
  | k + 1 => ((T_euclid_Distance k p1 p1).bind fun x1 => (if (!decide (x1.2 = 0)) = true then some x1.2 else ((T_pieces_number k (p1.length : Int) p2).bind fun x3 => (if (!((decide (1 ≤ p2) && decide (p2 ≤ 8)) && decide (p2 ≤ (p1.length : Int)))) = true then some 1 else some 0))))
theorem T_pieces_check_ok (k : Nat) (p1 : List Int) (p2 : Int) (r : Int) : T_pieces_check k p1 p2 = some r → evF X k n_pieces_check [(.one (.d (.list (p1.map (D.int .i64))))), (I p2)] [] = some ((I r), []) := by
  intro H
  cases k with
  | zero => simp [T_pieces_check] at H
  | succ k =>
    simp only [T_pieces_check] at H
    refine F_in X_pieces_check rfl ?_
    refine K_seq ?_
    refine K_reg [] [] ⟨[(0, (.one (.d (.list (p1.map (D.int .i64)))))), (1, (I p2))], []⟩ (by kernel_rfl) trivial ?_
    refine K_seq ?_
    refine K_seq ?_
    obtain ⟨x1, hx1, H⟩ := bind_some' H
    refine K_reg [.r (.tup [(false, [.d (.int .i64 x1.1)]), (false, [.d (.int .i64 x1.2)])]) []] [evF X k n_euclid_Distance [(.one (.d (.list (p1.map (D.int .i64))))), (.one (.d (.list (p1.map (D.int .i64)))))] [] = some ((.tup [(false, [.d (.int .i64 x1.1)]), (false, [.d (.int .i64 x1.2)])]), [])] ⟨[(0, (.one (.d (.list (p1.map (D.int .i64)))))), (1, (I p2)), (6, (I x1.2))], []⟩ (by kernel_rfl) (A1 (T_euclid_Distance_ok k p1 p1 x1 hx1)) ?_
    refine K_seq ?_
    refine K_reg [] [] ⟨[(0, (.one (.d (.list (p1.map (D.int .i64)))))), (1, (I p2)), (6, (I x1.2)), (14, (B (!decide (x1.2 = 0))))], []⟩ (by kernel_rfl) trivial ?_
    rcases ite_some H with ⟨hx2, H⟩ | ⟨hx2, H⟩
    · refine K_t rfl hx2 ?_
      refine K_seq ?_
      refine K_reg [] [] ⟨[(4, (I x1.2))], []⟩ (by kernel_rfl) trivial ?_
      refine K_gh ⟨[(4, (I x1.2))], []⟩ (by kernel_rfl) ?_
      cases H
      refine K_ret ?_
      kernel_rfl
    · refine K_f rfl (Bool.eq_false_iff.2 hx2) ?_
      refine K_gh ⟨[(0, (.one (.d (.list (p1.map (D.int .i64)))))), (1, (I p2))], []⟩ (by kernel_rfl) ?_
      refine K_skip ?_
      refine K_seq ?_
      refine K_seq ?_
      obtain ⟨x3, hx3, H⟩ := bind_some' H
      refine K_reg [.n p1.length, .r (B ((decide (1 ≤ p2) && decide (p2 ≤ 8)) && decide (p2 ≤ (p1.length : Int)))) []] [((p1.map (D.int .i64))).length = p1.length, evF X k n_pieces_number [(I (p1.length : Int)), (I p2)] [] = some ((B ((decide (1 ≤ p2) && decide (p2 ≤ 8)) && decide (p2 ≤ (p1.length : Int)))), [])] ⟨[(20, (B (!((decide (1 ≤ p2) && decide (p2 ≤ 8)) && decide (p2 ≤ (p1.length : Int))))))], []⟩ (by kernel_rfl) (AC (List.length_map _) (A1 (T_pieces_number_ok k (p1.length : Int) p2 x3 hx3))) ?_
      rcases ite_some H with ⟨hx4, H⟩ | ⟨hx4, H⟩
      · refine K_t rfl hx4 ?_
        refine K_seq ?_
        refine K_reg [] [] ⟨[(4, (I 1))], []⟩ (by kernel_rfl) trivial ?_
        refine K_gh ⟨[(4, (I 1))], []⟩ (by kernel_rfl) ?_
        cases H
        refine K_ret ?_
        kernel_rfl
      · refine K_f rfl (Bool.eq_false_iff.2 hx4) ?_
        refine K_gh ⟨[], []⟩ (by kernel_rfl) ?_
        refine K_skip ?_
        refine K_seq ?_
        refine K_reg [] [] ⟨[(4, (I 0))], []⟩ (by kernel_rfl) trivial ?_
        refine K_gh ⟨[(4, (I 0))], []⟩ (by kernel_rfl) ?_
        cases H
        refine K_ret ?_
        kernel_rfl
def T_pieces_total_l1 (k : Nat) (p1 : List Int) (x3 : Int) (x7 : Int × Int) : Option ((Int × Int) ⊕ Int) :=
  (if x7.2 < x3 then ((at? p1 x7.2).bind fun x9 => some (.inl ((w64 (x7.1 + x9)), (w64 (x7.2 + 1))))) else some (.inr x7.1))
theorem T_pieces_total_l1_ok (k : Nat) (p1 : List Int) (x3 : Int) : ∀ (x7 : Int × Int) (x : (Int × Int) ⊕ Int), T_pieces_total_l1 k p1 x3 x7 = some x → evC X (evF X k) k 0 l_pieces_total_1 ⟨[(3, (I x7.1)), (6, (.one (.d (.list (p1.map (D.int .i64)))))), (7, (I x3)), (8, (I x7.2))], []⟩ = some (outS (fun (s : Int × Int) => ⟨[(3, (I s.1)), (6, (.one (.d (.list (p1.map (D.int .i64)))))), (7, (I x3)), (8, (I s.2))], []⟩) (fun (r : Int) => (.exit 0, ⟨[(3, (I r))], []⟩)) x) := by
  intro x7 x H
  unfold T_pieces_total_l1 at H
  refine K_in ?_
  refine K_seq ?_
  refine K_reg [] [] ⟨[(3, (I x7.1)), (6, (.one (.d (.list (p1.map (D.int .i64)))))), (7, (I x3)), (8, (I x7.2)), (9, (B (decide (x7.2 < x3))))], []⟩ (by kernel_rfl) trivial ?_
  refine K_seq ?_
  rcases ite_some H with ⟨hx8, H⟩ | ⟨hx8, H⟩
  · refine K_t rfl (decide_eq_true hx8) ?_
    refine K_gh ⟨[(3, (I x7.1)), (6, (.one (.d (.list (p1.map (D.int .i64)))))), (7, (I x3)), (8, (I x7.2))], []⟩ (by kernel_rfl) ?_
    refine K_skip ?_
    refine K_seq ?_
    refine K_block ?_
    refine K_seq ?_
    obtain ⟨x9, hx9, H⟩ := bind_some' H
    refine K_reg [.l [.int .i64 x9]] [(0 : Int) ≤ x7.2 ∧ x7.2 < (((p1.map (D.int .i64))).length : Int), ((p1.map (D.int .i64)).getD x7.2.toNat (.int .i64 0)).cells = [.int .i64 x9]] ⟨[(3, (I x7.1)), (5, (I x9)), (6, (.one (.d (.list (p1.map (D.int .i64)))))), (7, (I x3)), (8, (I x7.2))], []⟩ (by kernel_rfl) (AC (at_ok hx9 (D.int .i64) (.int .i64 0)).1 (A1 (at_ok hx9 (D.int .i64) (.int .i64 0)).2)) ?_
    refine K_reg [] [] ⟨[(3, (I (w64 (x7.1 + x9)))), (6, (.one (.d (.list (p1.map (D.int .i64)))))), (7, (I x3)), (8, (I x7.2))], []⟩ (by kernel_rfl) trivial ?_
    refine K_blk ?_
    refine K_reg [] [] ⟨[(3, (I (w64 (x7.1 + x9)))), (6, (.one (.d (.list (p1.map (D.int .i64)))))), (7, (I x3)), (8, (I (w64 (x7.2 + 1))))], []⟩ (by kernel_rfl) trivial ?_
    cases H
    exact K_end rfl
  · refine K_f rfl (decide_eq_false hx8) ?_
    refine K_gh ⟨[(3, (I x7.1))], []⟩ (by kernel_rfl) ?_
    cases H
    exact K_exit0 rfl rfl
def T_pieces_total (k : Nat) (p1 : List Int) : Option Int := match k with
  | 0 => none
  | k + 1 => ((loopT (T_pieces_total_l1 k p1 (p1.length : Int)) k (0, 0)).bind fun x10 => some x10)
theorem T_pieces_total_ok (k : Nat) (p1 : List Int) (r : Int) : T_pieces_total k p1 = some r → evF X k n_pieces_total [(.one (.d (.list (p1.map (D.int .i64)))))] [] = some ((I r), []) := by
  intro H
  cases k with
  | zero => simp [T_pieces_total] at H
  | succ k =>
    simp only [T_pieces_total] at H
    refine F_in X_pieces_total rfl ?_
    refine K_seq ?_
    refine K_reg [] [] ⟨[(0, (.one (.d (.list (p1.map (D.int .i64))))))], []⟩ (by kernel_rfl) trivial ?_
    refine K_seq ?_
    refine K_reg [] [] ⟨[(0, (.one (.d (.list (p1.map (D.int .i64)))))), (3, (I 0))], []⟩ (by kernel_rfl) trivial ?_
    refine K_seq ?_
    refine K_seq ?_
    refine K_reg [.n p1.length] [((p1.map (D.int .i64))).length = p1.length] ⟨[(3, (I 0)), (6, (.one (.d (.list (p1.map (D.int .i64)))))), (7, (I (p1.length : Int))), (8, (I 0))], []⟩ (by kernel_rfl) (A1 (List.length_map _)) ?_
    refine K_block ?_
    obtain ⟨x10, hx10, H⟩ := bind_some' H
    refine K_loop ⟨[(3, (I x10))], []⟩ (loop_ok (fun (s : Int × Int) => ⟨[(3, (I s.1)), (6, (.one (.d (.list (p1.map (D.int .i64)))))), (7, (I (p1.length : Int))), (8, (I s.2))], []⟩) (fun (r : Int) => (.exit 0, ⟨[(3, (I r))], []⟩)) (fun r h => by cases h) (T_pieces_total_l1_ok k p1 (p1.length : Int)) k (0, 0) x10 hx10) rfl ?_
    refine K_seq ?_
    refine K_reg [] [] ⟨[(2, (I x10))], []⟩ (by kernel_rfl) trivial ?_
    refine K_gh ⟨[(2, (I x10))], []⟩ (by kernel_rfl) ?_
    cases H
    refine K_ret ?_
    kernel_rfl
def T_pieces_all (k : Nat) (p1 : Int) (p2 : Int) : Option Unit := match k with
  | 0 => none
  | k + 1 => some ()
theorem T_pieces_all_ok (k : Nat) (p1 : Int) (p2 : Int) (r : Unit) : T_pieces_all k p1 p2 = some r → evF X k n_pieces_all [(I p1), (I p2)] [] = some ((.one (.d (.fn (.func n_pieces_all_1) [.ref [.int .i64 p2], .ref [.int .i64 p1]]))), []) := by
  intro H
  cases k with
  | zero => simp [T_pieces_all] at H
  | succ k =>
    simp only [T_pieces_all] at H
    refine F_in X_pieces_all rfl ?_
    refine K_seq ?_
    refine K_reg [] [] ⟨[(2, (.one (.ptr 0 0 0))), (3, (.one (.ptr 1 0 0)))], [.cells [.d (.int .i64 p1)], .cells [.d (.int .i64 p2)]]⟩ (by kernel_rfl) trivial ?_
    refine K_seq ?_
    refine K_reg [] [] ⟨[(4, (.one (.fn (.func n_pieces_all_1) [.d (.ref [.int .i64 p2]), .d (.ref [.int .i64 p1])])))], []⟩ (by kernel_rfl) trivial ?_
    refine K_gh ⟨[(4, (.one (.fn (.func n_pieces_all_1) [.d (.ref [.int .i64 p2]), .d (.ref [.int .i64 p1])])))], []⟩ (by kernel_rfl) ?_
    cases H
    refine K_ret ?_
    kernel_rfl
def T_pieces_Centred_r1 (k : Nat) (p1 : List Int) (p2 : Int) (x3 : Int) (x8 : Int) (x11 : Nat) (x13 x14 x15 : Int) (x19 : (List Int)) : Option (((List Int)) ⊕ Unit) :=
  (if (0 : Int) ≤ x14 ∧ x14 ≤ x15 ∧ x15 ≤ (p1.length : Int) ∧ (p1.length : Int) ≤ (p1.length : Int) then (T_pieces_total k ((p1.drop x14.toNat).take (x15.toNat - x14.toNat))).bind fun x21 => (if (0 : Int) ≤ x13 ∧ x13 < ((x11 : Nat) : Int) then some (.inl (x19.set (0 + x13.toNat) (w64 ((w64 ((p1.length : Int) * x21)) - (w64 ((w64 (x15 - x14)) * x3)))))) else none) else none)
theorem T_pieces_Centred_r1_ok (k : Nat) (p1 : List Int) (p2 : Int) (x3 : Int) (x8 : Int) (x11 : Nat) : ∀ (x13 x14 x15 : Int) (x19 : (List Int)) (x : ((List Int)) ⊕ Unit), T_pieces_Centred_r1 k p1 p2 x3 x8 x11 x13 x14 x15 x19 = some x → roundM (fun b' => evC X (evF X k) k b' l_pieces_Centred_r1a) (fun b' => evC X (evF X k) k b' l_pieces_Centred_r1b) 0 [25, 26] [.gc] [I x13, .agg [.d (.int .i64 x14), .d (.int .i64 x15)]] (.normal, ⟨[(2, (.one (.ptr 0 0 0))), (4, (.one (.nil))), (5, (I 0)), (7, (.one (.ptr 1 0 0))), (8, (.one (.ptr 2 0 0))), (24, (.one (.d (.fn (.func n_pieces_all_1) [.ref [.int .i64 p2], .ref [.int .i64 x8]]))))], [.cells [.d (.list (p1.map (D.int .i64)))], .cells [.d (.int .i64 x3)], .cells [.own 3 0 x11], .vals (.int .i64 0) (x19.map (D.int .i64))]⟩) = some (Sum.elim (fun (s : (List Int)) => (true, (.normal, ⟨[(2, (.one (.ptr 0 0 0))), (4, (.one (.nil))), (5, (I 0)), (7, (.one (.ptr 1 0 0))), (8, (.one (.ptr 2 0 0))), (24, (.one (.d (.fn (.func n_pieces_all_1) [.ref [.int .i64 p2], .ref [.int .i64 x8]]))))], [.cells [.d (.list (p1.map (D.int .i64)))], .cells [.d (.int .i64 x3)], .cells [.own 3 0 x11], .vals (.int .i64 0) (s.map (D.int .i64))]⟩))) (fun (r : Unit) => (false, (.ret, ⟨[], []⟩))) x) := by
  intro x13 x14 x15 x19 x H
  unfold T_pieces_Centred_r1 at H
  refine R_as rfl ?_
  refine K_seq ?_
  refine K_reg [] [] ⟨[(2, (.one (.ptr 0 0 0))), (7, (.one (.ptr 1 0 0))), (8, (.one (.ptr 2 0 0))), (9, (I x13)), (26, (.agg [.d (.int .i64 x14), .d (.int .i64 x15)]))], [.cells [.d (.list (p1.map (D.int .i64)))], .cells [.d (.int .i64 x3)], .cells [.own 3 0 x11], .vals (.int .i64 0) (x19.map (D.int .i64))]⟩ (by kernel_rfl) trivial ?_
  refine K_reg [] [] ⟨[(2, (.one (.ptr 0 0 0))), (7, (.one (.ptr 1 0 0))), (8, (.one (.ptr 2 0 0))), (9, (I x13)), (10, (.one (.ptr 4 0 0)))], [.cells [.d (.list (p1.map (D.int .i64)))], .cells [.d (.int .i64 x3)], .cells [.own 3 0 x11], .vals (.int .i64 0) (x19.map (D.int .i64)), .cells [.d (.int .i64 x14), .d (.int .i64 x15)]]⟩ (by kernel_rfl) trivial ?_
  refine K_end (R_body ?_)
  refine K_block ?_
  obtain ⟨hx20, H⟩ := guard_some H
  obtain ⟨x21, hx21, H⟩ := bind_some' H
  obtain ⟨hx22, H⟩ := guard_some H
  refine K_reg [.n p1.length, .l (((p1.drop x14.toNat).take (x15.toNat - x14.toNat)).map (D.int .i64)), .r (I x21) [], .l ((x19.set (0 + x13.toNat) (w64 ((w64 ((p1.length : Int) * x21)) - (w64 ((w64 (x15 - x14)) * x3))))).map (D.int .i64))] [((p1.map (D.int .i64))).length = p1.length, ((p1.map (D.int .i64)).all fun d => d.cells.length == 1) = true, (0 : Int) ≤ x14 ∧ x14 ≤ x15 ∧ x15 ≤ (((p1.map (D.int .i64))).length : Int) ∧ (((p1.map (D.int .i64))).length : Int) ≤ (((p1.map (D.int .i64))).length : Int), ((p1.map (D.int .i64)).drop (x14 : Int).toNat).take ((x15 : Int).toNat - (x14 : Int).toNat) = ((p1.drop x14.toNat).take (x15.toNat - x14.toNat)).map (D.int .i64), evF X k n_pieces_total [(.one (.d (.list (((p1.drop x14.toNat).take (x15.toNat - x14.toNat)).map (D.int .i64)))))] [] = some ((I x21), []), (0 : Int) ≤ x13 ∧ x13 < ((x11 : Nat) : Int), (x19.map (D.int .i64)).set (0 + x13.toNat) (elemOf (.int .i64 0) (splice ((x19.map (D.int .i64)).getD (0 + x13.toNat) (.int .i64 0)).cells 0 [.int .i64 (w64 ((w64 ((p1.length : Int) * x21)) - (w64 ((w64 (x15 - x14)) * x3))))])) = (x19.set (0 + x13.toNat) (w64 ((w64 ((p1.length : Int) * x21)) - (w64 ((w64 (x15 - x14)) * x3))))).map (D.int .i64)] ⟨[], [.cells [.d (.list (p1.map (D.int .i64)))], .cells [.d (.int .i64 x3)], .cells [.own 3 0 x11], .vals (.int .i64 0) ((x19.set (0 + x13.toNat) (w64 ((w64 ((p1.length : Int) * x21)) - (w64 ((w64 (x15 - x14)) * x3))))).map (D.int .i64)), .cells [.d (.int .i64 x14), .d (.int .i64 x15)]]⟩ (by kernel_rfl) (AC (List.length_map _) (AC (all_ok (D.int .i64) 1 p1 (fun _ => rfl)) (AC (by simpa using hx20) (AC (dt_map _ _ _ _) (AC (T_pieces_total_ok k ((p1.drop x14.toNat).take (x15.toNat - x14.toNat)) x21 hx21) (AC hx22 (A1 (st_one x19 (0 + x13.toNat) (w64 ((w64 ((p1.length : Int) * x21)) - (w64 ((w64 (x15 - x14)) * x3)))) (D.int .i64) (.int .i64 0) rfl (fun _ => rfl) rfl)))))))) ?_
  refine K_blk ?_
  cases H
  exact K_end (R_end ⟨[(2, (.one (.ptr 0 0 0))), (4, (.one (.nil))), (5, (I 0)), (7, (.one (.ptr 1 0 0))), (8, (.one (.ptr 2 0 0))), (24, (.one (.d (.fn (.func n_pieces_all_1) [.ref [.int .i64 p2], .ref [.int .i64 x8]]))))], [.cells [.d (.list (p1.map (D.int .i64)))], .cells [.d (.int .i64 x3)], .cells [.own 3 0 x11], .vals (.int .i64 0) ((x19.set (0 + x13.toNat) (w64 ((w64 ((p1.length : Int) * x21)) - (w64 ((w64 (x15 - x14)) * x3))))).map (D.int .i64))]⟩ (by kernel_rfl) rfl)
def T_pieces_Centred (k : Nat) (p1 : List Int) (p2 : Int) : Option ((List Int) × Int) := match k with
  | 0 => none
  | k + 1 => ((T_pieces_check k p1 p2).bind fun x1 => (if (!decide (x1 = 0)) = true then some ([], x1) else (T_pieces_total k p1).bind fun x3 => (if (0 : Int) ≤ p2 ∧ p2 ≤ p2 ∧ p2 ≤ (LIM : Int) then (T_pieces_all k (p1.length : Int) p2).bind fun x5 => (allT (T_pieces_Centred_r1 k p1 p2 x3 (p1.length : Int) p2.toNat) (p1.length : Int) p2 k 0 (List.replicate p2.toNat (0 : Int))).bind fun x23 => (match x23 with | .inl x24 => some (((x24.drop 0).take p2.toNat), 0) | .inr _ => none) else none)))
theorem T_pieces_Centred_ok (k : Nat) (p1 : List Int) (p2 : Int) (r : (List Int) × Int) : T_pieces_Centred k p1 p2 = some r → evF X k n_pieces_Centred [(.one (.d (.list (p1.map (D.int .i64))))), (I p2)] [] = some ((.tup [(false, [.d (.list (r.1.map (D.int .i64)))]), (false, [.d (.int .i64 r.2)])]), []) := by
  intro H
  cases k with
  | zero => simp [T_pieces_Centred] at H
  | succ k =>
    simp only [T_pieces_Centred] at H
    refine F_in X_pieces_Centred rfl ?_
    refine K_seq ?_
    refine K_reg [] [] ⟨[(1, (I p2)), (2, (.one (.ptr 0 0 0))), (4, (.one (.nil))), (5, (I 0))], [.cells [.d (.list (p1.map (D.int .i64)))]]⟩ (by kernel_rfl) trivial ?_
    refine K_seq ?_
    refine K_seq ?_
    obtain ⟨x1, hx1, H⟩ := bind_some' H
    refine K_reg [.r (I x1) []] [evF X k n_pieces_check [(.one (.d (.list (p1.map (D.int .i64))))), (I p2)] [] = some ((I x1), [])] ⟨[(1, (I p2)), (2, (.one (.ptr 0 0 0))), (4, (.one (.nil))), (5, (I 0)), (6, (I x1))], [.cells [.d (.list (p1.map (D.int .i64)))]]⟩ (by kernel_rfl) (A1 (T_pieces_check_ok k p1 p2 x1 hx1)) ?_
    refine K_seq ?_
    refine K_reg [] [] ⟨[(1, (I p2)), (2, (.one (.ptr 0 0 0))), (4, (.one (.nil))), (5, (I 0)), (6, (I x1)), (15, (B (!decide (x1 = 0))))], [.cells [.d (.list (p1.map (D.int .i64)))]]⟩ (by kernel_rfl) trivial ?_
    rcases ite_some H with ⟨hx2, H⟩ | ⟨hx2, H⟩
    · refine K_t rfl hx2 ?_
      refine K_seq ?_
      refine K_reg [] [] ⟨[(4, (.one (.nil))), (5, (I x1))], []⟩ (by kernel_rfl) trivial ?_
      refine K_gh ⟨[(4, (.one (.nil))), (5, (I x1))], []⟩ (by kernel_rfl) ?_
      cases H
      refine K_ret ?_
      kernel_rfl
    · refine K_f rfl (Bool.eq_false_iff.2 hx2) ?_
      refine K_gh ⟨[(1, (I p2)), (2, (.one (.ptr 0 0 0))), (4, (.one (.nil))), (5, (I 0))], [.cells [.d (.list (p1.map (D.int .i64)))]]⟩ (by kernel_rfl) ?_
      refine K_skip ?_
      refine K_seq ?_
      obtain ⟨x3, hx3, H⟩ := bind_some' H
      refine K_reg [.r (I x3) []] [evF X k n_pieces_total [(.one (.d (.list (p1.map (D.int .i64)))))] [] = some ((I x3), [])] ⟨[(1, (I p2)), (2, (.one (.ptr 0 0 0))), (4, (.one (.nil))), (5, (I 0)), (7, (.one (.ptr 1 0 0)))], [.cells [.d (.list (p1.map (D.int .i64)))], .cells [.d (.int .i64 x3)]]⟩ (by kernel_rfl) (A1 (T_pieces_total_ok k p1 x3 hx3)) ?_
      refine K_seq ?_
      obtain ⟨hx4, H⟩ := guard_some H
      refine K_reg [.l ((List.replicate p2.toNat (0 : Int)).map (D.int .i64))] [(0 : Int) ≤ p2 ∧ p2 ≤ p2 ∧ p2 ≤ (LIM : Int), List.replicate p2.toNat (.int .i64 0) = (List.replicate p2.toNat (0 : Int)).map (D.int .i64)] ⟨[(1, (I p2)), (2, (.one (.ptr 0 0 0))), (4, (.one (.nil))), (5, (I 0)), (7, (.one (.ptr 1 0 0))), (8, (.one (.ptr 2 0 0)))], [.cells [.d (.list (p1.map (D.int .i64)))], .cells [.d (.int .i64 x3)], .cells [.own 3 0 p2.toNat], .vals (.int .i64 0) ((List.replicate p2.toNat (0 : Int)).map (D.int .i64))]⟩ (by kernel_rfl) (AC hx4 (A1 (rep_map (D.int .i64) _ (0 : Int)))) ?_
      refine K_seq ?_
      refine K_seq ?_
      obtain ⟨x5, hx5, H⟩ := bind_some' H
      refine K_reg [.n p1.length, .r (.one (.d (.fn (.func n_pieces_all_1) [.ref [.int .i64 p2], .ref [.int .i64 (p1.length : Int)]]))) []] [((p1.map (D.int .i64))).length = p1.length, evF X k n_pieces_all [(I (p1.length : Int)), (I p2)] [] = some ((.one (.d (.fn (.func n_pieces_all_1) [.ref [.int .i64 p2], .ref [.int .i64 (p1.length : Int)]]))), [])] ⟨[(2, (.one (.ptr 0 0 0))), (4, (.one (.nil))), (5, (I 0)), (7, (.one (.ptr 1 0 0))), (8, (.one (.ptr 2 0 0))), (24, (.one (.d (.fn (.func n_pieces_all_1) [.ref [.int .i64 p2], .ref [.int .i64 (p1.length : Int)]]))))], [.cells [.d (.list (p1.map (D.int .i64)))], .cells [.d (.int .i64 x3)], .cells [.own 3 0 p2.toNat], .vals (.int .i64 0) ((List.replicate p2.toNat (0 : Int)).map (D.int .i64))]⟩ (by kernel_rfl) (AC (List.length_map _) (A1 (T_pieces_all_ok k (p1.length : Int) p2 x5 hx5))) ?_
      refine K_block ?_
      obtain ⟨x23, hx23, H⟩ := bind_some' H
      cases x23 with
      | inl x24 =>
        dsimp only at H
        refine K_of ⟨[(2, (.one (.ptr 0 0 0))), (4, (.one (.nil))), (5, (I 0)), (7, (.one (.ptr 1 0 0))), (8, (.one (.ptr 2 0 0))), (24, (.one (.d (.fn (.func n_pieces_all_1) [.ref [.int .i64 p2], .ref [.int .i64 (p1.length : Int)]]))))], [.cells [.d (.list (p1.map (D.int .i64)))], .cells [.d (.int .i64 x3)], .cells [.own 3 0 p2.toNat], .vals (.int .i64 0) (x24.map (D.int .i64))]⟩ (range_ok (fun (s : (List Int)) => ⟨[(2, (.one (.ptr 0 0 0))), (4, (.one (.nil))), (5, (I 0)), (7, (.one (.ptr 1 0 0))), (8, (.one (.ptr 2 0 0))), (24, (.one (.d (.fn (.func n_pieces_all_1) [.ref [.int .i64 p2], .ref [.int .i64 (p1.length : Int)]]))))], [.cells [.d (.list (p1.map (D.int .i64)))], .cells [.d (.int .i64 x3)], .cells [.own 3 0 p2.toNat], .vals (.int .i64 0) (s.map (D.int .i64))]⟩) (fun (r : Unit) => (.ret, ⟨[], []⟩)) (s := (List.replicate p2.toNat (0 : Int))) (y := (.inl x24)) rfl (X_pieces_all_1 : X n_pieces_all_1 = some allM) (T_pieces_Centred_r1_ok k p1 p2 x3 (p1.length : Int) p2.toNat) hx23) ?_
        refine K_blk ?_
        refine K_seq ?_
        refine K_reg [] [] ⟨[(4, (.one (.own 0 0 p2.toNat))), (5, (I 0))], [.vals (.int .i64 0) (x24.map (D.int .i64))]⟩ (by kernel_rfl) trivial ?_
        refine K_gh ⟨[(4, (.one (.own 0 0 p2.toNat))), (5, (I 0))], [.vals (.int .i64 0) (x24.map (D.int .i64))]⟩ (by kernel_rfl) ?_
        cases H
        refine K_ret ?_
        exact Eq.trans (b := some ((.tup [(false, [.d (.list (((x24.map (D.int .i64)).drop 0).take p2.toNat))]), (false, [.d (.int .i64 0)])]), [])) (by kernel_rfl) (by simp only [dt_map])
      | inr _ =>
        dsimp only at H
        cases H
def T_normal_product_l1 (k : Nat) (p1 : List Int) (p2 : List Int) (x7 : Int) (x12 : Int × Int × Int × Int) : Option ((Int × Int × Int × Int) ⊕ ((Int × Int × Int))) :=
  (if x12.2.2.2 < x7 then ((at? p1 x12.2.2.2).bind fun x14 => (at? p2 x12.2.2.2).bind fun x15 => some (.inl ((w64 (x12.1 + (w64 (x14 * x15)))), (w64 (x12.2.1 + x14)), (w64 (x12.2.2.1 + x15)), (w64 (x12.2.2.2 + 1))))) else some (.inr (x12.1, x12.2.1, x12.2.2.1)))
theorem T_normal_product_l1_ok (k : Nat) (p1 : List Int) (p2 : List Int) (x7 : Int) : ∀ (x12 : Int × Int × Int × Int) (x : (Int × Int × Int × Int) ⊕ ((Int × Int × Int))), T_normal_product_l1 k p1 p2 x7 x12 = some x → evC X (evF X k) k 0 l_normal_product_1 ⟨[(0, (.one (.d (.list (p1.map (D.int .i64)))))), (1, (.one (.d (.list (p2.map (D.int .i64)))))), (5, (I x12.1)), (6, (I x12.2.1)), (7, (I x12.2.2.1)), (10, (.one (.d (.list (p1.map (D.int .i64)))))), (11, (I x7)), (12, (I x12.2.2.2))], []⟩ = some (outS (fun (s : Int × Int × Int × Int) => ⟨[(0, (.one (.d (.list (p1.map (D.int .i64)))))), (1, (.one (.d (.list (p2.map (D.int .i64)))))), (5, (I s.1)), (6, (I s.2.1)), (7, (I s.2.2.1)), (10, (.one (.d (.list (p1.map (D.int .i64)))))), (11, (I x7)), (12, (I s.2.2.2))], []⟩) (fun (r : (Int × Int × Int)) => (.exit 0, ⟨[(0, (.one (.d (.list (p1.map (D.int .i64)))))), (5, (I r.1)), (6, (I r.2.1)), (7, (I r.2.2))], []⟩)) x) := by
  intro x12 x H
  unfold T_normal_product_l1 at H
  refine K_in ?_
  refine K_seq ?_
  refine K_reg [] [] ⟨[(0, (.one (.d (.list (p1.map (D.int .i64)))))), (1, (.one (.d (.list (p2.map (D.int .i64)))))), (5, (I x12.1)), (6, (I x12.2.1)), (7, (I x12.2.2.1)), (10, (.one (.d (.list (p1.map (D.int .i64)))))), (11, (I x7)), (12, (I x12.2.2.2)), (13, (B (decide (x12.2.2.2 < x7))))], []⟩ (by kernel_rfl) trivial ?_
  refine K_seq ?_
  rcases ite_some H with ⟨hx13, H⟩ | ⟨hx13, H⟩
  · refine K_t rfl (decide_eq_true hx13) ?_
    refine K_gh ⟨[(0, (.one (.d (.list (p1.map (D.int .i64)))))), (1, (.one (.d (.list (p2.map (D.int .i64)))))), (5, (I x12.1)), (6, (I x12.2.1)), (7, (I x12.2.2.1)), (10, (.one (.d (.list (p1.map (D.int .i64)))))), (11, (I x7)), (12, (I x12.2.2.2))], []⟩ (by kernel_rfl) ?_
    refine K_skip ?_
    refine K_seq ?_
    refine K_block ?_
    refine K_seq ?_
    obtain ⟨x14, hx14, H⟩ := bind_some' H
    refine K_reg [.l [.int .i64 x14]] [(0 : Int) ≤ x12.2.2.2 ∧ x12.2.2.2 < (((p1.map (D.int .i64))).length : Int), ((p1.map (D.int .i64)).getD x12.2.2.2.toNat (.int .i64 0)).cells = [.int .i64 x14]] ⟨[(0, (.one (.d (.list (p1.map (D.int .i64)))))), (1, (.one (.d (.list (p2.map (D.int .i64)))))), (5, (I x12.1)), (6, (I x12.2.1)), (7, (I x12.2.2.1)), (8, (I x12.2.2.2)), (9, (I x14)), (10, (.one (.d (.list (p1.map (D.int .i64)))))), (11, (I x7)), (12, (I x12.2.2.2))], []⟩ (by kernel_rfl) (AC (at_ok hx14 (D.int .i64) (.int .i64 0)).1 (A1 (at_ok hx14 (D.int .i64) (.int .i64 0)).2)) ?_
    obtain ⟨x15, hx15, H⟩ := bind_some' H
    refine K_reg [.l [.int .i64 x15], .l [.int .i64 x15]] [(0 : Int) ≤ x12.2.2.2 ∧ x12.2.2.2 < (((p2.map (D.int .i64))).length : Int), ((p2.map (D.int .i64)).getD x12.2.2.2.toNat (.int .i64 0)).cells = [.int .i64 x15], (0 : Int) ≤ x12.2.2.2 ∧ x12.2.2.2 < (((p2.map (D.int .i64))).length : Int), ((p2.map (D.int .i64)).getD x12.2.2.2.toNat (.int .i64 0)).cells = [.int .i64 x15]] ⟨[(0, (.one (.d (.list (p1.map (D.int .i64)))))), (1, (.one (.d (.list (p2.map (D.int .i64)))))), (5, (I (w64 (x12.1 + (w64 (x14 * x15)))))), (6, (I (w64 (x12.2.1 + x14)))), (7, (I (w64 (x12.2.2.1 + x15)))), (10, (.one (.d (.list (p1.map (D.int .i64)))))), (11, (I x7)), (12, (I x12.2.2.2))], []⟩ (by kernel_rfl) (AC (at_ok hx15 (D.int .i64) (.int .i64 0)).1 (AC (at_ok hx15 (D.int .i64) (.int .i64 0)).2 (AC (at_ok hx15 (D.int .i64) (.int .i64 0)).1 (A1 (at_ok hx15 (D.int .i64) (.int .i64 0)).2)))) ?_
    refine K_blk ?_
    refine K_reg [] [] ⟨[(0, (.one (.d (.list (p1.map (D.int .i64)))))), (1, (.one (.d (.list (p2.map (D.int .i64)))))), (5, (I (w64 (x12.1 + (w64 (x14 * x15)))))), (6, (I (w64 (x12.2.1 + x14)))), (7, (I (w64 (x12.2.2.1 + x15)))), (10, (.one (.d (.list (p1.map (D.int .i64)))))), (11, (I x7)), (12, (I (w64 (x12.2.2.2 + 1))))], []⟩ (by kernel_rfl) trivial ?_
    cases H
    exact K_end rfl
  · refine K_f rfl (decide_eq_false hx13) ?_
    refine K_gh ⟨[(0, (.one (.d (.list (p1.map (D.int .i64)))))), (5, (I x12.1)), (6, (I x12.2.1)), (7, (I x12.2.2.1))], []⟩ (by kernel_rfl) ?_
    cases H
    exact K_exit0 rfl rfl
def T_normal_product (k : Nat) (p1 : List Int) (p2 : List Int) : Option Int := match k with
  | 0 => none
  | k + 1 => ((loopT (T_normal_product_l1 k p1 p2 (p1.length : Int)) k (0, 0, 0, 0)).bind fun x16 => some (w64 ((w64 ((p1.length : Int) * x16.1)) - (w64 (x16.2.1 * x16.2.2)))))
theorem T_normal_product_ok (k : Nat) (p1 : List Int) (p2 : List Int) (r : Int) : T_normal_product k p1 p2 = some r → evF X k n_normal_product [(.one (.d (.list (p1.map (D.int .i64))))), (.one (.d (.list (p2.map (D.int .i64)))))] [] = some ((I r), []) := by
  intro H
  cases k with
  | zero => simp [T_normal_product] at H
  | succ k =>
    simp only [T_normal_product] at H
    refine F_in X_normal_product rfl ?_
    refine K_seq ?_
    refine K_reg [] [] ⟨[(0, (.one (.d (.list (p1.map (D.int .i64)))))), (1, (.one (.d (.list (p2.map (D.int .i64))))))], []⟩ (by kernel_rfl) trivial ?_
    refine K_seq ?_
    refine K_reg [] [] ⟨[(0, (.one (.d (.list (p1.map (D.int .i64)))))), (1, (.one (.d (.list (p2.map (D.int .i64)))))), (5, (I 0)), (6, (I 0)), (7, (I 0))], []⟩ (by kernel_rfl) trivial ?_
    refine K_seq ?_
    refine K_seq ?_
    refine K_reg [.n p1.length] [((p1.map (D.int .i64))).length = p1.length] ⟨[(0, (.one (.d (.list (p1.map (D.int .i64)))))), (1, (.one (.d (.list (p2.map (D.int .i64)))))), (5, (I 0)), (6, (I 0)), (7, (I 0)), (10, (.one (.d (.list (p1.map (D.int .i64)))))), (11, (I (p1.length : Int))), (12, (I 0))], []⟩ (by kernel_rfl) (A1 (List.length_map _)) ?_
    refine K_block ?_
    obtain ⟨x16, hx16, H⟩ := bind_some' H
    refine K_loop ⟨[(0, (.one (.d (.list (p1.map (D.int .i64)))))), (5, (I x16.1)), (6, (I x16.2.1)), (7, (I x16.2.2))], []⟩ (loop_ok (fun (s : Int × Int × Int × Int) => ⟨[(0, (.one (.d (.list (p1.map (D.int .i64)))))), (1, (.one (.d (.list (p2.map (D.int .i64)))))), (5, (I s.1)), (6, (I s.2.1)), (7, (I s.2.2.1)), (10, (.one (.d (.list (p1.map (D.int .i64)))))), (11, (I (p1.length : Int))), (12, (I s.2.2.2))], []⟩) (fun (r : (Int × Int × Int)) => (.exit 0, ⟨[(0, (.one (.d (.list (p1.map (D.int .i64)))))), (5, (I r.1)), (6, (I r.2.1)), (7, (I r.2.2))], []⟩)) (fun r h => by cases h) (T_normal_product_l1_ok k p1 p2 (p1.length : Int)) k (0, 0, 0, 0) x16 hx16) rfl ?_
    refine K_seq ?_
    refine K_reg [.n p1.length] [((p1.map (D.int .i64))).length = p1.length] ⟨[(4, (I (w64 ((w64 ((p1.length : Int) * x16.1)) - (w64 (x16.2.1 * x16.2.2))))))], []⟩ (by kernel_rfl) (A1 (List.length_map _)) ?_
    refine K_gh ⟨[(4, (I (w64 ((w64 ((p1.length : Int) * x16.1)) - (w64 (x16.2.1 * x16.2.2))))))], []⟩ (by kernel_rfl) ?_
    cases H
    refine K_ret ?_
    kernel_rfl
def T_normal_Product (k : Nat) (p1 : List Int) (p2 : List Int) : Option (Int × Int) := match k with
  | 0 => none
  | k + 1 => ((T_euclid_Distance k p1 p2).bind fun x1 => (if (!decide (x1.2 = 0)) = true then some (0, x1.2) else ((T_normal_product k p1 p2).bind fun x3 => some (x3, 0))))
theorem T_normal_Product_ok (k : Nat) (p1 : List Int) (p2 : List Int) (r : Int × Int) : T_normal_Product k p1 p2 = some r → evF X k n_normal_Product [(.one (.d (.list (p1.map (D.int .i64))))), (.one (.d (.list (p2.map (D.int .i64)))))] [] = some ((.tup [(false, [.d (.int .i64 r.1)]), (false, [.d (.int .i64 r.2)])]), []) := by
  intro H
  cases k with
  | zero => simp [T_normal_Product] at H
  | succ k =>
    simp only [T_normal_Product] at H
    refine F_in X_normal_Product rfl ?_
    refine K_seq ?_
    refine K_reg [] [] ⟨[(0, (.one (.d (.list (p1.map (D.int .i64)))))), (1, (.one (.d (.list (p2.map (D.int .i64))))))], []⟩ (by kernel_rfl) trivial ?_
    refine K_seq ?_
    refine K_seq ?_
    obtain ⟨x1, hx1, H⟩ := bind_some' H
    refine K_reg [.r (.tup [(false, [.d (.int .i64 x1.1)]), (false, [.d (.int .i64 x1.2)])]) []] [evF X k n_euclid_Distance [(.one (.d (.list (p1.map (D.int .i64))))), (.one (.d (.list (p2.map (D.int .i64)))))] [] = some ((.tup [(false, [.d (.int .i64 x1.1)]), (false, [.d (.int .i64 x1.2)])]), [])] ⟨[(0, (.one (.d (.list (p1.map (D.int .i64)))))), (1, (.one (.d (.list (p2.map (D.int .i64)))))), (7, (I x1.2))], []⟩ (by kernel_rfl) (A1 (T_euclid_Distance_ok k p1 p2 x1 hx1)) ?_
    refine K_seq ?_
    refine K_reg [] [] ⟨[(0, (.one (.d (.list (p1.map (D.int .i64)))))), (1, (.one (.d (.list (p2.map (D.int .i64)))))), (7, (I x1.2)), (15, (B (!decide (x1.2 = 0))))], []⟩ (by kernel_rfl) trivial ?_
    rcases ite_some H with ⟨hx2, H⟩ | ⟨hx2, H⟩
    · refine K_t rfl hx2 ?_
      refine K_seq ?_
      refine K_reg [] [] ⟨[(4, (I 0)), (5, (I x1.2))], []⟩ (by kernel_rfl) trivial ?_
      refine K_gh ⟨[(4, (I 0)), (5, (I x1.2))], []⟩ (by kernel_rfl) ?_
      cases H
      refine K_ret ?_
      kernel_rfl
    · refine K_f rfl (Bool.eq_false_iff.2 hx2) ?_
      refine K_gh ⟨[(0, (.one (.d (.list (p1.map (D.int .i64)))))), (1, (.one (.d (.list (p2.map (D.int .i64))))))], []⟩ (by kernel_rfl) ?_
      refine K_skip ?_
      refine K_seq ?_
      obtain ⟨x3, hx3, H⟩ := bind_some' H
      refine K_reg [.r (I x3) []] [evF X k n_normal_product [(.one (.d (.list (p1.map (D.int .i64))))), (.one (.d (.list (p2.map (D.int .i64)))))] [] = some ((I x3), [])] ⟨[(4, (I x3)), (5, (I 0))], []⟩ (by kernel_rfl) (A1 (T_normal_product_ok k p1 p2 x3 hx3)) ?_
      refine K_gh ⟨[(4, (I x3)), (5, (I 0))], []⟩ (by kernel_rfl) ?_
      cases H
      refine K_ret ?_
      kernel_rfl
def T_sketch_Of (k : Nat) (p1 : List Int) (p2 : Int) : Option (Int × (List Int) × Int × Int) := match k with
  | 0 => none
  | k + 1 => ((T_pieces_Centred k p1 p2).bind fun x1 => (if (!decide (x1.2 = 0)) = true then some (0, [], 0, x1.2) else ((T_normal_Product k p1 p1).bind fun x3 => (if (!decide (x3.2 = 0)) = true then some (0, [], 0, x3.2) else some ((p1.length : Int), x1.1, (w64 ((p1.length : Int) * x3.1)), 0)))))
theorem T_sketch_Of_ok (k : Nat) (p1 : List Int) (p2 : Int) (r : Int × (List Int) × Int × Int) : T_sketch_Of k p1 p2 = some r → evF X k n_sketch_Of [(.one (.d (.list (p1.map (D.int .i64))))), (I p2)] [] = some ((.tup [(true, [.d (.int .i64 r.1), .d (.list (r.2.1.map (D.int .i64))), .d (.int .i64 r.2.2.1)]), (false, [.d (.int .i64 r.2.2.2)])]), []) := by
  intro H
  cases k with
  | zero => simp [T_sketch_Of] at H
  | succ k =>
    simp only [T_sketch_Of] at H
    refine F_in X_sketch_Of rfl ?_
    refine K_seq ?_
    refine K_reg [] [] ⟨[(0, (.one (.d (.list (p1.map (D.int .i64)))))), (1, (I p2)), (4, (.one (.ptr 0 0 0)))], [.cells [.d (.int .i64 0), .nil, .d (.int .i64 0)]]⟩ (by kernel_rfl) trivial ?_
    refine K_seq ?_
    obtain ⟨x1, hx1, H⟩ := bind_some' H
    refine K_reg [.r (.tup [(false, [.d (.list (x1.1.map (D.int .i64)))]), (false, [.d (.int .i64 x1.2)])]) []] [evF X k n_pieces_Centred [(.one (.d (.list (p1.map (D.int .i64))))), (I p2)] [] = some ((.tup [(false, [.d (.list (x1.1.map (D.int .i64)))]), (false, [.d (.int .i64 x1.2)])]), [])] ⟨[(0, (.one (.d (.list (p1.map (D.int .i64)))))), (4, (.one (.ptr 0 0 0))), (6, (.one (.d (.list (x1.1.map (D.int .i64)))))), (7, (I x1.2))], [.cells [.d (.int .i64 0), .nil, .d (.int .i64 0)]]⟩ (by kernel_rfl) (A1 (T_pieces_Centred_ok k p1 p2 x1 hx1)) ?_
    refine K_seq ?_
    refine K_seq ?_
    refine K_reg [] [] ⟨[(0, (.one (.d (.list (p1.map (D.int .i64)))))), (4, (.one (.ptr 0 0 0))), (6, (.one (.d (.list (x1.1.map (D.int .i64)))))), (7, (I x1.2)), (16, (B (!decide (x1.2 = 0))))], [.cells [.d (.int .i64 0), .nil, .d (.int .i64 0)]]⟩ (by kernel_rfl) trivial ?_
    rcases ite_some H with ⟨hx2, H⟩ | ⟨hx2, H⟩
    · refine K_t rfl hx2 ?_
      refine K_seq ?_
      refine K_reg [] [] ⟨[(4, (.one (.ptr 0 0 0))), (5, (I x1.2))], [.cells [.d (.int .i64 0), .nil, .d (.int .i64 0)]]⟩ (by kernel_rfl) trivial ?_
      refine K_gh ⟨[(4, (.one (.ptr 0 0 0))), (5, (I x1.2))], [.cells [.d (.int .i64 0), .nil, .d (.int .i64 0)]]⟩ (by kernel_rfl) ?_
      cases H
      refine K_ret ?_
      kernel_rfl
    · refine K_f rfl (Bool.eq_false_iff.2 hx2) ?_
      refine K_gh ⟨[(0, (.one (.d (.list (p1.map (D.int .i64)))))), (4, (.one (.ptr 0 0 0))), (6, (.one (.d (.list (x1.1.map (D.int .i64))))))], [.cells [.d (.int .i64 0), .nil, .d (.int .i64 0)]]⟩ (by kernel_rfl) ?_
      refine K_skip ?_
      refine K_seq ?_
      obtain ⟨x3, hx3, H⟩ := bind_some' H
      refine K_reg [.r (.tup [(false, [.d (.int .i64 x3.1)]), (false, [.d (.int .i64 x3.2)])]) []] [evF X k n_normal_Product [(.one (.d (.list (p1.map (D.int .i64))))), (.one (.d (.list (p1.map (D.int .i64)))))] [] = some ((.tup [(false, [.d (.int .i64 x3.1)]), (false, [.d (.int .i64 x3.2)])]), [])] ⟨[(0, (.one (.d (.list (p1.map (D.int .i64)))))), (4, (.one (.ptr 0 0 0))), (6, (.one (.d (.list (x1.1.map (D.int .i64)))))), (7, (I x3.2)), (8, (I x3.1))], [.cells [.d (.int .i64 0), .nil, .d (.int .i64 0)]]⟩ (by kernel_rfl) (A1 (T_normal_Product_ok k p1 p1 x3 hx3)) ?_
      refine K_seq ?_
      refine K_seq ?_
      refine K_reg [] [] ⟨[(0, (.one (.d (.list (p1.map (D.int .i64)))))), (4, (.one (.ptr 0 0 0))), (6, (.one (.d (.list (x1.1.map (D.int .i64)))))), (7, (I x3.2)), (8, (I x3.1)), (26, (B (!decide (x3.2 = 0))))], [.cells [.d (.int .i64 0), .nil, .d (.int .i64 0)]]⟩ (by kernel_rfl) trivial ?_
      rcases ite_some H with ⟨hx4, H⟩ | ⟨hx4, H⟩
      · refine K_t rfl hx4 ?_
        refine K_seq ?_
        refine K_reg [] [] ⟨[(4, (.one (.ptr 0 0 0))), (5, (I x3.2))], [.cells [.d (.int .i64 0), .nil, .d (.int .i64 0)]]⟩ (by kernel_rfl) trivial ?_
        refine K_gh ⟨[(4, (.one (.ptr 0 0 0))), (5, (I x3.2))], [.cells [.d (.int .i64 0), .nil, .d (.int .i64 0)]]⟩ (by kernel_rfl) ?_
        cases H
        refine K_ret ?_
        kernel_rfl
      · refine K_f rfl (Bool.eq_false_iff.2 hx4) ?_
        refine K_gh ⟨[(0, (.one (.d (.list (p1.map (D.int .i64)))))), (4, (.one (.ptr 0 0 0))), (6, (.one (.d (.list (x1.1.map (D.int .i64)))))), (8, (I x3.1))], [.cells [.d (.int .i64 0), .nil, .d (.int .i64 0)]]⟩ (by kernel_rfl) ?_
        refine K_skip ?_
        refine K_seq ?_
        refine K_reg [.n p1.length, .n p1.length] [((p1.map (D.int .i64))).length = p1.length, ((p1.map (D.int .i64))).length = p1.length] ⟨[(4, (.one (.ptr 0 0 0))), (5, (I 0))], [.cells [.d (.int .i64 (p1.length : Int)), .d (.list (x1.1.map (D.int .i64))), .d (.int .i64 (w64 ((p1.length : Int) * x3.1)))]]⟩ (by kernel_rfl) (AC (List.length_map _) (A1 (List.length_map _))) ?_
        refine K_gh ⟨[(4, (.one (.ptr 0 0 0))), (5, (I 0))], [.cells [.d (.int .i64 (p1.length : Int)), .d (.list (x1.1.map (D.int .i64))), .d (.int .i64 (w64 ((p1.length : Int) * x3.1)))]]⟩ (by kernel_rfl) ?_
        cases H
        refine K_ret ?_
        kernel_rfl
def T_pieces_Starts_r1 (k : Nat) (p1 : Int) (p2 : Int) (x10 x11 x12 : Int) (x14 : Nat × (List Int)) : Option ((Nat × (List Int)) ⊕ Unit) :=
  (if x14.1 + 1 ≤ LIM then some (.inl ((x14.1 + 1), ((x14.2.drop 0).take x14.1 ++ ([x12] : List Int)))) else none)
theorem T_pieces_Starts_r1_ok (k : Nat) (p1 : Int) (p2 : Int) : ∀ (x10 x11 x12 : Int) (x14 : Nat × (List Int)) (x : (Nat × (List Int)) ⊕ Unit), T_pieces_Starts_r1 k p1 p2 x10 x11 x12 x14 = some x → roundM (fun b' => evC X (evF X k) k b' l_pieces_Starts_r1a) (fun b' => evC X (evF X k) k b' l_pieces_Starts_r1b) 0 [23, 24] [.gc] [I x10, .agg [.d (.int .i64 x11), .d (.int .i64 x12)]] (.normal, ⟨[(4, (.one (.nil))), (5, (I 0)), (6, (.one (.ptr 0 0 0))), (22, (.one (.d (.fn (.func n_pieces_all_1) [.ref [.int .i64 p2], .ref [.int .i64 p1]]))))], [.cells [.own 1 0 x14.1], .vals (.int .i64 0) (x14.2.map (D.int .i64))]⟩) = some (Sum.elim (fun (s : Nat × (List Int)) => (true, (.normal, ⟨[(4, (.one (.nil))), (5, (I 0)), (6, (.one (.ptr 0 0 0))), (22, (.one (.d (.fn (.func n_pieces_all_1) [.ref [.int .i64 p2], .ref [.int .i64 p1]]))))], [.cells [.own 1 0 s.1], .vals (.int .i64 0) (s.2.map (D.int .i64))]⟩))) (fun (r : Unit) => (false, (.ret, ⟨[], []⟩))) x) := by
  intro x10 x11 x12 x14 x H
  unfold T_pieces_Starts_r1 at H
  refine R_as rfl ?_
  refine K_reg [] [] ⟨[(6, (.one (.ptr 0 0 0))), (8, (.one (.ptr 2 0 0)))], [.cells [.own 1 0 x14.1], .vals (.int .i64 0) (x14.2.map (D.int .i64)), .cells [.d (.int .i64 x11), .d (.int .i64 x12)]]⟩ (by kernel_rfl) trivial ?_
  refine K_end (R_body ?_)
  refine K_block ?_
  obtain ⟨hx15, H⟩ := guard_some H
  refine K_reg [.n 1, .l (((x14.2.drop 0).take x14.1 ++ ([x12] : List Int)).map (D.int .i64))] [(List.all (([x12] : List Int).map (D.int .i64)) fun d => d.cells.length == (D.cells (.int .i64 0)).length) = true, x14.1 + 1 ≤ LIM, (([x12] : List Int).map (D.int .i64)).length = 1, ((x14.2.map (D.int .i64)).drop 0).take x14.1 ++ (([x12] : List Int).map (D.int .i64)) = ((x14.2.drop 0).take x14.1 ++ ([x12] : List Int)).map (D.int .i64)] ⟨[], [.cells [.own 3 0 (x14.1 + 1)], .dead, .cells [.d (.int .i64 x11), .d (.int .i64 x12)], .vals (.int .i64 0) (((x14.2.drop 0).take x14.1 ++ ([x12] : List Int)).map (D.int .i64))]⟩ (by kernel_rfl) (AC (all_ok (D.int .i64) 1 ([x12] : List Int) (fun _ => rfl)) (AC hx15 (AC (by simp) (A1 (ap_map (D.int .i64) x14.2 ([x12] : List Int) 0 x14.1))))) ?_
  refine K_blk ?_
  cases H
  exact K_end (R_end ⟨[(4, (.one (.nil))), (5, (I 0)), (6, (.one (.ptr 0 0 0))), (22, (.one (.d (.fn (.func n_pieces_all_1) [.ref [.int .i64 p2], .ref [.int .i64 p1]]))))], [.cells [.own 1 0 (x14.1 + 1)], .vals (.int .i64 0) (((x14.2.drop 0).take x14.1 ++ ([x12] : List Int)).map (D.int .i64))]⟩ (by kernel_rfl) rfl)
def T_pieces_Starts (k : Nat) (p1 : Int) (p2 : Int) : Option ((List Int) × Int) := match k with
  | 0 => none
  | k + 1 => (if (decide (p1 < 2) || decide (32 < p1)) = true then some ([], 8) else ((T_pieces_number k p1 p2).bind fun x2 => (if (!((decide (1 ≤ p2) && decide (p2 ≤ 8)) && decide (p2 ≤ p1))) = true then some ([], 1) else ((T_pieces_all k p1 p2).bind fun x4 => (allT (T_pieces_Starts_r1 k p1 p2) p1 p2 k 0 (1, [0])).bind fun x16 => (match x16 with | .inl x17 => some (((x17.2.drop 0).take x17.1), 0) | .inr _ => none)))))
theorem T_pieces_Starts_ok (k : Nat) (p1 : Int) (p2 : Int) (r : (List Int) × Int) : T_pieces_Starts k p1 p2 = some r → evF X k n_pieces_Starts [(I p1), (I p2)] [] = some ((.tup [(false, [.d (.list (r.1.map (D.int .i64)))]), (false, [.d (.int .i64 r.2)])]), []) := by
  intro H
  cases k with
  | zero => simp [T_pieces_Starts] at H
  | succ k =>
    simp only [T_pieces_Starts] at H
    refine F_in X_pieces_Starts rfl ?_
    refine K_seq ?_
    refine K_reg [] [] ⟨[(0, (I p1)), (1, (I p2)), (4, (.one (.nil))), (5, (I 0))], []⟩ (by kernel_rfl) trivial ?_
    refine K_seq ?_
    refine K_seq ?_
    refine K_reg [.m] [([] : Heap) = []] ⟨[(0, (I p1)), (1, (I p2)), (4, (.one (.nil))), (5, (I 0)), (14, (B (decide (p1 < 2) || decide (32 < p1))))], []⟩ (by kernel_rfl) (A1 rfl) ?_
    rcases ite_some H with ⟨hx1, H⟩ | ⟨hx1, H⟩
    · refine K_t rfl hx1 ?_
      refine K_seq ?_
      refine K_reg [] [] ⟨[(4, (.one (.nil))), (5, (I 8))], []⟩ (by kernel_rfl) trivial ?_
      refine K_gh ⟨[(4, (.one (.nil))), (5, (I 8))], []⟩ (by kernel_rfl) ?_
      cases H
      refine K_ret ?_
      kernel_rfl
    · refine K_f rfl (Bool.eq_false_iff.2 hx1) ?_
      refine K_gh ⟨[(0, (I p1)), (1, (I p2)), (4, (.one (.nil))), (5, (I 0))], []⟩ (by kernel_rfl) ?_
      refine K_skip ?_
      refine K_seq ?_
      refine K_seq ?_
      obtain ⟨x2, hx2, H⟩ := bind_some' H
      refine K_reg [.r (B ((decide (1 ≤ p2) && decide (p2 ≤ 8)) && decide (p2 ≤ p1))) []] [evF X k n_pieces_number [(I p1), (I p2)] [] = some ((B ((decide (1 ≤ p2) && decide (p2 ≤ 8)) && decide (p2 ≤ p1))), [])] ⟨[(0, (I p1)), (1, (I p2)), (4, (.one (.nil))), (5, (I 0)), (18, (B (!((decide (1 ≤ p2) && decide (p2 ≤ 8)) && decide (p2 ≤ p1)))))], []⟩ (by kernel_rfl) (A1 (T_pieces_number_ok k p1 p2 x2 hx2)) ?_
      rcases ite_some H with ⟨hx3, H⟩ | ⟨hx3, H⟩
      · refine K_t rfl hx3 ?_
        refine K_seq ?_
        refine K_reg [] [] ⟨[(4, (.one (.nil))), (5, (I 1))], []⟩ (by kernel_rfl) trivial ?_
        refine K_gh ⟨[(4, (.one (.nil))), (5, (I 1))], []⟩ (by kernel_rfl) ?_
        cases H
        refine K_ret ?_
        kernel_rfl
      · refine K_f rfl (Bool.eq_false_iff.2 hx3) ?_
        refine K_gh ⟨[(0, (I p1)), (1, (I p2)), (4, (.one (.nil))), (5, (I 0))], []⟩ (by kernel_rfl) ?_
        refine K_skip ?_
        refine K_seq ?_
        refine K_reg [] [] ⟨[(0, (I p1)), (1, (I p2)), (4, (.one (.nil))), (5, (I 0)), (6, (.one (.ptr 0 0 0)))], [.cells [.own 1 0 1], .vals (.int .i64 0) ([0].map (D.int .i64))]⟩ (by kernel_rfl) trivial ?_
        refine K_seq ?_
        refine K_seq ?_
        obtain ⟨x4, hx4, H⟩ := bind_some' H
        refine K_reg [.r (.one (.d (.fn (.func n_pieces_all_1) [.ref [.int .i64 p2], .ref [.int .i64 p1]]))) []] [evF X k n_pieces_all [(I p1), (I p2)] [] = some ((.one (.d (.fn (.func n_pieces_all_1) [.ref [.int .i64 p2], .ref [.int .i64 p1]]))), [])] ⟨[(4, (.one (.nil))), (5, (I 0)), (6, (.one (.ptr 0 0 0))), (22, (.one (.d (.fn (.func n_pieces_all_1) [.ref [.int .i64 p2], .ref [.int .i64 p1]]))))], [.cells [.own 1 0 1], .vals (.int .i64 0) ([0].map (D.int .i64))]⟩ (by kernel_rfl) (A1 (T_pieces_all_ok k p1 p2 x4 hx4)) ?_
        refine K_block ?_
        obtain ⟨x16, hx16, H⟩ := bind_some' H
        cases x16 with
        | inl x17 =>
          dsimp only at H
          refine K_of ⟨[(4, (.one (.nil))), (5, (I 0)), (6, (.one (.ptr 0 0 0))), (22, (.one (.d (.fn (.func n_pieces_all_1) [.ref [.int .i64 p2], .ref [.int .i64 p1]]))))], [.cells [.own 1 0 x17.1], .vals (.int .i64 0) (x17.2.map (D.int .i64))]⟩ (range_ok (fun (s : Nat × (List Int)) => ⟨[(4, (.one (.nil))), (5, (I 0)), (6, (.one (.ptr 0 0 0))), (22, (.one (.d (.fn (.func n_pieces_all_1) [.ref [.int .i64 p2], .ref [.int .i64 p1]]))))], [.cells [.own 1 0 s.1], .vals (.int .i64 0) (s.2.map (D.int .i64))]⟩) (fun (r : Unit) => (.ret, ⟨[], []⟩)) (s := (1, [0])) (y := (.inl x17)) rfl (X_pieces_all_1 : X n_pieces_all_1 = some allM) (T_pieces_Starts_r1_ok k p1 p2) hx16) ?_
          refine K_blk ?_
          refine K_seq ?_
          refine K_reg [] [] ⟨[(4, (.one (.own 0 0 x17.1))), (5, (I 0))], [.vals (.int .i64 0) (x17.2.map (D.int .i64))]⟩ (by kernel_rfl) trivial ?_
          refine K_gh ⟨[(4, (.one (.own 0 0 x17.1))), (5, (I 0))], [.vals (.int .i64 0) (x17.2.map (D.int .i64))]⟩ (by kernel_rfl) ?_
          cases H
          refine K_ret ?_
          exact Eq.trans (b := some ((.tup [(false, [.d (.list (((x17.2.map (D.int .i64)).drop 0).take x17.1))]), (false, [.d (.int .i64 0)])]), [])) (by kernel_rfl) (by simp only [dt_map])
        | inr _ =>
          dsimp only at H
          cases H
def T_sketch_lengths_l1 (k : Nat) (x3 : List Int) (x5 : Int) (x12 : Nat × Int × (List Int)) : Option ((Nat × Int × (List Int)) ⊕ ((Nat × (List Int)))) :=
  (if x12.2.1 < x5 then (at? x3 (w64 (x12.2.1 + 1))).bind fun x14 => (at? x3 x12.2.1).bind fun x15 => (if x12.1 + 1 ≤ LIM then some (.inl ((x12.1 + 1), (w64 (x12.2.1 + 1)), ((x12.2.2.drop 0).take x12.1 ++ ([(w64 (x14 - x15))] : List Int)))) else none) else some (.inr (x12.1, x12.2.2)))
theorem T_sketch_lengths_l1_ok (k : Nat) (x3 : List Int) (x5 : Int) : ∀ (x12 : Nat × Int × (List Int)) (x : (Nat × Int × (List Int)) ⊕ ((Nat × (List Int)))), T_sketch_lengths_l1 k x3 x5 x12 = some x → evC X (evF X k) k 0 l_sketch_lengths_1 ⟨[(3, (.one (.d (.list (x3.map (D.int .i64)))))), (5, (.one (.own 0 0 x12.1))), (20, (I x5)), (21, (I x12.2.1))], [.vals (.int .i64 0) (x12.2.2.map (D.int .i64))]⟩ = some (outS (fun (s : Nat × Int × (List Int)) => ⟨[(3, (.one (.d (.list (x3.map (D.int .i64)))))), (5, (.one (.own 0 0 s.1))), (20, (I x5)), (21, (I s.2.1))], [.vals (.int .i64 0) (s.2.2.map (D.int .i64))]⟩) (fun (r : (Nat × (List Int))) => (.exit 0, ⟨[(5, (.one (.own 0 0 r.1)))], [.vals (.int .i64 0) (r.2.map (D.int .i64))]⟩)) x) := by
  intro x12 x H
  unfold T_sketch_lengths_l1 at H
  refine K_in ?_
  refine K_seq ?_
  refine K_reg [] [] ⟨[(3, (.one (.d (.list (x3.map (D.int .i64)))))), (5, (.one (.own 0 0 x12.1))), (20, (I x5)), (21, (I x12.2.1)), (22, (B (decide (x12.2.1 < x5))))], [.vals (.int .i64 0) (x12.2.2.map (D.int .i64))]⟩ (by kernel_rfl) trivial ?_
  refine K_seq ?_
  rcases ite_some H with ⟨hx13, H⟩ | ⟨hx13, H⟩
  · refine K_t rfl (decide_eq_true hx13) ?_
    refine K_gh ⟨[(3, (.one (.d (.list (x3.map (D.int .i64)))))), (5, (.one (.own 0 0 x12.1))), (20, (I x5)), (21, (I x12.2.1))], [.vals (.int .i64 0) (x12.2.2.map (D.int .i64))]⟩ (by kernel_rfl) ?_
    refine K_skip ?_
    refine K_seq ?_
    refine K_block ?_
    refine K_seq ?_
    refine K_reg [] [] ⟨[(3, (.one (.d (.list (x3.map (D.int .i64)))))), (5, (.one (.own 0 0 x12.1))), (6, (I x12.2.1)), (20, (I x5)), (21, (I x12.2.1))], [.vals (.int .i64 0) (x12.2.2.map (D.int .i64))]⟩ (by kernel_rfl) trivial ?_
    obtain ⟨x14, hx14, H⟩ := bind_some' H
    obtain ⟨x15, hx15, H⟩ := bind_some' H
    obtain ⟨hx16, H⟩ := guard_some H
    refine K_reg [.l [.int .i64 x14], .l [.int .i64 x15], .n 1, .l (((x12.2.2.drop 0).take x12.1 ++ ([(w64 (x14 - x15))] : List Int)).map (D.int .i64))] [(0 : Int) ≤ (w64 (x12.2.1 + 1)) ∧ (w64 (x12.2.1 + 1)) < (((x3.map (D.int .i64))).length : Int), ((x3.map (D.int .i64)).getD (w64 (x12.2.1 + 1)).toNat (.int .i64 0)).cells = [.int .i64 x14], (0 : Int) ≤ x12.2.1 ∧ x12.2.1 < (((x3.map (D.int .i64))).length : Int), ((x3.map (D.int .i64)).getD x12.2.1.toNat (.int .i64 0)).cells = [.int .i64 x15], (List.all (([(w64 (x14 - x15))] : List Int).map (D.int .i64)) fun d => d.cells.length == (D.cells (.int .i64 0)).length) = true, x12.1 + 1 ≤ LIM, (([(w64 (x14 - x15))] : List Int).map (D.int .i64)).length = 1, ((x12.2.2.map (D.int .i64)).drop 0).take x12.1 ++ (([(w64 (x14 - x15))] : List Int).map (D.int .i64)) = ((x12.2.2.drop 0).take x12.1 ++ ([(w64 (x14 - x15))] : List Int)).map (D.int .i64)] ⟨[(3, (.one (.d (.list (x3.map (D.int .i64)))))), (5, (.one (.own 0 0 (x12.1 + 1)))), (20, (I x5)), (21, (I x12.2.1))], [.vals (.int .i64 0) (((x12.2.2.drop 0).take x12.1 ++ ([(w64 (x14 - x15))] : List Int)).map (D.int .i64))]⟩ (by kernel_rfl) (AC (at_ok hx14 (D.int .i64) (.int .i64 0)).1 (AC (at_ok hx14 (D.int .i64) (.int .i64 0)).2 (AC (at_ok hx15 (D.int .i64) (.int .i64 0)).1 (AC (at_ok hx15 (D.int .i64) (.int .i64 0)).2 (AC (all_ok (D.int .i64) 1 ([(w64 (x14 - x15))] : List Int) (fun _ => rfl)) (AC hx16 (AC (by simp) (A1 (ap_map (D.int .i64) x12.2.2 ([(w64 (x14 - x15))] : List Int) 0 x12.1))))))))) ?_
    refine K_blk ?_
    refine K_reg [] [] ⟨[(3, (.one (.d (.list (x3.map (D.int .i64)))))), (5, (.one (.own 0 0 (x12.1 + 1)))), (20, (I x5)), (21, (I (w64 (x12.2.1 + 1))))], [.vals (.int .i64 0) (((x12.2.2.drop 0).take x12.1 ++ ([(w64 (x14 - x15))] : List Int)).map (D.int .i64))]⟩ (by kernel_rfl) trivial ?_
    cases H
    exact K_end rfl
  · refine K_f rfl (decide_eq_false hx13) ?_
    refine K_gh ⟨[(5, (.one (.own 0 0 x12.1)))], [.vals (.int .i64 0) (x12.2.2.map (D.int .i64))]⟩ (by kernel_rfl) ?_
    cases H
    exact K_exit0 rfl rfl
def T_sketch_lengths (k : Nat) (p1 : Int) (p2 : List Int) (p3 : Int) : Option ((List Int)) := match k with
  | 0 => none
  | k + 1 => ((T_pieces_Starts k p1 (p2.length : Int)).bind fun x1 => (if (!decide (x1.2 = 0)) = true then some [] else ((loopT (T_sketch_lengths_l1 k x1.1 (p2.length : Int)) k (0, 0, [])).bind fun x17 => some ((x17.2.drop 0).take x17.1))))
theorem T_sketch_lengths_ok (k : Nat) (p1 : Int) (p2 : List Int) (p3 : Int) (r : (List Int)) : T_sketch_lengths k p1 p2 p3 = some r → evF X k n_sketch_lengths [(.agg [.d (.int .i64 p1), .d (.list (p2.map (D.int .i64))), .d (.int .i64 p3)])] [] = some ((.one (.d (.list (r.map (D.int .i64))))), []) := by
  intro H
  cases k with
  | zero => simp [T_sketch_lengths] at H
  | succ k =>
    simp only [T_sketch_lengths] at H
    refine F_in X_sketch_lengths rfl ?_
    refine K_seq ?_
    refine K_reg [] [] ⟨[(1, (.one (.ptr 0 0 0)))], [.cells [.d (.int .i64 p1), .d (.list (p2.map (D.int .i64))), .d (.int .i64 p3)]]⟩ (by kernel_rfl) trivial ?_
    refine K_seq ?_
    obtain ⟨x1, hx1, H⟩ := bind_some' H
    refine K_reg [.n p2.length, .r (.tup [(false, [.d (.list (x1.1.map (D.int .i64)))]), (false, [.d (.int .i64 x1.2)])]) []] [((p2.map (D.int .i64))).length = p2.length, evF X k n_pieces_Starts [(I p1), (I (p2.length : Int))] [] = some ((.tup [(false, [.d (.list (x1.1.map (D.int .i64)))]), (false, [.d (.int .i64 x1.2)])]), [])] ⟨[(1, (.one (.ptr 0 0 0))), (3, (.one (.d (.list (x1.1.map (D.int .i64)))))), (4, (I x1.2))], [.cells [.d (.int .i64 p1), .d (.list (p2.map (D.int .i64))), .d (.int .i64 p3)]]⟩ (by kernel_rfl) (AC (List.length_map _) (A1 (T_pieces_Starts_ok k p1 (p2.length : Int) x1 hx1))) ?_
    refine K_seq ?_
    refine K_seq ?_
    refine K_reg [] [] ⟨[(1, (.one (.ptr 0 0 0))), (3, (.one (.d (.list (x1.1.map (D.int .i64)))))), (17, (B (!decide (x1.2 = 0))))], [.cells [.d (.int .i64 p1), .d (.list (p2.map (D.int .i64))), .d (.int .i64 p3)]]⟩ (by kernel_rfl) trivial ?_
    rcases ite_some H with ⟨hx2, H⟩ | ⟨hx2, H⟩
    · refine K_t rfl hx2 ?_
      refine K_seq ?_
      refine K_reg [] [] ⟨[(2, (.one (.nil)))], []⟩ (by kernel_rfl) trivial ?_
      refine K_gh ⟨[(2, (.one (.nil)))], []⟩ (by kernel_rfl) ?_
      cases H
      refine K_ret ?_
      kernel_rfl
    · refine K_f rfl (Bool.eq_false_iff.2 hx2) ?_
      refine K_gh ⟨[(1, (.one (.ptr 0 0 0))), (3, (.one (.d (.list (x1.1.map (D.int .i64))))))], [.cells [.d (.int .i64 p1), .d (.list (p2.map (D.int .i64))), .d (.int .i64 p3)]]⟩ (by kernel_rfl) ?_
      refine K_skip ?_
      refine K_seq ?_
      refine K_reg [] [] ⟨[(1, (.one (.ptr 0 0 0))), (3, (.one (.d (.list (x1.1.map (D.int .i64)))))), (5, (.one (.nil)))], [.cells [.d (.int .i64 p1), .d (.list (p2.map (D.int .i64))), .d (.int .i64 p3)]]⟩ (by kernel_rfl) trivial ?_
      refine K_seq ?_
      refine K_seq ?_
      refine K_reg [.n p2.length] [((p2.map (D.int .i64))).length = p2.length] ⟨[(3, (.one (.d (.list (x1.1.map (D.int .i64)))))), (5, (.one (.nil))), (20, (I (p2.length : Int))), (21, (I 0))], []⟩ (by kernel_rfl) (A1 (List.length_map _)) ?_
      refine K_block ?_
      refine K_gh ⟨[(3, (.one (.d (.list (x1.1.map (D.int .i64)))))), (5, (.one (.own 0 0 0))), (20, (I (p2.length : Int))), (21, (I 0))], [.vals (.int .i64 0) ([].map (D.int .i64))]⟩ (by kernel_rfl) ?_
      obtain ⟨x17, hx17, H⟩ := bind_some' H
      refine K_loop ⟨[(5, (.one (.own 0 0 x17.1)))], [.vals (.int .i64 0) (x17.2.map (D.int .i64))]⟩ (loop_ok (fun (s : Nat × Int × (List Int)) => ⟨[(3, (.one (.d (.list (x1.1.map (D.int .i64)))))), (5, (.one (.own 0 0 s.1))), (20, (I (p2.length : Int))), (21, (I s.2.1))], [.vals (.int .i64 0) (s.2.2.map (D.int .i64))]⟩) (fun (r : (Nat × (List Int))) => (.exit 0, ⟨[(5, (.one (.own 0 0 r.1)))], [.vals (.int .i64 0) (r.2.map (D.int .i64))]⟩)) (fun r h => by cases h) (T_sketch_lengths_l1_ok k x1.1 (p2.length : Int)) k (0, 0, []) x17 hx17) rfl ?_
      refine K_seq ?_
      refine K_reg [] [] ⟨[(2, (.one (.own 0 0 x17.1)))], [.vals (.int .i64 0) (x17.2.map (D.int .i64))]⟩ (by kernel_rfl) trivial ?_
      refine K_gh ⟨[(2, (.one (.own 0 0 x17.1)))], [.vals (.int .i64 0) (x17.2.map (D.int .i64))]⟩ (by kernel_rfl) ?_
      cases H
      refine K_ret ?_
      exact Eq.trans (b := some ((.one (.d (.list (((x17.2.map (D.int .i64)).drop 0).take x17.1)))), [])) (by kernel_rfl) (by simp only [dt_map])
def T_sketch_known_l1 (k : Nat) (x1 : (List Int)) (p1 : Int) (p2 : List Int) (p3 : Int) (x4 : Int) (x13 : Int × Int) : Option ((Int × Int) ⊕ Int) :=
  (if x13.2 < x4 then (at? x1 x13.2).bind fun x15 => (at? p2 x13.2).bind fun x16 => (if x15 ≠ 0 then some (.inl ((w64 (x13.1 + (w64 ((w64 (x16 * x16)).tdiv x15)))), (w64 (x13.2 + 1)))) else none) else some (.inr x13.1))
theorem T_sketch_known_l1_ok (k : Nat) (x1 : (List Int)) (p1 : Int) (p2 : List Int) (p3 : Int) (x4 : Int) : ∀ (x13 : Int × Int) (x : (Int × Int) ⊕ Int), T_sketch_known_l1 k x1 p1 p2 p3 x4 x13 = some x → evC X (evF X k) k 0 l_sketch_known_1 ⟨[(1, (.one (.ptr 0 0 0))), (3, (I x13.1)), (7, (.one (.d (.list (x1.map (D.int .i64)))))), (8, (I x4)), (9, (I x13.2))], [.cells [.d (.int .i64 p1), .d (.list (p2.map (D.int .i64))), .d (.int .i64 p3)]]⟩ = some (outS (fun (s : Int × Int) => ⟨[(1, (.one (.ptr 0 0 0))), (3, (I s.1)), (7, (.one (.d (.list (x1.map (D.int .i64)))))), (8, (I x4)), (9, (I s.2))], [.cells [.d (.int .i64 p1), .d (.list (p2.map (D.int .i64))), .d (.int .i64 p3)]]⟩) (fun (r : Int) => (.exit 0, ⟨[(3, (I r))], []⟩)) x) := by
  intro x13 x H
  unfold T_sketch_known_l1 at H
  refine K_in ?_
  refine K_seq ?_
  refine K_reg [] [] ⟨[(1, (.one (.ptr 0 0 0))), (3, (I x13.1)), (7, (.one (.d (.list (x1.map (D.int .i64)))))), (8, (I x4)), (9, (I x13.2)), (10, (B (decide (x13.2 < x4))))], [.cells [.d (.int .i64 p1), .d (.list (p2.map (D.int .i64))), .d (.int .i64 p3)]]⟩ (by kernel_rfl) trivial ?_
  refine K_seq ?_
  rcases ite_some H with ⟨hx14, H⟩ | ⟨hx14, H⟩
  · refine K_t rfl (decide_eq_true hx14) ?_
    refine K_gh ⟨[(1, (.one (.ptr 0 0 0))), (3, (I x13.1)), (7, (.one (.d (.list (x1.map (D.int .i64)))))), (8, (I x4)), (9, (I x13.2))], [.cells [.d (.int .i64 p1), .d (.list (p2.map (D.int .i64))), .d (.int .i64 p3)]]⟩ (by kernel_rfl) ?_
    refine K_skip ?_
    refine K_seq ?_
    refine K_block ?_
    refine K_seq ?_
    obtain ⟨x15, hx15, H⟩ := bind_some' H
    refine K_reg [.l [.int .i64 x15]] [(0 : Int) ≤ x13.2 ∧ x13.2 < (((x1.map (D.int .i64))).length : Int), ((x1.map (D.int .i64)).getD x13.2.toNat (.int .i64 0)).cells = [.int .i64 x15]] ⟨[(1, (.one (.ptr 0 0 0))), (3, (I x13.1)), (4, (I x13.2)), (5, (I x15)), (7, (.one (.d (.list (x1.map (D.int .i64)))))), (8, (I x4)), (9, (I x13.2))], [.cells [.d (.int .i64 p1), .d (.list (p2.map (D.int .i64))), .d (.int .i64 p3)]]⟩ (by kernel_rfl) (AC (at_ok hx15 (D.int .i64) (.int .i64 0)).1 (A1 (at_ok hx15 (D.int .i64) (.int .i64 0)).2)) ?_
    obtain ⟨x16, hx16, H⟩ := bind_some' H
    obtain ⟨hx17, H⟩ := guard_some H
    refine K_reg [.l [.int .i64 x16], .l [.int .i64 x16]] [(0 : Int) ≤ x13.2 ∧ x13.2 < (((p2.map (D.int .i64))).length : Int), ((p2.map (D.int .i64)).getD x13.2.toNat (.int .i64 0)).cells = [.int .i64 x16], (0 : Int) ≤ x13.2 ∧ x13.2 < (((p2.map (D.int .i64))).length : Int), ((p2.map (D.int .i64)).getD x13.2.toNat (.int .i64 0)).cells = [.int .i64 x16], x15 ≠ (0 : Int)] ⟨[(1, (.one (.ptr 0 0 0))), (3, (I (w64 (x13.1 + (w64 ((w64 (x16 * x16)).tdiv x15)))))), (7, (.one (.d (.list (x1.map (D.int .i64)))))), (8, (I x4)), (9, (I x13.2))], [.cells [.d (.int .i64 p1), .d (.list (p2.map (D.int .i64))), .d (.int .i64 p3)]]⟩ (by kernel_rfl) (AC (at_ok hx16 (D.int .i64) (.int .i64 0)).1 (AC (at_ok hx16 (D.int .i64) (.int .i64 0)).2 (AC (at_ok hx16 (D.int .i64) (.int .i64 0)).1 (AC (at_ok hx16 (D.int .i64) (.int .i64 0)).2 (A1 hx17))))) ?_
    refine K_blk ?_
    refine K_reg [] [] ⟨[(1, (.one (.ptr 0 0 0))), (3, (I (w64 (x13.1 + (w64 ((w64 (x16 * x16)).tdiv x15)))))), (7, (.one (.d (.list (x1.map (D.int .i64)))))), (8, (I x4)), (9, (I (w64 (x13.2 + 1))))], [.cells [.d (.int .i64 p1), .d (.list (p2.map (D.int .i64))), .d (.int .i64 p3)]]⟩ (by kernel_rfl) trivial ?_
    cases H
    exact K_end rfl
  · refine K_f rfl (decide_eq_false hx14) ?_
    refine K_gh ⟨[(3, (I x13.1))], []⟩ (by kernel_rfl) ?_
    cases H
    exact K_exit0 rfl rfl
def T_sketch_known (k : Nat) (p1 : Int) (p2 : List Int) (p3 : Int) : Option Int := match k with
  | 0 => none
  | k + 1 => ((T_sketch_lengths k p1 p2 p3).bind fun x1 => (loopT (T_sketch_known_l1 k x1 p1 p2 p3 (x1.length : Int)) k (0, 0)).bind fun x18 => some x18)
theorem T_sketch_known_ok (k : Nat) (p1 : Int) (p2 : List Int) (p3 : Int) (r : Int) : T_sketch_known k p1 p2 p3 = some r → evF X k n_sketch_known [(.agg [.d (.int .i64 p1), .d (.list (p2.map (D.int .i64))), .d (.int .i64 p3)])] [] = some ((I r), []) := by
  intro H
  cases k with
  | zero => simp [T_sketch_known] at H
  | succ k =>
    simp only [T_sketch_known] at H
    refine F_in X_sketch_known rfl ?_
    refine K_seq ?_
    refine K_reg [] [] ⟨[(1, (.one (.ptr 0 0 0)))], [.cells [.d (.int .i64 p1), .d (.list (p2.map (D.int .i64))), .d (.int .i64 p3)]]⟩ (by kernel_rfl) trivial ?_
    refine K_seq ?_
    refine K_reg [] [] ⟨[(1, (.one (.ptr 0 0 0))), (3, (I 0))], [.cells [.d (.int .i64 p1), .d (.list (p2.map (D.int .i64))), .d (.int .i64 p3)]]⟩ (by kernel_rfl) trivial ?_
    refine K_seq ?_
    refine K_seq ?_
    obtain ⟨x1, hx1, H⟩ := bind_some' H
    refine K_reg [.r (.one (.d (.list (x1.map (D.int .i64))))) [], .n x1.length] [evF X k n_sketch_lengths [(.agg [.d (.int .i64 p1), .d (.list (p2.map (D.int .i64))), .d (.int .i64 p3)])] [] = some ((.one (.d (.list (x1.map (D.int .i64))))), []), ((x1.map (D.int .i64))).length = x1.length] ⟨[(1, (.one (.ptr 0 0 0))), (3, (I 0)), (7, (.one (.d (.list (x1.map (D.int .i64)))))), (8, (I (x1.length : Int))), (9, (I 0))], [.cells [.d (.int .i64 p1), .d (.list (p2.map (D.int .i64))), .d (.int .i64 p3)]]⟩ (by kernel_rfl) (AC (T_sketch_lengths_ok k p1 p2 p3 x1 hx1) (A1 (List.length_map _))) ?_
    refine K_block ?_
    obtain ⟨x18, hx18, H⟩ := bind_some' H
    refine K_loop ⟨[(3, (I x18))], []⟩ (loop_ok (fun (s : Int × Int) => ⟨[(1, (.one (.ptr 0 0 0))), (3, (I s.1)), (7, (.one (.d (.list (x1.map (D.int .i64)))))), (8, (I (x1.length : Int))), (9, (I s.2))], [.cells [.d (.int .i64 p1), .d (.list (p2.map (D.int .i64))), .d (.int .i64 p3)]]⟩) (fun (r : Int) => (.exit 0, ⟨[(3, (I r))], []⟩)) (fun r h => by cases h) (T_sketch_known_l1_ok k x1 p1 p2 p3 (x1.length : Int)) k (0, 0) x18 hx18) rfl ?_
    refine K_seq ?_
    refine K_reg [] [] ⟨[(2, (I x18))], []⟩ (by kernel_rfl) trivial ?_
    refine K_gh ⟨[(2, (I x18))], []⟩ (by kernel_rfl) ?_
    cases H
    refine K_ret ?_
    kernel_rfl
def T_sketch_valid_l1 (k : Nat) (p1 : Int) (p2 : List Int) (p3 : Int) (x8 : Int) (x16 : Int) : Option (Int ⊕ (Unit ⊕ Unit)) :=
  (if x16 < x8 then ((at? p2 x16).bind fun x18 => (if (decide (x18 < (-2097152)) || decide (2097152 < x18)) = true then some (.inr (.inr ())) else some (.inl (w64 (x16 + 1))))) else some (.inr (.inl ())))
theorem T_sketch_valid_l1_ok (k : Nat) (p1 : Int) (p2 : List Int) (p3 : Int) (x8 : Int) : ∀ (x16 : Int) (x : Int ⊕ (Unit ⊕ Unit)), T_sketch_valid_l1 k p1 p2 p3 x8 x16 = some x → evC X (evF X k) k 0 l_sketch_valid_1 ⟨[(1, (.one (.ptr 0 0 0))), (38, (.one (.d (.list (p2.map (D.int .i64)))))), (39, (I x8)), (40, (I x16))], [.cells [.d (.int .i64 p1), .d (.list (p2.map (D.int .i64))), .d (.int .i64 p3)]]⟩ = some (outS (fun (s : Int) => ⟨[(1, (.one (.ptr 0 0 0))), (38, (.one (.d (.list (p2.map (D.int .i64)))))), (39, (I x8)), (40, (I s))], [.cells [.d (.int .i64 p1), .d (.list (p2.map (D.int .i64))), .d (.int .i64 p3)]]⟩) (fun (r : Unit ⊕ Unit) => Sum.elim (fun y => (.exit 0, ⟨[(1, (.one (.ptr 0 0 0)))], [.cells [.d (.int .i64 p1), .d (.list (p2.map (D.int .i64))), .d (.int .i64 p3)]]⟩)) (fun y => (.ret, ⟨[(2, (B false))], []⟩)) r) x) := by
  intro x16 x H
  unfold T_sketch_valid_l1 at H
  refine K_in ?_
  refine K_seq ?_
  refine K_reg [] [] ⟨[(1, (.one (.ptr 0 0 0))), (38, (.one (.d (.list (p2.map (D.int .i64)))))), (39, (I x8)), (40, (I x16)), (41, (B (decide (x16 < x8))))], [.cells [.d (.int .i64 p1), .d (.list (p2.map (D.int .i64))), .d (.int .i64 p3)]]⟩ (by kernel_rfl) trivial ?_
  refine K_seq ?_
  rcases ite_some H with ⟨hx17, H⟩ | ⟨hx17, H⟩
  · refine K_t rfl (decide_eq_true hx17) ?_
    refine K_gh ⟨[(1, (.one (.ptr 0 0 0))), (38, (.one (.d (.list (p2.map (D.int .i64)))))), (39, (I x8)), (40, (I x16))], [.cells [.d (.int .i64 p1), .d (.list (p2.map (D.int .i64))), .d (.int .i64 p3)]]⟩ (by kernel_rfl) ?_
    refine K_skip ?_
    refine K_seq ?_
    refine K_block ?_
    refine K_seq ?_
    obtain ⟨x18, hx18, H⟩ := bind_some' H
    refine K_reg [.l [.int .i64 x18]] [(0 : Int) ≤ x16 ∧ x16 < (((p2.map (D.int .i64))).length : Int), ((p2.map (D.int .i64)).getD x16.toNat (.int .i64 0)).cells = [.int .i64 x18]] ⟨[(1, (.one (.ptr 0 0 0))), (4, (I x18)), (38, (.one (.d (.list (p2.map (D.int .i64)))))), (39, (I x8)), (40, (I x16))], [.cells [.d (.int .i64 p1), .d (.list (p2.map (D.int .i64))), .d (.int .i64 p3)]]⟩ (by kernel_rfl) (AC (at_ok hx18 (D.int .i64) (.int .i64 0)).1 (A1 (at_ok hx18 (D.int .i64) (.int .i64 0)).2)) ?_
    refine K_seq ?_
    refine K_reg [.m] [([.cells [.d (.int .i64 p1), .d (.list (p2.map (D.int .i64))), .d (.int .i64 p3)]] : Heap) = [.cells [.d (.int .i64 p1), .d (.list (p2.map (D.int .i64))), .d (.int .i64 p3)]]] ⟨[(1, (.one (.ptr 0 0 0))), (38, (.one (.d (.list (p2.map (D.int .i64)))))), (39, (I x8)), (40, (I x16)), (49, (B (decide (x18 < (-2097152)) || decide (2097152 < x18))))], [.cells [.d (.int .i64 p1), .d (.list (p2.map (D.int .i64))), .d (.int .i64 p3)]]⟩ (by kernel_rfl) (A1 rfl) ?_
    rcases ite_some H with ⟨hx19, H⟩ | ⟨hx19, H⟩
    · refine K_t rfl hx19 ?_
      refine K_seq ?_
      refine K_reg [] [] ⟨[(2, (B false))], []⟩ (by kernel_rfl) trivial ?_
      refine K_gh ⟨[(2, (B false))], []⟩ (by kernel_rfl) ?_
      cases H
      exact K_ret rfl
    · refine K_f rfl (Bool.eq_false_iff.2 hx19) ?_
      refine K_gh ⟨[(1, (.one (.ptr 0 0 0))), (38, (.one (.d (.list (p2.map (D.int .i64)))))), (39, (I x8)), (40, (I x16))], [.cells [.d (.int .i64 p1), .d (.list (p2.map (D.int .i64))), .d (.int .i64 p3)]]⟩ (by kernel_rfl) ?_
      refine K_skip ?_
      refine K_blk ?_
      refine K_reg [] [] ⟨[(1, (.one (.ptr 0 0 0))), (38, (.one (.d (.list (p2.map (D.int .i64)))))), (39, (I x8)), (40, (I (w64 (x16 + 1))))], [.cells [.d (.int .i64 p1), .d (.list (p2.map (D.int .i64))), .d (.int .i64 p3)]]⟩ (by kernel_rfl) trivial ?_
      cases H
      exact K_end rfl
  · refine K_f rfl (decide_eq_false hx17) ?_
    refine K_gh ⟨[(1, (.one (.ptr 0 0 0)))], [.cells [.d (.int .i64 p1), .d (.list (p2.map (D.int .i64))), .d (.int .i64 p3)]]⟩ (by kernel_rfl) ?_
    cases H
    exact K_exit0 rfl rfl
def T_sketch_valid (k : Nat) (p1 : Int) (p2 : List Int) (p3 : Int) : Option Bool := match k with
  | 0 => none
  | k + 1 => ((((T_sketch_lengths k p1 p2 p3).bind fun x1 => (if ((decide ((x1.length : Int) = 0) || decide (p3 < 0)) || decide ((w64 ((w64 ((w64 ((w64 (p1 * p1)) * p1)) * 1000)) * 1000)) < p3)) = true then some true else (if p1 ≠ 0 then some (!decide ((p3.tmod p1) = 0)) else none)))).bind fun x5 => (if x5 = true then some false else ((loopT (T_sketch_valid_l1 k p1 p2 p3 (p2.length : Int)) k 0).bind fun x20 => (match x20 with | .inl x21 => ((T_sketch_known k p1 p2 p3).bind fun x22 => some (decide (x22 ≤ p3))) | .inr x23 => some false))))
theorem T_sketch_valid_ok (k : Nat) (p1 : Int) (p2 : List Int) (p3 : Int) (r : Bool) : T_sketch_valid k p1 p2 p3 = some r → evF X k n_sketch_valid [(.agg [.d (.int .i64 p1), .d (.list (p2.map (D.int .i64))), .d (.int .i64 p3)])] [] = some ((B r), []) := by
  intro H
  cases k with
  | zero => simp [T_sketch_valid] at H
  | succ k =>
    simp only [T_sketch_valid] at H
    refine F_in X_sketch_valid rfl ?_
    refine K_seq ?_
    refine K_reg [] [] ⟨[(1, (.one (.ptr 0 0 0)))], [.cells [.d (.int .i64 p1), .d (.list (p2.map (D.int .i64))), .d (.int .i64 p3)]]⟩ (by kernel_rfl) trivial ?_
    refine K_seq ?_
    refine K_seq ?_
    obtain ⟨x5, hx5, H⟩ := bind_some' H
    refine K_of ⟨[(1, (.one (.ptr 0 0 0))), (36, (B x5))], [.cells [.d (.int .i64 p1), .d (.list (p2.map (D.int .i64))), .d (.int .i64 p3)]]⟩ ?_ ?_
    · clear H; have H := hx5; clear hx5; refine K_in ?_
      obtain ⟨x1, hx1, H⟩ := bind_some' H
      rcases ite_some H with ⟨hx3, H⟩ | ⟨hx3, H⟩
      · refine K_reg [.r (.one (.d (.list (x1.map (D.int .i64))))) [], .n x1.length, .m, .m, .b true] [evF X k n_sketch_lengths [(.agg [.d (.int .i64 p1), .d (.list (p2.map (D.int .i64))), .d (.int .i64 p3)])] [] = some ((.one (.d (.list (x1.map (D.int .i64))))), []), ((x1.map (D.int .i64))).length = x1.length, ([.cells [.d (.int .i64 p1), .d (.list (p2.map (D.int .i64))), .d (.int .i64 p3)]] : Heap) = [.cells [.d (.int .i64 p1), .d (.list (p2.map (D.int .i64))), .d (.int .i64 p3)]], ([.cells [.d (.int .i64 p1), .d (.list (p2.map (D.int .i64))), .d (.int .i64 p3)]] : Heap) = [.cells [.d (.int .i64 p1), .d (.list (p2.map (D.int .i64))), .d (.int .i64 p3)]], ((decide ((x1.length : Int) = 0) || decide (p3 < 0)) || decide ((w64 ((w64 ((w64 ((w64 (p1 * p1)) * p1)) * 1000)) * 1000)) < p3)) = true] ⟨[(1, (.one (.ptr 0 0 0))), (36, (B true))], [.cells [.d (.int .i64 p1), .d (.list (p2.map (D.int .i64))), .d (.int .i64 p3)]]⟩ (by kernel_rfl) (AC (T_sketch_lengths_ok k p1 p2 p3 x1 hx1) (AC (List.length_map _) (AC rfl (AC rfl (A1 hx3))))) ?_
        cases H
        exact K_end rfl
      · obtain ⟨hx4, H⟩ := guard_some H
        refine K_reg [.r (.one (.d (.list (x1.map (D.int .i64))))) [], .n x1.length, .m, .m, .b false] [evF X k n_sketch_lengths [(.agg [.d (.int .i64 p1), .d (.list (p2.map (D.int .i64))), .d (.int .i64 p3)])] [] = some ((.one (.d (.list (x1.map (D.int .i64))))), []), ((x1.map (D.int .i64))).length = x1.length, ([.cells [.d (.int .i64 p1), .d (.list (p2.map (D.int .i64))), .d (.int .i64 p3)]] : Heap) = [.cells [.d (.int .i64 p1), .d (.list (p2.map (D.int .i64))), .d (.int .i64 p3)]], ([.cells [.d (.int .i64 p1), .d (.list (p2.map (D.int .i64))), .d (.int .i64 p3)]] : Heap) = [.cells [.d (.int .i64 p1), .d (.list (p2.map (D.int .i64))), .d (.int .i64 p3)]], ((decide ((x1.length : Int) = 0) || decide (p3 < 0)) || decide ((w64 ((w64 ((w64 ((w64 (p1 * p1)) * p1)) * 1000)) * 1000)) < p3)) = false, p1 ≠ (0 : Int)] ⟨[(1, (.one (.ptr 0 0 0))), (36, (B (!decide ((p3.tmod p1) = 0))))], [.cells [.d (.int .i64 p1), .d (.list (p2.map (D.int .i64))), .d (.int .i64 p3)]]⟩ (by kernel_rfl) (AC (T_sketch_lengths_ok k p1 p2 p3 x1 hx1) (AC (List.length_map _) (AC rfl (AC rfl (AC (Bool.eq_false_iff.2 hx3) (A1 hx4)))))) ?_
        cases H
        exact K_end rfl
    rcases ite_some H with ⟨hx6, H⟩ | ⟨hx6, H⟩
    · refine K_t rfl hx6 ?_
      refine K_seq ?_
      refine K_reg [] [] ⟨[(2, (B false))], []⟩ (by kernel_rfl) trivial ?_
      refine K_gh ⟨[(2, (B false))], []⟩ (by kernel_rfl) ?_
      cases H
      refine K_ret ?_
      kernel_rfl
    · refine K_f rfl (Bool.eq_false_iff.2 hx6) ?_
      refine K_gh ⟨[(1, (.one (.ptr 0 0 0)))], [.cells [.d (.int .i64 p1), .d (.list (p2.map (D.int .i64))), .d (.int .i64 p3)]]⟩ (by kernel_rfl) ?_
      refine K_skip ?_
      refine K_seq ?_
      refine K_seq ?_
      refine K_reg [.n p2.length] [((p2.map (D.int .i64))).length = p2.length] ⟨[(1, (.one (.ptr 0 0 0))), (38, (.one (.d (.list (p2.map (D.int .i64)))))), (39, (I (p2.length : Int))), (40, (I 0))], [.cells [.d (.int .i64 p1), .d (.list (p2.map (D.int .i64))), .d (.int .i64 p3)]]⟩ (by kernel_rfl) (A1 (List.length_map _)) ?_
      refine K_block ?_
      obtain ⟨x20, hx20, H⟩ := bind_some' H
      cases x20 with
      | inl x21 =>
        dsimp only at H
        refine K_loop ⟨[(1, (.one (.ptr 0 0 0)))], [.cells [.d (.int .i64 p1), .d (.list (p2.map (D.int .i64))), .d (.int .i64 p3)]]⟩ (loop_ok (fun (s : Int) => ⟨[(1, (.one (.ptr 0 0 0))), (38, (.one (.d (.list (p2.map (D.int .i64)))))), (39, (I (p2.length : Int))), (40, (I s))], [.cells [.d (.int .i64 p1), .d (.list (p2.map (D.int .i64))), .d (.int .i64 p3)]]⟩) (fun (r : Unit ⊕ Unit) => Sum.elim (fun y => (.exit 0, ⟨[(1, (.one (.ptr 0 0 0)))], [.cells [.d (.int .i64 p1), .d (.list (p2.map (D.int .i64))), .d (.int .i64 p3)]]⟩)) (fun y => (.ret, ⟨[(2, (B false))], []⟩)) r) (fun r h => by cases r <;> cases h) (T_sketch_valid_l1_ok k p1 p2 p3 (p2.length : Int)) k 0 (.inl x21) hx20) rfl ?_
        refine K_seq ?_
        obtain ⟨x22, hx22, H⟩ := bind_some' H
        refine K_reg [.r (I x22) []] [evF X k n_sketch_known [(.agg [.d (.int .i64 p1), .d (.list (p2.map (D.int .i64))), .d (.int .i64 p3)])] [] = some ((I x22), [])] ⟨[(2, (B (decide (x22 ≤ p3))))], []⟩ (by kernel_rfl) (A1 (T_sketch_known_ok k p1 p2 p3 x22 hx22)) ?_
        refine K_gh ⟨[(2, (B (decide (x22 ≤ p3))))], []⟩ (by kernel_rfl) ?_
        cases H
        refine K_ret ?_
        kernel_rfl
      | inr x23 =>
        dsimp only at H
        cases H
        refine K_loopr ⟨[(2, (B false))], []⟩ (loop_ok (fun (s : Int) => ⟨[(1, (.one (.ptr 0 0 0))), (38, (.one (.d (.list (p2.map (D.int .i64)))))), (39, (I (p2.length : Int))), (40, (I s))], [.cells [.d (.int .i64 p1), .d (.list (p2.map (D.int .i64))), .d (.int .i64 p3)]]⟩) (fun (r : Unit ⊕ Unit) => Sum.elim (fun y => (.exit 0, ⟨[(1, (.one (.ptr 0 0 0)))], [.cells [.d (.int .i64 p1), .d (.list (p2.map (D.int .i64))), .d (.int .i64 p3)]]⟩)) (fun y => (.ret, ⟨[(2, (B false))], []⟩)) r) (fun r h => by cases r <;> cases h) (T_sketch_valid_l1_ok k p1 p2 p3 (p2.length : Int)) k 0 (.inr x23) hx20) ?_
        kernel_rfl
def T_ratio_divisor_l1 (k : Nat) (x5 : Int × Int) : Option ((Int × Int) ⊕ Int) :=
  (if (!decide (x5.2 = 0)) = true then (if x5.2 ≠ 0 then some (.inl (x5.2, (x5.1.tmod x5.2))) else none) else some (.inr x5.1))
theorem T_ratio_divisor_l1_ok (k : Nat) : ∀ (x5 : Int × Int) (x : (Int × Int) ⊕ Int), T_ratio_divisor_l1 k x5 = some x → evC X (evF X k) k 0 l_ratio_divisor_1 ⟨[(0, (I x5.1)), (1, (I x5.2))], []⟩ = some (outS (fun (s : Int × Int) => ⟨[(0, (I s.1)), (1, (I s.2))], []⟩) (fun (r : Int) => (.exit 0, ⟨[(0, (I r))], []⟩)) x) := by
  intro x5 x H
  unfold T_ratio_divisor_l1 at H
  refine K_in ?_
  refine K_seq ?_
  refine K_seq ?_
  refine K_reg [] [] ⟨[(0, (I x5.1)), (1, (I x5.2)), (6, (B (!decide (x5.2 = 0))))], []⟩ (by kernel_rfl) trivial ?_
  rcases ite_some H with ⟨hx6, H⟩ | ⟨hx6, H⟩
  · refine K_t rfl hx6 ?_
    refine K_gh ⟨[(0, (I x5.1)), (1, (I x5.2))], []⟩ (by kernel_rfl) ?_
    refine K_skip ?_
    refine K_block ?_
    obtain ⟨hx7, H⟩ := guard_some H
    refine K_reg [] [x5.2 ≠ (0 : Int)] ⟨[(0, (I x5.2)), (1, (I (x5.1.tmod x5.2)))], []⟩ (by kernel_rfl) (A1 hx7) ?_
    refine K_blk ?_
    cases H
    exact K_end rfl
  · refine K_f rfl (Bool.eq_false_iff.2 hx6) ?_
    refine K_gh ⟨[(0, (I x5.1))], []⟩ (by kernel_rfl) ?_
    cases H
    exact K_exit0 rfl rfl
def T_ratio_divisor (k : Nat) (p1 : Int) (p2 : Int) : Option Int := match k with
  | 0 => none
  | k + 1 => ((loopT (T_ratio_divisor_l1 k) k (p1, p2)).bind fun x8 => some x8)
theorem T_ratio_divisor_ok (k : Nat) (p1 : Int) (p2 : Int) (r : Int) : T_ratio_divisor k p1 p2 = some r → evF X k n_ratio_divisor [(I p1), (I p2)] [] = some ((I r), []) := by
  intro H
  cases k with
  | zero => simp [T_ratio_divisor] at H
  | succ k =>
    simp only [T_ratio_divisor] at H
    refine F_in X_ratio_divisor rfl ?_
    refine K_seq ?_
    refine K_reg [] [] ⟨[(0, (I p1)), (1, (I p2))], []⟩ (by kernel_rfl) trivial ?_
    refine K_seq ?_
    refine K_block ?_
    obtain ⟨x8, hx8, H⟩ := bind_some' H
    refine K_loop ⟨[(0, (I x8))], []⟩ (loop_ok (fun (s : Int × Int) => ⟨[(0, (I s.1)), (1, (I s.2))], []⟩) (fun (r : Int) => (.exit 0, ⟨[(0, (I r))], []⟩)) (fun r h => by cases h) (T_ratio_divisor_l1_ok k) k (p1, p2) x8 hx8) rfl ?_
    refine K_seq ?_
    refine K_reg [] [] ⟨[(4, (I x8))], []⟩ (by kernel_rfl) trivial ?_
    refine K_gh ⟨[(4, (I x8))], []⟩ (by kernel_rfl) ?_
    cases H
    refine K_ret ?_
    kernel_rfl
def T_ratio_within (k : Nat) (p1 : Int) (p2 : Int) : Option Unit := match k with
  | 0 => none
  | k + 1 => some ()
theorem T_ratio_within_ok (k : Nat) (p1 : Int) (p2 : Int) (r : Unit) : T_ratio_within k p1 p2 = some r → evF X k n_ratio_within [(.agg [.d (.int .i64 p1), .d (.int .i64 p2)])] [] = some ((B (((decide (0 ≤ p1) && decide (p1 ≤ 2305843009213693952)) && decide (1 ≤ p2)) && decide (p2 ≤ 1152921504606846976))), []) := by
  intro H
  cases k with
  | zero => simp [T_ratio_within] at H
  | succ k =>
    simp only [T_ratio_within] at H
    refine F_in X_ratio_within rfl ?_
    refine K_seq ?_
    refine K_reg [] [] ⟨[(1, (.one (.ptr 0 0 0)))], [.cells [.d (.int .i64 p1), .d (.int .i64 p2)]]⟩ (by kernel_rfl) trivial ?_
    refine K_seq ?_
    refine K_reg [.m, .m, .m] [([.cells [.d (.int .i64 p1), .d (.int .i64 p2)]] : Heap) = [.cells [.d (.int .i64 p1), .d (.int .i64 p2)]], ([.cells [.d (.int .i64 p1), .d (.int .i64 p2)]] : Heap) = [.cells [.d (.int .i64 p1), .d (.int .i64 p2)]], ([.cells [.d (.int .i64 p1), .d (.int .i64 p2)]] : Heap) = [.cells [.d (.int .i64 p1), .d (.int .i64 p2)]]] ⟨[(2, (B (((decide (0 ≤ p1) && decide (p1 ≤ 2305843009213693952)) && decide (1 ≤ p2)) && decide (p2 ≤ 1152921504606846976))))], []⟩ (by kernel_rfl) (AC rfl (AC rfl (A1 rfl))) ?_
    refine K_gh ⟨[(2, (B (((decide (0 ≤ p1) && decide (p1 ≤ 2305843009213693952)) && decide (1 ≤ p2)) && decide (p2 ≤ 1152921504606846976))))], []⟩ (by kernel_rfl) ?_
    cases H
    refine K_ret ?_
    kernel_rfl
def T_ratio_Make (k : Nat) (p1 : Int) (p2 : Int) : Option (Int × Int × Int) := match k with
  | 0 => none
  | k + 1 => (if (decide (p1 < 0) || decide (p2 < 1)) = true then some (0, 0, 1) else (T_ratio_divisor k p1 p2).bind fun x2 => (if x2 ≠ 0 then (T_ratio_within k (w64 (p1.tdiv x2)) (w64 (p2.tdiv x2))).bind fun x4 => (if (!(((decide (0 ≤ (w64 (p1.tdiv x2))) && decide ((w64 (p1.tdiv x2)) ≤ 2305843009213693952)) && decide (1 ≤ (w64 (p2.tdiv x2)))) && decide ((w64 (p2.tdiv x2)) ≤ 1152921504606846976))) = true then some (0, 0, 1) else some ((w64 (p1.tdiv x2)), (w64 (p2.tdiv x2)), 0)) else none))
theorem T_ratio_Make_ok (k : Nat) (p1 : Int) (p2 : Int) (r : Int × Int × Int) : T_ratio_Make k p1 p2 = some r → evF X k n_ratio_Make [(I p1), (I p2)] [] = some ((.tup [(true, [.d (.int .i64 r.1), .d (.int .i64 r.2.1)]), (false, [.d (.int .i64 r.2.2)])]), []) := by
  intro H
  cases k with
  | zero => simp [T_ratio_Make] at H
  | succ k =>
    simp only [T_ratio_Make] at H
    refine F_in X_ratio_Make rfl ?_
    refine K_seq ?_
    refine K_reg [] [] ⟨[(0, (I p1)), (1, (I p2)), (4, (.one (.ptr 0 0 0)))], [.cells [.d (.int .i64 0), .d (.int .i64 0)]]⟩ (by kernel_rfl) trivial ?_
    refine K_seq ?_
    refine K_seq ?_
    refine K_reg [.m] [([.cells [.d (.int .i64 0), .d (.int .i64 0)]] : Heap) = [.cells [.d (.int .i64 0), .d (.int .i64 0)]]] ⟨[(0, (I p1)), (1, (I p2)), (4, (.one (.ptr 0 0 0))), (13, (B (decide (p1 < 0) || decide (p2 < 1))))], [.cells [.d (.int .i64 0), .d (.int .i64 0)]]⟩ (by kernel_rfl) (A1 rfl) ?_
    rcases ite_some H with ⟨hx1, H⟩ | ⟨hx1, H⟩
    · refine K_t rfl hx1 ?_
      refine K_seq ?_
      refine K_reg [] [] ⟨[(4, (.one (.ptr 0 0 0))), (5, (I 1))], [.cells [.d (.int .i64 0), .d (.int .i64 0)]]⟩ (by kernel_rfl) trivial ?_
      refine K_gh ⟨[(4, (.one (.ptr 0 0 0))), (5, (I 1))], [.cells [.d (.int .i64 0), .d (.int .i64 0)]]⟩ (by kernel_rfl) ?_
      cases H
      refine K_ret ?_
      kernel_rfl
    · refine K_f rfl (Bool.eq_false_iff.2 hx1) ?_
      refine K_gh ⟨[(0, (I p1)), (1, (I p2)), (4, (.one (.ptr 0 0 0)))], [.cells [.d (.int .i64 0), .d (.int .i64 0)]]⟩ (by kernel_rfl) ?_
      refine K_skip ?_
      refine K_seq ?_
      obtain ⟨x2, hx2, H⟩ := bind_some' H
      refine K_reg [.r (I x2) []] [evF X k n_ratio_divisor [(I p1), (I p2)] [] = some ((I x2), [])] ⟨[(0, (I p1)), (1, (I p2)), (4, (.one (.ptr 0 0 0))), (6, (I x2))], [.cells [.d (.int .i64 0), .d (.int .i64 0)]]⟩ (by kernel_rfl) (A1 (T_ratio_divisor_ok k p1 p2 x2 hx2)) ?_
      refine K_seq ?_
      obtain ⟨hx3, H⟩ := guard_some H
      refine K_reg [] [x2 ≠ (0 : Int), x2 ≠ (0 : Int)] ⟨[(4, (.one (.ptr 0 0 0))), (7, (.one (.ptr 1 0 0)))], [.cells [.d (.int .i64 0), .d (.int .i64 0)], .cells [.d (.int .i64 (w64 (p1.tdiv x2))), .d (.int .i64 (w64 (p2.tdiv x2)))]]⟩ (by kernel_rfl) (AC hx3 (A1 hx3)) ?_
      refine K_seq ?_
      refine K_seq ?_
      obtain ⟨x4, hx4, H⟩ := bind_some' H
      refine K_reg [.r (B (((decide (0 ≤ (w64 (p1.tdiv x2))) && decide ((w64 (p1.tdiv x2)) ≤ 2305843009213693952)) && decide (1 ≤ (w64 (p2.tdiv x2)))) && decide ((w64 (p2.tdiv x2)) ≤ 1152921504606846976))) []] [evF X k n_ratio_within [(.agg [.d (.int .i64 (w64 (p1.tdiv x2))), .d (.int .i64 (w64 (p2.tdiv x2)))])] [] = some ((B (((decide (0 ≤ (w64 (p1.tdiv x2))) && decide ((w64 (p1.tdiv x2)) ≤ 2305843009213693952)) && decide (1 ≤ (w64 (p2.tdiv x2)))) && decide ((w64 (p2.tdiv x2)) ≤ 1152921504606846976))), [])] ⟨[(4, (.one (.ptr 0 0 0))), (7, (.one (.ptr 1 0 0))), (27, (B (!(((decide (0 ≤ (w64 (p1.tdiv x2))) && decide ((w64 (p1.tdiv x2)) ≤ 2305843009213693952)) && decide (1 ≤ (w64 (p2.tdiv x2)))) && decide ((w64 (p2.tdiv x2)) ≤ 1152921504606846976)))))], [.cells [.d (.int .i64 0), .d (.int .i64 0)], .cells [.d (.int .i64 (w64 (p1.tdiv x2))), .d (.int .i64 (w64 (p2.tdiv x2)))]]⟩ (by kernel_rfl) (A1 (T_ratio_within_ok k (w64 (p1.tdiv x2)) (w64 (p2.tdiv x2)) x4 hx4)) ?_
      rcases ite_some H with ⟨hx5, H⟩ | ⟨hx5, H⟩
      · refine K_t rfl hx5 ?_
        refine K_seq ?_
        refine K_reg [] [] ⟨[(4, (.one (.ptr 0 0 0))), (5, (I 1))], [.cells [.d (.int .i64 0), .d (.int .i64 0)]]⟩ (by kernel_rfl) trivial ?_
        refine K_gh ⟨[(4, (.one (.ptr 0 0 0))), (5, (I 1))], [.cells [.d (.int .i64 0), .d (.int .i64 0)]]⟩ (by kernel_rfl) ?_
        cases H
        refine K_ret ?_
        kernel_rfl
      · refine K_f rfl (Bool.eq_false_iff.2 hx5) ?_
        refine K_gh ⟨[(4, (.one (.ptr 0 0 0))), (7, (.one (.ptr 1 0 0)))], [.cells [.d (.int .i64 0), .d (.int .i64 0)], .cells [.d (.int .i64 (w64 (p1.tdiv x2))), .d (.int .i64 (w64 (p2.tdiv x2)))]]⟩ (by kernel_rfl) ?_
        refine K_skip ?_
        refine K_seq ?_
        refine K_reg [] [] ⟨[(4, (.one (.ptr 0 0 0))), (5, (I 0))], [.cells [.d (.int .i64 (w64 (p1.tdiv x2))), .d (.int .i64 (w64 (p2.tdiv x2)))]]⟩ (by kernel_rfl) trivial ?_
        refine K_gh ⟨[(4, (.one (.ptr 0 0 0))), (5, (I 0))], [.cells [.d (.int .i64 (w64 (p1.tdiv x2))), .d (.int .i64 (w64 (p2.tdiv x2)))]]⟩ (by kernel_rfl) ?_
        cases H
        refine K_ret ?_
        kernel_rfl
def T_sketch_flat_l1 (k : Nat) (p1 : Nat) (p2 : List (Int × Int)) (x2 : Int) (x12 : Int) : Option (Int ⊕ (Unit ⊕ (Int × Int × Int))) :=
  (if x12 < x2 then (if (0 : Int) ≤ x12 ∧ x12 < ((p1 : Nat) : Int) then (p2[(0 + x12.toNat)]?).bind fun x15 => (if (decide (0 < x15.1) || decide (x15.2 < 0)) = true then ((T_ratio_Make k 1 1).bind fun x17 => some (.inr (.inr (x17.2.2, x17.1, x17.2.1)))) else some (.inl (w64 (x12 + 1)))) else none) else some (.inr (.inl ())))
theorem T_sketch_flat_l1_ok (k : Nat) (p1 : Nat) (p2 : List (Int × Int)) (x2 : Int) : ∀ (x12 : Int) (x : Int ⊕ (Unit ⊕ (Int × Int × Int))), T_sketch_flat_l1 k p1 p2 x2 x12 = some x → evC X (evF X k) k 1 l_sketch_flat_1 ⟨[(2, (.one (.ptr 1 0 0))), (6, (.one (.own 0 0 p1))), (7, (I x2)), (8, (I x12))], [.vals (.agg [(.int .i64 0), (.int .i64 0)]) (p2.map e_st0), .cells [.d (.int .i64 0), .d (.int .i64 0)]]⟩ = some (outS (fun (s : Int) => ⟨[(2, (.one (.ptr 1 0 0))), (6, (.one (.own 0 0 p1))), (7, (I x2)), (8, (I s))], [.vals (.agg [(.int .i64 0), (.int .i64 0)]) (p2.map e_st0), .cells [.d (.int .i64 0), .d (.int .i64 0)]]⟩) (fun (r : Unit ⊕ (Int × Int × Int)) => Sum.elim (fun y => (.exit 0, ⟨[(2, (.one (.ptr 1 0 0)))], [.vals (.agg [(.int .i64 0), (.int .i64 0)]) (p2.map e_st0), .cells [.d (.int .i64 0), .d (.int .i64 0)]]⟩)) (fun y => (.ret, ⟨[(2, (.one (.ptr 1 0 0))), (3, (I y.1))], [.vals (.agg [(.int .i64 0), (.int .i64 0)]) (p2.map e_st0), .cells [.d (.int .i64 y.2.1), .d (.int .i64 y.2.2)]]⟩)) r) x) := by
  intro x12 x H
  unfold T_sketch_flat_l1 at H
  refine K_in ?_
  refine K_seq ?_
  refine K_reg [] [] ⟨[(2, (.one (.ptr 1 0 0))), (6, (.one (.own 0 0 p1))), (7, (I x2)), (8, (I x12)), (9, (B (decide (x12 < x2))))], [.vals (.agg [(.int .i64 0), (.int .i64 0)]) (p2.map e_st0), .cells [.d (.int .i64 0), .d (.int .i64 0)]]⟩ (by kernel_rfl) trivial ?_
  refine K_seq ?_
  rcases ite_some H with ⟨hx13, H⟩ | ⟨hx13, H⟩
  · refine K_t rfl (decide_eq_true hx13) ?_
    refine K_gh ⟨[(2, (.one (.ptr 1 0 0))), (6, (.one (.own 0 0 p1))), (7, (I x2)), (8, (I x12))], [.vals (.agg [(.int .i64 0), (.int .i64 0)]) (p2.map e_st0), .cells [.d (.int .i64 0), .d (.int .i64 0)]]⟩ (by kernel_rfl) ?_
    refine K_skip ?_
    refine K_seq ?_
    refine K_block ?_
    refine K_seq ?_
    obtain ⟨hx14, H⟩ := guard_some H
    obtain ⟨x15, hx15, H⟩ := bind_some' H
    refine K_reg [.l [.int .i64 x15.1, .int .i64 x15.2]] [(0 : Int) ≤ x12 ∧ x12 < ((p1 : Nat) : Int), ((p2.map e_st0).getD (0 + x12.toNat) (.agg [(.int .i64 0), (.int .i64 0)])).cells = [.int .i64 x15.1, .int .i64 x15.2]] ⟨[(2, (.one (.ptr 1 0 0))), (5, (.one (.ptr 2 0 0))), (6, (.one (.own 0 0 p1))), (7, (I x2)), (8, (I x12))], [.vals (.agg [(.int .i64 0), (.int .i64 0)]) (p2.map e_st0), .cells [.d (.int .i64 0), .d (.int .i64 0)], .cells [.d (.int .i64 x15.1), .d (.int .i64 x15.2)]]⟩ (by kernel_rfl) (AC hx14 (A1 (ld_ok hx15 e_st0 (.agg [(.int .i64 0), (.int .i64 0)])))) ?_
    refine K_seq ?_
    refine K_reg [.m] [([.vals (.agg [(.int .i64 0), (.int .i64 0)]) (p2.map e_st0), .cells [.d (.int .i64 0), .d (.int .i64 0)], .cells [.d (.int .i64 x15.1), .d (.int .i64 x15.2)]] : Heap) = [.vals (.agg [(.int .i64 0), (.int .i64 0)]) (p2.map e_st0), .cells [.d (.int .i64 0), .d (.int .i64 0)], .cells [.d (.int .i64 x15.1), .d (.int .i64 x15.2)]]] ⟨[(2, (.one (.ptr 1 0 0))), (6, (.one (.own 0 0 p1))), (7, (I x2)), (8, (I x12)), (19, (B (decide (0 < x15.1) || decide (x15.2 < 0))))], [.vals (.agg [(.int .i64 0), (.int .i64 0)]) (p2.map e_st0), .cells [.d (.int .i64 0), .d (.int .i64 0)]]⟩ (by kernel_rfl) (A1 rfl) ?_
    rcases ite_some H with ⟨hx16, H⟩ | ⟨hx16, H⟩
    · refine K_t rfl hx16 ?_
      refine K_seq ?_
      obtain ⟨x17, hx17, H⟩ := bind_some' H
      refine K_reg [.r (.tup [(true, [.d (.int .i64 x17.1), .d (.int .i64 x17.2.1)]), (false, [.d (.int .i64 x17.2.2)])]) []] [evF X k n_ratio_Make [(I 1), (I 1)] [] = some ((.tup [(true, [.d (.int .i64 x17.1), .d (.int .i64 x17.2.1)]), (false, [.d (.int .i64 x17.2.2)])]), [])] ⟨[(2, (.one (.ptr 1 0 0))), (3, (I x17.2.2))], [.vals (.agg [(.int .i64 0), (.int .i64 0)]) (p2.map e_st0), .cells [.d (.int .i64 x17.1), .d (.int .i64 x17.2.1)]]⟩ (by kernel_rfl) (A1 (T_ratio_Make_ok k 1 1 x17 hx17)) ?_
      refine K_gh ⟨[(2, (.one (.ptr 1 0 0))), (3, (I x17.2.2))], [.vals (.agg [(.int .i64 0), (.int .i64 0)]) (p2.map e_st0), .cells [.d (.int .i64 x17.1), .d (.int .i64 x17.2.1)]]⟩ (by kernel_rfl) ?_
      cases H
      exact K_ret rfl
    · refine K_f rfl (Bool.eq_false_iff.2 hx16) ?_
      refine K_gh ⟨[(2, (.one (.ptr 1 0 0))), (6, (.one (.own 0 0 p1))), (7, (I x2)), (8, (I x12))], [.vals (.agg [(.int .i64 0), (.int .i64 0)]) (p2.map e_st0), .cells [.d (.int .i64 0), .d (.int .i64 0)]]⟩ (by kernel_rfl) ?_
      refine K_skip ?_
      refine K_blk ?_
      refine K_reg [] [] ⟨[(2, (.one (.ptr 1 0 0))), (6, (.one (.own 0 0 p1))), (7, (I x2)), (8, (I (w64 (x12 + 1))))], [.vals (.agg [(.int .i64 0), (.int .i64 0)]) (p2.map e_st0), .cells [.d (.int .i64 0), .d (.int .i64 0)]]⟩ (by kernel_rfl) trivial ?_
      cases H
      exact K_end rfl
  · refine K_f rfl (decide_eq_false hx13) ?_
    refine K_gh ⟨[(2, (.one (.ptr 1 0 0)))], [.vals (.agg [(.int .i64 0), (.int .i64 0)]) (p2.map e_st0), .cells [.d (.int .i64 0), .d (.int .i64 0)]]⟩ (by kernel_rfl) ?_
    cases H
    exact K_exit0 rfl rfl
def T_sketch_flat (k : Nat) (p1 : Nat) (p2 : List (Int × Int)) : Option (Int × Int × Int) := match k with
  | 0 => none
  | k + 1 => ((loopT (T_sketch_flat_l1 k p1 p2 ((p1 : Nat) : Int)) k 0).bind fun x18 => (match x18 with | .inl x19 => ((T_ratio_Make k 0 1).bind fun x20 => some (x20.1, x20.2.1, x20.2.2)) | .inr x21 => some (x21.2.1, x21.2.2, x21.1)))
theorem T_sketch_flat_ok (k : Nat) (p1 : Nat) (p2 : List (Int × Int)) (r : Int × Int × Int) : T_sketch_flat k p1 p2 = some r → evF X k n_sketch_flat [(.one (.own 0 0 p1))] [.vals (.agg [(.int .i64 0), (.int .i64 0)]) (p2.map e_st0)] = some ((.tup [(true, [.d (.int .i64 r.1), .d (.int .i64 r.2.1)]), (false, [.d (.int .i64 r.2.2)])]), [.vals (.agg [(.int .i64 0), (.int .i64 0)]) (p2.map e_st0)]) := by
  intro H
  cases k with
  | zero => simp [T_sketch_flat] at H
  | succ k =>
    simp only [T_sketch_flat] at H
    refine F_in X_sketch_flat rfl ?_
    refine K_seq ?_
    refine K_reg [] [] ⟨[(0, (.one (.own 0 0 p1))), (2, (.one (.ptr 1 0 0)))], [.vals (.agg [(.int .i64 0), (.int .i64 0)]) (p2.map e_st0), .cells [.d (.int .i64 0), .d (.int .i64 0)]]⟩ (by kernel_rfl) trivial ?_
    refine K_seq ?_
    refine K_seq ?_
    refine K_reg [] [] ⟨[(2, (.one (.ptr 1 0 0))), (6, (.one (.own 0 0 p1))), (7, (I ((p1 : Nat) : Int))), (8, (I 0))], [.vals (.agg [(.int .i64 0), (.int .i64 0)]) (p2.map e_st0), .cells [.d (.int .i64 0), .d (.int .i64 0)]]⟩ (by kernel_rfl) trivial ?_
    refine K_block ?_
    obtain ⟨x18, hx18, H⟩ := bind_some' H
    cases x18 with
    | inl x19 =>
      dsimp only at H
      refine K_loop ⟨[(2, (.one (.ptr 1 0 0)))], [.vals (.agg [(.int .i64 0), (.int .i64 0)]) (p2.map e_st0), .cells [.d (.int .i64 0), .d (.int .i64 0)]]⟩ (loop_ok (fun (s : Int) => ⟨[(2, (.one (.ptr 1 0 0))), (6, (.one (.own 0 0 p1))), (7, (I ((p1 : Nat) : Int))), (8, (I s))], [.vals (.agg [(.int .i64 0), (.int .i64 0)]) (p2.map e_st0), .cells [.d (.int .i64 0), .d (.int .i64 0)]]⟩) (fun (r : Unit ⊕ (Int × Int × Int)) => Sum.elim (fun y => (.exit 0, ⟨[(2, (.one (.ptr 1 0 0)))], [.vals (.agg [(.int .i64 0), (.int .i64 0)]) (p2.map e_st0), .cells [.d (.int .i64 0), .d (.int .i64 0)]]⟩)) (fun y => (.ret, ⟨[(2, (.one (.ptr 1 0 0))), (3, (I y.1))], [.vals (.agg [(.int .i64 0), (.int .i64 0)]) (p2.map e_st0), .cells [.d (.int .i64 y.2.1), .d (.int .i64 y.2.2)]]⟩)) r) (fun r h => by cases r <;> cases h) (T_sketch_flat_l1_ok k p1 p2 ((p1 : Nat) : Int)) k 0 (.inl x19) hx18) rfl ?_
      refine K_seq ?_
      obtain ⟨x20, hx20, H⟩ := bind_some' H
      refine K_reg [.r (.tup [(true, [.d (.int .i64 x20.1), .d (.int .i64 x20.2.1)]), (false, [.d (.int .i64 x20.2.2)])]) []] [evF X k n_ratio_Make [(I 0), (I 1)] [] = some ((.tup [(true, [.d (.int .i64 x20.1), .d (.int .i64 x20.2.1)]), (false, [.d (.int .i64 x20.2.2)])]), [])] ⟨[(2, (.one (.ptr 1 0 0))), (3, (I x20.2.2))], [.vals (.agg [(.int .i64 0), (.int .i64 0)]) (p2.map e_st0), .cells [.d (.int .i64 x20.1), .d (.int .i64 x20.2.1)]]⟩ (by kernel_rfl) (A1 (T_ratio_Make_ok k 0 1 x20 hx20)) ?_
      refine K_gh ⟨[(2, (.one (.ptr 1 0 0))), (3, (I x20.2.2))], [.vals (.agg [(.int .i64 0), (.int .i64 0)]) (p2.map e_st0), .cells [.d (.int .i64 x20.1), .d (.int .i64 x20.2.1)]]⟩ (by kernel_rfl) ?_
      cases H
      refine K_ret ?_
      kernel_rfl
    | inr x21 =>
      dsimp only at H
      cases H
      refine K_loopr ⟨[(2, (.one (.ptr 1 0 0))), (3, (I x21.1))], [.vals (.agg [(.int .i64 0), (.int .i64 0)]) (p2.map e_st0), .cells [.d (.int .i64 x21.2.1), .d (.int .i64 x21.2.2)]]⟩ (loop_ok (fun (s : Int) => ⟨[(2, (.one (.ptr 1 0 0))), (6, (.one (.own 0 0 p1))), (7, (I ((p1 : Nat) : Int))), (8, (I s))], [.vals (.agg [(.int .i64 0), (.int .i64 0)]) (p2.map e_st0), .cells [.d (.int .i64 0), .d (.int .i64 0)]]⟩) (fun (r : Unit ⊕ (Int × Int × Int)) => Sum.elim (fun y => (.exit 0, ⟨[(2, (.one (.ptr 1 0 0)))], [.vals (.agg [(.int .i64 0), (.int .i64 0)]) (p2.map e_st0), .cells [.d (.int .i64 0), .d (.int .i64 0)]]⟩)) (fun y => (.ret, ⟨[(2, (.one (.ptr 1 0 0))), (3, (I y.1))], [.vals (.agg [(.int .i64 0), (.int .i64 0)]) (p2.map e_st0), .cells [.d (.int .i64 y.2.1), .d (.int .i64 y.2.2)]]⟩)) r) (fun r h => by cases r <;> cases h) (T_sketch_flat_l1_ok k p1 p2 ((p1 : Nat) : Int)) k 0 (.inr x21) hx18) ?_
      kernel_rfl
def T_slices_Min_b354_l1 (k : Nat) (p1 : List Int) (x8 : Int × Int) : Option ((Int × Int) ⊕ Int) :=
  (if x8.2 < (p1.length : Int) then ((at? p1 x8.2).bind fun x10 => some (.inl ((imin x8.1 x10), (w64 (x8.2 + 1))))) else some (.inr x8.1))
theorem T_slices_Min_b354_l1_ok (k : Nat) (p1 : List Int) : ∀ (x8 : Int × Int) (x : (Int × Int) ⊕ Int), T_slices_Min_b354_l1 k p1 x8 = some x → evC X (evF X k) k 0 l_slices_Min_b354_1 ⟨[(0, (.one (.d (.list (p1.map (D.int .i64)))))), (3, (I x8.1)), (4, (I x8.2))], []⟩ = some (outS (fun (s : Int × Int) => ⟨[(0, (.one (.d (.list (p1.map (D.int .i64)))))), (3, (I s.1)), (4, (I s.2))], []⟩) (fun (r : Int) => (.exit 0, ⟨[(3, (I r))], []⟩)) x) := by
  intro x8 x H
  unfold T_slices_Min_b354_l1 at H
  refine K_in ?_
  refine K_seq ?_
  refine K_seq ?_
  refine K_reg [.n p1.length] [((p1.map (D.int .i64))).length = p1.length] ⟨[(0, (.one (.d (.list (p1.map (D.int .i64)))))), (3, (I x8.1)), (4, (I x8.2)), (15, (B (decide (x8.2 < (p1.length : Int)))))], []⟩ (by kernel_rfl) (A1 (List.length_map _)) ?_
  rcases ite_some H with ⟨hx9, H⟩ | ⟨hx9, H⟩
  · refine K_t rfl (decide_eq_true hx9) ?_
    refine K_gh ⟨[(0, (.one (.d (.list (p1.map (D.int .i64)))))), (3, (I x8.1)), (4, (I x8.2))], []⟩ (by kernel_rfl) ?_
    refine K_skip ?_
    refine K_seq ?_
    refine K_block ?_
    obtain ⟨x10, hx10, H⟩ := bind_some' H
    refine K_reg [.l [.int .i64 x10]] [(0 : Int) ≤ x8.2 ∧ x8.2 < (((p1.map (D.int .i64))).length : Int), ((p1.map (D.int .i64)).getD x8.2.toNat (.int .i64 0)).cells = [.int .i64 x10]] ⟨[(0, (.one (.d (.list (p1.map (D.int .i64)))))), (3, (I (imin x8.1 x10))), (4, (I x8.2))], []⟩ (by kernel_rfl) (AC (at_ok hx10 (D.int .i64) (.int .i64 0)).1 (A1 (at_ok hx10 (D.int .i64) (.int .i64 0)).2)) ?_
    refine K_blk ?_
    refine K_reg [] [] ⟨[(0, (.one (.d (.list (p1.map (D.int .i64)))))), (3, (I (imin x8.1 x10))), (4, (I (w64 (x8.2 + 1))))], []⟩ (by kernel_rfl) trivial ?_
    cases H
    exact K_end rfl
  · refine K_f rfl (decide_eq_false hx9) ?_
    refine K_gh ⟨[(3, (I x8.1))], []⟩ (by kernel_rfl) ?_
    cases H
    exact K_exit0 rfl rfl
def T_slices_Min_b354 (k : Nat) (p1 : List Int) : Option Int := match k with
  | 0 => none
  | k + 1 => (if (p1.length : Int) < 1 then none else ((at? p1 0).bind fun x2 => (loopT (T_slices_Min_b354_l1 k p1) k (x2, 1)).bind fun x11 => some x11))
theorem T_slices_Min_b354_ok (k : Nat) (p1 : List Int) (r : Int) : T_slices_Min_b354 k p1 = some r → evF X k n_slices_Min_b354 [(.one (.d (.list (p1.map (D.int .i64)))))] [] = some ((I r), []) := by
  intro H
  cases k with
  | zero => simp [T_slices_Min_b354] at H
  | succ k =>
    simp only [T_slices_Min_b354] at H
    refine F_in X_slices_Min_b354 rfl ?_
    refine K_seq ?_
    refine K_reg [] [] ⟨[(0, (.one (.d (.list (p1.map (D.int .i64))))))], []⟩ (by kernel_rfl) trivial ?_
    refine K_seq ?_
    refine K_seq ?_
    refine K_reg [.n p1.length] [((p1.map (D.int .i64))).length = p1.length] ⟨[(0, (.one (.d (.list (p1.map (D.int .i64)))))), (7, (B (decide ((p1.length : Int) < 1))))], []⟩ (by kernel_rfl) (A1 (List.length_map _)) ?_
    rcases ite_some H with ⟨hx1, H⟩ | ⟨hx1, H⟩
    · refine K_t rfl (decide_eq_true hx1) ?_
      cases H
    · refine K_f rfl (decide_eq_false hx1) ?_
      refine K_gh ⟨[(0, (.one (.d (.list (p1.map (D.int .i64))))))], []⟩ (by kernel_rfl) ?_
      refine K_skip ?_
      refine K_seq ?_
      obtain ⟨x2, hx2, H⟩ := bind_some' H
      refine K_reg [.l [.int .i64 x2]] [(0 : Int) ≤ 0 ∧ 0 < (((p1.map (D.int .i64))).length : Int), ((p1.map (D.int .i64)).getD 0 (.int .i64 0)).cells = [.int .i64 x2]] ⟨[(0, (.one (.d (.list (p1.map (D.int .i64)))))), (3, (I x2))], []⟩ (by kernel_rfl) (AC (at_ok hx2 (D.int .i64) (.int .i64 0)).1 (A1 (at_ok hx2 (D.int .i64) (.int .i64 0)).2)) ?_
      refine K_seq ?_
      refine K_seq ?_
      refine K_reg [] [] ⟨[(0, (.one (.d (.list (p1.map (D.int .i64)))))), (3, (I x2)), (4, (I 1))], []⟩ (by kernel_rfl) trivial ?_
      refine K_block ?_
      obtain ⟨x11, hx11, H⟩ := bind_some' H
      refine K_loop ⟨[(3, (I x11))], []⟩ (loop_ok (fun (s : Int × Int) => ⟨[(0, (.one (.d (.list (p1.map (D.int .i64)))))), (3, (I s.1)), (4, (I s.2))], []⟩) (fun (r : Int) => (.exit 0, ⟨[(3, (I r))], []⟩)) (fun r h => by cases h) (T_slices_Min_b354_l1_ok k p1) k (x2, 1) x11 hx11) rfl ?_
      refine K_seq ?_
      refine K_reg [] [] ⟨[(2, (I x11))], []⟩ (by kernel_rfl) trivial ?_
      refine K_gh ⟨[(2, (I x11))], []⟩ (by kernel_rfl) ?_
      cases H
      refine K_ret ?_
      kernel_rfl
def T_slices_Max_b354_l1 (k : Nat) (p1 : List Int) (x8 : Int × Int) : Option ((Int × Int) ⊕ Int) :=
  (if x8.2 < (p1.length : Int) then ((at? p1 x8.2).bind fun x10 => some (.inl ((imax x8.1 x10), (w64 (x8.2 + 1))))) else some (.inr x8.1))
theorem T_slices_Max_b354_l1_ok (k : Nat) (p1 : List Int) : ∀ (x8 : Int × Int) (x : (Int × Int) ⊕ Int), T_slices_Max_b354_l1 k p1 x8 = some x → evC X (evF X k) k 0 l_slices_Max_b354_1 ⟨[(0, (.one (.d (.list (p1.map (D.int .i64)))))), (3, (I x8.1)), (4, (I x8.2))], []⟩ = some (outS (fun (s : Int × Int) => ⟨[(0, (.one (.d (.list (p1.map (D.int .i64)))))), (3, (I s.1)), (4, (I s.2))], []⟩) (fun (r : Int) => (.exit 0, ⟨[(3, (I r))], []⟩)) x) := by
  intro x8 x H
  unfold T_slices_Max_b354_l1 at H
  refine K_in ?_
  refine K_seq ?_
  refine K_seq ?_
  refine K_reg [.n p1.length] [((p1.map (D.int .i64))).length = p1.length] ⟨[(0, (.one (.d (.list (p1.map (D.int .i64)))))), (3, (I x8.1)), (4, (I x8.2)), (15, (B (decide (x8.2 < (p1.length : Int)))))], []⟩ (by kernel_rfl) (A1 (List.length_map _)) ?_
  rcases ite_some H with ⟨hx9, H⟩ | ⟨hx9, H⟩
  · refine K_t rfl (decide_eq_true hx9) ?_
    refine K_gh ⟨[(0, (.one (.d (.list (p1.map (D.int .i64)))))), (3, (I x8.1)), (4, (I x8.2))], []⟩ (by kernel_rfl) ?_
    refine K_skip ?_
    refine K_seq ?_
    refine K_block ?_
    obtain ⟨x10, hx10, H⟩ := bind_some' H
    refine K_reg [.l [.int .i64 x10]] [(0 : Int) ≤ x8.2 ∧ x8.2 < (((p1.map (D.int .i64))).length : Int), ((p1.map (D.int .i64)).getD x8.2.toNat (.int .i64 0)).cells = [.int .i64 x10]] ⟨[(0, (.one (.d (.list (p1.map (D.int .i64)))))), (3, (I (imax x8.1 x10))), (4, (I x8.2))], []⟩ (by kernel_rfl) (AC (at_ok hx10 (D.int .i64) (.int .i64 0)).1 (A1 (at_ok hx10 (D.int .i64) (.int .i64 0)).2)) ?_
    refine K_blk ?_
    refine K_reg [] [] ⟨[(0, (.one (.d (.list (p1.map (D.int .i64)))))), (3, (I (imax x8.1 x10))), (4, (I (w64 (x8.2 + 1))))], []⟩ (by kernel_rfl) trivial ?_
    cases H
    exact K_end rfl
  · refine K_f rfl (decide_eq_false hx9) ?_
    refine K_gh ⟨[(3, (I x8.1))], []⟩ (by kernel_rfl) ?_
    cases H
    exact K_exit0 rfl rfl
def T_slices_Max_b354 (k : Nat) (p1 : List Int) : Option Int := match k with
  | 0 => none
  | k + 1 => (if (p1.length : Int) < 1 then none else ((at? p1 0).bind fun x2 => (loopT (T_slices_Max_b354_l1 k p1) k (x2, 1)).bind fun x11 => some x11))
theorem T_slices_Max_b354_ok (k : Nat) (p1 : List Int) (r : Int) : T_slices_Max_b354 k p1 = some r → evF X k n_slices_Max_b354 [(.one (.d (.list (p1.map (D.int .i64)))))] [] = some ((I r), []) := by
  intro H
  cases k with
  | zero => simp [T_slices_Max_b354] at H
  | succ k =>
    simp only [T_slices_Max_b354] at H
    refine F_in X_slices_Max_b354 rfl ?_
    refine K_seq ?_
    refine K_reg [] [] ⟨[(0, (.one (.d (.list (p1.map (D.int .i64))))))], []⟩ (by kernel_rfl) trivial ?_
    refine K_seq ?_
    refine K_seq ?_
    refine K_reg [.n p1.length] [((p1.map (D.int .i64))).length = p1.length] ⟨[(0, (.one (.d (.list (p1.map (D.int .i64)))))), (7, (B (decide ((p1.length : Int) < 1))))], []⟩ (by kernel_rfl) (A1 (List.length_map _)) ?_
    rcases ite_some H with ⟨hx1, H⟩ | ⟨hx1, H⟩
    · refine K_t rfl (decide_eq_true hx1) ?_
      cases H
    · refine K_f rfl (decide_eq_false hx1) ?_
      refine K_gh ⟨[(0, (.one (.d (.list (p1.map (D.int .i64))))))], []⟩ (by kernel_rfl) ?_
      refine K_skip ?_
      refine K_seq ?_
      obtain ⟨x2, hx2, H⟩ := bind_some' H
      refine K_reg [.l [.int .i64 x2]] [(0 : Int) ≤ 0 ∧ 0 < (((p1.map (D.int .i64))).length : Int), ((p1.map (D.int .i64)).getD 0 (.int .i64 0)).cells = [.int .i64 x2]] ⟨[(0, (.one (.d (.list (p1.map (D.int .i64)))))), (3, (I x2))], []⟩ (by kernel_rfl) (AC (at_ok hx2 (D.int .i64) (.int .i64 0)).1 (A1 (at_ok hx2 (D.int .i64) (.int .i64 0)).2)) ?_
      refine K_seq ?_
      refine K_seq ?_
      refine K_reg [] [] ⟨[(0, (.one (.d (.list (p1.map (D.int .i64)))))), (3, (I x2)), (4, (I 1))], []⟩ (by kernel_rfl) trivial ?_
      refine K_block ?_
      obtain ⟨x11, hx11, H⟩ := bind_some' H
      refine K_loop ⟨[(3, (I x11))], []⟩ (loop_ok (fun (s : Int × Int) => ⟨[(0, (.one (.d (.list (p1.map (D.int .i64)))))), (3, (I s.1)), (4, (I s.2))], []⟩) (fun (r : Int) => (.exit 0, ⟨[(3, (I r))], []⟩)) (fun r h => by cases h) (T_slices_Max_b354_l1_ok k p1) k (x2, 1) x11 hx11) rfl ?_
      refine K_seq ?_
      refine K_reg [] [] ⟨[(2, (I x11))], []⟩ (by kernel_rfl) trivial ?_
      refine K_gh ⟨[(2, (I x11))], []⟩ (by kernel_rfl) ?_
      cases H
      refine K_ret ?_
      kernel_rfl
def T_root_Floor_l1 (k : Nat) (p1 : Int) (x11 : Int × Int) : Option ((Int × Int) ⊕ Int) :=
  (if 0 < x11.2 then (if (w64 ((w64 (x11.1 + x11.2)) * (w64 (x11.1 + x11.2)))) = p1 then some (.inr (w64 (x11.1 + x11.2))) else (((if (w64 ((w64 (x11.1 + x11.2)) * (w64 (x11.1 + x11.2)))) < p1 then some (w64 (x11.1 + x11.2)) else some x11.1)).bind fun x17 => some (.inl (x17, (x11.2.fdiv (2 ^ 1)))))) else some (.inr x11.1))
theorem T_root_Floor_l1_ok (k : Nat) (p1 : Int) : ∀ (x11 : Int × Int) (x : (Int × Int) ⊕ Int), T_root_Floor_l1 k p1 x11 = some x → evC X (evF X k) k 0 l_root_Floor_1 ⟨[(0, (I p1)), (3, (I x11.1)), (4, (I x11.2))], []⟩ = some (outS (fun (s : Int × Int) => ⟨[(0, (I p1)), (3, (I s.1)), (4, (I s.2))], []⟩) (fun (r : Int) => (.exit 0, ⟨[(3, (I r))], []⟩)) x) := by
  intro x11 x H
  unfold T_root_Floor_l1 at H
  refine K_in ?_
  refine K_seq ?_
  refine K_seq ?_
  refine K_reg [] [] ⟨[(0, (I p1)), (3, (I x11.1)), (4, (I x11.2)), (13, (B (decide (0 < x11.2))))], []⟩ (by kernel_rfl) trivial ?_
  rcases ite_some H with ⟨hx12, H⟩ | ⟨hx12, H⟩
  · refine K_t rfl (decide_eq_true hx12) ?_
    refine K_gh ⟨[(0, (I p1)), (3, (I x11.1)), (4, (I x11.2))], []⟩ (by kernel_rfl) ?_
    refine K_skip ?_
    refine K_seq ?_
    refine K_block ?_
    refine K_seq ?_
    refine K_reg [] [] ⟨[(0, (I p1)), (3, (I x11.1)), (4, (I x11.2)), (5, (I (w64 ((w64 (x11.1 + x11.2)) * (w64 (x11.1 + x11.2))))))], []⟩ (by kernel_rfl) trivial ?_
    refine K_block ?_
    refine K_seq ?_
    refine K_reg [] [] ⟨[(0, (I p1)), (3, (I x11.1)), (4, (I x11.2)), (5, (I (w64 ((w64 (x11.1 + x11.2)) * (w64 (x11.1 + x11.2)))))), (23, (B (decide ((w64 ((w64 (x11.1 + x11.2)) * (w64 (x11.1 + x11.2)))) = p1))))], []⟩ (by kernel_rfl) trivial ?_
    rcases ite_some H with ⟨hx15, H⟩ | ⟨hx15, H⟩
    · refine K_t rfl (decide_eq_true hx15) ?_
      refine K_seq ?_
      refine K_reg [] [] ⟨[(3, (I (w64 (x11.1 + x11.2))))], []⟩ (by kernel_rfl) trivial ?_
      refine K_gh ⟨[(3, (I (w64 (x11.1 + x11.2))))], []⟩ (by kernel_rfl) ?_
      cases H
      exact K_exit0 rfl rfl
    · refine K_f rfl (decide_eq_false hx15) ?_
      refine K_seq ?_
      refine K_reg [] [] ⟨[(0, (I p1)), (3, (I x11.1)), (4, (I x11.2)), (30, (B (decide ((w64 ((w64 (x11.1 + x11.2)) * (w64 (x11.1 + x11.2)))) < p1))))], []⟩ (by kernel_rfl) trivial ?_
      obtain ⟨x17, hx17, H⟩ := bind_some' H
      refine K_of ⟨[(0, (I p1)), (3, (I x17)), (4, (I x11.2))], []⟩ ?_ ?_
      · clear H; have H := hx17; clear hx17; refine K_in ?_
        rcases ite_some H with ⟨hx16, H⟩ | ⟨hx16, H⟩
        · refine K_t rfl (decide_eq_true hx16) ?_
          refine K_reg [] [] ⟨[(0, (I p1)), (3, (I (w64 (x11.1 + x11.2)))), (4, (I x11.2))], []⟩ (by kernel_rfl) trivial ?_
          cases H
          exact K_end rfl
        · refine K_f rfl (decide_eq_false hx16) ?_
          refine K_gh ⟨[(0, (I p1)), (3, (I x11.1)), (4, (I x11.2))], []⟩ (by kernel_rfl) ?_
          refine K_skip ?_
          cases H
          exact K_end rfl
      refine K_blk ?_
      refine K_blk ?_
      refine K_reg [] [(0 : Int) ≤ 1] ⟨[(0, (I p1)), (3, (I x17)), (4, (I (x11.2.fdiv (2 ^ 1))))], []⟩ (by kernel_rfl) (A1 (by decide)) ?_
      cases H
      exact K_end rfl
  · refine K_f rfl (decide_eq_false hx12) ?_
    refine K_gh ⟨[(3, (I x11.1))], []⟩ (by kernel_rfl) ?_
    cases H
    exact K_exit0 rfl rfl
def T_root_Floor (k : Nat) (p1 : Int) : Option Int := match k with
  | 0 => none
  | k + 1 => (if (decide (p1 < 0) || decide (4611686018427387904 < p1)) = true then some 0 else ((loopT (T_root_Floor_l1 k p1) k (0, 2147483648)).bind fun x18 => some x18))
theorem T_root_Floor_ok (k : Nat) (p1 : Int) (r : Int) : T_root_Floor k p1 = some r → evF X k n_root_Floor [(I p1)] [] = some ((I r), []) := by
  intro H
  cases k with
  | zero => simp [T_root_Floor] at H
  | succ k =>
    simp only [T_root_Floor] at H
    refine F_in X_root_Floor rfl ?_
    refine K_seq ?_
    refine K_reg [] [] ⟨[(0, (I p1))], []⟩ (by kernel_rfl) trivial ?_
    refine K_scope ?_
    refine K_seq ?_
    refine K_seq ?_
    refine K_reg [.m] [([] : Heap) = []] ⟨[(0, (I p1)), (11, (B (decide (p1 < 0) || decide (4611686018427387904 < p1))))], []⟩ (by kernel_rfl) (A1 rfl) ?_
    rcases ite_some H with ⟨hx1, H⟩ | ⟨hx1, H⟩
    · refine K_t rfl hx1 ?_
      refine K_seq ?_
      refine K_reg [] [] ⟨[(2, (I 0))], []⟩ (by kernel_rfl) trivial ?_
      refine K_gh ⟨[(2, (I 0))], []⟩ (by kernel_rfl) ?_
      cases H
      refine K_ret ?_
      kernel_rfl
    · refine K_f rfl (Bool.eq_false_iff.2 hx1) ?_
      refine K_gh ⟨[(0, (I p1))], []⟩ (by kernel_rfl) ?_
      refine K_skip ?_
      refine K_seq ?_
      refine K_reg [] [] ⟨[(0, (I p1)), (3, (I 0))], []⟩ (by kernel_rfl) trivial ?_
      refine K_seq ?_
      refine K_skip ?_
      refine K_seq ?_
      refine K_seq ?_
      refine K_reg [] [] ⟨[(0, (I p1)), (3, (I 0)), (4, (I 2147483648))], []⟩ (by kernel_rfl) trivial ?_
      refine K_block ?_
      obtain ⟨x18, hx18, H⟩ := bind_some' H
      refine K_loop ⟨[(3, (I x18))], []⟩ (loop_ok (fun (s : Int × Int) => ⟨[(0, (I p1)), (3, (I s.1)), (4, (I s.2))], []⟩) (fun (r : Int) => (.exit 0, ⟨[(3, (I r))], []⟩)) (fun r h => by cases h) (T_root_Floor_l1_ok k p1) k (0, 2147483648) x18 hx18) rfl ?_
      refine K_seq ?_
      refine K_reg [] [] ⟨[(2, (I x18))], []⟩ (by kernel_rfl) trivial ?_
      refine K_gh ⟨[(2, (I x18))], []⟩ (by kernel_rfl) ?_
      cases H
      refine K_ret ?_
      kernel_rfl
def T_root_Quotient (k : Nat) (p1 : Int) (p2 : Int) : Option (Int × Int) := match k with
  | 0 => none
  | k + 1 => (if (((decide (p1 < (-2147483648)) || decide (2147483648 < p1)) || decide (p2 < 1)) || decide (4611686018427387904 < p2)) = true then some (0, 1) else (if p2 ≠ 0 then (T_root_Floor k (w64 ((w64 (p1 * p1)).tdiv p2))).bind fun x3 => (if 0 ≤ p1 then some (x3, 0) else (((if (w64 ((w64 (x3 * x3)) * p2)) < (w64 (p1 * p1)) then some (w64 (x3 + 1)) else some x3)).bind fun x6 => some ((w64 (0 - x6)), 0))) else none))
theorem T_root_Quotient_ok (k : Nat) (p1 : Int) (p2 : Int) (r : Int × Int) : T_root_Quotient k p1 p2 = some r → evF X k n_root_Quotient [(I p1), (I p2)] [] = some ((.tup [(false, [.d (.int .i64 r.1)]), (false, [.d (.int .i64 r.2)])]), []) := by
  intro H
  cases k with
  | zero => simp [T_root_Quotient] at H
  | succ k =>
    simp only [T_root_Quotient] at H
    refine F_in X_root_Quotient rfl ?_
    refine K_seq ?_
    refine K_reg [] [] ⟨[(0, (I p1)), (1, (I p2))], []⟩ (by kernel_rfl) trivial ?_
    refine K_seq ?_
    refine K_seq ?_
    refine K_reg [.m, .m, .m] [([] : Heap) = [], ([] : Heap) = [], ([] : Heap) = []] ⟨[(0, (I p1)), (1, (I p2)), (20, (B (((decide (p1 < (-2147483648)) || decide (2147483648 < p1)) || decide (p2 < 1)) || decide (4611686018427387904 < p2))))], []⟩ (by kernel_rfl) (AC rfl (AC rfl (A1 rfl))) ?_
    rcases ite_some H with ⟨hx1, H⟩ | ⟨hx1, H⟩
    · refine K_t rfl hx1 ?_
      refine K_seq ?_
      refine K_reg [] [] ⟨[(4, (I 0)), (5, (I 1))], []⟩ (by kernel_rfl) trivial ?_
      refine K_gh ⟨[(4, (I 0)), (5, (I 1))], []⟩ (by kernel_rfl) ?_
      cases H
      refine K_ret ?_
      kernel_rfl
    · refine K_f rfl (Bool.eq_false_iff.2 hx1) ?_
      refine K_gh ⟨[(0, (I p1)), (1, (I p2))], []⟩ (by kernel_rfl) ?_
      refine K_skip ?_
      refine K_seq ?_
      obtain ⟨hx2, H⟩ := guard_some H
      obtain ⟨x3, hx3, H⟩ := bind_some' H
      refine K_reg [.r (I x3) []] [p2 ≠ (0 : Int), evF X k n_root_Floor [(I (w64 ((w64 (p1 * p1)).tdiv p2)))] [] = some ((I x3), [])] ⟨[(0, (I p1)), (1, (I p2)), (6, (I x3))], []⟩ (by kernel_rfl) (AC hx2 (A1 (T_root_Floor_ok k (w64 ((w64 (p1 * p1)).tdiv p2)) x3 hx3))) ?_
      refine K_seq ?_
      refine K_seq ?_
      refine K_reg [] [] ⟨[(0, (I p1)), (1, (I p2)), (6, (I x3)), (28, (B (decide (0 ≤ p1))))], []⟩ (by kernel_rfl) trivial ?_
      rcases ite_some H with ⟨hx4, H⟩ | ⟨hx4, H⟩
      · refine K_t rfl (decide_eq_true hx4) ?_
        refine K_seq ?_
        refine K_reg [] [] ⟨[(4, (I x3)), (5, (I 0))], []⟩ (by kernel_rfl) trivial ?_
        refine K_gh ⟨[(4, (I x3)), (5, (I 0))], []⟩ (by kernel_rfl) ?_
        cases H
        refine K_ret ?_
        kernel_rfl
      · refine K_f rfl (decide_eq_false hx4) ?_
        refine K_gh ⟨[(0, (I p1)), (1, (I p2)), (6, (I x3))], []⟩ (by kernel_rfl) ?_
        refine K_skip ?_
        refine K_seq ?_
        refine K_seq ?_
        refine K_reg [] [] ⟨[(6, (I x3)), (38, (B (decide ((w64 ((w64 (x3 * x3)) * p2)) < (w64 (p1 * p1))))))], []⟩ (by kernel_rfl) trivial ?_
        obtain ⟨x6, hx6, H⟩ := bind_some' H
        refine K_of ⟨[(6, (I x6))], []⟩ ?_ ?_
        · clear H; have H := hx6; clear hx6; refine K_in ?_
          rcases ite_some H with ⟨hx5, H⟩ | ⟨hx5, H⟩
          · refine K_t rfl (decide_eq_true hx5) ?_
            refine K_reg [] [] ⟨[(6, (I (w64 (x3 + 1))))], []⟩ (by kernel_rfl) trivial ?_
            cases H
            exact K_end rfl
          · refine K_f rfl (decide_eq_false hx5) ?_
            refine K_gh ⟨[(6, (I x3))], []⟩ (by kernel_rfl) ?_
            refine K_skip ?_
            cases H
            exact K_end rfl
        refine K_seq ?_
        refine K_reg [] [] ⟨[(4, (I (w64 (0 - x6)))), (5, (I 0))], []⟩ (by kernel_rfl) trivial ?_
        refine K_gh ⟨[(4, (I (w64 (0 - x6)))), (5, (I 0))], []⟩ (by kernel_rfl) ?_
        cases H
        refine K_ret ?_
        kernel_rfl
def T_sketch_passed (k : Nat) (p1 : Int) (p2 : Int) (p3 : Int) : Option Unit := match k with
  | 0 => none
  | k + 1 => some ()
theorem T_sketch_passed_ok (k : Nat) (p1 : Int) (p2 : Int) (p3 : Int) (r : Unit) : T_sketch_passed k p1 p2 p3 = some r → evF X k n_sketch_passed [(I p1), (.agg [.d (.int .i64 p2), .d (.int .i64 p3)])] [] = some ((I (imax (imax 0 (w64 ((w64 (16 * p2)) - (w64 (p1 + 1))))) (w64 (p1 - (w64 (16 * (w64 (p3 + 1)))))))), []) := by
  intro H
  cases k with
  | zero => simp [T_sketch_passed] at H
  | succ k =>
    simp only [T_sketch_passed] at H
    refine F_in X_sketch_passed rfl ?_
    refine K_seq ?_
    refine K_reg [] [] ⟨[(0, (I p1)), (3, (.one (.ptr 0 0 0)))], [.cells [.d (.int .i64 p2), .d (.int .i64 p3)]]⟩ (by kernel_rfl) trivial ?_
    refine K_seq ?_
    refine K_reg [] [] ⟨[(4, (I (imax (imax 0 (w64 ((w64 (16 * p2)) - (w64 (p1 + 1))))) (w64 (p1 - (w64 (16 * (w64 (p3 + 1)))))))))], []⟩ (by kernel_rfl) trivial ?_
    refine K_gh ⟨[(4, (I (imax (imax 0 (w64 ((w64 (16 * p2)) - (w64 (p1 + 1))))) (w64 (p1 - (w64 (16 * (w64 (p3 + 1)))))))))], []⟩ (by kernel_rfl) ?_
    cases H
    refine K_ret ?_
    kernel_rfl
def T_sketch_fraction_plus (k : Nat) (p1 : Int) (p2 : Int) (p3 : Int) (p4 : Int) (p5 : Int) : Option Unit := match k with
  | 0 => none
  | k + 1 => (if p2 ≠ 0 then (if p4 ≠ 0 then some () else none) else none)
theorem T_sketch_fraction_plus_ok (k : Nat) (p1 : Int) (p2 : Int) (p3 : Int) (p4 : Int) (p5 : Int) (r : Unit) : T_sketch_fraction_plus k p1 p2 p3 p4 p5 = some r → evF X k n_sketch_fraction_plus [(.agg [.d (.int .i64 p1), .d (.int .i64 p2)]), (.agg [.d (.int .i64 p3), .d (.int .i64 p4)]), (I p5)] [] = some ((.agg [.d (.int .i64 (w64 ((w64 (p1 * (w64 (p5.tdiv p2)))) + (w64 (p3 * (w64 (p5.tdiv p4))))))), .d (.int .i64 p5)]), []) := by
  intro H
  cases k with
  | zero => simp [T_sketch_fraction_plus] at H
  | succ k =>
    simp only [T_sketch_fraction_plus] at H
    refine F_in X_sketch_fraction_plus rfl ?_
    refine K_seq ?_
    refine K_reg [] [] ⟨[(2, (I p5)), (3, (.one (.ptr 0 0 0))), (4, (.one (.ptr 1 0 0))), (6, (.one (.ptr 2 0 0)))], [.cells [.d (.int .i64 p1), .d (.int .i64 p2)], .cells [.d (.int .i64 p3), .d (.int .i64 p4)], .cells [.d (.int .i64 0), .d (.int .i64 0)]]⟩ (by kernel_rfl) trivial ?_
    refine K_seq ?_
    obtain ⟨hx1, H⟩ := guard_some H
    obtain ⟨hx2, H⟩ := guard_some H
    refine K_reg [] [p2 ≠ (0 : Int), p4 ≠ (0 : Int)] ⟨[(6, (.one (.ptr 0 0 0)))], [.cells [.d (.int .i64 (w64 ((w64 (p1 * (w64 (p5.tdiv p2)))) + (w64 (p3 * (w64 (p5.tdiv p4))))))), .d (.int .i64 p5)]]⟩ (by kernel_rfl) (AC hx1 (A1 hx2)) ?_
    refine K_gh ⟨[(6, (.one (.ptr 0 0 0)))], [.cells [.d (.int .i64 (w64 ((w64 (p1 * (w64 (p5.tdiv p2)))) + (w64 (p3 * (w64 (p5.tdiv p4))))))), .d (.int .i64 p5)]]⟩ (by kernel_rfl) ?_
    cases H
    refine K_ret ?_
    kernel_rfl
def T_sketch_outside_l1 (k : Nat) (x1 : (List Int)) (p1 : Int) (p2 : List Int) (p3 : Int) (p4 : Nat) (p5 : List (Int × Int)) (x7 : Int) (x11 : Int) (x19 : Bool) (x34 : Int × Int × Int × Bool) : Option ((Int × Int × Int × Bool) ⊕ ((Int × Int × Bool))) :=
  (if x34.1 < x11 then (if (0 : Int) ≤ x34.1 ∧ x34.1 < ((p4 : Nat) : Int) then (p5[(0 + x34.1.toNat)]?).bind fun x37 => (at? p2 x34.1).bind fun x38 => (T_root_Quotient k (w64 (1024 * x38)) p3).bind fun x39 => (T_sketch_passed k x39.1 x37.1 x37.2).bind fun x40 => (if 1048576 < (imax (imax 0 (w64 ((w64 (16 * x37.1)) - (w64 (x39.1 + 1))))) (w64 (x39.1 - (w64 (16 * (w64 (x37.2 + 1))))))) then some (.inl ((w64 (x34.1 + 1)), x34.2.1, x34.2.2.1, true)) else ((at? x1 x34.1).bind fun x42 => (T_sketch_fraction_plus k x34.2.1 x34.2.2.1 (w64 ((imax (imax 0 (w64 ((w64 (16 * x37.1)) - (w64 (x39.1 + 1))))) (w64 (x39.1 - (w64 (16 * (w64 (x37.2 + 1))))))) * (imax (imax 0 (w64 ((w64 (16 * x37.1)) - (w64 (x39.1 + 1))))) (w64 (x39.1 - (w64 (16 * (w64 (x37.2 + 1))))))))) (w64 (2097152 * x42)) x7).bind fun x43 => ((if (w64 (2 * x7)) < (w64 ((w64 (x34.2.1 * (w64 (x7.tdiv x34.2.2.1)))) + (w64 ((w64 ((imax (imax 0 (w64 ((w64 (16 * x37.1)) - (w64 (x39.1 + 1))))) (w64 (x39.1 - (w64 (16 * (w64 (x37.2 + 1))))))) * (imax (imax 0 (w64 ((w64 (16 * x37.1)) - (w64 (x39.1 + 1))))) (w64 (x39.1 - (w64 (16 * (w64 (x37.2 + 1))))))))) * (w64 (x7.tdiv (w64 (2097152 * x42)))))))) then some (0, 1, true) else some ((w64 ((w64 (x34.2.1 * (w64 (x7.tdiv x34.2.2.1)))) + (w64 ((w64 ((imax (imax 0 (w64 ((w64 (16 * x37.1)) - (w64 (x39.1 + 1))))) (w64 (x39.1 - (w64 (16 * (w64 (x37.2 + 1))))))) * (imax (imax 0 (w64 ((w64 (16 * x37.1)) - (w64 (x39.1 + 1))))) (w64 (x39.1 - (w64 (16 * (w64 (x37.2 + 1))))))))) * (w64 (x7.tdiv (w64 (2097152 * x42)))))))), x7, x34.2.2.2))).bind fun x45 => some (.inl ((w64 (x34.1 + 1)), x45.1, x45.2.1, x45.2.2)))) else none) else some (.inr (x34.2.1, x34.2.2.1, x34.2.2.2)))
theorem T_sketch_outside_l1_ok (k : Nat) (x1 : (List Int)) (p1 : Int) (p2 : List Int) (p3 : Int) (p4 : Nat) (p5 : List (Int × Int)) (x7 : Int) (x11 : Int) (x19 : Bool) : ∀ (x34 : Int × Int × Int × Bool) (x : (Int × Int × Int × Bool) ⊕ ((Int × Int × Bool))), T_sketch_outside_l1 k x1 p1 p2 p3 p4 p5 x7 x11 x19 x34 = some x → evC X (evF X k) k 1 l_sketch_outside_1 ⟨[(2, (.one (.ptr 1 0 0))), (4, (.one (.ptr 2 0 0))), (5, (.one (.d (.list (x1.map (D.int .i64)))))), (6, (I x7)), (7, (.one (.ptr 3 0 0))), (29, (.one (.own 0 0 p4))), (30, (I x11)), (31, (I x34.1))], [.vals (.agg [(.int .i64 0), (.int .i64 0)]) (p5.map e_st0), .cells [.d (.int .i64 p1), .d (.list (p2.map (D.int .i64))), .d (.int .i64 p3)], .cells [.d (.int .i64 0), .d (.int .i64 0), .d (.bool x19)], .cells [.d (.int .i64 x34.2.1), .d (.int .i64 x34.2.2.1), .d (.bool x34.2.2.2)]]⟩ = some (outS (fun (s : Int × Int × Int × Bool) => ⟨[(2, (.one (.ptr 1 0 0))), (4, (.one (.ptr 2 0 0))), (5, (.one (.d (.list (x1.map (D.int .i64)))))), (6, (I x7)), (7, (.one (.ptr 3 0 0))), (29, (.one (.own 0 0 p4))), (30, (I x11)), (31, (I s.1))], [.vals (.agg [(.int .i64 0), (.int .i64 0)]) (p5.map e_st0), .cells [.d (.int .i64 p1), .d (.list (p2.map (D.int .i64))), .d (.int .i64 p3)], .cells [.d (.int .i64 0), .d (.int .i64 0), .d (.bool x19)], .cells [.d (.int .i64 s.2.1), .d (.int .i64 s.2.2.1), .d (.bool s.2.2.2)]]⟩) (fun (r : (Int × Int × Bool)) => (.exit 0, ⟨[(4, (.one (.ptr 1 0 0))), (7, (.one (.ptr 2 0 0)))], [.vals (.agg [(.int .i64 0), (.int .i64 0)]) (p5.map e_st0), .cells [.d (.int .i64 0), .d (.int .i64 0), .d (.bool x19)], .cells [.d (.int .i64 r.1), .d (.int .i64 r.2.1), .d (.bool r.2.2)]]⟩)) x) := by
  intro x34 x H
  unfold T_sketch_outside_l1 at H
  refine K_in ?_
  refine K_seq ?_
  refine K_reg [] [] ⟨[(2, (.one (.ptr 1 0 0))), (4, (.one (.ptr 2 0 0))), (5, (.one (.d (.list (x1.map (D.int .i64)))))), (6, (I x7)), (7, (.one (.ptr 3 0 0))), (29, (.one (.own 0 0 p4))), (30, (I x11)), (31, (I x34.1)), (32, (B (decide (x34.1 < x11))))], [.vals (.agg [(.int .i64 0), (.int .i64 0)]) (p5.map e_st0), .cells [.d (.int .i64 p1), .d (.list (p2.map (D.int .i64))), .d (.int .i64 p3)], .cells [.d (.int .i64 0), .d (.int .i64 0), .d (.bool x19)], .cells [.d (.int .i64 x34.2.1), .d (.int .i64 x34.2.2.1), .d (.bool x34.2.2.2)]]⟩ (by kernel_rfl) trivial ?_
  refine K_seq ?_
  rcases ite_some H with ⟨hx35, H⟩ | ⟨hx35, H⟩
  · refine K_t rfl (decide_eq_true hx35) ?_
    refine K_gh ⟨[(2, (.one (.ptr 1 0 0))), (4, (.one (.ptr 2 0 0))), (5, (.one (.d (.list (x1.map (D.int .i64)))))), (6, (I x7)), (7, (.one (.ptr 3 0 0))), (29, (.one (.own 0 0 p4))), (30, (I x11)), (31, (I x34.1))], [.vals (.agg [(.int .i64 0), (.int .i64 0)]) (p5.map e_st0), .cells [.d (.int .i64 p1), .d (.list (p2.map (D.int .i64))), .d (.int .i64 p3)], .cells [.d (.int .i64 0), .d (.int .i64 0), .d (.bool x19)], .cells [.d (.int .i64 x34.2.1), .d (.int .i64 x34.2.2.1), .d (.bool x34.2.2.2)]]⟩ (by kernel_rfl) ?_
    refine K_skip ?_
    refine K_seq ?_
    refine K_block ?_
    refine K_seq ?_
    obtain ⟨hx36, H⟩ := guard_some H
    obtain ⟨x37, hx37, H⟩ := bind_some' H
    refine K_reg [.l [.int .i64 x37.1, .int .i64 x37.2]] [(0 : Int) ≤ x34.1 ∧ x34.1 < ((p4 : Nat) : Int), ((p5.map e_st0).getD (0 + x34.1.toNat) (.agg [(.int .i64 0), (.int .i64 0)])).cells = [.int .i64 x37.1, .int .i64 x37.2]] ⟨[(2, (.one (.ptr 1 0 0))), (4, (.one (.ptr 2 0 0))), (5, (.one (.d (.list (x1.map (D.int .i64)))))), (6, (I x7)), (7, (.one (.ptr 3 0 0))), (8, (I x34.1)), (9, (.one (.ptr 4 0 0))), (29, (.one (.own 0 0 p4))), (30, (I x11)), (31, (I x34.1))], [.vals (.agg [(.int .i64 0), (.int .i64 0)]) (p5.map e_st0), .cells [.d (.int .i64 p1), .d (.list (p2.map (D.int .i64))), .d (.int .i64 p3)], .cells [.d (.int .i64 0), .d (.int .i64 0), .d (.bool x19)], .cells [.d (.int .i64 x34.2.1), .d (.int .i64 x34.2.2.1), .d (.bool x34.2.2.2)], .cells [.d (.int .i64 x37.1), .d (.int .i64 x37.2)]]⟩ (by kernel_rfl) (AC hx36 (A1 (ld_ok hx37 e_st0 (.agg [(.int .i64 0), (.int .i64 0)])))) ?_
    refine K_seq ?_
    obtain ⟨x38, hx38, H⟩ := bind_some' H
    obtain ⟨x39, hx39, H⟩ := bind_some' H
    refine K_reg [.l [.int .i64 x38], .r (.tup [(false, [.d (.int .i64 x39.1)]), (false, [.d (.int .i64 x39.2)])]) []] [(0 : Int) ≤ x34.1 ∧ x34.1 < (((p2.map (D.int .i64))).length : Int), ((p2.map (D.int .i64)).getD x34.1.toNat (.int .i64 0)).cells = [.int .i64 x38], evF X k n_root_Quotient [(I (w64 (1024 * x38))), (I p3)] [] = some ((.tup [(false, [.d (.int .i64 x39.1)]), (false, [.d (.int .i64 x39.2)])]), [])] ⟨[(2, (.one (.ptr 1 0 0))), (4, (.one (.ptr 2 0 0))), (5, (.one (.d (.list (x1.map (D.int .i64)))))), (6, (I x7)), (7, (.one (.ptr 3 0 0))), (8, (I x34.1)), (9, (.one (.ptr 4 0 0))), (10, (I x39.1)), (29, (.one (.own 0 0 p4))), (30, (I x11)), (31, (I x34.1))], [.vals (.agg [(.int .i64 0), (.int .i64 0)]) (p5.map e_st0), .cells [.d (.int .i64 p1), .d (.list (p2.map (D.int .i64))), .d (.int .i64 p3)], .cells [.d (.int .i64 0), .d (.int .i64 0), .d (.bool x19)], .cells [.d (.int .i64 x34.2.1), .d (.int .i64 x34.2.2.1), .d (.bool x34.2.2.2)], .cells [.d (.int .i64 x37.1), .d (.int .i64 x37.2)]]⟩ (by kernel_rfl) (AC (at_ok hx38 (D.int .i64) (.int .i64 0)).1 (AC (at_ok hx38 (D.int .i64) (.int .i64 0)).2 (A1 (T_root_Quotient_ok k (w64 (1024 * x38)) p3 x39 hx39)))) ?_
    refine K_seq ?_
    obtain ⟨x40, hx40, H⟩ := bind_some' H
    refine K_reg [.r (I (imax (imax 0 (w64 ((w64 (16 * x37.1)) - (w64 (x39.1 + 1))))) (w64 (x39.1 - (w64 (16 * (w64 (x37.2 + 1)))))))) []] [evF X k n_sketch_passed [(I x39.1), (.agg [.d (.int .i64 x37.1), .d (.int .i64 x37.2)])] [] = some ((I (imax (imax 0 (w64 ((w64 (16 * x37.1)) - (w64 (x39.1 + 1))))) (w64 (x39.1 - (w64 (16 * (w64 (x37.2 + 1)))))))), [])] ⟨[(2, (.one (.ptr 1 0 0))), (4, (.one (.ptr 2 0 0))), (5, (.one (.d (.list (x1.map (D.int .i64)))))), (6, (I x7)), (7, (.one (.ptr 3 0 0))), (8, (I x34.1)), (12, (I (imax (imax 0 (w64 ((w64 (16 * x37.1)) - (w64 (x39.1 + 1))))) (w64 (x39.1 - (w64 (16 * (w64 (x37.2 + 1))))))))), (29, (.one (.own 0 0 p4))), (30, (I x11)), (31, (I x34.1))], [.vals (.agg [(.int .i64 0), (.int .i64 0)]) (p5.map e_st0), .cells [.d (.int .i64 p1), .d (.list (p2.map (D.int .i64))), .d (.int .i64 p3)], .cells [.d (.int .i64 0), .d (.int .i64 0), .d (.bool x19)], .cells [.d (.int .i64 x34.2.1), .d (.int .i64 x34.2.2.1), .d (.bool x34.2.2.2)]]⟩ (by kernel_rfl) (A1 (T_sketch_passed_ok k x39.1 x37.1 x37.2 x40 hx40)) ?_
    refine K_seq ?_
    refine K_seq ?_
    refine K_reg [] [] ⟨[(2, (.one (.ptr 1 0 0))), (4, (.one (.ptr 2 0 0))), (5, (.one (.d (.list (x1.map (D.int .i64)))))), (6, (I x7)), (7, (.one (.ptr 3 0 0))), (8, (I x34.1)), (12, (I (imax (imax 0 (w64 ((w64 (16 * x37.1)) - (w64 (x39.1 + 1))))) (w64 (x39.1 - (w64 (16 * (w64 (x37.2 + 1))))))))), (29, (.one (.own 0 0 p4))), (30, (I x11)), (31, (I x34.1)), (52, (B (decide (1048576 < (imax (imax 0 (w64 ((w64 (16 * x37.1)) - (w64 (x39.1 + 1))))) (w64 (x39.1 - (w64 (16 * (w64 (x37.2 + 1)))))))))))], [.vals (.agg [(.int .i64 0), (.int .i64 0)]) (p5.map e_st0), .cells [.d (.int .i64 p1), .d (.list (p2.map (D.int .i64))), .d (.int .i64 p3)], .cells [.d (.int .i64 0), .d (.int .i64 0), .d (.bool x19)], .cells [.d (.int .i64 x34.2.1), .d (.int .i64 x34.2.2.1), .d (.bool x34.2.2.2)]]⟩ (by kernel_rfl) trivial ?_
    rcases ite_some H with ⟨hx41, H⟩ | ⟨hx41, H⟩
    · refine K_t rfl (decide_eq_true hx41) ?_
      refine K_seq ?_
      refine K_reg [] [] ⟨[(2, (.one (.ptr 1 0 0))), (4, (.one (.ptr 2 0 0))), (5, (.one (.d (.list (x1.map (D.int .i64)))))), (6, (I x7)), (7, (.one (.ptr 3 0 0))), (29, (.one (.own 0 0 p4))), (30, (I x11)), (31, (I x34.1))], [.vals (.agg [(.int .i64 0), (.int .i64 0)]) (p5.map e_st0), .cells [.d (.int .i64 p1), .d (.list (p2.map (D.int .i64))), .d (.int .i64 p3)], .cells [.d (.int .i64 0), .d (.int .i64 0), .d (.bool x19)], .cells [.d (.int .i64 x34.2.1), .d (.int .i64 x34.2.2.1), .d (.bool true)]]⟩ (by kernel_rfl) trivial ?_
      refine K_gh ⟨[(2, (.one (.ptr 1 0 0))), (4, (.one (.ptr 2 0 0))), (5, (.one (.d (.list (x1.map (D.int .i64)))))), (6, (I x7)), (7, (.one (.ptr 3 0 0))), (29, (.one (.own 0 0 p4))), (30, (I x11)), (31, (I x34.1))], [.vals (.agg [(.int .i64 0), (.int .i64 0)]) (p5.map e_st0), .cells [.d (.int .i64 p1), .d (.list (p2.map (D.int .i64))), .d (.int .i64 p3)], .cells [.d (.int .i64 0), .d (.int .i64 0), .d (.bool x19)], .cells [.d (.int .i64 x34.2.1), .d (.int .i64 x34.2.2.1), .d (.bool true)]]⟩ (by kernel_rfl) ?_
      refine K_exit rfl ?_
      refine K_reg [] [] ⟨[(2, (.one (.ptr 1 0 0))), (4, (.one (.ptr 2 0 0))), (5, (.one (.d (.list (x1.map (D.int .i64)))))), (6, (I x7)), (7, (.one (.ptr 3 0 0))), (29, (.one (.own 0 0 p4))), (30, (I x11)), (31, (I (w64 (x34.1 + 1))))], [.vals (.agg [(.int .i64 0), (.int .i64 0)]) (p5.map e_st0), .cells [.d (.int .i64 p1), .d (.list (p2.map (D.int .i64))), .d (.int .i64 p3)], .cells [.d (.int .i64 0), .d (.int .i64 0), .d (.bool x19)], .cells [.d (.int .i64 x34.2.1), .d (.int .i64 x34.2.2.1), .d (.bool true)]]⟩ (by kernel_rfl) trivial ?_
      cases H
      exact K_end rfl
    · refine K_f rfl (decide_eq_false hx41) ?_
      refine K_gh ⟨[(2, (.one (.ptr 1 0 0))), (4, (.one (.ptr 2 0 0))), (5, (.one (.d (.list (x1.map (D.int .i64)))))), (6, (I x7)), (7, (.one (.ptr 3 0 0))), (8, (I x34.1)), (12, (I (imax (imax 0 (w64 ((w64 (16 * x37.1)) - (w64 (x39.1 + 1))))) (w64 (x39.1 - (w64 (16 * (w64 (x37.2 + 1))))))))), (29, (.one (.own 0 0 p4))), (30, (I x11)), (31, (I x34.1))], [.vals (.agg [(.int .i64 0), (.int .i64 0)]) (p5.map e_st0), .cells [.d (.int .i64 p1), .d (.list (p2.map (D.int .i64))), .d (.int .i64 p3)], .cells [.d (.int .i64 0), .d (.int .i64 0), .d (.bool x19)], .cells [.d (.int .i64 x34.2.1), .d (.int .i64 x34.2.2.1), .d (.bool x34.2.2.2)]]⟩ (by kernel_rfl) ?_
      refine K_skip ?_
      refine K_seq ?_
      obtain ⟨x42, hx42, H⟩ := bind_some' H
      obtain ⟨x43, hx43, H⟩ := bind_some' H
      refine K_reg [.l [.int .i64 x42], .r (.agg [.d (.int .i64 (w64 ((w64 (x34.2.1 * (w64 (x7.tdiv x34.2.2.1)))) + (w64 ((w64 ((imax (imax 0 (w64 ((w64 (16 * x37.1)) - (w64 (x39.1 + 1))))) (w64 (x39.1 - (w64 (16 * (w64 (x37.2 + 1))))))) * (imax (imax 0 (w64 ((w64 (16 * x37.1)) - (w64 (x39.1 + 1))))) (w64 (x39.1 - (w64 (16 * (w64 (x37.2 + 1))))))))) * (w64 (x7.tdiv (w64 (2097152 * x42))))))))), .d (.int .i64 x7)]) []] [(0 : Int) ≤ x34.1 ∧ x34.1 < (((x1.map (D.int .i64))).length : Int), ((x1.map (D.int .i64)).getD x34.1.toNat (.int .i64 0)).cells = [.int .i64 x42], evF X k n_sketch_fraction_plus [(.agg [.d (.int .i64 x34.2.1), .d (.int .i64 x34.2.2.1)]), (.agg [.d (.int .i64 (w64 ((imax (imax 0 (w64 ((w64 (16 * x37.1)) - (w64 (x39.1 + 1))))) (w64 (x39.1 - (w64 (16 * (w64 (x37.2 + 1))))))) * (imax (imax 0 (w64 ((w64 (16 * x37.1)) - (w64 (x39.1 + 1))))) (w64 (x39.1 - (w64 (16 * (w64 (x37.2 + 1)))))))))), .d (.int .i64 (w64 (2097152 * x42)))]), (I x7)] [] = some ((.agg [.d (.int .i64 (w64 ((w64 (x34.2.1 * (w64 (x7.tdiv x34.2.2.1)))) + (w64 ((w64 ((imax (imax 0 (w64 ((w64 (16 * x37.1)) - (w64 (x39.1 + 1))))) (w64 (x39.1 - (w64 (16 * (w64 (x37.2 + 1))))))) * (imax (imax 0 (w64 ((w64 (16 * x37.1)) - (w64 (x39.1 + 1))))) (w64 (x39.1 - (w64 (16 * (w64 (x37.2 + 1))))))))) * (w64 (x7.tdiv (w64 (2097152 * x42))))))))), .d (.int .i64 x7)]), [])] ⟨[(2, (.one (.ptr 1 0 0))), (4, (.one (.ptr 2 0 0))), (5, (.one (.d (.list (x1.map (D.int .i64)))))), (6, (I x7)), (7, (.one (.ptr 3 0 0))), (29, (.one (.own 0 0 p4))), (30, (I x11)), (31, (I x34.1))], [.vals (.agg [(.int .i64 0), (.int .i64 0)]) (p5.map e_st0), .cells [.d (.int .i64 p1), .d (.list (p2.map (D.int .i64))), .d (.int .i64 p3)], .cells [.d (.int .i64 0), .d (.int .i64 0), .d (.bool x19)], .cells [.d (.int .i64 (w64 ((w64 (x34.2.1 * (w64 (x7.tdiv x34.2.2.1)))) + (w64 ((w64 ((imax (imax 0 (w64 ((w64 (16 * x37.1)) - (w64 (x39.1 + 1))))) (w64 (x39.1 - (w64 (16 * (w64 (x37.2 + 1))))))) * (imax (imax 0 (w64 ((w64 (16 * x37.1)) - (w64 (x39.1 + 1))))) (w64 (x39.1 - (w64 (16 * (w64 (x37.2 + 1))))))))) * (w64 (x7.tdiv (w64 (2097152 * x42))))))))), .d (.int .i64 x7), .d (.bool x34.2.2.2)]]⟩ (by kernel_rfl) (AC (at_ok hx42 (D.int .i64) (.int .i64 0)).1 (AC (at_ok hx42 (D.int .i64) (.int .i64 0)).2 (A1 (T_sketch_fraction_plus_ok k x34.2.1 x34.2.2.1 (w64 ((imax (imax 0 (w64 ((w64 (16 * x37.1)) - (w64 (x39.1 + 1))))) (w64 (x39.1 - (w64 (16 * (w64 (x37.2 + 1))))))) * (imax (imax 0 (w64 ((w64 (16 * x37.1)) - (w64 (x39.1 + 1))))) (w64 (x39.1 - (w64 (16 * (w64 (x37.2 + 1))))))))) (w64 (2097152 * x42)) x7 x43 hx43)))) ?_
      refine K_seq ?_
      refine K_reg [] [] ⟨[(2, (.one (.ptr 1 0 0))), (4, (.one (.ptr 2 0 0))), (5, (.one (.d (.list (x1.map (D.int .i64)))))), (6, (I x7)), (7, (.one (.ptr 3 0 0))), (29, (.one (.own 0 0 p4))), (30, (I x11)), (31, (I x34.1)), (75, (B (decide ((w64 (2 * x7)) < (w64 ((w64 (x34.2.1 * (w64 (x7.tdiv x34.2.2.1)))) + (w64 ((w64 ((imax (imax 0 (w64 ((w64 (16 * x37.1)) - (w64 (x39.1 + 1))))) (w64 (x39.1 - (w64 (16 * (w64 (x37.2 + 1))))))) * (imax (imax 0 (w64 ((w64 (16 * x37.1)) - (w64 (x39.1 + 1))))) (w64 (x39.1 - (w64 (16 * (w64 (x37.2 + 1))))))))) * (w64 (x7.tdiv (w64 (2097152 * x42))))))))))))], [.vals (.agg [(.int .i64 0), (.int .i64 0)]) (p5.map e_st0), .cells [.d (.int .i64 p1), .d (.list (p2.map (D.int .i64))), .d (.int .i64 p3)], .cells [.d (.int .i64 0), .d (.int .i64 0), .d (.bool x19)], .cells [.d (.int .i64 (w64 ((w64 (x34.2.1 * (w64 (x7.tdiv x34.2.2.1)))) + (w64 ((w64 ((imax (imax 0 (w64 ((w64 (16 * x37.1)) - (w64 (x39.1 + 1))))) (w64 (x39.1 - (w64 (16 * (w64 (x37.2 + 1))))))) * (imax (imax 0 (w64 ((w64 (16 * x37.1)) - (w64 (x39.1 + 1))))) (w64 (x39.1 - (w64 (16 * (w64 (x37.2 + 1))))))))) * (w64 (x7.tdiv (w64 (2097152 * x42))))))))), .d (.int .i64 x7), .d (.bool x34.2.2.2)]]⟩ (by kernel_rfl) trivial ?_
      obtain ⟨x45, hx45, H⟩ := bind_some' H
      refine K_of ⟨[(2, (.one (.ptr 1 0 0))), (4, (.one (.ptr 2 0 0))), (5, (.one (.d (.list (x1.map (D.int .i64)))))), (6, (I x7)), (7, (.one (.ptr 3 0 0))), (29, (.one (.own 0 0 p4))), (30, (I x11)), (31, (I x34.1))], [.vals (.agg [(.int .i64 0), (.int .i64 0)]) (p5.map e_st0), .cells [.d (.int .i64 p1), .d (.list (p2.map (D.int .i64))), .d (.int .i64 p3)], .cells [.d (.int .i64 0), .d (.int .i64 0), .d (.bool x19)], .cells [.d (.int .i64 x45.1), .d (.int .i64 x45.2.1), .d (.bool x45.2.2)]]⟩ ?_ ?_
      · clear H; have H := hx45; clear hx45; refine K_in ?_
        rcases ite_some H with ⟨hx44, H⟩ | ⟨hx44, H⟩
        · refine K_t rfl (decide_eq_true hx44) ?_
          refine K_seq ?_
          refine K_reg [] [] ⟨[(2, (.one (.ptr 1 0 0))), (4, (.one (.ptr 2 0 0))), (5, (.one (.d (.list (x1.map (D.int .i64)))))), (6, (I x7)), (7, (.one (.ptr 3 0 0))), (29, (.one (.own 0 0 p4))), (30, (I x11)), (31, (I x34.1))], [.vals (.agg [(.int .i64 0), (.int .i64 0)]) (p5.map e_st0), .cells [.d (.int .i64 p1), .d (.list (p2.map (D.int .i64))), .d (.int .i64 p3)], .cells [.d (.int .i64 0), .d (.int .i64 0), .d (.bool x19)], .cells [.d (.int .i64 (w64 ((w64 (x34.2.1 * (w64 (x7.tdiv x34.2.2.1)))) + (w64 ((w64 ((imax (imax 0 (w64 ((w64 (16 * x37.1)) - (w64 (x39.1 + 1))))) (w64 (x39.1 - (w64 (16 * (w64 (x37.2 + 1))))))) * (imax (imax 0 (w64 ((w64 (16 * x37.1)) - (w64 (x39.1 + 1))))) (w64 (x39.1 - (w64 (16 * (w64 (x37.2 + 1))))))))) * (w64 (x7.tdiv (w64 (2097152 * x42))))))))), .d (.int .i64 x7), .d (.bool true)]]⟩ (by kernel_rfl) trivial ?_
          refine K_reg [] [] ⟨[(2, (.one (.ptr 1 0 0))), (4, (.one (.ptr 2 0 0))), (5, (.one (.d (.list (x1.map (D.int .i64)))))), (6, (I x7)), (7, (.one (.ptr 3 0 0))), (29, (.one (.own 0 0 p4))), (30, (I x11)), (31, (I x34.1))], [.vals (.agg [(.int .i64 0), (.int .i64 0)]) (p5.map e_st0), .cells [.d (.int .i64 p1), .d (.list (p2.map (D.int .i64))), .d (.int .i64 p3)], .cells [.d (.int .i64 0), .d (.int .i64 0), .d (.bool x19)], .cells [.d (.int .i64 0), .d (.int .i64 1), .d (.bool true)]]⟩ (by kernel_rfl) trivial ?_
          cases H
          exact K_end rfl
        · refine K_f rfl (decide_eq_false hx44) ?_
          refine K_gh ⟨[(2, (.one (.ptr 1 0 0))), (4, (.one (.ptr 2 0 0))), (5, (.one (.d (.list (x1.map (D.int .i64)))))), (6, (I x7)), (7, (.one (.ptr 3 0 0))), (29, (.one (.own 0 0 p4))), (30, (I x11)), (31, (I x34.1))], [.vals (.agg [(.int .i64 0), (.int .i64 0)]) (p5.map e_st0), .cells [.d (.int .i64 p1), .d (.list (p2.map (D.int .i64))), .d (.int .i64 p3)], .cells [.d (.int .i64 0), .d (.int .i64 0), .d (.bool x19)], .cells [.d (.int .i64 (w64 ((w64 (x34.2.1 * (w64 (x7.tdiv x34.2.2.1)))) + (w64 ((w64 ((imax (imax 0 (w64 ((w64 (16 * x37.1)) - (w64 (x39.1 + 1))))) (w64 (x39.1 - (w64 (16 * (w64 (x37.2 + 1))))))) * (imax (imax 0 (w64 ((w64 (16 * x37.1)) - (w64 (x39.1 + 1))))) (w64 (x39.1 - (w64 (16 * (w64 (x37.2 + 1))))))))) * (w64 (x7.tdiv (w64 (2097152 * x42))))))))), .d (.int .i64 x7), .d (.bool x34.2.2.2)]]⟩ (by kernel_rfl) ?_
          refine K_skip ?_
          cases H
          exact K_end rfl
      refine K_blk ?_
      refine K_reg [] [] ⟨[(2, (.one (.ptr 1 0 0))), (4, (.one (.ptr 2 0 0))), (5, (.one (.d (.list (x1.map (D.int .i64)))))), (6, (I x7)), (7, (.one (.ptr 3 0 0))), (29, (.one (.own 0 0 p4))), (30, (I x11)), (31, (I (w64 (x34.1 + 1))))], [.vals (.agg [(.int .i64 0), (.int .i64 0)]) (p5.map e_st0), .cells [.d (.int .i64 p1), .d (.list (p2.map (D.int .i64))), .d (.int .i64 p3)], .cells [.d (.int .i64 0), .d (.int .i64 0), .d (.bool x19)], .cells [.d (.int .i64 x45.1), .d (.int .i64 x45.2.1), .d (.bool x45.2.2)]]⟩ (by kernel_rfl) trivial ?_
      cases H
      exact K_end rfl
  · refine K_f rfl (decide_eq_false hx35) ?_
    refine K_gh ⟨[(4, (.one (.ptr 1 0 0))), (7, (.one (.ptr 2 0 0)))], [.vals (.agg [(.int .i64 0), (.int .i64 0)]) (p5.map e_st0), .cells [.d (.int .i64 0), .d (.int .i64 0), .d (.bool x19)], .cells [.d (.int .i64 x34.2.1), .d (.int .i64 x34.2.2.1), .d (.bool x34.2.2.2)]]⟩ (by kernel_rfl) ?_
    cases H
    exact K_exit0 rfl rfl
def T_sketch_outside (k : Nat) (p1 : Int) (p2 : List Int) (p3 : Int) (p4 : Nat) (p5 : List (Int × Int)) : Option (Int × Int × Bool) := match k with
  | 0 => none
  | k + 1 => ((T_sketch_lengths k p1 p2 p3).bind fun x1 => (T_slices_Min_b354 k x1).bind fun x2 => (T_slices_Max_b354 k x1).bind fun x3 => (T_slices_Min_b354 k x1).bind fun x4 => ((if (!decide (x3 = x4)) = true then ((T_slices_Max_b354 k x1).bind fun x6 => some (w64 ((w64 (2097152 * x2)) * x6))) else some (w64 (2097152 * x2)))).bind fun x7 => (loopT (T_sketch_outside_l1 k x1 p1 p2 p3 p4 p5 x7 ((p4 : Nat) : Int) false) k (0, 0, 1, false)).bind fun x46 => some (x46.1, x46.2.1, x46.2.2))
theorem T_sketch_outside_ok (k : Nat) (p1 : Int) (p2 : List Int) (p3 : Int) (p4 : Nat) (p5 : List (Int × Int)) (r : Int × Int × Bool) : T_sketch_outside k p1 p2 p3 p4 p5 = some r → evF X k n_sketch_outside [(.agg [.d (.int .i64 p1), .d (.list (p2.map (D.int .i64))), .d (.int .i64 p3)]), (.one (.own 0 0 p4))] [.vals (.agg [(.int .i64 0), (.int .i64 0)]) (p5.map e_st0)] = some ((.agg [.d (.int .i64 r.1), .d (.int .i64 r.2.1), .d (.bool r.2.2)]), [.vals (.agg [(.int .i64 0), (.int .i64 0)]) (p5.map e_st0)]) := by
  intro H
  cases k with
  | zero => simp [T_sketch_outside] at H
  | succ k =>
    simp only [T_sketch_outside] at H
    refine F_in X_sketch_outside rfl ?_
    refine K_seq ?_
    refine K_reg [] [] ⟨[(1, (.one (.own 0 0 p4))), (2, (.one (.ptr 1 0 0))), (4, (.one (.ptr 2 0 0)))], [.vals (.agg [(.int .i64 0), (.int .i64 0)]) (p5.map e_st0), .cells [.d (.int .i64 p1), .d (.list (p2.map (D.int .i64))), .d (.int .i64 p3)], .cells [.d (.int .i64 0), .d (.int .i64 0), .d (.bool false)]]⟩ (by kernel_rfl) trivial ?_
    refine K_seq ?_
    obtain ⟨x1, hx1, H⟩ := bind_some' H
    refine K_reg [.r (.one (.d (.list (x1.map (D.int .i64))))) []] [evF X k n_sketch_lengths [(.agg [.d (.int .i64 p1), .d (.list (p2.map (D.int .i64))), .d (.int .i64 p3)])] [] = some ((.one (.d (.list (x1.map (D.int .i64))))), [])] ⟨[(1, (.one (.own 0 0 p4))), (2, (.one (.ptr 1 0 0))), (4, (.one (.ptr 2 0 0))), (5, (.one (.d (.list (x1.map (D.int .i64))))))], [.vals (.agg [(.int .i64 0), (.int .i64 0)]) (p5.map e_st0), .cells [.d (.int .i64 p1), .d (.list (p2.map (D.int .i64))), .d (.int .i64 p3)], .cells [.d (.int .i64 0), .d (.int .i64 0), .d (.bool false)]]⟩ (by kernel_rfl) (A1 (T_sketch_lengths_ok k p1 p2 p3 x1 hx1)) ?_
    refine K_seq ?_
    obtain ⟨x2, hx2, H⟩ := bind_some' H
    refine K_reg [.r (I x2) []] [evF X k n_slices_Min_b354 [(.one (.d (.list (x1.map (D.int .i64)))))] [] = some ((I x2), [])] ⟨[(1, (.one (.own 0 0 p4))), (2, (.one (.ptr 1 0 0))), (4, (.one (.ptr 2 0 0))), (5, (.one (.d (.list (x1.map (D.int .i64)))))), (6, (I (w64 (2097152 * x2))))], [.vals (.agg [(.int .i64 0), (.int .i64 0)]) (p5.map e_st0), .cells [.d (.int .i64 p1), .d (.list (p2.map (D.int .i64))), .d (.int .i64 p3)], .cells [.d (.int .i64 0), .d (.int .i64 0), .d (.bool false)]]⟩ (by kernel_rfl) (A1 (T_slices_Min_b354_ok k x1 x2 hx2)) ?_
    refine K_seq ?_
    refine K_seq ?_
    obtain ⟨x3, hx3, H⟩ := bind_some' H
    obtain ⟨x4, hx4, H⟩ := bind_some' H
    refine K_reg [.r (I x3) [], .r (I x4) []] [evF X k n_slices_Max_b354 [(.one (.d (.list (x1.map (D.int .i64)))))] [] = some ((I x3), []), evF X k n_slices_Min_b354 [(.one (.d (.list (x1.map (D.int .i64)))))] [] = some ((I x4), [])] ⟨[(1, (.one (.own 0 0 p4))), (2, (.one (.ptr 1 0 0))), (4, (.one (.ptr 2 0 0))), (5, (.one (.d (.list (x1.map (D.int .i64)))))), (6, (I (w64 (2097152 * x2)))), (22, (B (!decide (x3 = x4))))], [.vals (.agg [(.int .i64 0), (.int .i64 0)]) (p5.map e_st0), .cells [.d (.int .i64 p1), .d (.list (p2.map (D.int .i64))), .d (.int .i64 p3)], .cells [.d (.int .i64 0), .d (.int .i64 0), .d (.bool false)]]⟩ (by kernel_rfl) (AC (T_slices_Max_b354_ok k x1 x3 hx3) (A1 (T_slices_Min_b354_ok k x1 x4 hx4))) ?_
    obtain ⟨x7, hx7, H⟩ := bind_some' H
    refine K_of ⟨[(1, (.one (.own 0 0 p4))), (2, (.one (.ptr 1 0 0))), (4, (.one (.ptr 2 0 0))), (5, (.one (.d (.list (x1.map (D.int .i64)))))), (6, (I x7))], [.vals (.agg [(.int .i64 0), (.int .i64 0)]) (p5.map e_st0), .cells [.d (.int .i64 p1), .d (.list (p2.map (D.int .i64))), .d (.int .i64 p3)], .cells [.d (.int .i64 0), .d (.int .i64 0), .d (.bool false)]]⟩ ?_ ?_
    · clear H; have H := hx7; clear hx7; refine K_in ?_
      rcases ite_some H with ⟨hx5, H⟩ | ⟨hx5, H⟩
      · refine K_t rfl hx5 ?_
        obtain ⟨x6, hx6, H⟩ := bind_some' H
        refine K_reg [.r (I x6) []] [evF X k n_slices_Max_b354 [(.one (.d (.list (x1.map (D.int .i64)))))] [] = some ((I x6), [])] ⟨[(1, (.one (.own 0 0 p4))), (2, (.one (.ptr 1 0 0))), (4, (.one (.ptr 2 0 0))), (5, (.one (.d (.list (x1.map (D.int .i64)))))), (6, (I (w64 ((w64 (2097152 * x2)) * x6))))], [.vals (.agg [(.int .i64 0), (.int .i64 0)]) (p5.map e_st0), .cells [.d (.int .i64 p1), .d (.list (p2.map (D.int .i64))), .d (.int .i64 p3)], .cells [.d (.int .i64 0), .d (.int .i64 0), .d (.bool false)]]⟩ (by kernel_rfl) (A1 (T_slices_Max_b354_ok k x1 x6 hx6)) ?_
        cases H
        exact K_end rfl
      · refine K_f rfl (Bool.eq_false_iff.2 hx5) ?_
        refine K_gh ⟨[(1, (.one (.own 0 0 p4))), (2, (.one (.ptr 1 0 0))), (4, (.one (.ptr 2 0 0))), (5, (.one (.d (.list (x1.map (D.int .i64)))))), (6, (I (w64 (2097152 * x2))))], [.vals (.agg [(.int .i64 0), (.int .i64 0)]) (p5.map e_st0), .cells [.d (.int .i64 p1), .d (.list (p2.map (D.int .i64))), .d (.int .i64 p3)], .cells [.d (.int .i64 0), .d (.int .i64 0), .d (.bool false)]]⟩ (by kernel_rfl) ?_
        refine K_skip ?_
        cases H
        exact K_end rfl
    refine K_seq ?_
    refine K_reg [] [] ⟨[(1, (.one (.own 0 0 p4))), (2, (.one (.ptr 1 0 0))), (4, (.one (.ptr 2 0 0))), (5, (.one (.d (.list (x1.map (D.int .i64)))))), (6, (I x7)), (7, (.one (.ptr 3 0 0)))], [.vals (.agg [(.int .i64 0), (.int .i64 0)]) (p5.map e_st0), .cells [.d (.int .i64 p1), .d (.list (p2.map (D.int .i64))), .d (.int .i64 p3)], .cells [.d (.int .i64 0), .d (.int .i64 0), .d (.bool false)], .cells [.d (.int .i64 0), .d (.int .i64 1), .d (.bool false)]]⟩ (by kernel_rfl) trivial ?_
    refine K_seq ?_
    refine K_seq ?_
    refine K_reg [] [] ⟨[(2, (.one (.ptr 1 0 0))), (4, (.one (.ptr 2 0 0))), (5, (.one (.d (.list (x1.map (D.int .i64)))))), (6, (I x7)), (7, (.one (.ptr 3 0 0))), (29, (.one (.own 0 0 p4))), (30, (I ((p4 : Nat) : Int))), (31, (I 0))], [.vals (.agg [(.int .i64 0), (.int .i64 0)]) (p5.map e_st0), .cells [.d (.int .i64 p1), .d (.list (p2.map (D.int .i64))), .d (.int .i64 p3)], .cells [.d (.int .i64 0), .d (.int .i64 0), .d (.bool false)], .cells [.d (.int .i64 0), .d (.int .i64 1), .d (.bool false)]]⟩ (by kernel_rfl) trivial ?_
    refine K_block ?_
    obtain ⟨x46, hx46, H⟩ := bind_some' H
    refine K_loop ⟨[(4, (.one (.ptr 1 0 0))), (7, (.one (.ptr 2 0 0)))], [.vals (.agg [(.int .i64 0), (.int .i64 0)]) (p5.map e_st0), .cells [.d (.int .i64 0), .d (.int .i64 0), .d (.bool false)], .cells [.d (.int .i64 x46.1), .d (.int .i64 x46.2.1), .d (.bool x46.2.2)]]⟩ (loop_ok (fun (s : Int × Int × Int × Bool) => ⟨[(2, (.one (.ptr 1 0 0))), (4, (.one (.ptr 2 0 0))), (5, (.one (.d (.list (x1.map (D.int .i64)))))), (6, (I x7)), (7, (.one (.ptr 3 0 0))), (29, (.one (.own 0 0 p4))), (30, (I ((p4 : Nat) : Int))), (31, (I s.1))], [.vals (.agg [(.int .i64 0), (.int .i64 0)]) (p5.map e_st0), .cells [.d (.int .i64 p1), .d (.list (p2.map (D.int .i64))), .d (.int .i64 p3)], .cells [.d (.int .i64 0), .d (.int .i64 0), .d (.bool false)], .cells [.d (.int .i64 s.2.1), .d (.int .i64 s.2.2.1), .d (.bool s.2.2.2)]]⟩) (fun (r : (Int × Int × Bool)) => (.exit 0, ⟨[(4, (.one (.ptr 1 0 0))), (7, (.one (.ptr 2 0 0)))], [.vals (.agg [(.int .i64 0), (.int .i64 0)]) (p5.map e_st0), .cells [.d (.int .i64 0), .d (.int .i64 0), .d (.bool false)], .cells [.d (.int .i64 r.1), .d (.int .i64 r.2.1), .d (.bool r.2.2)]]⟩)) (fun r h => by cases h) (T_sketch_outside_l1_ok k x1 p1 p2 p3 p4 p5 x7 ((p4 : Nat) : Int) false) k (0, 0, 1, false) x46 hx46) rfl ?_
    refine K_seq ?_
    refine K_reg [] [] ⟨[(4, (.one (.ptr 1 0 0)))], [.vals (.agg [(.int .i64 0), (.int .i64 0)]) (p5.map e_st0), .cells [.d (.int .i64 x46.1), .d (.int .i64 x46.2.1), .d (.bool x46.2.2)]]⟩ (by kernel_rfl) trivial ?_
    refine K_gh ⟨[(4, (.one (.ptr 1 0 0)))], [.vals (.agg [(.int .i64 0), (.int .i64 0)]) (p5.map e_st0), .cells [.d (.int .i64 x46.1), .d (.int .i64 x46.2.1), .d (.bool x46.2.2)]]⟩ (by kernel_rfl) ?_
    cases H
    refine K_ret ?_
    kernel_rfl
def T_sketch_Region_l1 (k : Nat) (p1 : Int) (p2 : List Int) (p3 : Int) (p4 : Nat) (p5 : List (Int × Int)) (x7 : Int) (x19 : Bool × Int) : Option ((Bool × Int) ⊕ (Bool ⊕ Unit)) :=
  (if x19.2 < x7 then (if (0 : Int) ≤ x19.2 ∧ x19.2 < ((p4 : Nat) : Int) then (p5[(0 + x19.2.toNat)]?).bind fun x22 => (if (decide ((imin x22.1 x22.2) < (-1099511627776)) || decide (1099511627776 < (imax x22.1 x22.2))) = true then some (.inr (.inr ())) else some (.inl ((x19.1 || decide (x22.2 < x22.1)), (w64 (x19.2 + 1))))) else none) else some (.inr (.inl x19.1)))
theorem T_sketch_Region_l1_ok (k : Nat) (p1 : Int) (p2 : List Int) (p3 : Int) (p4 : Nat) (p5 : List (Int × Int)) (x7 : Int) : ∀ (x19 : Bool × Int) (x : (Bool × Int) ⊕ (Bool ⊕ Unit)), T_sketch_Region_l1 k p1 p2 p3 p4 p5 x7 x19 = some x → evC X (evF X k) k 1 l_sketch_Region_1 ⟨[(1, (.one (.own 0 0 p4))), (2, (.one (.ptr 1 0 0))), (4, (.one (.ptr 2 0 0))), (6, (B x19.1)), (22, (.one (.own 0 0 p4))), (23, (I x7)), (24, (I x19.2))], [.vals (.agg [(.int .i64 0), (.int .i64 0)]) (p5.map e_st0), .cells [.d (.int .i64 p1), .d (.list (p2.map (D.int .i64))), .d (.int .i64 p3)], .cells [.d (.int .i64 0), .d (.int .i64 0)]]⟩ = some (outS (fun (s : Bool × Int) => ⟨[(1, (.one (.own 0 0 p4))), (2, (.one (.ptr 1 0 0))), (4, (.one (.ptr 2 0 0))), (6, (B s.1)), (22, (.one (.own 0 0 p4))), (23, (I x7)), (24, (I s.2))], [.vals (.agg [(.int .i64 0), (.int .i64 0)]) (p5.map e_st0), .cells [.d (.int .i64 p1), .d (.list (p2.map (D.int .i64))), .d (.int .i64 p3)], .cells [.d (.int .i64 0), .d (.int .i64 0)]]⟩) (fun (r : Bool ⊕ Unit) => Sum.elim (fun y => (.exit 0, ⟨[(1, (.one (.own 0 0 p4))), (2, (.one (.ptr 1 0 0))), (4, (.one (.ptr 2 0 0))), (6, (B y))], [.vals (.agg [(.int .i64 0), (.int .i64 0)]) (p5.map e_st0), .cells [.d (.int .i64 p1), .d (.list (p2.map (D.int .i64))), .d (.int .i64 p3)], .cells [.d (.int .i64 0), .d (.int .i64 0)]]⟩)) (fun y => (.ret, ⟨[(4, (.one (.ptr 1 0 0))), (5, (I 1))], [.vals (.agg [(.int .i64 0), (.int .i64 0)]) (p5.map e_st0), .cells [.d (.int .i64 0), .d (.int .i64 0)]]⟩)) r) x) := by
  intro x19 x H
  unfold T_sketch_Region_l1 at H
  refine K_in ?_
  refine K_seq ?_
  refine K_reg [] [] ⟨[(1, (.one (.own 0 0 p4))), (2, (.one (.ptr 1 0 0))), (4, (.one (.ptr 2 0 0))), (6, (B x19.1)), (22, (.one (.own 0 0 p4))), (23, (I x7)), (24, (I x19.2)), (25, (B (decide (x19.2 < x7))))], [.vals (.agg [(.int .i64 0), (.int .i64 0)]) (p5.map e_st0), .cells [.d (.int .i64 p1), .d (.list (p2.map (D.int .i64))), .d (.int .i64 p3)], .cells [.d (.int .i64 0), .d (.int .i64 0)]]⟩ (by kernel_rfl) trivial ?_
  refine K_seq ?_
  rcases ite_some H with ⟨hx20, H⟩ | ⟨hx20, H⟩
  · refine K_t rfl (decide_eq_true hx20) ?_
    refine K_gh ⟨[(1, (.one (.own 0 0 p4))), (2, (.one (.ptr 1 0 0))), (4, (.one (.ptr 2 0 0))), (6, (B x19.1)), (22, (.one (.own 0 0 p4))), (23, (I x7)), (24, (I x19.2))], [.vals (.agg [(.int .i64 0), (.int .i64 0)]) (p5.map e_st0), .cells [.d (.int .i64 p1), .d (.list (p2.map (D.int .i64))), .d (.int .i64 p3)], .cells [.d (.int .i64 0), .d (.int .i64 0)]]⟩ (by kernel_rfl) ?_
    refine K_skip ?_
    refine K_seq ?_
    refine K_block ?_
    refine K_seq ?_
    obtain ⟨hx21, H⟩ := guard_some H
    obtain ⟨x22, hx22, H⟩ := bind_some' H
    refine K_reg [.l [.int .i64 x22.1, .int .i64 x22.2]] [(0 : Int) ≤ x19.2 ∧ x19.2 < ((p4 : Nat) : Int), ((p5.map e_st0).getD (0 + x19.2.toNat) (.agg [(.int .i64 0), (.int .i64 0)])).cells = [.int .i64 x22.1, .int .i64 x22.2]] ⟨[(1, (.one (.own 0 0 p4))), (2, (.one (.ptr 1 0 0))), (4, (.one (.ptr 2 0 0))), (6, (B x19.1)), (8, (.one (.ptr 3 0 0))), (22, (.one (.own 0 0 p4))), (23, (I x7)), (24, (I x19.2))], [.vals (.agg [(.int .i64 0), (.int .i64 0)]) (p5.map e_st0), .cells [.d (.int .i64 p1), .d (.list (p2.map (D.int .i64))), .d (.int .i64 p3)], .cells [.d (.int .i64 0), .d (.int .i64 0)], .cells [.d (.int .i64 x22.1), .d (.int .i64 x22.2)]]⟩ (by kernel_rfl) (AC hx21 (A1 (ld_ok hx22 e_st0 (.agg [(.int .i64 0), (.int .i64 0)])))) ?_
    refine K_seq ?_
    refine K_seq ?_
    refine K_reg [.m] [([.vals (.agg [(.int .i64 0), (.int .i64 0)]) (p5.map e_st0), .cells [.d (.int .i64 p1), .d (.list (p2.map (D.int .i64))), .d (.int .i64 p3)], .cells [.d (.int .i64 0), .d (.int .i64 0)], .cells [.d (.int .i64 x22.1), .d (.int .i64 x22.2)]] : Heap) = [.vals (.agg [(.int .i64 0), (.int .i64 0)]) (p5.map e_st0), .cells [.d (.int .i64 p1), .d (.list (p2.map (D.int .i64))), .d (.int .i64 p3)], .cells [.d (.int .i64 0), .d (.int .i64 0)], .cells [.d (.int .i64 x22.1), .d (.int .i64 x22.2)]]] ⟨[(1, (.one (.own 0 0 p4))), (2, (.one (.ptr 1 0 0))), (4, (.one (.ptr 2 0 0))), (6, (B x19.1)), (8, (.one (.ptr 3 0 0))), (22, (.one (.own 0 0 p4))), (23, (I x7)), (24, (I x19.2)), (41, (B (decide ((imin x22.1 x22.2) < (-1099511627776)) || decide (1099511627776 < (imax x22.1 x22.2)))))], [.vals (.agg [(.int .i64 0), (.int .i64 0)]) (p5.map e_st0), .cells [.d (.int .i64 p1), .d (.list (p2.map (D.int .i64))), .d (.int .i64 p3)], .cells [.d (.int .i64 0), .d (.int .i64 0)], .cells [.d (.int .i64 x22.1), .d (.int .i64 x22.2)]]⟩ (by kernel_rfl) (A1 rfl) ?_
    rcases ite_some H with ⟨hx23, H⟩ | ⟨hx23, H⟩
    · refine K_t rfl hx23 ?_
      refine K_seq ?_
      refine K_reg [] [] ⟨[(4, (.one (.ptr 1 0 0))), (5, (I 1))], [.vals (.agg [(.int .i64 0), (.int .i64 0)]) (p5.map e_st0), .cells [.d (.int .i64 0), .d (.int .i64 0)]]⟩ (by kernel_rfl) trivial ?_
      refine K_gh ⟨[(4, (.one (.ptr 1 0 0))), (5, (I 1))], [.vals (.agg [(.int .i64 0), (.int .i64 0)]) (p5.map e_st0), .cells [.d (.int .i64 0), .d (.int .i64 0)]]⟩ (by kernel_rfl) ?_
      cases H
      exact K_ret rfl
    · refine K_f rfl (Bool.eq_false_iff.2 hx23) ?_
      refine K_gh ⟨[(1, (.one (.own 0 0 p4))), (2, (.one (.ptr 1 0 0))), (4, (.one (.ptr 2 0 0))), (6, (B x19.1)), (8, (.one (.ptr 3 0 0))), (22, (.one (.own 0 0 p4))), (23, (I x7)), (24, (I x19.2))], [.vals (.agg [(.int .i64 0), (.int .i64 0)]) (p5.map e_st0), .cells [.d (.int .i64 p1), .d (.list (p2.map (D.int .i64))), .d (.int .i64 p3)], .cells [.d (.int .i64 0), .d (.int .i64 0)], .cells [.d (.int .i64 x22.1), .d (.int .i64 x22.2)]]⟩ (by kernel_rfl) ?_
      refine K_skip ?_
      refine K_reg [.m] [([.vals (.agg [(.int .i64 0), (.int .i64 0)]) (p5.map e_st0), .cells [.d (.int .i64 p1), .d (.list (p2.map (D.int .i64))), .d (.int .i64 p3)], .cells [.d (.int .i64 0), .d (.int .i64 0)], .cells [.d (.int .i64 x22.1), .d (.int .i64 x22.2)]] : Heap) = [.vals (.agg [(.int .i64 0), (.int .i64 0)]) (p5.map e_st0), .cells [.d (.int .i64 p1), .d (.list (p2.map (D.int .i64))), .d (.int .i64 p3)], .cells [.d (.int .i64 0), .d (.int .i64 0)], .cells [.d (.int .i64 x22.1), .d (.int .i64 x22.2)]]] ⟨[(1, (.one (.own 0 0 p4))), (2, (.one (.ptr 1 0 0))), (4, (.one (.ptr 2 0 0))), (6, (B (x19.1 || decide (x22.2 < x22.1)))), (22, (.one (.own 0 0 p4))), (23, (I x7)), (24, (I x19.2))], [.vals (.agg [(.int .i64 0), (.int .i64 0)]) (p5.map e_st0), .cells [.d (.int .i64 p1), .d (.list (p2.map (D.int .i64))), .d (.int .i64 p3)], .cells [.d (.int .i64 0), .d (.int .i64 0)]]⟩ (by kernel_rfl) (A1 rfl) ?_
      refine K_blk ?_
      refine K_reg [] [] ⟨[(1, (.one (.own 0 0 p4))), (2, (.one (.ptr 1 0 0))), (4, (.one (.ptr 2 0 0))), (6, (B (x19.1 || decide (x22.2 < x22.1)))), (22, (.one (.own 0 0 p4))), (23, (I x7)), (24, (I (w64 (x19.2 + 1))))], [.vals (.agg [(.int .i64 0), (.int .i64 0)]) (p5.map e_st0), .cells [.d (.int .i64 p1), .d (.list (p2.map (D.int .i64))), .d (.int .i64 p3)], .cells [.d (.int .i64 0), .d (.int .i64 0)]]⟩ (by kernel_rfl) trivial ?_
      cases H
      exact K_end rfl
  · refine K_f rfl (decide_eq_false hx20) ?_
    refine K_gh ⟨[(1, (.one (.own 0 0 p4))), (2, (.one (.ptr 1 0 0))), (4, (.one (.ptr 2 0 0))), (6, (B x19.1))], [.vals (.agg [(.int .i64 0), (.int .i64 0)]) (p5.map e_st0), .cells [.d (.int .i64 p1), .d (.list (p2.map (D.int .i64))), .d (.int .i64 p3)], .cells [.d (.int .i64 0), .d (.int .i64 0)]]⟩ (by kernel_rfl) ?_
    cases H
    exact K_exit0 rfl rfl
def T_sketch_Region (k : Nat) (p1 : Int) (p2 : List Int) (p3 : Int) (p4 : Nat) (p5 : List (Int × Int)) : Option (Int × Int × Int) := match k with
  | 0 => none
  | k + 1 => ((T_sketch_valid k p1 p2 p3).bind fun x1 => (if (!x1) = true then some (0, 0, 3) else (if (!decide (((p4 : Nat) : Int) = (p2.length : Int))) = true then some (0, 0, 8) else ((loopT (T_sketch_Region_l1 k p1 p2 p3 p4 p5 ((p4 : Nat) : Int)) k (false, 0)).bind fun x24 => (match x24 with | .inl x25 => (if x25 = true then ((T_ratio_Make k 0 1).bind fun x27 => some (x27.1, x27.2.1, x27.2.2)) else (if p3 = 0 then ((T_sketch_flat k p4 p5).bind fun x29 => some (x29.1, x29.2.1, x29.2.2)) else ((T_sketch_outside k p1 p2 p3 p4 p5).bind fun x30 => (if x30.2.2 = true then ((T_ratio_Make k 2 1).bind fun x32 => some (x32.1, x32.2.1, x32.2.2)) else (if (w64 (x30.2.1 - x30.1)) < 0 then ((T_ratio_Make k (w64 ((w64 (x30.2.1 * x30.2.1)) + (w64 ((w64 (x30.2.1 - x30.1)) * (w64 (x30.2.1 - x30.1)))))) (w64 (x30.2.1 * x30.2.1))).bind fun x34 => some (x34.1, x34.2.1, x34.2.2)) else ((T_ratio_Make k (w64 ((w64 (x30.2.1 * x30.2.1)) - (w64 ((w64 (x30.2.1 - x30.1)) * (w64 (x30.2.1 - x30.1)))))) (w64 (x30.2.1 * x30.2.1))).bind fun x35 => some (x35.1, x35.2.1, x35.2.2))))))) | .inr x36 => some (0, 0, 1))))))
theorem T_sketch_Region_ok (k : Nat) (p1 : Int) (p2 : List Int) (p3 : Int) (p4 : Nat) (p5 : List (Int × Int)) (r : Int × Int × Int) : T_sketch_Region k p1 p2 p3 p4 p5 = some r → evF X k n_sketch_Region [(.agg [.d (.int .i64 p1), .d (.list (p2.map (D.int .i64))), .d (.int .i64 p3)]), (.one (.own 0 0 p4))] [.vals (.agg [(.int .i64 0), (.int .i64 0)]) (p5.map e_st0)] = some ((.tup [(true, [.d (.int .i64 r.1), .d (.int .i64 r.2.1)]), (false, [.d (.int .i64 r.2.2)])]), [.vals (.agg [(.int .i64 0), (.int .i64 0)]) (p5.map e_st0)]) := by
  intro H
  cases k with
  | zero => simp [T_sketch_Region] at H
  | succ k =>
    simp only [T_sketch_Region] at H
    refine F_in X_sketch_Region rfl ?_
    refine K_seq ?_
    refine K_reg [] [] ⟨[(1, (.one (.own 0 0 p4))), (2, (.one (.ptr 1 0 0))), (4, (.one (.ptr 2 0 0)))], [.vals (.agg [(.int .i64 0), (.int .i64 0)]) (p5.map e_st0), .cells [.d (.int .i64 p1), .d (.list (p2.map (D.int .i64))), .d (.int .i64 p3)], .cells [.d (.int .i64 0), .d (.int .i64 0)]]⟩ (by kernel_rfl) trivial ?_
    refine K_seq ?_
    refine K_seq ?_
    obtain ⟨x1, hx1, H⟩ := bind_some' H
    refine K_reg [.r (B x1) []] [evF X k n_sketch_valid [(.agg [.d (.int .i64 p1), .d (.list (p2.map (D.int .i64))), .d (.int .i64 p3)])] [] = some ((B x1), [])] ⟨[(1, (.one (.own 0 0 p4))), (2, (.one (.ptr 1 0 0))), (4, (.one (.ptr 2 0 0))), (13, (B (!x1)))], [.vals (.agg [(.int .i64 0), (.int .i64 0)]) (p5.map e_st0), .cells [.d (.int .i64 p1), .d (.list (p2.map (D.int .i64))), .d (.int .i64 p3)], .cells [.d (.int .i64 0), .d (.int .i64 0)]]⟩ (by kernel_rfl) (A1 (T_sketch_valid_ok k p1 p2 p3 x1 hx1)) ?_
    rcases ite_some H with ⟨hx2, H⟩ | ⟨hx2, H⟩
    · refine K_t rfl hx2 ?_
      refine K_seq ?_
      refine K_reg [] [] ⟨[(4, (.one (.ptr 1 0 0))), (5, (I 3))], [.vals (.agg [(.int .i64 0), (.int .i64 0)]) (p5.map e_st0), .cells [.d (.int .i64 0), .d (.int .i64 0)]]⟩ (by kernel_rfl) trivial ?_
      refine K_gh ⟨[(4, (.one (.ptr 1 0 0))), (5, (I 3))], [.vals (.agg [(.int .i64 0), (.int .i64 0)]) (p5.map e_st0), .cells [.d (.int .i64 0), .d (.int .i64 0)]]⟩ (by kernel_rfl) ?_
      cases H
      refine K_ret ?_
      kernel_rfl
    · refine K_f rfl (Bool.eq_false_iff.2 hx2) ?_
      refine K_gh ⟨[(1, (.one (.own 0 0 p4))), (2, (.one (.ptr 1 0 0))), (4, (.one (.ptr 2 0 0)))], [.vals (.agg [(.int .i64 0), (.int .i64 0)]) (p5.map e_st0), .cells [.d (.int .i64 p1), .d (.list (p2.map (D.int .i64))), .d (.int .i64 p3)], .cells [.d (.int .i64 0), .d (.int .i64 0)]]⟩ (by kernel_rfl) ?_
      refine K_skip ?_
      refine K_seq ?_
      refine K_seq ?_
      refine K_reg [.n p2.length] [((p2.map (D.int .i64))).length = p2.length] ⟨[(1, (.one (.own 0 0 p4))), (2, (.one (.ptr 1 0 0))), (4, (.one (.ptr 2 0 0))), (20, (B (!decide (((p4 : Nat) : Int) = (p2.length : Int)))))], [.vals (.agg [(.int .i64 0), (.int .i64 0)]) (p5.map e_st0), .cells [.d (.int .i64 p1), .d (.list (p2.map (D.int .i64))), .d (.int .i64 p3)], .cells [.d (.int .i64 0), .d (.int .i64 0)]]⟩ (by kernel_rfl) (A1 (List.length_map _)) ?_
      rcases ite_some H with ⟨hx3, H⟩ | ⟨hx3, H⟩
      · refine K_t rfl hx3 ?_
        refine K_seq ?_
        refine K_reg [] [] ⟨[(4, (.one (.ptr 1 0 0))), (5, (I 8))], [.vals (.agg [(.int .i64 0), (.int .i64 0)]) (p5.map e_st0), .cells [.d (.int .i64 0), .d (.int .i64 0)]]⟩ (by kernel_rfl) trivial ?_
        refine K_gh ⟨[(4, (.one (.ptr 1 0 0))), (5, (I 8))], [.vals (.agg [(.int .i64 0), (.int .i64 0)]) (p5.map e_st0), .cells [.d (.int .i64 0), .d (.int .i64 0)]]⟩ (by kernel_rfl) ?_
        cases H
        refine K_ret ?_
        kernel_rfl
      · refine K_f rfl (Bool.eq_false_iff.2 hx3) ?_
        refine K_gh ⟨[(1, (.one (.own 0 0 p4))), (2, (.one (.ptr 1 0 0))), (4, (.one (.ptr 2 0 0)))], [.vals (.agg [(.int .i64 0), (.int .i64 0)]) (p5.map e_st0), .cells [.d (.int .i64 p1), .d (.list (p2.map (D.int .i64))), .d (.int .i64 p3)], .cells [.d (.int .i64 0), .d (.int .i64 0)]]⟩ (by kernel_rfl) ?_
        refine K_skip ?_
        refine K_seq ?_
        refine K_reg [] [] ⟨[(1, (.one (.own 0 0 p4))), (2, (.one (.ptr 1 0 0))), (4, (.one (.ptr 2 0 0))), (6, (B false))], [.vals (.agg [(.int .i64 0), (.int .i64 0)]) (p5.map e_st0), .cells [.d (.int .i64 p1), .d (.list (p2.map (D.int .i64))), .d (.int .i64 p3)], .cells [.d (.int .i64 0), .d (.int .i64 0)]]⟩ (by kernel_rfl) trivial ?_
        refine K_seq ?_
        refine K_seq ?_
        refine K_reg [] [] ⟨[(1, (.one (.own 0 0 p4))), (2, (.one (.ptr 1 0 0))), (4, (.one (.ptr 2 0 0))), (6, (B false)), (22, (.one (.own 0 0 p4))), (23, (I ((p4 : Nat) : Int))), (24, (I 0))], [.vals (.agg [(.int .i64 0), (.int .i64 0)]) (p5.map e_st0), .cells [.d (.int .i64 p1), .d (.list (p2.map (D.int .i64))), .d (.int .i64 p3)], .cells [.d (.int .i64 0), .d (.int .i64 0)]]⟩ (by kernel_rfl) trivial ?_
        refine K_block ?_
        obtain ⟨x24, hx24, H⟩ := bind_some' H
        cases x24 with
        | inl x25 =>
          dsimp only at H
          refine K_loop ⟨[(1, (.one (.own 0 0 p4))), (2, (.one (.ptr 1 0 0))), (4, (.one (.ptr 2 0 0))), (6, (B x25))], [.vals (.agg [(.int .i64 0), (.int .i64 0)]) (p5.map e_st0), .cells [.d (.int .i64 p1), .d (.list (p2.map (D.int .i64))), .d (.int .i64 p3)], .cells [.d (.int .i64 0), .d (.int .i64 0)]]⟩ (loop_ok (fun (s : Bool × Int) => ⟨[(1, (.one (.own 0 0 p4))), (2, (.one (.ptr 1 0 0))), (4, (.one (.ptr 2 0 0))), (6, (B s.1)), (22, (.one (.own 0 0 p4))), (23, (I ((p4 : Nat) : Int))), (24, (I s.2))], [.vals (.agg [(.int .i64 0), (.int .i64 0)]) (p5.map e_st0), .cells [.d (.int .i64 p1), .d (.list (p2.map (D.int .i64))), .d (.int .i64 p3)], .cells [.d (.int .i64 0), .d (.int .i64 0)]]⟩) (fun (r : Bool ⊕ Unit) => Sum.elim (fun y => (.exit 0, ⟨[(1, (.one (.own 0 0 p4))), (2, (.one (.ptr 1 0 0))), (4, (.one (.ptr 2 0 0))), (6, (B y))], [.vals (.agg [(.int .i64 0), (.int .i64 0)]) (p5.map e_st0), .cells [.d (.int .i64 p1), .d (.list (p2.map (D.int .i64))), .d (.int .i64 p3)], .cells [.d (.int .i64 0), .d (.int .i64 0)]]⟩)) (fun y => (.ret, ⟨[(4, (.one (.ptr 1 0 0))), (5, (I 1))], [.vals (.agg [(.int .i64 0), (.int .i64 0)]) (p5.map e_st0), .cells [.d (.int .i64 0), .d (.int .i64 0)]]⟩)) r) (fun r h => by cases r <;> cases h) (T_sketch_Region_l1_ok k p1 p2 p3 p4 p5 ((p4 : Nat) : Int)) k (false, 0) (.inl x25) hx24) rfl ?_
          refine K_seq ?_
          refine K_seq ?_
          refine K_reg [] [] ⟨[(1, (.one (.own 0 0 p4))), (2, (.one (.ptr 1 0 0))), (4, (.one (.ptr 2 0 0))), (52, (B x25))], [.vals (.agg [(.int .i64 0), (.int .i64 0)]) (p5.map e_st0), .cells [.d (.int .i64 p1), .d (.list (p2.map (D.int .i64))), .d (.int .i64 p3)], .cells [.d (.int .i64 0), .d (.int .i64 0)]]⟩ (by kernel_rfl) trivial ?_
          rcases ite_some H with ⟨hx26, H⟩ | ⟨hx26, H⟩
          · refine K_t rfl hx26 ?_
            refine K_seq ?_
            obtain ⟨x27, hx27, H⟩ := bind_some' H
            refine K_reg [.r (.tup [(true, [.d (.int .i64 x27.1), .d (.int .i64 x27.2.1)]), (false, [.d (.int .i64 x27.2.2)])]) []] [evF X k n_ratio_Make [(I 0), (I 1)] [] = some ((.tup [(true, [.d (.int .i64 x27.1), .d (.int .i64 x27.2.1)]), (false, [.d (.int .i64 x27.2.2)])]), [])] ⟨[(4, (.one (.ptr 1 0 0))), (5, (I x27.2.2))], [.vals (.agg [(.int .i64 0), (.int .i64 0)]) (p5.map e_st0), .cells [.d (.int .i64 x27.1), .d (.int .i64 x27.2.1)]]⟩ (by kernel_rfl) (A1 (T_ratio_Make_ok k 0 1 x27 hx27)) ?_
            refine K_gh ⟨[(4, (.one (.ptr 1 0 0))), (5, (I x27.2.2))], [.vals (.agg [(.int .i64 0), (.int .i64 0)]) (p5.map e_st0), .cells [.d (.int .i64 x27.1), .d (.int .i64 x27.2.1)]]⟩ (by kernel_rfl) ?_
            cases H
            refine K_ret ?_
            kernel_rfl
          · refine K_f rfl (Bool.eq_false_iff.2 hx26) ?_
            refine K_gh ⟨[(1, (.one (.own 0 0 p4))), (2, (.one (.ptr 1 0 0))), (4, (.one (.ptr 2 0 0)))], [.vals (.agg [(.int .i64 0), (.int .i64 0)]) (p5.map e_st0), .cells [.d (.int .i64 p1), .d (.list (p2.map (D.int .i64))), .d (.int .i64 p3)], .cells [.d (.int .i64 0), .d (.int .i64 0)]]⟩ (by kernel_rfl) ?_
            refine K_skip ?_
            refine K_seq ?_
            refine K_seq ?_
            refine K_reg [] [] ⟨[(1, (.one (.own 0 0 p4))), (2, (.one (.ptr 1 0 0))), (4, (.one (.ptr 2 0 0))), (58, (B (decide (p3 = 0))))], [.vals (.agg [(.int .i64 0), (.int .i64 0)]) (p5.map e_st0), .cells [.d (.int .i64 p1), .d (.list (p2.map (D.int .i64))), .d (.int .i64 p3)], .cells [.d (.int .i64 0), .d (.int .i64 0)]]⟩ (by kernel_rfl) trivial ?_
            rcases ite_some H with ⟨hx28, H⟩ | ⟨hx28, H⟩
            · refine K_t rfl (decide_eq_true hx28) ?_
              refine K_seq ?_
              obtain ⟨x29, hx29, H⟩ := bind_some' H
              refine K_reg [.r (.tup [(true, [.d (.int .i64 x29.1), .d (.int .i64 x29.2.1)]), (false, [.d (.int .i64 x29.2.2)])]) [.vals (.agg [(.int .i64 0), (.int .i64 0)]) (p5.map e_st0)]] [evF X k n_sketch_flat [(.one (.own 0 0 p4))] [.vals (.agg [(.int .i64 0), (.int .i64 0)]) (p5.map e_st0)] = some ((.tup [(true, [.d (.int .i64 x29.1), .d (.int .i64 x29.2.1)]), (false, [.d (.int .i64 x29.2.2)])]), [.vals (.agg [(.int .i64 0), (.int .i64 0)]) (p5.map e_st0)])] ⟨[(4, (.one (.ptr 1 0 0))), (5, (I x29.2.2))], [.vals (.agg [(.int .i64 0), (.int .i64 0)]) (p5.map e_st0), .cells [.d (.int .i64 x29.1), .d (.int .i64 x29.2.1)]]⟩ (by kernel_rfl) (A1 (T_sketch_flat_ok k p4 p5 x29 hx29)) ?_
              refine K_gh ⟨[(4, (.one (.ptr 1 0 0))), (5, (I x29.2.2))], [.vals (.agg [(.int .i64 0), (.int .i64 0)]) (p5.map e_st0), .cells [.d (.int .i64 x29.1), .d (.int .i64 x29.2.1)]]⟩ (by kernel_rfl) ?_
              cases H
              refine K_ret ?_
              kernel_rfl
            · refine K_f rfl (decide_eq_false hx28) ?_
              refine K_gh ⟨[(1, (.one (.own 0 0 p4))), (2, (.one (.ptr 1 0 0))), (4, (.one (.ptr 2 0 0)))], [.vals (.agg [(.int .i64 0), (.int .i64 0)]) (p5.map e_st0), .cells [.d (.int .i64 p1), .d (.list (p2.map (D.int .i64))), .d (.int .i64 p3)], .cells [.d (.int .i64 0), .d (.int .i64 0)]]⟩ (by kernel_rfl) ?_
              refine K_skip ?_
              refine K_seq ?_
              obtain ⟨x30, hx30, H⟩ := bind_some' H
              refine K_reg [.r (.agg [.d (.int .i64 x30.1), .d (.int .i64 x30.2.1), .d (.bool x30.2.2)]) [.vals (.agg [(.int .i64 0), (.int .i64 0)]) (p5.map e_st0)]] [evF X k n_sketch_outside [(.agg [.d (.int .i64 p1), .d (.list (p2.map (D.int .i64))), .d (.int .i64 p3)]), (.one (.own 0 0 p4))] [.vals (.agg [(.int .i64 0), (.int .i64 0)]) (p5.map e_st0)] = some ((.agg [.d (.int .i64 x30.1), .d (.int .i64 x30.2.1), .d (.bool x30.2.2)]), [.vals (.agg [(.int .i64 0), (.int .i64 0)]) (p5.map e_st0)])] ⟨[(4, (.one (.ptr 1 0 0))), (9, (.one (.ptr 2 0 0)))], [.vals (.agg [(.int .i64 0), (.int .i64 0)]) (p5.map e_st0), .cells [.d (.int .i64 0), .d (.int .i64 0)], .cells [.d (.int .i64 x30.1), .d (.int .i64 x30.2.1), .d (.bool x30.2.2)]]⟩ (by kernel_rfl) (A1 (T_sketch_outside_ok k p1 p2 p3 p4 p5 x30 hx30)) ?_
              refine K_seq ?_
              refine K_reg [] [] ⟨[(4, (.one (.ptr 1 0 0))), (9, (.one (.ptr 2 0 0))), (10, (I (w64 (x30.2.1 - x30.1))))], [.vals (.agg [(.int .i64 0), (.int .i64 0)]) (p5.map e_st0), .cells [.d (.int .i64 0), .d (.int .i64 0)], .cells [.d (.int .i64 x30.1), .d (.int .i64 x30.2.1), .d (.bool x30.2.2)]]⟩ (by kernel_rfl) trivial ?_
              refine K_seq ?_
              refine K_block ?_
              refine K_seq ?_
              refine K_reg [] [] ⟨[(4, (.one (.ptr 1 0 0))), (9, (.one (.ptr 2 0 0))), (10, (I (w64 (x30.2.1 - x30.1)))), (73, (B x30.2.2))], [.vals (.agg [(.int .i64 0), (.int .i64 0)]) (p5.map e_st0), .cells [.d (.int .i64 0), .d (.int .i64 0)], .cells [.d (.int .i64 x30.1), .d (.int .i64 x30.2.1), .d (.bool x30.2.2)]]⟩ (by kernel_rfl) trivial ?_
              rcases ite_some H with ⟨hx31, H⟩ | ⟨hx31, H⟩
              · refine K_t rfl hx31 ?_
                refine K_seq ?_
                obtain ⟨x32, hx32, H⟩ := bind_some' H
                refine K_reg [.r (.tup [(true, [.d (.int .i64 x32.1), .d (.int .i64 x32.2.1)]), (false, [.d (.int .i64 x32.2.2)])]) []] [evF X k n_ratio_Make [(I 2), (I 1)] [] = some ((.tup [(true, [.d (.int .i64 x32.1), .d (.int .i64 x32.2.1)]), (false, [.d (.int .i64 x32.2.2)])]), [])] ⟨[(4, (.one (.ptr 1 0 0))), (5, (I x32.2.2))], [.vals (.agg [(.int .i64 0), (.int .i64 0)]) (p5.map e_st0), .cells [.d (.int .i64 x32.1), .d (.int .i64 x32.2.1)]]⟩ (by kernel_rfl) (A1 (T_ratio_Make_ok k 2 1 x32 hx32)) ?_
                refine K_gh ⟨[(4, (.one (.ptr 1 0 0))), (5, (I x32.2.2))], [.vals (.agg [(.int .i64 0), (.int .i64 0)]) (p5.map e_st0), .cells [.d (.int .i64 x32.1), .d (.int .i64 x32.2.1)]]⟩ (by kernel_rfl) ?_
                cases H
                refine K_ret ?_
                kernel_rfl
              · refine K_f rfl (Bool.eq_false_iff.2 hx31) ?_
                refine K_seq ?_
                refine K_reg [] [] ⟨[(4, (.one (.ptr 1 0 0))), (9, (.one (.ptr 2 0 0))), (10, (I (w64 (x30.2.1 - x30.1)))), (79, (B (decide ((w64 (x30.2.1 - x30.1)) < 0))))], [.vals (.agg [(.int .i64 0), (.int .i64 0)]) (p5.map e_st0), .cells [.d (.int .i64 0), .d (.int .i64 0)], .cells [.d (.int .i64 x30.1), .d (.int .i64 x30.2.1), .d (.bool x30.2.2)]]⟩ (by kernel_rfl) trivial ?_
                rcases ite_some H with ⟨hx33, H⟩ | ⟨hx33, H⟩
                · refine K_t rfl (decide_eq_true hx33) ?_
                  refine K_seq ?_
                  obtain ⟨x34, hx34, H⟩ := bind_some' H
                  refine K_reg [.r (.tup [(true, [.d (.int .i64 x34.1), .d (.int .i64 x34.2.1)]), (false, [.d (.int .i64 x34.2.2)])]) []] [evF X k n_ratio_Make [(I (w64 ((w64 (x30.2.1 * x30.2.1)) + (w64 ((w64 (x30.2.1 - x30.1)) * (w64 (x30.2.1 - x30.1))))))), (I (w64 (x30.2.1 * x30.2.1)))] [] = some ((.tup [(true, [.d (.int .i64 x34.1), .d (.int .i64 x34.2.1)]), (false, [.d (.int .i64 x34.2.2)])]), [])] ⟨[(4, (.one (.ptr 1 0 0))), (5, (I x34.2.2))], [.vals (.agg [(.int .i64 0), (.int .i64 0)]) (p5.map e_st0), .cells [.d (.int .i64 x34.1), .d (.int .i64 x34.2.1)]]⟩ (by kernel_rfl) (A1 (T_ratio_Make_ok k (w64 ((w64 (x30.2.1 * x30.2.1)) + (w64 ((w64 (x30.2.1 - x30.1)) * (w64 (x30.2.1 - x30.1)))))) (w64 (x30.2.1 * x30.2.1)) x34 hx34)) ?_
                  refine K_gh ⟨[(4, (.one (.ptr 1 0 0))), (5, (I x34.2.2))], [.vals (.agg [(.int .i64 0), (.int .i64 0)]) (p5.map e_st0), .cells [.d (.int .i64 x34.1), .d (.int .i64 x34.2.1)]]⟩ (by kernel_rfl) ?_
                  cases H
                  refine K_ret ?_
                  kernel_rfl
                · refine K_f rfl (decide_eq_false hx33) ?_
                  refine K_gh ⟨[(4, (.one (.ptr 1 0 0))), (9, (.one (.ptr 2 0 0))), (10, (I (w64 (x30.2.1 - x30.1))))], [.vals (.agg [(.int .i64 0), (.int .i64 0)]) (p5.map e_st0), .cells [.d (.int .i64 0), .d (.int .i64 0)], .cells [.d (.int .i64 x30.1), .d (.int .i64 x30.2.1), .d (.bool x30.2.2)]]⟩ (by kernel_rfl) ?_
                  refine K_skip ?_
                  refine K_blk ?_
                  refine K_seq ?_
                  obtain ⟨x35, hx35, H⟩ := bind_some' H
                  refine K_reg [.r (.tup [(true, [.d (.int .i64 x35.1), .d (.int .i64 x35.2.1)]), (false, [.d (.int .i64 x35.2.2)])]) []] [evF X k n_ratio_Make [(I (w64 ((w64 (x30.2.1 * x30.2.1)) - (w64 ((w64 (x30.2.1 - x30.1)) * (w64 (x30.2.1 - x30.1))))))), (I (w64 (x30.2.1 * x30.2.1)))] [] = some ((.tup [(true, [.d (.int .i64 x35.1), .d (.int .i64 x35.2.1)]), (false, [.d (.int .i64 x35.2.2)])]), [])] ⟨[(4, (.one (.ptr 1 0 0))), (5, (I x35.2.2))], [.vals (.agg [(.int .i64 0), (.int .i64 0)]) (p5.map e_st0), .cells [.d (.int .i64 x35.1), .d (.int .i64 x35.2.1)]]⟩ (by kernel_rfl) (A1 (T_ratio_Make_ok k (w64 ((w64 (x30.2.1 * x30.2.1)) - (w64 ((w64 (x30.2.1 - x30.1)) * (w64 (x30.2.1 - x30.1)))))) (w64 (x30.2.1 * x30.2.1)) x35 hx35)) ?_
                  refine K_gh ⟨[(4, (.one (.ptr 1 0 0))), (5, (I x35.2.2))], [.vals (.agg [(.int .i64 0), (.int .i64 0)]) (p5.map e_st0), .cells [.d (.int .i64 x35.1), .d (.int .i64 x35.2.1)]]⟩ (by kernel_rfl) ?_
                  cases H
                  refine K_ret ?_
                  kernel_rfl
        | inr x36 =>
          dsimp only at H
          cases H
          refine K_loopr ⟨[(4, (.one (.ptr 1 0 0))), (5, (I 1))], [.vals (.agg [(.int .i64 0), (.int .i64 0)]) (p5.map e_st0), .cells [.d (.int .i64 0), .d (.int .i64 0)]]⟩ (loop_ok (fun (s : Bool × Int) => ⟨[(1, (.one (.own 0 0 p4))), (2, (.one (.ptr 1 0 0))), (4, (.one (.ptr 2 0 0))), (6, (B s.1)), (22, (.one (.own 0 0 p4))), (23, (I ((p4 : Nat) : Int))), (24, (I s.2))], [.vals (.agg [(.int .i64 0), (.int .i64 0)]) (p5.map e_st0), .cells [.d (.int .i64 p1), .d (.list (p2.map (D.int .i64))), .d (.int .i64 p3)], .cells [.d (.int .i64 0), .d (.int .i64 0)]]⟩) (fun (r : Bool ⊕ Unit) => Sum.elim (fun y => (.exit 0, ⟨[(1, (.one (.own 0 0 p4))), (2, (.one (.ptr 1 0 0))), (4, (.one (.ptr 2 0 0))), (6, (B y))], [.vals (.agg [(.int .i64 0), (.int .i64 0)]) (p5.map e_st0), .cells [.d (.int .i64 p1), .d (.list (p2.map (D.int .i64))), .d (.int .i64 p3)], .cells [.d (.int .i64 0), .d (.int .i64 0)]]⟩)) (fun y => (.ret, ⟨[(4, (.one (.ptr 1 0 0))), (5, (I 1))], [.vals (.agg [(.int .i64 0), (.int .i64 0)]) (p5.map e_st0), .cells [.d (.int .i64 0), .d (.int .i64 0)]]⟩)) r) (fun r h => by cases r <;> cases h) (T_sketch_Region_l1_ok k p1 p2 p3 p4 p5 ((p4 : Nat) : Int)) k (false, 0) (.inr x36) hx24) ?_
          kernel_rfl
def T_ref01_common_l1 (k : Nat) (x5 : Int × Int) : Option ((Int × Int) ⊕ Int) :=
  (if 0 < x5.2 then (if x5.2 ≠ 0 then some (.inl (x5.2, (x5.1.tmod x5.2))) else none) else some (.inr x5.1))
theorem T_ref01_common_l1_ok (k : Nat) : ∀ (x5 : Int × Int) (x : (Int × Int) ⊕ Int), T_ref01_common_l1 k x5 = some x → evC X (evF X k) k 0 l_ref01_common_1 ⟨[(0, (I x5.1)), (1, (I x5.2))], []⟩ = some (outS (fun (s : Int × Int) => ⟨[(0, (I s.1)), (1, (I s.2))], []⟩) (fun (r : Int) => (.exit 0, ⟨[(0, (I r))], []⟩)) x) := by
  intro x5 x H
  unfold T_ref01_common_l1 at H
  refine K_in ?_
  refine K_seq ?_
  refine K_seq ?_
  refine K_reg [] [] ⟨[(0, (I x5.1)), (1, (I x5.2)), (6, (B (decide (0 < x5.2))))], []⟩ (by kernel_rfl) trivial ?_
  rcases ite_some H with ⟨hx6, H⟩ | ⟨hx6, H⟩
  · refine K_t rfl (decide_eq_true hx6) ?_
    refine K_gh ⟨[(0, (I x5.1)), (1, (I x5.2))], []⟩ (by kernel_rfl) ?_
    refine K_skip ?_
    refine K_block ?_
    obtain ⟨hx7, H⟩ := guard_some H
    refine K_reg [] [x5.2 ≠ (0 : Int)] ⟨[(0, (I x5.2)), (1, (I (x5.1.tmod x5.2)))], []⟩ (by kernel_rfl) (A1 hx7) ?_
    refine K_blk ?_
    cases H
    exact K_end rfl
  · refine K_f rfl (decide_eq_false hx6) ?_
    refine K_gh ⟨[(0, (I x5.1))], []⟩ (by kernel_rfl) ?_
    cases H
    exact K_exit0 rfl rfl
def T_ref01_common (k : Nat) (p1 : Int) (p2 : Int) : Option Int := match k with
  | 0 => none
  | k + 1 => ((loopT (T_ref01_common_l1 k) k (p1, p2)).bind fun x8 => some x8)
theorem T_ref01_common_ok (k : Nat) (p1 : Int) (p2 : Int) (r : Int) : T_ref01_common k p1 p2 = some r → evF X k n_ref01_common [(I p1), (I p2)] [] = some ((I r), []) := by
  intro H
  cases k with
  | zero => simp [T_ref01_common] at H
  | succ k =>
    simp only [T_ref01_common] at H
    refine F_in X_ref01_common rfl ?_
    refine K_seq ?_
    refine K_reg [] [] ⟨[(0, (I p1)), (1, (I p2))], []⟩ (by kernel_rfl) trivial ?_
    refine K_seq ?_
    refine K_block ?_
    obtain ⟨x8, hx8, H⟩ := bind_some' H
    refine K_loop ⟨[(0, (I x8))], []⟩ (loop_ok (fun (s : Int × Int) => ⟨[(0, (I s.1)), (1, (I s.2))], []⟩) (fun (r : Int) => (.exit 0, ⟨[(0, (I r))], []⟩)) (fun r h => by cases h) (T_ref01_common_l1_ok k) k (p1, p2) x8 hx8) rfl ?_
    refine K_seq ?_
    refine K_reg [] [] ⟨[(4, (I x8))], []⟩ (by kernel_rfl) trivial ?_
    refine K_gh ⟨[(4, (I x8))], []⟩ (by kernel_rfl) ?_
    cases H
    refine K_ret ?_
    kernel_rfl
def T_ref01_Valid (k : Nat) (p1 : Int) (p2 : Int) : Option Bool := match k with
  | 0 => none
  | k + 1 => (((if (((decide (0 ≤ p1) && decide (p1 ≤ 2305843009213693952)) && decide (1 ≤ p2)) && decide (p2 ≤ 1152921504606846976)) = true then ((T_ref01_common k p1 p2).bind fun x3 => some (decide (x3 = 1))) else some false)).bind fun x4 => some x4)
theorem T_ref01_Valid_ok (k : Nat) (p1 : Int) (p2 : Int) (r : Bool) : T_ref01_Valid k p1 p2 = some r → evF X k n_ref01_Valid [(.agg [.d (.int .i64 p1), .d (.int .i64 p2)])] [] = some ((B r), []) := by
  intro H
  cases k with
  | zero => simp [T_ref01_Valid] at H
  | succ k =>
    simp only [T_ref01_Valid] at H
    refine F_in X_ref01_Valid rfl ?_
    refine K_seq ?_
    refine K_reg [] [] ⟨[(1, (.one (.ptr 0 0 0)))], [.cells [.d (.int .i64 p1), .d (.int .i64 p2)]]⟩ (by kernel_rfl) trivial ?_
    refine K_seq ?_
    obtain ⟨x4, hx4, H⟩ := bind_some' H
    refine K_of ⟨[(2, (B x4))], []⟩ ?_ ?_
    · clear H; have H := hx4; clear hx4; refine K_in ?_
      rcases ite_some H with ⟨hx2, H⟩ | ⟨hx2, H⟩
      · obtain ⟨x3, hx3, H⟩ := bind_some' H
        refine K_reg [.m, .m, .m, .b true, .r (I x3) []] [([.cells [.d (.int .i64 p1), .d (.int .i64 p2)]] : Heap) = [.cells [.d (.int .i64 p1), .d (.int .i64 p2)]], ([.cells [.d (.int .i64 p1), .d (.int .i64 p2)]] : Heap) = [.cells [.d (.int .i64 p1), .d (.int .i64 p2)]], ([.cells [.d (.int .i64 p1), .d (.int .i64 p2)]] : Heap) = [.cells [.d (.int .i64 p1), .d (.int .i64 p2)]], (((decide (0 ≤ p1) && decide (p1 ≤ 2305843009213693952)) && decide (1 ≤ p2)) && decide (p2 ≤ 1152921504606846976)) = true, evF X k n_ref01_common [(I p1), (I p2)] [] = some ((I x3), [])] ⟨[(2, (B (decide (x3 = 1))))], []⟩ (by kernel_rfl) (AC rfl (AC rfl (AC rfl (AC hx2 (A1 (T_ref01_common_ok k p1 p2 x3 hx3)))))) ?_
        cases H
        exact K_end rfl
      · refine K_reg [.m, .m, .m, .b false] [([.cells [.d (.int .i64 p1), .d (.int .i64 p2)]] : Heap) = [.cells [.d (.int .i64 p1), .d (.int .i64 p2)]], ([.cells [.d (.int .i64 p1), .d (.int .i64 p2)]] : Heap) = [.cells [.d (.int .i64 p1), .d (.int .i64 p2)]], ([.cells [.d (.int .i64 p1), .d (.int .i64 p2)]] : Heap) = [.cells [.d (.int .i64 p1), .d (.int .i64 p2)]], (((decide (0 ≤ p1) && decide (p1 ≤ 2305843009213693952)) && decide (1 ≤ p2)) && decide (p2 ≤ 1152921504606846976)) = false] ⟨[(2, (B false))], []⟩ (by kernel_rfl) (AC rfl (AC rfl (AC rfl (A1 (Bool.eq_false_iff.2 hx2))))) ?_
        cases H
        exact K_end rfl
    refine K_gh ⟨[(2, (B x4))], []⟩ (by kernel_rfl) ?_
    cases H
    refine K_ret ?_
    kernel_rfl
def T_ref01_order (k : Nat) (p1 : Int) (p2 : Int) (p3 : Int) (p4 : Int) : Option Int := match k with
  | 0 => none
  | k + 1 => (if p2 ≠ 0 then (if p4 ≠ 0 then (if (!decide ((w64 (p1.tdiv p2)) = (w64 (p3.tdiv p4)))) = true then (if (w64 (p1.tdiv p2)) < (w64 (p3.tdiv p4)) then some (-1) else some 1) else (if p2 ≠ 0 then (if p4 ≠ 0 then (if (decide ((p1.tmod p2) = 0) && decide ((p3.tmod p4) = 0)) = true then some 0 else (if (p1.tmod p2) = 0 then some (-1) else (if (p3.tmod p4) = 0 then some 1 else ((T_ref01_order k p4 (p3.tmod p4) p2 (p1.tmod p2)).bind fun x10 => some x10)))) else none) else none)) else none) else none)
theorem T_ref01_order_ok (k : Nat) (p1 : Int) (p2 : Int) (p3 : Int) (p4 : Int) (r : Int) : T_ref01_order k p1 p2 p3 p4 = some r → evF X k n_ref01_order [(I p1), (I p2), (I p3), (I p4)] [] = some ((I r), []) := by
  intro H
  cases k with
  | zero => simp [T_ref01_order] at H
  | succ k =>
    simp only [T_ref01_order] at H
    refine F_in X_ref01_order rfl ?_
    refine K_seq ?_
    refine K_reg [] [] ⟨[(0, (I p1)), (1, (I p2)), (2, (I p3)), (3, (I p4))], []⟩ (by kernel_rfl) trivial ?_
    refine K_seq ?_
    obtain ⟨hx1, H⟩ := guard_some H
    obtain ⟨hx2, H⟩ := guard_some H
    refine K_reg [] [p2 ≠ (0 : Int), p4 ≠ (0 : Int)] ⟨[(0, (I p1)), (1, (I p2)), (2, (I p3)), (3, (I p4)), (9, (I (w64 (p1.tdiv p2)))), (10, (I (w64 (p3.tdiv p4))))], []⟩ (by kernel_rfl) (AC hx1 (A1 hx2)) ?_
    refine K_seq ?_
    refine K_seq ?_
    refine K_reg [] [] ⟨[(0, (I p1)), (1, (I p2)), (2, (I p3)), (3, (I p4)), (9, (I (w64 (p1.tdiv p2)))), (10, (I (w64 (p3.tdiv p4)))), (19, (B (!decide ((w64 (p1.tdiv p2)) = (w64 (p3.tdiv p4))))))], []⟩ (by kernel_rfl) trivial ?_
    rcases ite_some H with ⟨hx3, H⟩ | ⟨hx3, H⟩
    · refine K_t rfl hx3 ?_
      refine K_seq ?_
      refine K_seq ?_
      refine K_reg [] [] ⟨[(22, (B (decide ((w64 (p1.tdiv p2)) < (w64 (p3.tdiv p4))))))], []⟩ (by kernel_rfl) trivial ?_
      rcases ite_some H with ⟨hx4, H⟩ | ⟨hx4, H⟩
      · refine K_t rfl (decide_eq_true hx4) ?_
        refine K_seq ?_
        refine K_reg [] [] ⟨[(8, (I (-1)))], []⟩ (by kernel_rfl) trivial ?_
        refine K_gh ⟨[(8, (I (-1)))], []⟩ (by kernel_rfl) ?_
        cases H
        refine K_ret ?_
        kernel_rfl
      · refine K_f rfl (decide_eq_false hx4) ?_
        refine K_gh ⟨[], []⟩ (by kernel_rfl) ?_
        refine K_skip ?_
        refine K_seq ?_
        refine K_reg [] [] ⟨[(8, (I 1))], []⟩ (by kernel_rfl) trivial ?_
        refine K_gh ⟨[(8, (I 1))], []⟩ (by kernel_rfl) ?_
        cases H
        refine K_ret ?_
        kernel_rfl
    · refine K_f rfl (Bool.eq_false_iff.2 hx3) ?_
      refine K_gh ⟨[(0, (I p1)), (1, (I p2)), (2, (I p3)), (3, (I p4))], []⟩ (by kernel_rfl) ?_
      refine K_skip ?_
      refine K_seq ?_
      obtain ⟨hx5, H⟩ := guard_some H
      obtain ⟨hx6, H⟩ := guard_some H
      refine K_reg [] [p2 ≠ (0 : Int), p4 ≠ (0 : Int)] ⟨[(0, (I (p1.tmod p2))), (1, (I p2)), (2, (I (p3.tmod p4))), (3, (I p4))], []⟩ (by kernel_rfl) (AC hx5 (A1 hx6)) ?_
      refine K_seq ?_
      refine K_block ?_
      refine K_seq ?_
      refine K_reg [.m] [([] : Heap) = []] ⟨[(0, (I (p1.tmod p2))), (1, (I p2)), (2, (I (p3.tmod p4))), (3, (I p4)), (29, (B (decide ((p1.tmod p2) = 0) && decide ((p3.tmod p4) = 0))))], []⟩ (by kernel_rfl) (A1 rfl) ?_
      rcases ite_some H with ⟨hx7, H⟩ | ⟨hx7, H⟩
      · refine K_t rfl hx7 ?_
        refine K_seq ?_
        refine K_reg [] [] ⟨[(8, (I 0))], []⟩ (by kernel_rfl) trivial ?_
        refine K_gh ⟨[(8, (I 0))], []⟩ (by kernel_rfl) ?_
        cases H
        refine K_ret ?_
        kernel_rfl
      · refine K_f rfl (Bool.eq_false_iff.2 hx7) ?_
        refine K_seq ?_
        refine K_reg [] [] ⟨[(0, (I (p1.tmod p2))), (1, (I p2)), (2, (I (p3.tmod p4))), (3, (I p4)), (36, (B (decide ((p1.tmod p2) = 0))))], []⟩ (by kernel_rfl) trivial ?_
        rcases ite_some H with ⟨hx8, H⟩ | ⟨hx8, H⟩
        · refine K_t rfl (decide_eq_true hx8) ?_
          refine K_seq ?_
          refine K_reg [] [] ⟨[(8, (I (-1)))], []⟩ (by kernel_rfl) trivial ?_
          refine K_gh ⟨[(8, (I (-1)))], []⟩ (by kernel_rfl) ?_
          cases H
          refine K_ret ?_
          kernel_rfl
        · refine K_f rfl (decide_eq_false hx8) ?_
          refine K_seq ?_
          refine K_reg [] [] ⟨[(0, (I (p1.tmod p2))), (1, (I p2)), (2, (I (p3.tmod p4))), (3, (I p4)), (39, (B (decide ((p3.tmod p4) = 0))))], []⟩ (by kernel_rfl) trivial ?_
          rcases ite_some H with ⟨hx9, H⟩ | ⟨hx9, H⟩
          · refine K_t rfl (decide_eq_true hx9) ?_
            refine K_seq ?_
            refine K_reg [] [] ⟨[(8, (I 1))], []⟩ (by kernel_rfl) trivial ?_
            refine K_gh ⟨[(8, (I 1))], []⟩ (by kernel_rfl) ?_
            cases H
            refine K_ret ?_
            kernel_rfl
          · refine K_f rfl (decide_eq_false hx9) ?_
            refine K_gh ⟨[(0, (I (p1.tmod p2))), (1, (I p2)), (2, (I (p3.tmod p4))), (3, (I p4))], []⟩ (by kernel_rfl) ?_
            refine K_skip ?_
            refine K_blk ?_
            refine K_seq ?_
            obtain ⟨x10, hx10, H⟩ := bind_some' H
            refine K_reg [.r (I x10) []] [evF X k n_ref01_order [(I p4), (I (p3.tmod p4)), (I p2), (I (p1.tmod p2))] [] = some ((I x10), [])] ⟨[(8, (I x10))], []⟩ (by kernel_rfl) (A1 (T_ref01_order_ok k p4 (p3.tmod p4) p2 (p1.tmod p2) x10 hx10)) ?_
            refine K_gh ⟨[(8, (I x10))], []⟩ (by kernel_rfl) ?_
            cases H
            refine K_ret ?_
            kernel_rfl
def T_ref01_Cmp (k : Nat) (p1 : Int) (p2 : Int) (p3 : Int) (p4 : Int) : Option Int := match k with
  | 0 => none
  | k + 1 => ((((T_ref01_Valid k p1 p2).bind fun x1 => (if (!x1) = true then some true else ((T_ref01_Valid k p3 p4).bind fun x4 => some (!x4))))).bind fun x5 => (if x5 = true then some 0 else ((T_ref01_order k p1 p2 p3 p4).bind fun x7 => some x7)))
theorem T_ref01_Cmp_ok (k : Nat) (p1 : Int) (p2 : Int) (p3 : Int) (p4 : Int) (r : Int) : T_ref01_Cmp k p1 p2 p3 p4 = some r → evF X k n_ref01_Cmp [(.agg [.d (.int .i64 p1), .d (.int .i64 p2)]), (.agg [.d (.int .i64 p3), .d (.int .i64 p4)])] [] = some ((I r), []) := by
  intro H
  cases k with
  | zero => simp [T_ref01_Cmp] at H
  | succ k =>
    simp only [T_ref01_Cmp] at H
    refine F_in X_ref01_Cmp rfl ?_
    refine K_seq ?_
    refine K_reg [] [] ⟨[(2, (.one (.ptr 0 0 0))), (3, (.one (.ptr 1 0 0)))], [.cells [.d (.int .i64 p1), .d (.int .i64 p2)], .cells [.d (.int .i64 p3), .d (.int .i64 p4)]]⟩ (by kernel_rfl) trivial ?_
    refine K_seq ?_
    refine K_seq ?_
    obtain ⟨x5, hx5, H⟩ := bind_some' H
    refine K_of ⟨[(2, (.one (.ptr 0 0 0))), (3, (.one (.ptr 1 0 0))), (12, (B x5))], [.cells [.d (.int .i64 p1), .d (.int .i64 p2)], .cells [.d (.int .i64 p3), .d (.int .i64 p4)]]⟩ ?_ ?_
    · clear H; have H := hx5; clear hx5; refine K_in ?_
      obtain ⟨x1, hx1, H⟩ := bind_some' H
      rcases ite_some H with ⟨hx3, H⟩ | ⟨hx3, H⟩
      · refine K_reg [.r (B x1) [], .b true] [evF X k n_ref01_Valid [(.agg [.d (.int .i64 p1), .d (.int .i64 p2)])] [] = some ((B x1), []), (!x1) = true] ⟨[(2, (.one (.ptr 0 0 0))), (3, (.one (.ptr 1 0 0))), (12, (B true))], [.cells [.d (.int .i64 p1), .d (.int .i64 p2)], .cells [.d (.int .i64 p3), .d (.int .i64 p4)]]⟩ (by kernel_rfl) (AC (T_ref01_Valid_ok k p1 p2 x1 hx1) (A1 hx3)) ?_
        cases H
        exact K_end rfl
      · obtain ⟨x4, hx4, H⟩ := bind_some' H
        refine K_reg [.r (B x1) [], .b false, .r (B x4) []] [evF X k n_ref01_Valid [(.agg [.d (.int .i64 p1), .d (.int .i64 p2)])] [] = some ((B x1), []), (!x1) = false, evF X k n_ref01_Valid [(.agg [.d (.int .i64 p3), .d (.int .i64 p4)])] [] = some ((B x4), [])] ⟨[(2, (.one (.ptr 0 0 0))), (3, (.one (.ptr 1 0 0))), (12, (B (!x4)))], [.cells [.d (.int .i64 p1), .d (.int .i64 p2)], .cells [.d (.int .i64 p3), .d (.int .i64 p4)]]⟩ (by kernel_rfl) (AC (T_ref01_Valid_ok k p1 p2 x1 hx1) (AC (Bool.eq_false_iff.2 hx3) (A1 (T_ref01_Valid_ok k p3 p4 x4 hx4)))) ?_
        cases H
        exact K_end rfl
    rcases ite_some H with ⟨hx6, H⟩ | ⟨hx6, H⟩
    · refine K_t rfl hx6 ?_
      refine K_seq ?_
      refine K_reg [] [] ⟨[(4, (I 0))], []⟩ (by kernel_rfl) trivial ?_
      refine K_gh ⟨[(4, (I 0))], []⟩ (by kernel_rfl) ?_
      cases H
      refine K_ret ?_
      kernel_rfl
    · refine K_f rfl (Bool.eq_false_iff.2 hx6) ?_
      refine K_gh ⟨[(2, (.one (.ptr 0 0 0))), (3, (.one (.ptr 1 0 0)))], [.cells [.d (.int .i64 p1), .d (.int .i64 p2)], .cells [.d (.int .i64 p3), .d (.int .i64 p4)]]⟩ (by kernel_rfl) ?_
      refine K_skip ?_
      refine K_seq ?_
      obtain ⟨x7, hx7, H⟩ := bind_some' H
      refine K_reg [.r (I x7) []] [evF X k n_ref01_order [(I p1), (I p2), (I p3), (I p4)] [] = some ((I x7), [])] ⟨[(4, (I x7))], []⟩ (by kernel_rfl) (A1 (T_ref01_order_ok k p1 p2 p3 p4 x7 hx7)) ?_
      refine K_gh ⟨[(4, (I x7))], []⟩ (by kernel_rfl) ?_
      cases H
      refine K_ret ?_
      kernel_rfl
def T_sketch_check (k : Nat) (p1 : Int) (p2 : List Int) (p3 : Int) (p4 : Int) (p5 : List Int) (p6 : Int) : Option Int := match k with
  | 0 => none
  | k + 1 => ((((T_sketch_valid k p1 p2 p3).bind fun x1 => (if (!x1) = true then some true else ((T_sketch_valid k p4 p5 p6).bind fun x4 => some (!x4))))).bind fun x5 => (if x5 = true then some 3 else (if ((!decide (p1 = p4)) || (!decide ((p2.length : Int) = (p5.length : Int)))) = true then some 8 else some 0)))
theorem T_sketch_check_ok (k : Nat) (p1 : Int) (p2 : List Int) (p3 : Int) (p4 : Int) (p5 : List Int) (p6 : Int) (r : Int) : T_sketch_check k p1 p2 p3 p4 p5 p6 = some r → evF X k n_sketch_check [(.agg [.d (.int .i64 p1), .d (.list (p2.map (D.int .i64))), .d (.int .i64 p3)]), (.agg [.d (.int .i64 p4), .d (.list (p5.map (D.int .i64))), .d (.int .i64 p6)])] [] = some ((I r), []) := by
  intro H
  cases k with
  | zero => simp [T_sketch_check] at H
  | succ k =>
    simp only [T_sketch_check] at H
    refine F_in X_sketch_check rfl ?_
    refine K_seq ?_
    refine K_reg [] [] ⟨[(2, (.one (.ptr 0 0 0))), (3, (.one (.ptr 1 0 0)))], [.cells [.d (.int .i64 p1), .d (.list (p2.map (D.int .i64))), .d (.int .i64 p3)], .cells [.d (.int .i64 p4), .d (.list (p5.map (D.int .i64))), .d (.int .i64 p6)]]⟩ (by kernel_rfl) trivial ?_
    refine K_seq ?_
    refine K_seq ?_
    obtain ⟨x5, hx5, H⟩ := bind_some' H
    refine K_of ⟨[(2, (.one (.ptr 0 0 0))), (3, (.one (.ptr 1 0 0))), (12, (B x5))], [.cells [.d (.int .i64 p1), .d (.list (p2.map (D.int .i64))), .d (.int .i64 p3)], .cells [.d (.int .i64 p4), .d (.list (p5.map (D.int .i64))), .d (.int .i64 p6)]]⟩ ?_ ?_
    · clear H; have H := hx5; clear hx5; refine K_in ?_
      obtain ⟨x1, hx1, H⟩ := bind_some' H
      rcases ite_some H with ⟨hx3, H⟩ | ⟨hx3, H⟩
      · refine K_reg [.r (B x1) [], .b true] [evF X k n_sketch_valid [(.agg [.d (.int .i64 p1), .d (.list (p2.map (D.int .i64))), .d (.int .i64 p3)])] [] = some ((B x1), []), (!x1) = true] ⟨[(2, (.one (.ptr 0 0 0))), (3, (.one (.ptr 1 0 0))), (12, (B true))], [.cells [.d (.int .i64 p1), .d (.list (p2.map (D.int .i64))), .d (.int .i64 p3)], .cells [.d (.int .i64 p4), .d (.list (p5.map (D.int .i64))), .d (.int .i64 p6)]]⟩ (by kernel_rfl) (AC (T_sketch_valid_ok k p1 p2 p3 x1 hx1) (A1 hx3)) ?_
        cases H
        exact K_end rfl
      · obtain ⟨x4, hx4, H⟩ := bind_some' H
        refine K_reg [.r (B x1) [], .b false, .r (B x4) []] [evF X k n_sketch_valid [(.agg [.d (.int .i64 p1), .d (.list (p2.map (D.int .i64))), .d (.int .i64 p3)])] [] = some ((B x1), []), (!x1) = false, evF X k n_sketch_valid [(.agg [.d (.int .i64 p4), .d (.list (p5.map (D.int .i64))), .d (.int .i64 p6)])] [] = some ((B x4), [])] ⟨[(2, (.one (.ptr 0 0 0))), (3, (.one (.ptr 1 0 0))), (12, (B (!x4)))], [.cells [.d (.int .i64 p1), .d (.list (p2.map (D.int .i64))), .d (.int .i64 p3)], .cells [.d (.int .i64 p4), .d (.list (p5.map (D.int .i64))), .d (.int .i64 p6)]]⟩ (by kernel_rfl) (AC (T_sketch_valid_ok k p1 p2 p3 x1 hx1) (AC (Bool.eq_false_iff.2 hx3) (A1 (T_sketch_valid_ok k p4 p5 p6 x4 hx4)))) ?_
        cases H
        exact K_end rfl
    rcases ite_some H with ⟨hx6, H⟩ | ⟨hx6, H⟩
    · refine K_t rfl hx6 ?_
      refine K_seq ?_
      refine K_reg [] [] ⟨[(4, (I 3))], []⟩ (by kernel_rfl) trivial ?_
      refine K_gh ⟨[(4, (I 3))], []⟩ (by kernel_rfl) ?_
      cases H
      refine K_ret ?_
      kernel_rfl
    · refine K_f rfl (Bool.eq_false_iff.2 hx6) ?_
      refine K_gh ⟨[(2, (.one (.ptr 0 0 0))), (3, (.one (.ptr 1 0 0)))], [.cells [.d (.int .i64 p1), .d (.list (p2.map (D.int .i64))), .d (.int .i64 p3)], .cells [.d (.int .i64 p4), .d (.list (p5.map (D.int .i64))), .d (.int .i64 p6)]]⟩ (by kernel_rfl) ?_
      refine K_skip ?_
      refine K_seq ?_
      refine K_seq ?_
      refine K_reg [.m, .n p2.length, .n p5.length] [(!decide (p1 = p4)) = false → AllT [((p2.map (D.int .i64))).length = p2.length, ((p5.map (D.int .i64))).length = p5.length], ([.cells [.d (.int .i64 p1), .d (.list (p2.map (D.int .i64))), .d (.int .i64 p3)], .cells [.d (.int .i64 p4), .d (.list (p5.map (D.int .i64))), .d (.int .i64 p6)]] : Heap) = [.cells [.d (.int .i64 p1), .d (.list (p2.map (D.int .i64))), .d (.int .i64 p3)], .cells [.d (.int .i64 p4), .d (.list (p5.map (D.int .i64))), .d (.int .i64 p6)]]] ⟨[(26, (B ((!decide (p1 = p4)) || (!decide ((p2.length : Int) = (p5.length : Int))))))], []⟩ (by kernel_rfl) (AC (fun _ => (AC (List.length_map _) (A1 (List.length_map _)))) (A1 rfl)) ?_
      rcases ite_some H with ⟨hx7, H⟩ | ⟨hx7, H⟩
      · refine K_t rfl hx7 ?_
        refine K_seq ?_
        refine K_reg [] [] ⟨[(4, (I 8))], []⟩ (by kernel_rfl) trivial ?_
        refine K_gh ⟨[(4, (I 8))], []⟩ (by kernel_rfl) ?_
        cases H
        refine K_ret ?_
        kernel_rfl
      · refine K_f rfl (Bool.eq_false_iff.2 hx7) ?_
        refine K_gh ⟨[], []⟩ (by kernel_rfl) ?_
        refine K_skip ?_
        refine K_seq ?_
        refine K_reg [] [] ⟨[(4, (I 0))], []⟩ (by kernel_rfl) trivial ?_
        refine K_gh ⟨[(4, (I 0))], []⟩ (by kernel_rfl) ?_
        cases H
        refine K_ret ?_
        kernel_rfl
def T_sketch_floor (k : Nat) (p1 : Int) (p2 : Int) : Option Int := match k with
  | 0 => none
  | k + 1 => (if p2 ≠ 0 then (if p2 ≠ 0 then ((if (p1.tmod p2) < 0 then some (w64 ((w64 (p1.tdiv p2)) - 1)) else some (w64 (p1.tdiv p2)))).bind fun x4 => some x4 else none) else none)
theorem T_sketch_floor_ok (k : Nat) (p1 : Int) (p2 : Int) (r : Int) : T_sketch_floor k p1 p2 = some r → evF X k n_sketch_floor [(I p1), (I p2)] [] = some ((I r), []) := by
  intro H
  cases k with
  | zero => simp [T_sketch_floor] at H
  | succ k =>
    simp only [T_sketch_floor] at H
    refine F_in X_sketch_floor rfl ?_
    refine K_seq ?_
    refine K_reg [] [] ⟨[(0, (I p1)), (1, (I p2))], []⟩ (by kernel_rfl) trivial ?_
    refine K_seq ?_
    obtain ⟨hx1, H⟩ := guard_some H
    refine K_reg [] [p2 ≠ (0 : Int)] ⟨[(0, (I p1)), (1, (I p2)), (5, (I (w64 (p1.tdiv p2))))], []⟩ (by kernel_rfl) (A1 hx1) ?_
    refine K_seq ?_
    refine K_seq ?_
    obtain ⟨hx2, H⟩ := guard_some H
    refine K_reg [] [p2 ≠ (0 : Int)] ⟨[(5, (I (w64 (p1.tdiv p2)))), (12, (B (decide ((p1.tmod p2) < 0))))], []⟩ (by kernel_rfl) (A1 hx2) ?_
    obtain ⟨x4, hx4, H⟩ := bind_some' H
    refine K_of ⟨[(5, (I x4))], []⟩ ?_ ?_
    · clear H; have H := hx4; clear hx4; refine K_in ?_
      rcases ite_some H with ⟨hx3, H⟩ | ⟨hx3, H⟩
      · refine K_t rfl (decide_eq_true hx3) ?_
        refine K_reg [] [] ⟨[(5, (I (w64 ((w64 (p1.tdiv p2)) - 1))))], []⟩ (by kernel_rfl) trivial ?_
        cases H
        exact K_end rfl
      · refine K_f rfl (decide_eq_false hx3) ?_
        refine K_gh ⟨[(5, (I (w64 (p1.tdiv p2))))], []⟩ (by kernel_rfl) ?_
        refine K_skip ?_
        cases H
        exact K_end rfl
    refine K_seq ?_
    refine K_reg [] [] ⟨[(4, (I x4))], []⟩ (by kernel_rfl) trivial ?_
    refine K_gh ⟨[(4, (I x4))], []⟩ (by kernel_rfl) ?_
    cases H
    refine K_ret ?_
    kernel_rfl
def T_root_Ceil (k : Nat) (p1 : Int) : Option Int := match k with
  | 0 => none
  | k + 1 => ((T_root_Floor k p1).bind fun x1 => ((if ((decide (0 < p1) && decide (p1 ≤ 4611686018427387904)) && decide ((w64 (x1 * x1)) < p1)) = true then some (w64 (x1 + 1)) else some x1)).bind fun x3 => some x3)
theorem T_root_Ceil_ok (k : Nat) (p1 : Int) (r : Int) : T_root_Ceil k p1 = some r → evF X k n_root_Ceil [(I p1)] [] = some ((I r), []) := by
  intro H
  cases k with
  | zero => simp [T_root_Ceil] at H
  | succ k =>
    simp only [T_root_Ceil] at H
    refine F_in X_root_Ceil rfl ?_
    refine K_seq ?_
    refine K_reg [] [] ⟨[(0, (I p1))], []⟩ (by kernel_rfl) trivial ?_
    refine K_seq ?_
    obtain ⟨x1, hx1, H⟩ := bind_some' H
    refine K_reg [.r (I x1) []] [evF X k n_root_Floor [(I p1)] [] = some ((I x1), [])] ⟨[(0, (I p1)), (3, (I x1))], []⟩ (by kernel_rfl) (A1 (T_root_Floor_ok k p1 x1 hx1)) ?_
    refine K_seq ?_
    refine K_seq ?_
    refine K_reg [.m, .m] [([] : Heap) = [], ([] : Heap) = []] ⟨[(3, (I x1)), (18, (B ((decide (0 < p1) && decide (p1 ≤ 4611686018427387904)) && decide ((w64 (x1 * x1)) < p1))))], []⟩ (by kernel_rfl) (AC rfl (A1 rfl)) ?_
    obtain ⟨x3, hx3, H⟩ := bind_some' H
    refine K_of ⟨[(3, (I x3))], []⟩ ?_ ?_
    · clear H; have H := hx3; clear hx3; refine K_in ?_
      rcases ite_some H with ⟨hx2, H⟩ | ⟨hx2, H⟩
      · refine K_t rfl hx2 ?_
        refine K_reg [] [] ⟨[(3, (I (w64 (x1 + 1))))], []⟩ (by kernel_rfl) trivial ?_
        cases H
        exact K_end rfl
      · refine K_f rfl (Bool.eq_false_iff.2 hx2) ?_
        refine K_gh ⟨[(3, (I x1))], []⟩ (by kernel_rfl) ?_
        refine K_skip ?_
        cases H
        exact K_end rfl
    refine K_seq ?_
    refine K_reg [] [] ⟨[(2, (I x3))], []⟩ (by kernel_rfl) trivial ?_
    refine K_gh ⟨[(2, (I x3))], []⟩ (by kernel_rfl) ?_
    cases H
    refine K_ret ?_
    kernel_rfl
end Go.Proofs.Ytdmipmhpjdmopaa.sketchNarrow
