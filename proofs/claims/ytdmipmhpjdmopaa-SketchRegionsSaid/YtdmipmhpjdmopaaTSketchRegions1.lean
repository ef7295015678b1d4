/- What the functions that the statement SketchRegions reaches compute, told as functions of Lean, and that the theory's language computes the same: part 2 of 2. There are no conditions. -/
import Derived.Test.YtdmipmhpjdmopaaTSketchRegions0
set_option maxRecDepth 100000
set_option linter.unusedVariables false
set_option linter.unusedSimpArgs false
namespace Go.Proofs.Ytdmipmhpjdmopaa.sketchRegions
open Go
def T_slices_Min_b354_l1 (k : Nat) (p1 : List Int) (x8 : Int × Int) : Option ((Int × Int) ⊕ Int) :=
 (if x8.2 < (p1.length : Int) then ((at? p1 x8.2).bind fun x10 => some (.inl ((imin x8.1 x10), (w64 (x8.2 + 1))))) else some (.inr x8.1))
theorem T_slices_Min_b354_l1_ok (k : Nat) (p1 : List Int) : ∀ (x8 : Int × Int) (x : (Int × Int) ⊕ Int), T_slices_Min_b354_l1 k p1 x8 = some x → evC X (evF X k) k 0 l_slices_Min_b354_1 ⟨[(0, (LI p1)), (3, (I x8.1)), (4, (I x8.2))], []⟩ = some (outS (fun (s : Int × Int) => ⟨[(0, (LI p1)), (3, (I s.1)), (4, (I s.2))], []⟩) (fun (r : Int) => (.exit 0, ⟨[(3, (I r))], []⟩)) x) := by
 intro x8 x H
 unfold T_slices_Min_b354_l1 at H
 refine K_in ?_
 refine K_seq (K_seq (K_r [.n p1.length] [((p1.map (D.int .i64))).length = p1.length] (by kernel_rfl) (A1 (List.length_map _)) ?_))
 rcases ite_some H with ⟨hx9, H⟩ | ⟨hx9, H⟩
 · refine K_t (by kernel_rfl) (decide_eq_true hx9) ?_
   refine K_g (by kernel_rfl) ?_
   refine K_skip ?_
   refine K_seq ?_
   refine K_block ?_
   obtain ⟨x10, hx10, H⟩ := bind_some' H
   refine K_r [.l [.int .i64 x10]] [(0 : Int) ≤ x8.2 ∧ x8.2 < (((p1.map (D.int .i64))).length : Int), ((p1.map (D.int .i64)).getD x8.2.toNat (.int .i64 0)).cells = [.int .i64 x10]] (by kernel_rfl) (AC (at_ok hx10 (D.int .i64) (.int .i64 0)).1 (A1 (at_ok hx10 (D.int .i64) (.int .i64 0)).2)) ?_
   refine K_blk (K_r [] [] (by kernel_rfl) trivial ?_)
   cases H
   exact K_end (by kernel_rfl)
 · refine K_f (by kernel_rfl) (decide_eq_false hx9) ?_
   refine K_g (by kernel_rfl) ?_
   cases H
   exact K_exit0 rfl (by kernel_rfl)
def T_slices_Min_b354 (k : Nat) (p1 : List Int) : Option Int := match k with
 | 0 => none
 | k + 1 => (if (p1.length : Int) < 1 then none else ((at? p1 0).bind fun x2 => (loopT (T_slices_Min_b354_l1 k p1) k (x2, 1)).bind fun x11 => some x11))
abbrev C_T_slices_Min_b354 (k : Nat) (p1 : List Int) (r : Int) : Prop := evF X k n_slices_Min_b354 [(LI p1)] [] = some ((I r), [])
theorem T_slices_Min_b354_ok (k : Nat) (p1 : List Int) (r : Int) : T_slices_Min_b354 k p1 = some r → C_T_slices_Min_b354 k p1 r := by
 intro H
 cases k with
 | zero => simp [T_slices_Min_b354] at H
 | succ k =>
  simp only [T_slices_Min_b354] at H
  refine F_in X_slices_Min_b354 rfl ?_
  refine K_seq (K_r [] [] (by kernel_rfl) trivial ?_)
  refine K_seq (K_seq (K_r [.n p1.length] [((p1.map (D.int .i64))).length = p1.length] (by kernel_rfl) (A1 (List.length_map _)) ?_))
  rcases ite_some H with ⟨hx1, H⟩ | ⟨hx1, H⟩
  · refine K_t (by kernel_rfl) (decide_eq_true hx1) ?_
    cases H
  · refine K_f (by kernel_rfl) (decide_eq_false hx1) ?_
    refine K_g (by kernel_rfl) ?_
    refine K_skip ?_
    refine K_seq ?_
    obtain ⟨x2, hx2, H⟩ := bind_some' H
    refine K_r [.l [.int .i64 x2]] [(0 : Int) ≤ 0 ∧ 0 < (((p1.map (D.int .i64))).length : Int), ((p1.map (D.int .i64)).getD 0 (.int .i64 0)).cells = [.int .i64 x2]] (by kernel_rfl) (AC (at_ok hx2 (D.int .i64) (.int .i64 0)).1 (A1 (at_ok hx2 (D.int .i64) (.int .i64 0)).2)) ?_
    refine K_seq (K_seq (K_r [] [] (by kernel_rfl) trivial ?_))
    refine K_block (K_conv (σ' := ⟨[(0, (LI p1)), (3, (I x2)), (4, (I 1))], []⟩) (by kernel_rfl) ?_)
    obtain ⟨x11, hx11, H⟩ := bind_some' H
    refine K_loop ⟨[(3, (I x11))], []⟩ (loop_ok (fun (s : Int × Int) => ⟨[(0, (LI p1)), (3, (I s.1)), (4, (I s.2))], []⟩) (fun (r : Int) => (.exit 0, ⟨[(3, (I r))], []⟩)) (fun r h => by cases h) (T_slices_Min_b354_l1_ok k p1) k (x2, 1) x11 hx11) rfl ?_
    refine K_seq (K_r [] [] (by kernel_rfl) trivial ?_)
    refine K_g (by kernel_rfl) ?_
    cases H
    refine K_ret ?_
    kernel_rfl
def T_slices_Max_b354_l1 (k : Nat) (p1 : List Int) (x8 : Int × Int) : Option ((Int × Int) ⊕ Int) :=
 (if x8.2 < (p1.length : Int) then ((at? p1 x8.2).bind fun x10 => some (.inl ((imax x8.1 x10), (w64 (x8.2 + 1))))) else some (.inr x8.1))
theorem T_slices_Max_b354_l1_ok (k : Nat) (p1 : List Int) : ∀ (x8 : Int × Int) (x : (Int × Int) ⊕ Int), T_slices_Max_b354_l1 k p1 x8 = some x → evC X (evF X k) k 0 l_slices_Max_b354_1 ⟨[(0, (LI p1)), (3, (I x8.1)), (4, (I x8.2))], []⟩ = some (outS (fun (s : Int × Int) => ⟨[(0, (LI p1)), (3, (I s.1)), (4, (I s.2))], []⟩) (fun (r : Int) => (.exit 0, ⟨[(3, (I r))], []⟩)) x) := by
 intro x8 x H
 unfold T_slices_Max_b354_l1 at H
 refine K_in ?_
 refine K_seq (K_seq (K_r [.n p1.length] [((p1.map (D.int .i64))).length = p1.length] (by kernel_rfl) (A1 (List.length_map _)) ?_))
 rcases ite_some H with ⟨hx9, H⟩ | ⟨hx9, H⟩
 · refine K_t (by kernel_rfl) (decide_eq_true hx9) ?_
   refine K_g (by kernel_rfl) ?_
   refine K_skip ?_
   refine K_seq ?_
   refine K_block ?_
   obtain ⟨x10, hx10, H⟩ := bind_some' H
   refine K_r [.l [.int .i64 x10]] [(0 : Int) ≤ x8.2 ∧ x8.2 < (((p1.map (D.int .i64))).length : Int), ((p1.map (D.int .i64)).getD x8.2.toNat (.int .i64 0)).cells = [.int .i64 x10]] (by kernel_rfl) (AC (at_ok hx10 (D.int .i64) (.int .i64 0)).1 (A1 (at_ok hx10 (D.int .i64) (.int .i64 0)).2)) ?_
   refine K_blk (K_r [] [] (by kernel_rfl) trivial ?_)
   cases H
   exact K_end (by kernel_rfl)
 · refine K_f (by kernel_rfl) (decide_eq_false hx9) ?_
   refine K_g (by kernel_rfl) ?_
   cases H
   exact K_exit0 rfl (by kernel_rfl)
def T_slices_Max_b354 (k : Nat) (p1 : List Int) : Option Int := match k with
 | 0 => none
 | k + 1 => (if (p1.length : Int) < 1 then none else ((at? p1 0).bind fun x2 => (loopT (T_slices_Max_b354_l1 k p1) k (x2, 1)).bind fun x11 => some x11))
abbrev C_T_slices_Max_b354 (k : Nat) (p1 : List Int) (r : Int) : Prop := evF X k n_slices_Max_b354 [(LI p1)] [] = some ((I r), [])
theorem T_slices_Max_b354_ok (k : Nat) (p1 : List Int) (r : Int) : T_slices_Max_b354 k p1 = some r → C_T_slices_Max_b354 k p1 r := by
 intro H
 cases k with
 | zero => simp [T_slices_Max_b354] at H
 | succ k =>
  simp only [T_slices_Max_b354] at H
  refine F_in X_slices_Max_b354 rfl ?_
  refine K_seq (K_r [] [] (by kernel_rfl) trivial ?_)
  refine K_seq (K_seq (K_r [.n p1.length] [((p1.map (D.int .i64))).length = p1.length] (by kernel_rfl) (A1 (List.length_map _)) ?_))
  rcases ite_some H with ⟨hx1, H⟩ | ⟨hx1, H⟩
  · refine K_t (by kernel_rfl) (decide_eq_true hx1) ?_
    cases H
  · refine K_f (by kernel_rfl) (decide_eq_false hx1) ?_
    refine K_g (by kernel_rfl) ?_
    refine K_skip ?_
    refine K_seq ?_
    obtain ⟨x2, hx2, H⟩ := bind_some' H
    refine K_r [.l [.int .i64 x2]] [(0 : Int) ≤ 0 ∧ 0 < (((p1.map (D.int .i64))).length : Int), ((p1.map (D.int .i64)).getD 0 (.int .i64 0)).cells = [.int .i64 x2]] (by kernel_rfl) (AC (at_ok hx2 (D.int .i64) (.int .i64 0)).1 (A1 (at_ok hx2 (D.int .i64) (.int .i64 0)).2)) ?_
    refine K_seq (K_seq (K_r [] [] (by kernel_rfl) trivial ?_))
    refine K_block (K_conv (σ' := ⟨[(0, (LI p1)), (3, (I x2)), (4, (I 1))], []⟩) (by kernel_rfl) ?_)
    obtain ⟨x11, hx11, H⟩ := bind_some' H
    refine K_loop ⟨[(3, (I x11))], []⟩ (loop_ok (fun (s : Int × Int) => ⟨[(0, (LI p1)), (3, (I s.1)), (4, (I s.2))], []⟩) (fun (r : Int) => (.exit 0, ⟨[(3, (I r))], []⟩)) (fun r h => by cases h) (T_slices_Max_b354_l1_ok k p1) k (x2, 1) x11 hx11) rfl ?_
    refine K_seq (K_r [] [] (by kernel_rfl) trivial ?_)
    refine K_g (by kernel_rfl) ?_
    cases H
    refine K_ret ?_
    kernel_rfl
def T_root_Floor_l1 (k : Nat) (p1 : Int) (x11 : Int × Int) : Option ((Int × Int) ⊕ Int) :=
 (if 0 < x11.2 then (if (w64 ((w64 (x11.1 + x11.2)) * (w64 (x11.1 + x11.2)))) = p1 then some (.inr (w64 (x11.1 + x11.2))) else (((if (w64 ((w64 (x11.1 + x11.2)) * (w64 (x11.1 + x11.2)))) < p1 then some (w64 (x11.1 + x11.2)) else some x11.1)).bind fun x17 => some (.inl (x17, (x11.2.fdiv (2 ^ 1)))))) else some (.inr x11.1))
theorem T_root_Floor_l1_ok (k : Nat) (p1 : Int) : ∀ (x11 : Int × Int) (x : (Int × Int) ⊕ Int), T_root_Floor_l1 k p1 x11 = some x → evC X (evF X k) k 0 l_root_Floor_1 ⟨[(0, (I p1)), (3, (I x11.1)), (4, (I x11.2))], []⟩ = some (outS (fun (s : Int × Int) => ⟨[(0, (I p1)), (3, (I s.1)), (4, (I s.2))], []⟩) (fun (r : Int) => (.exit 0, ⟨[(3, (I r))], []⟩)) x) := by
 intro x11 x H
 unfold T_root_Floor_l1 at H
 refine K_in ?_
 refine K_seq (K_seq (K_r [] [] (by kernel_rfl) trivial ?_))
 rcases ite_some H with ⟨hx12, H⟩ | ⟨hx12, H⟩
 · refine K_t (by kernel_rfl) (decide_eq_true hx12) ?_
   refine K_g (by kernel_rfl) ?_
   refine K_skip (K_seq (K_block (K_seq (K_r [] [] (by kernel_rfl) trivial ?_))))
   refine K_block (K_seq (K_r [] [] (by kernel_rfl) trivial ?_))
   rcases ite_some H with ⟨hx15, H⟩ | ⟨hx15, H⟩
   · refine K_t (by kernel_rfl) (decide_eq_true hx15) ?_
     refine K_seq (K_r [] [] (by kernel_rfl) trivial ?_)
     refine K_g (by kernel_rfl) ?_
     cases H
     exact K_exit0 rfl (by kernel_rfl)
   · refine K_f (by kernel_rfl) (decide_eq_false hx15) ?_
     refine K_seq (K_r [] [] (by kernel_rfl) trivial ?_)
     obtain ⟨x17, hx17, H⟩ := bind_some' H
     refine K_of ⟨[(0, (I p1)), (3, (I x17)), (4, (I x11.2))], []⟩ ?_ ?_
     · clear H; have H := hx17; clear hx17; refine K_in ?_
       rcases ite_some H with ⟨hx16, H⟩ | ⟨hx16, H⟩
       · refine K_t (by kernel_rfl) (decide_eq_true hx16) ?_
         refine K_r [] [] (by kernel_rfl) trivial ?_
         cases H
         exact K_end (by kernel_rfl)
       · refine K_f (by kernel_rfl) (decide_eq_false hx16) ?_
         refine K_g (by kernel_rfl) ?_
         refine K_skip ?_
         cases H
         exact K_end (by kernel_rfl)
     refine K_blk (K_blk (K_r [] [(0 : Int) ≤ 1] (by kernel_rfl) (A1 (by decide)) ?_))
     cases H
     exact K_end (by kernel_rfl)
 · refine K_f (by kernel_rfl) (decide_eq_false hx12) ?_
   refine K_g (by kernel_rfl) ?_
   cases H
   exact K_exit0 rfl (by kernel_rfl)
def T_root_Floor (k : Nat) (p1 : Int) : Option Int := match k with
 | 0 => none
 | k + 1 => (if (decide (p1 < 0) || decide (4611686018427387904 < p1)) = true then some 0 else ((loopT (T_root_Floor_l1 k p1) k (0, 2147483648)).bind fun x18 => some x18))
abbrev C_T_root_Floor (k : Nat) (p1 : Int) (r : Int) : Prop := evF X k n_root_Floor [(I p1)] [] = some ((I r), [])
theorem T_root_Floor_ok (k : Nat) (p1 : Int) (r : Int) : T_root_Floor k p1 = some r → C_T_root_Floor k p1 r := by
 intro H
 cases k with
 | zero => simp [T_root_Floor] at H
 | succ k =>
  simp only [T_root_Floor] at H
  refine F_in X_root_Floor rfl ?_
  refine K_seq (K_r [] [] (by kernel_rfl) trivial ?_)
  refine K_scope (K_seq (K_seq (K_r [.m] [([] : Heap) = []] (by kernel_rfl) (A1 rfl) ?_)))
  rcases ite_some H with ⟨hx1, H⟩ | ⟨hx1, H⟩
  · refine K_t (by kernel_rfl) hx1 ?_
    refine K_seq (K_r [] [] (by kernel_rfl) trivial ?_)
    refine K_g (by kernel_rfl) ?_
    cases H
    refine K_ret ?_
    kernel_rfl
  · refine K_f (by kernel_rfl) (Bool.eq_false_iff.2 hx1) ?_
    refine K_g (by kernel_rfl) ?_
    refine K_skip (K_seq (K_r [] [] (by kernel_rfl) trivial ?_))
    refine K_seq (K_skip (K_seq (K_seq (K_r [] [] (by kernel_rfl) trivial ?_))))
    refine K_block (K_conv (σ' := ⟨[(0, (I p1)), (3, (I 0)), (4, (I 2147483648))], []⟩) (by kernel_rfl) ?_)
    obtain ⟨x18, hx18, H⟩ := bind_some' H
    refine K_loop ⟨[(3, (I x18))], []⟩ (loop_ok (fun (s : Int × Int) => ⟨[(0, (I p1)), (3, (I s.1)), (4, (I s.2))], []⟩) (fun (r : Int) => (.exit 0, ⟨[(3, (I r))], []⟩)) (fun r h => by cases h) (T_root_Floor_l1_ok k p1) k (0, 2147483648) x18 hx18) rfl ?_
    refine K_seq (K_r [] [] (by kernel_rfl) trivial ?_)
    refine K_g (by kernel_rfl) ?_
    cases H
    refine K_ret ?_
    kernel_rfl
def T_root_Quotient (k : Nat) (p1 : Int) (p2 : Int) : Option (Int × Int) := match k with
 | 0 => none
 | k + 1 => (if (((decide (p1 < (-2147483648)) || decide (2147483648 < p1)) || decide (p2 < 1)) || decide (4611686018427387904 < p2)) = true then some (0, 1) else (if p2 ≠ 0 then (T_root_Floor k (w64 ((w64 (p1 * p1)).tdiv p2))).bind fun x3 => (if 0 ≤ p1 then some (x3, 0) else (((if (w64 ((w64 (x3 * x3)) * p2)) < (w64 (p1 * p1)) then some (w64 (x3 + 1)) else some x3)).bind fun x6 => some ((w64 (0 - x6)), 0))) else none))
abbrev C_T_root_Quotient (k : Nat) (p1 : Int) (p2 : Int) (r : Int × Int) : Prop := evF X k n_root_Quotient [(I p1), (I p2)] [] = some ((.tup [(false, [cI r.1]), (false, [cI r.2])]), [])
theorem T_root_Quotient_ok (k : Nat) (p1 : Int) (p2 : Int) (r : Int × Int) : T_root_Quotient k p1 p2 = some r → C_T_root_Quotient k p1 p2 r := by
 intro H
 cases k with
 | zero => simp [T_root_Quotient] at H
 | succ k =>
  simp only [T_root_Quotient] at H
  refine F_in X_root_Quotient rfl ?_
  refine K_seq (K_r [] [] (by kernel_rfl) trivial ?_)
  refine K_seq (K_seq (K_r [.m, .m, .m] [([] : Heap) = [], ([] : Heap) = [], ([] : Heap) = []] (by kernel_rfl) (AC rfl (AC rfl (A1 rfl))) ?_))
  rcases ite_some H with ⟨hx1, H⟩ | ⟨hx1, H⟩
  · refine K_t (by kernel_rfl) hx1 ?_
    refine K_seq (K_r [] [] (by kernel_rfl) trivial ?_)
    refine K_g (by kernel_rfl) ?_
    cases H
    refine K_ret ?_
    kernel_rfl
  · refine K_f (by kernel_rfl) (Bool.eq_false_iff.2 hx1) ?_
    refine K_g (by kernel_rfl) ?_
    refine K_skip ?_
    refine K_seq ?_
    obtain ⟨hx2, H⟩ := guard_some H
    obtain ⟨x3, hx3, H⟩ := bind_some' H
    refine K_r [.r (I x3) []] [p2 ≠ (0 : Int), C_T_root_Floor k (w64 ((w64 (p1 * p1)).tdiv p2)) x3] (by kernel_rfl) (AC hx2 (A1 (T_root_Floor_ok k (w64 ((w64 (p1 * p1)).tdiv p2)) x3 hx3))) ?_
    refine K_seq (K_seq (K_r [] [] (by kernel_rfl) trivial ?_))
    rcases ite_some H with ⟨hx4, H⟩ | ⟨hx4, H⟩
    · refine K_t (by kernel_rfl) (decide_eq_true hx4) ?_
      refine K_seq (K_r [] [] (by kernel_rfl) trivial ?_)
      refine K_g (by kernel_rfl) ?_
      cases H
      refine K_ret ?_
      kernel_rfl
    · refine K_f (by kernel_rfl) (decide_eq_false hx4) ?_
      refine K_g (by kernel_rfl) ?_
      refine K_skip (K_seq (K_seq (K_r [] [] (by kernel_rfl) trivial ?_)))
      obtain ⟨x6, hx6, H⟩ := bind_some' H
      refine K_of ⟨[(6, (I x6))], []⟩ ?_ ?_
      · clear H; have H := hx6; clear hx6; refine K_in ?_
        rcases ite_some H with ⟨hx5, H⟩ | ⟨hx5, H⟩
        · refine K_t (by kernel_rfl) (decide_eq_true hx5) ?_
          refine K_r [] [] (by kernel_rfl) trivial ?_
          cases H
          exact K_end (by kernel_rfl)
        · refine K_f (by kernel_rfl) (decide_eq_false hx5) ?_
          refine K_g (by kernel_rfl) ?_
          refine K_skip ?_
          cases H
          exact K_end (by kernel_rfl)
      refine K_seq (K_r [] [] (by kernel_rfl) trivial ?_)
      refine K_g (by kernel_rfl) ?_
      cases H
      refine K_ret ?_
      kernel_rfl
def T_sketch_passed (k : Nat) (p1 : Int) (p2 : Int) (p3 : Int) : Option Unit := match k with
 | 0 => none
 | k + 1 => some ()
abbrev C_T_sketch_passed (k : Nat) (p1 : Int) (p2 : Int) (p3 : Int) (r : Unit) : Prop := evF X k n_sketch_passed [(I p1), (.agg [cI p2, cI p3])] [] = some ((I (imax (imax 0 (w64 ((w64 (16 * p2)) - (w64 (p1 + 1))))) (w64 (p1 - (w64 (16 * (w64 (p3 + 1)))))))), [])
theorem T_sketch_passed_ok (k : Nat) (p1 : Int) (p2 : Int) (p3 : Int) (r : Unit) : T_sketch_passed k p1 p2 p3 = some r → C_T_sketch_passed k p1 p2 p3 r := by
 intro H
 cases k with
 | zero => simp [T_sketch_passed] at H
 | succ k =>
  simp only [T_sketch_passed] at H
  refine F_in X_sketch_passed rfl ?_
  refine K_seq (K_r [] [] (by kernel_rfl) trivial ?_)
  refine K_seq (K_r [] [] (by kernel_rfl) trivial ?_)
  refine K_g (by kernel_rfl) ?_
  cases H
  refine K_ret ?_
  kernel_rfl
def T_sketch_fraction_plus (k : Nat) (p1 : Int) (p2 : Int) (p3 : Int) (p4 : Int) (p5 : Int) : Option Unit := match k with
 | 0 => none
 | k + 1 => (if p2 ≠ 0 then (if p4 ≠ 0 then some () else none) else none)
abbrev C_T_sketch_fraction_plus (k : Nat) (p1 : Int) (p2 : Int) (p3 : Int) (p4 : Int) (p5 : Int) (r : Unit) : Prop := evF X k n_sketch_fraction_plus [(.agg [cI p1, cI p2]), (.agg [cI p3, cI p4]), (I p5)] [] = some ((.agg [cI (w64 ((w64 (p1 * (w64 (p5.tdiv p2)))) + (w64 (p3 * (w64 (p5.tdiv p4)))))), cI p5]), [])
theorem T_sketch_fraction_plus_ok (k : Nat) (p1 : Int) (p2 : Int) (p3 : Int) (p4 : Int) (p5 : Int) (r : Unit) : T_sketch_fraction_plus k p1 p2 p3 p4 p5 = some r → C_T_sketch_fraction_plus k p1 p2 p3 p4 p5 r := by
 intro H
 cases k with
 | zero => simp [T_sketch_fraction_plus] at H
 | succ k =>
  simp only [T_sketch_fraction_plus] at H
  refine F_in X_sketch_fraction_plus rfl ?_
  refine K_seq (K_r [] [] (by kernel_rfl) trivial ?_)
  refine K_seq ?_
  obtain ⟨hx1, H⟩ := guard_some H
  obtain ⟨hx2, H⟩ := guard_some H
  refine K_r [] [p2 ≠ (0 : Int), p4 ≠ (0 : Int)] (by kernel_rfl) (AC hx1 (A1 hx2)) ?_
  refine K_g (by kernel_rfl) ?_
  cases H
  refine K_ret ?_
  kernel_rfl
def T_sketch_outside_l1 (k : Nat) (x1 : (List Int)) (p1 : Int) (p2 : List Int) (p3 : Int) (p4 : List (Int × Int)) (x7 : Int) (x11 : Int) (x18 : Bool) (x32 : Int × Int × Int × Bool) : Option ((Int × Int × Int × Bool) ⊕ ((Int × Int × Bool))) :=
 (if x32.1 < x11 then ((at? p4 x32.1).bind fun x34 => (at? p2 x32.1).bind fun x35 => (T_root_Quotient k (w64 (1024 * x35)) p3).bind fun x36 => (T_sketch_passed k x36.1 x34.1 x34.2).bind fun x37 => (if 1048576 < (imax (imax 0 (w64 ((w64 (16 * x34.1)) - (w64 (x36.1 + 1))))) (w64 (x36.1 - (w64 (16 * (w64 (x34.2 + 1))))))) then some (.inl ((w64 (x32.1 + 1)), x32.2.1, x32.2.2.1, true)) else ((at? x1 x32.1).bind fun x39 => (T_sketch_fraction_plus k x32.2.1 x32.2.2.1 (w64 ((imax (imax 0 (w64 ((w64 (16 * x34.1)) - (w64 (x36.1 + 1))))) (w64 (x36.1 - (w64 (16 * (w64 (x34.2 + 1))))))) * (imax (imax 0 (w64 ((w64 (16 * x34.1)) - (w64 (x36.1 + 1))))) (w64 (x36.1 - (w64 (16 * (w64 (x34.2 + 1))))))))) (w64 (2097152 * x39)) x7).bind fun x40 => ((if (w64 (2 * x7)) < (w64 ((w64 (x32.2.1 * (w64 (x7.tdiv x32.2.2.1)))) + (w64 ((w64 ((imax (imax 0 (w64 ((w64 (16 * x34.1)) - (w64 (x36.1 + 1))))) (w64 (x36.1 - (w64 (16 * (w64 (x34.2 + 1))))))) * (imax (imax 0 (w64 ((w64 (16 * x34.1)) - (w64 (x36.1 + 1))))) (w64 (x36.1 - (w64 (16 * (w64 (x34.2 + 1))))))))) * (w64 (x7.tdiv (w64 (2097152 * x39)))))))) then some (0, 1, true) else some ((w64 ((w64 (x32.2.1 * (w64 (x7.tdiv x32.2.2.1)))) + (w64 ((w64 ((imax (imax 0 (w64 ((w64 (16 * x34.1)) - (w64 (x36.1 + 1))))) (w64 (x36.1 - (w64 (16 * (w64 (x34.2 + 1))))))) * (imax (imax 0 (w64 ((w64 (16 * x34.1)) - (w64 (x36.1 + 1))))) (w64 (x36.1 - (w64 (16 * (w64 (x34.2 + 1))))))))) * (w64 (x7.tdiv (w64 (2097152 * x39)))))))), x7, x32.2.2.2))).bind fun x42 => some (.inl ((w64 (x32.1 + 1)), x42.1, x42.2.1, x42.2.2))))) else some (.inr (x32.2.1, x32.2.2.1, x32.2.2.2)))
theorem T_sketch_outside_l1_ok (k : Nat) (x1 : (List Int)) (p1 : Int) (p2 : List Int) (p3 : Int) (p4 : List (Int × Int)) (x7 : Int) (x11 : Int) (x18 : Bool) : ∀ (x32 : Int × Int × Int × Bool) (x : (Int × Int × Int × Bool) ⊕ ((Int × Int × Bool))), T_sketch_outside_l1 k x1 p1 p2 p3 p4 x7 x11 x18 x32 = some x → evC X (evF X k) k 0 l_sketch_outside_1 ⟨[(2, (Pt 0)), (4, (Pt 1)), (5, (LI x1)), (6, (I x7)), (7, (Pt 2)), (29, (.one (.d (.list (p4.map e_st0))))), (30, (I x11)), (31, (I x32.1))], [.cells [cI p1, cL p2, cI p3], .cells [cI 0, cI 0, cB x18], .cells [cI x32.2.1, cI x32.2.2.1, cB x32.2.2.2]]⟩ = some (outS (fun (s : Int × Int × Int × Bool) => ⟨[(2, (Pt 0)), (4, (Pt 1)), (5, (LI x1)), (6, (I x7)), (7, (Pt 2)), (29, (.one (.d (.list (p4.map e_st0))))), (30, (I x11)), (31, (I s.1))], [.cells [cI p1, cL p2, cI p3], .cells [cI 0, cI 0, cB x18], .cells [cI s.2.1, cI s.2.2.1, cB s.2.2.2]]⟩) (fun (r : (Int × Int × Bool)) => (.exit 0, ⟨[(4, (Pt 0)), (7, (Pt 1))], [.cells [cI 0, cI 0, cB x18], .cells [cI r.1, cI r.2.1, cB r.2.2]]⟩)) x) := by
 intro x32 x H
 unfold T_sketch_outside_l1 at H
 refine K_in ?_
 refine K_seq (K_r [] [] (by kernel_rfl) trivial ?_)
 refine K_seq ?_
 rcases ite_some H with ⟨hx33, H⟩ | ⟨hx33, H⟩
 · refine K_t (by kernel_rfl) (decide_eq_true hx33) ?_
   refine K_g (by kernel_rfl) ?_
   refine K_skip ?_
   refine K_seq ?_
   refine K_block ?_
   refine K_seq ?_
   obtain ⟨x34, hx34, H⟩ := bind_some' H
   refine K_r [.l [.int .i64 x34.1, .int .i64 x34.2]] [(0 : Int) ≤ x32.1 ∧ x32.1 < (((p4.map e_st0)).length : Int), ((p4.map e_st0).getD x32.1.toNat (.agg [(.int .i64 0), (.int .i64 0)])).cells = [.int .i64 x34.1, .int .i64 x34.2]] (by kernel_rfl) (AC (at_ok hx34 e_st0 (.agg [(.int .i64 0), (.int .i64 0)])).1 (A1 (at_ok hx34 e_st0 (.agg [(.int .i64 0), (.int .i64 0)])).2)) ?_
   refine K_seq ?_
   obtain ⟨x35, hx35, H⟩ := bind_some' H
   obtain ⟨x36, hx36, H⟩ := bind_some' H
   refine K_r [.l [.int .i64 x35], .r (.tup [(false, [cI x36.1]), (false, [cI x36.2])]) []] [(0 : Int) ≤ x32.1 ∧ x32.1 < (((p2.map (D.int .i64))).length : Int), ((p2.map (D.int .i64)).getD x32.1.toNat (.int .i64 0)).cells = [.int .i64 x35], C_T_root_Quotient k (w64 (1024 * x35)) p3 x36] (by kernel_rfl) (AC (at_ok hx35 (D.int .i64) (.int .i64 0)).1 (AC (at_ok hx35 (D.int .i64) (.int .i64 0)).2 (A1 (T_root_Quotient_ok k (w64 (1024 * x35)) p3 x36 hx36)))) ?_
   refine K_seq ?_
   obtain ⟨x37, hx37, H⟩ := bind_some' H
   refine K_r [.r (I (imax (imax 0 (w64 ((w64 (16 * x34.1)) - (w64 (x36.1 + 1))))) (w64 (x36.1 - (w64 (16 * (w64 (x34.2 + 1)))))))) []] [C_T_sketch_passed k x36.1 x34.1 x34.2 x37] (by kernel_rfl) (A1 (T_sketch_passed_ok k x36.1 x34.1 x34.2 x37 hx37)) ?_
   refine K_seq (K_seq (K_r [] [] (by kernel_rfl) trivial ?_))
   rcases ite_some H with ⟨hx38, H⟩ | ⟨hx38, H⟩
   · refine K_t (by kernel_rfl) (decide_eq_true hx38) ?_
     refine K_seq (K_r [] [] (by kernel_rfl) trivial ?_)
     refine K_g (by kernel_rfl) ?_
     refine K_exit rfl ?_
     refine K_r [] [] (by kernel_rfl) trivial ?_
     cases H
     exact K_end (by kernel_rfl)
   · refine K_f (by kernel_rfl) (decide_eq_false hx38) ?_
     refine K_g (by kernel_rfl) ?_
     refine K_skip ?_
     refine K_seq ?_
     obtain ⟨x39, hx39, H⟩ := bind_some' H
     obtain ⟨x40, hx40, H⟩ := bind_some' H
     refine K_r [.l [.int .i64 x39], .r (.agg [cI (w64 ((w64 (x32.2.1 * (w64 (x7.tdiv x32.2.2.1)))) + (w64 ((w64 ((imax (imax 0 (w64 ((w64 (16 * x34.1)) - (w64 (x36.1 + 1))))) (w64 (x36.1 - (w64 (16 * (w64 (x34.2 + 1))))))) * (imax (imax 0 (w64 ((w64 (16 * x34.1)) - (w64 (x36.1 + 1))))) (w64 (x36.1 - (w64 (16 * (w64 (x34.2 + 1))))))))) * (w64 (x7.tdiv (w64 (2097152 * x39)))))))), cI x7]) []] [(0 : Int) ≤ x32.1 ∧ x32.1 < (((x1.map (D.int .i64))).length : Int), ((x1.map (D.int .i64)).getD x32.1.toNat (.int .i64 0)).cells = [.int .i64 x39], C_T_sketch_fraction_plus k x32.2.1 x32.2.2.1 (w64 ((imax (imax 0 (w64 ((w64 (16 * x34.1)) - (w64 (x36.1 + 1))))) (w64 (x36.1 - (w64 (16 * (w64 (x34.2 + 1))))))) * (imax (imax 0 (w64 ((w64 (16 * x34.1)) - (w64 (x36.1 + 1))))) (w64 (x36.1 - (w64 (16 * (w64 (x34.2 + 1))))))))) (w64 (2097152 * x39)) x7 x40] (by kernel_rfl) (AC (at_ok hx39 (D.int .i64) (.int .i64 0)).1 (AC (at_ok hx39 (D.int .i64) (.int .i64 0)).2 (A1 (T_sketch_fraction_plus_ok k x32.2.1 x32.2.2.1 (w64 ((imax (imax 0 (w64 ((w64 (16 * x34.1)) - (w64 (x36.1 + 1))))) (w64 (x36.1 - (w64 (16 * (w64 (x34.2 + 1))))))) * (imax (imax 0 (w64 ((w64 (16 * x34.1)) - (w64 (x36.1 + 1))))) (w64 (x36.1 - (w64 (16 * (w64 (x34.2 + 1))))))))) (w64 (2097152 * x39)) x7 x40 hx40)))) ?_
     refine K_seq (K_r [] [] (by kernel_rfl) trivial ?_)
     obtain ⟨x42, hx42, H⟩ := bind_some' H
     refine K_of ⟨[(2, (Pt 0)), (4, (Pt 1)), (5, (LI x1)), (6, (I x7)), (7, (Pt 2)), (29, (.one (.d (.list (p4.map e_st0))))), (30, (I x11)), (31, (I x32.1))], [.cells [cI p1, cL p2, cI p3], .cells [cI 0, cI 0, cB x18], .cells [cI x42.1, cI x42.2.1, cB x42.2.2]]⟩ ?_ ?_
     · clear H; have H := hx42; clear hx42; refine K_in ?_
       rcases ite_some H with ⟨hx41, H⟩ | ⟨hx41, H⟩
       · refine K_t (by kernel_rfl) (decide_eq_true hx41) ?_
         refine K_seq (K_r [] [] (by kernel_rfl) trivial ?_)
         refine K_r [] [] (by kernel_rfl) trivial ?_
         cases H
         exact K_end (by kernel_rfl)
       · refine K_f (by kernel_rfl) (decide_eq_false hx41) ?_
         refine K_g (by kernel_rfl) ?_
         refine K_skip ?_
         cases H
         exact K_end (by kernel_rfl)
     refine K_blk (K_r [] [] (by kernel_rfl) trivial ?_)
     cases H
     exact K_end (by kernel_rfl)
 · refine K_f (by kernel_rfl) (decide_eq_false hx33) ?_
   refine K_g (by kernel_rfl) ?_
   cases H
   exact K_exit0 rfl (by kernel_rfl)
def T_sketch_outside (k : Nat) (p1 : Int) (p2 : List Int) (p3 : Int) (p4 : List (Int × Int)) : Option (Int × Int × Bool) := match k with
 | 0 => none
 | k + 1 => ((T_sketch_lengths k p1 p2 p3).bind fun x1 => (T_slices_Min_b354 k x1).bind fun x2 => (T_slices_Max_b354 k x1).bind fun x3 => (T_slices_Min_b354 k x1).bind fun x4 => ((if (!decide (x3 = x4)) = true then ((T_slices_Max_b354 k x1).bind fun x6 => some (w64 ((w64 (2097152 * x2)) * x6))) else some (w64 (2097152 * x2)))).bind fun x7 => (loopT (T_sketch_outside_l1 k x1 p1 p2 p3 p4 x7 (p4.length : Int) false) k (0, 0, 1, false)).bind fun x43 => some (x43.1, x43.2.1, x43.2.2))
abbrev C_T_sketch_outside (k : Nat) (p1 : Int) (p2 : List Int) (p3 : Int) (p4 : List (Int × Int)) (r : Int × Int × Bool) : Prop := evF X k n_sketch_outside [(.agg [cI p1, cL p2, cI p3]), (.one (.d (.list (p4.map e_st0))))] [] = some ((.agg [cI r.1, cI r.2.1, cB r.2.2]), [])
theorem T_sketch_outside_ok (k : Nat) (p1 : Int) (p2 : List Int) (p3 : Int) (p4 : List (Int × Int)) (r : Int × Int × Bool) : T_sketch_outside k p1 p2 p3 p4 = some r → C_T_sketch_outside k p1 p2 p3 p4 r := by
 intro H
 cases k with
 | zero => simp [T_sketch_outside] at H
 | succ k =>
  simp only [T_sketch_outside] at H
  refine F_in X_sketch_outside rfl ?_
  refine K_seq (K_r [] [] (by kernel_rfl) trivial ?_)
  refine K_seq ?_
  obtain ⟨x1, hx1, H⟩ := bind_some' H
  refine K_r [.r (LI x1) []] [C_T_sketch_lengths k p1 p2 p3 x1] (by kernel_rfl) (A1 (T_sketch_lengths_ok k p1 p2 p3 x1 hx1)) ?_
  refine K_seq ?_
  obtain ⟨x2, hx2, H⟩ := bind_some' H
  refine K_r [.r (I x2) []] [C_T_slices_Min_b354 k x1 x2] (by kernel_rfl) (A1 (T_slices_Min_b354_ok k x1 x2 hx2)) ?_
  refine K_seq ?_
  refine K_seq ?_
  obtain ⟨x3, hx3, H⟩ := bind_some' H
  obtain ⟨x4, hx4, H⟩ := bind_some' H
  refine K_r [.r (I x3) [], .r (I x4) []] [C_T_slices_Max_b354 k x1 x3, C_T_slices_Min_b354 k x1 x4] (by kernel_rfl) (AC (T_slices_Max_b354_ok k x1 x3 hx3) (A1 (T_slices_Min_b354_ok k x1 x4 hx4))) ?_
  obtain ⟨x7, hx7, H⟩ := bind_some' H
  refine K_of ⟨[(1, (.one (.d (.list (p4.map e_st0))))), (2, (Pt 0)), (4, (Pt 1)), (5, (LI x1)), (6, (I x7))], [.cells [cI p1, cL p2, cI p3], .cells [cI 0, cI 0, cB false]]⟩ ?_ ?_
  · clear H; have H := hx7; clear hx7; refine K_in ?_
    rcases ite_some H with ⟨hx5, H⟩ | ⟨hx5, H⟩
    · refine K_t (by kernel_rfl) hx5 ?_
      obtain ⟨x6, hx6, H⟩ := bind_some' H
      refine K_r [.r (I x6) []] [C_T_slices_Max_b354 k x1 x6] (by kernel_rfl) (A1 (T_slices_Max_b354_ok k x1 x6 hx6)) ?_
      cases H
      exact K_end (by kernel_rfl)
    · refine K_f (by kernel_rfl) (Bool.eq_false_iff.2 hx5) ?_
      refine K_g (by kernel_rfl) ?_
      refine K_skip ?_
      cases H
      exact K_end (by kernel_rfl)
  refine K_seq (K_r [] [] (by kernel_rfl) trivial ?_)
  refine K_seq (K_seq (K_r [.n p4.length] [((p4.map e_st0)).length = p4.length] (by kernel_rfl) (A1 (List.length_map _)) ?_))
  refine K_block (K_conv (σ' := ⟨[(2, (Pt 0)), (4, (Pt 1)), (5, (LI x1)), (6, (I x7)), (7, (Pt 2)), (29, (.one (.d (.list (p4.map e_st0))))), (30, (I (p4.length : Int))), (31, (I 0))], [.cells [cI p1, cL p2, cI p3], .cells [cI 0, cI 0, cB false], .cells [cI 0, cI 1, cB false]]⟩) (by kernel_rfl) ?_)
  obtain ⟨x43, hx43, H⟩ := bind_some' H
  refine K_loop ⟨[(4, (Pt 0)), (7, (Pt 1))], [.cells [cI 0, cI 0, cB false], .cells [cI x43.1, cI x43.2.1, cB x43.2.2]]⟩ (loop_ok (fun (s : Int × Int × Int × Bool) => ⟨[(2, (Pt 0)), (4, (Pt 1)), (5, (LI x1)), (6, (I x7)), (7, (Pt 2)), (29, (.one (.d (.list (p4.map e_st0))))), (30, (I (p4.length : Int))), (31, (I s.1))], [.cells [cI p1, cL p2, cI p3], .cells [cI 0, cI 0, cB false], .cells [cI s.2.1, cI s.2.2.1, cB s.2.2.2]]⟩) (fun (r : (Int × Int × Bool)) => (.exit 0, ⟨[(4, (Pt 0)), (7, (Pt 1))], [.cells [cI 0, cI 0, cB false], .cells [cI r.1, cI r.2.1, cB r.2.2]]⟩)) (fun r h => by cases h) (T_sketch_outside_l1_ok k x1 p1 p2 p3 p4 x7 (p4.length : Int) false) k (0, 0, 1, false) x43 hx43) rfl ?_
  refine K_seq (K_r [] [] (by kernel_rfl) trivial ?_)
  refine K_g (by kernel_rfl) ?_
  cases H
  refine K_ret ?_
  kernel_rfl
def T_sketch_Region_l1 (k : Nat) (p1 : Int) (p2 : List Int) (p3 : Int) (p4 : List (Int × Int)) (x7 : Int) (x17 : Bool × Int) : Option ((Bool × Int) ⊕ (Bool ⊕ Unit)) :=
 (if x17.2 < x7 then ((at? p4 x17.2).bind fun x19 => (if (decide ((imin x19.1 x19.2) < (-1099511627776)) || decide (1099511627776 < (imax x19.1 x19.2))) = true then some (.inr (.inr ())) else some (.inl ((x17.1 || decide (x19.2 < x19.1)), (w64 (x17.2 + 1)))))) else some (.inr (.inl x17.1)))
theorem T_sketch_Region_l1_ok (k : Nat) (p1 : Int) (p2 : List Int) (p3 : Int) (p4 : List (Int × Int)) (x7 : Int) : ∀ (x17 : Bool × Int) (x : (Bool × Int) ⊕ (Bool ⊕ Unit)), T_sketch_Region_l1 k p1 p2 p3 p4 x7 x17 = some x → evC X (evF X k) k 0 l_sketch_Region_1 ⟨[(1, (.one (.d (.list (p4.map e_st0))))), (2, (Pt 0)), (4, (Pt 1)), (6, (B x17.1)), (22, (.one (.d (.list (p4.map e_st0))))), (23, (I x7)), (24, (I x17.2))], [.cells [cI p1, cL p2, cI p3], .cells [cI 0, cI 0]]⟩ = some (outS (fun (s : Bool × Int) => ⟨[(1, (.one (.d (.list (p4.map e_st0))))), (2, (Pt 0)), (4, (Pt 1)), (6, (B s.1)), (22, (.one (.d (.list (p4.map e_st0))))), (23, (I x7)), (24, (I s.2))], [.cells [cI p1, cL p2, cI p3], .cells [cI 0, cI 0]]⟩) (fun (r : Bool ⊕ Unit) => Sum.elim (fun y => (.exit 0, ⟨[(1, (.one (.d (.list (p4.map e_st0))))), (2, (Pt 0)), (4, (Pt 1)), (6, (B y))], [.cells [cI p1, cL p2, cI p3], .cells [cI 0, cI 0]]⟩)) (fun y => (.ret, ⟨[(4, (Pt 0)), (5, (I 1))], [.cells [cI 0, cI 0]]⟩)) r) x) := by
 intro x17 x H
 unfold T_sketch_Region_l1 at H
 refine K_in ?_
 refine K_seq (K_r [] [] (by kernel_rfl) trivial ?_)
 refine K_seq ?_
 rcases ite_some H with ⟨hx18, H⟩ | ⟨hx18, H⟩
 · refine K_t (by kernel_rfl) (decide_eq_true hx18) ?_
   refine K_g (by kernel_rfl) ?_
   refine K_skip ?_
   refine K_seq ?_
   refine K_block ?_
   refine K_seq ?_
   obtain ⟨x19, hx19, H⟩ := bind_some' H
   refine K_r [.l [.int .i64 x19.1, .int .i64 x19.2]] [(0 : Int) ≤ x17.2 ∧ x17.2 < (((p4.map e_st0)).length : Int), ((p4.map e_st0).getD x17.2.toNat (.agg [(.int .i64 0), (.int .i64 0)])).cells = [.int .i64 x19.1, .int .i64 x19.2]] (by kernel_rfl) (AC (at_ok hx19 e_st0 (.agg [(.int .i64 0), (.int .i64 0)])).1 (A1 (at_ok hx19 e_st0 (.agg [(.int .i64 0), (.int .i64 0)])).2)) ?_
   refine K_seq (K_seq (K_r [.m] ((fun (z1 : Heap) => [z1 = z1]) [.cells [cI p1, cL p2, cI p3], .cells [cI 0, cI 0], .cells [cI x19.1, cI x19.2]]) (by kernel_rfl) (A1 rfl) ?_))
   rcases ite_some H with ⟨hx20, H⟩ | ⟨hx20, H⟩
   · refine K_t (by kernel_rfl) hx20 ?_
     refine K_seq (K_r [] [] (by kernel_rfl) trivial ?_)
     refine K_g (by kernel_rfl) ?_
     cases H
     exact K_ret (by kernel_rfl)
   · refine K_f (by kernel_rfl) (Bool.eq_false_iff.2 hx20) ?_
     refine K_g (by kernel_rfl) ?_
     refine K_skip (K_r [.m] ((fun (z1 : Heap) => [z1 = z1]) [.cells [cI p1, cL p2, cI p3], .cells [cI 0, cI 0], .cells [cI x19.1, cI x19.2]]) (by kernel_rfl) (A1 rfl) ?_)
     refine K_blk (K_r [] [] (by kernel_rfl) trivial ?_)
     cases H
     exact K_end (by kernel_rfl)
 · refine K_f (by kernel_rfl) (decide_eq_false hx18) ?_
   refine K_g (by kernel_rfl) ?_
   cases H
   exact K_exit0 rfl (by kernel_rfl)
def T_sketch_Region (k : Nat) (p1 : Int) (p2 : List Int) (p3 : Int) (p4 : List (Int × Int)) : Option (Int × Int × Int) := match k with
 | 0 => none
 | k + 1 => ((T_sketch_valid k p1 p2 p3).bind fun x1 => (if (!x1) = true then some (0, 0, 3) else (if (!decide ((p4.length : Int) = (p2.length : Int))) = true then some (0, 0, 8) else ((loopT (T_sketch_Region_l1 k p1 p2 p3 p4 (p4.length : Int)) k (false, 0)).bind fun x21 => (match x21 with | .inl x22 => (if x22 = true then ((T_ratio_Make k 0 1).bind fun x24 => some (x24.1, x24.2.1, x24.2.2)) else (if p3 = 0 then ((T_sketch_flat k p4).bind fun x26 => some (x26.1, x26.2.1, x26.2.2)) else ((T_sketch_outside k p1 p2 p3 p4).bind fun x27 => (if x27.2.2 = true then ((T_ratio_Make k 2 1).bind fun x29 => some (x29.1, x29.2.1, x29.2.2)) else (if (w64 (x27.2.1 - x27.1)) < 0 then ((T_ratio_Make k (w64 ((w64 (x27.2.1 * x27.2.1)) + (w64 ((w64 (x27.2.1 - x27.1)) * (w64 (x27.2.1 - x27.1)))))) (w64 (x27.2.1 * x27.2.1))).bind fun x31 => some (x31.1, x31.2.1, x31.2.2)) else ((T_ratio_Make k (w64 ((w64 (x27.2.1 * x27.2.1)) - (w64 ((w64 (x27.2.1 - x27.1)) * (w64 (x27.2.1 - x27.1)))))) (w64 (x27.2.1 * x27.2.1))).bind fun x32 => some (x32.1, x32.2.1, x32.2.2))))))) | .inr x33 => some (0, 0, 1))))))
abbrev C_T_sketch_Region (k : Nat) (p1 : Int) (p2 : List Int) (p3 : Int) (p4 : List (Int × Int)) (r : Int × Int × Int) : Prop := evF X k n_sketch_Region [(.agg [cI p1, cL p2, cI p3]), (.one (.d (.list (p4.map e_st0))))] [] = some ((.tup [(true, [cI r.1, cI r.2.1]), (false, [cI r.2.2])]), [])
theorem T_sketch_Region_ok (k : Nat) (p1 : Int) (p2 : List Int) (p3 : Int) (p4 : List (Int × Int)) (r : Int × Int × Int) : T_sketch_Region k p1 p2 p3 p4 = some r → C_T_sketch_Region k p1 p2 p3 p4 r := by
 intro H
 cases k with
 | zero => simp [T_sketch_Region] at H
 | succ k =>
  simp only [T_sketch_Region] at H
  refine F_in X_sketch_Region rfl ?_
  refine K_seq (K_r [] [] (by kernel_rfl) trivial ?_)
  refine K_seq ?_
  refine K_seq ?_
  obtain ⟨x1, hx1, H⟩ := bind_some' H
  refine K_r [.r (B x1) []] [C_T_sketch_valid k p1 p2 p3 x1] (by kernel_rfl) (A1 (T_sketch_valid_ok k p1 p2 p3 x1 hx1)) ?_
  rcases ite_some H with ⟨hx2, H⟩ | ⟨hx2, H⟩
  · refine K_t (by kernel_rfl) hx2 ?_
    refine K_seq (K_r [] [] (by kernel_rfl) trivial ?_)
    refine K_g (by kernel_rfl) ?_
    cases H
    refine K_ret ?_
    kernel_rfl
  · refine K_f (by kernel_rfl) (Bool.eq_false_iff.2 hx2) ?_
    refine K_g (by kernel_rfl) ?_
    refine K_skip (K_seq (K_seq (K_r [.n p4.length, .n p2.length] [((p4.map e_st0)).length = p4.length, ((p2.map (D.int .i64))).length = p2.length] (by kernel_rfl) (AC (List.length_map _) (A1 (List.length_map _))) ?_)))
    rcases ite_some H with ⟨hx3, H⟩ | ⟨hx3, H⟩
    · refine K_t (by kernel_rfl) hx3 ?_
      refine K_seq (K_r [] [] (by kernel_rfl) trivial ?_)
      refine K_g (by kernel_rfl) ?_
      cases H
      refine K_ret ?_
      kernel_rfl
    · refine K_f (by kernel_rfl) (Bool.eq_false_iff.2 hx3) ?_
      refine K_g (by kernel_rfl) ?_
      refine K_skip (K_seq (K_r [] [] (by kernel_rfl) trivial ?_))
      refine K_seq (K_seq (K_r [.n p4.length] [((p4.map e_st0)).length = p4.length] (by kernel_rfl) (A1 (List.length_map _)) ?_))
      refine K_block (K_conv (σ' := ⟨[(1, (.one (.d (.list (p4.map e_st0))))), (2, (Pt 0)), (4, (Pt 1)), (6, (B false)), (22, (.one (.d (.list (p4.map e_st0))))), (23, (I (p4.length : Int))), (24, (I 0))], [.cells [cI p1, cL p2, cI p3], .cells [cI 0, cI 0]]⟩) (by kernel_rfl) ?_)
      obtain ⟨x21, hx21, H⟩ := bind_some' H
      cases x21 with
      | inl x22 =>
       dsimp only at H
       refine K_loop ⟨[(1, (.one (.d (.list (p4.map e_st0))))), (2, (Pt 0)), (4, (Pt 1)), (6, (B x22))], [.cells [cI p1, cL p2, cI p3], .cells [cI 0, cI 0]]⟩ (loop_ok (fun (s : Bool × Int) => ⟨[(1, (.one (.d (.list (p4.map e_st0))))), (2, (Pt 0)), (4, (Pt 1)), (6, (B s.1)), (22, (.one (.d (.list (p4.map e_st0))))), (23, (I (p4.length : Int))), (24, (I s.2))], [.cells [cI p1, cL p2, cI p3], .cells [cI 0, cI 0]]⟩) (fun (r : Bool ⊕ Unit) => Sum.elim (fun y => (.exit 0, ⟨[(1, (.one (.d (.list (p4.map e_st0))))), (2, (Pt 0)), (4, (Pt 1)), (6, (B y))], [.cells [cI p1, cL p2, cI p3], .cells [cI 0, cI 0]]⟩)) (fun y => (.ret, ⟨[(4, (Pt 0)), (5, (I 1))], [.cells [cI 0, cI 0]]⟩)) r) (fun r h => by cases r <;> cases h) (T_sketch_Region_l1_ok k p1 p2 p3 p4 (p4.length : Int)) k (false, 0) (.inl x22) hx21) rfl ?_
       refine K_seq (K_seq (K_r [] [] (by kernel_rfl) trivial ?_))
       rcases ite_some H with ⟨hx23, H⟩ | ⟨hx23, H⟩
       · refine K_t (by kernel_rfl) hx23 ?_
         refine K_seq ?_
         obtain ⟨x24, hx24, H⟩ := bind_some' H
         refine K_r [.r (.tup [(true, [cI x24.1, cI x24.2.1]), (false, [cI x24.2.2])]) []] [C_T_ratio_Make k 0 1 x24] (by kernel_rfl) (A1 (T_ratio_Make_ok k 0 1 x24 hx24)) ?_
         refine K_g (by kernel_rfl) ?_
         cases H
         refine K_ret ?_
         kernel_rfl
       · refine K_f (by kernel_rfl) (Bool.eq_false_iff.2 hx23) ?_
         refine K_g (by kernel_rfl) ?_
         refine K_skip (K_seq (K_seq (K_r [] [] (by kernel_rfl) trivial ?_)))
         rcases ite_some H with ⟨hx25, H⟩ | ⟨hx25, H⟩
         · refine K_t (by kernel_rfl) (decide_eq_true hx25) ?_
           refine K_seq ?_
           obtain ⟨x26, hx26, H⟩ := bind_some' H
           refine K_r [.r (.tup [(true, [cI x26.1, cI x26.2.1]), (false, [cI x26.2.2])]) []] [C_T_sketch_flat k p4 x26] (by kernel_rfl) (A1 (T_sketch_flat_ok k p4 x26 hx26)) ?_
           refine K_g (by kernel_rfl) ?_
           cases H
           refine K_ret ?_
           kernel_rfl
         · refine K_f (by kernel_rfl) (decide_eq_false hx25) ?_
           refine K_g (by kernel_rfl) ?_
           refine K_skip ?_
           refine K_seq ?_
           obtain ⟨x27, hx27, H⟩ := bind_some' H
           refine K_r [.r (.agg [cI x27.1, cI x27.2.1, cB x27.2.2]) []] [C_T_sketch_outside k p1 p2 p3 p4 x27] (by kernel_rfl) (A1 (T_sketch_outside_ok k p1 p2 p3 p4 x27 hx27)) ?_
           refine K_seq (K_r [] [] (by kernel_rfl) trivial ?_)
           refine K_seq (K_block (K_seq (K_r [] [] (by kernel_rfl) trivial ?_)))
           rcases ite_some H with ⟨hx28, H⟩ | ⟨hx28, H⟩
           · refine K_t (by kernel_rfl) hx28 ?_
             refine K_seq ?_
             obtain ⟨x29, hx29, H⟩ := bind_some' H
             refine K_r [.r (.tup [(true, [cI x29.1, cI x29.2.1]), (false, [cI x29.2.2])]) []] [C_T_ratio_Make k 2 1 x29] (by kernel_rfl) (A1 (T_ratio_Make_ok k 2 1 x29 hx29)) ?_
             refine K_g (by kernel_rfl) ?_
             cases H
             refine K_ret ?_
             kernel_rfl
           · refine K_f (by kernel_rfl) (Bool.eq_false_iff.2 hx28) ?_
             refine K_seq (K_r [] [] (by kernel_rfl) trivial ?_)
             rcases ite_some H with ⟨hx30, H⟩ | ⟨hx30, H⟩
             · refine K_t (by kernel_rfl) (decide_eq_true hx30) ?_
               refine K_seq ?_
               obtain ⟨x31, hx31, H⟩ := bind_some' H
               refine K_r [.r (.tup [(true, [cI x31.1, cI x31.2.1]), (false, [cI x31.2.2])]) []] [C_T_ratio_Make k (w64 ((w64 (x27.2.1 * x27.2.1)) + (w64 ((w64 (x27.2.1 - x27.1)) * (w64 (x27.2.1 - x27.1)))))) (w64 (x27.2.1 * x27.2.1)) x31] (by kernel_rfl) (A1 (T_ratio_Make_ok k (w64 ((w64 (x27.2.1 * x27.2.1)) + (w64 ((w64 (x27.2.1 - x27.1)) * (w64 (x27.2.1 - x27.1)))))) (w64 (x27.2.1 * x27.2.1)) x31 hx31)) ?_
               refine K_g (by kernel_rfl) ?_
               cases H
               refine K_ret ?_
               kernel_rfl
             · refine K_f (by kernel_rfl) (decide_eq_false hx30) ?_
               refine K_g (by kernel_rfl) ?_
               refine K_skip ?_
               refine K_blk ?_
               refine K_seq ?_
               obtain ⟨x32, hx32, H⟩ := bind_some' H
               refine K_r [.r (.tup [(true, [cI x32.1, cI x32.2.1]), (false, [cI x32.2.2])]) []] [C_T_ratio_Make k (w64 ((w64 (x27.2.1 * x27.2.1)) - (w64 ((w64 (x27.2.1 - x27.1)) * (w64 (x27.2.1 - x27.1)))))) (w64 (x27.2.1 * x27.2.1)) x32] (by kernel_rfl) (A1 (T_ratio_Make_ok k (w64 ((w64 (x27.2.1 * x27.2.1)) - (w64 ((w64 (x27.2.1 - x27.1)) * (w64 (x27.2.1 - x27.1)))))) (w64 (x27.2.1 * x27.2.1)) x32 hx32)) ?_
               refine K_g (by kernel_rfl) ?_
               cases H
               refine K_ret ?_
               kernel_rfl
      | inr x33 =>
       dsimp only at H
       cases H
       refine K_loopr ⟨[(4, (Pt 0)), (5, (I 1))], [.cells [cI 0, cI 0]]⟩ (loop_ok (fun (s : Bool × Int) => ⟨[(1, (.one (.d (.list (p4.map e_st0))))), (2, (Pt 0)), (4, (Pt 1)), (6, (B s.1)), (22, (.one (.d (.list (p4.map e_st0))))), (23, (I (p4.length : Int))), (24, (I s.2))], [.cells [cI p1, cL p2, cI p3], .cells [cI 0, cI 0]]⟩) (fun (r : Bool ⊕ Unit) => Sum.elim (fun y => (.exit 0, ⟨[(1, (.one (.d (.list (p4.map e_st0))))), (2, (Pt 0)), (4, (Pt 1)), (6, (B y))], [.cells [cI p1, cL p2, cI p3], .cells [cI 0, cI 0]]⟩)) (fun y => (.ret, ⟨[(4, (Pt 0)), (5, (I 1))], [.cells [cI 0, cI 0]]⟩)) r) (fun r h => by cases r <;> cases h) (T_sketch_Region_l1_ok k p1 p2 p3 p4 (p4.length : Int)) k (false, 0) (.inr x33) hx21) ?_
       kernel_rfl
def T_ref01_common_l1 (k : Nat) (x5 : Int × Int) : Option ((Int × Int) ⊕ Int) :=
 (if 0 < x5.2 then (if x5.2 ≠ 0 then some (.inl (x5.2, (x5.1.tmod x5.2))) else none) else some (.inr x5.1))
theorem T_ref01_common_l1_ok (k : Nat) : ∀ (x5 : Int × Int) (x : (Int × Int) ⊕ Int), T_ref01_common_l1 k x5 = some x → evC X (evF X k) k 0 l_ref01_common_1 ⟨[(0, (I x5.1)), (1, (I x5.2))], []⟩ = some (outS (fun (s : Int × Int) => ⟨[(0, (I s.1)), (1, (I s.2))], []⟩) (fun (r : Int) => (.exit 0, ⟨[(0, (I r))], []⟩)) x) := by
 intro x5 x H
 unfold T_ref01_common_l1 at H
 refine K_in ?_
 refine K_seq (K_seq (K_r [] [] (by kernel_rfl) trivial ?_))
 rcases ite_some H with ⟨hx6, H⟩ | ⟨hx6, H⟩
 · refine K_t (by kernel_rfl) (decide_eq_true hx6) ?_
   refine K_g (by kernel_rfl) ?_
   refine K_skip ?_
   refine K_block ?_
   obtain ⟨hx7, H⟩ := guard_some H
   refine K_r [] [x5.2 ≠ (0 : Int)] (by kernel_rfl) (A1 hx7) ?_
   refine K_blk ?_
   cases H
   exact K_end (by kernel_rfl)
 · refine K_f (by kernel_rfl) (decide_eq_false hx6) ?_
   refine K_g (by kernel_rfl) ?_
   cases H
   exact K_exit0 rfl (by kernel_rfl)
def T_ref01_common (k : Nat) (p1 : Int) (p2 : Int) : Option Int := match k with
 | 0 => none
 | k + 1 => ((loopT (T_ref01_common_l1 k) k (p1, p2)).bind fun x8 => some x8)
abbrev C_T_ref01_common (k : Nat) (p1 : Int) (p2 : Int) (r : Int) : Prop := evF X k n_ref01_common [(I p1), (I p2)] [] = some ((I r), [])
theorem T_ref01_common_ok (k : Nat) (p1 : Int) (p2 : Int) (r : Int) : T_ref01_common k p1 p2 = some r → C_T_ref01_common k p1 p2 r := by
 intro H
 cases k with
 | zero => simp [T_ref01_common] at H
 | succ k =>
  simp only [T_ref01_common] at H
  refine F_in X_ref01_common rfl ?_
  refine K_seq (K_r [] [] (by kernel_rfl) trivial ?_)
  refine K_seq (K_block (K_conv (σ' := ⟨[(0, (I p1)), (1, (I p2))], []⟩) (by kernel_rfl) ?_))
  obtain ⟨x8, hx8, H⟩ := bind_some' H
  refine K_loop ⟨[(0, (I x8))], []⟩ (loop_ok (fun (s : Int × Int) => ⟨[(0, (I s.1)), (1, (I s.2))], []⟩) (fun (r : Int) => (.exit 0, ⟨[(0, (I r))], []⟩)) (fun r h => by cases h) (T_ref01_common_l1_ok k) k (p1, p2) x8 hx8) rfl ?_
  refine K_seq (K_r [] [] (by kernel_rfl) trivial ?_)
  refine K_g (by kernel_rfl) ?_
  cases H
  refine K_ret ?_
  kernel_rfl
def T_ref01_Valid (k : Nat) (p1 : Int) (p2 : Int) : Option Bool := match k with
 | 0 => none
 | k + 1 => (((if (((decide (0 ≤ p1) && decide (p1 ≤ 2305843009213693952)) && decide (1 ≤ p2)) && decide (p2 ≤ 1152921504606846976)) = true then ((T_ref01_common k p1 p2).bind fun x3 => some (decide (x3 = 1))) else some false)).bind fun x4 => some x4)
abbrev C_T_ref01_Valid (k : Nat) (p1 : Int) (p2 : Int) (r : Bool) : Prop := evF X k n_ref01_Valid [(.agg [cI p1, cI p2])] [] = some ((B r), [])
theorem T_ref01_Valid_ok (k : Nat) (p1 : Int) (p2 : Int) (r : Bool) : T_ref01_Valid k p1 p2 = some r → C_T_ref01_Valid k p1 p2 r := by
 intro H
 cases k with
 | zero => simp [T_ref01_Valid] at H
 | succ k =>
  simp only [T_ref01_Valid] at H
  refine F_in X_ref01_Valid rfl ?_
  refine K_seq (K_r [] [] (by kernel_rfl) trivial ?_)
  refine K_seq ?_
  obtain ⟨x4, hx4, H⟩ := bind_some' H
  refine K_of ⟨[(2, (B x4))], []⟩ ?_ ?_
  · clear H; have H := hx4; clear hx4; refine K_in ?_
    rcases ite_some H with ⟨hx2, H⟩ | ⟨hx2, H⟩
    · obtain ⟨x3, hx3, H⟩ := bind_some' H
      refine K_r [.m, .m, .m, .b true, .r (I x3) []] ((fun (z1 : Heap) => [z1 = z1, z1 = z1, z1 = z1, (((decide (0 ≤ p1) && decide (p1 ≤ 2305843009213693952)) && decide (1 ≤ p2)) && decide (p2 ≤ 1152921504606846976)) = true, C_T_ref01_common k p1 p2 x3]) [.cells [cI p1, cI p2]]) (by kernel_rfl) (AC rfl (AC rfl (AC rfl (AC hx2 (A1 (T_ref01_common_ok k p1 p2 x3 hx3)))))) ?_
      cases H
      exact K_end (by kernel_rfl)
    · refine K_r [.m, .m, .m, .b false] ((fun (z1 : Heap) => [z1 = z1, z1 = z1, z1 = z1, (((decide (0 ≤ p1) && decide (p1 ≤ 2305843009213693952)) && decide (1 ≤ p2)) && decide (p2 ≤ 1152921504606846976)) = false]) [.cells [cI p1, cI p2]]) (by kernel_rfl) (AC rfl (AC rfl (AC rfl (A1 (Bool.eq_false_iff.2 hx2))))) ?_
      cases H
      exact K_end (by kernel_rfl)
  refine K_g (by kernel_rfl) ?_
  cases H
  refine K_ret ?_
  kernel_rfl
def T_ref01_Make (k : Nat) (p1 : Int) (p2 : Int) : Option (Int × Int × Int) := match k with
 | 0 => none
 | k + 1 => (if (decide (p1 < 0) || decide (p2 < 1)) = true then some (0, 0, 1) else (T_ref01_common k p1 p2).bind fun x2 => (if x2 ≠ 0 then (T_ref01_Valid k (w64 (p1.tdiv x2)) (w64 (p2.tdiv x2))).bind fun x4 => (if (!x4) = true then some (0, 0, 1) else some ((w64 (p1.tdiv x2)), (w64 (p2.tdiv x2)), 0)) else none))
abbrev C_T_ref01_Make (k : Nat) (p1 : Int) (p2 : Int) (r : Int × Int × Int) : Prop := evF X k n_ref01_Make [(I p1), (I p2)] [] = some ((.tup [(true, [cI r.1, cI r.2.1]), (false, [cI r.2.2])]), [])
theorem T_ref01_Make_ok (k : Nat) (p1 : Int) (p2 : Int) (r : Int × Int × Int) : T_ref01_Make k p1 p2 = some r → C_T_ref01_Make k p1 p2 r := by
 intro H
 cases k with
 | zero => simp [T_ref01_Make] at H
 | succ k =>
  simp only [T_ref01_Make] at H
  refine F_in X_ref01_Make rfl ?_
  refine K_seq (K_r [] [] (by kernel_rfl) trivial ?_)
  refine K_seq (K_seq (K_r [.m] [([.cells [cI 0, cI 0]] : Heap) = [.cells [cI 0, cI 0]]] (by kernel_rfl) (A1 rfl) ?_))
  rcases ite_some H with ⟨hx1, H⟩ | ⟨hx1, H⟩
  · refine K_t (by kernel_rfl) hx1 ?_
    refine K_seq (K_r [] [] (by kernel_rfl) trivial ?_)
    refine K_g (by kernel_rfl) ?_
    cases H
    refine K_ret ?_
    kernel_rfl
  · refine K_f (by kernel_rfl) (Bool.eq_false_iff.2 hx1) ?_
    refine K_g (by kernel_rfl) ?_
    refine K_skip ?_
    refine K_seq ?_
    obtain ⟨x2, hx2, H⟩ := bind_some' H
    refine K_r [.r (I x2) []] [C_T_ref01_common k p1 p2 x2] (by kernel_rfl) (A1 (T_ref01_common_ok k p1 p2 x2 hx2)) ?_
    refine K_seq ?_
    obtain ⟨hx3, H⟩ := guard_some H
    refine K_r [] [x2 ≠ (0 : Int), x2 ≠ (0 : Int)] (by kernel_rfl) (AC hx3 (A1 hx3)) ?_
    refine K_seq ?_
    refine K_seq ?_
    obtain ⟨x4, hx4, H⟩ := bind_some' H
    refine K_r [.r (B x4) []] [C_T_ref01_Valid k (w64 (p1.tdiv x2)) (w64 (p2.tdiv x2)) x4] (by kernel_rfl) (A1 (T_ref01_Valid_ok k (w64 (p1.tdiv x2)) (w64 (p2.tdiv x2)) x4 hx4)) ?_
    rcases ite_some H with ⟨hx5, H⟩ | ⟨hx5, H⟩
    · refine K_t (by kernel_rfl) hx5 ?_
      refine K_seq (K_r [] [] (by kernel_rfl) trivial ?_)
      refine K_g (by kernel_rfl) ?_
      cases H
      refine K_ret ?_
      kernel_rfl
    · refine K_f (by kernel_rfl) (Bool.eq_false_iff.2 hx5) ?_
      refine K_g (by kernel_rfl) ?_
      refine K_skip (K_seq (K_r [] [] (by kernel_rfl) trivial ?_))
      refine K_g (by kernel_rfl) ?_
      cases H
      refine K_ret ?_
      kernel_rfl
def T_ref13_Between (k : Nat) (p1 : Int) (p2 : Int) (p3 : Int) : Option (Int × Int) := match k with
 | 0 => none
 | k + 1 => (((if (decide (p2 = 0) && decide (p3 = 0)) = true then some (0, 1) else (if (((!decide (p2 = 0)) && (!decide (p3 = 0))) && decide (0 ≤ p1)) = true then ((T_ref01_Make k (w64 ((w64 (p2 * p3)) - (w64 (p1 * p1)))) (w64 (p2 * p3))).bind fun x3 => some (x3.1, x3.2.1)) else (if ((!decide (p2 = 0)) && (!decide (p3 = 0))) = true then ((T_ref01_Make k (w64 ((w64 (p2 * p3)) + (w64 (p1 * p1)))) (w64 (p2 * p3))).bind fun x5 => some (x5.1, x5.2.1)) else some (1, 1))))).bind fun x6 => some (x6.1, x6.2))
abbrev C_T_ref13_Between (k : Nat) (p1 : Int) (p2 : Int) (p3 : Int) (r : Int × Int) : Prop := evF X k n_ref13_Between [(I p1), (I p2), (I p3)] [] = some ((.agg [cI r.1, cI r.2]), [])
theorem T_ref13_Between_ok (k : Nat) (p1 : Int) (p2 : Int) (p3 : Int) (r : Int × Int) : T_ref13_Between k p1 p2 p3 = some r → C_T_ref13_Between k p1 p2 p3 r := by
 intro H
 cases k with
 | zero => simp [T_ref13_Between] at H
 | succ k =>
  simp only [T_ref13_Between] at H
  refine F_in X_ref13_Between rfl ?_
  refine K_seq (K_r [] [] (by kernel_rfl) trivial ?_)
  refine K_seq (K_r [] [] (by kernel_rfl) trivial ?_)
  refine K_seq (K_block (K_seq (K_r [.m] [([.cells [cI 0, cI 0], .cells [cI 1, cI 1]] : Heap) = [.cells [cI 0, cI 0], .cells [cI 1, cI 1]]] (by kernel_rfl) (A1 rfl) ?_)))
  obtain ⟨x6, hx6, H⟩ := bind_some' H
  refine K_of ⟨[(6, (Pt 0)), (7, (Pt 1))], [.cells [cI 0, cI 0], .cells [cI x6.1, cI x6.2]]⟩ ?_ ?_
  · clear H; have H := hx6; clear hx6; refine K_in ?_
    rcases ite_some H with ⟨hx1, H⟩ | ⟨hx1, H⟩
    · refine K_t (by kernel_rfl) hx1 ?_
      refine K_r [] [] (by kernel_rfl) trivial ?_
      cases H
      exact K_end (by kernel_rfl)
    · refine K_f (by kernel_rfl) (Bool.eq_false_iff.2 hx1) ?_
      refine K_seq (K_r [.m, .m] ((fun (z1 : Heap) => [z1 = z1, z1 = z1]) [.cells [cI 0, cI 0], .cells [cI 1, cI 1]]) (by kernel_rfl) (AC rfl (A1 rfl)) ?_)
      rcases ite_some H with ⟨hx2, H⟩ | ⟨hx2, H⟩
      · refine K_t (by kernel_rfl) hx2 ?_
        obtain ⟨x3, hx3, H⟩ := bind_some' H
        refine K_r [.r (.tup [(true, [cI x3.1, cI x3.2.1]), (false, [cI x3.2.2])]) []] [C_T_ref01_Make k (w64 ((w64 (p2 * p3)) - (w64 (p1 * p1)))) (w64 (p2 * p3)) x3] (by kernel_rfl) (A1 (T_ref01_Make_ok k (w64 ((w64 (p2 * p3)) - (w64 (p1 * p1)))) (w64 (p2 * p3)) x3 hx3)) ?_
        cases H
        exact K_end (by kernel_rfl)
      · refine K_f (by kernel_rfl) (Bool.eq_false_iff.2 hx2) ?_
        refine K_seq (K_r [.m] [([.cells [cI 0, cI 0], .cells [cI 1, cI 1]] : Heap) = [.cells [cI 0, cI 0], .cells [cI 1, cI 1]]] (by kernel_rfl) (A1 rfl) ?_)
        rcases ite_some H with ⟨hx4, H⟩ | ⟨hx4, H⟩
        · refine K_t (by kernel_rfl) hx4 ?_
          obtain ⟨x5, hx5, H⟩ := bind_some' H
          refine K_r [.r (.tup [(true, [cI x5.1, cI x5.2.1]), (false, [cI x5.2.2])]) []] [C_T_ref01_Make k (w64 ((w64 (p2 * p3)) + (w64 (p1 * p1)))) (w64 (p2 * p3)) x5] (by kernel_rfl) (A1 (T_ref01_Make_ok k (w64 ((w64 (p2 * p3)) + (w64 (p1 * p1)))) (w64 (p2 * p3)) x5 hx5)) ?_
          cases H
          exact K_end (by kernel_rfl)
        · refine K_f (by kernel_rfl) (Bool.eq_false_iff.2 hx4) ?_
          refine K_g (by kernel_rfl) ?_
          refine K_skip ?_
          cases H
          exact K_end (by kernel_rfl)
  refine K_blk (K_seq (K_r [] [] (by kernel_rfl) trivial ?_))
  refine K_g (by kernel_rfl) ?_
  cases H
  refine K_ret ?_
  kernel_rfl
def T_ref13_Gap (k : Nat) (p1 : List Int) (p2 : List Int) : Option (Int × Int × Int) := match k with
 | 0 => none
 | k + 1 => ((T_ref13_Product k p1 p2).bind fun x1 => (if (!decide (x1.2 = 0)) = true then some (0, 0, x1.2) else ((T_ref13_product k p1 p1).bind fun x3 => (T_ref13_product k p2 p2).bind fun x4 => (T_ref13_Between k x1.1 x3 x4).bind fun x5 => some (x5.1, x5.2, 0))))
abbrev C_T_ref13_Gap (k : Nat) (p1 : List Int) (p2 : List Int) (r : Int × Int × Int) : Prop := evF X k n_ref13_Gap [(LI p1), (LI p2)] [] = some ((.tup [(true, [cI r.1, cI r.2.1]), (false, [cI r.2.2])]), [])
theorem T_ref13_Gap_ok (k : Nat) (p1 : List Int) (p2 : List Int) (r : Int × Int × Int) : T_ref13_Gap k p1 p2 = some r → C_T_ref13_Gap k p1 p2 r := by
 intro H
 cases k with
 | zero => simp [T_ref13_Gap] at H
 | succ k =>
  simp only [T_ref13_Gap] at H
  refine F_in X_ref13_Gap rfl ?_
  refine K_seq (K_r [] [] (by kernel_rfl) trivial ?_)
  refine K_seq ?_
  obtain ⟨x1, hx1, H⟩ := bind_some' H
  refine K_r [.r (.tup [(false, [cI x1.1]), (false, [cI x1.2])]) []] [C_T_ref13_Product k p1 p2 x1] (by kernel_rfl) (A1 (T_ref13_Product_ok k p1 p2 x1 hx1)) ?_
  refine K_seq (K_seq (K_r [] [] (by kernel_rfl) trivial ?_))
  rcases ite_some H with ⟨hx2, H⟩ | ⟨hx2, H⟩
  · refine K_t (by kernel_rfl) hx2 ?_
    refine K_seq (K_r [] [] (by kernel_rfl) trivial ?_)
    refine K_g (by kernel_rfl) ?_
    cases H
    refine K_ret ?_
    kernel_rfl
  · refine K_f (by kernel_rfl) (Bool.eq_false_iff.2 hx2) ?_
    refine K_g (by kernel_rfl) ?_
    refine K_skip ?_
    refine K_seq ?_
    obtain ⟨x3, hx3, H⟩ := bind_some' H
    obtain ⟨x4, hx4, H⟩ := bind_some' H
    obtain ⟨x5, hx5, H⟩ := bind_some' H
    refine K_r [.r (I x3) [], .r (I x4) [], .r (.agg [cI x5.1, cI x5.2]) []] [C_T_ref13_product k p1 p1 x3, C_T_ref13_product k p2 p2 x4, C_T_ref13_Between k x1.1 x3 x4 x5] (by kernel_rfl) (AC (T_ref13_product_ok k p1 p1 x3 hx3) (AC (T_ref13_product_ok k p2 p2 x4 hx4) (A1 (T_ref13_Between_ok k x1.1 x3 x4 x5 hx5)))) ?_
    refine K_g (by kernel_rfl) ?_
    cases H
    refine K_ret ?_
    kernel_rfl
def T_ref01_order (k : Nat) (p1 : Int) (p2 : Int) (p3 : Int) (p4 : Int) : Option Int := match k with
 | 0 => none
 | k + 1 => (if p2 ≠ 0 then (if p4 ≠ 0 then (if (!decide ((w64 (p1.tdiv p2)) = (w64 (p3.tdiv p4)))) = true then (if (w64 (p1.tdiv p2)) < (w64 (p3.tdiv p4)) then some (-1) else some 1) else (if p2 ≠ 0 then (if p4 ≠ 0 then (if (decide ((p1.tmod p2) = 0) && decide ((p3.tmod p4) = 0)) = true then some 0 else (if (p1.tmod p2) = 0 then some (-1) else (if (p3.tmod p4) = 0 then some 1 else ((T_ref01_order k p4 (p3.tmod p4) p2 (p1.tmod p2)).bind fun x10 => some x10)))) else none) else none)) else none) else none)
abbrev C_T_ref01_order (k : Nat) (p1 : Int) (p2 : Int) (p3 : Int) (p4 : Int) (r : Int) : Prop := evF X k n_ref01_order [(I p1), (I p2), (I p3), (I p4)] [] = some ((I r), [])
theorem T_ref01_order_ok (k : Nat) (p1 : Int) (p2 : Int) (p3 : Int) (p4 : Int) (r : Int) : T_ref01_order k p1 p2 p3 p4 = some r → C_T_ref01_order k p1 p2 p3 p4 r := by
 intro H
 cases k with
 | zero => simp [T_ref01_order] at H
 | succ k =>
  simp only [T_ref01_order] at H
  refine F_in X_ref01_order rfl ?_
  refine K_seq (K_r [] [] (by kernel_rfl) trivial ?_)
  refine K_seq ?_
  obtain ⟨hx1, H⟩ := guard_some H
  obtain ⟨hx2, H⟩ := guard_some H
  refine K_r [] [p2 ≠ (0 : Int), p4 ≠ (0 : Int)] (by kernel_rfl) (AC hx1 (A1 hx2)) ?_
  refine K_seq (K_seq (K_r [] [] (by kernel_rfl) trivial ?_))
  rcases ite_some H with ⟨hx3, H⟩ | ⟨hx3, H⟩
  · refine K_t (by kernel_rfl) hx3 ?_
    refine K_seq (K_seq (K_r [] [] (by kernel_rfl) trivial ?_))
    rcases ite_some H with ⟨hx4, H⟩ | ⟨hx4, H⟩
    · refine K_t (by kernel_rfl) (decide_eq_true hx4) ?_
      refine K_seq (K_r [] [] (by kernel_rfl) trivial ?_)
      refine K_g (by kernel_rfl) ?_
      cases H
      refine K_ret ?_
      kernel_rfl
    · refine K_f (by kernel_rfl) (decide_eq_false hx4) ?_
      refine K_g (by kernel_rfl) ?_
      refine K_skip (K_seq (K_r [] [] (by kernel_rfl) trivial ?_))
      refine K_g (by kernel_rfl) ?_
      cases H
      refine K_ret ?_
      kernel_rfl
  · refine K_f (by kernel_rfl) (Bool.eq_false_iff.2 hx3) ?_
    refine K_g (by kernel_rfl) ?_
    refine K_skip ?_
    refine K_seq ?_
    obtain ⟨hx5, H⟩ := guard_some H
    obtain ⟨hx6, H⟩ := guard_some H
    refine K_r [] [p2 ≠ (0 : Int), p4 ≠ (0 : Int)] (by kernel_rfl) (AC hx5 (A1 hx6)) ?_
    refine K_seq (K_block (K_seq (K_r [.m] [([] : Heap) = []] (by kernel_rfl) (A1 rfl) ?_)))
    rcases ite_some H with ⟨hx7, H⟩ | ⟨hx7, H⟩
    · refine K_t (by kernel_rfl) hx7 ?_
      refine K_seq (K_r [] [] (by kernel_rfl) trivial ?_)
      refine K_g (by kernel_rfl) ?_
      cases H
      refine K_ret ?_
      kernel_rfl
    · refine K_f (by kernel_rfl) (Bool.eq_false_iff.2 hx7) ?_
      refine K_seq (K_r [] [] (by kernel_rfl) trivial ?_)
      rcases ite_some H with ⟨hx8, H⟩ | ⟨hx8, H⟩
      · refine K_t (by kernel_rfl) (decide_eq_true hx8) ?_
        refine K_seq (K_r [] [] (by kernel_rfl) trivial ?_)
        refine K_g (by kernel_rfl) ?_
        cases H
        refine K_ret ?_
        kernel_rfl
      · refine K_f (by kernel_rfl) (decide_eq_false hx8) ?_
        refine K_seq (K_r [] [] (by kernel_rfl) trivial ?_)
        rcases ite_some H with ⟨hx9, H⟩ | ⟨hx9, H⟩
        · refine K_t (by kernel_rfl) (decide_eq_true hx9) ?_
          refine K_seq (K_r [] [] (by kernel_rfl) trivial ?_)
          refine K_g (by kernel_rfl) ?_
          cases H
          refine K_ret ?_
          kernel_rfl
        · refine K_f (by kernel_rfl) (decide_eq_false hx9) ?_
          refine K_g (by kernel_rfl) ?_
          refine K_skip ?_
          refine K_blk ?_
          refine K_seq ?_
          obtain ⟨x10, hx10, H⟩ := bind_some' H
          refine K_r [.r (I x10) []] [C_T_ref01_order k p4 (p3.tmod p4) p2 (p1.tmod p2) x10] (by kernel_rfl) (A1 (T_ref01_order_ok k p4 (p3.tmod p4) p2 (p1.tmod p2) x10 hx10)) ?_
          refine K_g (by kernel_rfl) ?_
          cases H
          refine K_ret ?_
          kernel_rfl
def T_ref01_Cmp (k : Nat) (p1 : Int) (p2 : Int) (p3 : Int) (p4 : Int) : Option Int := match k with
 | 0 => none
 | k + 1 => ((((T_ref01_Valid k p1 p2).bind fun x1 => (if (!x1) = true then some true else ((T_ref01_Valid k p3 p4).bind fun x4 => some (!x4))))).bind fun x5 => (if x5 = true then some 0 else ((T_ref01_order k p1 p2 p3 p4).bind fun x7 => some x7)))
abbrev C_T_ref01_Cmp (k : Nat) (p1 : Int) (p2 : Int) (p3 : Int) (p4 : Int) (r : Int) : Prop := evF X k n_ref01_Cmp [(.agg [cI p1, cI p2]), (.agg [cI p3, cI p4])] [] = some ((I r), [])
theorem T_ref01_Cmp_ok (k : Nat) (p1 : Int) (p2 : Int) (p3 : Int) (p4 : Int) (r : Int) : T_ref01_Cmp k p1 p2 p3 p4 = some r → C_T_ref01_Cmp k p1 p2 p3 p4 r := by
 intro H
 cases k with
 | zero => simp [T_ref01_Cmp] at H
 | succ k =>
  simp only [T_ref01_Cmp] at H
  refine F_in X_ref01_Cmp rfl ?_
  refine K_seq (K_r [] [] (by kernel_rfl) trivial ?_)
  refine K_seq ?_
  refine K_seq ?_
  obtain ⟨x5, hx5, H⟩ := bind_some' H
  refine K_of ⟨[(2, (Pt 0)), (3, (Pt 1)), (12, (B x5))], [.cells [cI p1, cI p2], .cells [cI p3, cI p4]]⟩ ?_ ?_
  · clear H; have H := hx5; clear hx5; refine K_in ?_
    obtain ⟨x1, hx1, H⟩ := bind_some' H
    rcases ite_some H with ⟨hx3, H⟩ | ⟨hx3, H⟩
    · refine K_r [.r (B x1) [], .b true] [C_T_ref01_Valid k p1 p2 x1, (!x1) = true] (by kernel_rfl) (AC (T_ref01_Valid_ok k p1 p2 x1 hx1) (A1 hx3)) ?_
      cases H
      exact K_end (by kernel_rfl)
    · obtain ⟨x4, hx4, H⟩ := bind_some' H
      refine K_r [.r (B x1) [], .b false, .r (B x4) []] [C_T_ref01_Valid k p1 p2 x1, (!x1) = false, C_T_ref01_Valid k p3 p4 x4] (by kernel_rfl) (AC (T_ref01_Valid_ok k p1 p2 x1 hx1) (AC (Bool.eq_false_iff.2 hx3) (A1 (T_ref01_Valid_ok k p3 p4 x4 hx4)))) ?_
      cases H
      exact K_end (by kernel_rfl)
  rcases ite_some H with ⟨hx6, H⟩ | ⟨hx6, H⟩
  · refine K_t (by kernel_rfl) hx6 ?_
    refine K_seq (K_r [] [] (by kernel_rfl) trivial ?_)
    refine K_g (by kernel_rfl) ?_
    cases H
    refine K_ret ?_
    kernel_rfl
  · refine K_f (by kernel_rfl) (Bool.eq_false_iff.2 hx6) ?_
    refine K_g (by kernel_rfl) ?_
    refine K_skip ?_
    refine K_seq ?_
    obtain ⟨x7, hx7, H⟩ := bind_some' H
    refine K_r [.r (I x7) []] [C_T_ref01_order k p1 p2 p3 p4 x7] (by kernel_rfl) (A1 (T_ref01_order_ok k p1 p2 p3 p4 x7 hx7)) ?_
    refine K_g (by kernel_rfl) ?_
    cases H
    refine K_ret ?_
    kernel_rfl
def T_sketch_check (k : Nat) (p1 : Int) (p2 : List Int) (p3 : Int) (p4 : Int) (p5 : List Int) (p6 : Int) : Option Int := match k with
 | 0 => none
 | k + 1 => ((((T_sketch_valid k p1 p2 p3).bind fun x1 => (if (!x1) = true then some true else ((T_sketch_valid k p4 p5 p6).bind fun x4 => some (!x4))))).bind fun x5 => (if x5 = true then some 3 else (if ((!decide (p1 = p4)) || (!decide ((p2.length : Int) = (p5.length : Int)))) = true then some 8 else some 0)))
abbrev C_T_sketch_check (k : Nat) (p1 : Int) (p2 : List Int) (p3 : Int) (p4 : Int) (p5 : List Int) (p6 : Int) (r : Int) : Prop := evF X k n_sketch_check [(.agg [cI p1, cL p2, cI p3]), (.agg [cI p4, cL p5, cI p6])] [] = some ((I r), [])
theorem T_sketch_check_ok (k : Nat) (p1 : Int) (p2 : List Int) (p3 : Int) (p4 : Int) (p5 : List Int) (p6 : Int) (r : Int) : T_sketch_check k p1 p2 p3 p4 p5 p6 = some r → C_T_sketch_check k p1 p2 p3 p4 p5 p6 r := by
 intro H
 cases k with
 | zero => simp [T_sketch_check] at H
 | succ k =>
  simp only [T_sketch_check] at H
  refine F_in X_sketch_check rfl ?_
  refine K_seq (K_r [] [] (by kernel_rfl) trivial ?_)
  refine K_seq ?_
  refine K_seq ?_
  obtain ⟨x5, hx5, H⟩ := bind_some' H
  refine K_of ⟨[(2, (Pt 0)), (3, (Pt 1)), (12, (B x5))], [.cells [cI p1, cL p2, cI p3], .cells [cI p4, cL p5, cI p6]]⟩ ?_ ?_
  · clear H; have H := hx5; clear hx5; refine K_in ?_
    obtain ⟨x1, hx1, H⟩ := bind_some' H
    rcases ite_some H with ⟨hx3, H⟩ | ⟨hx3, H⟩
    · refine K_r [.r (B x1) [], .b true] [C_T_sketch_valid k p1 p2 p3 x1, (!x1) = true] (by kernel_rfl) (AC (T_sketch_valid_ok k p1 p2 p3 x1 hx1) (A1 hx3)) ?_
      cases H
      exact K_end (by kernel_rfl)
    · obtain ⟨x4, hx4, H⟩ := bind_some' H
      refine K_r [.r (B x1) [], .b false, .r (B x4) []] [C_T_sketch_valid k p1 p2 p3 x1, (!x1) = false, C_T_sketch_valid k p4 p5 p6 x4] (by kernel_rfl) (AC (T_sketch_valid_ok k p1 p2 p3 x1 hx1) (AC (Bool.eq_false_iff.2 hx3) (A1 (T_sketch_valid_ok k p4 p5 p6 x4 hx4)))) ?_
      cases H
      exact K_end (by kernel_rfl)
  rcases ite_some H with ⟨hx6, H⟩ | ⟨hx6, H⟩
  · refine K_t (by kernel_rfl) hx6 ?_
    refine K_seq (K_r [] [] (by kernel_rfl) trivial ?_)
    refine K_g (by kernel_rfl) ?_
    cases H
    refine K_ret ?_
    kernel_rfl
  · refine K_f (by kernel_rfl) (Bool.eq_false_iff.2 hx6) ?_
    refine K_g (by kernel_rfl) ?_
    refine K_skip (K_seq (K_seq (K_r [.m, .n p2.length, .n p5.length] ((fun (z1 : Heap) => [(!decide (p1 = p4)) = false → AllT [((p2.map (D.int .i64))).length = p2.length, ((p5.map (D.int .i64))).length = p5.length], z1 = z1]) [.cells [cI p1, cL p2, cI p3], .cells [cI p4, cL p5, cI p6]]) (by kernel_rfl) (AC (fun _ => (AC (List.length_map _) (A1 (List.length_map _)))) (A1 rfl)) ?_)))
    rcases ite_some H with ⟨hx7, H⟩ | ⟨hx7, H⟩
    · refine K_t (by kernel_rfl) hx7 ?_
      refine K_seq (K_r [] [] (by kernel_rfl) trivial ?_)
      refine K_g (by kernel_rfl) ?_
      cases H
      refine K_ret ?_
      kernel_rfl
    · refine K_f (by kernel_rfl) (Bool.eq_false_iff.2 hx7) ?_
      refine K_g (by kernel_rfl) ?_
      refine K_skip (K_seq (K_r [] [] (by kernel_rfl) trivial ?_))
      refine K_g (by kernel_rfl) ?_
      cases H
      refine K_ret ?_
      kernel_rfl
def T_sketch_floor (k : Nat) (p1 : Int) (p2 : Int) : Option Int := match k with
 | 0 => none
 | k + 1 => (if p2 ≠ 0 then (if p2 ≠ 0 then ((if (p1.tmod p2) < 0 then some (w64 ((w64 (p1.tdiv p2)) - 1)) else some (w64 (p1.tdiv p2)))).bind fun x4 => some x4 else none) else none)
abbrev C_T_sketch_floor (k : Nat) (p1 : Int) (p2 : Int) (r : Int) : Prop := evF X k n_sketch_floor [(I p1), (I p2)] [] = some ((I r), [])
theorem T_sketch_floor_ok (k : Nat) (p1 : Int) (p2 : Int) (r : Int) : T_sketch_floor k p1 p2 = some r → C_T_sketch_floor k p1 p2 r := by
 intro H
 cases k with
 | zero => simp [T_sketch_floor] at H
 | succ k =>
  simp only [T_sketch_floor] at H
  refine F_in X_sketch_floor rfl ?_
  refine K_seq (K_r [] [] (by kernel_rfl) trivial ?_)
  refine K_seq ?_
  obtain ⟨hx1, H⟩ := guard_some H
  refine K_r [] [p2 ≠ (0 : Int)] (by kernel_rfl) (A1 hx1) ?_
  refine K_seq ?_
  refine K_seq ?_
  obtain ⟨hx2, H⟩ := guard_some H
  refine K_r [] [p2 ≠ (0 : Int)] (by kernel_rfl) (A1 hx2) ?_
  obtain ⟨x4, hx4, H⟩ := bind_some' H
  refine K_of ⟨[(5, (I x4))], []⟩ ?_ ?_
  · clear H; have H := hx4; clear hx4; refine K_in ?_
    rcases ite_some H with ⟨hx3, H⟩ | ⟨hx3, H⟩
    · refine K_t (by kernel_rfl) (decide_eq_true hx3) ?_
      refine K_r [] [] (by kernel_rfl) trivial ?_
      cases H
      exact K_end (by kernel_rfl)
    · refine K_f (by kernel_rfl) (decide_eq_false hx3) ?_
      refine K_g (by kernel_rfl) ?_
      refine K_skip ?_
      cases H
      exact K_end (by kernel_rfl)
  refine K_seq (K_r [] [] (by kernel_rfl) trivial ?_)
  refine K_g (by kernel_rfl) ?_
  cases H
  refine K_ret ?_
  kernel_rfl
def T_root_Ceil (k : Nat) (p1 : Int) : Option Int := match k with
 | 0 => none
 | k + 1 => ((T_root_Floor k p1).bind fun x1 => ((if ((decide (0 < p1) && decide (p1 ≤ 4611686018427387904)) && decide ((w64 (x1 * x1)) < p1)) = true then some (w64 (x1 + 1)) else some x1)).bind fun x3 => some x3)
abbrev C_T_root_Ceil (k : Nat) (p1 : Int) (r : Int) : Prop := evF X k n_root_Ceil [(I p1)] [] = some ((I r), [])
theorem T_root_Ceil_ok (k : Nat) (p1 : Int) (r : Int) : T_root_Ceil k p1 = some r → C_T_root_Ceil k p1 r := by
 intro H
 cases k with
 | zero => simp [T_root_Ceil] at H
 | succ k =>
  simp only [T_root_Ceil] at H
  refine F_in X_root_Ceil rfl ?_
  refine K_seq (K_r [] [] (by kernel_rfl) trivial ?_)
  refine K_seq ?_
  obtain ⟨x1, hx1, H⟩ := bind_some' H
  refine K_r [.r (I x1) []] [C_T_root_Floor k p1 x1] (by kernel_rfl) (A1 (T_root_Floor_ok k p1 x1 hx1)) ?_
  refine K_seq (K_seq (K_r [.m, .m] [([] : Heap) = [], ([] : Heap) = []] (by kernel_rfl) (AC rfl (A1 rfl)) ?_))
  obtain ⟨x3, hx3, H⟩ := bind_some' H
  refine K_of ⟨[(3, (I x3))], []⟩ ?_ ?_
  · clear H; have H := hx3; clear hx3; refine K_in ?_
    rcases ite_some H with ⟨hx2, H⟩ | ⟨hx2, H⟩
    · refine K_t (by kernel_rfl) hx2 ?_
      refine K_r [] [] (by kernel_rfl) trivial ?_
      cases H
      exact K_end (by kernel_rfl)
    · refine K_f (by kernel_rfl) (Bool.eq_false_iff.2 hx2) ?_
      refine K_g (by kernel_rfl) ?_
      refine K_skip ?_
      cases H
      exact K_end (by kernel_rfl)
  refine K_seq (K_r [] [] (by kernel_rfl) trivial ?_)
  refine K_g (by kernel_rfl) ?_
  cases H
  refine K_ret ?_
  kernel_rfl
def T_sketch_upper_l1 (k : Nat) (x1 : (List Int)) (p1 : Int) (p2 : List Int) (p3 : Int) (x4 : Int) (p4 : Int) (p5 : List Int) (p6 : Int) (x17 : Int × Int) : Option ((Int × Int) ⊕ Int) :=
 (if x17.2 < x4 then ((at? x1 x17.2).bind fun x19 => (at? p2 x17.2).bind fun x20 => (at? p5 x17.2).bind fun x21 => (T_sketch_floor k (w64 ((w64 (0 - x20)) * x21)) x19).bind fun x22 => some (.inl ((w64 (x17.1 - x22)), (w64 (x17.2 + 1))))) else some (.inr x17.1))
theorem T_sketch_upper_l1_ok (k : Nat) (x1 : (List Int)) (p1 : Int) (p2 : List Int) (p3 : Int) (x4 : Int) (p4 : Int) (p5 : List Int) (p6 : Int) : ∀ (x17 : Int × Int) (x : (Int × Int) ⊕ Int), T_sketch_upper_l1 k x1 p1 p2 p3 x4 p4 p5 p6 x17 = some x → evC X (evF X k) k 0 l_sketch_upper_1 ⟨[(2, (Pt 0)), (3, (Pt 1)), (5, (I x17.1)), (10, (LI x1)), (11, (I x4)), (12, (I x17.2))], [.cells [cI p1, cL p2, cI p3], .cells [cI p4, cL p5, cI p6]]⟩ = some (outS (fun (s : Int × Int) => ⟨[(2, (Pt 0)), (3, (Pt 1)), (5, (I s.1)), (10, (LI x1)), (11, (I x4)), (12, (I s.2))], [.cells [cI p1, cL p2, cI p3], .cells [cI p4, cL p5, cI p6]]⟩) (fun (r : Int) => (.exit 0, ⟨[(2, (Pt 0)), (3, (Pt 1)), (5, (I r))], [.cells [cI p1, cL p2, cI p3], .cells [cI p4, cL p5, cI p6]]⟩)) x) := by
 intro x17 x H
 unfold T_sketch_upper_l1 at H
 refine K_in ?_
 refine K_seq (K_r [] [] (by kernel_rfl) trivial ?_)
 refine K_seq ?_
 rcases ite_some H with ⟨hx18, H⟩ | ⟨hx18, H⟩
 · refine K_t (by kernel_rfl) (decide_eq_true hx18) ?_
   refine K_g (by kernel_rfl) ?_
   refine K_skip ?_
   refine K_seq ?_
   refine K_block ?_
   refine K_seq ?_
   obtain ⟨x19, hx19, H⟩ := bind_some' H
   refine K_r [.l [.int .i64 x19]] [(0 : Int) ≤ x17.2 ∧ x17.2 < (((x1.map (D.int .i64))).length : Int), ((x1.map (D.int .i64)).getD x17.2.toNat (.int .i64 0)).cells = [.int .i64 x19]] (by kernel_rfl) (AC (at_ok hx19 (D.int .i64) (.int .i64 0)).1 (A1 (at_ok hx19 (D.int .i64) (.int .i64 0)).2)) ?_
   obtain ⟨x20, hx20, H⟩ := bind_some' H
   obtain ⟨x21, hx21, H⟩ := bind_some' H
   obtain ⟨x22, hx22, H⟩ := bind_some' H
   refine K_r [.l [.int .i64 x20], .l [.int .i64 x21], .r (I x22) []] [(0 : Int) ≤ x17.2 ∧ x17.2 < (((p2.map (D.int .i64))).length : Int), ((p2.map (D.int .i64)).getD x17.2.toNat (.int .i64 0)).cells = [.int .i64 x20], (0 : Int) ≤ x17.2 ∧ x17.2 < (((p5.map (D.int .i64))).length : Int), ((p5.map (D.int .i64)).getD x17.2.toNat (.int .i64 0)).cells = [.int .i64 x21], C_T_sketch_floor k (w64 ((w64 (0 - x20)) * x21)) x19 x22] (by kernel_rfl) (AC (at_ok hx20 (D.int .i64) (.int .i64 0)).1 (AC (at_ok hx20 (D.int .i64) (.int .i64 0)).2 (AC (at_ok hx21 (D.int .i64) (.int .i64 0)).1 (AC (at_ok hx21 (D.int .i64) (.int .i64 0)).2 (A1 (T_sketch_floor_ok k (w64 ((w64 (0 - x20)) * x21)) x19 x22 hx22)))))) ?_
   refine K_blk (K_r [] [] (by kernel_rfl) trivial ?_)
   cases H
   exact K_end (by kernel_rfl)
 · refine K_f (by kernel_rfl) (decide_eq_false hx18) ?_
   refine K_g (by kernel_rfl) ?_
   cases H
   exact K_exit0 rfl (by kernel_rfl)
def T_sketch_upper (k : Nat) (p1 : Int) (p2 : List Int) (p3 : Int) (p4 : Int) (p5 : List Int) (p6 : Int) : Option Int := match k with
 | 0 => none
 | k + 1 => ((T_sketch_lengths k p1 p2 p3).bind fun x1 => (loopT (T_sketch_upper_l1 k x1 p1 p2 p3 (x1.length : Int) p4 p5 p6) k (0, 0)).bind fun x23 => (T_sketch_known k p1 p2 p3).bind fun x24 => (T_root_Ceil k (w64 (p3 - x24))).bind fun x25 => (T_sketch_known k p4 p5 p6).bind fun x26 => (T_root_Ceil k (w64 (p6 - x26))).bind fun x27 => (T_sketch_floor k (w64 (x23 + (w64 (x25 * x27)))) p1).bind fun x28 => some x28)
abbrev C_T_sketch_upper (k : Nat) (p1 : Int) (p2 : List Int) (p3 : Int) (p4 : Int) (p5 : List Int) (p6 : Int) (r : Int) : Prop := evF X k n_sketch_upper [(.agg [cI p1, cL p2, cI p3]), (.agg [cI p4, cL p5, cI p6])] [] = some ((I r), [])
theorem T_sketch_upper_ok (k : Nat) (p1 : Int) (p2 : List Int) (p3 : Int) (p4 : Int) (p5 : List Int) (p6 : Int) (r : Int) : T_sketch_upper k p1 p2 p3 p4 p5 p6 = some r → C_T_sketch_upper k p1 p2 p3 p4 p5 p6 r := by
 intro H
 cases k with
 | zero => simp [T_sketch_upper] at H
 | succ k =>
  simp only [T_sketch_upper] at H
  refine F_in X_sketch_upper rfl ?_
  refine K_seq (K_r [] [] (by kernel_rfl) trivial ?_)
  refine K_seq (K_r [] [] (by kernel_rfl) trivial ?_)
  refine K_seq ?_
  refine K_seq ?_
  obtain ⟨x1, hx1, H⟩ := bind_some' H
  refine K_r [.r (LI x1) [], .n x1.length] [C_T_sketch_lengths k p1 p2 p3 x1, ((x1.map (D.int .i64))).length = x1.length] (by kernel_rfl) (AC (T_sketch_lengths_ok k p1 p2 p3 x1 hx1) (A1 (List.length_map _))) ?_
  refine K_block (K_conv (σ' := ⟨[(2, (Pt 0)), (3, (Pt 1)), (5, (I 0)), (10, (LI x1)), (11, (I (x1.length : Int))), (12, (I 0))], [.cells [cI p1, cL p2, cI p3], .cells [cI p4, cL p5, cI p6]]⟩) (by kernel_rfl) ?_)
  obtain ⟨x23, hx23, H⟩ := bind_some' H
  refine K_loop ⟨[(2, (Pt 0)), (3, (Pt 1)), (5, (I x23))], [.cells [cI p1, cL p2, cI p3], .cells [cI p4, cL p5, cI p6]]⟩ (loop_ok (fun (s : Int × Int) => ⟨[(2, (Pt 0)), (3, (Pt 1)), (5, (I s.1)), (10, (LI x1)), (11, (I (x1.length : Int))), (12, (I s.2))], [.cells [cI p1, cL p2, cI p3], .cells [cI p4, cL p5, cI p6]]⟩) (fun (r : Int) => (.exit 0, ⟨[(2, (Pt 0)), (3, (Pt 1)), (5, (I r))], [.cells [cI p1, cL p2, cI p3], .cells [cI p4, cL p5, cI p6]]⟩)) (fun r h => by cases h) (T_sketch_upper_l1_ok k x1 p1 p2 p3 (x1.length : Int) p4 p5 p6) k (0, 0) x23 hx23) rfl ?_
  refine K_seq ?_
  obtain ⟨x24, hx24, H⟩ := bind_some' H
  obtain ⟨x25, hx25, H⟩ := bind_some' H
  obtain ⟨x26, hx26, H⟩ := bind_some' H
  obtain ⟨x27, hx27, H⟩ := bind_some' H
  refine K_r [.r (I x24) [], .r (I x25) [], .r (I x26) [], .r (I x27) []] [C_T_sketch_known k p1 p2 p3 x24, C_T_root_Ceil k (w64 (p3 - x24)) x25, C_T_sketch_known k p4 p5 p6 x26, C_T_root_Ceil k (w64 (p6 - x26)) x27] (by kernel_rfl) (AC (T_sketch_known_ok k p1 p2 p3 x24 hx24) (AC (T_root_Ceil_ok k (w64 (p3 - x24)) x25 hx25) (AC (T_sketch_known_ok k p4 p5 p6 x26 hx26) (A1 (T_root_Ceil_ok k (w64 (p6 - x26)) x27 hx27))))) ?_
  refine K_seq ?_
  obtain ⟨x28, hx28, H⟩ := bind_some' H
  refine K_r [.r (I x28) []] [C_T_sketch_floor k (w64 (x23 + (w64 (x25 * x27)))) p1 x28] (by kernel_rfl) (A1 (T_sketch_floor_ok k (w64 (x23 + (w64 (x25 * x27)))) p1 x28 hx28)) ?_
  refine K_g (by kernel_rfl) ?_
  cases H
  refine K_ret ?_
  kernel_rfl
def T_sketch_Upper (k : Nat) (p1 : Int) (p2 : List Int) (p3 : Int) (p4 : Int) (p5 : List Int) (p6 : Int) : Option (Int × Int) := match k with
 | 0 => none
 | k + 1 => ((T_sketch_check k p1 p2 p3 p4 p5 p6).bind fun x1 => (if (!decide (x1 = 0)) = true then some (0, x1) else ((T_sketch_upper k p1 p2 p3 p4 p5 p6).bind fun x3 => some (x3, 0))))
abbrev C_T_sketch_Upper (k : Nat) (p1 : Int) (p2 : List Int) (p3 : Int) (p4 : Int) (p5 : List Int) (p6 : Int) (r : Int × Int) : Prop := evF X k n_sketch_Upper [(.agg [cI p1, cL p2, cI p3]), (.agg [cI p4, cL p5, cI p6])] [] = some ((.tup [(false, [cI r.1]), (false, [cI r.2])]), [])
theorem T_sketch_Upper_ok (k : Nat) (p1 : Int) (p2 : List Int) (p3 : Int) (p4 : Int) (p5 : List Int) (p6 : Int) (r : Int × Int) : T_sketch_Upper k p1 p2 p3 p4 p5 p6 = some r → C_T_sketch_Upper k p1 p2 p3 p4 p5 p6 r := by
 intro H
 cases k with
 | zero => simp [T_sketch_Upper] at H
 | succ k =>
  simp only [T_sketch_Upper] at H
  refine F_in X_sketch_Upper rfl ?_
  refine K_seq (K_r [] [] (by kernel_rfl) trivial ?_)
  refine K_seq ?_
  refine K_seq ?_
  obtain ⟨x1, hx1, H⟩ := bind_some' H
  refine K_r [.r (I x1) []] [C_T_sketch_check k p1 p2 p3 p4 p5 p6 x1] (by kernel_rfl) (A1 (T_sketch_check_ok k p1 p2 p3 p4 p5 p6 x1 hx1)) ?_
  refine K_seq (K_r [] [] (by kernel_rfl) trivial ?_)
  rcases ite_some H with ⟨hx2, H⟩ | ⟨hx2, H⟩
  · refine K_t (by kernel_rfl) hx2 ?_
    refine K_seq (K_r [] [] (by kernel_rfl) trivial ?_)
    refine K_g (by kernel_rfl) ?_
    cases H
    refine K_ret ?_
    kernel_rfl
  · refine K_f (by kernel_rfl) (Bool.eq_false_iff.2 hx2) ?_
    refine K_g (by kernel_rfl) ?_
    refine K_skip ?_
    refine K_seq ?_
    obtain ⟨x3, hx3, H⟩ := bind_some' H
    refine K_r [.r (I x3) []] [C_T_sketch_upper k p1 p2 p3 p4 p5 p6 x3] (by kernel_rfl) (A1 (T_sketch_upper_ok k p1 p2 p3 p4 p5 p6 x3 hx3)) ?_
    refine K_g (by kernel_rfl) ?_
    cases H
    refine K_ret ?_
    kernel_rfl
def T_sketch_Gap (k : Nat) (p1 : Int) (p2 : List Int) (p3 : Int) (p4 : Int) (p5 : List Int) (p6 : Int) : Option (Int × Int × Int) := match k with
 | 0 => none
 | k + 1 => ((T_sketch_check k p1 p2 p3 p4 p5 p6).bind fun x1 => (if (!decide (x1 = 0)) = true then some (0, 0, x1) else (if p1 ≠ 0 then (if p4 ≠ 0 then (T_sketch_upper k p1 p2 p3 p4 p5 p6).bind fun x5 => (if (decide (p3 = 0) && decide (p6 = 0)) = true then ((T_ratio_Make k 0 1).bind fun x7 => some (x7.1, x7.2.1, x7.2.2)) else (if (w64 ((w64 (p3.tdiv p1)) * (w64 (p6.tdiv p4)))) = 0 then ((T_ratio_Make k 1 1).bind fun x9 => some (x9.1, x9.2.1, x9.2.2)) else (if x5 < 0 then ((T_ratio_Make k (w64 ((w64 ((w64 (p3.tdiv p1)) * (w64 (p6.tdiv p4)))) + (imin (w64 ((w64 (p3.tdiv p1)) * (w64 (p6.tdiv p4)))) (w64 (x5 * x5))))) (w64 ((w64 (p3.tdiv p1)) * (w64 (p6.tdiv p4))))).bind fun x11 => some (x11.1, x11.2.1, x11.2.2)) else ((T_ratio_Make k (w64 ((w64 ((w64 (p3.tdiv p1)) * (w64 (p6.tdiv p4)))) - (imin (w64 ((w64 (p3.tdiv p1)) * (w64 (p6.tdiv p4)))) (w64 (x5 * x5))))) (w64 ((w64 (p3.tdiv p1)) * (w64 (p6.tdiv p4))))).bind fun x12 => some (x12.1, x12.2.1, x12.2.2))))) else none) else none)))
abbrev C_T_sketch_Gap (k : Nat) (p1 : Int) (p2 : List Int) (p3 : Int) (p4 : Int) (p5 : List Int) (p6 : Int) (r : Int × Int × Int) : Prop := evF X k n_sketch_Gap [(.agg [cI p1, cL p2, cI p3]), (.agg [cI p4, cL p5, cI p6])] [] = some ((.tup [(true, [cI r.1, cI r.2.1]), (false, [cI r.2.2])]), [])
theorem T_sketch_Gap_ok (k : Nat) (p1 : Int) (p2 : List Int) (p3 : Int) (p4 : Int) (p5 : List Int) (p6 : Int) (r : Int × Int × Int) : T_sketch_Gap k p1 p2 p3 p4 p5 p6 = some r → C_T_sketch_Gap k p1 p2 p3 p4 p5 p6 r := by
 intro H
 cases k with
 | zero => simp [T_sketch_Gap] at H
 | succ k =>
  simp only [T_sketch_Gap] at H
  refine F_in X_sketch_Gap rfl ?_
  refine K_seq (K_r [] [] (by kernel_rfl) trivial ?_)
  refine K_seq ?_
  refine K_seq ?_
  obtain ⟨x1, hx1, H⟩ := bind_some' H
  refine K_r [.r (I x1) []] [C_T_sketch_check k p1 p2 p3 p4 p5 p6 x1] (by kernel_rfl) (A1 (T_sketch_check_ok k p1 p2 p3 p4 p5 p6 x1 hx1)) ?_
  refine K_seq (K_r [] [] (by kernel_rfl) trivial ?_)
  rcases ite_some H with ⟨hx2, H⟩ | ⟨hx2, H⟩
  · refine K_t (by kernel_rfl) hx2 ?_
    refine K_seq (K_r [] [] (by kernel_rfl) trivial ?_)
    refine K_g (by kernel_rfl) ?_
    cases H
    refine K_ret ?_
    kernel_rfl
  · refine K_f (by kernel_rfl) (Bool.eq_false_iff.2 hx2) ?_
    refine K_g (by kernel_rfl) ?_
    refine K_skip ?_
    refine K_seq ?_
    obtain ⟨hx3, H⟩ := guard_some H
    obtain ⟨hx4, H⟩ := guard_some H
    refine K_r [] [p1 ≠ (0 : Int), p4 ≠ (0 : Int)] (by kernel_rfl) (AC hx3 (A1 hx4)) ?_
    refine K_seq ?_
    obtain ⟨x5, hx5, H⟩ := bind_some' H
    refine K_r [.r (I x5) []] [C_T_sketch_upper k p1 p2 p3 p4 p5 p6 x5] (by kernel_rfl) (A1 (T_sketch_upper_ok k p1 p2 p3 p4 p5 p6 x5 hx5)) ?_
    refine K_seq (K_block (K_seq (K_r [.m] ((fun (z1 : Heap) => [z1 = z1]) [.cells [cI p1, cL p2, cI p3], .cells [cI p4, cL p5, cI p6], .cells [cI 0, cI 0]]) (by kernel_rfl) (A1 rfl) ?_)))
    rcases ite_some H with ⟨hx6, H⟩ | ⟨hx6, H⟩
    · refine K_t (by kernel_rfl) hx6 ?_
      refine K_seq ?_
      obtain ⟨x7, hx7, H⟩ := bind_some' H
      refine K_r [.r (.tup [(true, [cI x7.1, cI x7.2.1]), (false, [cI x7.2.2])]) []] [C_T_ratio_Make k 0 1 x7] (by kernel_rfl) (A1 (T_ratio_Make_ok k 0 1 x7 hx7)) ?_
      refine K_g (by kernel_rfl) ?_
      cases H
      refine K_ret ?_
      kernel_rfl
    · refine K_f (by kernel_rfl) (Bool.eq_false_iff.2 hx6) ?_
      refine K_seq (K_r [] [] (by kernel_rfl) trivial ?_)
      rcases ite_some H with ⟨hx8, H⟩ | ⟨hx8, H⟩
      · refine K_t (by kernel_rfl) (decide_eq_true hx8) ?_
        refine K_seq ?_
        obtain ⟨x9, hx9, H⟩ := bind_some' H
        refine K_r [.r (.tup [(true, [cI x9.1, cI x9.2.1]), (false, [cI x9.2.2])]) []] [C_T_ratio_Make k 1 1 x9] (by kernel_rfl) (A1 (T_ratio_Make_ok k 1 1 x9 hx9)) ?_
        refine K_g (by kernel_rfl) ?_
        cases H
        refine K_ret ?_
        kernel_rfl
      · refine K_f (by kernel_rfl) (decide_eq_false hx8) ?_
        refine K_seq (K_r [] [] (by kernel_rfl) trivial ?_)
        rcases ite_some H with ⟨hx10, H⟩ | ⟨hx10, H⟩
        · refine K_t (by kernel_rfl) (decide_eq_true hx10) ?_
          refine K_seq ?_
          obtain ⟨x11, hx11, H⟩ := bind_some' H
          refine K_r [.r (.tup [(true, [cI x11.1, cI x11.2.1]), (false, [cI x11.2.2])]) []] [C_T_ratio_Make k (w64 ((w64 ((w64 (p3.tdiv p1)) * (w64 (p6.tdiv p4)))) + (imin (w64 ((w64 (p3.tdiv p1)) * (w64 (p6.tdiv p4)))) (w64 (x5 * x5))))) (w64 ((w64 (p3.tdiv p1)) * (w64 (p6.tdiv p4)))) x11] (by kernel_rfl) (A1 (T_ratio_Make_ok k (w64 ((w64 ((w64 (p3.tdiv p1)) * (w64 (p6.tdiv p4)))) + (imin (w64 ((w64 (p3.tdiv p1)) * (w64 (p6.tdiv p4)))) (w64 (x5 * x5))))) (w64 ((w64 (p3.tdiv p1)) * (w64 (p6.tdiv p4)))) x11 hx11)) ?_
          refine K_g (by kernel_rfl) ?_
          cases H
          refine K_ret ?_
          kernel_rfl
        · refine K_f (by kernel_rfl) (decide_eq_false hx10) ?_
          refine K_g (by kernel_rfl) ?_
          refine K_skip ?_
          refine K_blk ?_
          refine K_seq ?_
          obtain ⟨x12, hx12, H⟩ := bind_some' H
          refine K_r [.r (.tup [(true, [cI x12.1, cI x12.2.1]), (false, [cI x12.2.2])]) []] [C_T_ratio_Make k (w64 ((w64 ((w64 (p3.tdiv p1)) * (w64 (p6.tdiv p4)))) - (imin (w64 ((w64 (p3.tdiv p1)) * (w64 (p6.tdiv p4)))) (w64 (x5 * x5))))) (w64 ((w64 (p3.tdiv p1)) * (w64 (p6.tdiv p4)))) x12] (by kernel_rfl) (A1 (T_ratio_Make_ok k (w64 ((w64 ((w64 (p3.tdiv p1)) * (w64 (p6.tdiv p4)))) - (imin (w64 ((w64 (p3.tdiv p1)) * (w64 (p6.tdiv p4)))) (w64 (x5 * x5))))) (w64 ((w64 (p3.tdiv p1)) * (w64 (p6.tdiv p4)))) x12 hx12)) ?_
          refine K_g (by kernel_rfl) ?_
          cases H
          refine K_ret ?_
          kernel_rfl
def T_keep_Ints_l1 (k : Nat) (p1 : List Int) (p2 : List Int) (x4 : Int) (x10 : Int) : Option (Int ⊕ (Unit ⊕ Unit)) :=
 (if x10 < x4 then ((at? p1 x10).bind fun x12 => (at? p2 x10).bind fun x13 => (if (!decide (x12 = x13)) = true then some (.inr (.inr ())) else some (.inl (w64 (x10 + 1))))) else some (.inr (.inl ())))
theorem T_keep_Ints_l1_ok (k : Nat) (p1 : List Int) (p2 : List Int) (x4 : Int) : ∀ (x10 : Int) (x : Int ⊕ (Unit ⊕ Unit)), T_keep_Ints_l1 k p1 p2 x4 x10 = some x → evC X (evF X k) k 0 l_keep_Ints_1 ⟨[(0, (LI p1)), (1, (LI p2)), (12, (I x4)), (13, (I x10))], []⟩ = some (outS (fun (s : Int) => ⟨[(0, (LI p1)), (1, (LI p2)), (12, (I x4)), (13, (I s))], []⟩) (fun (r : Unit ⊕ Unit) => Sum.elim (fun y => (.exit 0, ⟨[], []⟩)) (fun y => (.ret, ⟨[(4, (B false))], []⟩)) r) x) := by
 intro x10 x H
 unfold T_keep_Ints_l1 at H
 refine K_in ?_
 refine K_seq (K_r [] [] (by kernel_rfl) trivial ?_)
 refine K_seq ?_
 rcases ite_some H with ⟨hx11, H⟩ | ⟨hx11, H⟩
 · refine K_t (by kernel_rfl) (decide_eq_true hx11) ?_
   refine K_g (by kernel_rfl) ?_
   refine K_skip (K_seq (K_block (K_seq (K_r [] [] (by kernel_rfl) trivial ?_))))
   refine K_seq ?_
   obtain ⟨x12, hx12, H⟩ := bind_some' H
   obtain ⟨x13, hx13, H⟩ := bind_some' H
   refine K_r [.l [.int .i64 x12], .l [.int .i64 x13]] [(0 : Int) ≤ x10 ∧ x10 < (((p1.map (D.int .i64))).length : Int), ((p1.map (D.int .i64)).getD x10.toNat (.int .i64 0)).cells = [.int .i64 x12], (0 : Int) ≤ x10 ∧ x10 < (((p2.map (D.int .i64))).length : Int), ((p2.map (D.int .i64)).getD x10.toNat (.int .i64 0)).cells = [.int .i64 x13]] (by kernel_rfl) (AC (at_ok hx12 (D.int .i64) (.int .i64 0)).1 (AC (at_ok hx12 (D.int .i64) (.int .i64 0)).2 (AC (at_ok hx13 (D.int .i64) (.int .i64 0)).1 (A1 (at_ok hx13 (D.int .i64) (.int .i64 0)).2)))) ?_
   rcases ite_some H with ⟨hx14, H⟩ | ⟨hx14, H⟩
   · refine K_t (by kernel_rfl) hx14 ?_
     refine K_seq (K_r [] [] (by kernel_rfl) trivial ?_)
     refine K_g (by kernel_rfl) ?_
     cases H
     exact K_ret (by kernel_rfl)
   · refine K_f (by kernel_rfl) (Bool.eq_false_iff.2 hx14) ?_
     refine K_g (by kernel_rfl) ?_
     refine K_skip (K_blk (K_r [] [] (by kernel_rfl) trivial ?_))
     cases H
     exact K_end (by kernel_rfl)
 · refine K_f (by kernel_rfl) (decide_eq_false hx11) ?_
   refine K_g (by kernel_rfl) ?_
   cases H
   exact K_exit0 rfl (by kernel_rfl)
def T_keep_Ints (k : Nat) (p1 : List Int) (p2 : List Int) : Option Bool := match k with
 | 0 => none
 | k + 1 => (if (!decide ((p1.length : Int) = (p2.length : Int))) = true then some false else ((loopT (T_keep_Ints_l1 k p1 p2 (p1.length : Int)) k 0).bind fun x15 => (match x15 with | .inl x16 => some true | .inr x17 => some false)))
abbrev C_T_keep_Ints (k : Nat) (p1 : List Int) (p2 : List Int) (r : Bool) : Prop := evF X k n_keep_Ints [(LI p1), (LI p2)] [] = some ((B r), [])
theorem T_keep_Ints_ok (k : Nat) (p1 : List Int) (p2 : List Int) (r : Bool) : T_keep_Ints k p1 p2 = some r → C_T_keep_Ints k p1 p2 r := by
 intro H
 cases k with
 | zero => simp [T_keep_Ints] at H
 | succ k =>
  simp only [T_keep_Ints] at H
  refine F_in X_keep_Ints rfl ?_
  refine K_seq (K_r [] [] (by kernel_rfl) trivial ?_)
  refine K_seq (K_seq (K_r [.n p1.length, .n p2.length] [((p1.map (D.int .i64))).length = p1.length, ((p2.map (D.int .i64))).length = p2.length] (by kernel_rfl) (AC (List.length_map _) (A1 (List.length_map _))) ?_))
  rcases ite_some H with ⟨hx1, H⟩ | ⟨hx1, H⟩
  · refine K_t (by kernel_rfl) hx1 ?_
    refine K_seq (K_r [] [] (by kernel_rfl) trivial ?_)
    refine K_g (by kernel_rfl) ?_
    cases H
    refine K_ret ?_
    kernel_rfl
  · refine K_f (by kernel_rfl) (Bool.eq_false_iff.2 hx1) ?_
    refine K_g (by kernel_rfl) ?_
    refine K_skip (K_seq (K_seq (K_r [.n p1.length] [((p1.map (D.int .i64))).length = p1.length] (by kernel_rfl) (A1 (List.length_map _)) ?_)))
    refine K_block (K_conv (σ' := ⟨[(0, (LI p1)), (1, (LI p2)), (12, (I (p1.length : Int))), (13, (I 0))], []⟩) (by kernel_rfl) ?_)
    obtain ⟨x15, hx15, H⟩ := bind_some' H
    cases x15 with
    | inl x16 =>
     dsimp only at H
     refine K_loop ⟨[], []⟩ (loop_ok (fun (s : Int) => ⟨[(0, (LI p1)), (1, (LI p2)), (12, (I (p1.length : Int))), (13, (I s))], []⟩) (fun (r : Unit ⊕ Unit) => Sum.elim (fun y => (.exit 0, ⟨[], []⟩)) (fun y => (.ret, ⟨[(4, (B false))], []⟩)) r) (fun r h => by cases r <;> cases h) (T_keep_Ints_l1_ok k p1 p2 (p1.length : Int)) k 0 (.inl x16) hx15) rfl ?_
     refine K_seq (K_r [] [] (by kernel_rfl) trivial ?_)
     refine K_g (by kernel_rfl) ?_
     cases H
     refine K_ret ?_
     kernel_rfl
    | inr x17 =>
     dsimp only at H
     cases H
     refine K_loopr ⟨[(4, (B false))], []⟩ (loop_ok (fun (s : Int) => ⟨[(0, (LI p1)), (1, (LI p2)), (12, (I (p1.length : Int))), (13, (I s))], []⟩) (fun (r : Unit ⊕ Unit) => Sum.elim (fun y => (.exit 0, ⟨[], []⟩)) (fun y => (.ret, ⟨[(4, (B false))], []⟩)) r) (fun r h => by cases r <;> cases h) (T_keep_Ints_l1_ok k p1 p2 (p1.length : Int)) k 0 (.inr x17) hx15) ?_
     kernel_rfl
def T_ref21_Same (k : Nat) (p1 : Int) (p2 : List Int) (p3 : Int) (p4 : Int) (p5 : List Int) (p6 : Int) : Option Bool := match k with
 | 0 => none
 | k + 1 => (((if (decide (p1 = p4) && decide (p3 = p6)) = true then ((T_keep_Ints k p2 p5).bind fun x3 => some x3) else some false)).bind fun x4 => some x4)
abbrev C_T_ref21_Same (k : Nat) (p1 : Int) (p2 : List Int) (p3 : Int) (p4 : Int) (p5 : List Int) (p6 : Int) (r : Bool) : Prop := evF X k n_ref21_Same [(.agg [cI p1, cL p2, cI p3]), (.agg [cI p4, cL p5, cI p6])] [] = some ((B r), [])
theorem T_ref21_Same_ok (k : Nat) (p1 : Int) (p2 : List Int) (p3 : Int) (p4 : Int) (p5 : List Int) (p6 : Int) (r : Bool) : T_ref21_Same k p1 p2 p3 p4 p5 p6 = some r → C_T_ref21_Same k p1 p2 p3 p4 p5 p6 r := by
 intro H
 cases k with
 | zero => simp [T_ref21_Same] at H
 | succ k =>
  simp only [T_ref21_Same] at H
  refine F_in X_ref21_Same rfl ?_
  refine K_seq (K_r [] [] (by kernel_rfl) trivial ?_)
  refine K_seq ?_
  obtain ⟨x4, hx4, H⟩ := bind_some' H
  refine K_of ⟨[(4, (B x4))], []⟩ ?_ ?_
  · clear H; have H := hx4; clear hx4; refine K_in ?_
    rcases ite_some H with ⟨hx2, H⟩ | ⟨hx2, H⟩
    · obtain ⟨x3, hx3, H⟩ := bind_some' H
      refine K_r [.m, .b true, .r (B x3) []] ((fun (z1 : Heap) => [z1 = z1, (decide (p1 = p4) && decide (p3 = p6)) = true, C_T_keep_Ints k p2 p5 x3]) [.cells [cI p1, cL p2, cI p3], .cells [cI p4, cL p5, cI p6]]) (by kernel_rfl) (AC rfl (AC hx2 (A1 (T_keep_Ints_ok k p2 p5 x3 hx3)))) ?_
      cases H
      exact K_end (by kernel_rfl)
    · refine K_r [.m, .b false] ((fun (z1 : Heap) => [z1 = z1, (decide (p1 = p4) && decide (p3 = p6)) = false]) [.cells [cI p1, cL p2, cI p3], .cells [cI p4, cL p5, cI p6]]) (by kernel_rfl) (AC rfl (A1 (Bool.eq_false_iff.2 hx2))) ?_
      cases H
      exact K_end (by kernel_rfl)
  refine K_g (by kernel_rfl) ?_
  cases H
  refine K_ret ?_
  kernel_rfl
def T_law21_awake (k : Nat) : Option Bool := match k with
 | 0 => none
 | k + 1 => ((T_sketch_Of k ([1, 2, 3, 4] : List Int) 2).bind fun x1 => (T_sketch_Of k ([4, 3, 2, 1] : List Int) 2).bind fun x2 => (T_sketch_Upper k x1.1 x1.2.1 x1.2.2.1 x2.1 x2.2.1 x2.2.2.1).bind fun x3 => (T_sketch_Gap k x1.1 x1.2.1 x1.2.2.1 x2.1 x2.2.1 x2.2.2.1).bind fun x4 => ((if x1.2.2.2 = 0 then ((T_ref21_Same k x1.1 x1.2.1 x1.2.2.1 4 ([(-8), 8] : List Int) 80).bind fun x7 => some (((((x7 && decide (x2.2.2.2 = 0)) && decide (x3.2 = 0)) && decide (x3.1 = (-12))) && decide (x4.2.2 = 0)) && (decide (x4.1 = 34) && (decide (x4.2.1 = 25) && true)))) else some false)).bind fun x8 => some x8)
abbrev C_T_law21_awake (k : Nat) (r : Bool) : Prop := evF X k n_law21_awake [] [] = some ((B r), [])
theorem T_law21_awake_ok (k : Nat) (r : Bool) : T_law21_awake k = some r → C_T_law21_awake k r := by
 intro H
 cases k with
 | zero => simp [T_law21_awake] at H
 | succ k =>
  simp only [T_law21_awake] at H
  refine F_in X_law21_awake rfl ?_
  refine K_seq (K_r [] [] (by kernel_rfl) trivial ?_)
  refine K_seq ?_
  obtain ⟨x1, hx1, H⟩ := bind_some' H
  refine K_r [.r (.tup [(true, [cI x1.1, cL x1.2.1, cI x1.2.2.1]), (false, [cI x1.2.2.2])]) []] [C_T_sketch_Of k ([1, 2, 3, 4] : List Int) 2 x1] (by kernel_rfl) (A1 (T_sketch_Of_ok k ([1, 2, 3, 4] : List Int) 2 x1 hx1)) ?_
  refine K_seq ?_
  obtain ⟨x2, hx2, H⟩ := bind_some' H
  refine K_r [.r (.tup [(true, [cI x2.1, cL x2.2.1, cI x2.2.2.1]), (false, [cI x2.2.2.2])]) []] [C_T_sketch_Of k ([4, 3, 2, 1] : List Int) 2 x2] (by kernel_rfl) (A1 (T_sketch_Of_ok k ([4, 3, 2, 1] : List Int) 2 x2 hx2)) ?_
  refine K_seq ?_
  obtain ⟨x3, hx3, H⟩ := bind_some' H
  refine K_r [.r (.tup [(false, [cI x3.1]), (false, [cI x3.2])]) []] [C_T_sketch_Upper k x1.1 x1.2.1 x1.2.2.1 x2.1 x2.2.1 x2.2.2.1 x3] (by kernel_rfl) (A1 (T_sketch_Upper_ok k x1.1 x1.2.1 x1.2.2.1 x2.1 x2.2.1 x2.2.2.1 x3 hx3)) ?_
  refine K_seq ?_
  obtain ⟨x4, hx4, H⟩ := bind_some' H
  refine K_r [.r (.tup [(true, [cI x4.1, cI x4.2.1]), (false, [cI x4.2.2])]) []] [C_T_sketch_Gap k x1.1 x1.2.1 x1.2.2.1 x2.1 x2.2.1 x2.2.2.1 x4] (by kernel_rfl) (A1 (T_sketch_Gap_ok k x1.1 x1.2.1 x1.2.2.1 x2.1 x2.2.1 x2.2.2.1 x4 hx4)) ?_
  refine K_seq ?_
  obtain ⟨x8, hx8, H⟩ := bind_some' H
  refine K_of ⟨[(0, (B x8))], []⟩ ?_ ?_
  · clear H; have H := hx8; clear hx8; refine K_in ?_
    rcases ite_some H with ⟨hx6, H⟩ | ⟨hx6, H⟩
    · obtain ⟨x7, hx7, H⟩ := bind_some' H
      refine K_r [.b true, .r (B x7) [], .m, .m, .m, .m, .m] ((fun (z1 : Heap) => [decide (x1.2.2.2 = 0) = true, C_T_ref21_Same k x1.1 x1.2.1 x1.2.2.1 4 ([(-8), 8] : List Int) 80 x7, z1 = z1, z1 = z1, z1 = z1, z1 = z1, z1 = z1]) [.cells [cI x1.1, cL x1.2.1, cI x1.2.2.1], .cells [cI x4.1, cI x4.2.1]]) (by kernel_rfl) (AC (decide_eq_true hx6) (AC (T_ref21_Same_ok k x1.1 x1.2.1 x1.2.2.1 4 ([(-8), 8] : List Int) 80 x7 hx7) (AC rfl (AC rfl (AC rfl (AC rfl (A1 rfl))))))) ?_
      cases H
      exact K_end (by kernel_rfl)
    · refine K_r [.b false, .b false, .b false, .b false, .b false, .b false] [decide (x1.2.2.2 = 0) = false, false = false, false = false, false = false, false = false, false = false] (by kernel_rfl) (AC (decide_eq_false hx6) (AC rfl (AC rfl (AC rfl (AC rfl (A1 rfl)))))) ?_
      cases H
      exact K_end (by kernel_rfl)
  refine K_g (by kernel_rfl) ?_
  cases H
  refine K_ret ?_
  kernel_rfl
def T_law21_SketchRegions (k : Nat) (p1 : List Int) : Option Bool := match k with
 | 0 => none
 | k + 1 => ((T_keep_New k p1).bind fun x1 => (T_law21_normal k ((p1.drop 0).take ((imin (p1.length : Int) 2000).toNat - 0)) 0).bind fun x2 => (T_keep_Src_List k x2.1 ((p1.drop 0).take ((imin (p1.length : Int) 2000).toNat - 0)) x2.2.2.2).bind fun x3 => (T_keep_Src_Near k x3.1 ((p1.drop 0).take ((imin (p1.length : Int) 2000).toNat - 0)) x3.2).bind fun x4 => (T_keep_Src_N k 3 ((p1.drop 0).take ((imin (p1.length : Int) 2000).toNat - 0)) x4.2).bind fun x5 => ((if x5.1 = 0 then ((T_keep_Src_List k x2.1 ((p1.drop 0).take ((imin (p1.length : Int) 2000).toNat - 0)) x5.2).bind fun x7 => some (x7.1, x7.2)) else some (x4.1, x5.2))).bind fun x8 => (T_ref19_Of k 3 0 0 x2.1 x2.2.1 x2.2.2.1 x8.1).bind fun x9 => (T_keep_Src_Upper k x9.1 x9.2.1 ((p1.drop 0).take ((imin (p1.length : Int) 2000).toNat - 0)) x8.2).bind fun x10 => (T_ref19_Region k 3 0 0 x2.1 x2.2.1 x2.2.2.1 x10.1 x10.2.1).bind fun x11 => (T_sketch_Of k x3.1 x2.2.1).bind fun x12 => (T_sketch_Region k x12.1 x12.2.1 x12.2.2.1 x11.1).bind fun x13 => (T_ref13_Gap k x3.1 x8.1).bind fun x14 => ((if (decide (x12.2.2.2 = 0) && decide (x13.2.2 = 0)) = true then ((T_ref01_Valid k x13.1 x13.2.1).bind fun x17 => (if x17 = true then ((T_ref01_Cmp k x13.1 x13.2.1 x14.1 x14.2.1).bind fun x20 => (if x20 ≤ 0 then ((T_law21_awake k).bind fun x23 => some x23) else some false)) else some false)) else some false)).bind fun x24 => some x24)
abbrev C_T_law21_SketchRegions (k : Nat) (p1 : List Int) (r : Bool) : Prop := evF X k n_law21_SketchRegions [(LI p1)] [] = some ((B r), [])
theorem T_law21_SketchRegions_ok (k : Nat) (p1 : List Int) (r : Bool) : T_law21_SketchRegions k p1 = some r → C_T_law21_SketchRegions k p1 r := by
 intro H
 cases k with
 | zero => simp [T_law21_SketchRegions] at H
 | succ k =>
  simp only [T_law21_SketchRegions] at H
  refine F_in X_law21_SketchRegions rfl ?_
  refine K_seq (K_r [] [] (by kernel_rfl) trivial ?_)
  refine K_seq ?_
  obtain ⟨x1, hx1, H⟩ := bind_some' H
  refine K_r [.r (Pt 0) [.cells [cL ((p1.drop 0).take ((imin (p1.length : Int) 2000).toNat - 0)), cI 0]]] [C_T_keep_New k p1 x1] (by kernel_rfl) (A1 (T_keep_New_ok k p1 x1 hx1)) ?_
  refine K_seq ?_
  obtain ⟨x2, hx2, H⟩ := bind_some' H
  refine K_r [.r (.agg [cI 3, cI 0, cI 0, cI x2.1, cI x2.2.1, cL x2.2.2.1]) [.cells [cL ((p1.drop 0).take ((imin (p1.length : Int) 2000).toNat - 0)), cI x2.2.2.2]]] [C_T_law21_normal k ((p1.drop 0).take ((imin (p1.length : Int) 2000).toNat - 0)) 0 x2] (by kernel_rfl) (A1 (T_law21_normal_ok k ((p1.drop 0).take ((imin (p1.length : Int) 2000).toNat - 0)) 0 x2 hx2)) ?_
  refine K_seq ?_
  obtain ⟨x3, hx3, H⟩ := bind_some' H
  refine K_r [.r (LI x3.1) [.cells [cL ((p1.drop 0).take ((imin (p1.length : Int) 2000).toNat - 0)), cI x3.2]]] [C_T_keep_Src_List k x2.1 ((p1.drop 0).take ((imin (p1.length : Int) 2000).toNat - 0)) x2.2.2.2 x3] (by kernel_rfl) (A1 (T_keep_Src_List_ok k x2.1 ((p1.drop 0).take ((imin (p1.length : Int) 2000).toNat - 0)) x2.2.2.2 x3 hx3)) ?_
  refine K_seq ?_
  obtain ⟨x4, hx4, H⟩ := bind_some' H
  refine K_r [.r (LI x4.1) [.cells [cL ((p1.drop 0).take ((imin (p1.length : Int) 2000).toNat - 0)), cI x4.2]]] [C_T_keep_Src_Near k x3.1 ((p1.drop 0).take ((imin (p1.length : Int) 2000).toNat - 0)) x3.2 x4] (by kernel_rfl) (A1 (T_keep_Src_Near_ok k x3.1 ((p1.drop 0).take ((imin (p1.length : Int) 2000).toNat - 0)) x3.2 x4 hx4)) ?_
  refine K_seq ?_
  refine K_seq ?_
  obtain ⟨x5, hx5, H⟩ := bind_some' H
  refine K_r [.r (I x5.1) [.cells [cL ((p1.drop 0).take ((imin (p1.length : Int) 2000).toNat - 0)), cI x5.2]]] [C_T_keep_Src_N k 3 ((p1.drop 0).take ((imin (p1.length : Int) 2000).toNat - 0)) x4.2 x5] (by kernel_rfl) (A1 (T_keep_Src_N_ok k 3 ((p1.drop 0).take ((imin (p1.length : Int) 2000).toNat - 0)) x4.2 x5 hx5)) ?_
  obtain ⟨x8, hx8, H⟩ := bind_some' H
  refine K_of ⟨[(3, (Pt 0)), (4, (Pt 1)), (5, (LI x3.1)), (6, (LI x8.1))], [.cells [cL ((p1.drop 0).take ((imin (p1.length : Int) 2000).toNat - 0)), cI x8.2], .cells [cI 3, cI 0, cI 0, cI x2.1, cI x2.2.1, cL x2.2.2.1]]⟩ ?_ ?_
  · clear H; have H := hx8; clear hx8; refine K_in ?_
    rcases ite_some H with ⟨hx6, H⟩ | ⟨hx6, H⟩
    · refine K_t (by kernel_rfl) (decide_eq_true hx6) ?_
      obtain ⟨x7, hx7, H⟩ := bind_some' H
      refine K_r [.r (LI x7.1) [.cells [cL ((p1.drop 0).take ((imin (p1.length : Int) 2000).toNat - 0)), cI x7.2]]] [C_T_keep_Src_List k x2.1 ((p1.drop 0).take ((imin (p1.length : Int) 2000).toNat - 0)) x5.2 x7] (by kernel_rfl) (A1 (T_keep_Src_List_ok k x2.1 ((p1.drop 0).take ((imin (p1.length : Int) 2000).toNat - 0)) x5.2 x7 hx7)) ?_
      cases H
      exact K_end (by kernel_rfl)
    · refine K_f (by kernel_rfl) (decide_eq_false hx6) ?_
      refine K_g (by kernel_rfl) ?_
      refine K_skip ?_
      cases H
      exact K_end (by kernel_rfl)
  refine K_seq ?_
  obtain ⟨x9, hx9, H⟩ := bind_some' H
  refine K_r [.r (.tup [(true, [cL x9.1, cL x9.2.1]), (false, [cI x9.2.2])]) []] [C_T_ref19_Of k 3 0 0 x2.1 x2.2.1 x2.2.2.1 x8.1 x9] (by kernel_rfl) (A1 (T_ref19_Of_ok k 3 0 0 x2.1 x2.2.1 x2.2.2.1 x8.1 x9 hx9)) ?_
  refine K_seq ?_
  obtain ⟨x10, hx10, H⟩ := bind_some' H
  obtain ⟨x11, hx11, H⟩ := bind_some' H
  refine K_rD [.r (.agg [cL x10.1, cL x10.2.1]) [.cells [cL ((p1.drop 0).take ((imin (p1.length : Int) 2000).toNat - 0)), cI x10.2.2]], .r (.tup [(false, [.d (.list (x11.1.map e_st0))]), (false, [cI x11.2])]) [], .r (.agg [cL x10.1, cL x10.2.1]) [.cells [cL ((p1.drop 0).take ((imin (p1.length : Int) 2000).toNat - 0)), cI x10.2.2]], .r (.tup [(false, [.d (.list (x11.1.map e_st0))]), (false, [cI x11.2])]) [], .r (.agg [cL x10.1, cL x10.2.1]) [.cells [cL ((p1.drop 0).take ((imin (p1.length : Int) 2000).toNat - 0)), cI x10.2.2]], .r (.tup [(false, [.d (.list (x11.1.map e_st0))]), (false, [cI x11.2])]) []] ((fun (z1 : St) => [C_T_keep_Src_Upper k x9.1 x9.2.1 ((p1.drop 0).take ((imin (p1.length : Int) 2000).toNat - 0)) x8.2 x10, C_T_ref19_Region k 3 0 0 x2.1 x2.2.1 x2.2.2.1 x10.1 x10.2.1 x11, C_T_keep_Src_Upper k x9.1 x9.2.1 ((p1.drop 0).take ((imin (p1.length : Int) 2000).toNat - 0)) x8.2 x10, C_T_ref19_Region k 3 0 0 x2.1 x2.2.1 x2.2.2.1 x10.1 x10.2.1 x11, C_T_keep_Src_Upper k x9.1 x9.2.1 ((p1.drop 0).take ((imin (p1.length : Int) 2000).toNat - 0)) x8.2 x10, C_T_ref19_Region k 3 0 0 x2.1 x2.2.1 x2.2.2.1 x10.1 x10.2.1 x11, z1 = z1, z1 = z1]) (⟨[(4, (Pt 0)), (5, (LI x3.1)), (6, (LI x8.1)), (9, (.one (.d (.list (x11.1.map e_st0)))))], [.cells [cI 3, cI 0, cI 0, cI x2.1, cI x2.2.1, cL x2.2.2.1]]⟩)) (by kernel_rfl) (AC (T_keep_Src_Upper_ok k x9.1 x9.2.1 ((p1.drop 0).take ((imin (p1.length : Int) 2000).toNat - 0)) x8.2 x10 hx10) (AC (T_ref19_Region_ok k 3 0 0 x2.1 x2.2.1 x2.2.2.1 x10.1 x10.2.1 x11 hx11) (AC (T_keep_Src_Upper_ok k x9.1 x9.2.1 ((p1.drop 0).take ((imin (p1.length : Int) 2000).toNat - 0)) x8.2 x10 hx10) (AC (T_ref19_Region_ok k 3 0 0 x2.1 x2.2.1 x2.2.2.1 x10.1 x10.2.1 x11 hx11) (AC (T_keep_Src_Upper_ok k x9.1 x9.2.1 ((p1.drop 0).take ((imin (p1.length : Int) 2000).toNat - 0)) x8.2 x10 hx10) (AC (T_ref19_Region_ok k 3 0 0 x2.1 x2.2.1 x2.2.2.1 x10.1 x10.2.1 x11 hx11) (AC rfl (A1 rfl)))))))) ?_
  refine K_seq ?_
  obtain ⟨x12, hx12, H⟩ := bind_some' H
  refine K_r [.r (.tup [(true, [cI x12.1, cL x12.2.1, cI x12.2.2.1]), (false, [cI x12.2.2.2])]) []] [C_T_sketch_Of k x3.1 x2.2.1 x12] (by kernel_rfl) (A1 (T_sketch_Of_ok k x3.1 x2.2.1 x12 hx12)) ?_
  refine K_seq ?_
  obtain ⟨x13, hx13, H⟩ := bind_some' H
  refine K_r [.r (.tup [(true, [cI x13.1, cI x13.2.1]), (false, [cI x13.2.2])]) []] [C_T_sketch_Region k x12.1 x12.2.1 x12.2.2.1 x11.1 x13] (by kernel_rfl) (A1 (T_sketch_Region_ok k x12.1 x12.2.1 x12.2.2.1 x11.1 x13 hx13)) ?_
  refine K_seq ?_
  obtain ⟨x14, hx14, H⟩ := bind_some' H
  refine K_r [.r (.tup [(true, [cI x14.1, cI x14.2.1]), (false, [cI x14.2.2])]) []] [C_T_ref13_Gap k x3.1 x8.1 x14] (by kernel_rfl) (A1 (T_ref13_Gap_ok k x3.1 x8.1 x14 hx14)) ?_
  refine K_seq ?_
  obtain ⟨x24, hx24, H⟩ := bind_some' H
  refine K_of ⟨[(2, (B x24))], []⟩ ?_ ?_
  · clear H; have H := hx24; clear hx24; refine K_in ?_
    rcases ite_some H with ⟨hx16, H⟩ | ⟨hx16, H⟩
    · obtain ⟨x17, hx17, H⟩ := bind_some' H
      rcases ite_some H with ⟨hx19, H⟩ | ⟨hx19, H⟩
      · obtain ⟨x20, hx20, H⟩ := bind_some' H
        rcases ite_some H with ⟨hx22, H⟩ | ⟨hx22, H⟩
        · obtain ⟨x23, hx23, H⟩ := bind_some' H
          refine K_r [.m, .b true, .r (B x17) [], .b true, .r (I x20) [], .b true, .r (B x23) []] ((fun (z1 : Heap) => [z1 = z1, (decide (x12.2.2.2 = 0) && decide (x13.2.2 = 0)) = true, C_T_ref01_Valid k x13.1 x13.2.1 x17, x17 = true, C_T_ref01_Cmp k x13.1 x13.2.1 x14.1 x14.2.1 x20, decide (x20 ≤ 0) = true, C_T_law21_awake k x23]) [.cells [cI x13.1, cI x13.2.1], .cells [cI x14.1, cI x14.2.1]]) (by kernel_rfl) (AC rfl (AC hx16 (AC (T_ref01_Valid_ok k x13.1 x13.2.1 x17 hx17) (AC hx19 (AC (T_ref01_Cmp_ok k x13.1 x13.2.1 x14.1 x14.2.1 x20 hx20) (AC (decide_eq_true hx22) (A1 (T_law21_awake_ok k x23 hx23)))))))) ?_
          cases H
          exact K_end (by kernel_rfl)
        · refine K_r [.m, .b true, .r (B x17) [], .b true, .r (I x20) [], .b false] ((fun (z1 : Heap) => [z1 = z1, (decide (x12.2.2.2 = 0) && decide (x13.2.2 = 0)) = true, C_T_ref01_Valid k x13.1 x13.2.1 x17, x17 = true, C_T_ref01_Cmp k x13.1 x13.2.1 x14.1 x14.2.1 x20, decide (x20 ≤ 0) = false]) [.cells [cI x13.1, cI x13.2.1], .cells [cI x14.1, cI x14.2.1]]) (by kernel_rfl) (AC rfl (AC hx16 (AC (T_ref01_Valid_ok k x13.1 x13.2.1 x17 hx17) (AC hx19 (AC (T_ref01_Cmp_ok k x13.1 x13.2.1 x14.1 x14.2.1 x20 hx20) (A1 (decide_eq_false hx22))))))) ?_
          cases H
          exact K_end (by kernel_rfl)
      · refine K_r [.m, .b true, .r (B x17) [], .b false, .b false] ((fun (z1 : Heap) => [z1 = z1, (decide (x12.2.2.2 = 0) && decide (x13.2.2 = 0)) = true, C_T_ref01_Valid k x13.1 x13.2.1 x17, x17 = false, false = false]) [.cells [cI x13.1, cI x13.2.1], .cells [cI x14.1, cI x14.2.1]]) (by kernel_rfl) (AC rfl (AC hx16 (AC (T_ref01_Valid_ok k x13.1 x13.2.1 x17 hx17) (AC (Bool.eq_false_iff.2 hx19) (A1 rfl))))) ?_
        cases H
        exact K_end (by kernel_rfl)
    · refine K_r [.m, .b false, .b false, .b false] ((fun (z1 : Heap) => [z1 = z1, (decide (x12.2.2.2 = 0) && decide (x13.2.2 = 0)) = false, false = false, false = false]) [.cells [cI x13.1, cI x13.2.1], .cells [cI x14.1, cI x14.2.1]]) (by kernel_rfl) (AC rfl (AC (Bool.eq_false_iff.2 hx16) (AC rfl (A1 rfl)))) ?_
      cases H
      exact K_end (by kernel_rfl)
  refine K_g (by kernel_rfl) ?_
  cases H
  refine K_ret ?_
  kernel_rfl
end Go.Proofs.Ytdmipmhpjdmopaa.sketchRegions
