/- What the functions that the statement SketchAnswers reaches compute, told as functions of Lean, and that the theory's language computes the same: part 2 of 2. There are no conditions. -/
import Derived.Test.YtdmipmhpjdmopaaTSketchAnswers0
set_option maxRecDepth 100000
set_option linter.unusedVariables false
set_option linter.unusedSimpArgs false
namespace Go.Proofs.Ytdmipmhpjdmopaa.sketchAnswers
open Go
def T_ref21_Residual_l1 (k : Nat) (p1 : Int) (p2 : List Int) (p3 : Int) (x7 : List Int) (x9 : Int) (x21 : Int × Int) : Option ((Int × Int) ⊕ (Int ⊕ Unit)) :=
 (if x21.2 < x9 then ((at? p2 x21.2).bind fun x23 => (if (decide (x23 < (-2097152)) || decide (2097152 < x23)) = true then some (.inr (.inr ())) else (at? p2 x21.2).bind fun x25 => (at? x7 (w64 (x21.2 + 1))).bind fun x26 => (at? x7 x21.2).bind fun x27 => (if (w64 (x26 - x27)) ≠ 0 then some (.inl ((w64 (x21.1 - (w64 ((w64 (x25 * x25)).tdiv (w64 (x26 - x27)))))), (w64 (x21.2 + 1)))) else none))) else some (.inr (.inl x21.1)))
theorem T_ref21_Residual_l1_ok (k : Nat) (p1 : Int) (p2 : List Int) (p3 : Int) (x7 : List Int) (x9 : Int) : ∀ (x21 : Int × Int) (x : (Int × Int) ⊕ (Int ⊕ Unit)), T_ref21_Residual_l1 k p1 p2 p3 x7 x9 x21 = some x → evC X (evF X k) k 0 l_ref21_Residual_1 ⟨[(1, (Pt 0)), (4, (LI x7)), (6, (I x21.1)), (51, (I x9)), (52, (I x21.2))], [.cells [cI p1, cL p2, cI p3]]⟩ = some (outS (fun (s : Int × Int) => ⟨[(1, (Pt 0)), (4, (LI x7)), (6, (I s.1)), (51, (I x9)), (52, (I s.2))], [.cells [cI p1, cL p2, cI p3]]⟩) (fun (r : Int ⊕ Unit) => Sum.elim (fun y => (.exit 0, ⟨[(6, (I y))], []⟩)) (fun y => (.ret, ⟨[(2, (I 0)), (3, (B false))], []⟩)) r) x) := by
 intro x21 x H
 unfold T_ref21_Residual_l1 at H
 refine K_in ?_
 refine K_seq (K_r [] [] (by kernel_rfl) trivial ?_)
 refine K_seq ?_
 rcases ite_some H with ⟨hx22, H⟩ | ⟨hx22, H⟩
 · refine K_t (by kernel_rfl) (decide_eq_true hx22) ?_
   refine K_g (by kernel_rfl) ?_
   refine K_skip (K_seq (K_block (K_seq (K_r [] [] (by kernel_rfl) trivial ?_))))
   refine K_seq ?_
   refine K_seq ?_
   obtain ⟨x23, hx23, H⟩ := bind_some' H
   refine K_r [.l [.int .i64 x23], .m, .l [.int .i64 x23]] [(0 : Int) ≤ x21.2 ∧ x21.2 < (((p2.map (D.int .i64))).length : Int), ((p2.map (D.int .i64)).getD x21.2.toNat (.int .i64 0)).cells = [.int .i64 x23], decide (x23 < (-2097152)) = false → AllT [(0 : Int) ≤ x21.2 ∧ x21.2 < (((p2.map (D.int .i64))).length : Int), ((p2.map (D.int .i64)).getD x21.2.toNat (.int .i64 0)).cells = [.int .i64 x23]], ([.cells [cI p1, cL p2, cI p3]] : Heap) = [.cells [cI p1, cL p2, cI p3]]] (by kernel_rfl) (AC (at_ok hx23 (D.int .i64) (.int .i64 0)).1 (AC (at_ok hx23 (D.int .i64) (.int .i64 0)).2 (AC (fun _ => (AC (at_ok hx23 (D.int .i64) (.int .i64 0)).1 (A1 (at_ok hx23 (D.int .i64) (.int .i64 0)).2))) (A1 rfl)))) ?_
   rcases ite_some H with ⟨hx24, H⟩ | ⟨hx24, H⟩
   · refine K_t (by kernel_rfl) hx24 ?_
     refine K_seq (K_r [] [] (by kernel_rfl) trivial ?_)
     refine K_g (by kernel_rfl) ?_
     cases H
     exact K_ret (by kernel_rfl)
   · refine K_f (by kernel_rfl) (Bool.eq_false_iff.2 hx24) ?_
     refine K_g (by kernel_rfl) ?_
     refine K_skip ?_
     obtain ⟨x25, hx25, H⟩ := bind_some' H
     obtain ⟨x26, hx26, H⟩ := bind_some' H
     obtain ⟨x27, hx27, H⟩ := bind_some' H
     obtain ⟨hx28, H⟩ := guard_some H
     refine K_r [.l [.int .i64 x25], .l [.int .i64 x25], .l [.int .i64 x26], .l [.int .i64 x27]] [(0 : Int) ≤ x21.2 ∧ x21.2 < (((p2.map (D.int .i64))).length : Int), ((p2.map (D.int .i64)).getD x21.2.toNat (.int .i64 0)).cells = [.int .i64 x25], (0 : Int) ≤ x21.2 ∧ x21.2 < (((p2.map (D.int .i64))).length : Int), ((p2.map (D.int .i64)).getD x21.2.toNat (.int .i64 0)).cells = [.int .i64 x25], (0 : Int) ≤ (w64 (x21.2 + 1)) ∧ (w64 (x21.2 + 1)) < (((x7.map (D.int .i64))).length : Int), ((x7.map (D.int .i64)).getD (w64 (x21.2 + 1)).toNat (.int .i64 0)).cells = [.int .i64 x26], (0 : Int) ≤ x21.2 ∧ x21.2 < (((x7.map (D.int .i64))).length : Int), ((x7.map (D.int .i64)).getD x21.2.toNat (.int .i64 0)).cells = [.int .i64 x27], (w64 (x26 - x27)) ≠ (0 : Int)] (by kernel_rfl) (AC (at_ok hx25 (D.int .i64) (.int .i64 0)).1 (AC (at_ok hx25 (D.int .i64) (.int .i64 0)).2 (AC (at_ok hx25 (D.int .i64) (.int .i64 0)).1 (AC (at_ok hx25 (D.int .i64) (.int .i64 0)).2 (AC (at_ok hx26 (D.int .i64) (.int .i64 0)).1 (AC (at_ok hx26 (D.int .i64) (.int .i64 0)).2 (AC (at_ok hx27 (D.int .i64) (.int .i64 0)).1 (AC (at_ok hx27 (D.int .i64) (.int .i64 0)).2 (A1 hx28))))))))) ?_
     refine K_blk (K_r [] [] (by kernel_rfl) trivial ?_)
     cases H
     exact K_end (by kernel_rfl)
 · refine K_f (by kernel_rfl) (decide_eq_false hx22) ?_
   refine K_g (by kernel_rfl) ?_
   cases H
   exact K_exit0 rfl (by kernel_rfl)
def T_ref21_Residual (k : Nat) (p1 : Int) (p2 : List Int) (p3 : Int) : Option (Int × Bool) := match k with
 | 0 => none
 | k + 1 => ((T_ref18_Starts k p1 (p2.length : Int)).bind fun x1 => ((if (((!decide (x1.2 = 0)) || decide (p3 < 0)) || decide ((w64 ((w64 ((w64 ((w64 (p1 * p1)) * p1)) * 1000)) * 1000)) < p3)) = true then some true else (if p1 ≠ 0 then some (!decide ((p3.tmod p1) = 0)) else none))).bind fun x5 => (if x5 = true then some (0, false) else ((loopT (T_ref21_Residual_l1 k p1 p2 p3 x1.1 (p2.length : Int)) k (p3, 0)).bind fun x29 => (match x29 with | .inl x30 => some (x30, decide (0 ≤ x30)) | .inr x31 => some (0, false)))))
abbrev C_T_ref21_Residual (k : Nat) (p1 : Int) (p2 : List Int) (p3 : Int) (r : Int × Bool) : Prop := evF X k n_ref21_Residual [(.agg [cI p1, cL p2, cI p3])] [] = some ((.tup [(false, [cI r.1]), (false, [cB r.2])]), [])
theorem T_ref21_Residual_ok (k : Nat) (p1 : Int) (p2 : List Int) (p3 : Int) (r : Int × Bool) : T_ref21_Residual k p1 p2 p3 = some r → C_T_ref21_Residual k p1 p2 p3 r := by
 intro H
 cases k with
 | zero => simp [T_ref21_Residual] at H
 | succ k =>
  simp only [T_ref21_Residual] at H
  refine F_in X_ref21_Residual rfl ?_
  refine K_seq (K_r [] [] (by kernel_rfl) trivial ?_)
  refine K_seq ?_
  obtain ⟨x1, hx1, H⟩ := bind_some' H
  refine K_r [.n p2.length, .r (.tup [(false, [cL x1.1]), (false, [cI x1.2])]) []] [((p2.map (D.int .i64))).length = p2.length, C_T_ref18_Starts k p1 (p2.length : Int) x1] (by kernel_rfl) (AC (List.length_map _) (A1 (T_ref18_Starts_ok k p1 (p2.length : Int) x1 hx1))) ?_
  refine K_seq ?_
  refine K_seq ?_
  obtain ⟨x5, hx5, H⟩ := bind_some' H
  refine K_of ⟨[(1, (Pt 0)), (4, (LI x1.1)), (46, (B x5))], [.cells [cI p1, cL p2, cI p3]]⟩ ?_ ?_
  · clear H; have H := hx5; clear hx5; refine K_in ?_
    rcases ite_some H with ⟨hx3, H⟩ | ⟨hx3, H⟩
    · refine K_r [.m, .m, .b true] ((fun (z1 : Heap) => [z1 = z1, z1 = z1, (((!decide (x1.2 = 0)) || decide (p3 < 0)) || decide ((w64 ((w64 ((w64 ((w64 (p1 * p1)) * p1)) * 1000)) * 1000)) < p3)) = true]) [.cells [cI p1, cL p2, cI p3]]) (by kernel_rfl) (AC rfl (AC rfl (A1 hx3))) ?_
      cases H
      exact K_end (by kernel_rfl)
    · obtain ⟨hx4, H⟩ := guard_some H
      refine K_r [.m, .m, .b false] ((fun (z1 : Heap) => [z1 = z1, z1 = z1, (((!decide (x1.2 = 0)) || decide (p3 < 0)) || decide ((w64 ((w64 ((w64 ((w64 (p1 * p1)) * p1)) * 1000)) * 1000)) < p3)) = false, p1 ≠ (0 : Int)]) [.cells [cI p1, cL p2, cI p3]]) (by kernel_rfl) (AC rfl (AC rfl (AC (Bool.eq_false_iff.2 hx3) (A1 hx4)))) ?_
      cases H
      exact K_end (by kernel_rfl)
  rcases ite_some H with ⟨hx6, H⟩ | ⟨hx6, H⟩
  · refine K_t (by kernel_rfl) hx6 ?_
    refine K_seq (K_r [] [] (by kernel_rfl) trivial ?_)
    refine K_g (by kernel_rfl) ?_
    cases H
    refine K_ret ?_
    kernel_rfl
  · refine K_f (by kernel_rfl) (Bool.eq_false_iff.2 hx6) ?_
    refine K_g (by kernel_rfl) ?_
    refine K_skip (K_seq (K_r [] [] (by kernel_rfl) trivial ?_))
    refine K_seq (K_seq (K_r [.n p2.length] [((p2.map (D.int .i64))).length = p2.length] (by kernel_rfl) (A1 (List.length_map _)) ?_))
    refine K_block (K_conv (σ' := ⟨[(1, (Pt 0)), (4, (LI x1.1)), (6, (I p3)), (51, (I (p2.length : Int))), (52, (I 0))], [.cells [cI p1, cL p2, cI p3]]⟩) (by kernel_rfl) ?_)
    obtain ⟨x29, hx29, H⟩ := bind_some' H
    cases x29 with
    | inl x30 =>
     dsimp only at H
     refine K_loop ⟨[(6, (I x30))], []⟩ (loop_ok (fun (s : Int × Int) => ⟨[(1, (Pt 0)), (4, (LI x1.1)), (6, (I s.1)), (51, (I (p2.length : Int))), (52, (I s.2))], [.cells [cI p1, cL p2, cI p3]]⟩) (fun (r : Int ⊕ Unit) => Sum.elim (fun y => (.exit 0, ⟨[(6, (I y))], []⟩)) (fun y => (.ret, ⟨[(2, (I 0)), (3, (B false))], []⟩)) r) (fun r h => by cases r <;> cases h) (T_ref21_Residual_l1_ok k p1 p2 p3 x1.1 (p2.length : Int)) k (p3, 0) (.inl x30) hx29) rfl ?_
     refine K_seq (K_r [] [] (by kernel_rfl) trivial ?_)
     refine K_g (by kernel_rfl) ?_
     cases H
     refine K_ret ?_
     kernel_rfl
    | inr x31 =>
     dsimp only at H
     cases H
     refine K_loopr ⟨[(2, (I 0)), (3, (B false))], []⟩ (loop_ok (fun (s : Int × Int) => ⟨[(1, (Pt 0)), (4, (LI x1.1)), (6, (I s.1)), (51, (I (p2.length : Int))), (52, (I s.2))], [.cells [cI p1, cL p2, cI p3]]⟩) (fun (r : Int ⊕ Unit) => Sum.elim (fun y => (.exit 0, ⟨[(6, (I y))], []⟩)) (fun y => (.ret, ⟨[(2, (I 0)), (3, (B false))], []⟩)) r) (fun r h => by cases r <;> cases h) (T_ref21_Residual_l1_ok k p1 p2 p3 x1.1 (p2.length : Int)) k (p3, 0) (.inr x31) hx29) ?_
     kernel_rfl
def T_ref02_Floor_l1 (k : Nat) (p1 : Int) (x8 : Int × Int) : Option ((Int × Int) ⊕ Int) :=
 (if 0 < x8.2 then (((if (decide ((w64 (x8.1 + x8.2)) ≤ 2147483648) && decide ((w64 ((w64 (x8.1 + x8.2)) * (w64 (x8.1 + x8.2)))) ≤ p1)) = true then some (w64 (x8.1 + x8.2)) else some x8.1)).bind fun x11 => some (.inl (x11, (x8.2.fdiv (2 ^ 1))))) else some (.inr x8.1))
theorem T_ref02_Floor_l1_ok (k : Nat) (p1 : Int) : ∀ (x8 : Int × Int) (x : (Int × Int) ⊕ Int), T_ref02_Floor_l1 k p1 x8 = some x → evC X (evF X k) k 0 l_ref02_Floor_1 ⟨[(0, (I p1)), (3, (I x8.1)), (4, (I x8.2))], []⟩ = some (outS (fun (s : Int × Int) => ⟨[(0, (I p1)), (3, (I s.1)), (4, (I s.2))], []⟩) (fun (r : Int) => (.exit 0, ⟨[(3, (I r))], []⟩)) x) := by
 intro x8 x H
 unfold T_ref02_Floor_l1 at H
 refine K_in ?_
 refine K_seq (K_seq (K_r [] [] (by kernel_rfl) trivial ?_))
 rcases ite_some H with ⟨hx9, H⟩ | ⟨hx9, H⟩
 · refine K_t (by kernel_rfl) (decide_eq_true hx9) ?_
   refine K_g (by kernel_rfl) ?_
   refine K_skip (K_seq (K_block (K_seq (K_r [.m] [([] : Heap) = []] (by kernel_rfl) (A1 rfl) ?_))))
   obtain ⟨x11, hx11, H⟩ := bind_some' H
   refine K_of ⟨[(0, (I p1)), (3, (I x11)), (4, (I x8.2))], []⟩ ?_ ?_
   · clear H; have H := hx11; clear hx11; refine K_in ?_
     rcases ite_some H with ⟨hx10, H⟩ | ⟨hx10, H⟩
     · refine K_t (by kernel_rfl) hx10 ?_
       refine K_r [] [] (by kernel_rfl) trivial ?_
       cases H
       exact K_end (by kernel_rfl)
     · refine K_f (by kernel_rfl) (Bool.eq_false_iff.2 hx10) ?_
       refine K_g (by kernel_rfl) ?_
       refine K_skip ?_
       cases H
       exact K_end (by kernel_rfl)
   refine K_blk (K_r [] [(0 : Int) ≤ 1] (by kernel_rfl) (A1 (by decide)) ?_)
   cases H
   exact K_end (by kernel_rfl)
 · refine K_f (by kernel_rfl) (decide_eq_false hx9) ?_
   refine K_g (by kernel_rfl) ?_
   cases H
   exact K_exit0 rfl (by kernel_rfl)
def T_ref02_Floor (k : Nat) (p1 : Int) : Option Int := match k with
 | 0 => none
 | k + 1 => (if (decide (p1 < 0) || decide (4611686018427387904 < p1)) = true then some 0 else ((loopT (T_ref02_Floor_l1 k p1) k (0, 2147483648)).bind fun x12 => some x12))
abbrev C_T_ref02_Floor (k : Nat) (p1 : Int) (r : Int) : Prop := evF X k n_ref02_Floor [(I p1)] [] = some ((I r), [])
theorem T_ref02_Floor_ok (k : Nat) (p1 : Int) (r : Int) : T_ref02_Floor k p1 = some r → C_T_ref02_Floor k p1 r := by
 intro H
 cases k with
 | zero => simp [T_ref02_Floor] at H
 | succ k =>
  simp only [T_ref02_Floor] at H
  refine F_in X_ref02_Floor rfl ?_
  refine K_seq (K_r [] [] (by kernel_rfl) trivial ?_)
  refine K_seq (K_seq (K_r [.m] [([] : Heap) = []] (by kernel_rfl) (A1 rfl) ?_))
  rcases ite_some H with ⟨hx1, H⟩ | ⟨hx1, H⟩
  · refine K_t (by kernel_rfl) hx1 ?_
    refine K_seq (K_r [] [] (by kernel_rfl) trivial ?_)
    refine K_g (by kernel_rfl) ?_
    cases H
    refine K_ret ?_
    kernel_rfl
  · refine K_f (by kernel_rfl) (Bool.eq_false_iff.2 hx1) ?_
    refine K_g (by kernel_rfl) ?_
    refine K_skip (K_seq (K_r [] [] (by kernel_rfl) trivial ?_))
    refine K_seq (K_seq (K_r [] [] (by kernel_rfl) trivial ?_))
    refine K_block (K_conv (σ' := ⟨[(0, (I p1)), (3, (I 0)), (4, (I 2147483648))], []⟩) (by kernel_rfl) ?_)
    obtain ⟨x12, hx12, H⟩ := bind_some' H
    refine K_loop ⟨[(3, (I x12))], []⟩ (loop_ok (fun (s : Int × Int) => ⟨[(0, (I p1)), (3, (I s.1)), (4, (I s.2))], []⟩) (fun (r : Int) => (.exit 0, ⟨[(3, (I r))], []⟩)) (fun r h => by cases h) (T_ref02_Floor_l1_ok k p1) k (0, 2147483648) x12 hx12) rfl ?_
    refine K_seq (K_r [] [] (by kernel_rfl) trivial ?_)
    refine K_g (by kernel_rfl) ?_
    cases H
    refine K_ret ?_
    kernel_rfl
def T_ref02_Ceil (k : Nat) (p1 : Int) : Option Int := match k with
 | 0 => none
 | k + 1 => ((T_ref02_Floor k p1).bind fun x1 => (if ((decide (0 ≤ p1) && decide (p1 ≤ 4611686018427387904)) && decide ((w64 (x1 * x1)) < p1)) = true then some (w64 (x1 + 1)) else some x1))
abbrev C_T_ref02_Ceil (k : Nat) (p1 : Int) (r : Int) : Prop := evF X k n_ref02_Ceil [(I p1)] [] = some ((I r), [])
theorem T_ref02_Ceil_ok (k : Nat) (p1 : Int) (r : Int) : T_ref02_Ceil k p1 = some r → C_T_ref02_Ceil k p1 r := by
 intro H
 cases k with
 | zero => simp [T_ref02_Ceil] at H
 | succ k =>
  simp only [T_ref02_Ceil] at H
  refine F_in X_ref02_Ceil rfl ?_
  refine K_seq (K_r [] [] (by kernel_rfl) trivial ?_)
  refine K_seq ?_
  obtain ⟨x1, hx1, H⟩ := bind_some' H
  refine K_r [.r (I x1) []] [C_T_ref02_Floor k p1 x1] (by kernel_rfl) (A1 (T_ref02_Floor_ok k p1 x1 hx1)) ?_
  refine K_seq (K_seq (K_r [.m, .m] [([] : Heap) = [], ([] : Heap) = []] (by kernel_rfl) (AC rfl (A1 rfl)) ?_))
  rcases ite_some H with ⟨hx2, H⟩ | ⟨hx2, H⟩
  · refine K_t (by kernel_rfl) hx2 ?_
    refine K_seq (K_r [] [] (by kernel_rfl) trivial ?_)
    refine K_g (by kernel_rfl) ?_
    cases H
    refine K_ret ?_
    kernel_rfl
  · refine K_f (by kernel_rfl) (Bool.eq_false_iff.2 hx2) ?_
    refine K_g (by kernel_rfl) ?_
    refine K_skip (K_seq (K_r [] [] (by kernel_rfl) trivial ?_))
    refine K_g (by kernel_rfl) ?_
    cases H
    refine K_ret ?_
    kernel_rfl
def T_ref04_Up (k : Nat) (p1 : Int) (p2 : Int) : Option Int := match k with
 | 0 => none
 | k + 1 => (if p2 ≠ 0 then (if p2 ≠ 0 then ((if 0 < (p1.tmod p2) then some (w64 ((w64 (p1.tdiv p2)) + 1)) else some (w64 (p1.tdiv p2)))).bind fun x4 => some x4 else none) else none)
abbrev C_T_ref04_Up (k : Nat) (p1 : Int) (p2 : Int) (r : Int) : Prop := evF X k n_ref04_Up [(I p1), (I p2)] [] = some ((I r), [])
theorem T_ref04_Up_ok (k : Nat) (p1 : Int) (p2 : Int) (r : Int) : T_ref04_Up k p1 p2 = some r → C_T_ref04_Up k p1 p2 r := by
 intro H
 cases k with
 | zero => simp [T_ref04_Up] at H
 | succ k =>
  simp only [T_ref04_Up] at H
  refine F_in X_ref04_Up rfl ?_
  refine K_seq (K_r [] [] (by kernel_rfl) trivial ?_)
  refine K_seq ?_
  obtain ⟨hx1, H⟩ := guard_some H
  refine K_r [] [p2 ≠ (0 : Int)] (by kernel_rfl) (A1 hx1) ?_
  refine K_seq ?_
  refine K_seq ?_
  obtain ⟨hx2, H⟩ := guard_some H
  refine K_r [] [p2 ≠ (0 : Int)] (by kernel_rfl) (A1 hx2) ?_
  obtain ⟨x4, hx4, H⟩ := bind_some' H
  refine K_of ⟨[(5, (I x4))], []⟩ ?_ ?_
  · clear H; have H := hx4; clear hx4; refine K_in ?_
    rcases ite_some H with ⟨hx3, H⟩ | ⟨hx3, H⟩
    · refine K_t (by kernel_rfl) (decide_eq_true hx3) ?_
      refine K_r [] [] (by kernel_rfl) trivial ?_
      cases H
      exact K_end (by kernel_rfl)
    · refine K_f (by kernel_rfl) (decide_eq_false hx3) ?_
      refine K_g (by kernel_rfl) ?_
      refine K_skip ?_
      cases H
      exact K_end (by kernel_rfl)
  refine K_seq (K_r [] [] (by kernel_rfl) trivial ?_)
  refine K_g (by kernel_rfl) ?_
  cases H
  refine K_ret ?_
  kernel_rfl
def T_ref04_Down (k : Nat) (p1 : Int) (p2 : Int) : Option Int := match k with
 | 0 => none
 | k + 1 => (if p2 ≠ 0 then (if p2 ≠ 0 then ((if (p1.tmod p2) < 0 then some (w64 ((w64 (p1.tdiv p2)) - 1)) else some (w64 (p1.tdiv p2)))).bind fun x4 => some x4 else none) else none)
abbrev C_T_ref04_Down (k : Nat) (p1 : Int) (p2 : Int) (r : Int) : Prop := evF X k n_ref04_Down [(I p1), (I p2)] [] = some ((I r), [])
theorem T_ref04_Down_ok (k : Nat) (p1 : Int) (p2 : Int) (r : Int) : T_ref04_Down k p1 p2 = some r → C_T_ref04_Down k p1 p2 r := by
 intro H
 cases k with
 | zero => simp [T_ref04_Down] at H
 | succ k =>
  simp only [T_ref04_Down] at H
  refine F_in X_ref04_Down rfl ?_
  refine K_seq (K_r [] [] (by kernel_rfl) trivial ?_)
  refine K_seq ?_
  obtain ⟨hx1, H⟩ := guard_some H
  refine K_r [] [p2 ≠ (0 : Int)] (by kernel_rfl) (A1 hx1) ?_
  refine K_seq ?_
  refine K_seq ?_
  obtain ⟨hx2, H⟩ := guard_some H
  refine K_r [] [p2 ≠ (0 : Int)] (by kernel_rfl) (A1 hx2) ?_
  obtain ⟨x4, hx4, H⟩ := bind_some' H
  refine K_of ⟨[(5, (I x4))], []⟩ ?_ ?_
  · clear H; have H := hx4; clear hx4; refine K_in ?_
    rcases ite_some H with ⟨hx3, H⟩ | ⟨hx3, H⟩
    · refine K_t (by kernel_rfl) (decide_eq_true hx3) ?_
      refine K_r [] [] (by kernel_rfl) trivial ?_
      cases H
      exact K_end (by kernel_rfl)
    · refine K_f (by kernel_rfl) (decide_eq_false hx3) ?_
      refine K_g (by kernel_rfl) ?_
      refine K_skip ?_
      cases H
      exact K_end (by kernel_rfl)
  refine K_seq (K_r [] [] (by kernel_rfl) trivial ?_)
  refine K_g (by kernel_rfl) ?_
  cases H
  refine K_ret ?_
  kernel_rfl
def T_ref21_Upper_l1 (k : Nat) (p1 : Int) (p2 : List Int) (p3 : Int) (p4 : Int) (p5 : List Int) (p6 : Int) (x8 : List Int) (x10 : Int) (x24 : Int × Int) : Option ((Int × Int) ⊕ Int) :=
 (if x24.2 < x10 then ((at? p2 x24.2).bind fun x26 => (at? p5 x24.2).bind fun x27 => (at? x8 (w64 (x24.2 + 1))).bind fun x28 => (at? x8 x24.2).bind fun x29 => (T_ref04_Up k (w64 (x26 * x27)) (w64 (x28 - x29))).bind fun x30 => some (.inl ((w64 (x24.1 + x30)), (w64 (x24.2 + 1))))) else some (.inr x24.1))
theorem T_ref21_Upper_l1_ok (k : Nat) (p1 : Int) (p2 : List Int) (p3 : Int) (p4 : Int) (p5 : List Int) (p6 : Int) (x8 : List Int) (x10 : Int) : ∀ (x24 : Int × Int) (x : (Int × Int) ⊕ Int), T_ref21_Upper_l1 k p1 p2 p3 p4 p5 p6 x8 x10 x24 = some x → evC X (evF X k) k 0 l_ref21_Upper_1 ⟨[(2, (Pt 0)), (3, (Pt 1)), (10, (LI x8)), (12, (I x24.1)), (60, (I x10)), (61, (I x24.2))], [.cells [cI p1, cL p2, cI p3], .cells [cI p4, cL p5, cI p6]]⟩ = some (outS (fun (s : Int × Int) => ⟨[(2, (Pt 0)), (3, (Pt 1)), (10, (LI x8)), (12, (I s.1)), (60, (I x10)), (61, (I s.2))], [.cells [cI p1, cL p2, cI p3], .cells [cI p4, cL p5, cI p6]]⟩) (fun (r : Int) => (.exit 0, ⟨[(2, (Pt 0)), (12, (I r))], [.cells [cI p1, cL p2, cI p3]]⟩)) x) := by
 intro x24 x H
 unfold T_ref21_Upper_l1 at H
 refine K_in ?_
 refine K_seq (K_r [] [] (by kernel_rfl) trivial ?_)
 refine K_seq ?_
 rcases ite_some H with ⟨hx25, H⟩ | ⟨hx25, H⟩
 · refine K_t (by kernel_rfl) (decide_eq_true hx25) ?_
   refine K_g (by kernel_rfl) ?_
   refine K_skip (K_seq (K_block (K_seq (K_r [] [] (by kernel_rfl) trivial ?_))))
   obtain ⟨x26, hx26, H⟩ := bind_some' H
   obtain ⟨x27, hx27, H⟩ := bind_some' H
   obtain ⟨x28, hx28, H⟩ := bind_some' H
   obtain ⟨x29, hx29, H⟩ := bind_some' H
   obtain ⟨x30, hx30, H⟩ := bind_some' H
   refine K_r [.l [.int .i64 x26], .l [.int .i64 x27], .l [.int .i64 x28], .l [.int .i64 x29], .r (I x30) []] [(0 : Int) ≤ x24.2 ∧ x24.2 < (((p2.map (D.int .i64))).length : Int), ((p2.map (D.int .i64)).getD x24.2.toNat (.int .i64 0)).cells = [.int .i64 x26], (0 : Int) ≤ x24.2 ∧ x24.2 < (((p5.map (D.int .i64))).length : Int), ((p5.map (D.int .i64)).getD x24.2.toNat (.int .i64 0)).cells = [.int .i64 x27], (0 : Int) ≤ (w64 (x24.2 + 1)) ∧ (w64 (x24.2 + 1)) < (((x8.map (D.int .i64))).length : Int), ((x8.map (D.int .i64)).getD (w64 (x24.2 + 1)).toNat (.int .i64 0)).cells = [.int .i64 x28], (0 : Int) ≤ x24.2 ∧ x24.2 < (((x8.map (D.int .i64))).length : Int), ((x8.map (D.int .i64)).getD x24.2.toNat (.int .i64 0)).cells = [.int .i64 x29], C_T_ref04_Up k (w64 (x26 * x27)) (w64 (x28 - x29)) x30] (by kernel_rfl) (AC (at_ok hx26 (D.int .i64) (.int .i64 0)).1 (AC (at_ok hx26 (D.int .i64) (.int .i64 0)).2 (AC (at_ok hx27 (D.int .i64) (.int .i64 0)).1 (AC (at_ok hx27 (D.int .i64) (.int .i64 0)).2 (AC (at_ok hx28 (D.int .i64) (.int .i64 0)).1 (AC (at_ok hx28 (D.int .i64) (.int .i64 0)).2 (AC (at_ok hx29 (D.int .i64) (.int .i64 0)).1 (AC (at_ok hx29 (D.int .i64) (.int .i64 0)).2 (A1 (T_ref04_Up_ok k (w64 (x26 * x27)) (w64 (x28 - x29)) x30 hx30)))))))))) ?_
   refine K_blk (K_r [] [] (by kernel_rfl) trivial ?_)
   cases H
   exact K_end (by kernel_rfl)
 · refine K_f (by kernel_rfl) (decide_eq_false hx25) ?_
   refine K_g (by kernel_rfl) ?_
   cases H
   exact K_exit0 rfl (by kernel_rfl)
def T_ref21_Upper (k : Nat) (p1 : Int) (p2 : List Int) (p3 : Int) (p4 : Int) (p5 : List Int) (p6 : Int) : Option (Int × Int) := match k with
 | 0 => none
 | k + 1 => ((T_ref21_Residual k p1 p2 p3).bind fun x1 => (T_ref21_Residual k p4 p5 p6).bind fun x2 => (if ((!x1.2) || (!x2.2)) = true then some (0, 3) else (if ((!decide (p1 = p4)) || (!decide ((p2.length : Int) = (p5.length : Int)))) = true then some (0, 8) else ((T_ref18_Starts k p1 (p2.length : Int)).bind fun x5 => (T_ref02_Ceil k x1.1).bind fun x6 => (T_ref02_Ceil k x2.1).bind fun x7 => (loopT (T_ref21_Upper_l1 k p1 p2 p3 p4 p5 p6 x5.1 (p2.length : Int)) k ((w64 (x6 * x7)), 0)).bind fun x31 => (T_ref04_Down k x31 p1).bind fun x32 => some (x32, 0)))))
abbrev C_T_ref21_Upper (k : Nat) (p1 : Int) (p2 : List Int) (p3 : Int) (p4 : Int) (p5 : List Int) (p6 : Int) (r : Int × Int) : Prop := evF X k n_ref21_Upper [(.agg [cI p1, cL p2, cI p3]), (.agg [cI p4, cL p5, cI p6])] [] = some ((.tup [(false, [cI r.1]), (false, [cI r.2])]), [])
theorem T_ref21_Upper_ok (k : Nat) (p1 : Int) (p2 : List Int) (p3 : Int) (p4 : Int) (p5 : List Int) (p6 : Int) (r : Int × Int) : T_ref21_Upper k p1 p2 p3 p4 p5 p6 = some r → C_T_ref21_Upper k p1 p2 p3 p4 p5 p6 r := by
 intro H
 cases k with
 | zero => simp [T_ref21_Upper] at H
 | succ k =>
  simp only [T_ref21_Upper] at H
  refine F_in X_ref21_Upper rfl ?_
  refine K_seq (K_r [] [] (by kernel_rfl) trivial ?_)
  refine K_seq ?_
  obtain ⟨x1, hx1, H⟩ := bind_some' H
  refine K_r [.r (.tup [(false, [cI x1.1]), (false, [cB x1.2])]) []] [C_T_ref21_Residual k p1 p2 p3 x1] (by kernel_rfl) (A1 (T_ref21_Residual_ok k p1 p2 p3 x1 hx1)) ?_
  refine K_seq ?_
  obtain ⟨x2, hx2, H⟩ := bind_some' H
  refine K_r [.r (.tup [(false, [cI x2.1]), (false, [cB x2.2])]) []] [C_T_ref21_Residual k p4 p5 p6 x2] (by kernel_rfl) (A1 (T_ref21_Residual_ok k p4 p5 p6 x2 hx2)) ?_
  refine K_seq (K_seq (K_r [.m] ((fun (z1 : Heap) => [z1 = z1]) [.cells [cI p1, cL p2, cI p3], .cells [cI p4, cL p5, cI p6]]) (by kernel_rfl) (A1 rfl) ?_))
  rcases ite_some H with ⟨hx3, H⟩ | ⟨hx3, H⟩
  · refine K_t (by kernel_rfl) hx3 ?_
    refine K_seq (K_r [] [] (by kernel_rfl) trivial ?_)
    refine K_g (by kernel_rfl) ?_
    cases H
    refine K_ret ?_
    kernel_rfl
  · refine K_f (by kernel_rfl) (Bool.eq_false_iff.2 hx3) ?_
    refine K_g (by kernel_rfl) ?_
    refine K_skip (K_seq (K_seq (K_r [.m, .n p2.length, .n p5.length] ((fun (z1 : Heap) => [(!decide (p1 = p4)) = false → AllT [((p2.map (D.int .i64))).length = p2.length, ((p5.map (D.int .i64))).length = p5.length], z1 = z1]) [.cells [cI p1, cL p2, cI p3], .cells [cI p4, cL p5, cI p6]]) (by kernel_rfl) (AC (fun _ => (AC (List.length_map _) (A1 (List.length_map _)))) (A1 rfl)) ?_)))
    rcases ite_some H with ⟨hx4, H⟩ | ⟨hx4, H⟩
    · refine K_t (by kernel_rfl) hx4 ?_
      refine K_seq (K_r [] [] (by kernel_rfl) trivial ?_)
      refine K_g (by kernel_rfl) ?_
      cases H
      refine K_ret ?_
      kernel_rfl
    · refine K_f (by kernel_rfl) (Bool.eq_false_iff.2 hx4) ?_
      refine K_g (by kernel_rfl) ?_
      refine K_skip ?_
      refine K_seq ?_
      obtain ⟨x5, hx5, H⟩ := bind_some' H
      refine K_r [.n p2.length, .r (.tup [(false, [cL x5.1]), (false, [cI x5.2])]) []] [((p2.map (D.int .i64))).length = p2.length, C_T_ref18_Starts k p1 (p2.length : Int) x5] (by kernel_rfl) (AC (List.length_map _) (A1 (T_ref18_Starts_ok k p1 (p2.length : Int) x5 hx5))) ?_
      refine K_seq ?_
      obtain ⟨x6, hx6, H⟩ := bind_some' H
      obtain ⟨x7, hx7, H⟩ := bind_some' H
      refine K_r [.r (I x6) [], .r (I x7) []] [C_T_ref02_Ceil k x1.1 x6, C_T_ref02_Ceil k x2.1 x7] (by kernel_rfl) (AC (T_ref02_Ceil_ok k x1.1 x6 hx6) (A1 (T_ref02_Ceil_ok k x2.1 x7 hx7))) ?_
      refine K_seq (K_seq (K_r [.n p2.length] [((p2.map (D.int .i64))).length = p2.length] (by kernel_rfl) (A1 (List.length_map _)) ?_))
      refine K_block (K_conv (σ' := ⟨[(2, (Pt 0)), (3, (Pt 1)), (10, (LI x5.1)), (12, (I (w64 (x6 * x7)))), (60, (I (p2.length : Int))), (61, (I 0))], [.cells [cI p1, cL p2, cI p3], .cells [cI p4, cL p5, cI p6]]⟩) (by kernel_rfl) ?_)
      obtain ⟨x31, hx31, H⟩ := bind_some' H
      refine K_loop ⟨[(2, (Pt 0)), (12, (I x31))], [.cells [cI p1, cL p2, cI p3]]⟩ (loop_ok (fun (s : Int × Int) => ⟨[(2, (Pt 0)), (3, (Pt 1)), (10, (LI x5.1)), (12, (I s.1)), (60, (I (p2.length : Int))), (61, (I s.2))], [.cells [cI p1, cL p2, cI p3], .cells [cI p4, cL p5, cI p6]]⟩) (fun (r : Int) => (.exit 0, ⟨[(2, (Pt 0)), (12, (I r))], [.cells [cI p1, cL p2, cI p3]]⟩)) (fun r h => by cases h) (T_ref21_Upper_l1_ok k p1 p2 p3 p4 p5 p6 x5.1 (p2.length : Int)) k ((w64 (x6 * x7)), 0) x31 hx31) rfl ?_
      refine K_seq ?_
      obtain ⟨x32, hx32, H⟩ := bind_some' H
      refine K_r [.r (I x32) []] [C_T_ref04_Down k x31 p1 x32] (by kernel_rfl) (A1 (T_ref04_Down_ok k x31 p1 x32 hx32)) ?_
      refine K_g (by kernel_rfl) ?_
      cases H
      refine K_ret ?_
      kernel_rfl
def T_ref01_common_l1 (k : Nat) (x5 : Int × Int) : Option ((Int × Int) ⊕ Int) :=
 (if 0 < x5.2 then (if x5.2 ≠ 0 then some (.inl (x5.2, (x5.1.tmod x5.2))) else none) else some (.inr x5.1))
theorem T_ref01_common_l1_ok (k : Nat) : ∀ (x5 : Int × Int) (x : (Int × Int) ⊕ Int), T_ref01_common_l1 k x5 = some x → evC X (evF X k) k 0 l_ref01_common_1 ⟨[(0, (I x5.1)), (1, (I x5.2))], []⟩ = some (outS (fun (s : Int × Int) => ⟨[(0, (I s.1)), (1, (I s.2))], []⟩) (fun (r : Int) => (.exit 0, ⟨[(0, (I r))], []⟩)) x) := by
 intro x5 x H
 unfold T_ref01_common_l1 at H
 refine K_in ?_
 refine K_seq (K_seq (K_r [] [] (by kernel_rfl) trivial ?_))
 rcases ite_some H with ⟨hx6, H⟩ | ⟨hx6, H⟩
 · refine K_t (by kernel_rfl) (decide_eq_true hx6) ?_
   refine K_g (by kernel_rfl) ?_
   refine K_skip ?_
   refine K_block ?_
   obtain ⟨hx7, H⟩ := guard_some H
   refine K_r [] [x5.2 ≠ (0 : Int)] (by kernel_rfl) (A1 hx7) ?_
   refine K_blk ?_
   cases H
   exact K_end (by kernel_rfl)
 · refine K_f (by kernel_rfl) (decide_eq_false hx6) ?_
   refine K_g (by kernel_rfl) ?_
   cases H
   exact K_exit0 rfl (by kernel_rfl)
def T_ref01_common (k : Nat) (p1 : Int) (p2 : Int) : Option Int := match k with
 | 0 => none
 | k + 1 => ((loopT (T_ref01_common_l1 k) k (p1, p2)).bind fun x8 => some x8)
abbrev C_T_ref01_common (k : Nat) (p1 : Int) (p2 : Int) (r : Int) : Prop := evF X k n_ref01_common [(I p1), (I p2)] [] = some ((I r), [])
theorem T_ref01_common_ok (k : Nat) (p1 : Int) (p2 : Int) (r : Int) : T_ref01_common k p1 p2 = some r → C_T_ref01_common k p1 p2 r := by
 intro H
 cases k with
 | zero => simp [T_ref01_common] at H
 | succ k =>
  simp only [T_ref01_common] at H
  refine F_in X_ref01_common rfl ?_
  refine K_seq (K_r [] [] (by kernel_rfl) trivial ?_)
  refine K_seq (K_block (K_conv (σ' := ⟨[(0, (I p1)), (1, (I p2))], []⟩) (by kernel_rfl) ?_))
  obtain ⟨x8, hx8, H⟩ := bind_some' H
  refine K_loop ⟨[(0, (I x8))], []⟩ (loop_ok (fun (s : Int × Int) => ⟨[(0, (I s.1)), (1, (I s.2))], []⟩) (fun (r : Int) => (.exit 0, ⟨[(0, (I r))], []⟩)) (fun r h => by cases h) (T_ref01_common_l1_ok k) k (p1, p2) x8 hx8) rfl ?_
  refine K_seq (K_r [] [] (by kernel_rfl) trivial ?_)
  refine K_g (by kernel_rfl) ?_
  cases H
  refine K_ret ?_
  kernel_rfl
def T_ref01_Valid (k : Nat) (p1 : Int) (p2 : Int) : Option Bool := match k with
 | 0 => none
 | k + 1 => (((if (((decide (0 ≤ p1) && decide (p1 ≤ 2305843009213693952)) && decide (1 ≤ p2)) && decide (p2 ≤ 1152921504606846976)) = true then ((T_ref01_common k p1 p2).bind fun x3 => some (decide (x3 = 1))) else some false)).bind fun x4 => some x4)
abbrev C_T_ref01_Valid (k : Nat) (p1 : Int) (p2 : Int) (r : Bool) : Prop := evF X k n_ref01_Valid [(.agg [cI p1, cI p2])] [] = some ((B r), [])
theorem T_ref01_Valid_ok (k : Nat) (p1 : Int) (p2 : Int) (r : Bool) : T_ref01_Valid k p1 p2 = some r → C_T_ref01_Valid k p1 p2 r := by
 intro H
 cases k with
 | zero => simp [T_ref01_Valid] at H
 | succ k =>
  simp only [T_ref01_Valid] at H
  refine F_in X_ref01_Valid rfl ?_
  refine K_seq (K_r [] [] (by kernel_rfl) trivial ?_)
  refine K_seq ?_
  obtain ⟨x4, hx4, H⟩ := bind_some' H
  refine K_of ⟨[(2, (B x4))], []⟩ ?_ ?_
  · clear H; have H := hx4; clear hx4; refine K_in ?_
    rcases ite_some H with ⟨hx2, H⟩ | ⟨hx2, H⟩
    · obtain ⟨x3, hx3, H⟩ := bind_some' H
      refine K_r [.m, .m, .m, .b true, .r (I x3) []] ((fun (z1 : Heap) => [z1 = z1, z1 = z1, z1 = z1, (((decide (0 ≤ p1) && decide (p1 ≤ 2305843009213693952)) && decide (1 ≤ p2)) && decide (p2 ≤ 1152921504606846976)) = true, C_T_ref01_common k p1 p2 x3]) [.cells [cI p1, cI p2]]) (by kernel_rfl) (AC rfl (AC rfl (AC rfl (AC hx2 (A1 (T_ref01_common_ok k p1 p2 x3 hx3)))))) ?_
      cases H
      exact K_end (by kernel_rfl)
    · refine K_r [.m, .m, .m, .b false] ((fun (z1 : Heap) => [z1 = z1, z1 = z1, z1 = z1, (((decide (0 ≤ p1) && decide (p1 ≤ 2305843009213693952)) && decide (1 ≤ p2)) && decide (p2 ≤ 1152921504606846976)) = false]) [.cells [cI p1, cI p2]]) (by kernel_rfl) (AC rfl (AC rfl (AC rfl (A1 (Bool.eq_false_iff.2 hx2))))) ?_
      cases H
      exact K_end (by kernel_rfl)
  refine K_g (by kernel_rfl) ?_
  cases H
  refine K_ret ?_
  kernel_rfl
def T_ref01_Make (k : Nat) (p1 : Int) (p2 : Int) : Option (Int × Int × Int) := match k with
 | 0 => none
 | k + 1 => (if (decide (p1 < 0) || decide (p2 < 1)) = true then some (0, 0, 1) else (T_ref01_common k p1 p2).bind fun x2 => (if x2 ≠ 0 then (T_ref01_Valid k (w64 (p1.tdiv x2)) (w64 (p2.tdiv x2))).bind fun x4 => (if (!x4) = true then some (0, 0, 1) else some ((w64 (p1.tdiv x2)), (w64 (p2.tdiv x2)), 0)) else none))
abbrev C_T_ref01_Make (k : Nat) (p1 : Int) (p2 : Int) (r : Int × Int × Int) : Prop := evF X k n_ref01_Make [(I p1), (I p2)] [] = some ((.tup [(true, [cI r.1, cI r.2.1]), (false, [cI r.2.2])]), [])
theorem T_ref01_Make_ok (k : Nat) (p1 : Int) (p2 : Int) (r : Int × Int × Int) : T_ref01_Make k p1 p2 = some r → C_T_ref01_Make k p1 p2 r := by
 intro H
 cases k with
 | zero => simp [T_ref01_Make] at H
 | succ k =>
  simp only [T_ref01_Make] at H
  refine F_in X_ref01_Make rfl ?_
  refine K_seq (K_r [] [] (by kernel_rfl) trivial ?_)
  refine K_seq (K_seq (K_r [.m] [([.cells [cI 0, cI 0]] : Heap) = [.cells [cI 0, cI 0]]] (by kernel_rfl) (A1 rfl) ?_))
  rcases ite_some H with ⟨hx1, H⟩ | ⟨hx1, H⟩
  · refine K_t (by kernel_rfl) hx1 ?_
    refine K_seq (K_r [] [] (by kernel_rfl) trivial ?_)
    refine K_g (by kernel_rfl) ?_
    cases H
    refine K_ret ?_
    kernel_rfl
  · refine K_f (by kernel_rfl) (Bool.eq_false_iff.2 hx1) ?_
    refine K_g (by kernel_rfl) ?_
    refine K_skip ?_
    refine K_seq ?_
    obtain ⟨x2, hx2, H⟩ := bind_some' H
    refine K_r [.r (I x2) []] [C_T_ref01_common k p1 p2 x2] (by kernel_rfl) (A1 (T_ref01_common_ok k p1 p2 x2 hx2)) ?_
    refine K_seq ?_
    obtain ⟨hx3, H⟩ := guard_some H
    refine K_r [] [x2 ≠ (0 : Int), x2 ≠ (0 : Int)] (by kernel_rfl) (AC hx3 (A1 hx3)) ?_
    refine K_seq ?_
    refine K_seq ?_
    obtain ⟨x4, hx4, H⟩ := bind_some' H
    refine K_r [.r (B x4) []] [C_T_ref01_Valid k (w64 (p1.tdiv x2)) (w64 (p2.tdiv x2)) x4] (by kernel_rfl) (A1 (T_ref01_Valid_ok k (w64 (p1.tdiv x2)) (w64 (p2.tdiv x2)) x4 hx4)) ?_
    rcases ite_some H with ⟨hx5, H⟩ | ⟨hx5, H⟩
    · refine K_t (by kernel_rfl) hx5 ?_
      refine K_seq (K_r [] [] (by kernel_rfl) trivial ?_)
      refine K_g (by kernel_rfl) ?_
      cases H
      refine K_ret ?_
      kernel_rfl
    · refine K_f (by kernel_rfl) (Bool.eq_false_iff.2 hx5) ?_
      refine K_g (by kernel_rfl) ?_
      refine K_skip (K_seq (K_r [] [] (by kernel_rfl) trivial ?_))
      refine K_g (by kernel_rfl) ?_
      cases H
      refine K_ret ?_
      kernel_rfl
def T_ref13_Between (k : Nat) (p1 : Int) (p2 : Int) (p3 : Int) : Option (Int × Int) := match k with
 | 0 => none
 | k + 1 => (((if (decide (p2 = 0) && decide (p3 = 0)) = true then some (0, 1) else (if (((!decide (p2 = 0)) && (!decide (p3 = 0))) && decide (0 ≤ p1)) = true then ((T_ref01_Make k (w64 ((w64 (p2 * p3)) - (w64 (p1 * p1)))) (w64 (p2 * p3))).bind fun x3 => some (x3.1, x3.2.1)) else (if ((!decide (p2 = 0)) && (!decide (p3 = 0))) = true then ((T_ref01_Make k (w64 ((w64 (p2 * p3)) + (w64 (p1 * p1)))) (w64 (p2 * p3))).bind fun x5 => some (x5.1, x5.2.1)) else some (1, 1))))).bind fun x6 => some (x6.1, x6.2))
abbrev C_T_ref13_Between (k : Nat) (p1 : Int) (p2 : Int) (p3 : Int) (r : Int × Int) : Prop := evF X k n_ref13_Between [(I p1), (I p2), (I p3)] [] = some ((.agg [cI r.1, cI r.2]), [])
theorem T_ref13_Between_ok (k : Nat) (p1 : Int) (p2 : Int) (p3 : Int) (r : Int × Int) : T_ref13_Between k p1 p2 p3 = some r → C_T_ref13_Between k p1 p2 p3 r := by
 intro H
 cases k with
 | zero => simp [T_ref13_Between] at H
 | succ k =>
  simp only [T_ref13_Between] at H
  refine F_in X_ref13_Between rfl ?_
  refine K_seq (K_r [] [] (by kernel_rfl) trivial ?_)
  refine K_seq (K_r [] [] (by kernel_rfl) trivial ?_)
  refine K_seq (K_block (K_seq (K_r [.m] [([.cells [cI 0, cI 0], .cells [cI 1, cI 1]] : Heap) = [.cells [cI 0, cI 0], .cells [cI 1, cI 1]]] (by kernel_rfl) (A1 rfl) ?_)))
  obtain ⟨x6, hx6, H⟩ := bind_some' H
  refine K_of ⟨[(6, (Pt 0)), (7, (Pt 1))], [.cells [cI 0, cI 0], .cells [cI x6.1, cI x6.2]]⟩ ?_ ?_
  · clear H; have H := hx6; clear hx6; refine K_in ?_
    rcases ite_some H with ⟨hx1, H⟩ | ⟨hx1, H⟩
    · refine K_t (by kernel_rfl) hx1 ?_
      refine K_r [] [] (by kernel_rfl) trivial ?_
      cases H
      exact K_end (by kernel_rfl)
    · refine K_f (by kernel_rfl) (Bool.eq_false_iff.2 hx1) ?_
      refine K_seq (K_r [.m, .m] ((fun (z1 : Heap) => [z1 = z1, z1 = z1]) [.cells [cI 0, cI 0], .cells [cI 1, cI 1]]) (by kernel_rfl) (AC rfl (A1 rfl)) ?_)
      rcases ite_some H with ⟨hx2, H⟩ | ⟨hx2, H⟩
      · refine K_t (by kernel_rfl) hx2 ?_
        obtain ⟨x3, hx3, H⟩ := bind_some' H
        refine K_r [.r (.tup [(true, [cI x3.1, cI x3.2.1]), (false, [cI x3.2.2])]) []] [C_T_ref01_Make k (w64 ((w64 (p2 * p3)) - (w64 (p1 * p1)))) (w64 (p2 * p3)) x3] (by kernel_rfl) (A1 (T_ref01_Make_ok k (w64 ((w64 (p2 * p3)) - (w64 (p1 * p1)))) (w64 (p2 * p3)) x3 hx3)) ?_
        cases H
        exact K_end (by kernel_rfl)
      · refine K_f (by kernel_rfl) (Bool.eq_false_iff.2 hx2) ?_
        refine K_seq (K_r [.m] [([.cells [cI 0, cI 0], .cells [cI 1, cI 1]] : Heap) = [.cells [cI 0, cI 0], .cells [cI 1, cI 1]]] (by kernel_rfl) (A1 rfl) ?_)
        rcases ite_some H with ⟨hx4, H⟩ | ⟨hx4, H⟩
        · refine K_t (by kernel_rfl) hx4 ?_
          obtain ⟨x5, hx5, H⟩ := bind_some' H
          refine K_r [.r (.tup [(true, [cI x5.1, cI x5.2.1]), (false, [cI x5.2.2])]) []] [C_T_ref01_Make k (w64 ((w64 (p2 * p3)) + (w64 (p1 * p1)))) (w64 (p2 * p3)) x5] (by kernel_rfl) (A1 (T_ref01_Make_ok k (w64 ((w64 (p2 * p3)) + (w64 (p1 * p1)))) (w64 (p2 * p3)) x5 hx5)) ?_
          cases H
          exact K_end (by kernel_rfl)
        · refine K_f (by kernel_rfl) (Bool.eq_false_iff.2 hx4) ?_
          refine K_g (by kernel_rfl) ?_
          refine K_skip ?_
          cases H
          exact K_end (by kernel_rfl)
  refine K_blk (K_seq (K_r [] [] (by kernel_rfl) trivial ?_))
  refine K_g (by kernel_rfl) ?_
  cases H
  refine K_ret ?_
  kernel_rfl
def T_ref21_Gap (k : Nat) (p1 : Int) (p2 : List Int) (p3 : Int) (p4 : Int) (p5 : List Int) (p6 : Int) : Option (Int × Int × Int) := match k with
 | 0 => none
 | k + 1 => ((T_ref21_Upper k p1 p2 p3 p4 p5 p6).bind fun x1 => (if (!decide (x1.2 = 0)) = true then some (0, 0, x1.2) else (if p1 ≠ 0 then (if p4 ≠ 0 then (if (((decide (0 < (w64 (p3.tdiv p1))) && decide (0 < (w64 (p6.tdiv p4)))) && decide (0 ≤ x1.1)) && decide ((w64 ((w64 (p3.tdiv p1)) * (w64 (p6.tdiv p4)))) ≤ (w64 (x1.1 * x1.1)))) = true then some (0, 1, 0) else (if (((decide (0 < (w64 (p3.tdiv p1))) && decide (0 < (w64 (p6.tdiv p4)))) && decide (x1.1 < 0)) && decide ((w64 ((w64 (p3.tdiv p1)) * (w64 (p6.tdiv p4)))) ≤ (w64 (x1.1 * x1.1)))) = true then some (2, 1, 0) else ((T_ref13_Between k x1.1 (w64 (p3.tdiv p1)) (w64 (p6.tdiv p4))).bind fun x7 => some (x7.1, x7.2, 0)))) else none) else none)))
abbrev C_T_ref21_Gap (k : Nat) (p1 : Int) (p2 : List Int) (p3 : Int) (p4 : Int) (p5 : List Int) (p6 : Int) (r : Int × Int × Int) : Prop := evF X k n_ref21_Gap [(.agg [cI p1, cL p2, cI p3]), (.agg [cI p4, cL p5, cI p6])] [] = some ((.tup [(true, [cI r.1, cI r.2.1]), (false, [cI r.2.2])]), [])
theorem T_ref21_Gap_ok (k : Nat) (p1 : Int) (p2 : List Int) (p3 : Int) (p4 : Int) (p5 : List Int) (p6 : Int) (r : Int × Int × Int) : T_ref21_Gap k p1 p2 p3 p4 p5 p6 = some r → C_T_ref21_Gap k p1 p2 p3 p4 p5 p6 r := by
 intro H
 cases k with
 | zero => simp [T_ref21_Gap] at H
 | succ k =>
  simp only [T_ref21_Gap] at H
  refine F_in X_ref21_Gap rfl ?_
  refine K_seq (K_r [] [] (by kernel_rfl) trivial ?_)
  refine K_seq ?_
  obtain ⟨x1, hx1, H⟩ := bind_some' H
  refine K_r [.r (.tup [(false, [cI x1.1]), (false, [cI x1.2])]) []] [C_T_ref21_Upper k p1 p2 p3 p4 p5 p6 x1] (by kernel_rfl) (A1 (T_ref21_Upper_ok k p1 p2 p3 p4 p5 p6 x1 hx1)) ?_
  refine K_seq (K_seq (K_r [] [] (by kernel_rfl) trivial ?_))
  rcases ite_some H with ⟨hx2, H⟩ | ⟨hx2, H⟩
  · refine K_t (by kernel_rfl) hx2 ?_
    refine K_seq (K_r [] [] (by kernel_rfl) trivial ?_)
    refine K_g (by kernel_rfl) ?_
    cases H
    refine K_ret ?_
    kernel_rfl
  · refine K_f (by kernel_rfl) (Bool.eq_false_iff.2 hx2) ?_
    refine K_g (by kernel_rfl) ?_
    refine K_skip ?_
    refine K_seq ?_
    obtain ⟨hx3, H⟩ := guard_some H
    obtain ⟨hx4, H⟩ := guard_some H
    refine K_r [] [p1 ≠ (0 : Int), p4 ≠ (0 : Int)] (by kernel_rfl) (AC hx3 (A1 hx4)) ?_
    refine K_seq (K_block (K_seq (K_r [.m, .m, .m] ((fun (z1 : Heap) => [z1 = z1, z1 = z1, z1 = z1]) [.cells [cI 0, cI 0]]) (by kernel_rfl) (AC rfl (AC rfl (A1 rfl))) ?_)))
    rcases ite_some H with ⟨hx5, H⟩ | ⟨hx5, H⟩
    · refine K_t (by kernel_rfl) hx5 ?_
      refine K_seq (K_r [] [] (by kernel_rfl) trivial ?_)
      refine K_g (by kernel_rfl) ?_
      cases H
      refine K_ret ?_
      kernel_rfl
    · refine K_f (by kernel_rfl) (Bool.eq_false_iff.2 hx5) ?_
      refine K_seq (K_r [.m, .m, .m] ((fun (z1 : Heap) => [z1 = z1, z1 = z1, z1 = z1]) [.cells [cI 0, cI 0]]) (by kernel_rfl) (AC rfl (AC rfl (A1 rfl))) ?_)
      rcases ite_some H with ⟨hx6, H⟩ | ⟨hx6, H⟩
      · refine K_t (by kernel_rfl) hx6 ?_
        refine K_seq (K_r [] [] (by kernel_rfl) trivial ?_)
        refine K_g (by kernel_rfl) ?_
        cases H
        refine K_ret ?_
        kernel_rfl
      · refine K_f (by kernel_rfl) (Bool.eq_false_iff.2 hx6) ?_
        refine K_g (by kernel_rfl) ?_
        refine K_skip ?_
        refine K_blk ?_
        refine K_seq ?_
        obtain ⟨x7, hx7, H⟩ := bind_some' H
        refine K_r [.r (.agg [cI x7.1, cI x7.2]) []] [C_T_ref13_Between k x1.1 (w64 (p3.tdiv p1)) (w64 (p6.tdiv p4)) x7] (by kernel_rfl) (A1 (T_ref13_Between_ok k x1.1 (w64 (p3.tdiv p1)) (w64 (p6.tdiv p4)) x7 hx7)) ?_
        refine K_g (by kernel_rfl) ?_
        cases H
        refine K_ret ?_
        kernel_rfl
def T_sketch_flat_l1 (k : Nat) (p1 : List (Int × Int)) (x2 : Int) (x10 : Int) : Option (Int ⊕ (Unit ⊕ (Int × Int × Int))) :=
 (if x10 < x2 then ((at? p1 x10).bind fun x12 => (if (decide (0 < x12.1) || decide (x12.2 < 0)) = true then ((T_ratio_Make k 1 1).bind fun x14 => some (.inr (.inr (x14.2.2, x14.1, x14.2.1)))) else some (.inl (w64 (x10 + 1))))) else some (.inr (.inl ())))
theorem T_sketch_flat_l1_ok (k : Nat) (p1 : List (Int × Int)) (x2 : Int) : ∀ (x10 : Int) (x : Int ⊕ (Unit ⊕ (Int × Int × Int))), T_sketch_flat_l1 k p1 x2 x10 = some x → evC X (evF X k) k 0 l_sketch_flat_1 ⟨[(2, (Pt 0)), (6, (.one (.d (.list (p1.map e_st0))))), (7, (I x2)), (8, (I x10))], [.cells [cI 0, cI 0]]⟩ = some (outS (fun (s : Int) => ⟨[(2, (Pt 0)), (6, (.one (.d (.list (p1.map e_st0))))), (7, (I x2)), (8, (I s))], [.cells [cI 0, cI 0]]⟩) (fun (r : Unit ⊕ (Int × Int × Int)) => Sum.elim (fun y => (.exit 0, ⟨[(2, (Pt 0))], [.cells [cI 0, cI 0]]⟩)) (fun y => (.ret, ⟨[(2, (Pt 0)), (3, (I y.1))], [.cells [cI y.2.1, cI y.2.2]]⟩)) r) x) := by
 intro x10 x H
 unfold T_sketch_flat_l1 at H
 refine K_in ?_
 refine K_seq (K_r [] [] (by kernel_rfl) trivial ?_)
 refine K_seq ?_
 rcases ite_some H with ⟨hx11, H⟩ | ⟨hx11, H⟩
 · refine K_t (by kernel_rfl) (decide_eq_true hx11) ?_
   refine K_g (by kernel_rfl) ?_
   refine K_skip ?_
   refine K_seq ?_
   refine K_block ?_
   refine K_seq ?_
   obtain ⟨x12, hx12, H⟩ := bind_some' H
   refine K_r [.l [.int .i64 x12.1, .int .i64 x12.2]] [(0 : Int) ≤ x10 ∧ x10 < (((p1.map e_st0)).length : Int), ((p1.map e_st0).getD x10.toNat (.agg [(.int .i64 0), (.int .i64 0)])).cells = [.int .i64 x12.1, .int .i64 x12.2]] (by kernel_rfl) (AC (at_ok hx12 e_st0 (.agg [(.int .i64 0), (.int .i64 0)])).1 (A1 (at_ok hx12 e_st0 (.agg [(.int .i64 0), (.int .i64 0)])).2)) ?_
   refine K_seq (K_r [.m] ((fun (z1 : Heap) => [z1 = z1]) [.cells [cI 0, cI 0], .cells [cI x12.1, cI x12.2]]) (by kernel_rfl) (A1 rfl) ?_)
   rcases ite_some H with ⟨hx13, H⟩ | ⟨hx13, H⟩
   · refine K_t (by kernel_rfl) hx13 ?_
     refine K_seq ?_
     obtain ⟨x14, hx14, H⟩ := bind_some' H
     refine K_r [.r (.tup [(true, [cI x14.1, cI x14.2.1]), (false, [cI x14.2.2])]) []] [C_T_ratio_Make k 1 1 x14] (by kernel_rfl) (A1 (T_ratio_Make_ok k 1 1 x14 hx14)) ?_
     refine K_g (by kernel_rfl) ?_
     cases H
     exact K_ret (by kernel_rfl)
   · refine K_f (by kernel_rfl) (Bool.eq_false_iff.2 hx13) ?_
     refine K_g (by kernel_rfl) ?_
     refine K_skip (K_blk (K_r [] [] (by kernel_rfl) trivial ?_))
     cases H
     exact K_end (by kernel_rfl)
 · refine K_f (by kernel_rfl) (decide_eq_false hx11) ?_
   refine K_g (by kernel_rfl) ?_
   cases H
   exact K_exit0 rfl (by kernel_rfl)
def T_sketch_flat (k : Nat) (p1 : List (Int × Int)) : Option (Int × Int × Int) := match k with
 | 0 => none
 | k + 1 => ((loopT (T_sketch_flat_l1 k p1 (p1.length : Int)) k 0).bind fun x15 => (match x15 with | .inl x16 => ((T_ratio_Make k 0 1).bind fun x17 => some (x17.1, x17.2.1, x17.2.2)) | .inr x18 => some (x18.2.1, x18.2.2, x18.1)))
abbrev C_T_sketch_flat (k : Nat) (p1 : List (Int × Int)) (r : Int × Int × Int) : Prop := evF X k n_sketch_flat [(.one (.d (.list (p1.map e_st0))))] [] = some ((.tup [(true, [cI r.1, cI r.2.1]), (false, [cI r.2.2])]), [])
theorem T_sketch_flat_ok (k : Nat) (p1 : List (Int × Int)) (r : Int × Int × Int) : T_sketch_flat k p1 = some r → C_T_sketch_flat k p1 r := by
 intro H
 cases k with
 | zero => simp [T_sketch_flat] at H
 | succ k =>
  simp only [T_sketch_flat] at H
  refine F_in X_sketch_flat rfl ?_
  refine K_seq (K_r [] [] (by kernel_rfl) trivial ?_)
  refine K_seq (K_seq (K_r [.n p1.length] [((p1.map e_st0)).length = p1.length] (by kernel_rfl) (A1 (List.length_map _)) ?_))
  refine K_block (K_conv (σ' := ⟨[(2, (Pt 0)), (6, (.one (.d (.list (p1.map e_st0))))), (7, (I (p1.length : Int))), (8, (I 0))], [.cells [cI 0, cI 0]]⟩) (by kernel_rfl) ?_)
  obtain ⟨x15, hx15, H⟩ := bind_some' H
  cases x15 with
  | inl x16 =>
   dsimp only at H
   refine K_loop ⟨[(2, (Pt 0))], [.cells [cI 0, cI 0]]⟩ (loop_ok (fun (s : Int) => ⟨[(2, (Pt 0)), (6, (.one (.d (.list (p1.map e_st0))))), (7, (I (p1.length : Int))), (8, (I s))], [.cells [cI 0, cI 0]]⟩) (fun (r : Unit ⊕ (Int × Int × Int)) => Sum.elim (fun y => (.exit 0, ⟨[(2, (Pt 0))], [.cells [cI 0, cI 0]]⟩)) (fun y => (.ret, ⟨[(2, (Pt 0)), (3, (I y.1))], [.cells [cI y.2.1, cI y.2.2]]⟩)) r) (fun r h => by cases r <;> cases h) (T_sketch_flat_l1_ok k p1 (p1.length : Int)) k 0 (.inl x16) hx15) rfl ?_
   refine K_seq ?_
   obtain ⟨x17, hx17, H⟩ := bind_some' H
   refine K_r [.r (.tup [(true, [cI x17.1, cI x17.2.1]), (false, [cI x17.2.2])]) []] [C_T_ratio_Make k 0 1 x17] (by kernel_rfl) (A1 (T_ratio_Make_ok k 0 1 x17 hx17)) ?_
   refine K_g (by kernel_rfl) ?_
   cases H
   refine K_ret ?_
   kernel_rfl
  | inr x18 =>
   dsimp only at H
   cases H
   refine K_loopr ⟨[(2, (Pt 0)), (3, (I x18.1))], [.cells [cI x18.2.1, cI x18.2.2]]⟩ (loop_ok (fun (s : Int) => ⟨[(2, (Pt 0)), (6, (.one (.d (.list (p1.map e_st0))))), (7, (I (p1.length : Int))), (8, (I s))], [.cells [cI 0, cI 0]]⟩) (fun (r : Unit ⊕ (Int × Int × Int)) => Sum.elim (fun y => (.exit 0, ⟨[(2, (Pt 0))], [.cells [cI 0, cI 0]]⟩)) (fun y => (.ret, ⟨[(2, (Pt 0)), (3, (I y.1))], [.cells [cI y.2.1, cI y.2.2]]⟩)) r) (fun r h => by cases r <;> cases h) (T_sketch_flat_l1_ok k p1 (p1.length : Int)) k 0 (.inr x18) hx15) ?_
   kernel_rfl
def T_slices_Min_b354_l1 (k : Nat) (p1 : List Int) (x8 : Int × Int) : Option ((Int × Int) ⊕ Int) :=
 (if x8.2 < (p1.length : Int) then ((at? p1 x8.2).bind fun x10 => some (.inl ((imin x8.1 x10), (w64 (x8.2 + 1))))) else some (.inr x8.1))
theorem T_slices_Min_b354_l1_ok (k : Nat) (p1 : List Int) : ∀ (x8 : Int × Int) (x : (Int × Int) ⊕ Int), T_slices_Min_b354_l1 k p1 x8 = some x → evC X (evF X k) k 0 l_slices_Min_b354_1 ⟨[(0, (LI p1)), (3, (I x8.1)), (4, (I x8.2))], []⟩ = some (outS (fun (s : Int × Int) => ⟨[(0, (LI p1)), (3, (I s.1)), (4, (I s.2))], []⟩) (fun (r : Int) => (.exit 0, ⟨[(3, (I r))], []⟩)) x) := by
 intro x8 x H
 unfold T_slices_Min_b354_l1 at H
 refine K_in ?_
 refine K_seq (K_seq (K_r [.n p1.length] [((p1.map (D.int .i64))).length = p1.length] (by kernel_rfl) (A1 (List.length_map _)) ?_))
 rcases ite_some H with ⟨hx9, H⟩ | ⟨hx9, H⟩
 · refine K_t (by kernel_rfl) (decide_eq_true hx9) ?_
   refine K_g (by kernel_rfl) ?_
   refine K_skip ?_
   refine K_seq ?_
   refine K_block ?_
   obtain ⟨x10, hx10, H⟩ := bind_some' H
   refine K_r [.l [.int .i64 x10]] [(0 : Int) ≤ x8.2 ∧ x8.2 < (((p1.map (D.int .i64))).length : Int), ((p1.map (D.int .i64)).getD x8.2.toNat (.int .i64 0)).cells = [.int .i64 x10]] (by kernel_rfl) (AC (at_ok hx10 (D.int .i64) (.int .i64 0)).1 (A1 (at_ok hx10 (D.int .i64) (.int .i64 0)).2)) ?_
   refine K_blk (K_r [] [] (by kernel_rfl) trivial ?_)
   cases H
   exact K_end (by kernel_rfl)
 · refine K_f (by kernel_rfl) (decide_eq_false hx9) ?_
   refine K_g (by kernel_rfl) ?_
   cases H
   exact K_exit0 rfl (by kernel_rfl)
def T_slices_Min_b354 (k : Nat) (p1 : List Int) : Option Int := match k with
 | 0 => none
 | k + 1 => (if (p1.length : Int) < 1 then none else ((at? p1 0).bind fun x2 => (loopT (T_slices_Min_b354_l1 k p1) k (x2, 1)).bind fun x11 => some x11))
abbrev C_T_slices_Min_b354 (k : Nat) (p1 : List Int) (r : Int) : Prop := evF X k n_slices_Min_b354 [(LI p1)] [] = some ((I r), [])
theorem T_slices_Min_b354_ok (k : Nat) (p1 : List Int) (r : Int) : T_slices_Min_b354 k p1 = some r → C_T_slices_Min_b354 k p1 r := by
 intro H
 cases k with
 | zero => simp [T_slices_Min_b354] at H
 | succ k =>
  simp only [T_slices_Min_b354] at H
  refine F_in X_slices_Min_b354 rfl ?_
  refine K_seq (K_r [] [] (by kernel_rfl) trivial ?_)
  refine K_seq (K_seq (K_r [.n p1.length] [((p1.map (D.int .i64))).length = p1.length] (by kernel_rfl) (A1 (List.length_map _)) ?_))
  rcases ite_some H with ⟨hx1, H⟩ | ⟨hx1, H⟩
  · refine K_t (by kernel_rfl) (decide_eq_true hx1) ?_
    cases H
  · refine K_f (by kernel_rfl) (decide_eq_false hx1) ?_
    refine K_g (by kernel_rfl) ?_
    refine K_skip ?_
    refine K_seq ?_
    obtain ⟨x2, hx2, H⟩ := bind_some' H
    refine K_r [.l [.int .i64 x2]] [(0 : Int) ≤ 0 ∧ 0 < (((p1.map (D.int .i64))).length : Int), ((p1.map (D.int .i64)).getD 0 (.int .i64 0)).cells = [.int .i64 x2]] (by kernel_rfl) (AC (at_ok hx2 (D.int .i64) (.int .i64 0)).1 (A1 (at_ok hx2 (D.int .i64) (.int .i64 0)).2)) ?_
    refine K_seq (K_seq (K_r [] [] (by kernel_rfl) trivial ?_))
    refine K_block (K_conv (σ' := ⟨[(0, (LI p1)), (3, (I x2)), (4, (I 1))], []⟩) (by kernel_rfl) ?_)
    obtain ⟨x11, hx11, H⟩ := bind_some' H
    refine K_loop ⟨[(3, (I x11))], []⟩ (loop_ok (fun (s : Int × Int) => ⟨[(0, (LI p1)), (3, (I s.1)), (4, (I s.2))], []⟩) (fun (r : Int) => (.exit 0, ⟨[(3, (I r))], []⟩)) (fun r h => by cases h) (T_slices_Min_b354_l1_ok k p1) k (x2, 1) x11 hx11) rfl ?_
    refine K_seq (K_r [] [] (by kernel_rfl) trivial ?_)
    refine K_g (by kernel_rfl) ?_
    cases H
    refine K_ret ?_
    kernel_rfl
def T_slices_Max_b354_l1 (k : Nat) (p1 : List Int) (x8 : Int × Int) : Option ((Int × Int) ⊕ Int) :=
 (if x8.2 < (p1.length : Int) then ((at? p1 x8.2).bind fun x10 => some (.inl ((imax x8.1 x10), (w64 (x8.2 + 1))))) else some (.inr x8.1))
theorem T_slices_Max_b354_l1_ok (k : Nat) (p1 : List Int) : ∀ (x8 : Int × Int) (x : (Int × Int) ⊕ Int), T_slices_Max_b354_l1 k p1 x8 = some x → evC X (evF X k) k 0 l_slices_Max_b354_1 ⟨[(0, (LI p1)), (3, (I x8.1)), (4, (I x8.2))], []⟩ = some (outS (fun (s : Int × Int) => ⟨[(0, (LI p1)), (3, (I s.1)), (4, (I s.2))], []⟩) (fun (r : Int) => (.exit 0, ⟨[(3, (I r))], []⟩)) x) := by
 intro x8 x H
 unfold T_slices_Max_b354_l1 at H
 refine K_in ?_
 refine K_seq (K_seq (K_r [.n p1.length] [((p1.map (D.int .i64))).length = p1.length] (by kernel_rfl) (A1 (List.length_map _)) ?_))
 rcases ite_some H with ⟨hx9, H⟩ | ⟨hx9, H⟩
 · refine K_t (by kernel_rfl) (decide_eq_true hx9) ?_
   refine K_g (by kernel_rfl) ?_
   refine K_skip ?_
   refine K_seq ?_
   refine K_block ?_
   obtain ⟨x10, hx10, H⟩ := bind_some' H
   refine K_r [.l [.int .i64 x10]] [(0 : Int) ≤ x8.2 ∧ x8.2 < (((p1.map (D.int .i64))).length : Int), ((p1.map (D.int .i64)).getD x8.2.toNat (.int .i64 0)).cells = [.int .i64 x10]] (by kernel_rfl) (AC (at_ok hx10 (D.int .i64) (.int .i64 0)).1 (A1 (at_ok hx10 (D.int .i64) (.int .i64 0)).2)) ?_
   refine K_blk (K_r [] [] (by kernel_rfl) trivial ?_)
   cases H
   exact K_end (by kernel_rfl)
 · refine K_f (by kernel_rfl) (decide_eq_false hx9) ?_
   refine K_g (by kernel_rfl) ?_
   cases H
   exact K_exit0 rfl (by kernel_rfl)
def T_slices_Max_b354 (k : Nat) (p1 : List Int) : Option Int := match k with
 | 0 => none
 | k + 1 => (if (p1.length : Int) < 1 then none else ((at? p1 0).bind fun x2 => (loopT (T_slices_Max_b354_l1 k p1) k (x2, 1)).bind fun x11 => some x11))
abbrev C_T_slices_Max_b354 (k : Nat) (p1 : List Int) (r : Int) : Prop := evF X k n_slices_Max_b354 [(LI p1)] [] = some ((I r), [])
theorem T_slices_Max_b354_ok (k : Nat) (p1 : List Int) (r : Int) : T_slices_Max_b354 k p1 = some r → C_T_slices_Max_b354 k p1 r := by
 intro H
 cases k with
 | zero => simp [T_slices_Max_b354] at H
 | succ k =>
  simp only [T_slices_Max_b354] at H
  refine F_in X_slices_Max_b354 rfl ?_
  refine K_seq (K_r [] [] (by kernel_rfl) trivial ?_)
  refine K_seq (K_seq (K_r [.n p1.length] [((p1.map (D.int .i64))).length = p1.length] (by kernel_rfl) (A1 (List.length_map _)) ?_))
  rcases ite_some H with ⟨hx1, H⟩ | ⟨hx1, H⟩
  · refine K_t (by kernel_rfl) (decide_eq_true hx1) ?_
    cases H
  · refine K_f (by kernel_rfl) (decide_eq_false hx1) ?_
    refine K_g (by kernel_rfl) ?_
    refine K_skip ?_
    refine K_seq ?_
    obtain ⟨x2, hx2, H⟩ := bind_some' H
    refine K_r [.l [.int .i64 x2]] [(0 : Int) ≤ 0 ∧ 0 < (((p1.map (D.int .i64))).length : Int), ((p1.map (D.int .i64)).getD 0 (.int .i64 0)).cells = [.int .i64 x2]] (by kernel_rfl) (AC (at_ok hx2 (D.int .i64) (.int .i64 0)).1 (A1 (at_ok hx2 (D.int .i64) (.int .i64 0)).2)) ?_
    refine K_seq (K_seq (K_r [] [] (by kernel_rfl) trivial ?_))
    refine K_block (K_conv (σ' := ⟨[(0, (LI p1)), (3, (I x2)), (4, (I 1))], []⟩) (by kernel_rfl) ?_)
    obtain ⟨x11, hx11, H⟩ := bind_some' H
    refine K_loop ⟨[(3, (I x11))], []⟩ (loop_ok (fun (s : Int × Int) => ⟨[(0, (LI p1)), (3, (I s.1)), (4, (I s.2))], []⟩) (fun (r : Int) => (.exit 0, ⟨[(3, (I r))], []⟩)) (fun r h => by cases h) (T_slices_Max_b354_l1_ok k p1) k (x2, 1) x11 hx11) rfl ?_
    refine K_seq (K_r [] [] (by kernel_rfl) trivial ?_)
    refine K_g (by kernel_rfl) ?_
    cases H
    refine K_ret ?_
    kernel_rfl
def T_root_Quotient (k : Nat) (p1 : Int) (p2 : Int) : Option (Int × Int) := match k with
 | 0 => none
 | k + 1 => (if (((decide (p1 < (-2147483648)) || decide (2147483648 < p1)) || decide (p2 < 1)) || decide (4611686018427387904 < p2)) = true then some (0, 1) else (if p2 ≠ 0 then (T_root_Floor k (w64 ((w64 (p1 * p1)).tdiv p2))).bind fun x3 => (if 0 ≤ p1 then some (x3, 0) else (((if (w64 ((w64 (x3 * x3)) * p2)) < (w64 (p1 * p1)) then some (w64 (x3 + 1)) else some x3)).bind fun x6 => some ((w64 (0 - x6)), 0))) else none))
abbrev C_T_root_Quotient (k : Nat) (p1 : Int) (p2 : Int) (r : Int × Int) : Prop := evF X k n_root_Quotient [(I p1), (I p2)] [] = some ((.tup [(false, [cI r.1]), (false, [cI r.2])]), [])
theorem T_root_Quotient_ok (k : Nat) (p1 : Int) (p2 : Int) (r : Int × Int) : T_root_Quotient k p1 p2 = some r → C_T_root_Quotient k p1 p2 r := by
 intro H
 cases k with
 | zero => simp [T_root_Quotient] at H
 | succ k =>
  simp only [T_root_Quotient] at H
  refine F_in X_root_Quotient rfl ?_
  refine K_seq (K_r [] [] (by kernel_rfl) trivial ?_)
  refine K_seq (K_seq (K_r [.m, .m, .m] [([] : Heap) = [], ([] : Heap) = [], ([] : Heap) = []] (by kernel_rfl) (AC rfl (AC rfl (A1 rfl))) ?_))
  rcases ite_some H with ⟨hx1, H⟩ | ⟨hx1, H⟩
  · refine K_t (by kernel_rfl) hx1 ?_
    refine K_seq (K_r [] [] (by kernel_rfl) trivial ?_)
    refine K_g (by kernel_rfl) ?_
    cases H
    refine K_ret ?_
    kernel_rfl
  · refine K_f (by kernel_rfl) (Bool.eq_false_iff.2 hx1) ?_
    refine K_g (by kernel_rfl) ?_
    refine K_skip ?_
    refine K_seq ?_
    obtain ⟨hx2, H⟩ := guard_some H
    obtain ⟨x3, hx3, H⟩ := bind_some' H
    refine K_r [.r (I x3) []] [p2 ≠ (0 : Int), C_T_root_Floor k (w64 ((w64 (p1 * p1)).tdiv p2)) x3] (by kernel_rfl) (AC hx2 (A1 (T_root_Floor_ok k (w64 ((w64 (p1 * p1)).tdiv p2)) x3 hx3))) ?_
    refine K_seq (K_seq (K_r [] [] (by kernel_rfl) trivial ?_))
    rcases ite_some H with ⟨hx4, H⟩ | ⟨hx4, H⟩
    · refine K_t (by kernel_rfl) (decide_eq_true hx4) ?_
      refine K_seq (K_r [] [] (by kernel_rfl) trivial ?_)
      refine K_g (by kernel_rfl) ?_
      cases H
      refine K_ret ?_
      kernel_rfl
    · refine K_f (by kernel_rfl) (decide_eq_false hx4) ?_
      refine K_g (by kernel_rfl) ?_
      refine K_skip (K_seq (K_seq (K_r [] [] (by kernel_rfl) trivial ?_)))
      obtain ⟨x6, hx6, H⟩ := bind_some' H
      refine K_of ⟨[(6, (I x6))], []⟩ ?_ ?_
      · clear H; have H := hx6; clear hx6; refine K_in ?_
        rcases ite_some H with ⟨hx5, H⟩ | ⟨hx5, H⟩
        · refine K_t (by kernel_rfl) (decide_eq_true hx5) ?_
          refine K_r [] [] (by kernel_rfl) trivial ?_
          cases H
          exact K_end (by kernel_rfl)
        · refine K_f (by kernel_rfl) (decide_eq_false hx5) ?_
          refine K_g (by kernel_rfl) ?_
          refine K_skip ?_
          cases H
          exact K_end (by kernel_rfl)
      refine K_seq (K_r [] [] (by kernel_rfl) trivial ?_)
      refine K_g (by kernel_rfl) ?_
      cases H
      refine K_ret ?_
      kernel_rfl
def T_sketch_passed (k : Nat) (p1 : Int) (p2 : Int) (p3 : Int) : Option Unit := match k with
 | 0 => none
 | k + 1 => some ()
abbrev C_T_sketch_passed (k : Nat) (p1 : Int) (p2 : Int) (p3 : Int) (r : Unit) : Prop := evF X k n_sketch_passed [(I p1), (.agg [cI p2, cI p3])] [] = some ((I (imax (imax 0 (w64 ((w64 (16 * p2)) - (w64 (p1 + 1))))) (w64 (p1 - (w64 (16 * (w64 (p3 + 1)))))))), [])
theorem T_sketch_passed_ok (k : Nat) (p1 : Int) (p2 : Int) (p3 : Int) (r : Unit) : T_sketch_passed k p1 p2 p3 = some r → C_T_sketch_passed k p1 p2 p3 r := by
 intro H
 cases k with
 | zero => simp [T_sketch_passed] at H
 | succ k =>
  simp only [T_sketch_passed] at H
  refine F_in X_sketch_passed rfl ?_
  refine K_seq (K_r [] [] (by kernel_rfl) trivial ?_)
  refine K_seq (K_r [] [] (by kernel_rfl) trivial ?_)
  refine K_g (by kernel_rfl) ?_
  cases H
  refine K_ret ?_
  kernel_rfl
def T_sketch_fraction_plus (k : Nat) (p1 : Int) (p2 : Int) (p3 : Int) (p4 : Int) (p5 : Int) : Option Unit := match k with
 | 0 => none
 | k + 1 => (if p2 ≠ 0 then (if p4 ≠ 0 then some () else none) else none)
abbrev C_T_sketch_fraction_plus (k : Nat) (p1 : Int) (p2 : Int) (p3 : Int) (p4 : Int) (p5 : Int) (r : Unit) : Prop := evF X k n_sketch_fraction_plus [(.agg [cI p1, cI p2]), (.agg [cI p3, cI p4]), (I p5)] [] = some ((.agg [cI (w64 ((w64 (p1 * (w64 (p5.tdiv p2)))) + (w64 (p3 * (w64 (p5.tdiv p4)))))), cI p5]), [])
theorem T_sketch_fraction_plus_ok (k : Nat) (p1 : Int) (p2 : Int) (p3 : Int) (p4 : Int) (p5 : Int) (r : Unit) : T_sketch_fraction_plus k p1 p2 p3 p4 p5 = some r → C_T_sketch_fraction_plus k p1 p2 p3 p4 p5 r := by
 intro H
 cases k with
 | zero => simp [T_sketch_fraction_plus] at H
 | succ k =>
  simp only [T_sketch_fraction_plus] at H
  refine F_in X_sketch_fraction_plus rfl ?_
  refine K_seq (K_r [] [] (by kernel_rfl) trivial ?_)
  refine K_seq ?_
  obtain ⟨hx1, H⟩ := guard_some H
  obtain ⟨hx2, H⟩ := guard_some H
  refine K_r [] [p2 ≠ (0 : Int), p4 ≠ (0 : Int)] (by kernel_rfl) (AC hx1 (A1 hx2)) ?_
  refine K_g (by kernel_rfl) ?_
  cases H
  refine K_ret ?_
  kernel_rfl
def T_sketch_outside_l1 (k : Nat) (p1 : Int) (x1 : (List Int)) (p2 : List Int) (p3 : Int) (p4 : List (Int × Int)) (x7 : Int) (x11 : Int) (x18 : Bool) (x32 : Int × Int × Int × Bool) : Option ((Int × Int × Int × Bool) ⊕ ((Int × Int × Bool))) :=
 (if x32.1 < x11 then ((at? p4 x32.1).bind fun x34 => (at? p2 x32.1).bind fun x35 => (T_root_Quotient k (w64 (1024 * x35)) p3).bind fun x36 => (T_sketch_passed k x36.1 x34.1 x34.2).bind fun x37 => (if 1048576 < (imax (imax 0 (w64 ((w64 (16 * x34.1)) - (w64 (x36.1 + 1))))) (w64 (x36.1 - (w64 (16 * (w64 (x34.2 + 1))))))) then some (.inl ((w64 (x32.1 + 1)), x32.2.1, x32.2.2.1, true)) else ((at? x1 x32.1).bind fun x39 => (T_sketch_fraction_plus k x32.2.1 x32.2.2.1 (w64 ((imax (imax 0 (w64 ((w64 (16 * x34.1)) - (w64 (x36.1 + 1))))) (w64 (x36.1 - (w64 (16 * (w64 (x34.2 + 1))))))) * (imax (imax 0 (w64 ((w64 (16 * x34.1)) - (w64 (x36.1 + 1))))) (w64 (x36.1 - (w64 (16 * (w64 (x34.2 + 1))))))))) (w64 (2097152 * x39)) x7).bind fun x40 => ((if (w64 (2 * x7)) < (w64 ((w64 (x32.2.1 * (w64 (x7.tdiv x32.2.2.1)))) + (w64 ((w64 ((imax (imax 0 (w64 ((w64 (16 * x34.1)) - (w64 (x36.1 + 1))))) (w64 (x36.1 - (w64 (16 * (w64 (x34.2 + 1))))))) * (imax (imax 0 (w64 ((w64 (16 * x34.1)) - (w64 (x36.1 + 1))))) (w64 (x36.1 - (w64 (16 * (w64 (x34.2 + 1))))))))) * (w64 (x7.tdiv (w64 (2097152 * x39)))))))) then some (0, 1, true) else some ((w64 ((w64 (x32.2.1 * (w64 (x7.tdiv x32.2.2.1)))) + (w64 ((w64 ((imax (imax 0 (w64 ((w64 (16 * x34.1)) - (w64 (x36.1 + 1))))) (w64 (x36.1 - (w64 (16 * (w64 (x34.2 + 1))))))) * (imax (imax 0 (w64 ((w64 (16 * x34.1)) - (w64 (x36.1 + 1))))) (w64 (x36.1 - (w64 (16 * (w64 (x34.2 + 1))))))))) * (w64 (x7.tdiv (w64 (2097152 * x39)))))))), x7, x32.2.2.2))).bind fun x42 => some (.inl ((w64 (x32.1 + 1)), x42.1, x42.2.1, x42.2.2))))) else some (.inr (x32.2.1, x32.2.2.1, x32.2.2.2)))
theorem T_sketch_outside_l1_ok (k : Nat) (p1 : Int) (x1 : (List Int)) (p2 : List Int) (p3 : Int) (p4 : List (Int × Int)) (x7 : Int) (x11 : Int) (x18 : Bool) : ∀ (x32 : Int × Int × Int × Bool) (x : (Int × Int × Int × Bool) ⊕ ((Int × Int × Bool))), T_sketch_outside_l1 k p1 x1 p2 p3 p4 x7 x11 x18 x32 = some x → evC X (evF X k) k 0 l_sketch_outside_1 ⟨[(2, (Pt 0)), (4, (Pt 1)), (5, (LI x1)), (6, (I x7)), (7, (Pt 2)), (29, (.one (.d (.list (p4.map e_st0))))), (30, (I x11)), (31, (I x32.1))], [.cells [cI p1, cL p2, cI p3], .cells [cI 0, cI 0, cB x18], .cells [cI x32.2.1, cI x32.2.2.1, cB x32.2.2.2]]⟩ = some (outS (fun (s : Int × Int × Int × Bool) => ⟨[(2, (Pt 0)), (4, (Pt 1)), (5, (LI x1)), (6, (I x7)), (7, (Pt 2)), (29, (.one (.d (.list (p4.map e_st0))))), (30, (I x11)), (31, (I s.1))], [.cells [cI p1, cL p2, cI p3], .cells [cI 0, cI 0, cB x18], .cells [cI s.2.1, cI s.2.2.1, cB s.2.2.2]]⟩) (fun (r : (Int × Int × Bool)) => (.exit 0, ⟨[(4, (Pt 0)), (7, (Pt 1))], [.cells [cI 0, cI 0, cB x18], .cells [cI r.1, cI r.2.1, cB r.2.2]]⟩)) x) := by
 intro x32 x H
 unfold T_sketch_outside_l1 at H
 refine K_in ?_
 refine K_seq (K_r [] [] (by kernel_rfl) trivial ?_)
 refine K_seq ?_
 rcases ite_some H with ⟨hx33, H⟩ | ⟨hx33, H⟩
 · refine K_t (by kernel_rfl) (decide_eq_true hx33) ?_
   refine K_g (by kernel_rfl) ?_
   refine K_skip ?_
   refine K_seq ?_
   refine K_block ?_
   refine K_seq ?_
   obtain ⟨x34, hx34, H⟩ := bind_some' H
   refine K_r [.l [.int .i64 x34.1, .int .i64 x34.2]] [(0 : Int) ≤ x32.1 ∧ x32.1 < (((p4.map e_st0)).length : Int), ((p4.map e_st0).getD x32.1.toNat (.agg [(.int .i64 0), (.int .i64 0)])).cells = [.int .i64 x34.1, .int .i64 x34.2]] (by kernel_rfl) (AC (at_ok hx34 e_st0 (.agg [(.int .i64 0), (.int .i64 0)])).1 (A1 (at_ok hx34 e_st0 (.agg [(.int .i64 0), (.int .i64 0)])).2)) ?_
   refine K_seq ?_
   obtain ⟨x35, hx35, H⟩ := bind_some' H
   obtain ⟨x36, hx36, H⟩ := bind_some' H
   refine K_r [.l [.int .i64 x35], .r (.tup [(false, [cI x36.1]), (false, [cI x36.2])]) []] [(0 : Int) ≤ x32.1 ∧ x32.1 < (((p2.map (D.int .i64))).length : Int), ((p2.map (D.int .i64)).getD x32.1.toNat (.int .i64 0)).cells = [.int .i64 x35], C_T_root_Quotient k (w64 (1024 * x35)) p3 x36] (by kernel_rfl) (AC (at_ok hx35 (D.int .i64) (.int .i64 0)).1 (AC (at_ok hx35 (D.int .i64) (.int .i64 0)).2 (A1 (T_root_Quotient_ok k (w64 (1024 * x35)) p3 x36 hx36)))) ?_
   refine K_seq ?_
   obtain ⟨x37, hx37, H⟩ := bind_some' H
   refine K_r [.r (I (imax (imax 0 (w64 ((w64 (16 * x34.1)) - (w64 (x36.1 + 1))))) (w64 (x36.1 - (w64 (16 * (w64 (x34.2 + 1)))))))) []] [C_T_sketch_passed k x36.1 x34.1 x34.2 x37] (by kernel_rfl) (A1 (T_sketch_passed_ok k x36.1 x34.1 x34.2 x37 hx37)) ?_
   refine K_seq (K_seq (K_r [] [] (by kernel_rfl) trivial ?_))
   rcases ite_some H with ⟨hx38, H⟩ | ⟨hx38, H⟩
   · refine K_t (by kernel_rfl) (decide_eq_true hx38) ?_
     refine K_seq (K_r [] [] (by kernel_rfl) trivial ?_)
     refine K_g (by kernel_rfl) ?_
     refine K_exit rfl ?_
     refine K_r [] [] (by kernel_rfl) trivial ?_
     cases H
     exact K_end (by kernel_rfl)
   · refine K_f (by kernel_rfl) (decide_eq_false hx38) ?_
     refine K_g (by kernel_rfl) ?_
     refine K_skip ?_
     refine K_seq ?_
     obtain ⟨x39, hx39, H⟩ := bind_some' H
     obtain ⟨x40, hx40, H⟩ := bind_some' H
     refine K_r [.l [.int .i64 x39], .r (.agg [cI (w64 ((w64 (x32.2.1 * (w64 (x7.tdiv x32.2.2.1)))) + (w64 ((w64 ((imax (imax 0 (w64 ((w64 (16 * x34.1)) - (w64 (x36.1 + 1))))) (w64 (x36.1 - (w64 (16 * (w64 (x34.2 + 1))))))) * (imax (imax 0 (w64 ((w64 (16 * x34.1)) - (w64 (x36.1 + 1))))) (w64 (x36.1 - (w64 (16 * (w64 (x34.2 + 1))))))))) * (w64 (x7.tdiv (w64 (2097152 * x39)))))))), cI x7]) []] [(0 : Int) ≤ x32.1 ∧ x32.1 < (((x1.map (D.int .i64))).length : Int), ((x1.map (D.int .i64)).getD x32.1.toNat (.int .i64 0)).cells = [.int .i64 x39], C_T_sketch_fraction_plus k x32.2.1 x32.2.2.1 (w64 ((imax (imax 0 (w64 ((w64 (16 * x34.1)) - (w64 (x36.1 + 1))))) (w64 (x36.1 - (w64 (16 * (w64 (x34.2 + 1))))))) * (imax (imax 0 (w64 ((w64 (16 * x34.1)) - (w64 (x36.1 + 1))))) (w64 (x36.1 - (w64 (16 * (w64 (x34.2 + 1))))))))) (w64 (2097152 * x39)) x7 x40] (by kernel_rfl) (AC (at_ok hx39 (D.int .i64) (.int .i64 0)).1 (AC (at_ok hx39 (D.int .i64) (.int .i64 0)).2 (A1 (T_sketch_fraction_plus_ok k x32.2.1 x32.2.2.1 (w64 ((imax (imax 0 (w64 ((w64 (16 * x34.1)) - (w64 (x36.1 + 1))))) (w64 (x36.1 - (w64 (16 * (w64 (x34.2 + 1))))))) * (imax (imax 0 (w64 ((w64 (16 * x34.1)) - (w64 (x36.1 + 1))))) (w64 (x36.1 - (w64 (16 * (w64 (x34.2 + 1))))))))) (w64 (2097152 * x39)) x7 x40 hx40)))) ?_
     refine K_seq (K_r [] [] (by kernel_rfl) trivial ?_)
     obtain ⟨x42, hx42, H⟩ := bind_some' H
     refine K_of ⟨[(2, (Pt 0)), (4, (Pt 1)), (5, (LI x1)), (6, (I x7)), (7, (Pt 2)), (29, (.one (.d (.list (p4.map e_st0))))), (30, (I x11)), (31, (I x32.1))], [.cells [cI p1, cL p2, cI p3], .cells [cI 0, cI 0, cB x18], .cells [cI x42.1, cI x42.2.1, cB x42.2.2]]⟩ ?_ ?_
     · clear H; have H := hx42; clear hx42; refine K_in ?_
       rcases ite_some H with ⟨hx41, H⟩ | ⟨hx41, H⟩
       · refine K_t (by kernel_rfl) (decide_eq_true hx41) ?_
         refine K_seq (K_r [] [] (by kernel_rfl) trivial ?_)
         refine K_r [] [] (by kernel_rfl) trivial ?_
         cases H
         exact K_end (by kernel_rfl)
       · refine K_f (by kernel_rfl) (decide_eq_false hx41) ?_
         refine K_g (by kernel_rfl) ?_
         refine K_skip ?_
         cases H
         exact K_end (by kernel_rfl)
     refine K_blk (K_r [] [] (by kernel_rfl) trivial ?_)
     cases H
     exact K_end (by kernel_rfl)
 · refine K_f (by kernel_rfl) (decide_eq_false hx33) ?_
   refine K_g (by kernel_rfl) ?_
   cases H
   exact K_exit0 rfl (by kernel_rfl)
def T_sketch_outside (k : Nat) (p1 : Int) (p2 : List Int) (p3 : Int) (p4 : List (Int × Int)) : Option (Int × Int × Bool) := match k with
 | 0 => none
 | k + 1 => ((T_sketch_lengths k p1 p2 p3).bind fun x1 => (T_slices_Min_b354 k x1).bind fun x2 => (T_slices_Max_b354 k x1).bind fun x3 => (T_slices_Min_b354 k x1).bind fun x4 => ((if (!decide (x3 = x4)) = true then ((T_slices_Max_b354 k x1).bind fun x6 => some (w64 ((w64 (2097152 * x2)) * x6))) else some (w64 (2097152 * x2)))).bind fun x7 => (loopT (T_sketch_outside_l1 k p1 x1 p2 p3 p4 x7 (p4.length : Int) false) k (0, 0, 1, false)).bind fun x43 => some (x43.1, x43.2.1, x43.2.2))
abbrev C_T_sketch_outside (k : Nat) (p1 : Int) (p2 : List Int) (p3 : Int) (p4 : List (Int × Int)) (r : Int × Int × Bool) : Prop := evF X k n_sketch_outside [(.agg [cI p1, cL p2, cI p3]), (.one (.d (.list (p4.map e_st0))))] [] = some ((.agg [cI r.1, cI r.2.1, cB r.2.2]), [])
theorem T_sketch_outside_ok (k : Nat) (p1 : Int) (p2 : List Int) (p3 : Int) (p4 : List (Int × Int)) (r : Int × Int × Bool) : T_sketch_outside k p1 p2 p3 p4 = some r → C_T_sketch_outside k p1 p2 p3 p4 r := by
 intro H
 cases k with
 | zero => simp [T_sketch_outside] at H
 | succ k =>
  simp only [T_sketch_outside] at H
  refine F_in X_sketch_outside rfl ?_
  refine K_seq (K_r [] [] (by kernel_rfl) trivial ?_)
  refine K_seq ?_
  obtain ⟨x1, hx1, H⟩ := bind_some' H
  refine K_r [.r (LI x1) []] [C_T_sketch_lengths k p1 p2 p3 x1] (by kernel_rfl) (A1 (T_sketch_lengths_ok k p1 p2 p3 x1 hx1)) ?_
  refine K_seq ?_
  obtain ⟨x2, hx2, H⟩ := bind_some' H
  refine K_r [.r (I x2) []] [C_T_slices_Min_b354 k x1 x2] (by kernel_rfl) (A1 (T_slices_Min_b354_ok k x1 x2 hx2)) ?_
  refine K_seq ?_
  refine K_seq ?_
  obtain ⟨x3, hx3, H⟩ := bind_some' H
  obtain ⟨x4, hx4, H⟩ := bind_some' H
  refine K_r [.r (I x3) [], .r (I x4) []] [C_T_slices_Max_b354 k x1 x3, C_T_slices_Min_b354 k x1 x4] (by kernel_rfl) (AC (T_slices_Max_b354_ok k x1 x3 hx3) (A1 (T_slices_Min_b354_ok k x1 x4 hx4))) ?_
  obtain ⟨x7, hx7, H⟩ := bind_some' H
  refine K_of ⟨[(1, (.one (.d (.list (p4.map e_st0))))), (2, (Pt 0)), (4, (Pt 1)), (5, (LI x1)), (6, (I x7))], [.cells [cI p1, cL p2, cI p3], .cells [cI 0, cI 0, cB false]]⟩ ?_ ?_
  · clear H; have H := hx7; clear hx7; refine K_in ?_
    rcases ite_some H with ⟨hx5, H⟩ | ⟨hx5, H⟩
    · refine K_t (by kernel_rfl) hx5 ?_
      obtain ⟨x6, hx6, H⟩ := bind_some' H
      refine K_r [.r (I x6) []] [C_T_slices_Max_b354 k x1 x6] (by kernel_rfl) (A1 (T_slices_Max_b354_ok k x1 x6 hx6)) ?_
      cases H
      exact K_end (by kernel_rfl)
    · refine K_f (by kernel_rfl) (Bool.eq_false_iff.2 hx5) ?_
      refine K_g (by kernel_rfl) ?_
      refine K_skip ?_
      cases H
      exact K_end (by kernel_rfl)
  refine K_seq (K_r [] [] (by kernel_rfl) trivial ?_)
  refine K_seq (K_seq (K_r [.n p4.length] [((p4.map e_st0)).length = p4.length] (by kernel_rfl) (A1 (List.length_map _)) ?_))
  refine K_block (K_conv (σ' := ⟨[(2, (Pt 0)), (4, (Pt 1)), (5, (LI x1)), (6, (I x7)), (7, (Pt 2)), (29, (.one (.d (.list (p4.map e_st0))))), (30, (I (p4.length : Int))), (31, (I 0))], [.cells [cI p1, cL p2, cI p3], .cells [cI 0, cI 0, cB false], .cells [cI 0, cI 1, cB false]]⟩) (by kernel_rfl) ?_)
  obtain ⟨x43, hx43, H⟩ := bind_some' H
  refine K_loop ⟨[(4, (Pt 0)), (7, (Pt 1))], [.cells [cI 0, cI 0, cB false], .cells [cI x43.1, cI x43.2.1, cB x43.2.2]]⟩ (loop_ok (fun (s : Int × Int × Int × Bool) => ⟨[(2, (Pt 0)), (4, (Pt 1)), (5, (LI x1)), (6, (I x7)), (7, (Pt 2)), (29, (.one (.d (.list (p4.map e_st0))))), (30, (I (p4.length : Int))), (31, (I s.1))], [.cells [cI p1, cL p2, cI p3], .cells [cI 0, cI 0, cB false], .cells [cI s.2.1, cI s.2.2.1, cB s.2.2.2]]⟩) (fun (r : (Int × Int × Bool)) => (.exit 0, ⟨[(4, (Pt 0)), (7, (Pt 1))], [.cells [cI 0, cI 0, cB false], .cells [cI r.1, cI r.2.1, cB r.2.2]]⟩)) (fun r h => by cases h) (T_sketch_outside_l1_ok k p1 x1 p2 p3 p4 x7 (p4.length : Int) false) k (0, 0, 1, false) x43 hx43) rfl ?_
  refine K_seq (K_r [] [] (by kernel_rfl) trivial ?_)
  refine K_g (by kernel_rfl) ?_
  cases H
  refine K_ret ?_
  kernel_rfl
def T_sketch_Region_l1 (k : Nat) (p1 : Int) (p2 : List Int) (p3 : Int) (p4 : List (Int × Int)) (x7 : Int) (x17 : Bool × Int) : Option ((Bool × Int) ⊕ (Bool ⊕ Unit)) :=
 (if x17.2 < x7 then ((at? p4 x17.2).bind fun x19 => (if (decide ((imin x19.1 x19.2) < (-1099511627776)) || decide (1099511627776 < (imax x19.1 x19.2))) = true then some (.inr (.inr ())) else some (.inl ((x17.1 || decide (x19.2 < x19.1)), (w64 (x17.2 + 1)))))) else some (.inr (.inl x17.1)))
theorem T_sketch_Region_l1_ok (k : Nat) (p1 : Int) (p2 : List Int) (p3 : Int) (p4 : List (Int × Int)) (x7 : Int) : ∀ (x17 : Bool × Int) (x : (Bool × Int) ⊕ (Bool ⊕ Unit)), T_sketch_Region_l1 k p1 p2 p3 p4 x7 x17 = some x → evC X (evF X k) k 0 l_sketch_Region_1 ⟨[(1, (.one (.d (.list (p4.map e_st0))))), (2, (Pt 0)), (4, (Pt 1)), (6, (B x17.1)), (22, (.one (.d (.list (p4.map e_st0))))), (23, (I x7)), (24, (I x17.2))], [.cells [cI p1, cL p2, cI p3], .cells [cI 0, cI 0]]⟩ = some (outS (fun (s : Bool × Int) => ⟨[(1, (.one (.d (.list (p4.map e_st0))))), (2, (Pt 0)), (4, (Pt 1)), (6, (B s.1)), (22, (.one (.d (.list (p4.map e_st0))))), (23, (I x7)), (24, (I s.2))], [.cells [cI p1, cL p2, cI p3], .cells [cI 0, cI 0]]⟩) (fun (r : Bool ⊕ Unit) => Sum.elim (fun y => (.exit 0, ⟨[(1, (.one (.d (.list (p4.map e_st0))))), (2, (Pt 0)), (4, (Pt 1)), (6, (B y))], [.cells [cI p1, cL p2, cI p3], .cells [cI 0, cI 0]]⟩)) (fun y => (.ret, ⟨[(4, (Pt 0)), (5, (I 1))], [.cells [cI 0, cI 0]]⟩)) r) x) := by
 intro x17 x H
 unfold T_sketch_Region_l1 at H
 refine K_in ?_
 refine K_seq (K_r [] [] (by kernel_rfl) trivial ?_)
 refine K_seq ?_
 rcases ite_some H with ⟨hx18, H⟩ | ⟨hx18, H⟩
 · refine K_t (by kernel_rfl) (decide_eq_true hx18) ?_
   refine K_g (by kernel_rfl) ?_
   refine K_skip ?_
   refine K_seq ?_
   refine K_block ?_
   refine K_seq ?_
   obtain ⟨x19, hx19, H⟩ := bind_some' H
   refine K_r [.l [.int .i64 x19.1, .int .i64 x19.2]] [(0 : Int) ≤ x17.2 ∧ x17.2 < (((p4.map e_st0)).length : Int), ((p4.map e_st0).getD x17.2.toNat (.agg [(.int .i64 0), (.int .i64 0)])).cells = [.int .i64 x19.1, .int .i64 x19.2]] (by kernel_rfl) (AC (at_ok hx19 e_st0 (.agg [(.int .i64 0), (.int .i64 0)])).1 (A1 (at_ok hx19 e_st0 (.agg [(.int .i64 0), (.int .i64 0)])).2)) ?_
   refine K_seq (K_seq (K_r [.m] ((fun (z1 : Heap) => [z1 = z1]) [.cells [cI p1, cL p2, cI p3], .cells [cI 0, cI 0], .cells [cI x19.1, cI x19.2]]) (by kernel_rfl) (A1 rfl) ?_))
   rcases ite_some H with ⟨hx20, H⟩ | ⟨hx20, H⟩
   · refine K_t (by kernel_rfl) hx20 ?_
     refine K_seq (K_r [] [] (by kernel_rfl) trivial ?_)
     refine K_g (by kernel_rfl) ?_
     cases H
     exact K_ret (by kernel_rfl)
   · refine K_f (by kernel_rfl) (Bool.eq_false_iff.2 hx20) ?_
     refine K_g (by kernel_rfl) ?_
     refine K_skip (K_r [.m] ((fun (z1 : Heap) => [z1 = z1]) [.cells [cI p1, cL p2, cI p3], .cells [cI 0, cI 0], .cells [cI x19.1, cI x19.2]]) (by kernel_rfl) (A1 rfl) ?_)
     refine K_blk (K_r [] [] (by kernel_rfl) trivial ?_)
     cases H
     exact K_end (by kernel_rfl)
 · refine K_f (by kernel_rfl) (decide_eq_false hx18) ?_
   refine K_g (by kernel_rfl) ?_
   cases H
   exact K_exit0 rfl (by kernel_rfl)
def T_sketch_Region (k : Nat) (p1 : Int) (p2 : List Int) (p3 : Int) (p4 : List (Int × Int)) : Option (Int × Int × Int) := match k with
 | 0 => none
 | k + 1 => ((T_sketch_valid k p1 p2 p3).bind fun x1 => (if (!x1) = true then some (0, 0, 3) else (if (!decide ((p4.length : Int) = (p2.length : Int))) = true then some (0, 0, 8) else ((loopT (T_sketch_Region_l1 k p1 p2 p3 p4 (p4.length : Int)) k (false, 0)).bind fun x21 => (match x21 with | .inl x22 => (if x22 = true then ((T_ratio_Make k 0 1).bind fun x24 => some (x24.1, x24.2.1, x24.2.2)) else (if p3 = 0 then ((T_sketch_flat k p4).bind fun x26 => some (x26.1, x26.2.1, x26.2.2)) else ((T_sketch_outside k p1 p2 p3 p4).bind fun x27 => (if x27.2.2 = true then ((T_ratio_Make k 2 1).bind fun x29 => some (x29.1, x29.2.1, x29.2.2)) else (if (w64 (x27.2.1 - x27.1)) < 0 then ((T_ratio_Make k (w64 ((w64 (x27.2.1 * x27.2.1)) + (w64 ((w64 (x27.2.1 - x27.1)) * (w64 (x27.2.1 - x27.1)))))) (w64 (x27.2.1 * x27.2.1))).bind fun x31 => some (x31.1, x31.2.1, x31.2.2)) else ((T_ratio_Make k (w64 ((w64 (x27.2.1 * x27.2.1)) - (w64 ((w64 (x27.2.1 - x27.1)) * (w64 (x27.2.1 - x27.1)))))) (w64 (x27.2.1 * x27.2.1))).bind fun x32 => some (x32.1, x32.2.1, x32.2.2))))))) | .inr x33 => some (0, 0, 1))))))
abbrev C_T_sketch_Region (k : Nat) (p1 : Int) (p2 : List Int) (p3 : Int) (p4 : List (Int × Int)) (r : Int × Int × Int) : Prop := evF X k n_sketch_Region [(.agg [cI p1, cL p2, cI p3]), (.one (.d (.list (p4.map e_st0))))] [] = some ((.tup [(true, [cI r.1, cI r.2.1]), (false, [cI r.2.2])]), [])
theorem T_sketch_Region_ok (k : Nat) (p1 : Int) (p2 : List Int) (p3 : Int) (p4 : List (Int × Int)) (r : Int × Int × Int) : T_sketch_Region k p1 p2 p3 p4 = some r → C_T_sketch_Region k p1 p2 p3 p4 r := by
 intro H
 cases k with
 | zero => simp [T_sketch_Region] at H
 | succ k =>
  simp only [T_sketch_Region] at H
  refine F_in X_sketch_Region rfl ?_
  refine K_seq (K_r [] [] (by kernel_rfl) trivial ?_)
  refine K_seq ?_
  refine K_seq ?_
  obtain ⟨x1, hx1, H⟩ := bind_some' H
  refine K_r [.r (B x1) []] [C_T_sketch_valid k p1 p2 p3 x1] (by kernel_rfl) (A1 (T_sketch_valid_ok k p1 p2 p3 x1 hx1)) ?_
  rcases ite_some H with ⟨hx2, H⟩ | ⟨hx2, H⟩
  · refine K_t (by kernel_rfl) hx2 ?_
    refine K_seq (K_r [] [] (by kernel_rfl) trivial ?_)
    refine K_g (by kernel_rfl) ?_
    cases H
    refine K_ret ?_
    kernel_rfl
  · refine K_f (by kernel_rfl) (Bool.eq_false_iff.2 hx2) ?_
    refine K_g (by kernel_rfl) ?_
    refine K_skip (K_seq (K_seq (K_r [.n p4.length, .n p2.length] [((p4.map e_st0)).length = p4.length, ((p2.map (D.int .i64))).length = p2.length] (by kernel_rfl) (AC (List.length_map _) (A1 (List.length_map _))) ?_)))
    rcases ite_some H with ⟨hx3, H⟩ | ⟨hx3, H⟩
    · refine K_t (by kernel_rfl) hx3 ?_
      refine K_seq (K_r [] [] (by kernel_rfl) trivial ?_)
      refine K_g (by kernel_rfl) ?_
      cases H
      refine K_ret ?_
      kernel_rfl
    · refine K_f (by kernel_rfl) (Bool.eq_false_iff.2 hx3) ?_
      refine K_g (by kernel_rfl) ?_
      refine K_skip (K_seq (K_r [] [] (by kernel_rfl) trivial ?_))
      refine K_seq (K_seq (K_r [.n p4.length] [((p4.map e_st0)).length = p4.length] (by kernel_rfl) (A1 (List.length_map _)) ?_))
      refine K_block (K_conv (σ' := ⟨[(1, (.one (.d (.list (p4.map e_st0))))), (2, (Pt 0)), (4, (Pt 1)), (6, (B false)), (22, (.one (.d (.list (p4.map e_st0))))), (23, (I (p4.length : Int))), (24, (I 0))], [.cells [cI p1, cL p2, cI p3], .cells [cI 0, cI 0]]⟩) (by kernel_rfl) ?_)
      obtain ⟨x21, hx21, H⟩ := bind_some' H
      cases x21 with
      | inl x22 =>
       dsimp only at H
       refine K_loop ⟨[(1, (.one (.d (.list (p4.map e_st0))))), (2, (Pt 0)), (4, (Pt 1)), (6, (B x22))], [.cells [cI p1, cL p2, cI p3], .cells [cI 0, cI 0]]⟩ (loop_ok (fun (s : Bool × Int) => ⟨[(1, (.one (.d (.list (p4.map e_st0))))), (2, (Pt 0)), (4, (Pt 1)), (6, (B s.1)), (22, (.one (.d (.list (p4.map e_st0))))), (23, (I (p4.length : Int))), (24, (I s.2))], [.cells [cI p1, cL p2, cI p3], .cells [cI 0, cI 0]]⟩) (fun (r : Bool ⊕ Unit) => Sum.elim (fun y => (.exit 0, ⟨[(1, (.one (.d (.list (p4.map e_st0))))), (2, (Pt 0)), (4, (Pt 1)), (6, (B y))], [.cells [cI p1, cL p2, cI p3], .cells [cI 0, cI 0]]⟩)) (fun y => (.ret, ⟨[(4, (Pt 0)), (5, (I 1))], [.cells [cI 0, cI 0]]⟩)) r) (fun r h => by cases r <;> cases h) (T_sketch_Region_l1_ok k p1 p2 p3 p4 (p4.length : Int)) k (false, 0) (.inl x22) hx21) rfl ?_
       refine K_seq (K_seq (K_r [] [] (by kernel_rfl) trivial ?_))
       rcases ite_some H with ⟨hx23, H⟩ | ⟨hx23, H⟩
       · refine K_t (by kernel_rfl) hx23 ?_
         refine K_seq ?_
         obtain ⟨x24, hx24, H⟩ := bind_some' H
         refine K_r [.r (.tup [(true, [cI x24.1, cI x24.2.1]), (false, [cI x24.2.2])]) []] [C_T_ratio_Make k 0 1 x24] (by kernel_rfl) (A1 (T_ratio_Make_ok k 0 1 x24 hx24)) ?_
         refine K_g (by kernel_rfl) ?_
         cases H
         refine K_ret ?_
         kernel_rfl
       · refine K_f (by kernel_rfl) (Bool.eq_false_iff.2 hx23) ?_
         refine K_g (by kernel_rfl) ?_
         refine K_skip (K_seq (K_seq (K_r [] [] (by kernel_rfl) trivial ?_)))
         rcases ite_some H with ⟨hx25, H⟩ | ⟨hx25, H⟩
         · refine K_t (by kernel_rfl) (decide_eq_true hx25) ?_
           refine K_seq ?_
           obtain ⟨x26, hx26, H⟩ := bind_some' H
           refine K_r [.r (.tup [(true, [cI x26.1, cI x26.2.1]), (false, [cI x26.2.2])]) []] [C_T_sketch_flat k p4 x26] (by kernel_rfl) (A1 (T_sketch_flat_ok k p4 x26 hx26)) ?_
           refine K_g (by kernel_rfl) ?_
           cases H
           refine K_ret ?_
           kernel_rfl
         · refine K_f (by kernel_rfl) (decide_eq_false hx25) ?_
           refine K_g (by kernel_rfl) ?_
           refine K_skip ?_
           refine K_seq ?_
           obtain ⟨x27, hx27, H⟩ := bind_some' H
           refine K_r [.r (.agg [cI x27.1, cI x27.2.1, cB x27.2.2]) []] [C_T_sketch_outside k p1 p2 p3 p4 x27] (by kernel_rfl) (A1 (T_sketch_outside_ok k p1 p2 p3 p4 x27 hx27)) ?_
           refine K_seq (K_r [] [] (by kernel_rfl) trivial ?_)
           refine K_seq (K_block (K_seq (K_r [] [] (by kernel_rfl) trivial ?_)))
           rcases ite_some H with ⟨hx28, H⟩ | ⟨hx28, H⟩
           · refine K_t (by kernel_rfl) hx28 ?_
             refine K_seq ?_
             obtain ⟨x29, hx29, H⟩ := bind_some' H
             refine K_r [.r (.tup [(true, [cI x29.1, cI x29.2.1]), (false, [cI x29.2.2])]) []] [C_T_ratio_Make k 2 1 x29] (by kernel_rfl) (A1 (T_ratio_Make_ok k 2 1 x29 hx29)) ?_
             refine K_g (by kernel_rfl) ?_
             cases H
             refine K_ret ?_
             kernel_rfl
           · refine K_f (by kernel_rfl) (Bool.eq_false_iff.2 hx28) ?_
             refine K_seq (K_r [] [] (by kernel_rfl) trivial ?_)
             rcases ite_some H with ⟨hx30, H⟩ | ⟨hx30, H⟩
             · refine K_t (by kernel_rfl) (decide_eq_true hx30) ?_
               refine K_seq ?_
               obtain ⟨x31, hx31, H⟩ := bind_some' H
               refine K_r [.r (.tup [(true, [cI x31.1, cI x31.2.1]), (false, [cI x31.2.2])]) []] [C_T_ratio_Make k (w64 ((w64 (x27.2.1 * x27.2.1)) + (w64 ((w64 (x27.2.1 - x27.1)) * (w64 (x27.2.1 - x27.1)))))) (w64 (x27.2.1 * x27.2.1)) x31] (by kernel_rfl) (A1 (T_ratio_Make_ok k (w64 ((w64 (x27.2.1 * x27.2.1)) + (w64 ((w64 (x27.2.1 - x27.1)) * (w64 (x27.2.1 - x27.1)))))) (w64 (x27.2.1 * x27.2.1)) x31 hx31)) ?_
               refine K_g (by kernel_rfl) ?_
               cases H
               refine K_ret ?_
               kernel_rfl
             · refine K_f (by kernel_rfl) (decide_eq_false hx30) ?_
               refine K_g (by kernel_rfl) ?_
               refine K_skip ?_
               refine K_blk ?_
               refine K_seq ?_
               obtain ⟨x32, hx32, H⟩ := bind_some' H
               refine K_r [.r (.tup [(true, [cI x32.1, cI x32.2.1]), (false, [cI x32.2.2])]) []] [C_T_ratio_Make k (w64 ((w64 (x27.2.1 * x27.2.1)) - (w64 ((w64 (x27.2.1 - x27.1)) * (w64 (x27.2.1 - x27.1)))))) (w64 (x27.2.1 * x27.2.1)) x32] (by kernel_rfl) (A1 (T_ratio_Make_ok k (w64 ((w64 (x27.2.1 * x27.2.1)) - (w64 ((w64 (x27.2.1 - x27.1)) * (w64 (x27.2.1 - x27.1)))))) (w64 (x27.2.1 * x27.2.1)) x32 hx32)) ?_
               refine K_g (by kernel_rfl) ?_
               cases H
               refine K_ret ?_
               kernel_rfl
      | inr x33 =>
       dsimp only at H
       cases H
       refine K_loopr ⟨[(4, (Pt 0)), (5, (I 1))], [.cells [cI 0, cI 0]]⟩ (loop_ok (fun (s : Bool × Int) => ⟨[(1, (.one (.d (.list (p4.map e_st0))))), (2, (Pt 0)), (4, (Pt 1)), (6, (B s.1)), (22, (.one (.d (.list (p4.map e_st0))))), (23, (I (p4.length : Int))), (24, (I s.2))], [.cells [cI p1, cL p2, cI p3], .cells [cI 0, cI 0]]⟩) (fun (r : Bool ⊕ Unit) => Sum.elim (fun y => (.exit 0, ⟨[(1, (.one (.d (.list (p4.map e_st0))))), (2, (Pt 0)), (4, (Pt 1)), (6, (B y))], [.cells [cI p1, cL p2, cI p3], .cells [cI 0, cI 0]]⟩)) (fun y => (.ret, ⟨[(4, (Pt 0)), (5, (I 1))], [.cells [cI 0, cI 0]]⟩)) r) (fun r h => by cases r <;> cases h) (T_sketch_Region_l1_ok k p1 p2 p3 p4 (p4.length : Int)) k (false, 0) (.inr x33) hx21) ?_
       kernel_rfl
def T_ref19_Empty_l1 (k : Nat) (p1 : List (Int × Int)) (x2 : Int) (x7 : Int) : Option (Int ⊕ (Unit ⊕ Unit)) :=
 (if x7 < x2 then ((at? p1 x7).bind fun x9 => (if x9.2 < x9.1 then some (.inr (.inr ())) else some (.inl (w64 (x7 + 1))))) else some (.inr (.inl ())))
theorem T_ref19_Empty_l1_ok (k : Nat) (p1 : List (Int × Int)) (x2 : Int) : ∀ (x7 : Int) (x : Int ⊕ (Unit ⊕ Unit)), T_ref19_Empty_l1 k p1 x2 x7 = some x → evC X (evF X k) k 0 l_ref19_Empty_1 ⟨[(0, (.one (.d (.list (p1.map e_st0))))), (5, (I x2)), (6, (I x7))], []⟩ = some (outS (fun (s : Int) => ⟨[(0, (.one (.d (.list (p1.map e_st0))))), (5, (I x2)), (6, (I s))], []⟩) (fun (r : Unit ⊕ Unit) => Sum.elim (fun y => (.exit 0, ⟨[], []⟩)) (fun y => (.ret, ⟨[(2, (B true))], []⟩)) r) x) := by
 intro x7 x H
 unfold T_ref19_Empty_l1 at H
 refine K_in ?_
 refine K_seq (K_r [] [] (by kernel_rfl) trivial ?_)
 refine K_seq ?_
 rcases ite_some H with ⟨hx8, H⟩ | ⟨hx8, H⟩
 · refine K_t (by kernel_rfl) (decide_eq_true hx8) ?_
   refine K_g (by kernel_rfl) ?_
   refine K_skip (K_seq (K_block (K_seq (K_r [] [] (by kernel_rfl) trivial ?_))))
   refine K_seq ?_
   obtain ⟨x9, hx9, H⟩ := bind_some' H
   refine K_r [.l [.int .i64 x9.1, .int .i64 x9.2], .l [.int .i64 x9.1, .int .i64 x9.2]] [(0 : Int) ≤ x7 ∧ x7 < (((p1.map e_st0)).length : Int), ((p1.map e_st0).getD x7.toNat (.agg [(.int .i64 0), (.int .i64 0)])).cells = [.int .i64 x9.1, .int .i64 x9.2], (0 : Int) ≤ x7 ∧ x7 < (((p1.map e_st0)).length : Int), ((p1.map e_st0).getD x7.toNat (.agg [(.int .i64 0), (.int .i64 0)])).cells = [.int .i64 x9.1, .int .i64 x9.2]] (by kernel_rfl) (AC (at_ok hx9 e_st0 (.agg [(.int .i64 0), (.int .i64 0)])).1 (AC (at_ok hx9 e_st0 (.agg [(.int .i64 0), (.int .i64 0)])).2 (AC (at_ok hx9 e_st0 (.agg [(.int .i64 0), (.int .i64 0)])).1 (A1 (at_ok hx9 e_st0 (.agg [(.int .i64 0), (.int .i64 0)])).2)))) ?_
   rcases ite_some H with ⟨hx10, H⟩ | ⟨hx10, H⟩
   · refine K_t (by kernel_rfl) (decide_eq_true hx10) ?_
     refine K_seq (K_r [] [] (by kernel_rfl) trivial ?_)
     refine K_g (by kernel_rfl) ?_
     cases H
     exact K_ret (by kernel_rfl)
   · refine K_f (by kernel_rfl) (decide_eq_false hx10) ?_
     refine K_g (by kernel_rfl) ?_
     refine K_skip (K_blk (K_r [] [] (by kernel_rfl) trivial ?_))
     cases H
     exact K_end (by kernel_rfl)
 · refine K_f (by kernel_rfl) (decide_eq_false hx8) ?_
   refine K_g (by kernel_rfl) ?_
   cases H
   exact K_exit0 rfl (by kernel_rfl)
def T_ref19_Empty (k : Nat) (p1 : List (Int × Int)) : Option Bool := match k with
 | 0 => none
 | k + 1 => ((loopT (T_ref19_Empty_l1 k p1 (p1.length : Int)) k 0).bind fun x11 => (match x11 with | .inl x12 => some false | .inr x13 => some true))
abbrev C_T_ref19_Empty (k : Nat) (p1 : List (Int × Int)) (r : Bool) : Prop := evF X k n_ref19_Empty [(.one (.d (.list (p1.map e_st0))))] [] = some ((B r), [])
theorem T_ref19_Empty_ok (k : Nat) (p1 : List (Int × Int)) (r : Bool) : T_ref19_Empty k p1 = some r → C_T_ref19_Empty k p1 r := by
 intro H
 cases k with
 | zero => simp [T_ref19_Empty] at H
 | succ k =>
  simp only [T_ref19_Empty] at H
  refine F_in X_ref19_Empty rfl ?_
  refine K_seq (K_r [] [] (by kernel_rfl) trivial ?_)
  refine K_seq (K_seq (K_r [.n p1.length] [((p1.map e_st0)).length = p1.length] (by kernel_rfl) (A1 (List.length_map _)) ?_))
  refine K_block (K_conv (σ' := ⟨[(0, (.one (.d (.list (p1.map e_st0))))), (5, (I (p1.length : Int))), (6, (I 0))], []⟩) (by kernel_rfl) ?_)
  obtain ⟨x11, hx11, H⟩ := bind_some' H
  cases x11 with
  | inl x12 =>
   dsimp only at H
   refine K_loop ⟨[], []⟩ (loop_ok (fun (s : Int) => ⟨[(0, (.one (.d (.list (p1.map e_st0))))), (5, (I (p1.length : Int))), (6, (I s))], []⟩) (fun (r : Unit ⊕ Unit) => Sum.elim (fun y => (.exit 0, ⟨[], []⟩)) (fun y => (.ret, ⟨[(2, (B true))], []⟩)) r) (fun r h => by cases r <;> cases h) (T_ref19_Empty_l1_ok k p1 (p1.length : Int)) k 0 (.inl x12) hx11) rfl ?_
   refine K_seq (K_r [] [] (by kernel_rfl) trivial ?_)
   refine K_g (by kernel_rfl) ?_
   cases H
   refine K_ret ?_
   kernel_rfl
  | inr x13 =>
   dsimp only at H
   cases H
   refine K_loopr ⟨[(2, (B true))], []⟩ (loop_ok (fun (s : Int) => ⟨[(0, (.one (.d (.list (p1.map e_st0))))), (5, (I (p1.length : Int))), (6, (I s))], []⟩) (fun (r : Unit ⊕ Unit) => Sum.elim (fun y => (.exit 0, ⟨[], []⟩)) (fun y => (.ret, ⟨[(2, (B true))], []⟩)) r) (fun r h => by cases r <;> cases h) (T_ref19_Empty_l1_ok k p1 (p1.length : Int)) k 0 (.inr x13) hx11) ?_
   kernel_rfl
def T_ref02_Quotient (k : Nat) (p1 : Int) (p2 : Int) : Option (Int × Int) := match k with
 | 0 => none
 | k + 1 => (if (((decide (p1 < (-2147483648)) || decide (2147483648 < p1)) || decide (p2 < 1)) || decide (4611686018427387904 < p2)) = true then some (0, 1) else (if p2 ≠ 0 then (if 0 ≤ p1 then ((T_ref02_Floor k (w64 ((w64 (p1 * p1)).tdiv p2))).bind fun x4 => some (x4, 0)) else (if p2 ≠ 0 then ((if (!decide (((w64 (p1 * p1)).tmod p2) = 0)) = true then some (w64 ((w64 ((w64 (p1 * p1)).tdiv p2)) + 1)) else some (w64 ((w64 (p1 * p1)).tdiv p2)))).bind fun x7 => (T_ref02_Ceil k x7).bind fun x8 => some ((w64 (0 - x8)), 0) else none)) else none))
abbrev C_T_ref02_Quotient (k : Nat) (p1 : Int) (p2 : Int) (r : Int × Int) : Prop := evF X k n_ref02_Quotient [(I p1), (I p2)] [] = some ((.tup [(false, [cI r.1]), (false, [cI r.2])]), [])
theorem T_ref02_Quotient_ok (k : Nat) (p1 : Int) (p2 : Int) (r : Int × Int) : T_ref02_Quotient k p1 p2 = some r → C_T_ref02_Quotient k p1 p2 r := by
 intro H
 cases k with
 | zero => simp [T_ref02_Quotient] at H
 | succ k =>
  simp only [T_ref02_Quotient] at H
  refine F_in X_ref02_Quotient rfl ?_
  refine K_seq (K_r [] [] (by kernel_rfl) trivial ?_)
  refine K_seq (K_seq (K_r [.m, .m, .m] [([] : Heap) = [], ([] : Heap) = [], ([] : Heap) = []] (by kernel_rfl) (AC rfl (AC rfl (A1 rfl))) ?_))
  rcases ite_some H with ⟨hx1, H⟩ | ⟨hx1, H⟩
  · refine K_t (by kernel_rfl) hx1 ?_
    refine K_seq (K_r [] [] (by kernel_rfl) trivial ?_)
    refine K_g (by kernel_rfl) ?_
    cases H
    refine K_ret ?_
    kernel_rfl
  · refine K_f (by kernel_rfl) (Bool.eq_false_iff.2 hx1) ?_
    refine K_g (by kernel_rfl) ?_
    refine K_skip ?_
    refine K_seq ?_
    obtain ⟨hx2, H⟩ := guard_some H
    refine K_r [] [p2 ≠ (0 : Int)] (by kernel_rfl) (A1 hx2) ?_
    refine K_seq (K_seq (K_r [] [] (by kernel_rfl) trivial ?_))
    rcases ite_some H with ⟨hx3, H⟩ | ⟨hx3, H⟩
    · refine K_t (by kernel_rfl) (decide_eq_true hx3) ?_
      refine K_seq ?_
      obtain ⟨x4, hx4, H⟩ := bind_some' H
      refine K_r [.r (I x4) []] [C_T_ref02_Floor k (w64 ((w64 (p1 * p1)).tdiv p2)) x4] (by kernel_rfl) (A1 (T_ref02_Floor_ok k (w64 ((w64 (p1 * p1)).tdiv p2)) x4 hx4)) ?_
      refine K_g (by kernel_rfl) ?_
      cases H
      refine K_ret ?_
      kernel_rfl
    · refine K_f (by kernel_rfl) (decide_eq_false hx3) ?_
      refine K_g (by kernel_rfl) ?_
      refine K_skip ?_
      refine K_seq ?_
      refine K_seq ?_
      obtain ⟨hx5, H⟩ := guard_some H
      refine K_r [] [p2 ≠ (0 : Int)] (by kernel_rfl) (A1 hx5) ?_
      obtain ⟨x7, hx7, H⟩ := bind_some' H
      refine K_of ⟨[(6, (I x7))], []⟩ ?_ ?_
      · clear H; have H := hx7; clear hx7; refine K_in ?_
        rcases ite_some H with ⟨hx6, H⟩ | ⟨hx6, H⟩
        · refine K_t (by kernel_rfl) hx6 ?_
          refine K_r [] [] (by kernel_rfl) trivial ?_
          cases H
          exact K_end (by kernel_rfl)
        · refine K_f (by kernel_rfl) (Bool.eq_false_iff.2 hx6) ?_
          refine K_g (by kernel_rfl) ?_
          refine K_skip ?_
          cases H
          exact K_end (by kernel_rfl)
      refine K_seq ?_
      obtain ⟨x8, hx8, H⟩ := bind_some' H
      refine K_r [.r (I x8) []] [C_T_ref02_Ceil k x7 x8] (by kernel_rfl) (A1 (T_ref02_Ceil_ok k x7 x8 hx8)) ?_
      refine K_g (by kernel_rfl) ?_
      cases H
      refine K_ret ?_
      kernel_rfl
def T_ref18_Squares_l1 (k : Nat) (p1 : Nat) (p2 : List Int) (p3 : Int) (p4 : List Int) (x6 : Int) (x8 : Int) (x19 : Int × Int) : Option ((Int × Int) ⊕ Int) :=
 (if x19.2 < x8 then (if (0 : Int) ≤ x19.2 ∧ x19.2 < ((p1 : Nat) : Int) then (p4[(0 + x19.2.toNat)]?).bind fun x22 => (at? p2 (w64 (x19.2 + 1))).bind fun x23 => (at? p2 x19.2).bind fun x24 => (if (w64 (x23 - x24)) ≠ 0 then some (.inl ((w64 (x19.1 + (w64 ((w64 (x22 * x22)) * (w64 ((w64 (x6 * (w64 (x6 + 1)))).tdiv (w64 (x23 - x24)))))))), (w64 (x19.2 + 1)))) else none) else none) else some (.inr x19.1))
theorem T_ref18_Squares_l1_ok (k : Nat) (p1 : Nat) (p2 : List Int) (p3 : Int) (p4 : List Int) (x6 : Int) (x8 : Int) : ∀ (x19 : Int × Int) (x : (Int × Int) ⊕ Int), T_ref18_Squares_l1 k p1 p2 p3 p4 x6 x8 x19 = some x → evC X (evF X k) k 1 l_ref18_Squares_1 ⟨[(0, (.one (.own 0 0 p1))), (1, (LI p2)), (2, (I p3)), (6, (Pt 1)), (7, (I x6)), (8, (I x19.1)), (23, (I x8)), (24, (I x19.2))], [VI p4, .cells [cI 0, cI 0]]⟩ = some (outS (fun (s : Int × Int) => ⟨[(0, (.one (.own 0 0 p1))), (1, (LI p2)), (2, (I p3)), (6, (Pt 1)), (7, (I x6)), (8, (I s.1)), (23, (I x8)), (24, (I s.2))], [VI p4, .cells [cI 0, cI 0]]⟩) (fun (r : Int) => (.exit 0, ⟨[(2, (I p3)), (6, (Pt 1)), (7, (I x6)), (8, (I r))], [VI p4, .cells [cI 0, cI 0]]⟩)) x) := by
 intro x19 x H
 unfold T_ref18_Squares_l1 at H
 refine K_in ?_
 refine K_seq (K_r [] [] (by kernel_rfl) trivial ?_)
 refine K_seq ?_
 rcases ite_some H with ⟨hx20, H⟩ | ⟨hx20, H⟩
 · refine K_t (by kernel_rfl) (decide_eq_true hx20) ?_
   refine K_g (by kernel_rfl) ?_
   refine K_skip (K_seq (K_block (K_seq (K_r [] [] (by kernel_rfl) trivial ?_))))
   obtain ⟨hx21, H⟩ := guard_some H
   obtain ⟨x22, hx22, H⟩ := bind_some' H
   obtain ⟨x23, hx23, H⟩ := bind_some' H
   obtain ⟨x24, hx24, H⟩ := bind_some' H
   obtain ⟨hx25, H⟩ := guard_some H
   refine K_r [.l [.int .i64 x22], .l [.int .i64 x22], .l [.int .i64 x23], .l [.int .i64 x24]] [(0 : Int) ≤ x19.2 ∧ x19.2 < ((p1 : Nat) : Int), ((p4.map (D.int .i64)).getD (0 + x19.2.toNat) (.int .i64 0)).cells = [.int .i64 x22], (0 : Int) ≤ x19.2 ∧ x19.2 < ((p1 : Nat) : Int), ((p4.map (D.int .i64)).getD (0 + x19.2.toNat) (.int .i64 0)).cells = [.int .i64 x22], (0 : Int) ≤ (w64 (x19.2 + 1)) ∧ (w64 (x19.2 + 1)) < (((p2.map (D.int .i64))).length : Int), ((p2.map (D.int .i64)).getD (w64 (x19.2 + 1)).toNat (.int .i64 0)).cells = [.int .i64 x23], (0 : Int) ≤ x19.2 ∧ x19.2 < (((p2.map (D.int .i64))).length : Int), ((p2.map (D.int .i64)).getD x19.2.toNat (.int .i64 0)).cells = [.int .i64 x24], (w64 (x23 - x24)) ≠ (0 : Int)] (by kernel_rfl) (AC hx21 (AC (ld_ok hx22 (D.int .i64) (.int .i64 0)) (AC hx21 (AC (ld_ok hx22 (D.int .i64) (.int .i64 0)) (AC (at_ok hx23 (D.int .i64) (.int .i64 0)).1 (AC (at_ok hx23 (D.int .i64) (.int .i64 0)).2 (AC (at_ok hx24 (D.int .i64) (.int .i64 0)).1 (AC (at_ok hx24 (D.int .i64) (.int .i64 0)).2 (A1 hx25))))))))) ?_
   refine K_blk (K_r [] [] (by kernel_rfl) trivial ?_)
   cases H
   exact K_end (by kernel_rfl)
 · refine K_f (by kernel_rfl) (decide_eq_false hx20) ?_
   refine K_g (by kernel_rfl) ?_
   cases H
   exact K_exit0 rfl (by kernel_rfl)
def T_ref18_Squares (k : Nat) (p1 : Nat) (p2 : List Int) (p3 : Int) (p4 : List Int) : Option (Int × Int) := match k with
 | 0 => none
 | k + 1 => (at? p2 (w64 ((p2.length : Int) - 1))).bind fun x1 => (if (w64 ((p2.length : Int) - 1)) ≠ 0 then (loopT (T_ref18_Squares_l1 k p1 p2 p3 p4 (w64 (x1.tdiv (w64 ((p2.length : Int) - 1)))) ((p1 : Nat) : Int)) k (0, 0)).bind fun x26 => (T_ref01_Make k x26 (w64 ((w64 ((w64 (x1.tdiv (w64 ((p2.length : Int) - 1)))) * (w64 ((w64 (x1.tdiv (w64 ((p2.length : Int) - 1)))) + 1)))) * p3))).bind fun x27 => some (x27.1, x27.2.1) else none)
abbrev C_T_ref18_Squares (k : Nat) (p1 : Nat) (p2 : List Int) (p3 : Int) (p4 : List Int) (r : Int × Int) : Prop := evF X k n_ref18_Squares [(.one (.own 0 0 p1)), (LI p2), (I p3)] [VI p4] = some ((.agg [cI r.1, cI r.2]), [VI p4])
theorem T_ref18_Squares_ok (k : Nat) (p1 : Nat) (p2 : List Int) (p3 : Int) (p4 : List Int) (r : Int × Int) : T_ref18_Squares k p1 p2 p3 p4 = some r → C_T_ref18_Squares k p1 p2 p3 p4 r := by
 intro H
 cases k with
 | zero => simp [T_ref18_Squares] at H
 | succ k =>
  simp only [T_ref18_Squares] at H
  refine F_in X_ref18_Squares rfl ?_
  refine K_seq (K_r [] [] (by kernel_rfl) trivial ?_)
  refine K_seq ?_
  obtain ⟨x1, hx1, H⟩ := bind_some' H
  obtain ⟨hx2, H⟩ := guard_some H
  refine K_r [.n p2.length, .l [.int .i64 x1], .n p2.length] [((p2.map (D.int .i64))).length = p2.length, (0 : Int) ≤ (w64 ((p2.length : Int) - 1)) ∧ (w64 ((p2.length : Int) - 1)) < (((p2.map (D.int .i64))).length : Int), ((p2.map (D.int .i64)).getD (w64 ((p2.length : Int) - 1)).toNat (.int .i64 0)).cells = [.int .i64 x1], ((p2.map (D.int .i64))).length = p2.length, (w64 ((p2.length : Int) - 1)) ≠ (0 : Int)] (by kernel_rfl) (AC (List.length_map _) (AC (at_ok hx1 (D.int .i64) (.int .i64 0)).1 (AC (at_ok hx1 (D.int .i64) (.int .i64 0)).2 (AC (List.length_map _) (A1 hx2))))) ?_
  refine K_seq (K_r [] [] (by kernel_rfl) trivial ?_)
  refine K_seq (K_seq (K_r [] [] (by kernel_rfl) trivial ?_))
  refine K_block (K_conv (σ' := ⟨[(0, (.one (.own 0 0 p1))), (1, (LI p2)), (2, (I p3)), (6, (Pt 1)), (7, (I (w64 (x1.tdiv (w64 ((p2.length : Int) - 1)))))), (8, (I 0)), (23, (I ((p1 : Nat) : Int))), (24, (I 0))], [VI p4, .cells [cI 0, cI 0]]⟩) (by kernel_rfl) ?_)
  obtain ⟨x26, hx26, H⟩ := bind_some' H
  refine K_loop ⟨[(2, (I p3)), (6, (Pt 1)), (7, (I (w64 (x1.tdiv (w64 ((p2.length : Int) - 1)))))), (8, (I x26))], [VI p4, .cells [cI 0, cI 0]]⟩ (loop_ok (fun (s : Int × Int) => ⟨[(0, (.one (.own 0 0 p1))), (1, (LI p2)), (2, (I p3)), (6, (Pt 1)), (7, (I (w64 (x1.tdiv (w64 ((p2.length : Int) - 1)))))), (8, (I s.1)), (23, (I ((p1 : Nat) : Int))), (24, (I s.2))], [VI p4, .cells [cI 0, cI 0]]⟩) (fun (r : Int) => (.exit 0, ⟨[(2, (I p3)), (6, (Pt 1)), (7, (I (w64 (x1.tdiv (w64 ((p2.length : Int) - 1)))))), (8, (I r))], [VI p4, .cells [cI 0, cI 0]]⟩)) (fun r h => by cases h) (T_ref18_Squares_l1_ok k p1 p2 p3 p4 (w64 (x1.tdiv (w64 ((p2.length : Int) - 1)))) ((p1 : Nat) : Int)) k (0, 0) x26 hx26) rfl ?_
  refine K_seq ?_
  obtain ⟨x27, hx27, H⟩ := bind_some' H
  refine K_r [.r (.tup [(true, [cI x27.1, cI x27.2.1]), (false, [cI x27.2.2])]) []] [C_T_ref01_Make k x26 (w64 ((w64 ((w64 (x1.tdiv (w64 ((p2.length : Int) - 1)))) * (w64 ((w64 (x1.tdiv (w64 ((p2.length : Int) - 1)))) + 1)))) * p3)) x27] (by kernel_rfl) (A1 (T_ref01_Make_ok k x26 (w64 ((w64 ((w64 (x1.tdiv (w64 ((p2.length : Int) - 1)))) * (w64 ((w64 (x1.tdiv (w64 ((p2.length : Int) - 1)))) + 1)))) * p3)) x27 hx27)) ?_
  refine K_seq (K_r [] [] (by kernel_rfl) trivial ?_)
  refine K_g (by kernel_rfl) ?_
  cases H
  refine K_ret ?_
  kernel_rfl
def T_ref01_order (k : Nat) (p1 : Int) (p2 : Int) (p3 : Int) (p4 : Int) : Option Int := match k with
 | 0 => none
 | k + 1 => (if p2 ≠ 0 then (if p4 ≠ 0 then (if (!decide ((w64 (p1.tdiv p2)) = (w64 (p3.tdiv p4)))) = true then (if (w64 (p1.tdiv p2)) < (w64 (p3.tdiv p4)) then some (-1) else some 1) else (if p2 ≠ 0 then (if p4 ≠ 0 then (if (decide ((p1.tmod p2) = 0) && decide ((p3.tmod p4) = 0)) = true then some 0 else (if (p1.tmod p2) = 0 then some (-1) else (if (p3.tmod p4) = 0 then some 1 else ((T_ref01_order k p4 (p3.tmod p4) p2 (p1.tmod p2)).bind fun x10 => some x10)))) else none) else none)) else none) else none)
abbrev C_T_ref01_order (k : Nat) (p1 : Int) (p2 : Int) (p3 : Int) (p4 : Int) (r : Int) : Prop := evF X k n_ref01_order [(I p1), (I p2), (I p3), (I p4)] [] = some ((I r), [])
theorem T_ref01_order_ok (k : Nat) (p1 : Int) (p2 : Int) (p3 : Int) (p4 : Int) (r : Int) : T_ref01_order k p1 p2 p3 p4 = some r → C_T_ref01_order k p1 p2 p3 p4 r := by
 intro H
 cases k with
 | zero => simp [T_ref01_order] at H
 | succ k =>
  simp only [T_ref01_order] at H
  refine F_in X_ref01_order rfl ?_
  refine K_seq (K_r [] [] (by kernel_rfl) trivial ?_)
  refine K_seq ?_
  obtain ⟨hx1, H⟩ := guard_some H
  obtain ⟨hx2, H⟩ := guard_some H
  refine K_r [] [p2 ≠ (0 : Int), p4 ≠ (0 : Int)] (by kernel_rfl) (AC hx1 (A1 hx2)) ?_
  refine K_seq (K_seq (K_r [] [] (by kernel_rfl) trivial ?_))
  rcases ite_some H with ⟨hx3, H⟩ | ⟨hx3, H⟩
  · refine K_t (by kernel_rfl) hx3 ?_
    refine K_seq (K_seq (K_r [] [] (by kernel_rfl) trivial ?_))
    rcases ite_some H with ⟨hx4, H⟩ | ⟨hx4, H⟩
    · refine K_t (by kernel_rfl) (decide_eq_true hx4) ?_
      refine K_seq (K_r [] [] (by kernel_rfl) trivial ?_)
      refine K_g (by kernel_rfl) ?_
      cases H
      refine K_ret ?_
      kernel_rfl
    · refine K_f (by kernel_rfl) (decide_eq_false hx4) ?_
      refine K_g (by kernel_rfl) ?_
      refine K_skip (K_seq (K_r [] [] (by kernel_rfl) trivial ?_))
      refine K_g (by kernel_rfl) ?_
      cases H
      refine K_ret ?_
      kernel_rfl
  · refine K_f (by kernel_rfl) (Bool.eq_false_iff.2 hx3) ?_
    refine K_g (by kernel_rfl) ?_
    refine K_skip ?_
    refine K_seq ?_
    obtain ⟨hx5, H⟩ := guard_some H
    obtain ⟨hx6, H⟩ := guard_some H
    refine K_r [] [p2 ≠ (0 : Int), p4 ≠ (0 : Int)] (by kernel_rfl) (AC hx5 (A1 hx6)) ?_
    refine K_seq (K_block (K_seq (K_r [.m] [([] : Heap) = []] (by kernel_rfl) (A1 rfl) ?_)))
    rcases ite_some H with ⟨hx7, H⟩ | ⟨hx7, H⟩
    · refine K_t (by kernel_rfl) hx7 ?_
      refine K_seq (K_r [] [] (by kernel_rfl) trivial ?_)
      refine K_g (by kernel_rfl) ?_
      cases H
      refine K_ret ?_
      kernel_rfl
    · refine K_f (by kernel_rfl) (Bool.eq_false_iff.2 hx7) ?_
      refine K_seq (K_r [] [] (by kernel_rfl) trivial ?_)
      rcases ite_some H with ⟨hx8, H⟩ | ⟨hx8, H⟩
      · refine K_t (by kernel_rfl) (decide_eq_true hx8) ?_
        refine K_seq (K_r [] [] (by kernel_rfl) trivial ?_)
        refine K_g (by kernel_rfl) ?_
        cases H
        refine K_ret ?_
        kernel_rfl
      · refine K_f (by kernel_rfl) (decide_eq_false hx8) ?_
        refine K_seq (K_r [] [] (by kernel_rfl) trivial ?_)
        rcases ite_some H with ⟨hx9, H⟩ | ⟨hx9, H⟩
        · refine K_t (by kernel_rfl) (decide_eq_true hx9) ?_
          refine K_seq (K_r [] [] (by kernel_rfl) trivial ?_)
          refine K_g (by kernel_rfl) ?_
          cases H
          refine K_ret ?_
          kernel_rfl
        · refine K_f (by kernel_rfl) (decide_eq_false hx9) ?_
          refine K_g (by kernel_rfl) ?_
          refine K_skip ?_
          refine K_blk ?_
          refine K_seq ?_
          obtain ⟨x10, hx10, H⟩ := bind_some' H
          refine K_r [.r (I x10) []] [C_T_ref01_order k p4 (p3.tmod p4) p2 (p1.tmod p2) x10] (by kernel_rfl) (A1 (T_ref01_order_ok k p4 (p3.tmod p4) p2 (p1.tmod p2) x10 hx10)) ?_
          refine K_g (by kernel_rfl) ?_
          cases H
          refine K_ret ?_
          kernel_rfl
def T_ref01_Cmp (k : Nat) (p1 : Int) (p2 : Int) (p3 : Int) (p4 : Int) : Option Int := match k with
 | 0 => none
 | k + 1 => ((((T_ref01_Valid k p1 p2).bind fun x1 => (if (!x1) = true then some true else ((T_ref01_Valid k p3 p4).bind fun x4 => some (!x4))))).bind fun x5 => (if x5 = true then some 0 else ((T_ref01_order k p1 p2 p3 p4).bind fun x7 => some x7)))
abbrev C_T_ref01_Cmp (k : Nat) (p1 : Int) (p2 : Int) (p3 : Int) (p4 : Int) (r : Int) : Prop := evF X k n_ref01_Cmp [(.agg [cI p1, cI p2]), (.agg [cI p3, cI p4])] [] = some ((I r), [])
theorem T_ref01_Cmp_ok (k : Nat) (p1 : Int) (p2 : Int) (p3 : Int) (p4 : Int) (r : Int) : T_ref01_Cmp k p1 p2 p3 p4 = some r → C_T_ref01_Cmp k p1 p2 p3 p4 r := by
 intro H
 cases k with
 | zero => simp [T_ref01_Cmp] at H
 | succ k =>
  simp only [T_ref01_Cmp] at H
  refine F_in X_ref01_Cmp rfl ?_
  refine K_seq (K_r [] [] (by kernel_rfl) trivial ?_)
  refine K_seq ?_
  refine K_seq ?_
  obtain ⟨x5, hx5, H⟩ := bind_some' H
  refine K_of ⟨[(2, (Pt 0)), (3, (Pt 1)), (12, (B x5))], [.cells [cI p1, cI p2], .cells [cI p3, cI p4]]⟩ ?_ ?_
  · clear H; have H := hx5; clear hx5; refine K_in ?_
    obtain ⟨x1, hx1, H⟩ := bind_some' H
    rcases ite_some H with ⟨hx3, H⟩ | ⟨hx3, H⟩
    · refine K_r [.r (B x1) [], .b true] [C_T_ref01_Valid k p1 p2 x1, (!x1) = true] (by kernel_rfl) (AC (T_ref01_Valid_ok k p1 p2 x1 hx1) (A1 hx3)) ?_
      cases H
      exact K_end (by kernel_rfl)
    · obtain ⟨x4, hx4, H⟩ := bind_some' H
      refine K_r [.r (B x1) [], .b false, .r (B x4) []] [C_T_ref01_Valid k p1 p2 x1, (!x1) = false, C_T_ref01_Valid k p3 p4 x4] (by kernel_rfl) (AC (T_ref01_Valid_ok k p1 p2 x1 hx1) (AC (Bool.eq_false_iff.2 hx3) (A1 (T_ref01_Valid_ok k p3 p4 x4 hx4)))) ?_
      cases H
      exact K_end (by kernel_rfl)
  rcases ite_some H with ⟨hx6, H⟩ | ⟨hx6, H⟩
  · refine K_t (by kernel_rfl) hx6 ?_
    refine K_seq (K_r [] [] (by kernel_rfl) trivial ?_)
    refine K_g (by kernel_rfl) ?_
    cases H
    refine K_ret ?_
    kernel_rfl
  · refine K_f (by kernel_rfl) (Bool.eq_false_iff.2 hx6) ?_
    refine K_g (by kernel_rfl) ?_
    refine K_skip ?_
    refine K_seq ?_
    obtain ⟨x7, hx7, H⟩ := bind_some' H
    refine K_r [.r (I x7) []] [C_T_ref01_order k p1 p2 p3 p4 x7] (by kernel_rfl) (A1 (T_ref01_order_ok k p1 p2 p3 p4 x7 hx7)) ?_
    refine K_g (by kernel_rfl) ?_
    cases H
    refine K_ret ?_
    kernel_rfl
def T_ref01_Less (k : Nat) (p1 : Int) (p2 : Int) (p3 : Int) (p4 : Int) : Option Bool := match k with
 | 0 => none
 | k + 1 => ((T_ref01_Cmp k p1 p2 p3 p4).bind fun x1 => some (decide (x1 < 0)))
abbrev C_T_ref01_Less (k : Nat) (p1 : Int) (p2 : Int) (p3 : Int) (p4 : Int) (r : Bool) : Prop := evF X k n_ref01_Less [(.agg [cI p1, cI p2]), (.agg [cI p3, cI p4])] [] = some ((B r), [])
theorem T_ref01_Less_ok (k : Nat) (p1 : Int) (p2 : Int) (p3 : Int) (p4 : Int) (r : Bool) : T_ref01_Less k p1 p2 p3 p4 = some r → C_T_ref01_Less k p1 p2 p3 p4 r := by
 intro H
 cases k with
 | zero => simp [T_ref01_Less] at H
 | succ k =>
  simp only [T_ref01_Less] at H
  refine F_in X_ref01_Less rfl ?_
  refine K_seq (K_r [] [] (by kernel_rfl) trivial ?_)
  refine K_seq ?_
  obtain ⟨x1, hx1, H⟩ := bind_some' H
  refine K_r [.r (I x1) []] [C_T_ref01_Cmp k p1 p2 p3 p4 x1] (by kernel_rfl) (A1 (T_ref01_Cmp_ok k p1 p2 p3 p4 x1 hx1)) ?_
  refine K_g (by kernel_rfl) ?_
  cases H
  refine K_ret ?_
  kernel_rfl
def T_ref21_Region_l1 (k : Nat) (p1 : Int) (p2 : List Int) (p3 : Int) (p4 : List (Int × Int)) (x6 : Int) (x20 : Bool × Int) : Option ((Bool × Int) ⊕ (Bool ⊕ Unit)) :=
 (if x20.2 < x6 then ((at? p4 x20.2).bind fun x22 => (if (((decide (x22.1 < (-1099511627776)) || decide (1099511627776 < x22.1)) || decide (x22.2 < (-1099511627776))) || decide (1099511627776 < x22.2)) = true then some (.inr (.inr ())) else (((if x20.1 = true then ((at? p4 x20.2).bind fun x26 => some (decide (x26.1 ≤ 0) && decide (0 ≤ x26.2))) else some false)).bind fun x27 => some (.inl (x27, (w64 (x20.2 + 1))))))) else some (.inr (.inl x20.1)))
theorem T_ref21_Region_l1_ok (k : Nat) (p1 : Int) (p2 : List Int) (p3 : Int) (p4 : List (Int × Int)) (x6 : Int) : ∀ (x20 : Bool × Int) (x : (Bool × Int) ⊕ (Bool ⊕ Unit)), T_ref21_Region_l1 k p1 p2 p3 p4 x6 x20 = some x → evC X (evF X k) k 0 l_ref21_Region_1 ⟨[(1, (.one (.d (.list (p4.map e_st0))))), (2, (Pt 0)), (4, (Pt 1)), (8, (B x20.1)), (34, (I x6)), (35, (I x20.2))], [.cells [cI p1, cL p2, cI p3], .cells [cI 0, cI 0]]⟩ = some (outS (fun (s : Bool × Int) => ⟨[(1, (.one (.d (.list (p4.map e_st0))))), (2, (Pt 0)), (4, (Pt 1)), (8, (B s.1)), (34, (I x6)), (35, (I s.2))], [.cells [cI p1, cL p2, cI p3], .cells [cI 0, cI 0]]⟩) (fun (r : Bool ⊕ Unit) => Sum.elim (fun y => (.exit 0, ⟨[(1, (.one (.d (.list (p4.map e_st0))))), (2, (Pt 0)), (4, (Pt 1)), (8, (B y))], [.cells [cI p1, cL p2, cI p3], .cells [cI 0, cI 0]]⟩)) (fun y => (.ret, ⟨[(4, (Pt 0)), (5, (I 1))], [.cells [cI 0, cI 0]]⟩)) r) x) := by
 intro x20 x H
 unfold T_ref21_Region_l1 at H
 refine K_in ?_
 refine K_seq (K_r [] [] (by kernel_rfl) trivial ?_)
 refine K_seq ?_
 rcases ite_some H with ⟨hx21, H⟩ | ⟨hx21, H⟩
 · refine K_t (by kernel_rfl) (decide_eq_true hx21) ?_
   refine K_g (by kernel_rfl) ?_
   refine K_skip (K_seq (K_block (K_seq (K_r [] [] (by kernel_rfl) trivial ?_))))
   refine K_seq ?_
   refine K_seq ?_
   obtain ⟨x22, hx22, H⟩ := bind_some' H
   refine K_r [.l [.int .i64 x22.1, .int .i64 x22.2], .m, .l [.int .i64 x22.1, .int .i64 x22.2], .m, .l [.int .i64 x22.1, .int .i64 x22.2], .m, .l [.int .i64 x22.1, .int .i64 x22.2]] ((fun (z1 : Heap) => [(0 : Int) ≤ x20.2 ∧ x20.2 < (((p4.map e_st0)).length : Int), ((p4.map e_st0).getD x20.2.toNat (.agg [(.int .i64 0), (.int .i64 0)])).cells = [.int .i64 x22.1, .int .i64 x22.2], decide (x22.1 < (-1099511627776)) = false → AllT [(0 : Int) ≤ x20.2 ∧ x20.2 < (((p4.map e_st0)).length : Int), ((p4.map e_st0).getD x20.2.toNat (.agg [(.int .i64 0), (.int .i64 0)])).cells = [.int .i64 x22.1, .int .i64 x22.2]], z1 = z1, (decide (x22.1 < (-1099511627776)) || decide (1099511627776 < x22.1)) = false → AllT [(0 : Int) ≤ x20.2 ∧ x20.2 < (((p4.map e_st0)).length : Int), ((p4.map e_st0).getD x20.2.toNat (.agg [(.int .i64 0), (.int .i64 0)])).cells = [.int .i64 x22.1, .int .i64 x22.2]], z1 = z1, ((decide (x22.1 < (-1099511627776)) || decide (1099511627776 < x22.1)) || decide (x22.2 < (-1099511627776))) = false → AllT [(0 : Int) ≤ x20.2 ∧ x20.2 < (((p4.map e_st0)).length : Int), ((p4.map e_st0).getD x20.2.toNat (.agg [(.int .i64 0), (.int .i64 0)])).cells = [.int .i64 x22.1, .int .i64 x22.2]], z1 = z1]) [.cells [cI p1, cL p2, cI p3], .cells [cI 0, cI 0]]) (by kernel_rfl) (AC (at_ok hx22 e_st0 (.agg [(.int .i64 0), (.int .i64 0)])).1 (AC (at_ok hx22 e_st0 (.agg [(.int .i64 0), (.int .i64 0)])).2 (AC (fun _ => (AC (at_ok hx22 e_st0 (.agg [(.int .i64 0), (.int .i64 0)])).1 (A1 (at_ok hx22 e_st0 (.agg [(.int .i64 0), (.int .i64 0)])).2))) (AC rfl (AC (fun _ => (AC (at_ok hx22 e_st0 (.agg [(.int .i64 0), (.int .i64 0)])).1 (A1 (at_ok hx22 e_st0 (.agg [(.int .i64 0), (.int .i64 0)])).2))) (AC rfl (AC (fun _ => (AC (at_ok hx22 e_st0 (.agg [(.int .i64 0), (.int .i64 0)])).1 (A1 (at_ok hx22 e_st0 (.agg [(.int .i64 0), (.int .i64 0)])).2))) (A1 rfl)))))))) ?_
   rcases ite_some H with ⟨hx23, H⟩ | ⟨hx23, H⟩
   · refine K_t (by kernel_rfl) hx23 ?_
     refine K_seq (K_r [] [] (by kernel_rfl) trivial ?_)
     refine K_g (by kernel_rfl) ?_
     cases H
     exact K_ret (by kernel_rfl)
   · refine K_f (by kernel_rfl) (Bool.eq_false_iff.2 hx23) ?_
     refine K_g (by kernel_rfl) ?_
     refine K_skip ?_
     obtain ⟨x27, hx27, H⟩ := bind_some' H
     refine K_of ⟨[(1, (.one (.d (.list (p4.map e_st0))))), (2, (Pt 0)), (4, (Pt 1)), (8, (B x27)), (34, (I x6)), (35, (I x20.2))], [.cells [cI p1, cL p2, cI p3], .cells [cI 0, cI 0]]⟩ ?_ ?_
     · clear H; have H := hx27; clear hx27; refine K_in ?_
       rcases ite_some H with ⟨hx25, H⟩ | ⟨hx25, H⟩
       · obtain ⟨x26, hx26, H⟩ := bind_some' H
         refine K_r [.b true, .l [.int .i64 x26.1, .int .i64 x26.2], .m, .l [.int .i64 x26.1, .int .i64 x26.2]] ((fun (z1 : Heap) => [x20.1 = true, (0 : Int) ≤ x20.2 ∧ x20.2 < (((p4.map e_st0)).length : Int), ((p4.map e_st0).getD x20.2.toNat (.agg [(.int .i64 0), (.int .i64 0)])).cells = [.int .i64 x26.1, .int .i64 x26.2], decide (x26.1 ≤ 0) = true → AllT [(0 : Int) ≤ x20.2 ∧ x20.2 < (((p4.map e_st0)).length : Int), ((p4.map e_st0).getD x20.2.toNat (.agg [(.int .i64 0), (.int .i64 0)])).cells = [.int .i64 x26.1, .int .i64 x26.2]], z1 = z1]) [.cells [cI p1, cL p2, cI p3], .cells [cI 0, cI 0]]) (by kernel_rfl) (AC hx25 (AC (at_ok hx26 e_st0 (.agg [(.int .i64 0), (.int .i64 0)])).1 (AC (at_ok hx26 e_st0 (.agg [(.int .i64 0), (.int .i64 0)])).2 (AC (fun _ => (AC (at_ok hx26 e_st0 (.agg [(.int .i64 0), (.int .i64 0)])).1 (A1 (at_ok hx26 e_st0 (.agg [(.int .i64 0), (.int .i64 0)])).2))) (A1 rfl))))) ?_
         cases H
         exact K_end (by kernel_rfl)
       · refine K_r [.b false, .b false] [x20.1 = false, false = false] (by kernel_rfl) (AC (Bool.eq_false_iff.2 hx25) (A1 rfl)) ?_
         cases H
         exact K_end (by kernel_rfl)
     refine K_blk (K_r [] [] (by kernel_rfl) trivial ?_)
     cases H
     exact K_end (by kernel_rfl)
 · refine K_f (by kernel_rfl) (decide_eq_false hx21) ?_
   refine K_g (by kernel_rfl) ?_
   cases H
   exact K_exit0 rfl (by kernel_rfl)
def T_ref21_Region_l2 (k : Nat) (p1 : Int) (p2 : List Int) (p3 : Int) (p4 : List (Int × Int)) (x35 : List Int) (x37 : Int) (x50 : Nat × Int × (List Int)) : Option ((Nat × Int × (List Int)) ⊕ ((Nat × (List Int)))) :=
 (if x50.2.1 < x37 then (at? p2 x50.2.1).bind fun x52 => (T_ref02_Quotient k (w64 (1024 * x52)) p3).bind fun x53 => (at? p4 x50.2.1).bind fun x54 => (if x50.1 + 1 ≤ LIM then some (.inl ((x50.1 + 1), (w64 (x50.2.1 + 1)), ((x50.2.2.drop 0).take x50.1 ++ ([(imin (imax (imax 0 (w64 ((w64 (16 * x54.1)) - (w64 (x53.1 + 1))))) (w64 (x53.1 - (w64 (16 * (w64 (x54.2 + 1))))))) 16384)] : List Int)))) else none) else some (.inr (x50.1, x50.2.2)))
theorem T_ref21_Region_l2_ok (k : Nat) (p1 : Int) (p2 : List Int) (p3 : Int) (p4 : List (Int × Int)) (x35 : List Int) (x37 : Int) : ∀ (x50 : Nat × Int × (List Int)) (x : (Nat × Int × (List Int)) ⊕ ((Nat × (List Int)))), T_ref21_Region_l2 k p1 p2 p3 p4 x35 x37 x50 = some x → evC X (evF X k) k 0 l_ref21_Region_2 ⟨[(1, (.one (.d (.list (p4.map e_st0))))), (2, (Pt 0)), (4, (Pt 1)), (10, (LI x35)), (12, (.one (.own 2 0 x50.1))), (112, (I x37)), (113, (I x50.2.1))], [.cells [cI p1, cL p2, cI p3], .cells [cI 0, cI 0], VI x50.2.2]⟩ = some (outS (fun (s : Nat × Int × (List Int)) => ⟨[(1, (.one (.d (.list (p4.map e_st0))))), (2, (Pt 0)), (4, (Pt 1)), (10, (LI x35)), (12, (.one (.own 2 0 s.1))), (112, (I x37)), (113, (I s.2.1))], [.cells [cI p1, cL p2, cI p3], .cells [cI 0, cI 0], VI s.2.2]⟩) (fun (r : (Nat × (List Int))) => (.exit 2, ⟨[(4, (Pt 0)), (10, (LI x35)), (12, (.one (.own 1 0 r.1)))], [.cells [cI 0, cI 0], VI r.2]⟩)) x) := by
 intro x50 x H
 unfold T_ref21_Region_l2 at H
 refine K_in ?_
 refine K_seq (K_r [] [] (by kernel_rfl) trivial ?_)
 refine K_seq ?_
 rcases ite_some H with ⟨hx51, H⟩ | ⟨hx51, H⟩
 · refine K_t (by kernel_rfl) (decide_eq_true hx51) ?_
   refine K_g (by kernel_rfl) ?_
   refine K_skip (K_seq (K_block (K_seq (K_r [] [] (by kernel_rfl) trivial ?_))))
   refine K_seq ?_
   obtain ⟨x52, hx52, H⟩ := bind_some' H
   obtain ⟨x53, hx53, H⟩ := bind_some' H
   refine K_r [.l [.int .i64 x52], .r (.tup [(false, [cI x53.1]), (false, [cI x53.2])]) []] [(0 : Int) ≤ x50.2.1 ∧ x50.2.1 < (((p2.map (D.int .i64))).length : Int), ((p2.map (D.int .i64)).getD x50.2.1.toNat (.int .i64 0)).cells = [.int .i64 x52], C_T_ref02_Quotient k (w64 (1024 * x52)) p3 x53] (by kernel_rfl) (AC (at_ok hx52 (D.int .i64) (.int .i64 0)).1 (AC (at_ok hx52 (D.int .i64) (.int .i64 0)).2 (A1 (T_ref02_Quotient_ok k (w64 (1024 * x52)) p3 x53 hx53)))) ?_
   obtain ⟨x54, hx54, H⟩ := bind_some' H
   obtain ⟨hx55, H⟩ := guard_some H
   refine K_r [.l [.int .i64 x54.1, .int .i64 x54.2], .l [.int .i64 x54.1, .int .i64 x54.2], .n 1, .l (((x50.2.2.drop 0).take x50.1 ++ ([(imin (imax (imax 0 (w64 ((w64 (16 * x54.1)) - (w64 (x53.1 + 1))))) (w64 (x53.1 - (w64 (16 * (w64 (x54.2 + 1))))))) 16384)] : List Int)).map (D.int .i64))] [(0 : Int) ≤ x50.2.1 ∧ x50.2.1 < (((p4.map e_st0)).length : Int), ((p4.map e_st0).getD x50.2.1.toNat (.agg [(.int .i64 0), (.int .i64 0)])).cells = [.int .i64 x54.1, .int .i64 x54.2], (0 : Int) ≤ x50.2.1 ∧ x50.2.1 < (((p4.map e_st0)).length : Int), ((p4.map e_st0).getD x50.2.1.toNat (.agg [(.int .i64 0), (.int .i64 0)])).cells = [.int .i64 x54.1, .int .i64 x54.2], (List.all (([(imin (imax (imax 0 (w64 ((w64 (16 * x54.1)) - (w64 (x53.1 + 1))))) (w64 (x53.1 - (w64 (16 * (w64 (x54.2 + 1))))))) 16384)] : List Int).map (D.int .i64)) fun d => d.cells.length == (D.cells (.int .i64 0)).length) = true, x50.1 + 1 ≤ LIM, (([(imin (imax (imax 0 (w64 ((w64 (16 * x54.1)) - (w64 (x53.1 + 1))))) (w64 (x53.1 - (w64 (16 * (w64 (x54.2 + 1))))))) 16384)] : List Int).map (D.int .i64)).length = 1, ((x50.2.2.map (D.int .i64)).drop 0).take x50.1 ++ (([(imin (imax (imax 0 (w64 ((w64 (16 * x54.1)) - (w64 (x53.1 + 1))))) (w64 (x53.1 - (w64 (16 * (w64 (x54.2 + 1))))))) 16384)] : List Int).map (D.int .i64)) = ((x50.2.2.drop 0).take x50.1 ++ ([(imin (imax (imax 0 (w64 ((w64 (16 * x54.1)) - (w64 (x53.1 + 1))))) (w64 (x53.1 - (w64 (16 * (w64 (x54.2 + 1))))))) 16384)] : List Int)).map (D.int .i64)] (by kernel_rfl) (AC (at_ok hx54 e_st0 (.agg [(.int .i64 0), (.int .i64 0)])).1 (AC (at_ok hx54 e_st0 (.agg [(.int .i64 0), (.int .i64 0)])).2 (AC (at_ok hx54 e_st0 (.agg [(.int .i64 0), (.int .i64 0)])).1 (AC (at_ok hx54 e_st0 (.agg [(.int .i64 0), (.int .i64 0)])).2 (AC (all_ok (D.int .i64) 1 ([(imin (imax (imax 0 (w64 ((w64 (16 * x54.1)) - (w64 (x53.1 + 1))))) (w64 (x53.1 - (w64 (16 * (w64 (x54.2 + 1))))))) 16384)] : List Int) (fun _ => rfl)) (AC hx55 (AC (by simp) (A1 (ap_map (D.int .i64) x50.2.2 ([(imin (imax (imax 0 (w64 ((w64 (16 * x54.1)) - (w64 (x53.1 + 1))))) (w64 (x53.1 - (w64 (16 * (w64 (x54.2 + 1))))))) 16384)] : List Int) 0 x50.1))))))))) ?_
   refine K_blk (K_r [] [] (by kernel_rfl) trivial ?_)
   cases H
   exact K_end (by kernel_rfl)
 · refine K_f (by kernel_rfl) (decide_eq_false hx51) ?_
   refine K_g (by kernel_rfl) ?_
   cases H
   exact K_exit0 rfl (by kernel_rfl)
def T_ref21_Region (k : Nat) (p1 : Int) (p2 : List Int) (p3 : Int) (p4 : List (Int × Int)) : Option (Int × Int × Int) := match k with
 | 0 => none
 | k + 1 => ((T_ref21_Residual k p1 p2 p3).bind fun x1 => (if (!x1.2) = true then some (0, 0, 3) else (if (!decide ((p4.length : Int) = (p2.length : Int))) = true then some (0, 0, 8) else ((loopT (T_ref21_Region_l1 k p1 p2 p3 p4 (p4.length : Int)) k (true, 0)).bind fun x28 => (match x28 with | .inl x29 => ((T_ref19_Empty k p4).bind fun x30 => (if (x30 || (decide (p3 = 0) && x29)) = true then some (0, 1, 0) else (if p3 = 0 then some (1, 1, 0) else ((T_ref18_Starts k p1 (p2.length : Int)).bind fun x33 => (loopT (T_ref21_Region_l2 k p1 p2 p3 p4 x33.1 (p4.length : Int)) k (0, 0, [])).bind fun x56 => (T_ref18_Squares k x56.1 x33.1 2097152 x56.2).bind fun x57 => (T_ref01_Less k 2 1 x57.1 x57.2).bind fun x58 => (if x58 = true then some (2, 1, 0) else (if x57.1 ≤ x57.2 then ((T_ref01_Make k (w64 ((w64 (x57.2 * x57.2)) - (w64 ((w64 (x57.2 - x57.1)) * (w64 (x57.2 - x57.1)))))) (w64 (x57.2 * x57.2))).bind fun x61 => some (x61.1, x61.2.1, x61.2.2)) else ((T_ref01_Make k (w64 ((w64 (x57.2 * x57.2)) + (w64 ((w64 (x57.1 - x57.2)) * (w64 (x57.1 - x57.2)))))) (w64 (x57.2 * x57.2))).bind fun x62 => some (x62.1, x62.2.1, x62.2.2)))))))) | .inr x63 => some (0, 0, 1))))))
abbrev C_T_ref21_Region (k : Nat) (p1 : Int) (p2 : List Int) (p3 : Int) (p4 : List (Int × Int)) (r : Int × Int × Int) : Prop := evF X k n_ref21_Region [(.agg [cI p1, cL p2, cI p3]), (.one (.d (.list (p4.map e_st0))))] [] = some ((.tup [(true, [cI r.1, cI r.2.1]), (false, [cI r.2.2])]), [])
theorem T_ref21_Region_ok (k : Nat) (p1 : Int) (p2 : List Int) (p3 : Int) (p4 : List (Int × Int)) (r : Int × Int × Int) : T_ref21_Region k p1 p2 p3 p4 = some r → C_T_ref21_Region k p1 p2 p3 p4 r := by
 intro H
 cases k with
 | zero => simp [T_ref21_Region] at H
 | succ k =>
  simp only [T_ref21_Region] at H
  refine F_in X_ref21_Region rfl ?_
  refine K_seq (K_r [] [] (by kernel_rfl) trivial ?_)
  refine K_seq ?_
  refine K_seq ?_
  obtain ⟨x1, hx1, H⟩ := bind_some' H
  refine K_r [.r (.tup [(false, [cI x1.1]), (false, [cB x1.2])]) []] [C_T_ref21_Residual k p1 p2 p3 x1] (by kernel_rfl) (A1 (T_ref21_Residual_ok k p1 p2 p3 x1 hx1)) ?_
  refine K_seq (K_r [] [] (by kernel_rfl) trivial ?_)
  rcases ite_some H with ⟨hx2, H⟩ | ⟨hx2, H⟩
  · refine K_t (by kernel_rfl) hx2 ?_
    refine K_seq (K_r [] [] (by kernel_rfl) trivial ?_)
    refine K_g (by kernel_rfl) ?_
    cases H
    refine K_ret ?_
    kernel_rfl
  · refine K_f (by kernel_rfl) (Bool.eq_false_iff.2 hx2) ?_
    refine K_g (by kernel_rfl) ?_
    refine K_skip (K_seq (K_seq (K_r [.n p4.length, .n p2.length] [((p4.map e_st0)).length = p4.length, ((p2.map (D.int .i64))).length = p2.length] (by kernel_rfl) (AC (List.length_map _) (A1 (List.length_map _))) ?_)))
    rcases ite_some H with ⟨hx3, H⟩ | ⟨hx3, H⟩
    · refine K_t (by kernel_rfl) hx3 ?_
      refine K_seq (K_r [] [] (by kernel_rfl) trivial ?_)
      refine K_g (by kernel_rfl) ?_
      cases H
      refine K_ret ?_
      kernel_rfl
    · refine K_f (by kernel_rfl) (Bool.eq_false_iff.2 hx3) ?_
      refine K_g (by kernel_rfl) ?_
      refine K_skip (K_seq (K_r [] [] (by kernel_rfl) trivial ?_))
      refine K_seq (K_seq (K_r [.n p4.length] [((p4.map e_st0)).length = p4.length] (by kernel_rfl) (A1 (List.length_map _)) ?_))
      refine K_block (K_conv (σ' := ⟨[(1, (.one (.d (.list (p4.map e_st0))))), (2, (Pt 0)), (4, (Pt 1)), (8, (B true)), (34, (I (p4.length : Int))), (35, (I 0))], [.cells [cI p1, cL p2, cI p3], .cells [cI 0, cI 0]]⟩) (by kernel_rfl) ?_)
      obtain ⟨x28, hx28, H⟩ := bind_some' H
      cases x28 with
      | inl x29 =>
       dsimp only at H
       refine K_loop ⟨[(1, (.one (.d (.list (p4.map e_st0))))), (2, (Pt 0)), (4, (Pt 1)), (8, (B x29))], [.cells [cI p1, cL p2, cI p3], .cells [cI 0, cI 0]]⟩ (loop_ok (fun (s : Bool × Int) => ⟨[(1, (.one (.d (.list (p4.map e_st0))))), (2, (Pt 0)), (4, (Pt 1)), (8, (B s.1)), (34, (I (p4.length : Int))), (35, (I s.2))], [.cells [cI p1, cL p2, cI p3], .cells [cI 0, cI 0]]⟩) (fun (r : Bool ⊕ Unit) => Sum.elim (fun y => (.exit 0, ⟨[(1, (.one (.d (.list (p4.map e_st0))))), (2, (Pt 0)), (4, (Pt 1)), (8, (B y))], [.cells [cI p1, cL p2, cI p3], .cells [cI 0, cI 0]]⟩)) (fun y => (.ret, ⟨[(4, (Pt 0)), (5, (I 1))], [.cells [cI 0, cI 0]]⟩)) r) (fun r h => by cases r <;> cases h) (T_ref21_Region_l1_ok k p1 p2 p3 p4 (p4.length : Int)) k (true, 0) (.inl x29) hx28) rfl ?_
       refine K_seq ?_
       refine K_seq ?_
       obtain ⟨x30, hx30, H⟩ := bind_some' H
       refine K_r [.r (B x30) [], .m, .m] ((fun (z1 : Heap) => [C_T_ref19_Empty k p4 x30, x30 = false → AllT [z1 = z1], z1 = z1]) [.cells [cI p1, cL p2, cI p3], .cells [cI 0, cI 0]]) (by kernel_rfl) (AC (T_ref19_Empty_ok k p4 x30 hx30) (AC (fun _ => (A1 rfl)) (A1 rfl))) ?_
       rcases ite_some H with ⟨hx31, H⟩ | ⟨hx31, H⟩
       · refine K_t (by kernel_rfl) hx31 ?_
         refine K_seq (K_r [] [] (by kernel_rfl) trivial ?_)
         refine K_g (by kernel_rfl) ?_
         cases H
         refine K_ret ?_
         kernel_rfl
       · refine K_f (by kernel_rfl) (Bool.eq_false_iff.2 hx31) ?_
         refine K_g (by kernel_rfl) ?_
         refine K_skip (K_seq (K_seq (K_r [] [] (by kernel_rfl) trivial ?_)))
         rcases ite_some H with ⟨hx32, H⟩ | ⟨hx32, H⟩
         · refine K_t (by kernel_rfl) (decide_eq_true hx32) ?_
           refine K_seq (K_r [] [] (by kernel_rfl) trivial ?_)
           refine K_g (by kernel_rfl) ?_
           cases H
           refine K_ret ?_
           kernel_rfl
         · refine K_f (by kernel_rfl) (decide_eq_false hx32) ?_
           refine K_g (by kernel_rfl) ?_
           refine K_skip ?_
           refine K_seq ?_
           obtain ⟨x33, hx33, H⟩ := bind_some' H
           refine K_r [.n p2.length, .r (.tup [(false, [cL x33.1]), (false, [cI x33.2])]) []] [((p2.map (D.int .i64))).length = p2.length, C_T_ref18_Starts k p1 (p2.length : Int) x33] (by kernel_rfl) (AC (List.length_map _) (A1 (T_ref18_Starts_ok k p1 (p2.length : Int) x33 hx33))) ?_
           refine K_seq (K_r [] [] (by kernel_rfl) trivial ?_)
           refine K_seq (K_seq (K_r [.n p4.length] [((p4.map e_st0)).length = p4.length] (by kernel_rfl) (A1 (List.length_map _)) ?_))
           refine K_block (K_g (by kernel_rfl) ?_)
           refine K_conv (σ' := ⟨[(1, (.one (.d (.list (p4.map e_st0))))), (2, (Pt 0)), (4, (Pt 1)), (10, (LI x33.1)), (12, (.one (.own 2 0 0))), (112, (I (p4.length : Int))), (113, (I 0))], [.cells [cI p1, cL p2, cI p3], .cells [cI 0, cI 0], VI []]⟩) (by kernel_rfl) ?_
           obtain ⟨x56, hx56, H⟩ := bind_some' H
           refine K_loop ⟨[(4, (Pt 0)), (10, (LI x33.1)), (12, (.one (.own 1 0 x56.1)))], [.cells [cI 0, cI 0], VI x56.2]⟩ (loop_ok (fun (s : Nat × Int × (List Int)) => ⟨[(1, (.one (.d (.list (p4.map e_st0))))), (2, (Pt 0)), (4, (Pt 1)), (10, (LI x33.1)), (12, (.one (.own 2 0 s.1))), (112, (I (p4.length : Int))), (113, (I s.2.1))], [.cells [cI p1, cL p2, cI p3], .cells [cI 0, cI 0], VI s.2.2]⟩) (fun (r : (Nat × (List Int))) => (.exit 2, ⟨[(4, (Pt 0)), (10, (LI x33.1)), (12, (.one (.own 1 0 r.1)))], [.cells [cI 0, cI 0], VI r.2]⟩)) (fun r h => by cases h) (T_ref21_Region_l2_ok k p1 p2 p3 p4 x33.1 (p4.length : Int)) k (0, 0, []) x56 hx56) rfl ?_
           refine K_seq ?_
           obtain ⟨x57, hx57, H⟩ := bind_some' H
           refine K_r [.r (.agg [cI x57.1, cI x57.2]) [VI x56.2]] [C_T_ref18_Squares k x56.1 x33.1 2097152 x56.2 x57] (by kernel_rfl) (A1 (T_ref18_Squares_ok k x56.1 x33.1 2097152 x56.2 x57 hx57)) ?_
           refine K_seq (K_r [] [] (by kernel_rfl) trivial ?_)
           refine K_seq ?_
           refine K_block ?_
           refine K_seq ?_
           obtain ⟨x58, hx58, H⟩ := bind_some' H
           refine K_r [.r (B x58) []] [C_T_ref01_Less k 2 1 x57.1 x57.2 x58] (by kernel_rfl) (A1 (T_ref01_Less_ok k 2 1 x57.1 x57.2 x58 hx58)) ?_
           rcases ite_some H with ⟨hx59, H⟩ | ⟨hx59, H⟩
           · refine K_t (by kernel_rfl) hx59 ?_
             refine K_seq (K_r [] [] (by kernel_rfl) trivial ?_)
             refine K_g (by kernel_rfl) ?_
             cases H
             refine K_ret ?_
             kernel_rfl
           · refine K_f (by kernel_rfl) (Bool.eq_false_iff.2 hx59) ?_
             refine K_seq (K_r [] [] (by kernel_rfl) trivial ?_)
             rcases ite_some H with ⟨hx60, H⟩ | ⟨hx60, H⟩
             · refine K_t (by kernel_rfl) (decide_eq_true hx60) ?_
               refine K_seq ?_
               obtain ⟨x61, hx61, H⟩ := bind_some' H
               refine K_r [.r (.tup [(true, [cI x61.1, cI x61.2.1]), (false, [cI x61.2.2])]) []] [C_T_ref01_Make k (w64 ((w64 (x57.2 * x57.2)) - (w64 ((w64 (x57.2 - x57.1)) * (w64 (x57.2 - x57.1)))))) (w64 (x57.2 * x57.2)) x61] (by kernel_rfl) (A1 (T_ref01_Make_ok k (w64 ((w64 (x57.2 * x57.2)) - (w64 ((w64 (x57.2 - x57.1)) * (w64 (x57.2 - x57.1)))))) (w64 (x57.2 * x57.2)) x61 hx61)) ?_
               refine K_g (by kernel_rfl) ?_
               cases H
               refine K_ret ?_
               kernel_rfl
             · refine K_f (by kernel_rfl) (decide_eq_false hx60) ?_
               refine K_g (by kernel_rfl) ?_
               refine K_skip ?_
               refine K_blk ?_
               refine K_seq ?_
               obtain ⟨x62, hx62, H⟩ := bind_some' H
               refine K_r [.r (.tup [(true, [cI x62.1, cI x62.2.1]), (false, [cI x62.2.2])]) []] [C_T_ref01_Make k (w64 ((w64 (x57.2 * x57.2)) + (w64 ((w64 (x57.1 - x57.2)) * (w64 (x57.1 - x57.2)))))) (w64 (x57.2 * x57.2)) x62] (by kernel_rfl) (A1 (T_ref01_Make_ok k (w64 ((w64 (x57.2 * x57.2)) + (w64 ((w64 (x57.1 - x57.2)) * (w64 (x57.1 - x57.2)))))) (w64 (x57.2 * x57.2)) x62 hx62)) ?_
               refine K_g (by kernel_rfl) ?_
               cases H
               refine K_ret ?_
               kernel_rfl
      | inr x63 =>
       dsimp only at H
       cases H
       refine K_loopr ⟨[(4, (Pt 0)), (5, (I 1))], [.cells [cI 0, cI 0]]⟩ (loop_ok (fun (s : Bool × Int) => ⟨[(1, (.one (.d (.list (p4.map e_st0))))), (2, (Pt 0)), (4, (Pt 1)), (8, (B s.1)), (34, (I (p4.length : Int))), (35, (I s.2))], [.cells [cI p1, cL p2, cI p3], .cells [cI 0, cI 0]]⟩) (fun (r : Bool ⊕ Unit) => Sum.elim (fun y => (.exit 0, ⟨[(1, (.one (.d (.list (p4.map e_st0))))), (2, (Pt 0)), (4, (Pt 1)), (8, (B y))], [.cells [cI p1, cL p2, cI p3], .cells [cI 0, cI 0]]⟩)) (fun y => (.ret, ⟨[(4, (Pt 0)), (5, (I 1))], [.cells [cI 0, cI 0]]⟩)) r) (fun r h => by cases r <;> cases h) (T_ref21_Region_l1_ok k p1 p2 p3 p4 (p4.length : Int)) k (true, 0) (.inr x63) hx28) ?_
       kernel_rfl
def T_law21_SketchAnswers_l1 (k : Nat) (p2 : Int) (p3 : Int) (p4 : List Int) (p5 : Int) (p6 : List (Int × Int)) (x10 : List Int) (x11 : List Int) (x12 : List (List Int)) (x13 : Int) (x18 : List Int) (x19 : Int) (x23 : Int) (x24 : Int) (x25 : List Int) (x67 : Int) (x69 : List Int) (x79 : List Int) (x80 : Int) (x99 : Int) : Option (Int ⊕ (Unit ⊕ Unit)) :=
 (if x99 < x80 then ((at? x79 x99).bind fun x101 => (T_sketch_Of k x69 x101).bind fun x102 => (T_ref21_Of k x69 x101).bind fun x103 => (T_ref21_Same k x102.1 x102.2.1 x102.2.2.1 x103.1 x103.2.1 x103.2.2.1).bind fun x104 => (if ((!x104) || (!decide (x102.2.2.2 = x103.2.2.2))) = true then some (.inr (.inr ())) else some (.inl (w64 (x99 + 1))))) else some (.inr (.inl ())))
theorem T_law21_SketchAnswers_l1_ok (k : Nat) (p2 : Int) (p3 : Int) (p4 : List Int) (p5 : Int) (p6 : List (Int × Int)) (x10 : List Int) (x11 : List Int) (x12 : List (List Int)) (x13 : Int) (x18 : List Int) (x19 : Int) (x23 : Int) (x24 : Int) (x25 : List Int) (x67 : Int) (x69 : List Int) (x79 : List Int) (x80 : Int) : ∀ (x99 : Int) (x : Int ⊕ (Unit ⊕ Unit)), T_law21_SketchAnswers_l1 k p2 p3 p4 p5 p6 x10 x11 x12 x13 x18 x19 x23 x24 x25 x67 x69 x79 x80 x99 = some x → evC X (evF X k) k 0 l_law21_SketchAnswers_1 ⟨[(1, (I p2)), (3, (.one (.d (.list (p6.map e_st0))))), (7, (Pt 0)), (11, (Pt 1)), (12, (Pt 2)), (13, (LI x10)), (14, (LI x11)), (16, (LI x69)), (83, (.one (.d (.list (x12.map (el (D.int .i64))))))), (84, (I x13)), (85, (I x67)), (94, (LI x79)), (95, (I x80)), (96, (I x99))], [.cells [cI p3, cL p4, cI p5], .cells [cL x18, cI x19], .cells [cI 3, cI 0, cI 0, cI x23, cI x24, cL x25]]⟩ = some (outS (fun (s : Int) => ⟨[(1, (I p2)), (3, (.one (.d (.list (p6.map e_st0))))), (7, (Pt 0)), (11, (Pt 1)), (12, (Pt 2)), (13, (LI x10)), (14, (LI x11)), (16, (LI x69)), (83, (.one (.d (.list (x12.map (el (D.int .i64))))))), (84, (I x13)), (85, (I x67)), (94, (LI x79)), (95, (I x80)), (96, (I s))], [.cells [cI p3, cL p4, cI p5], .cells [cL x18, cI x19], .cells [cI 3, cI 0, cI 0, cI x23, cI x24, cL x25]]⟩) (fun (r : Unit ⊕ Unit) => Sum.elim (fun y => (.exit 2, ⟨[(1, (I p2)), (3, (.one (.d (.list (p6.map e_st0))))), (7, (Pt 0)), (11, (Pt 1)), (12, (Pt 2)), (13, (LI x10)), (14, (LI x11)), (83, (.one (.d (.list (x12.map (el (D.int .i64))))))), (84, (I x13)), (85, (I x67))], [.cells [cI p3, cL p4, cI p5], .cells [cL x18, cI x19], .cells [cI 3, cI 0, cI 0, cI x23, cI x24, cL x25]]⟩)) (fun y => (.ret, ⟨[(10, (B false))], []⟩)) r) x) := by
 intro x99 x H
 unfold T_law21_SketchAnswers_l1 at H
 refine K_in ?_
 refine K_seq (K_r [] [] (by kernel_rfl) trivial ?_)
 refine K_seq ?_
 rcases ite_some H with ⟨hx100, H⟩ | ⟨hx100, H⟩
 · refine K_t (by kernel_rfl) (decide_eq_true hx100) ?_
   refine K_g (by kernel_rfl) ?_
   refine K_skip ?_
   refine K_seq ?_
   refine K_block ?_
   refine K_seq ?_
   obtain ⟨x101, hx101, H⟩ := bind_some' H
   refine K_r [.l [.int .i64 x101]] [(0 : Int) ≤ x99 ∧ x99 < (((x79.map (D.int .i64))).length : Int), ((x79.map (D.int .i64)).getD x99.toNat (.int .i64 0)).cells = [.int .i64 x101]] (by kernel_rfl) (AC (at_ok hx101 (D.int .i64) (.int .i64 0)).1 (A1 (at_ok hx101 (D.int .i64) (.int .i64 0)).2)) ?_
   refine K_seq ?_
   obtain ⟨x102, hx102, H⟩ := bind_some' H
   refine K_r [.r (.tup [(true, [cI x102.1, cL x102.2.1, cI x102.2.2.1]), (false, [cI x102.2.2.2])]) []] [C_T_sketch_Of k x69 x101 x102] (by kernel_rfl) (A1 (T_sketch_Of_ok k x69 x101 x102 hx102)) ?_
   refine K_seq ?_
   obtain ⟨x103, hx103, H⟩ := bind_some' H
   refine K_r [.r (.tup [(true, [cI x103.1, cL x103.2.1, cI x103.2.2.1]), (false, [cI x103.2.2.2])]) []] [C_T_ref21_Of k x69 x101 x103] (by kernel_rfl) (A1 (T_ref21_Of_ok k x69 x101 x103 hx103)) ?_
   refine K_seq ?_
   obtain ⟨x104, hx104, H⟩ := bind_some' H
   refine K_r [.r (B x104) [], .m] ((fun (z1 : Heap) => [C_T_ref21_Same k x102.1 x102.2.1 x102.2.2.1 x103.1 x103.2.1 x103.2.2.1 x104, z1 = z1]) [.cells [cI p3, cL p4, cI p5], .cells [cL x18, cI x19], .cells [cI 3, cI 0, cI 0, cI x23, cI x24, cL x25], .cells [cI x102.1, cL x102.2.1, cI x102.2.2.1], .cells [cI x103.1, cL x103.2.1, cI x103.2.2.1]]) (by kernel_rfl) (AC (T_ref21_Same_ok k x102.1 x102.2.1 x102.2.2.1 x103.1 x103.2.1 x103.2.2.1 x104 hx104) (A1 rfl)) ?_
   rcases ite_some H with ⟨hx105, H⟩ | ⟨hx105, H⟩
   · refine K_t (by kernel_rfl) hx105 ?_
     refine K_seq (K_r [] [] (by kernel_rfl) trivial ?_)
     refine K_g (by kernel_rfl) ?_
     cases H
     exact K_ret (by kernel_rfl)
   · refine K_f (by kernel_rfl) (Bool.eq_false_iff.2 hx105) ?_
     refine K_g (by kernel_rfl) ?_
     refine K_skip (K_blk (K_r [] [] (by kernel_rfl) trivial ?_))
     cases H
     exact K_end (by kernel_rfl)
 · refine K_f (by kernel_rfl) (decide_eq_false hx100) ?_
   refine K_g (by kernel_rfl) ?_
   cases H
   exact K_exit0 rfl (by kernel_rfl)
def T_law21_SketchAnswers_l2 (k : Nat) (p2 : Int) (p3 : Int) (p4 : List Int) (p5 : Int) (p6 : List (Int × Int)) (x10 : List Int) (x11 : List Int) (x12 : List (List Int)) (x13 : Int) (x18 : List Int) (x19 : Int) (x23 : Int) (x24 : Int) (x25 : List Int) (x67 : Int) : Option (Int ⊕ (Unit ⊕ Unit)) :=
 (if x67 < x13 then ((at? x12 x67).bind fun x69 => (T_keep_Mod k p2 11).bind fun x70 => (loopT (T_law21_SketchAnswers_l1 k p2 p3 p4 p5 p6 x10 x11 x12 x13 x18 x19 x23 x24 x25 x67 x69 ([p2, x24, x70] : List Int) (([p2, x24, x70] : List Int).length : Int)) k 0).bind fun x106 => (match x106 with | .inl x107 => some (.inl (w64 (x67 + 1))) | .inr x108 => some (.inr (.inr ())))) else some (.inr (.inl ())))
theorem T_law21_SketchAnswers_l2_ok (k : Nat) (p2 : Int) (p3 : Int) (p4 : List Int) (p5 : Int) (p6 : List (Int × Int)) (x10 : List Int) (x11 : List Int) (x12 : List (List Int)) (x13 : Int) (x18 : List Int) (x19 : Int) (x23 : Int) (x24 : Int) (x25 : List Int) : ∀ (x67 : Int) (x : Int ⊕ (Unit ⊕ Unit)), T_law21_SketchAnswers_l2 k p2 p3 p4 p5 p6 x10 x11 x12 x13 x18 x19 x23 x24 x25 x67 = some x → evC X (evF X k) k 0 l_law21_SketchAnswers_2 ⟨[(1, (I p2)), (3, (.one (.d (.list (p6.map e_st0))))), (7, (Pt 0)), (11, (Pt 1)), (12, (Pt 2)), (13, (LI x10)), (14, (LI x11)), (83, (.one (.d (.list (x12.map (el (D.int .i64))))))), (84, (I x13)), (85, (I x67))], [.cells [cI p3, cL p4, cI p5], .cells [cL x18, cI x19], .cells [cI 3, cI 0, cI 0, cI x23, cI x24, cL x25]]⟩ = some (outS (fun (s : Int) => ⟨[(1, (I p2)), (3, (.one (.d (.list (p6.map e_st0))))), (7, (Pt 0)), (11, (Pt 1)), (12, (Pt 2)), (13, (LI x10)), (14, (LI x11)), (83, (.one (.d (.list (x12.map (el (D.int .i64))))))), (84, (I x13)), (85, (I s))], [.cells [cI p3, cL p4, cI p5], .cells [cL x18, cI x19], .cells [cI 3, cI 0, cI 0, cI x23, cI x24, cL x25]]⟩) (fun (r : Unit ⊕ Unit) => Sum.elim (fun y => (.exit 0, ⟨[(3, (.one (.d (.list (p6.map e_st0))))), (7, (Pt 0)), (11, (Pt 1)), (12, (Pt 2)), (13, (LI x10)), (14, (LI x11))], [.cells [cI p3, cL p4, cI p5], .cells [cL x18, cI x19], .cells [cI 3, cI 0, cI 0, cI x23, cI x24, cL x25]]⟩)) (fun y => (.ret, ⟨[(10, (B false))], []⟩)) r) x) := by
 intro x67 x H
 unfold T_law21_SketchAnswers_l2 at H
 refine K_in ?_
 refine K_seq (K_r [] [] (by kernel_rfl) trivial ?_)
 refine K_seq ?_
 rcases ite_some H with ⟨hx68, H⟩ | ⟨hx68, H⟩
 · refine K_t (by kernel_rfl) (decide_eq_true hx68) ?_
   refine K_g (by kernel_rfl) ?_
   refine K_skip ?_
   refine K_seq ?_
   refine K_block ?_
   refine K_seq ?_
   obtain ⟨x69, hx69, H⟩ := bind_some' H
   refine K_r [.l [.list (x69.map (D.int .i64))]] [(0 : Int) ≤ x67 ∧ x67 < (((x12.map (el (D.int .i64)))).length : Int), ((x12.map (el (D.int .i64))).getD x67.toNat (.list [])).cells = [.list (x69.map (D.int .i64))]] (by kernel_rfl) (AC (at_ok hx69 (el (D.int .i64)) (.list [])).1 (A1 (at_ok hx69 (el (D.int .i64)) (.list [])).2)) ?_
   refine K_seq ?_
   obtain ⟨x70, hx70, H⟩ := bind_some' H
   refine K_r [.r (I x70) [], .n ([p2, x24, x70] : List Int).length] [C_T_keep_Mod k p2 11 x70, ((([p2, x24, x70] : List Int).map (D.int .i64))).length = ([p2, x24, x70] : List Int).length] (by kernel_rfl) (AC (T_keep_Mod_ok k p2 11 x70 hx70) (A1 (List.length_map _))) ?_
   refine K_block (K_conv (σ' := ⟨[(1, (I p2)), (3, (.one (.d (.list (p6.map e_st0))))), (7, (Pt 0)), (11, (Pt 1)), (12, (Pt 2)), (13, (LI x10)), (14, (LI x11)), (16, (LI x69)), (83, (.one (.d (.list (x12.map (el (D.int .i64))))))), (84, (I x13)), (85, (I x67)), (94, (LI ([p2, x24, x70] : List Int))), (95, (I (([p2, x24, x70] : List Int).length : Int))), (96, (I 0))], [.cells [cI p3, cL p4, cI p5], .cells [cL x18, cI x19], .cells [cI 3, cI 0, cI 0, cI x23, cI x24, cL x25]]⟩) (by kernel_rfl) ?_)
   obtain ⟨x106, hx106, H⟩ := bind_some' H
   cases x106 with
   | inl x107 =>
    dsimp only at H
    refine K_loop ⟨[(1, (I p2)), (3, (.one (.d (.list (p6.map e_st0))))), (7, (Pt 0)), (11, (Pt 1)), (12, (Pt 2)), (13, (LI x10)), (14, (LI x11)), (83, (.one (.d (.list (x12.map (el (D.int .i64))))))), (84, (I x13)), (85, (I x67))], [.cells [cI p3, cL p4, cI p5], .cells [cL x18, cI x19], .cells [cI 3, cI 0, cI 0, cI x23, cI x24, cL x25]]⟩ (loop_ok (fun (s : Int) => ⟨[(1, (I p2)), (3, (.one (.d (.list (p6.map e_st0))))), (7, (Pt 0)), (11, (Pt 1)), (12, (Pt 2)), (13, (LI x10)), (14, (LI x11)), (16, (LI x69)), (83, (.one (.d (.list (x12.map (el (D.int .i64))))))), (84, (I x13)), (85, (I x67)), (94, (LI ([p2, x24, x70] : List Int))), (95, (I (([p2, x24, x70] : List Int).length : Int))), (96, (I s))], [.cells [cI p3, cL p4, cI p5], .cells [cL x18, cI x19], .cells [cI 3, cI 0, cI 0, cI x23, cI x24, cL x25]]⟩) (fun (r : Unit ⊕ Unit) => Sum.elim (fun y => (.exit 2, ⟨[(1, (I p2)), (3, (.one (.d (.list (p6.map e_st0))))), (7, (Pt 0)), (11, (Pt 1)), (12, (Pt 2)), (13, (LI x10)), (14, (LI x11)), (83, (.one (.d (.list (x12.map (el (D.int .i64))))))), (84, (I x13)), (85, (I x67))], [.cells [cI p3, cL p4, cI p5], .cells [cL x18, cI x19], .cells [cI 3, cI 0, cI 0, cI x23, cI x24, cL x25]]⟩)) (fun y => (.ret, ⟨[(10, (B false))], []⟩)) r) (fun r h => by cases r <;> cases h) (T_law21_SketchAnswers_l1_ok k p2 p3 p4 p5 p6 x10 x11 x12 x13 x18 x19 x23 x24 x25 x67 x69 ([p2, x24, x70] : List Int) (([p2, x24, x70] : List Int).length : Int)) k 0 (.inl x107) hx106) rfl ?_
    refine K_blk (K_r [] [] (by kernel_rfl) trivial ?_)
    cases H
    exact K_end (by kernel_rfl)
   | inr x108 =>
    dsimp only at H
    cases H
    exact K_loopr ⟨[(10, (B false))], []⟩ (loop_ok (fun (s : Int) => ⟨[(1, (I p2)), (3, (.one (.d (.list (p6.map e_st0))))), (7, (Pt 0)), (11, (Pt 1)), (12, (Pt 2)), (13, (LI x10)), (14, (LI x11)), (16, (LI x69)), (83, (.one (.d (.list (x12.map (el (D.int .i64))))))), (84, (I x13)), (85, (I x67)), (94, (LI ([p2, x24, x70] : List Int))), (95, (I (([p2, x24, x70] : List Int).length : Int))), (96, (I s))], [.cells [cI p3, cL p4, cI p5], .cells [cL x18, cI x19], .cells [cI 3, cI 0, cI 0, cI x23, cI x24, cL x25]]⟩) (fun (r : Unit ⊕ Unit) => Sum.elim (fun y => (.exit 2, ⟨[(1, (I p2)), (3, (.one (.d (.list (p6.map e_st0))))), (7, (Pt 0)), (11, (Pt 1)), (12, (Pt 2)), (13, (LI x10)), (14, (LI x11)), (83, (.one (.d (.list (x12.map (el (D.int .i64))))))), (84, (I x13)), (85, (I x67))], [.cells [cI p3, cL p4, cI p5], .cells [cL x18, cI x19], .cells [cI 3, cI 0, cI 0, cI x23, cI x24, cL x25]]⟩)) (fun y => (.ret, ⟨[(10, (B false))], []⟩)) r) (fun r h => by cases r <;> cases h) (T_law21_SketchAnswers_l1_ok k p2 p3 p4 p5 p6 x10 x11 x12 x13 x18 x19 x23 x24 x25 x67 x69 ([p2, x24, x70] : List Int) (([p2, x24, x70] : List Int).length : Int)) k 0 (.inr x108) hx106) (by kernel_rfl)
 · refine K_f (by kernel_rfl) (decide_eq_false hx68) ?_
   refine K_g (by kernel_rfl) ?_
   cases H
   exact K_exit0 rfl (by kernel_rfl)
def T_law21_SketchAnswers_l3 (k : Nat) (p3 : Int) (p4 : List Int) (p5 : Int) (p6 : List (Int × Int)) (x134 : List (Int × Int)) (x135 : List (Int × Int)) (x136 : List (Int × (List Int) × Int)) (x137 : Int) (x142 : Int) (x143 : List Int) (x144 : Int) (x145 : Int) (x146 : List Int) (x147 : Int) (x148 : Int) (x149 : List Int) (x150 : Int) (x233 : Int) (x242 : List (Int × (List Int) × Int)) (x243 : Int) (x257 : Int) (x258 : List Int) (x259 : Int) (x267 : Int) : Option (Int ⊕ (Unit ⊕ Unit)) :=
 (if x267 < x243 then ((at? x242 x267).bind fun x269 => (T_sketch_Upper k x257 x258 x259 x269.1 x269.2.1 x269.2.2).bind fun x270 => (T_ref21_Upper k x257 x258 x259 x269.1 x269.2.1 x269.2.2).bind fun x271 => (T_sketch_Gap k x257 x258 x259 x269.1 x269.2.1 x269.2.2).bind fun x272 => (T_ref21_Gap k x257 x258 x259 x269.1 x269.2.1 x269.2.2).bind fun x273 => (if ((((!decide (x270.1 = x271.1)) || (!decide (x270.2 = x271.2))) || (!(decide (x272.1 = x273.1) && (decide (x272.2.1 = x273.2.1) && true)))) || (!decide (x272.2.2 = x273.2.2))) = true then some (.inr (.inr ())) else some (.inl (w64 (x267 + 1))))) else some (.inr (.inl ())))
theorem T_law21_SketchAnswers_l3_ok (k : Nat) (p3 : Int) (p4 : List Int) (p5 : Int) (p6 : List (Int × Int)) (x134 : List (Int × Int)) (x135 : List (Int × Int)) (x136 : List (Int × (List Int) × Int)) (x137 : Int) (x142 : Int) (x143 : List Int) (x144 : Int) (x145 : Int) (x146 : List Int) (x147 : Int) (x148 : Int) (x149 : List Int) (x150 : Int) (x233 : Int) (x242 : List (Int × (List Int) × Int)) (x243 : Int) (x257 : Int) (x258 : List Int) (x259 : Int) : ∀ (x267 : Int) (x : Int ⊕ (Unit ⊕ Unit)), T_law21_SketchAnswers_l3 k p3 p4 p5 p6 x134 x135 x136 x137 x142 x143 x144 x145 x146 x147 x148 x149 x150 x233 x242 x243 x257 x258 x259 x267 = some x → evC X (evF X k) k 0 l_law21_SketchAnswers_3 ⟨[(3, (.one (.d (.list (p6.map e_st0))))), (7, (Pt 0)), (23, (Pt 1)), (25, (Pt 2)), (29, (Pt 3)), (31, (.one (.d (.list (x134.map e_st0))))), (33, (.one (.d (.list (x135.map e_st0))))), (35, (Pt 4)), (225, (.one (.d (.list (x136.map e_st1))))), (226, (I x137)), (227, (I x233)), (235, (.one (.d (.list (x242.map e_st1))))), (236, (I x243)), (237, (I x267))], [.cells [cI p3, cL p4, cI p5], .cells [cI x142, cL x143, cI x144], .cells [cI x145, cL x146, cI x147], .cells [cI x148, cL x149, cI x150], .cells [cI x257, cL x258, cI x259]]⟩ = some (outS (fun (s : Int) => ⟨[(3, (.one (.d (.list (p6.map e_st0))))), (7, (Pt 0)), (23, (Pt 1)), (25, (Pt 2)), (29, (Pt 3)), (31, (.one (.d (.list (x134.map e_st0))))), (33, (.one (.d (.list (x135.map e_st0))))), (35, (Pt 4)), (225, (.one (.d (.list (x136.map e_st1))))), (226, (I x137)), (227, (I x233)), (235, (.one (.d (.list (x242.map e_st1))))), (236, (I x243)), (237, (I s))], [.cells [cI p3, cL p4, cI p5], .cells [cI x142, cL x143, cI x144], .cells [cI x145, cL x146, cI x147], .cells [cI x148, cL x149, cI x150], .cells [cI x257, cL x258, cI x259]]⟩) (fun (r : Unit ⊕ Unit) => Sum.elim (fun y => (.exit 7, ⟨[(3, (.one (.d (.list (p6.map e_st0))))), (7, (Pt 0)), (23, (Pt 1)), (25, (Pt 2)), (29, (Pt 3)), (31, (.one (.d (.list (x134.map e_st0))))), (33, (.one (.d (.list (x135.map e_st0))))), (35, (Pt 4)), (225, (.one (.d (.list (x136.map e_st1))))), (226, (I x137)), (227, (I x233))], [.cells [cI p3, cL p4, cI p5], .cells [cI x142, cL x143, cI x144], .cells [cI x145, cL x146, cI x147], .cells [cI x148, cL x149, cI x150], .cells [cI x257, cL x258, cI x259]]⟩)) (fun y => (.ret, ⟨[(10, (B false))], []⟩)) r) x) := by
 intro x267 x H
 unfold T_law21_SketchAnswers_l3 at H
 refine K_in ?_
 refine K_seq (K_r [] [] (by kernel_rfl) trivial ?_)
 refine K_seq ?_
 rcases ite_some H with ⟨hx268, H⟩ | ⟨hx268, H⟩
 · refine K_t (by kernel_rfl) (decide_eq_true hx268) ?_
   refine K_g (by kernel_rfl) ?_
   refine K_skip ?_
   refine K_seq ?_
   refine K_block ?_
   refine K_seq ?_
   obtain ⟨x269, hx269, H⟩ := bind_some' H
   refine K_r [.l [.int .i64 x269.1, .list (x269.2.1.map (D.int .i64)), .int .i64 x269.2.2]] [(0 : Int) ≤ x267 ∧ x267 < (((x242.map e_st1)).length : Int), ((x242.map e_st1).getD x267.toNat (.agg [(.int .i64 0), (.list []), (.int .i64 0)])).cells = [.int .i64 x269.1, .list (x269.2.1.map (D.int .i64)), .int .i64 x269.2.2]] (by kernel_rfl) (AC (at_ok hx269 e_st1 (.agg [(.int .i64 0), (.list []), (.int .i64 0)])).1 (A1 (at_ok hx269 e_st1 (.agg [(.int .i64 0), (.list []), (.int .i64 0)])).2)) ?_
   refine K_seq ?_
   obtain ⟨x270, hx270, H⟩ := bind_some' H
   refine K_r [.r (.tup [(false, [cI x270.1]), (false, [cI x270.2])]) []] [C_T_sketch_Upper k x257 x258 x259 x269.1 x269.2.1 x269.2.2 x270] (by kernel_rfl) (A1 (T_sketch_Upper_ok k x257 x258 x259 x269.1 x269.2.1 x269.2.2 x270 hx270)) ?_
   refine K_seq ?_
   obtain ⟨x271, hx271, H⟩ := bind_some' H
   refine K_r [.r (.tup [(false, [cI x271.1]), (false, [cI x271.2])]) []] [C_T_ref21_Upper k x257 x258 x259 x269.1 x269.2.1 x269.2.2 x271] (by kernel_rfl) (A1 (T_ref21_Upper_ok k x257 x258 x259 x269.1 x269.2.1 x269.2.2 x271 hx271)) ?_
   refine K_seq ?_
   obtain ⟨x272, hx272, H⟩ := bind_some' H
   refine K_r [.r (.tup [(true, [cI x272.1, cI x272.2.1]), (false, [cI x272.2.2])]) []] [C_T_sketch_Gap k x257 x258 x259 x269.1 x269.2.1 x269.2.2 x272] (by kernel_rfl) (A1 (T_sketch_Gap_ok k x257 x258 x259 x269.1 x269.2.1 x269.2.2 x272 hx272)) ?_
   refine K_seq ?_
   obtain ⟨x273, hx273, H⟩ := bind_some' H
   refine K_r [.r (.tup [(true, [cI x273.1, cI x273.2.1]), (false, [cI x273.2.2])]) []] [C_T_ref21_Gap k x257 x258 x259 x269.1 x269.2.1 x269.2.2 x273] (by kernel_rfl) (A1 (T_ref21_Gap_ok k x257 x258 x259 x269.1 x269.2.1 x269.2.2 x273 hx273)) ?_
   refine K_seq (K_r [.m, .m, .m] ((fun (z1 : Heap) => [z1 = z1, z1 = z1, z1 = z1]) [.cells [cI p3, cL p4, cI p5], .cells [cI x142, cL x143, cI x144], .cells [cI x145, cL x146, cI x147], .cells [cI x148, cL x149, cI x150], .cells [cI x257, cL x258, cI x259], .cells [cI x272.1, cI x272.2.1], .cells [cI x273.1, cI x273.2.1]]) (by kernel_rfl) (AC rfl (AC rfl (A1 rfl))) ?_)
   rcases ite_some H with ⟨hx274, H⟩ | ⟨hx274, H⟩
   · refine K_t (by kernel_rfl) hx274 ?_
     refine K_seq (K_r [] [] (by kernel_rfl) trivial ?_)
     refine K_g (by kernel_rfl) ?_
     cases H
     exact K_ret (by kernel_rfl)
   · refine K_f (by kernel_rfl) (Bool.eq_false_iff.2 hx274) ?_
     refine K_g (by kernel_rfl) ?_
     refine K_skip (K_blk (K_r [] [] (by kernel_rfl) trivial ?_))
     cases H
     exact K_end (by kernel_rfl)
 · refine K_f (by kernel_rfl) (decide_eq_false hx268) ?_
   refine K_g (by kernel_rfl) ?_
   cases H
   exact K_exit0 rfl (by kernel_rfl)
def T_law21_SketchAnswers_l4 (k : Nat) (p3 : Int) (p4 : List Int) (p5 : Int) (p6 : List (Int × Int)) (x134 : List (Int × Int)) (x135 : List (Int × Int)) (x136 : List (Int × (List Int) × Int)) (x137 : Int) (x142 : Int) (x143 : List Int) (x144 : Int) (x145 : Int) (x146 : List Int) (x147 : Int) (x148 : Int) (x149 : List Int) (x150 : Int) (x233 : Int) (x283 : List (List (Int × Int))) (x284 : Int) (x298 : Int) (x299 : List Int) (x300 : Int) (x306 : Int) : Option (Int ⊕ (Unit ⊕ Unit)) :=
 (if x306 < x284 then ((at? x283 x306).bind fun x308 => (T_sketch_Region k x298 x299 x300 x308).bind fun x309 => (T_ref21_Region k x298 x299 x300 x308).bind fun x310 => (if ((!(decide (x309.1 = x310.1) && (decide (x309.2.1 = x310.2.1) && true))) || (!decide (x309.2.2 = x310.2.2))) = true then some (.inr (.inr ())) else some (.inl (w64 (x306 + 1))))) else some (.inr (.inl ())))
theorem T_law21_SketchAnswers_l4_ok (k : Nat) (p3 : Int) (p4 : List Int) (p5 : Int) (p6 : List (Int × Int)) (x134 : List (Int × Int)) (x135 : List (Int × Int)) (x136 : List (Int × (List Int) × Int)) (x137 : Int) (x142 : Int) (x143 : List Int) (x144 : Int) (x145 : Int) (x146 : List Int) (x147 : Int) (x148 : Int) (x149 : List Int) (x150 : Int) (x233 : Int) (x283 : List (List (Int × Int))) (x284 : Int) (x298 : Int) (x299 : List Int) (x300 : Int) : ∀ (x306 : Int) (x : Int ⊕ (Unit ⊕ Unit)), T_law21_SketchAnswers_l4 k p3 p4 p5 p6 x134 x135 x136 x137 x142 x143 x144 x145 x146 x147 x148 x149 x150 x233 x283 x284 x298 x299 x300 x306 = some x → evC X (evF X k) k 0 l_law21_SketchAnswers_4 ⟨[(3, (.one (.d (.list (p6.map e_st0))))), (7, (Pt 0)), (23, (Pt 1)), (25, (Pt 2)), (29, (Pt 3)), (31, (.one (.d (.list (x134.map e_st0))))), (33, (.one (.d (.list (x135.map e_st0))))), (35, (Pt 4)), (225, (.one (.d (.list (x136.map e_st1))))), (226, (I x137)), (227, (I x233)), (287, (.one (.d (.list (x283.map (el e_st0)))))), (288, (I x284)), (289, (I x306))], [.cells [cI p3, cL p4, cI p5], .cells [cI x142, cL x143, cI x144], .cells [cI x145, cL x146, cI x147], .cells [cI x148, cL x149, cI x150], .cells [cI x298, cL x299, cI x300]]⟩ = some (outS (fun (s : Int) => ⟨[(3, (.one (.d (.list (p6.map e_st0))))), (7, (Pt 0)), (23, (Pt 1)), (25, (Pt 2)), (29, (Pt 3)), (31, (.one (.d (.list (x134.map e_st0))))), (33, (.one (.d (.list (x135.map e_st0))))), (35, (Pt 4)), (225, (.one (.d (.list (x136.map e_st1))))), (226, (I x137)), (227, (I x233)), (287, (.one (.d (.list (x283.map (el e_st0)))))), (288, (I x284)), (289, (I s))], [.cells [cI p3, cL p4, cI p5], .cells [cI x142, cL x143, cI x144], .cells [cI x145, cL x146, cI x147], .cells [cI x148, cL x149, cI x150], .cells [cI x298, cL x299, cI x300]]⟩) (fun (r : Unit ⊕ Unit) => Sum.elim (fun y => (.exit 9, ⟨[(3, (.one (.d (.list (p6.map e_st0))))), (7, (Pt 0)), (23, (Pt 1)), (25, (Pt 2)), (29, (Pt 3)), (31, (.one (.d (.list (x134.map e_st0))))), (33, (.one (.d (.list (x135.map e_st0))))), (225, (.one (.d (.list (x136.map e_st1))))), (226, (I x137)), (227, (I x233))], [.cells [cI p3, cL p4, cI p5], .cells [cI x142, cL x143, cI x144], .cells [cI x145, cL x146, cI x147], .cells [cI x148, cL x149, cI x150]]⟩)) (fun y => (.ret, ⟨[(10, (B false))], []⟩)) r) x) := by
 intro x306 x H
 unfold T_law21_SketchAnswers_l4 at H
 refine K_in ?_
 refine K_seq (K_r [] [] (by kernel_rfl) trivial ?_)
 refine K_seq ?_
 rcases ite_some H with ⟨hx307, H⟩ | ⟨hx307, H⟩
 · refine K_t (by kernel_rfl) (decide_eq_true hx307) ?_
   refine K_g (by kernel_rfl) ?_
   refine K_skip ?_
   refine K_seq ?_
   refine K_block ?_
   refine K_seq ?_
   obtain ⟨x308, hx308, H⟩ := bind_some' H
   refine K_r [.l [.list (x308.map e_st0)]] [(0 : Int) ≤ x306 ∧ x306 < (((x283.map (el e_st0))).length : Int), ((x283.map (el e_st0)).getD x306.toNat (.list [])).cells = [.list (x308.map e_st0)]] (by kernel_rfl) (AC (at_ok hx308 (el e_st0) (.list [])).1 (A1 (at_ok hx308 (el e_st0) (.list [])).2)) ?_
   refine K_seq ?_
   obtain ⟨x309, hx309, H⟩ := bind_some' H
   refine K_r [.r (.tup [(true, [cI x309.1, cI x309.2.1]), (false, [cI x309.2.2])]) []] [C_T_sketch_Region k x298 x299 x300 x308 x309] (by kernel_rfl) (A1 (T_sketch_Region_ok k x298 x299 x300 x308 x309 hx309)) ?_
   refine K_seq ?_
   obtain ⟨x310, hx310, H⟩ := bind_some' H
   refine K_r [.r (.tup [(true, [cI x310.1, cI x310.2.1]), (false, [cI x310.2.2])]) []] [C_T_ref21_Region k x298 x299 x300 x308 x310] (by kernel_rfl) (A1 (T_ref21_Region_ok k x298 x299 x300 x308 x310 hx310)) ?_
   refine K_seq (K_r [.m] ((fun (z1 : Heap) => [z1 = z1]) [.cells [cI p3, cL p4, cI p5], .cells [cI x142, cL x143, cI x144], .cells [cI x145, cL x146, cI x147], .cells [cI x148, cL x149, cI x150], .cells [cI x298, cL x299, cI x300], .cells [cI x309.1, cI x309.2.1], .cells [cI x310.1, cI x310.2.1]]) (by kernel_rfl) (A1 rfl) ?_)
   rcases ite_some H with ⟨hx311, H⟩ | ⟨hx311, H⟩
   · refine K_t (by kernel_rfl) hx311 ?_
     refine K_seq (K_r [] [] (by kernel_rfl) trivial ?_)
     refine K_g (by kernel_rfl) ?_
     cases H
     exact K_ret (by kernel_rfl)
   · refine K_f (by kernel_rfl) (Bool.eq_false_iff.2 hx311) ?_
     refine K_g (by kernel_rfl) ?_
     refine K_skip (K_blk (K_r [] [] (by kernel_rfl) trivial ?_))
     cases H
     exact K_end (by kernel_rfl)
 · refine K_f (by kernel_rfl) (decide_eq_false hx307) ?_
   refine K_g (by kernel_rfl) ?_
   cases H
   exact K_exit0 rfl (by kernel_rfl)
def T_law21_SketchAnswers_l5 (k : Nat) (p3 : Int) (p4 : List Int) (p5 : Int) (p6 : List (Int × Int)) (x134 : List (Int × Int)) (x135 : List (Int × Int)) (x136 : List (Int × (List Int) × Int)) (x137 : Int) (x142 : Int) (x143 : List Int) (x144 : Int) (x145 : Int) (x146 : List Int) (x147 : Int) (x148 : Int) (x149 : List Int) (x150 : Int) (x233 : Int) : Option (Int ⊕ (Unit ⊕ Unit)) :=
 (if x233 < x137 then ((at? x136 x233).bind fun x235 => (loopT (T_law21_SketchAnswers_l3 k p3 p4 p5 p6 x134 x135 x136 x137 x142 x143 x144 x145 x146 x147 x148 x149 x150 x233 ([(p3, p4, p5), (x142, x143, x144), (x145, x146, x147), (x148, x149, x150)] : List (Int × (List Int) × Int)) (([(p3, p4, p5), (x142, x143, x144), (x145, x146, x147), (x148, x149, x150)] : List (Int × (List Int) × Int)).length : Int) x235.1 x235.2.1 x235.2.2) k 0).bind fun x275 => (match x275 with | .inl x276 => ((loopT (T_law21_SketchAnswers_l4 k p3 p4 p5 p6 x134 x135 x136 x137 x142 x143 x144 x145 x146 x147 x148 x149 x150 x233 ([p6, x134, x135] : List (List (Int × Int))) (([p6, x134, x135] : List (List (Int × Int))).length : Int) x235.1 x235.2.1 x235.2.2) k 0).bind fun x312 => (match x312 with | .inl x313 => some (.inl (w64 (x233 + 1))) | .inr x314 => some (.inr (.inr ())))) | .inr x315 => some (.inr (.inr ())))) else some (.inr (.inl ())))
theorem T_law21_SketchAnswers_l5_ok (k : Nat) (p3 : Int) (p4 : List Int) (p5 : Int) (p6 : List (Int × Int)) (x134 : List (Int × Int)) (x135 : List (Int × Int)) (x136 : List (Int × (List Int) × Int)) (x137 : Int) (x142 : Int) (x143 : List Int) (x144 : Int) (x145 : Int) (x146 : List Int) (x147 : Int) (x148 : Int) (x149 : List Int) (x150 : Int) : ∀ (x233 : Int) (x : Int ⊕ (Unit ⊕ Unit)), T_law21_SketchAnswers_l5 k p3 p4 p5 p6 x134 x135 x136 x137 x142 x143 x144 x145 x146 x147 x148 x149 x150 x233 = some x → evC X (evF X k) k 0 l_law21_SketchAnswers_5 ⟨[(3, (.one (.d (.list (p6.map e_st0))))), (7, (Pt 0)), (23, (Pt 1)), (25, (Pt 2)), (29, (Pt 3)), (31, (.one (.d (.list (x134.map e_st0))))), (33, (.one (.d (.list (x135.map e_st0))))), (225, (.one (.d (.list (x136.map e_st1))))), (226, (I x137)), (227, (I x233))], [.cells [cI p3, cL p4, cI p5], .cells [cI x142, cL x143, cI x144], .cells [cI x145, cL x146, cI x147], .cells [cI x148, cL x149, cI x150]]⟩ = some (outS (fun (s : Int) => ⟨[(3, (.one (.d (.list (p6.map e_st0))))), (7, (Pt 0)), (23, (Pt 1)), (25, (Pt 2)), (29, (Pt 3)), (31, (.one (.d (.list (x134.map e_st0))))), (33, (.one (.d (.list (x135.map e_st0))))), (225, (.one (.d (.list (x136.map e_st1))))), (226, (I x137)), (227, (I s))], [.cells [cI p3, cL p4, cI p5], .cells [cI x142, cL x143, cI x144], .cells [cI x145, cL x146, cI x147], .cells [cI x148, cL x149, cI x150]]⟩) (fun (r : Unit ⊕ Unit) => Sum.elim (fun y => (.exit 5, ⟨[], []⟩)) (fun y => (.ret, ⟨[(10, (B false))], []⟩)) r) x) := by
 intro x233 x H
 unfold T_law21_SketchAnswers_l5 at H
 refine K_in ?_
 refine K_seq (K_r [] [] (by kernel_rfl) trivial ?_)
 refine K_seq ?_
 rcases ite_some H with ⟨hx234, H⟩ | ⟨hx234, H⟩
 · refine K_t (by kernel_rfl) (decide_eq_true hx234) ?_
   refine K_g (by kernel_rfl) ?_
   refine K_skip ?_
   refine K_seq ?_
   refine K_block ?_
   refine K_seq ?_
   obtain ⟨x235, hx235, H⟩ := bind_some' H
   refine K_r [.l [.int .i64 x235.1, .list (x235.2.1.map (D.int .i64)), .int .i64 x235.2.2]] [(0 : Int) ≤ x233 ∧ x233 < (((x136.map e_st1)).length : Int), ((x136.map e_st1).getD x233.toNat (.agg [(.int .i64 0), (.list []), (.int .i64 0)])).cells = [.int .i64 x235.1, .list (x235.2.1.map (D.int .i64)), .int .i64 x235.2.2]] (by kernel_rfl) (AC (at_ok hx235 e_st1 (.agg [(.int .i64 0), (.list []), (.int .i64 0)])).1 (A1 (at_ok hx235 e_st1 (.agg [(.int .i64 0), (.list []), (.int .i64 0)])).2)) ?_
   refine K_seq (K_seq (K_r [.n ([(p3, p4, p5), (x142, x143, x144), (x145, x146, x147), (x148, x149, x150)] : List (Int × (List Int) × Int)).length] [((([(p3, p4, p5), (x142, x143, x144), (x145, x146, x147), (x148, x149, x150)] : List (Int × (List Int) × Int)).map e_st1)).length = ([(p3, p4, p5), (x142, x143, x144), (x145, x146, x147), (x148, x149, x150)] : List (Int × (List Int) × Int)).length] (by kernel_rfl) (A1 (List.length_map _)) ?_))
   refine K_block (K_conv (σ' := ⟨[(3, (.one (.d (.list (p6.map e_st0))))), (7, (Pt 0)), (23, (Pt 1)), (25, (Pt 2)), (29, (Pt 3)), (31, (.one (.d (.list (x134.map e_st0))))), (33, (.one (.d (.list (x135.map e_st0))))), (35, (Pt 4)), (225, (.one (.d (.list (x136.map e_st1))))), (226, (I x137)), (227, (I x233)), (235, (.one (.d (.list (([(p3, p4, p5), (x142, x143, x144), (x145, x146, x147), (x148, x149, x150)] : List (Int × (List Int) × Int)).map e_st1))))), (236, (I (([(p3, p4, p5), (x142, x143, x144), (x145, x146, x147), (x148, x149, x150)] : List (Int × (List Int) × Int)).length : Int))), (237, (I 0))], [.cells [cI p3, cL p4, cI p5], .cells [cI x142, cL x143, cI x144], .cells [cI x145, cL x146, cI x147], .cells [cI x148, cL x149, cI x150], .cells [cI x235.1, cL x235.2.1, cI x235.2.2]]⟩) (by kernel_rfl) ?_)
   obtain ⟨x275, hx275, H⟩ := bind_some' H
   cases x275 with
   | inl x276 =>
    dsimp only at H
    refine K_loop ⟨[(3, (.one (.d (.list (p6.map e_st0))))), (7, (Pt 0)), (23, (Pt 1)), (25, (Pt 2)), (29, (Pt 3)), (31, (.one (.d (.list (x134.map e_st0))))), (33, (.one (.d (.list (x135.map e_st0))))), (35, (Pt 4)), (225, (.one (.d (.list (x136.map e_st1))))), (226, (I x137)), (227, (I x233))], [.cells [cI p3, cL p4, cI p5], .cells [cI x142, cL x143, cI x144], .cells [cI x145, cL x146, cI x147], .cells [cI x148, cL x149, cI x150], .cells [cI x235.1, cL x235.2.1, cI x235.2.2]]⟩ (loop_ok (fun (s : Int) => ⟨[(3, (.one (.d (.list (p6.map e_st0))))), (7, (Pt 0)), (23, (Pt 1)), (25, (Pt 2)), (29, (Pt 3)), (31, (.one (.d (.list (x134.map e_st0))))), (33, (.one (.d (.list (x135.map e_st0))))), (35, (Pt 4)), (225, (.one (.d (.list (x136.map e_st1))))), (226, (I x137)), (227, (I x233)), (235, (.one (.d (.list (([(p3, p4, p5), (x142, x143, x144), (x145, x146, x147), (x148, x149, x150)] : List (Int × (List Int) × Int)).map e_st1))))), (236, (I (([(p3, p4, p5), (x142, x143, x144), (x145, x146, x147), (x148, x149, x150)] : List (Int × (List Int) × Int)).length : Int))), (237, (I s))], [.cells [cI p3, cL p4, cI p5], .cells [cI x142, cL x143, cI x144], .cells [cI x145, cL x146, cI x147], .cells [cI x148, cL x149, cI x150], .cells [cI x235.1, cL x235.2.1, cI x235.2.2]]⟩) (fun (r : Unit ⊕ Unit) => Sum.elim (fun y => (.exit 7, ⟨[(3, (.one (.d (.list (p6.map e_st0))))), (7, (Pt 0)), (23, (Pt 1)), (25, (Pt 2)), (29, (Pt 3)), (31, (.one (.d (.list (x134.map e_st0))))), (33, (.one (.d (.list (x135.map e_st0))))), (35, (Pt 4)), (225, (.one (.d (.list (x136.map e_st1))))), (226, (I x137)), (227, (I x233))], [.cells [cI p3, cL p4, cI p5], .cells [cI x142, cL x143, cI x144], .cells [cI x145, cL x146, cI x147], .cells [cI x148, cL x149, cI x150], .cells [cI x235.1, cL x235.2.1, cI x235.2.2]]⟩)) (fun y => (.ret, ⟨[(10, (B false))], []⟩)) r) (fun r h => by cases r <;> cases h) (T_law21_SketchAnswers_l3_ok k p3 p4 p5 p6 x134 x135 x136 x137 x142 x143 x144 x145 x146 x147 x148 x149 x150 x233 ([(p3, p4, p5), (x142, x143, x144), (x145, x146, x147), (x148, x149, x150)] : List (Int × (List Int) × Int)) (([(p3, p4, p5), (x142, x143, x144), (x145, x146, x147), (x148, x149, x150)] : List (Int × (List Int) × Int)).length : Int) x235.1 x235.2.1 x235.2.2) k 0 (.inl x276) hx275) rfl ?_
    refine K_seq (K_r [.n ([p6, x134, x135] : List (List (Int × Int))).length] [((([p6, x134, x135] : List (List (Int × Int))).map (el e_st0))).length = ([p6, x134, x135] : List (List (Int × Int))).length] (by kernel_rfl) (A1 (List.length_map _)) ?_)
    refine K_block (K_conv (σ' := ⟨[(3, (.one (.d (.list (p6.map e_st0))))), (7, (Pt 0)), (23, (Pt 1)), (25, (Pt 2)), (29, (Pt 3)), (31, (.one (.d (.list (x134.map e_st0))))), (33, (.one (.d (.list (x135.map e_st0))))), (35, (Pt 4)), (225, (.one (.d (.list (x136.map e_st1))))), (226, (I x137)), (227, (I x233)), (287, (.one (.d (.list (([p6, x134, x135] : List (List (Int × Int))).map (el e_st0)))))), (288, (I (([p6, x134, x135] : List (List (Int × Int))).length : Int))), (289, (I 0))], [.cells [cI p3, cL p4, cI p5], .cells [cI x142, cL x143, cI x144], .cells [cI x145, cL x146, cI x147], .cells [cI x148, cL x149, cI x150], .cells [cI x235.1, cL x235.2.1, cI x235.2.2]]⟩) (by kernel_rfl) ?_)
    obtain ⟨x312, hx312, H⟩ := bind_some' H
    cases x312 with
    | inl x313 =>
     dsimp only at H
     refine K_loop ⟨[(3, (.one (.d (.list (p6.map e_st0))))), (7, (Pt 0)), (23, (Pt 1)), (25, (Pt 2)), (29, (Pt 3)), (31, (.one (.d (.list (x134.map e_st0))))), (33, (.one (.d (.list (x135.map e_st0))))), (225, (.one (.d (.list (x136.map e_st1))))), (226, (I x137)), (227, (I x233))], [.cells [cI p3, cL p4, cI p5], .cells [cI x142, cL x143, cI x144], .cells [cI x145, cL x146, cI x147], .cells [cI x148, cL x149, cI x150]]⟩ (loop_ok (fun (s : Int) => ⟨[(3, (.one (.d (.list (p6.map e_st0))))), (7, (Pt 0)), (23, (Pt 1)), (25, (Pt 2)), (29, (Pt 3)), (31, (.one (.d (.list (x134.map e_st0))))), (33, (.one (.d (.list (x135.map e_st0))))), (35, (Pt 4)), (225, (.one (.d (.list (x136.map e_st1))))), (226, (I x137)), (227, (I x233)), (287, (.one (.d (.list (([p6, x134, x135] : List (List (Int × Int))).map (el e_st0)))))), (288, (I (([p6, x134, x135] : List (List (Int × Int))).length : Int))), (289, (I s))], [.cells [cI p3, cL p4, cI p5], .cells [cI x142, cL x143, cI x144], .cells [cI x145, cL x146, cI x147], .cells [cI x148, cL x149, cI x150], .cells [cI x235.1, cL x235.2.1, cI x235.2.2]]⟩) (fun (r : Unit ⊕ Unit) => Sum.elim (fun y => (.exit 9, ⟨[(3, (.one (.d (.list (p6.map e_st0))))), (7, (Pt 0)), (23, (Pt 1)), (25, (Pt 2)), (29, (Pt 3)), (31, (.one (.d (.list (x134.map e_st0))))), (33, (.one (.d (.list (x135.map e_st0))))), (225, (.one (.d (.list (x136.map e_st1))))), (226, (I x137)), (227, (I x233))], [.cells [cI p3, cL p4, cI p5], .cells [cI x142, cL x143, cI x144], .cells [cI x145, cL x146, cI x147], .cells [cI x148, cL x149, cI x150]]⟩)) (fun y => (.ret, ⟨[(10, (B false))], []⟩)) r) (fun r h => by cases r <;> cases h) (T_law21_SketchAnswers_l4_ok k p3 p4 p5 p6 x134 x135 x136 x137 x142 x143 x144 x145 x146 x147 x148 x149 x150 x233 ([p6, x134, x135] : List (List (Int × Int))) (([p6, x134, x135] : List (List (Int × Int))).length : Int) x235.1 x235.2.1 x235.2.2) k 0 (.inl x313) hx312) rfl ?_
     refine K_blk (K_r [] [] (by kernel_rfl) trivial ?_)
     cases H
     exact K_end (by kernel_rfl)
    | inr x314 =>
     dsimp only at H
     cases H
     exact K_loopr ⟨[(10, (B false))], []⟩ (loop_ok (fun (s : Int) => ⟨[(3, (.one (.d (.list (p6.map e_st0))))), (7, (Pt 0)), (23, (Pt 1)), (25, (Pt 2)), (29, (Pt 3)), (31, (.one (.d (.list (x134.map e_st0))))), (33, (.one (.d (.list (x135.map e_st0))))), (35, (Pt 4)), (225, (.one (.d (.list (x136.map e_st1))))), (226, (I x137)), (227, (I x233)), (287, (.one (.d (.list (([p6, x134, x135] : List (List (Int × Int))).map (el e_st0)))))), (288, (I (([p6, x134, x135] : List (List (Int × Int))).length : Int))), (289, (I s))], [.cells [cI p3, cL p4, cI p5], .cells [cI x142, cL x143, cI x144], .cells [cI x145, cL x146, cI x147], .cells [cI x148, cL x149, cI x150], .cells [cI x235.1, cL x235.2.1, cI x235.2.2]]⟩) (fun (r : Unit ⊕ Unit) => Sum.elim (fun y => (.exit 9, ⟨[(3, (.one (.d (.list (p6.map e_st0))))), (7, (Pt 0)), (23, (Pt 1)), (25, (Pt 2)), (29, (Pt 3)), (31, (.one (.d (.list (x134.map e_st0))))), (33, (.one (.d (.list (x135.map e_st0))))), (225, (.one (.d (.list (x136.map e_st1))))), (226, (I x137)), (227, (I x233))], [.cells [cI p3, cL p4, cI p5], .cells [cI x142, cL x143, cI x144], .cells [cI x145, cL x146, cI x147], .cells [cI x148, cL x149, cI x150]]⟩)) (fun y => (.ret, ⟨[(10, (B false))], []⟩)) r) (fun r h => by cases r <;> cases h) (T_law21_SketchAnswers_l4_ok k p3 p4 p5 p6 x134 x135 x136 x137 x142 x143 x144 x145 x146 x147 x148 x149 x150 x233 ([p6, x134, x135] : List (List (Int × Int))) (([p6, x134, x135] : List (List (Int × Int))).length : Int) x235.1 x235.2.1 x235.2.2) k 0 (.inr x314) hx312) (by kernel_rfl)
   | inr x315 =>
    dsimp only at H
    cases H
    exact K_loopr ⟨[(10, (B false))], []⟩ (loop_ok (fun (s : Int) => ⟨[(3, (.one (.d (.list (p6.map e_st0))))), (7, (Pt 0)), (23, (Pt 1)), (25, (Pt 2)), (29, (Pt 3)), (31, (.one (.d (.list (x134.map e_st0))))), (33, (.one (.d (.list (x135.map e_st0))))), (35, (Pt 4)), (225, (.one (.d (.list (x136.map e_st1))))), (226, (I x137)), (227, (I x233)), (235, (.one (.d (.list (([(p3, p4, p5), (x142, x143, x144), (x145, x146, x147), (x148, x149, x150)] : List (Int × (List Int) × Int)).map e_st1))))), (236, (I (([(p3, p4, p5), (x142, x143, x144), (x145, x146, x147), (x148, x149, x150)] : List (Int × (List Int) × Int)).length : Int))), (237, (I s))], [.cells [cI p3, cL p4, cI p5], .cells [cI x142, cL x143, cI x144], .cells [cI x145, cL x146, cI x147], .cells [cI x148, cL x149, cI x150], .cells [cI x235.1, cL x235.2.1, cI x235.2.2]]⟩) (fun (r : Unit ⊕ Unit) => Sum.elim (fun y => (.exit 7, ⟨[(3, (.one (.d (.list (p6.map e_st0))))), (7, (Pt 0)), (23, (Pt 1)), (25, (Pt 2)), (29, (Pt 3)), (31, (.one (.d (.list (x134.map e_st0))))), (33, (.one (.d (.list (x135.map e_st0))))), (35, (Pt 4)), (225, (.one (.d (.list (x136.map e_st1))))), (226, (I x137)), (227, (I x233))], [.cells [cI p3, cL p4, cI p5], .cells [cI x142, cL x143, cI x144], .cells [cI x145, cL x146, cI x147], .cells [cI x148, cL x149, cI x150], .cells [cI x235.1, cL x235.2.1, cI x235.2.2]]⟩)) (fun y => (.ret, ⟨[(10, (B false))], []⟩)) r) (fun r h => by cases r <;> cases h) (T_law21_SketchAnswers_l3_ok k p3 p4 p5 p6 x134 x135 x136 x137 x142 x143 x144 x145 x146 x147 x148 x149 x150 x233 ([(p3, p4, p5), (x142, x143, x144), (x145, x146, x147), (x148, x149, x150)] : List (Int × (List Int) × Int)) (([(p3, p4, p5), (x142, x143, x144), (x145, x146, x147), (x148, x149, x150)] : List (Int × (List Int) × Int)).length : Int) x235.1 x235.2.1 x235.2.2) k 0 (.inr x315) hx275) (by kernel_rfl)
 · refine K_f (by kernel_rfl) (decide_eq_false hx234) ?_
   refine K_g (by kernel_rfl) ?_
   cases H
   exact K_exit0 rfl (by kernel_rfl)
def T_law21_SketchAnswers (k : Nat) (p1 : List Int) (p2 : Int) (p3 : Int) (p4 : List Int) (p5 : Int) (p6 : List (Int × Int)) (p7 : List Int) : Option Bool := match k with
 | 0 => none
 | k + 1 => (if ((decide (100 < (p1.length : Int)) || decide (20 < (p4.length : Int))) || decide (20 < (p6.length : Int))) = true then ((T_law21_awake k).bind fun x2 => some x2) else ((T_keep_New k p7).bind fun x3 => (T_law21_normal k ((p7.drop 0).take ((imin (p7.length : Int) 2000).toNat - 0)) 0).bind fun x4 => (T_keep_Src_List k x4.1 ((p7.drop 0).take ((imin (p7.length : Int) 2000).toNat - 0)) x4.2.2.2).bind fun x5 => (T_keep_Src_Near k x5.1 ((p7.drop 0).take ((imin (p7.length : Int) 2000).toNat - 0)) x5.2).bind fun x6 => (T_keep_Src_Bent k x5.1 ((p7.drop 0).take ((imin (p7.length : Int) 2000).toNat - 0)) x6.2).bind fun x7 => (loopT (T_law21_SketchAnswers_l2 k p2 p3 p4 p5 p6 x5.1 x6.1 ([p1, x5.1, x7.1] : List (List Int)) (([p1, x5.1, x7.1] : List (List Int)).length : Int) ((p7.drop 0).take ((imin (p7.length : Int) 2000).toNat - 0)) x7.2 x4.1 x4.2.1 x4.2.2.1) k 0).bind fun x109 => (match x109 with | .inl x110 => (T_ref21_Of k x5.1 x4.2.1).bind fun x111 => (T_ref21_Of k x6.1 x4.2.1).bind fun x112 => (T_ref21_Of k x6.1 1).bind fun x113 => (if 0 + x112.2.1.length ≤ LIM then (T_keep_Src_N k (((0 + x112.2.1.length) : Nat) : Int) ((p7.drop 0).take ((imin (p7.length : Int) 2000).toNat - 0)) x7.2).bind fun x115 => (T_keep_Src_N k 4 ((p7.drop 0).take ((imin (p7.length : Int) 2000).toNat - 0)) x115.2).bind fun x116 => ((if x116.1 = 0 then (if (0 : Int) ≤ x115.1 ∧ x115.1 < (((0 + x112.2.1.length) : Nat) : Int) then (((([] : List Int).drop 0).take 0 ++ x112.2.1)[(0 + x115.1.toNat)]?).bind fun x119 => (T_keep_Src_Pick k ([1, 100, 2097152, 4611686018427387904] : List Int) ((p7.drop 0).take ((imin (p7.length : Int) 2000).toNat - 0)) x116.2).bind fun x120 => some (x120.2, x112.1, x112.2.2.1, (((([] : List Int).drop 0).take 0 ++ x112.2.1).set (0 + x115.1.toNat) (w64 (x119 + x120.1)))) else none) else (if x116.1 = 1 then ((T_keep_Src_Pick k ([0, 1, (w64 (0 - x112.1)), (w64 (x112.2.2.1 + x112.1)), (w64 ((w64 ((w64 (x112.1 * x112.1)) * x112.1)) * 1000000)), 4611686018427387904] : List Int) ((p7.drop 0).take ((imin (p7.length : Int) 2000).toNat - 0)) x116.2).bind fun x122 => some (x122.2, x112.1, x122.1, ((([] : List Int).drop 0).take 0 ++ x112.2.1))) else (if x116.1 = 2 then ((T_keep_Src_Pick k ([0, 1, 2, 32, 33] : List Int) ((p7.drop 0).take ((imin (p7.length : Int) 2000).toNat - 0)) x116.2).bind fun x124 => some (x124.2, x124.1, x112.2.2.1, ((([] : List Int).drop 0).take 0 ++ x112.2.1))) else some (x116.2, x112.1, x112.2.2.1, ((([] : List Int).drop 0).take 0 ++ x112.2.1)))))).bind fun x125 => (T_keep_Src_Word k 3 0 0 x4.1 x4.2.1 x4.2.2.1 ((p7.drop 0).take ((imin (p7.length : Int) 2000).toNat - 0)) x125.1).bind fun x126 => (T_ref19_Region k 3 0 0 x4.1 x4.2.1 x4.2.2.1 x126.1 x126.2.1).bind fun x127 => (if 0 + x127.1.length ≤ LIM then (T_keep_Src_N k (((0 + x127.1.length) : Nat) : Int) ((p7.drop 0).take ((imin (p7.length : Int) 2000).toNat - 0)) x126.2.2).bind fun x129 => (T_keep_Src_Pick k ([(-1099511627776), (-1099511627777), 1099511627776, 5, 300] : List Int) ((p7.drop 0).take ((imin (p7.length : Int) 2000).toNat - 0)) x129.2).bind fun x130 => (T_keep_Src_Pick k ([1099511627776, 1099511627777, 4, 310] : List Int) ((p7.drop 0).take ((imin (p7.length : Int) 2000).toNat - 0)) x130.2).bind fun x131 => (if (0 : Int) ≤ x129.1 ∧ x129.1 < (((0 + x127.1.length) : Nat) : Int) then (loopT (T_law21_SketchAnswers_l5 k p3 p4 p5 p6 x127.1 (((((([] : List (Int × Int)).drop 0).take 0 ++ x127.1).set (0 + x129.1.toNat) (x130.1, x131.1)).drop 0).take (0 + x127.1.length)) ([(p3, p4, p5), (x111.1, x111.2.1, x111.2.2.1), (x112.1, x112.2.1, x112.2.2.1), (x113.1, x113.2.1, x113.2.2.1), (x125.2.1, ((x125.2.2.2.drop 0).take (0 + x112.2.1.length)), x125.2.2.1)] : List (Int × (List Int) × Int)) (([(p3, p4, p5), (x111.1, x111.2.1, x111.2.2.1), (x112.1, x112.2.1, x112.2.2.1), (x113.1, x113.2.1, x113.2.2.1), (x125.2.1, ((x125.2.2.2.drop 0).take (0 + x112.2.1.length)), x125.2.2.1)] : List (Int × (List Int) × Int)).length : Int) x111.1 x111.2.1 x111.2.2.1 x112.1 x112.2.1 x112.2.2.1 x125.2.1 ((x125.2.2.2.drop 0).take (0 + x112.2.1.length)) x125.2.2.1) k 0).bind fun x316 => (match x316 with | .inl x317 => ((T_law21_awake k).bind fun x318 => some x318) | .inr x319 => some false) else none) else none) else none) | .inr x320 => some false)))
abbrev C_T_law21_SketchAnswers (k : Nat) (p1 : List Int) (p2 : Int) (p3 : Int) (p4 : List Int) (p5 : Int) (p6 : List (Int × Int)) (p7 : List Int) (r : Bool) : Prop := evF X k n_law21_SketchAnswers [(LI p1), (I p2), (.agg [cI p3, cL p4, cI p5]), (.one (.d (.list (p6.map e_st0)))), (LI p7)] [] = some ((B r), [])
theorem T_law21_SketchAnswers_ok (k : Nat) (p1 : List Int) (p2 : Int) (p3 : Int) (p4 : List Int) (p5 : Int) (p6 : List (Int × Int)) (p7 : List Int) (r : Bool) : T_law21_SketchAnswers k p1 p2 p3 p4 p5 p6 p7 = some r → C_T_law21_SketchAnswers k p1 p2 p3 p4 p5 p6 p7 r := by
 intro H
 cases k with
 | zero => simp [T_law21_SketchAnswers] at H
 | succ k =>
  simp only [T_law21_SketchAnswers] at H
  refine F_in X_law21_SketchAnswers rfl ?_
  refine K_seq (K_r [] [] (by kernel_rfl) trivial ?_)
  refine K_seq (K_seq (K_r [.n p1.length, .m, .n p4.length, .m, .n p6.length] ((fun (z1 : Heap) => [((p1.map (D.int .i64))).length = p1.length, decide (100 < (p1.length : Int)) = false → AllT [((p4.map (D.int .i64))).length = p4.length], z1 = z1, (decide (100 < (p1.length : Int)) || decide (20 < (p4.length : Int))) = false → AllT [((p6.map e_st0)).length = p6.length], z1 = z1]) [.cells [cI p3, cL p4, cI p5]]) (by kernel_rfl) (AC (List.length_map _) (AC (fun _ => (A1 (List.length_map _))) (AC rfl (AC (fun _ => (A1 (List.length_map _))) (A1 rfl))))) ?_))
  rcases ite_some H with ⟨hx1, H⟩ | ⟨hx1, H⟩
  · refine K_t (by kernel_rfl) hx1 ?_
    refine K_seq ?_
    obtain ⟨x2, hx2, H⟩ := bind_some' H
    refine K_r [.r (B x2) []] [C_T_law21_awake k x2] (by kernel_rfl) (A1 (T_law21_awake_ok k x2 hx2)) ?_
    refine K_g (by kernel_rfl) ?_
    cases H
    refine K_ret ?_
    kernel_rfl
  · refine K_f (by kernel_rfl) (Bool.eq_false_iff.2 hx1) ?_
    refine K_g (by kernel_rfl) ?_
    refine K_skip ?_
    refine K_seq ?_
    obtain ⟨x3, hx3, H⟩ := bind_some' H
    refine K_r [.r (Pt 0) [.cells [cL ((p7.drop 0).take ((imin (p7.length : Int) 2000).toNat - 0)), cI 0]]] [C_T_keep_New k p7 x3] (by kernel_rfl) (A1 (T_keep_New_ok k p7 x3 hx3)) ?_
    refine K_seq ?_
    obtain ⟨x4, hx4, H⟩ := bind_some' H
    refine K_r [.r (.agg [cI 3, cI 0, cI 0, cI x4.1, cI x4.2.1, cL x4.2.2.1]) [.cells [cL ((p7.drop 0).take ((imin (p7.length : Int) 2000).toNat - 0)), cI x4.2.2.2]]] [C_T_law21_normal k ((p7.drop 0).take ((imin (p7.length : Int) 2000).toNat - 0)) 0 x4] (by kernel_rfl) (A1 (T_law21_normal_ok k ((p7.drop 0).take ((imin (p7.length : Int) 2000).toNat - 0)) 0 x4 hx4)) ?_
    refine K_seq ?_
    obtain ⟨x5, hx5, H⟩ := bind_some' H
    refine K_r [.r (LI x5.1) [.cells [cL ((p7.drop 0).take ((imin (p7.length : Int) 2000).toNat - 0)), cI x5.2]]] [C_T_keep_Src_List k x4.1 ((p7.drop 0).take ((imin (p7.length : Int) 2000).toNat - 0)) x4.2.2.2 x5] (by kernel_rfl) (A1 (T_keep_Src_List_ok k x4.1 ((p7.drop 0).take ((imin (p7.length : Int) 2000).toNat - 0)) x4.2.2.2 x5 hx5)) ?_
    refine K_seq ?_
    obtain ⟨x6, hx6, H⟩ := bind_some' H
    refine K_r [.r (LI x6.1) [.cells [cL ((p7.drop 0).take ((imin (p7.length : Int) 2000).toNat - 0)), cI x6.2]]] [C_T_keep_Src_Near k x5.1 ((p7.drop 0).take ((imin (p7.length : Int) 2000).toNat - 0)) x5.2 x6] (by kernel_rfl) (A1 (T_keep_Src_Near_ok k x5.1 ((p7.drop 0).take ((imin (p7.length : Int) 2000).toNat - 0)) x5.2 x6 hx6)) ?_
    refine K_seq ?_
    refine K_seq ?_
    obtain ⟨x7, hx7, H⟩ := bind_some' H
    refine K_r [.r (LI x7.1) [.cells [cL ((p7.drop 0).take ((imin (p7.length : Int) 2000).toNat - 0)), cI x7.2]], .n ([p1, x5.1, x7.1] : List (List Int)).length] [C_T_keep_Src_Bent k x5.1 ((p7.drop 0).take ((imin (p7.length : Int) 2000).toNat - 0)) x6.2 x7, ((([p1, x5.1, x7.1] : List (List Int)).map (el (D.int .i64)))).length = ([p1, x5.1, x7.1] : List (List Int)).length] (by kernel_rfl) (AC (T_keep_Src_Bent_ok k x5.1 ((p7.drop 0).take ((imin (p7.length : Int) 2000).toNat - 0)) x6.2 x7 hx7) (A1 (List.length_map _))) ?_
    refine K_block (K_conv (σ' := ⟨[(1, (I p2)), (3, (.one (.d (.list (p6.map e_st0))))), (7, (Pt 0)), (11, (Pt 1)), (12, (Pt 2)), (13, (LI x5.1)), (14, (LI x6.1)), (83, (.one (.d (.list (([p1, x5.1, x7.1] : List (List Int)).map (el (D.int .i64))))))), (84, (I (([p1, x5.1, x7.1] : List (List Int)).length : Int))), (85, (I 0))], [.cells [cI p3, cL p4, cI p5], .cells [cL ((p7.drop 0).take ((imin (p7.length : Int) 2000).toNat - 0)), cI x7.2], .cells [cI 3, cI 0, cI 0, cI x4.1, cI x4.2.1, cL x4.2.2.1]]⟩) (by kernel_rfl) ?_)
    obtain ⟨x109, hx109, H⟩ := bind_some' H
    cases x109 with
    | inl x110 =>
     dsimp only at H
     refine K_loop ⟨[(3, (.one (.d (.list (p6.map e_st0))))), (7, (Pt 0)), (11, (Pt 1)), (12, (Pt 2)), (13, (LI x5.1)), (14, (LI x6.1))], [.cells [cI p3, cL p4, cI p5], .cells [cL ((p7.drop 0).take ((imin (p7.length : Int) 2000).toNat - 0)), cI x7.2], .cells [cI 3, cI 0, cI 0, cI x4.1, cI x4.2.1, cL x4.2.2.1]]⟩ (loop_ok (fun (s : Int) => ⟨[(1, (I p2)), (3, (.one (.d (.list (p6.map e_st0))))), (7, (Pt 0)), (11, (Pt 1)), (12, (Pt 2)), (13, (LI x5.1)), (14, (LI x6.1)), (83, (.one (.d (.list (([p1, x5.1, x7.1] : List (List Int)).map (el (D.int .i64))))))), (84, (I (([p1, x5.1, x7.1] : List (List Int)).length : Int))), (85, (I s))], [.cells [cI p3, cL p4, cI p5], .cells [cL ((p7.drop 0).take ((imin (p7.length : Int) 2000).toNat - 0)), cI x7.2], .cells [cI 3, cI 0, cI 0, cI x4.1, cI x4.2.1, cL x4.2.2.1]]⟩) (fun (r : Unit ⊕ Unit) => Sum.elim (fun y => (.exit 0, ⟨[(3, (.one (.d (.list (p6.map e_st0))))), (7, (Pt 0)), (11, (Pt 1)), (12, (Pt 2)), (13, (LI x5.1)), (14, (LI x6.1))], [.cells [cI p3, cL p4, cI p5], .cells [cL ((p7.drop 0).take ((imin (p7.length : Int) 2000).toNat - 0)), cI x7.2], .cells [cI 3, cI 0, cI 0, cI x4.1, cI x4.2.1, cL x4.2.2.1]]⟩)) (fun y => (.ret, ⟨[(10, (B false))], []⟩)) r) (fun r h => by cases r <;> cases h) (T_law21_SketchAnswers_l2_ok k p2 p3 p4 p5 p6 x5.1 x6.1 ([p1, x5.1, x7.1] : List (List Int)) (([p1, x5.1, x7.1] : List (List Int)).length : Int) ((p7.drop 0).take ((imin (p7.length : Int) 2000).toNat - 0)) x7.2 x4.1 x4.2.1 x4.2.2.1) k 0 (.inl x110) hx109) rfl ?_
     refine K_seq ?_
     obtain ⟨x111, hx111, H⟩ := bind_some' H
     refine K_r [.r (.tup [(true, [cI x111.1, cL x111.2.1, cI x111.2.2.1]), (false, [cI x111.2.2.2])]) []] [C_T_ref21_Of k x5.1 x4.2.1 x111] (by kernel_rfl) (A1 (T_ref21_Of_ok k x5.1 x4.2.1 x111 hx111)) ?_
     refine K_seq ?_
     obtain ⟨x112, hx112, H⟩ := bind_some' H
     refine K_r [.r (.tup [(true, [cI x112.1, cL x112.2.1, cI x112.2.2.1]), (false, [cI x112.2.2.2])]) []] [C_T_ref21_Of k x6.1 x4.2.1 x112] (by kernel_rfl) (A1 (T_ref21_Of_ok k x6.1 x4.2.1 x112 hx112)) ?_
     refine K_seq ?_
     obtain ⟨x113, hx113, H⟩ := bind_some' H
     refine K_r [.r (.tup [(true, [cI x113.1, cL x113.2.1, cI x113.2.2.1]), (false, [cI x113.2.2.2])]) []] [C_T_ref21_Of k x6.1 1 x113] (by kernel_rfl) (A1 (T_ref21_Of_ok k x6.1 1 x113 hx113)) ?_
     refine K_seq (K_r [] [] (by kernel_rfl) trivial ?_)
     refine K_seq ?_
     obtain ⟨hx114, H⟩ := guard_some H
     refine K_r [.n x112.2.1.length, .l (((([] : List Int).drop 0).take 0 ++ x112.2.1).map (D.int .i64))] [(List.all (x112.2.1.map (D.int .i64)) fun d => d.cells.length == (D.cells (.int .i64 0)).length) = true, 0 + x112.2.1.length ≤ LIM, (x112.2.1.map (D.int .i64)).length = x112.2.1.length, ((([] : List Int).map (D.int .i64)).drop 0).take 0 ++ (x112.2.1.map (D.int .i64)) = ((([] : List Int).drop 0).take 0 ++ x112.2.1).map (D.int .i64)] (by kernel_rfl) (AC (all_ok (D.int .i64) 1 x112.2.1 (fun _ => rfl)) (AC hx114 (AC (by simp) (A1 (ap_map (D.int .i64) ([] : List Int) x112.2.1 0 0))))) ?_
     refine K_seq ?_
     refine K_seq ?_
     obtain ⟨x115, hx115, H⟩ := bind_some' H
     refine K_r [.r (I x115.1) [.cells [cL ((p7.drop 0).take ((imin (p7.length : Int) 2000).toNat - 0)), cI x115.2]]] [C_T_keep_Src_N k (((0 + x112.2.1.length) : Nat) : Int) ((p7.drop 0).take ((imin (p7.length : Int) 2000).toNat - 0)) x7.2 x115] (by kernel_rfl) (A1 (T_keep_Src_N_ok k (((0 + x112.2.1.length) : Nat) : Int) ((p7.drop 0).take ((imin (p7.length : Int) 2000).toNat - 0)) x7.2 x115 hx115)) ?_
     refine K_seq ?_
     obtain ⟨x116, hx116, H⟩ := bind_some' H
     refine K_r [.r (I x116.1) [.cells [cL ((p7.drop 0).take ((imin (p7.length : Int) 2000).toNat - 0)), cI x116.2]]] [C_T_keep_Src_N k 4 ((p7.drop 0).take ((imin (p7.length : Int) 2000).toNat - 0)) x115.2 x116] (by kernel_rfl) (A1 (T_keep_Src_N_ok k 4 ((p7.drop 0).take ((imin (p7.length : Int) 2000).toNat - 0)) x115.2 x116 hx116)) ?_
     refine K_block (K_seq (K_r [] [] (by kernel_rfl) trivial ?_))
     obtain ⟨x125, hx125, H⟩ := bind_some' H
     refine K_of ⟨[(3, (.one (.d (.list (p6.map e_st0))))), (7, (Pt 0)), (11, (Pt 1)), (12, (Pt 2)), (23, (Pt 3)), (25, (Pt 4)), (27, (Pt 5)), (29, (Pt 6))], [.cells [cI p3, cL p4, cI p5], .cells [cL ((p7.drop 0).take ((imin (p7.length : Int) 2000).toNat - 0)), cI x125.1], .cells [cI 3, cI 0, cI 0, cI x4.1, cI x4.2.1, cL x4.2.2.1], .cells [cI x111.1, cL x111.2.1, cI x111.2.2.1], .cells [cI x112.1, cL x112.2.1, cI x112.2.2.1], .cells [cI x113.1, cL x113.2.1, cI x113.2.2.1], .cells [cI x125.2.1, .own 7 0 (0 + x112.2.1.length), cI x125.2.2.1], VI x125.2.2.2]⟩ ?_ ?_
     · clear H; have H := hx125; clear hx125; refine K_in ?_
       rcases ite_some H with ⟨hx117, H⟩ | ⟨hx117, H⟩
       · refine K_t (by kernel_rfl) (decide_eq_true hx117) ?_
         obtain ⟨hx118, H⟩ := guard_some H
         obtain ⟨x119, hx119, H⟩ := bind_some' H
         obtain ⟨x120, hx120, H⟩ := bind_some' H
         refine K_rD [.l [.int .i64 x119], .r (I x120.1) [.cells [cL ((p7.drop 0).take ((imin (p7.length : Int) 2000).toNat - 0)), cI x120.2]], .l ((((([] : List Int).drop 0).take 0 ++ x112.2.1).set (0 + x115.1.toNat) (w64 (x119 + x120.1))).map (D.int .i64)), .r (I x120.1) [.cells [cL ((p7.drop 0).take ((imin (p7.length : Int) 2000).toNat - 0)), cI x120.2]], .l [.int .i64 x119], .l ((((([] : List Int).drop 0).take 0 ++ x112.2.1).set (0 + x115.1.toNat) (w64 (x119 + x120.1))).map (D.int .i64)), .r (I x120.1) [.cells [cL ((p7.drop 0).take ((imin (p7.length : Int) 2000).toNat - 0)), cI x120.2]], .l [.int .i64 x119], .l ((((([] : List Int).drop 0).take 0 ++ x112.2.1).set (0 + x115.1.toNat) (w64 (x119 + x120.1))).map (D.int .i64)), .r (I x120.1) [.cells [cL ((p7.drop 0).take ((imin (p7.length : Int) 2000).toNat - 0)), cI x120.2]], .l [.int .i64 x119], .l ((((([] : List Int).drop 0).take 0 ++ x112.2.1).set (0 + x115.1.toNat) (w64 (x119 + x120.1))).map (D.int .i64))] ((fun (z1 : St) => [(0 : Int) ≤ x115.1 ∧ x115.1 < (((0 + x112.2.1.length) : Nat) : Int), ((((([] : List Int).drop 0).take 0 ++ x112.2.1).map (D.int .i64)).getD (0 + x115.1.toNat) (.int .i64 0)).cells = [.int .i64 x119], C_T_keep_Src_Pick k ([1, 100, 2097152, 4611686018427387904] : List Int) ((p7.drop 0).take ((imin (p7.length : Int) 2000).toNat - 0)) x116.2 x120, (0 : Int) ≤ x115.1 ∧ x115.1 < (((0 + x112.2.1.length) : Nat) : Int), (((([] : List Int).drop 0).take 0 ++ x112.2.1).map (D.int .i64)).set (0 + x115.1.toNat) (elemOf (.int .i64 0) (splice ((((([] : List Int).drop 0).take 0 ++ x112.2.1).map (D.int .i64)).getD (0 + x115.1.toNat) (.int .i64 0)).cells 0 [.int .i64 (w64 (x119 + x120.1))])) = (((([] : List Int).drop 0).take 0 ++ x112.2.1).set (0 + x115.1.toNat) (w64 (x119 + x120.1))).map (D.int .i64), C_T_keep_Src_Pick k ([1, 100, 2097152, 4611686018427387904] : List Int) ((p7.drop 0).take ((imin (p7.length : Int) 2000).toNat - 0)) x116.2 x120, ((((([] : List Int).drop 0).take 0 ++ x112.2.1).map (D.int .i64)).getD (0 + x115.1.toNat) (.int .i64 0)).cells = [.int .i64 x119], (0 : Int) ≤ x115.1 ∧ x115.1 < (((0 + x112.2.1.length) : Nat) : Int), (((([] : List Int).drop 0).take 0 ++ x112.2.1).map (D.int .i64)).set (0 + x115.1.toNat) (elemOf (.int .i64 0) (splice ((((([] : List Int).drop 0).take 0 ++ x112.2.1).map (D.int .i64)).getD (0 + x115.1.toNat) (.int .i64 0)).cells 0 [.int .i64 (w64 (x119 + x120.1))])) = (((([] : List Int).drop 0).take 0 ++ x112.2.1).set (0 + x115.1.toNat) (w64 (x119 + x120.1))).map (D.int .i64), z1 = z1, C_T_keep_Src_Pick k ([1, 100, 2097152, 4611686018427387904] : List Int) ((p7.drop 0).take ((imin (p7.length : Int) 2000).toNat - 0)) x116.2 x120, (0 : Int) ≤ x115.1 ∧ x115.1 < (((0 + x112.2.1.length) : Nat) : Int), ((((([] : List Int).drop 0).take 0 ++ x112.2.1).map (D.int .i64)).getD (0 + x115.1.toNat) (.int .i64 0)).cells = [.int .i64 x119], (0 : Int) ≤ x115.1 ∧ x115.1 < (((0 + x112.2.1.length) : Nat) : Int), (((([] : List Int).drop 0).take 0 ++ x112.2.1).map (D.int .i64)).set (0 + x115.1.toNat) (elemOf (.int .i64 0) (splice ((((([] : List Int).drop 0).take 0 ++ x112.2.1).map (D.int .i64)).getD (0 + x115.1.toNat) (.int .i64 0)).cells 0 [.int .i64 (w64 (x119 + x120.1))])) = (((([] : List Int).drop 0).take 0 ++ x112.2.1).set (0 + x115.1.toNat) (w64 (x119 + x120.1))).map (D.int .i64), z1 = z1, C_T_keep_Src_Pick k ([1, 100, 2097152, 4611686018427387904] : List Int) ((p7.drop 0).take ((imin (p7.length : Int) 2000).toNat - 0)) x116.2 x120, (0 : Int) ≤ x115.1 ∧ x115.1 < (((0 + x112.2.1.length) : Nat) : Int), ((((([] : List Int).drop 0).take 0 ++ x112.2.1).map (D.int .i64)).getD (0 + x115.1.toNat) (.int .i64 0)).cells = [.int .i64 x119], (0 : Int) ≤ x115.1 ∧ x115.1 < (((0 + x112.2.1.length) : Nat) : Int), (((([] : List Int).drop 0).take 0 ++ x112.2.1).map (D.int .i64)).set (0 + x115.1.toNat) (elemOf (.int .i64 0) (splice ((((([] : List Int).drop 0).take 0 ++ x112.2.1).map (D.int .i64)).getD (0 + x115.1.toNat) (.int .i64 0)).cells 0 [.int .i64 (w64 (x119 + x120.1))])) = (((([] : List Int).drop 0).take 0 ++ x112.2.1).set (0 + x115.1.toNat) (w64 (x119 + x120.1))).map (D.int .i64), z1 = z1]) (⟨[(3, (.one (.d (.list (p6.map e_st0))))), (7, (Pt 0)), (11, (Pt 1)), (12, (Pt 2)), (23, (Pt 3)), (25, (Pt 4)), (27, (Pt 5)), (29, (Pt 6))], [.cells [cI p3, cL p4, cI p5], .cells [cL ((p7.drop 0).take ((imin (p7.length : Int) 2000).toNat - 0)), cI x120.2], .cells [cI 3, cI 0, cI 0, cI x4.1, cI x4.2.1, cL x4.2.2.1], .cells [cI x111.1, cL x111.2.1, cI x111.2.2.1], .cells [cI x112.1, cL x112.2.1, cI x112.2.2.1], .cells [cI x113.1, cL x113.2.1, cI x113.2.2.1], .cells [cI x112.1, .own 7 0 (0 + x112.2.1.length), cI x112.2.2.1], VI (((([] : List Int).drop 0).take 0 ++ x112.2.1).set (0 + x115.1.toNat) (w64 (x119 + x120.1)))]⟩)) (by kernel_rfl) (AC hx118 (AC (ld_ok hx119 (D.int .i64) (.int .i64 0)) (AC (T_keep_Src_Pick_ok k ([1, 100, 2097152, 4611686018427387904] : List Int) ((p7.drop 0).take ((imin (p7.length : Int) 2000).toNat - 0)) x116.2 x120 hx120) (AC hx118 (AC (st_one ((([] : List Int).drop 0).take 0 ++ x112.2.1) (0 + x115.1.toNat) (w64 (x119 + x120.1)) (D.int .i64) (.int .i64 0) rfl (fun _ => rfl) rfl) (AC (T_keep_Src_Pick_ok k ([1, 100, 2097152, 4611686018427387904] : List Int) ((p7.drop 0).take ((imin (p7.length : Int) 2000).toNat - 0)) x116.2 x120 hx120) (AC (ld_ok hx119 (D.int .i64) (.int .i64 0)) (AC hx118 (AC (st_one ((([] : List Int).drop 0).take 0 ++ x112.2.1) (0 + x115.1.toNat) (w64 (x119 + x120.1)) (D.int .i64) (.int .i64 0) rfl (fun _ => rfl) rfl) (AC rfl (AC (T_keep_Src_Pick_ok k ([1, 100, 2097152, 4611686018427387904] : List Int) ((p7.drop 0).take ((imin (p7.length : Int) 2000).toNat - 0)) x116.2 x120 hx120) (AC hx118 (AC (ld_ok hx119 (D.int .i64) (.int .i64 0)) (AC hx118 (AC (st_one ((([] : List Int).drop 0).take 0 ++ x112.2.1) (0 + x115.1.toNat) (w64 (x119 + x120.1)) (D.int .i64) (.int .i64 0) rfl (fun _ => rfl) rfl) (AC rfl (AC (T_keep_Src_Pick_ok k ([1, 100, 2097152, 4611686018427387904] : List Int) ((p7.drop 0).take ((imin (p7.length : Int) 2000).toNat - 0)) x116.2 x120 hx120) (AC hx118 (AC (ld_ok hx119 (D.int .i64) (.int .i64 0)) (AC hx118 (AC (st_one ((([] : List Int).drop 0).take 0 ++ x112.2.1) (0 + x115.1.toNat) (w64 (x119 + x120.1)) (D.int .i64) (.int .i64 0) rfl (fun _ => rfl) rfl) (A1 rfl)))))))))))))))))))))) ?_
         cases H
         exact K_end (by kernel_rfl)
       · refine K_f (by kernel_rfl) (decide_eq_false hx117) ?_
         refine K_seq (K_r [] [] (by kernel_rfl) trivial ?_)
         rcases ite_some H with ⟨hx121, H⟩ | ⟨hx121, H⟩
         · refine K_t (by kernel_rfl) (decide_eq_true hx121) ?_
           obtain ⟨x122, hx122, H⟩ := bind_some' H
           refine K_r [.r (I x122.1) [.cells [cL ((p7.drop 0).take ((imin (p7.length : Int) 2000).toNat - 0)), cI x122.2]]] [C_T_keep_Src_Pick k ([0, 1, (w64 (0 - x112.1)), (w64 (x112.2.2.1 + x112.1)), (w64 ((w64 ((w64 (x112.1 * x112.1)) * x112.1)) * 1000000)), 4611686018427387904] : List Int) ((p7.drop 0).take ((imin (p7.length : Int) 2000).toNat - 0)) x116.2 x122] (by kernel_rfl) (A1 (T_keep_Src_Pick_ok k ([0, 1, (w64 (0 - x112.1)), (w64 (x112.2.2.1 + x112.1)), (w64 ((w64 ((w64 (x112.1 * x112.1)) * x112.1)) * 1000000)), 4611686018427387904] : List Int) ((p7.drop 0).take ((imin (p7.length : Int) 2000).toNat - 0)) x116.2 x122 hx122)) ?_
           cases H
           exact K_end (by kernel_rfl)
         · refine K_f (by kernel_rfl) (decide_eq_false hx121) ?_
           refine K_seq (K_r [] [] (by kernel_rfl) trivial ?_)
           rcases ite_some H with ⟨hx123, H⟩ | ⟨hx123, H⟩
           · refine K_t (by kernel_rfl) (decide_eq_true hx123) ?_
             obtain ⟨x124, hx124, H⟩ := bind_some' H
             refine K_r [.r (I x124.1) [.cells [cL ((p7.drop 0).take ((imin (p7.length : Int) 2000).toNat - 0)), cI x124.2]]] [C_T_keep_Src_Pick k ([0, 1, 2, 32, 33] : List Int) ((p7.drop 0).take ((imin (p7.length : Int) 2000).toNat - 0)) x116.2 x124] (by kernel_rfl) (A1 (T_keep_Src_Pick_ok k ([0, 1, 2, 32, 33] : List Int) ((p7.drop 0).take ((imin (p7.length : Int) 2000).toNat - 0)) x116.2 x124 hx124)) ?_
             cases H
             exact K_end (by kernel_rfl)
           · refine K_f (by kernel_rfl) (decide_eq_false hx123) ?_
             refine K_g (by kernel_rfl) ?_
             refine K_skip ?_
             cases H
             exact K_end (by kernel_rfl)
     refine K_blk ?_
     refine K_seq ?_
     obtain ⟨x126, hx126, H⟩ := bind_some' H
     obtain ⟨x127, hx127, H⟩ := bind_some' H
     refine K_rD [.r (.agg [cL x126.1, cL x126.2.1]) [.cells [cL ((p7.drop 0).take ((imin (p7.length : Int) 2000).toNat - 0)), cI x126.2.2]], .r (.tup [(false, [.d (.list (x127.1.map e_st0))]), (false, [cI x127.2])]) [], .r (.agg [cL x126.1, cL x126.2.1]) [.cells [cL ((p7.drop 0).take ((imin (p7.length : Int) 2000).toNat - 0)), cI x126.2.2]], .r (.tup [(false, [.d (.list (x127.1.map e_st0))]), (false, [cI x127.2])]) [], .r (.agg [cL x126.1, cL x126.2.1]) [.cells [cL ((p7.drop 0).take ((imin (p7.length : Int) 2000).toNat - 0)), cI x126.2.2]], .r (.tup [(false, [.d (.list (x127.1.map e_st0))]), (false, [cI x127.2])]) []] ((fun (z1 : St) => [C_T_keep_Src_Word k 3 0 0 x4.1 x4.2.1 x4.2.2.1 ((p7.drop 0).take ((imin (p7.length : Int) 2000).toNat - 0)) x125.1 x126, C_T_ref19_Region k 3 0 0 x4.1 x4.2.1 x4.2.2.1 x126.1 x126.2.1 x127, C_T_keep_Src_Word k 3 0 0 x4.1 x4.2.1 x4.2.2.1 ((p7.drop 0).take ((imin (p7.length : Int) 2000).toNat - 0)) x125.1 x126, C_T_ref19_Region k 3 0 0 x4.1 x4.2.1 x4.2.2.1 x126.1 x126.2.1 x127, C_T_keep_Src_Word k 3 0 0 x4.1 x4.2.1 x4.2.2.1 ((p7.drop 0).take ((imin (p7.length : Int) 2000).toNat - 0)) x125.1 x126, C_T_ref19_Region k 3 0 0 x4.1 x4.2.1 x4.2.2.1 x126.1 x126.2.1 x127, z1 = z1, z1 = z1]) (⟨[(3, (.one (.d (.list (p6.map e_st0))))), (7, (Pt 0)), (11, (Pt 1)), (23, (Pt 2)), (25, (Pt 3)), (27, (Pt 4)), (29, (Pt 5)), (31, (.one (.d (.list (x127.1.map e_st0)))))], [.cells [cI p3, cL p4, cI p5], .cells [cL ((p7.drop 0).take ((imin (p7.length : Int) 2000).toNat - 0)), cI x126.2.2], .cells [cI x111.1, cL x111.2.1, cI x111.2.2.1], .cells [cI x112.1, cL x112.2.1, cI x112.2.2.1], .cells [cI x113.1, cL x113.2.1, cI x113.2.2.1], .cells [cI x125.2.1, .own 6 0 (0 + x112.2.1.length), cI x125.2.2.1], VI x125.2.2.2]⟩)) (by kernel_rfl) (AC (T_keep_Src_Word_ok k 3 0 0 x4.1 x4.2.1 x4.2.2.1 ((p7.drop 0).take ((imin (p7.length : Int) 2000).toNat - 0)) x125.1 x126 hx126) (AC (T_ref19_Region_ok k 3 0 0 x4.1 x4.2.1 x4.2.2.1 x126.1 x126.2.1 x127 hx127) (AC (T_keep_Src_Word_ok k 3 0 0 x4.1 x4.2.1 x4.2.2.1 ((p7.drop 0).take ((imin (p7.length : Int) 2000).toNat - 0)) x125.1 x126 hx126) (AC (T_ref19_Region_ok k 3 0 0 x4.1 x4.2.1 x4.2.2.1 x126.1 x126.2.1 x127 hx127) (AC (T_keep_Src_Word_ok k 3 0 0 x4.1 x4.2.1 x4.2.2.1 ((p7.drop 0).take ((imin (p7.length : Int) 2000).toNat - 0)) x125.1 x126 hx126) (AC (T_ref19_Region_ok k 3 0 0 x4.1 x4.2.1 x4.2.2.1 x126.1 x126.2.1 x127 hx127) (AC rfl (A1 rfl)))))))) ?_
     refine K_seq ?_
     obtain ⟨hx128, H⟩ := guard_some H
     refine K_r [.n x127.1.length, .l (((([] : List (Int × Int)).drop 0).take 0 ++ x127.1).map e_st0)] [(List.all (x127.1.map e_st0) fun d => d.cells.length == (D.cells (.agg [(.int .i64 0), (.int .i64 0)])).length) = true, 0 + x127.1.length ≤ LIM, (x127.1.map e_st0).length = x127.1.length, ((([] : List (Int × Int)).map e_st0).drop 0).take 0 ++ (x127.1.map e_st0) = ((([] : List (Int × Int)).drop 0).take 0 ++ x127.1).map e_st0] (by kernel_rfl) (AC (all_ok e_st0 2 x127.1 (fun _ => rfl)) (AC hx128 (AC (by simp) (A1 (ap_map e_st0 ([] : List (Int × Int)) x127.1 0 0))))) ?_
     refine K_seq ?_
     obtain ⟨x129, hx129, H⟩ := bind_some' H
     obtain ⟨x130, hx130, H⟩ := bind_some' H
     obtain ⟨x131, hx131, H⟩ := bind_some' H
     obtain ⟨hx132, H⟩ := guard_some H
     refine K_r [.r (I x129.1) [.cells [cL ((p7.drop 0).take ((imin (p7.length : Int) 2000).toNat - 0)), cI x129.2]], .r (I x130.1) [.cells [cL ((p7.drop 0).take ((imin (p7.length : Int) 2000).toNat - 0)), cI x130.2]], .r (I x131.1) [.cells [cL ((p7.drop 0).take ((imin (p7.length : Int) 2000).toNat - 0)), cI x131.2]], .l ((((([] : List (Int × Int)).drop 0).take 0 ++ x127.1).set (0 + x129.1.toNat) (x130.1, x131.1)).map e_st0)] [C_T_keep_Src_N k (((0 + x127.1.length) : Nat) : Int) ((p7.drop 0).take ((imin (p7.length : Int) 2000).toNat - 0)) x126.2.2 x129, C_T_keep_Src_Pick k ([(-1099511627776), (-1099511627777), 1099511627776, 5, 300] : List Int) ((p7.drop 0).take ((imin (p7.length : Int) 2000).toNat - 0)) x129.2 x130, C_T_keep_Src_Pick k ([1099511627776, 1099511627777, 4, 310] : List Int) ((p7.drop 0).take ((imin (p7.length : Int) 2000).toNat - 0)) x130.2 x131, (0 : Int) ≤ x129.1 ∧ x129.1 < (((0 + x127.1.length) : Nat) : Int), (((([] : List (Int × Int)).drop 0).take 0 ++ x127.1).map e_st0).set (0 + x129.1.toNat) (elemOf (.agg [(.int .i64 0), (.int .i64 0)]) (splice ((((([] : List (Int × Int)).drop 0).take 0 ++ x127.1).map e_st0).getD (0 + x129.1.toNat) (.agg [(.int .i64 0), (.int .i64 0)])).cells 0 [.int .i64 x130.1, .int .i64 x131.1])) = (((([] : List (Int × Int)).drop 0).take 0 ++ x127.1).set (0 + x129.1.toNat) (x130.1, x131.1)).map e_st0] (by kernel_rfl) (AC (T_keep_Src_N_ok k (((0 + x127.1.length) : Nat) : Int) ((p7.drop 0).take ((imin (p7.length : Int) 2000).toNat - 0)) x126.2.2 x129 hx129) (AC (T_keep_Src_Pick_ok k ([(-1099511627776), (-1099511627777), 1099511627776, 5, 300] : List Int) ((p7.drop 0).take ((imin (p7.length : Int) 2000).toNat - 0)) x129.2 x130 hx130) (AC (T_keep_Src_Pick_ok k ([1099511627776, 1099511627777, 4, 310] : List Int) ((p7.drop 0).take ((imin (p7.length : Int) 2000).toNat - 0)) x130.2 x131 hx131) (AC hx132 (A1 (st_agg ((([] : List (Int × Int)).drop 0).take 0 ++ x127.1) (0 + x129.1.toNat) (x130.1, x131.1) e_st0 [(.int .i64 0), (.int .i64 0)] 2 (fun _ => ⟨_, rfl, rfl⟩) rfl)))))) ?_
     refine K_seq (K_seq (K_gh ⟨[(3, (.one (.d (.list (p6.map e_st0))))), (7, (Pt 0)), (23, (Pt 1)), (25, (Pt 2)), (27, (Pt 3)), (29, (Pt 4)), (31, (.one (.d (.list (x127.1.map e_st0))))), (33, (.one (.d (.list ((((((([] : List (Int × Int)).drop 0).take 0 ++ x127.1).set (0 + x129.1.toNat) (x130.1, x131.1)).map e_st0).drop 0).take (0 + x127.1.length))))))], [.cells [cI p3, cL p4, cI p5], .cells [cI x111.1, cL x111.2.1, cI x111.2.2.1], .cells [cI x112.1, cL x112.2.1, cI x112.2.2.1], .cells [cI x113.1, cL x113.2.1, cI x113.2.2.1], .cells [cI x125.2.1, .d (.list (((x125.2.2.2.map (D.int .i64)).drop 0).take (0 + x112.2.1.length))), cI x125.2.2.1]]⟩ (by kernel_rfl) ?_))
     refine K_conv (σ' := ⟨[(3, (.one (.d (.list (p6.map e_st0))))), (7, (Pt 0)), (23, (Pt 1)), (25, (Pt 2)), (27, (Pt 3)), (29, (Pt 4)), (31, (.one (.d (.list (x127.1.map e_st0))))), (33, (.one (.d (.list ((((((([] : List (Int × Int)).drop 0).take 0 ++ x127.1).set (0 + x129.1.toNat) (x130.1, x131.1)).drop 0).take (0 + x127.1.length)).map e_st0)))))], [.cells [cI p3, cL p4, cI p5], .cells [cI x111.1, cL x111.2.1, cI x111.2.2.1], .cells [cI x112.1, cL x112.2.1, cI x112.2.2.1], .cells [cI x113.1, cL x113.2.1, cI x113.2.2.1], .cells [cI x125.2.1, cL ((x125.2.2.2.drop 0).take (0 + x112.2.1.length)), cI x125.2.2.1]]⟩) (by simp only [dt_map, LI, VI]) ?_
     refine K_r [.n ([(p3, p4, p5), (x111.1, x111.2.1, x111.2.2.1), (x112.1, x112.2.1, x112.2.2.1), (x113.1, x113.2.1, x113.2.2.1), (x125.2.1, ((x125.2.2.2.drop 0).take (0 + x112.2.1.length)), x125.2.2.1)] : List (Int × (List Int) × Int)).length] [((([(p3, p4, p5), (x111.1, x111.2.1, x111.2.2.1), (x112.1, x112.2.1, x112.2.2.1), (x113.1, x113.2.1, x113.2.2.1), (x125.2.1, ((x125.2.2.2.drop 0).take (0 + x112.2.1.length)), x125.2.2.1)] : List (Int × (List Int) × Int)).map e_st1)).length = ([(p3, p4, p5), (x111.1, x111.2.1, x111.2.2.1), (x112.1, x112.2.1, x112.2.2.1), (x113.1, x113.2.1, x113.2.2.1), (x125.2.1, ((x125.2.2.2.drop 0).take (0 + x112.2.1.length)), x125.2.2.1)] : List (Int × (List Int) × Int)).length] (by kernel_rfl) (A1 (List.length_map _)) ?_
     refine K_block (K_conv (σ' := ⟨[(3, (.one (.d (.list (p6.map e_st0))))), (7, (Pt 0)), (23, (Pt 1)), (25, (Pt 2)), (29, (Pt 3)), (31, (.one (.d (.list (x127.1.map e_st0))))), (33, (.one (.d (.list ((((((([] : List (Int × Int)).drop 0).take 0 ++ x127.1).set (0 + x129.1.toNat) (x130.1, x131.1)).drop 0).take (0 + x127.1.length)).map e_st0))))), (225, (.one (.d (.list (([(p3, p4, p5), (x111.1, x111.2.1, x111.2.2.1), (x112.1, x112.2.1, x112.2.2.1), (x113.1, x113.2.1, x113.2.2.1), (x125.2.1, ((x125.2.2.2.drop 0).take (0 + x112.2.1.length)), x125.2.2.1)] : List (Int × (List Int) × Int)).map e_st1))))), (226, (I (([(p3, p4, p5), (x111.1, x111.2.1, x111.2.2.1), (x112.1, x112.2.1, x112.2.2.1), (x113.1, x113.2.1, x113.2.2.1), (x125.2.1, ((x125.2.2.2.drop 0).take (0 + x112.2.1.length)), x125.2.2.1)] : List (Int × (List Int) × Int)).length : Int))), (227, (I 0))], [.cells [cI p3, cL p4, cI p5], .cells [cI x111.1, cL x111.2.1, cI x111.2.2.1], .cells [cI x112.1, cL x112.2.1, cI x112.2.2.1], .cells [cI x125.2.1, cL ((x125.2.2.2.drop 0).take (0 + x112.2.1.length)), cI x125.2.2.1]]⟩) (by kernel_rfl) ?_)
     obtain ⟨x316, hx316, H⟩ := bind_some' H
     cases x316 with
     | inl x317 =>
      dsimp only at H
      refine K_loop ⟨[], []⟩ (loop_ok (fun (s : Int) => ⟨[(3, (.one (.d (.list (p6.map e_st0))))), (7, (Pt 0)), (23, (Pt 1)), (25, (Pt 2)), (29, (Pt 3)), (31, (.one (.d (.list (x127.1.map e_st0))))), (33, (.one (.d (.list ((((((([] : List (Int × Int)).drop 0).take 0 ++ x127.1).set (0 + x129.1.toNat) (x130.1, x131.1)).drop 0).take (0 + x127.1.length)).map e_st0))))), (225, (.one (.d (.list (([(p3, p4, p5), (x111.1, x111.2.1, x111.2.2.1), (x112.1, x112.2.1, x112.2.2.1), (x113.1, x113.2.1, x113.2.2.1), (x125.2.1, ((x125.2.2.2.drop 0).take (0 + x112.2.1.length)), x125.2.2.1)] : List (Int × (List Int) × Int)).map e_st1))))), (226, (I (([(p3, p4, p5), (x111.1, x111.2.1, x111.2.2.1), (x112.1, x112.2.1, x112.2.2.1), (x113.1, x113.2.1, x113.2.2.1), (x125.2.1, ((x125.2.2.2.drop 0).take (0 + x112.2.1.length)), x125.2.2.1)] : List (Int × (List Int) × Int)).length : Int))), (227, (I s))], [.cells [cI p3, cL p4, cI p5], .cells [cI x111.1, cL x111.2.1, cI x111.2.2.1], .cells [cI x112.1, cL x112.2.1, cI x112.2.2.1], .cells [cI x125.2.1, cL ((x125.2.2.2.drop 0).take (0 + x112.2.1.length)), cI x125.2.2.1]]⟩) (fun (r : Unit ⊕ Unit) => Sum.elim (fun y => (.exit 5, ⟨[], []⟩)) (fun y => (.ret, ⟨[(10, (B false))], []⟩)) r) (fun r h => by cases r <;> cases h) (T_law21_SketchAnswers_l5_ok k p3 p4 p5 p6 x127.1 (((((([] : List (Int × Int)).drop 0).take 0 ++ x127.1).set (0 + x129.1.toNat) (x130.1, x131.1)).drop 0).take (0 + x127.1.length)) ([(p3, p4, p5), (x111.1, x111.2.1, x111.2.2.1), (x112.1, x112.2.1, x112.2.2.1), (x113.1, x113.2.1, x113.2.2.1), (x125.2.1, ((x125.2.2.2.drop 0).take (0 + x112.2.1.length)), x125.2.2.1)] : List (Int × (List Int) × Int)) (([(p3, p4, p5), (x111.1, x111.2.1, x111.2.2.1), (x112.1, x112.2.1, x112.2.2.1), (x113.1, x113.2.1, x113.2.2.1), (x125.2.1, ((x125.2.2.2.drop 0).take (0 + x112.2.1.length)), x125.2.2.1)] : List (Int × (List Int) × Int)).length : Int) x111.1 x111.2.1 x111.2.2.1 x112.1 x112.2.1 x112.2.2.1 x125.2.1 ((x125.2.2.2.drop 0).take (0 + x112.2.1.length)) x125.2.2.1) k 0 (.inl x317) hx316) rfl ?_
      refine K_seq ?_
      obtain ⟨x318, hx318, H⟩ := bind_some' H
      refine K_r [.r (B x318) []] [C_T_law21_awake k x318] (by kernel_rfl) (A1 (T_law21_awake_ok k x318 hx318)) ?_
      refine K_g (by kernel_rfl) ?_
      cases H
      refine K_ret ?_
      kernel_rfl
     | inr x319 =>
      dsimp only at H
      cases H
      refine K_loopr ⟨[(10, (B false))], []⟩ (loop_ok (fun (s : Int) => ⟨[(3, (.one (.d (.list (p6.map e_st0))))), (7, (Pt 0)), (23, (Pt 1)), (25, (Pt 2)), (29, (Pt 3)), (31, (.one (.d (.list (x127.1.map e_st0))))), (33, (.one (.d (.list ((((((([] : List (Int × Int)).drop 0).take 0 ++ x127.1).set (0 + x129.1.toNat) (x130.1, x131.1)).drop 0).take (0 + x127.1.length)).map e_st0))))), (225, (.one (.d (.list (([(p3, p4, p5), (x111.1, x111.2.1, x111.2.2.1), (x112.1, x112.2.1, x112.2.2.1), (x113.1, x113.2.1, x113.2.2.1), (x125.2.1, ((x125.2.2.2.drop 0).take (0 + x112.2.1.length)), x125.2.2.1)] : List (Int × (List Int) × Int)).map e_st1))))), (226, (I (([(p3, p4, p5), (x111.1, x111.2.1, x111.2.2.1), (x112.1, x112.2.1, x112.2.2.1), (x113.1, x113.2.1, x113.2.2.1), (x125.2.1, ((x125.2.2.2.drop 0).take (0 + x112.2.1.length)), x125.2.2.1)] : List (Int × (List Int) × Int)).length : Int))), (227, (I s))], [.cells [cI p3, cL p4, cI p5], .cells [cI x111.1, cL x111.2.1, cI x111.2.2.1], .cells [cI x112.1, cL x112.2.1, cI x112.2.2.1], .cells [cI x125.2.1, cL ((x125.2.2.2.drop 0).take (0 + x112.2.1.length)), cI x125.2.2.1]]⟩) (fun (r : Unit ⊕ Unit) => Sum.elim (fun y => (.exit 5, ⟨[], []⟩)) (fun y => (.ret, ⟨[(10, (B false))], []⟩)) r) (fun r h => by cases r <;> cases h) (T_law21_SketchAnswers_l5_ok k p3 p4 p5 p6 x127.1 (((((([] : List (Int × Int)).drop 0).take 0 ++ x127.1).set (0 + x129.1.toNat) (x130.1, x131.1)).drop 0).take (0 + x127.1.length)) ([(p3, p4, p5), (x111.1, x111.2.1, x111.2.2.1), (x112.1, x112.2.1, x112.2.2.1), (x113.1, x113.2.1, x113.2.2.1), (x125.2.1, ((x125.2.2.2.drop 0).take (0 + x112.2.1.length)), x125.2.2.1)] : List (Int × (List Int) × Int)) (([(p3, p4, p5), (x111.1, x111.2.1, x111.2.2.1), (x112.1, x112.2.1, x112.2.2.1), (x113.1, x113.2.1, x113.2.2.1), (x125.2.1, ((x125.2.2.2.drop 0).take (0 + x112.2.1.length)), x125.2.2.1)] : List (Int × (List Int) × Int)).length : Int) x111.1 x111.2.1 x111.2.2.1 x112.1 x112.2.1 x112.2.2.1 x125.2.1 ((x125.2.2.2.drop 0).take (0 + x112.2.1.length)) x125.2.2.1) k 0 (.inr x319) hx316) ?_
      kernel_rfl
    | inr x320 =>
     dsimp only at H
     cases H
     refine K_loopr ⟨[(10, (B false))], []⟩ (loop_ok (fun (s : Int) => ⟨[(1, (I p2)), (3, (.one (.d (.list (p6.map e_st0))))), (7, (Pt 0)), (11, (Pt 1)), (12, (Pt 2)), (13, (LI x5.1)), (14, (LI x6.1)), (83, (.one (.d (.list (([p1, x5.1, x7.1] : List (List Int)).map (el (D.int .i64))))))), (84, (I (([p1, x5.1, x7.1] : List (List Int)).length : Int))), (85, (I s))], [.cells [cI p3, cL p4, cI p5], .cells [cL ((p7.drop 0).take ((imin (p7.length : Int) 2000).toNat - 0)), cI x7.2], .cells [cI 3, cI 0, cI 0, cI x4.1, cI x4.2.1, cL x4.2.2.1]]⟩) (fun (r : Unit ⊕ Unit) => Sum.elim (fun y => (.exit 0, ⟨[(3, (.one (.d (.list (p6.map e_st0))))), (7, (Pt 0)), (11, (Pt 1)), (12, (Pt 2)), (13, (LI x5.1)), (14, (LI x6.1))], [.cells [cI p3, cL p4, cI p5], .cells [cL ((p7.drop 0).take ((imin (p7.length : Int) 2000).toNat - 0)), cI x7.2], .cells [cI 3, cI 0, cI 0, cI x4.1, cI x4.2.1, cL x4.2.2.1]]⟩)) (fun y => (.ret, ⟨[(10, (B false))], []⟩)) r) (fun r h => by cases r <;> cases h) (T_law21_SketchAnswers_l2_ok k p2 p3 p4 p5 p6 x5.1 x6.1 ([p1, x5.1, x7.1] : List (List Int)) (([p1, x5.1, x7.1] : List (List Int)).length : Int) ((p7.drop 0).take ((imin (p7.length : Int) 2000).toNat - 0)) x7.2 x4.1 x4.2.1 x4.2.2.1) k 0 (.inr x320) hx109) ?_
     kernel_rfl
end Go.Proofs.Ytdmipmhpjdmopaa.sketchAnswers
