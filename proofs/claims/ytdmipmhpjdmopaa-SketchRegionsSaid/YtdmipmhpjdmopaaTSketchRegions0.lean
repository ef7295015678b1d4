/- What the functions that the statement SketchRegions reaches compute, told as functions of Lean, and that the theory's language computes the same: part 1 of 2. There are no conditions. -/
import Derived.Test.YtdmipmhpjdmopaaMSketchRegions
set_option maxRecDepth 100000
set_option linter.unusedVariables false
set_option linter.unusedSimpArgs false
namespace Go.Proofs.Ytdmipmhpjdmopaa.sketchRegions
open Go
abbrev e_st0 (p : Int × Int) : D := .agg [.int .i64 p.1, .int .i64 p.2]
def T_keep_New (k : Nat) (p1 : List Int) : Option Unit := match k with
 | 0 => none
 | k + 1 => (if (0 : Int) ≤ 0 ∧ 0 ≤ (imin (p1.length : Int) 2000) ∧ (imin (p1.length : Int) 2000) ≤ (p1.length : Int) ∧ (p1.length : Int) ≤ (p1.length : Int) then some () else none)
abbrev C_T_keep_New (k : Nat) (p1 : List Int) (r : Unit) : Prop := evF X k n_keep_New [(LI p1)] [] = some ((Pt 0), [.cells [cL ((p1.drop 0).take ((imin (p1.length : Int) 2000).toNat - 0)), cI 0]])
theorem T_keep_New_ok (k : Nat) (p1 : List Int) (r : Unit) : T_keep_New k p1 = some r → C_T_keep_New k p1 r := by
 intro H
 cases k with
 | zero => simp [T_keep_New] at H
 | succ k =>
  simp only [T_keep_New] at H
  refine F_in X_keep_New rfl ?_
  refine K_seq (K_r [] [] (by kernel_rfl) trivial ?_)
  refine K_seq ?_
  obtain ⟨hx1, H⟩ := guard_some H
  refine K_r [.n p1.length, .l (((p1.drop 0).take ((imin (p1.length : Int) 2000).toNat - 0)).map (D.int .i64))] [((p1.map (D.int .i64))).length = p1.length, ((p1.map (D.int .i64)).all fun d => d.cells.length == 1) = true, (0 : Int) ≤ 0 ∧ 0 ≤ (imin (p1.length : Int) 2000) ∧ (imin (p1.length : Int) 2000) ≤ (((p1.map (D.int .i64))).length : Int) ∧ (((p1.map (D.int .i64))).length : Int) ≤ (((p1.map (D.int .i64))).length : Int), ((p1.map (D.int .i64)).drop (0 : Int).toNat).take (((imin (p1.length : Int) 2000) : Int).toNat - (0 : Int).toNat) = ((p1.drop 0).take ((imin (p1.length : Int) 2000).toNat - 0)).map (D.int .i64)] (by kernel_rfl) (AC (List.length_map _) (AC (all_ok (D.int .i64) 1 p1 (fun _ => rfl)) (AC (by simpa using hx1) (A1 (dt_map _ _ _ _))))) ?_
  refine K_g (by kernel_rfl) ?_
  cases H
  refine K_ret ?_
  kernel_rfl
def T_keep_Src_Raw (k : Nat) (p1 : List Int) (p2 : Int) : Option (Int × Int) := match k with
 | 0 => none
 | k + 1 => (if (p1.length : Int) ≤ p2 then some (0, p2) else ((at? p1 (w64 ((w64 (p2 + 1)) - 1))).bind fun x2 => some (x2, (w64 (p2 + 1)))))
abbrev C_T_keep_Src_Raw (k : Nat) (p1 : List Int) (p2 : Int) (r : Int × Int) : Prop := evF X k n_keep_Src_Raw [(Pt 0)] [.cells [cL p1, cI p2]] = some ((I r.1), [.cells [cL p1, cI r.2]])
theorem T_keep_Src_Raw_ok (k : Nat) (p1 : List Int) (p2 : Int) (r : Int × Int) : T_keep_Src_Raw k p1 p2 = some r → C_T_keep_Src_Raw k p1 p2 r := by
 intro H
 cases k with
 | zero => simp [T_keep_Src_Raw] at H
 | succ k =>
  simp only [T_keep_Src_Raw] at H
  refine F_in X_keep_Src_Raw rfl ?_
  refine K_seq (K_r [] [] (by kernel_rfl) trivial ?_)
  refine K_seq (K_seq (K_r [.n p1.length] [((p1.map (D.int .i64))).length = p1.length] (by kernel_rfl) (A1 (List.length_map _)) ?_))
  rcases ite_some H with ⟨hx1, H⟩ | ⟨hx1, H⟩
  · refine K_t (by kernel_rfl) (decide_eq_true hx1) ?_
    refine K_seq (K_r [] [] (by kernel_rfl) trivial ?_)
    refine K_g (by kernel_rfl) ?_
    cases H
    refine K_ret ?_
    kernel_rfl
  · refine K_f (by kernel_rfl) (decide_eq_false hx1) ?_
    refine K_g (by kernel_rfl) ?_
    refine K_skip (K_seq (K_r [] [] (by kernel_rfl) trivial ?_))
    refine K_seq ?_
    obtain ⟨x2, hx2, H⟩ := bind_some' H
    refine K_r [.l [.int .i64 x2]] [(0 : Int) ≤ (w64 ((w64 (p2 + 1)) - 1)) ∧ (w64 ((w64 (p2 + 1)) - 1)) < (((p1.map (D.int .i64))).length : Int), ((p1.map (D.int .i64)).getD (w64 ((w64 (p2 + 1)) - 1)).toNat (.int .i64 0)).cells = [.int .i64 x2]] (by kernel_rfl) (AC (at_ok hx2 (D.int .i64) (.int .i64 0)).1 (A1 (at_ok hx2 (D.int .i64) (.int .i64 0)).2)) ?_
    refine K_g (by kernel_rfl) ?_
    cases H
    refine K_ret ?_
    kernel_rfl
def T_keep_Mod (k : Nat) (p1 : Int) (p2 : Int) : Option Int := match k with
 | 0 => none
 | k + 1 => (if p2 < 1 then some 0 else (if p2 ≠ 0 then ((if (p1.tmod p2) < 0 then some (w64 ((p1.tmod p2) + p2)) else some (p1.tmod p2))).bind fun x4 => some x4 else none))
abbrev C_T_keep_Mod (k : Nat) (p1 : Int) (p2 : Int) (r : Int) : Prop := evF X k n_keep_Mod [(I p1), (I p2)] [] = some ((I r), [])
theorem T_keep_Mod_ok (k : Nat) (p1 : Int) (p2 : Int) (r : Int) : T_keep_Mod k p1 p2 = some r → C_T_keep_Mod k p1 p2 r := by
 intro H
 cases k with
 | zero => simp [T_keep_Mod] at H
 | succ k =>
  simp only [T_keep_Mod] at H
  refine F_in X_keep_Mod rfl ?_
  refine K_seq (K_r [] [] (by kernel_rfl) trivial ?_)
  refine K_seq (K_seq (K_r [] [] (by kernel_rfl) trivial ?_))
  rcases ite_some H with ⟨hx1, H⟩ | ⟨hx1, H⟩
  · refine K_t (by kernel_rfl) (decide_eq_true hx1) ?_
    refine K_seq (K_r [] [] (by kernel_rfl) trivial ?_)
    refine K_g (by kernel_rfl) ?_
    cases H
    refine K_ret ?_
    kernel_rfl
  · refine K_f (by kernel_rfl) (decide_eq_false hx1) ?_
    refine K_g (by kernel_rfl) ?_
    refine K_skip ?_
    refine K_seq ?_
    obtain ⟨hx2, H⟩ := guard_some H
    refine K_r [] [p2 ≠ (0 : Int)] (by kernel_rfl) (A1 hx2) ?_
    refine K_seq (K_seq (K_r [] [] (by kernel_rfl) trivial ?_))
    obtain ⟨x4, hx4, H⟩ := bind_some' H
    refine K_of ⟨[(0, (I x4))], []⟩ ?_ ?_
    · clear H; have H := hx4; clear hx4; refine K_in ?_
      rcases ite_some H with ⟨hx3, H⟩ | ⟨hx3, H⟩
      · refine K_t (by kernel_rfl) (decide_eq_true hx3) ?_
        refine K_r [] [] (by kernel_rfl) trivial ?_
        cases H
        exact K_end (by kernel_rfl)
      · refine K_f (by kernel_rfl) (decide_eq_false hx3) ?_
        refine K_g (by kernel_rfl) ?_
        refine K_skip ?_
        cases H
        exact K_end (by kernel_rfl)
    refine K_seq (K_r [] [] (by kernel_rfl) trivial ?_)
    refine K_g (by kernel_rfl) ?_
    cases H
    refine K_ret ?_
    kernel_rfl
def T_keep_Src_N (k : Nat) (p1 : Int) (p2 : List Int) (p3 : Int) : Option (Int × Int) := match k with
 | 0 => none
 | k + 1 => ((T_keep_Src_Raw k p2 p3).bind fun x1 => (T_keep_Mod k x1.1 p1).bind fun x2 => some (x2, x1.2))
abbrev C_T_keep_Src_N (k : Nat) (p1 : Int) (p2 : List Int) (p3 : Int) (r : Int × Int) : Prop := evF X k n_keep_Src_N [(Pt 0), (I p1)] [.cells [cL p2, cI p3]] = some ((I r.1), [.cells [cL p2, cI r.2]])
theorem T_keep_Src_N_ok (k : Nat) (p1 : Int) (p2 : List Int) (p3 : Int) (r : Int × Int) : T_keep_Src_N k p1 p2 p3 = some r → C_T_keep_Src_N k p1 p2 p3 r := by
 intro H
 cases k with
 | zero => simp [T_keep_Src_N] at H
 | succ k =>
  simp only [T_keep_Src_N] at H
  refine F_in X_keep_Src_N rfl ?_
  refine K_seq (K_r [] [] (by kernel_rfl) trivial ?_)
  refine K_seq ?_
  obtain ⟨x1, hx1, H⟩ := bind_some' H
  obtain ⟨x2, hx2, H⟩ := bind_some' H
  refine K_r [.r (I x1.1) [.cells [cL p2, cI x1.2]], .r (I x2) []] [C_T_keep_Src_Raw k p2 p3 x1, C_T_keep_Mod k x1.1 p1 x2] (by kernel_rfl) (AC (T_keep_Src_Raw_ok k p2 p3 x1 hx1) (A1 (T_keep_Mod_ok k x1.1 p1 x2 hx2))) ?_
  refine K_g (by kernel_rfl) ?_
  cases H
  refine K_ret ?_
  kernel_rfl
def T_keep_Src_Range (k : Nat) (p1 : Int) (p2 : Int) (p3 : List Int) (p4 : Int) : Option (Int × Int) := match k with
 | 0 => none
 | k + 1 => ((T_keep_Src_N k (w64 ((w64 (p2 - p1)) + 1)) p3 p4).bind fun x1 => some ((w64 (p1 + x1.1)), x1.2))
abbrev C_T_keep_Src_Range (k : Nat) (p1 : Int) (p2 : Int) (p3 : List Int) (p4 : Int) (r : Int × Int) : Prop := evF X k n_keep_Src_Range [(Pt 0), (I p1), (I p2)] [.cells [cL p3, cI p4]] = some ((I r.1), [.cells [cL p3, cI r.2]])
theorem T_keep_Src_Range_ok (k : Nat) (p1 : Int) (p2 : Int) (p3 : List Int) (p4 : Int) (r : Int × Int) : T_keep_Src_Range k p1 p2 p3 p4 = some r → C_T_keep_Src_Range k p1 p2 p3 p4 r := by
 intro H
 cases k with
 | zero => simp [T_keep_Src_Range] at H
 | succ k =>
  simp only [T_keep_Src_Range] at H
  refine F_in X_keep_Src_Range rfl ?_
  refine K_seq (K_r [] [] (by kernel_rfl) trivial ?_)
  refine K_seq ?_
  obtain ⟨x1, hx1, H⟩ := bind_some' H
  refine K_r [.r (I x1.1) [.cells [cL p3, cI x1.2]]] [C_T_keep_Src_N k (w64 ((w64 (p2 - p1)) + 1)) p3 p4 x1] (by kernel_rfl) (A1 (T_keep_Src_N_ok k (w64 ((w64 (p2 - p1)) + 1)) p3 p4 x1 hx1)) ?_
  refine K_g (by kernel_rfl) ?_
  cases H
  refine K_ret ?_
  kernel_rfl
def T_keep_Src_Pick (k : Nat) (p1 : List Int) (p2 : List Int) (p3 : Int) : Option (Int × Int) := match k with
 | 0 => none
 | k + 1 => ((T_keep_Src_N k (p1.length : Int) p2 p3).bind fun x1 => (at? p1 x1.1).bind fun x2 => some (x2, x1.2))
abbrev C_T_keep_Src_Pick (k : Nat) (p1 : List Int) (p2 : List Int) (p3 : Int) (r : Int × Int) : Prop := evF X k n_keep_Src_Pick [(Pt 0), (LI p1)] [.cells [cL p2, cI p3]] = some ((I r.1), [.cells [cL p2, cI r.2]])
theorem T_keep_Src_Pick_ok (k : Nat) (p1 : List Int) (p2 : List Int) (p3 : Int) (r : Int × Int) : T_keep_Src_Pick k p1 p2 p3 = some r → C_T_keep_Src_Pick k p1 p2 p3 r := by
 intro H
 cases k with
 | zero => simp [T_keep_Src_Pick] at H
 | succ k =>
  simp only [T_keep_Src_Pick] at H
  refine F_in X_keep_Src_Pick rfl ?_
  refine K_seq (K_r [] [] (by kernel_rfl) trivial ?_)
  refine K_seq ?_
  obtain ⟨x1, hx1, H⟩ := bind_some' H
  obtain ⟨x2, hx2, H⟩ := bind_some' H
  refine K_r [.n p1.length, .r (I x1.1) [.cells [cL p2, cI x1.2]], .l [.int .i64 x2]] [((p1.map (D.int .i64))).length = p1.length, C_T_keep_Src_N k (p1.length : Int) p2 p3 x1, (0 : Int) ≤ x1.1 ∧ x1.1 < (((p1.map (D.int .i64))).length : Int), ((p1.map (D.int .i64)).getD x1.1.toNat (.int .i64 0)).cells = [.int .i64 x2]] (by kernel_rfl) (AC (List.length_map _) (AC (T_keep_Src_N_ok k (p1.length : Int) p2 p3 x1 hx1) (AC (at_ok hx2 (D.int .i64) (.int .i64 0)).1 (A1 (at_ok hx2 (D.int .i64) (.int .i64 0)).2)))) ?_
  refine K_g (by kernel_rfl) ?_
  cases H
  refine K_ret ?_
  kernel_rfl
def T_keep_Src_Measure (k : Nat) (p1 : List Int) (p2 : Int) : Option (Int × Int × Int × Int) := match k with
 | 0 => none
 | k + 1 => ((T_keep_Src_Range k 1 5 p1 p2).bind fun x1 => ((if x1.1 = 4 then ((T_keep_Src_Pick k ([0, 1, 2, 3, 5, 32] : List Int) p1 x1.2).bind fun x3 => some (x3.2, x3.1)) else some (x1.2, 0))).bind fun x4 => ((if x1.1 = 5 then ((T_keep_Src_Pick k ([0, 0, 1, (-3), 20, (-1000)] : List Int) p1 x4.1).bind fun x6 => some (x6.2, x6.1)) else some (x4.1, 0))).bind fun x7 => some (x1.1, x4.2, x7.2, x7.1))
abbrev C_T_keep_Src_Measure (k : Nat) (p1 : List Int) (p2 : Int) (r : Int × Int × Int × Int) : Prop := evF X k n_keep_Src_Measure [(Pt 0)] [.cells [cL p1, cI p2]] = some ((.agg [cI r.1, cI r.2.1, cI r.2.2.1]), [.cells [cL p1, cI r.2.2.2]])
theorem T_keep_Src_Measure_ok (k : Nat) (p1 : List Int) (p2 : Int) (r : Int × Int × Int × Int) : T_keep_Src_Measure k p1 p2 = some r → C_T_keep_Src_Measure k p1 p2 r := by
 intro H
 cases k with
 | zero => simp [T_keep_Src_Measure] at H
 | succ k =>
  simp only [T_keep_Src_Measure] at H
  refine F_in X_keep_Src_Measure rfl ?_
  refine K_seq (K_r [] [] (by kernel_rfl) trivial ?_)
  refine K_seq ?_
  obtain ⟨x1, hx1, H⟩ := bind_some' H
  refine K_r [.r (I x1.1) [.cells [cL p1, cI x1.2]]] [C_T_keep_Src_Range k 1 5 p1 p2 x1] (by kernel_rfl) (A1 (T_keep_Src_Range_ok k 1 5 p1 p2 x1 hx1)) ?_
  refine K_seq (K_seq (K_r [] [] (by kernel_rfl) trivial ?_))
  obtain ⟨x4, hx4, H⟩ := bind_some' H
  refine K_of ⟨[(0, (Pt 0)), (2, (Pt 1)), (3, (Pt 2))], [.cells [cL p1, cI x4.1], .cells [cI 0, cI 0, cI 0], .cells [cI x1.1, cI x4.2, cI 0]]⟩ ?_ ?_
  · clear H; have H := hx4; clear hx4; refine K_in ?_
    rcases ite_some H with ⟨hx2, H⟩ | ⟨hx2, H⟩
    · refine K_t (by kernel_rfl) (decide_eq_true hx2) ?_
      obtain ⟨x3, hx3, H⟩ := bind_some' H
      refine K_r [.r (I x3.1) [.cells [cL p1, cI x3.2]]] [C_T_keep_Src_Pick k ([0, 1, 2, 3, 5, 32] : List Int) p1 x1.2 x3] (by kernel_rfl) (A1 (T_keep_Src_Pick_ok k ([0, 1, 2, 3, 5, 32] : List Int) p1 x1.2 x3 hx3)) ?_
      cases H
      exact K_end (by kernel_rfl)
    · refine K_f (by kernel_rfl) (decide_eq_false hx2) ?_
      refine K_g (by kernel_rfl) ?_
      refine K_skip ?_
      cases H
      exact K_end (by kernel_rfl)
  refine K_seq (K_seq (K_r [] [] (by kernel_rfl) trivial ?_))
  obtain ⟨x7, hx7, H⟩ := bind_some' H
  refine K_of ⟨[(2, (Pt 1)), (3, (Pt 2))], [.cells [cL p1, cI x7.1], .cells [cI 0, cI 0, cI 0], .cells [cI x1.1, cI x4.2, cI x7.2]]⟩ ?_ ?_
  · clear H; have H := hx7; clear hx7; refine K_in ?_
    rcases ite_some H with ⟨hx5, H⟩ | ⟨hx5, H⟩
    · refine K_t (by kernel_rfl) (decide_eq_true hx5) ?_
      obtain ⟨x6, hx6, H⟩ := bind_some' H
      refine K_r [.r (I x6.1) [.cells [cL p1, cI x6.2]]] [C_T_keep_Src_Pick k ([0, 0, 1, (-3), 20, (-1000)] : List Int) p1 x4.1 x6] (by kernel_rfl) (A1 (T_keep_Src_Pick_ok k ([0, 0, 1, (-3), 20, (-1000)] : List Int) p1 x4.1 x6 hx6)) ?_
      cases H
      exact K_end (by kernel_rfl)
    · refine K_f (by kernel_rfl) (decide_eq_false hx5) ?_
      refine K_g (by kernel_rfl) ?_
      refine K_skip ?_
      cases H
      exact K_end (by kernel_rfl)
  refine K_seq (K_r [] [] (by kernel_rfl) trivial ?_)
  refine K_g (by kernel_rfl) ?_
  cases H
  refine K_ret ?_
  kernel_rfl
def T_keep_Src_Length (k : Nat) (p1 : List Int) (p2 : Int) : Option (Int × Int) := match k with
 | 0 => none
 | k + 1 => ((T_keep_Src_N k 8 p1 p2).bind fun x1 => (if x1.1 = 7 then ((T_keep_Src_Range k 13 32 p1 x1.2).bind fun x3 => some (x3.1, x3.2)) else ((T_keep_Src_Range k 2 12 p1 x1.2).bind fun x4 => some (x4.1, x4.2))))
abbrev C_T_keep_Src_Length (k : Nat) (p1 : List Int) (p2 : Int) (r : Int × Int) : Prop := evF X k n_keep_Src_Length [(Pt 0)] [.cells [cL p1, cI p2]] = some ((I r.1), [.cells [cL p1, cI r.2]])
theorem T_keep_Src_Length_ok (k : Nat) (p1 : List Int) (p2 : Int) (r : Int × Int) : T_keep_Src_Length k p1 p2 = some r → C_T_keep_Src_Length k p1 p2 r := by
 intro H
 cases k with
 | zero => simp [T_keep_Src_Length] at H
 | succ k =>
  simp only [T_keep_Src_Length] at H
  refine F_in X_keep_Src_Length rfl ?_
  refine K_seq (K_r [] [] (by kernel_rfl) trivial ?_)
  refine K_seq ?_
  refine K_seq ?_
  obtain ⟨x1, hx1, H⟩ := bind_some' H
  refine K_r [.r (I x1.1) [.cells [cL p1, cI x1.2]]] [C_T_keep_Src_N k 8 p1 p2 x1] (by kernel_rfl) (A1 (T_keep_Src_N_ok k 8 p1 p2 x1 hx1)) ?_
  rcases ite_some H with ⟨hx2, H⟩ | ⟨hx2, H⟩
  · refine K_t (by kernel_rfl) (decide_eq_true hx2) ?_
    refine K_seq ?_
    obtain ⟨x3, hx3, H⟩ := bind_some' H
    refine K_r [.r (I x3.1) [.cells [cL p1, cI x3.2]]] [C_T_keep_Src_Range k 13 32 p1 x1.2 x3] (by kernel_rfl) (A1 (T_keep_Src_Range_ok k 13 32 p1 x1.2 x3 hx3)) ?_
    refine K_g (by kernel_rfl) ?_
    cases H
    refine K_ret ?_
    kernel_rfl
  · refine K_f (by kernel_rfl) (decide_eq_false hx2) ?_
    refine K_g (by kernel_rfl) ?_
    refine K_skip ?_
    refine K_seq ?_
    obtain ⟨x4, hx4, H⟩ := bind_some' H
    refine K_r [.r (I x4.1) [.cells [cL p1, cI x4.2]]] [C_T_keep_Src_Range k 2 12 p1 x1.2 x4] (by kernel_rfl) (A1 (T_keep_Src_Range_ok k 2 12 p1 x1.2 x4 hx4)) ?_
    refine K_g (by kernel_rfl) ?_
    cases H
    refine K_ret ?_
    kernel_rfl
def T_keep_Src_Cuts_l1 (k : Nat) (p1 : List Int) (x6 : Int) (x14 : Nat × Int × Int × Int × (List Int)) : Option ((Nat × Int × Int × Int × (List Int)) ⊕ ((Nat × Int × (List Int)))) :=
 (if 0 < x14.2.2.1 then (T_keep_Src_Range k 1 x6 p1 x14.2.2.2.1).bind fun x16 => (if x14.1 + 1 ≤ LIM then some (.inl ((x14.1 + 1), (w64 (x14.2.1 + x16.1)), (w64 (x14.2.2.1 - 1)), x16.2, ((x14.2.2.2.2.drop 0).take x14.1 ++ ([(w64 (x14.2.1 + x16.1))] : List Int)))) else none) else some (.inr (x14.1, x14.2.2.2.1, x14.2.2.2.2)))
theorem T_keep_Src_Cuts_l1_ok (k : Nat) (p1 : List Int) (x6 : Int) : ∀ (x14 : Nat × Int × Int × Int × (List Int)) (x : (Nat × Int × Int × Int × (List Int)) ⊕ ((Nat × Int × (List Int)))), T_keep_Src_Cuts_l1 k p1 x6 x14 = some x → evC X (evF X k) k 1 l_keep_Src_Cuts_1 ⟨[(0, (Pt 0)), (3, (.one (.own 1 0 x14.1))), (4, (I x14.2.1)), (5, (I x6)), (6, (I x14.2.2.1))], [.cells [cL p1, cI x14.2.2.2.1], VI x14.2.2.2.2]⟩ = some (outS (fun (s : Nat × Int × Int × Int × (List Int)) => ⟨[(0, (Pt 0)), (3, (.one (.own 1 0 s.1))), (4, (I s.2.1)), (5, (I x6)), (6, (I s.2.2.1))], [.cells [cL p1, cI s.2.2.2.1], VI s.2.2.2.2]⟩) (fun (r : (Nat × Int × (List Int))) => (.exit 0, ⟨[(3, (.one (.own 1 0 r.1)))], [.cells [cL p1, cI r.2.1], VI r.2.2]⟩)) x) := by
 intro x14 x H
 unfold T_keep_Src_Cuts_l1 at H
 refine K_in ?_
 refine K_seq (K_seq (K_r [] [] (by kernel_rfl) trivial ?_))
 rcases ite_some H with ⟨hx15, H⟩ | ⟨hx15, H⟩
 · refine K_t (by kernel_rfl) (decide_eq_true hx15) ?_
   refine K_g (by kernel_rfl) ?_
   refine K_skip ?_
   refine K_seq ?_
   refine K_block ?_
   refine K_seq ?_
   obtain ⟨x16, hx16, H⟩ := bind_some' H
   refine K_r [.r (I x16.1) [.cells [cL p1, cI x16.2]]] [C_T_keep_Src_Range k 1 x6 p1 x14.2.2.2.1 x16] (by kernel_rfl) (A1 (T_keep_Src_Range_ok k 1 x6 p1 x14.2.2.2.1 x16 hx16)) ?_
   obtain ⟨hx17, H⟩ := guard_some H
   refine K_r [.n 1, .l (((x14.2.2.2.2.drop 0).take x14.1 ++ ([(w64 (x14.2.1 + x16.1))] : List Int)).map (D.int .i64))] [(List.all (([(w64 (x14.2.1 + x16.1))] : List Int).map (D.int .i64)) fun d => d.cells.length == (D.cells (.int .i64 0)).length) = true, x14.1 + 1 ≤ LIM, (([(w64 (x14.2.1 + x16.1))] : List Int).map (D.int .i64)).length = 1, ((x14.2.2.2.2.map (D.int .i64)).drop 0).take x14.1 ++ (([(w64 (x14.2.1 + x16.1))] : List Int).map (D.int .i64)) = ((x14.2.2.2.2.drop 0).take x14.1 ++ ([(w64 (x14.2.1 + x16.1))] : List Int)).map (D.int .i64)] (by kernel_rfl) (AC (all_ok (D.int .i64) 1 ([(w64 (x14.2.1 + x16.1))] : List Int) (fun _ => rfl)) (AC hx17 (AC (by simp) (A1 (ap_map (D.int .i64) x14.2.2.2.2 ([(w64 (x14.2.1 + x16.1))] : List Int) 0 x14.1))))) ?_
   refine K_blk (K_r [] [] (by kernel_rfl) trivial ?_)
   cases H
   exact K_end (by kernel_rfl)
 · refine K_f (by kernel_rfl) (decide_eq_false hx15) ?_
   refine K_g (by kernel_rfl) ?_
   cases H
   exact K_exit0 rfl (by kernel_rfl)
def T_keep_Src_Cuts (k : Nat) (p1 : List Int) (p2 : Int) : Option ((List Int) × Int) := match k with
 | 0 => none
 | k + 1 => ((T_keep_Src_Pick k ([(-400), (-60), (-10), (-3), 0] : List Int) p1 p2).bind fun x1 => (T_keep_Src_Pick k ([1, 3, 10, 60] : List Int) p1 x1.2).bind fun x2 => (T_keep_Src_N k 16 p1 x2.2).bind fun x3 => (loopT (T_keep_Src_Cuts_l1 k p1 x2.1) k (0, x1.1, x3.1, x3.2, [])).bind fun x18 => some (((x18.2.2.drop 0).take x18.1), x18.2.1))
abbrev C_T_keep_Src_Cuts (k : Nat) (p1 : List Int) (p2 : Int) (r : (List Int) × Int) : Prop := evF X k n_keep_Src_Cuts [(Pt 0)] [.cells [cL p1, cI p2]] = some ((LI r.1), [.cells [cL p1, cI r.2]])
theorem T_keep_Src_Cuts_ok (k : Nat) (p1 : List Int) (p2 : Int) (r : (List Int) × Int) : T_keep_Src_Cuts k p1 p2 = some r → C_T_keep_Src_Cuts k p1 p2 r := by
 intro H
 cases k with
 | zero => simp [T_keep_Src_Cuts] at H
 | succ k =>
  simp only [T_keep_Src_Cuts] at H
  refine F_in X_keep_Src_Cuts rfl ?_
  refine K_seq (K_r [] [] (by kernel_rfl) trivial ?_)
  refine K_seq (K_r [] [] (by kernel_rfl) trivial ?_)
  refine K_seq ?_
  obtain ⟨x1, hx1, H⟩ := bind_some' H
  obtain ⟨x2, hx2, H⟩ := bind_some' H
  refine K_r [.r (I x1.1) [.cells [cL p1, cI x1.2]], .r (I x2.1) [.cells [cL p1, cI x2.2]]] [C_T_keep_Src_Pick k ([(-400), (-60), (-10), (-3), 0] : List Int) p1 p2 x1, C_T_keep_Src_Pick k ([1, 3, 10, 60] : List Int) p1 x1.2 x2] (by kernel_rfl) (AC (T_keep_Src_Pick_ok k ([(-400), (-60), (-10), (-3), 0] : List Int) p1 p2 x1 hx1) (A1 (T_keep_Src_Pick_ok k ([1, 3, 10, 60] : List Int) p1 x1.2 x2 hx2))) ?_
  refine K_seq ?_
  refine K_seq ?_
  obtain ⟨x3, hx3, H⟩ := bind_some' H
  refine K_r [.r (I x3.1) [.cells [cL p1, cI x3.2]]] [C_T_keep_Src_N k 16 p1 x2.2 x3] (by kernel_rfl) (A1 (T_keep_Src_N_ok k 16 p1 x2.2 x3 hx3)) ?_
  refine K_block (K_g (by kernel_rfl) ?_)
  refine K_conv (σ' := ⟨[(0, (Pt 0)), (3, (.one (.own 1 0 0))), (4, (I x1.1)), (5, (I x2.1)), (6, (I x3.1))], [.cells [cL p1, cI x3.2], VI []]⟩) (by kernel_rfl) ?_
  obtain ⟨x18, hx18, H⟩ := bind_some' H
  refine K_loop ⟨[(3, (.one (.own 1 0 x18.1)))], [.cells [cL p1, cI x18.2.1], VI x18.2.2]⟩ (loop_ok (fun (s : Nat × Int × Int × Int × (List Int)) => ⟨[(0, (Pt 0)), (3, (.one (.own 1 0 s.1))), (4, (I s.2.1)), (5, (I x2.1)), (6, (I s.2.2.1))], [.cells [cL p1, cI s.2.2.2.1], VI s.2.2.2.2]⟩) (fun (r : (Nat × Int × (List Int))) => (.exit 0, ⟨[(3, (.one (.own 1 0 r.1)))], [.cells [cL p1, cI r.2.1], VI r.2.2]⟩)) (fun r h => by cases h) (T_keep_Src_Cuts_l1_ok k p1 x2.1) k (0, x1.1, x3.1, x3.2, []) x18 hx18) rfl ?_
  refine K_seq (K_r [] [] (by kernel_rfl) trivial ?_)
  refine K_g (by kernel_rfl) ?_
  cases H
  refine K_ret ?_
  exact Eq.trans (b := some ((.one (.d (.list (((x18.2.2.map (D.int .i64)).drop 0).take x18.1)))), [.cells [cL p1, cI x18.2.1]])) (by kernel_rfl) (by simp only [dt_map, LI, VI])
def T_keep_Src_Scheme (k : Nat) (p1 : List Int) (p2 : Int) : Option (Int × Int × Int × Int × Int × (List Int) × Int) := match k with
 | 0 => none
 | k + 1 => ((T_keep_Src_Measure k p1 p2).bind fun x1 => (T_keep_Src_Length k p1 x1.2.2.2).bind fun x2 => (T_keep_Src_Range k 1 (imin 8 x2.1) p1 x2.2).bind fun x3 => (T_keep_Src_Cuts k p1 x3.2).bind fun x4 => some (x1.1, x1.2.1, x1.2.2.1, x2.1, x3.1, x4.1, x4.2))
abbrev C_T_keep_Src_Scheme (k : Nat) (p1 : List Int) (p2 : Int) (r : Int × Int × Int × Int × Int × (List Int) × Int) : Prop := evF X k n_keep_Src_Scheme [(Pt 0)] [.cells [cL p1, cI p2]] = some ((.agg [cI r.1, cI r.2.1, cI r.2.2.1, cI r.2.2.2.1, cI r.2.2.2.2.1, cL r.2.2.2.2.2.1]), [.cells [cL p1, cI r.2.2.2.2.2.2]])
theorem T_keep_Src_Scheme_ok (k : Nat) (p1 : List Int) (p2 : Int) (r : Int × Int × Int × Int × Int × (List Int) × Int) : T_keep_Src_Scheme k p1 p2 = some r → C_T_keep_Src_Scheme k p1 p2 r := by
 intro H
 cases k with
 | zero => simp [T_keep_Src_Scheme] at H
 | succ k =>
  simp only [T_keep_Src_Scheme] at H
  refine F_in X_keep_Src_Scheme rfl ?_
  refine K_seq (K_r [] [] (by kernel_rfl) trivial ?_)
  refine K_seq ?_
  obtain ⟨x1, hx1, H⟩ := bind_some' H
  obtain ⟨x2, hx2, H⟩ := bind_some' H
  refine K_r [.r (.agg [cI x1.1, cI x1.2.1, cI x1.2.2.1]) [.cells [cL p1, cI x1.2.2.2]], .r (I x2.1) [.cells [cL p1, cI x2.2]]] [C_T_keep_Src_Measure k p1 p2 x1, C_T_keep_Src_Length k p1 x1.2.2.2 x2] (by kernel_rfl) (AC (T_keep_Src_Measure_ok k p1 p2 x1 hx1) (A1 (T_keep_Src_Length_ok k p1 x1.2.2.2 x2 hx2))) ?_
  refine K_seq ?_
  obtain ⟨x3, hx3, H⟩ := bind_some' H
  refine K_r [.r (I x3.1) [.cells [cL p1, cI x3.2]]] [C_T_keep_Src_Range k 1 (imin 8 x2.1) p1 x2.2 x3] (by kernel_rfl) (A1 (T_keep_Src_Range_ok k 1 (imin 8 x2.1) p1 x2.2 x3 hx3)) ?_
  refine K_seq ?_
  obtain ⟨x4, hx4, H⟩ := bind_some' H
  refine K_r [.r (LI x4.1) [.cells [cL p1, cI x4.2]]] [C_T_keep_Src_Cuts k p1 x3.2 x4] (by kernel_rfl) (A1 (T_keep_Src_Cuts_ok k p1 x3.2 x4 hx4)) ?_
  refine K_seq (K_r [] [] (by kernel_rfl) trivial ?_)
  refine K_g (by kernel_rfl) ?_
  cases H
  refine K_ret ?_
  kernel_rfl
def T_law21_normal (k : Nat) (p1 : List Int) (p2 : Int) : Option (Int × Int × (List Int) × Int) := match k with
 | 0 => none
 | k + 1 => ((T_keep_Src_Scheme k p1 p2).bind fun x1 => some (x1.2.2.2.1, x1.2.2.2.2.1, x1.2.2.2.2.2.1, x1.2.2.2.2.2.2))
abbrev C_T_law21_normal (k : Nat) (p1 : List Int) (p2 : Int) (r : Int × Int × (List Int) × Int) : Prop := evF X k n_law21_normal [(Pt 0)] [.cells [cL p1, cI p2]] = some ((.agg [cI 3, cI 0, cI 0, cI r.1, cI r.2.1, cL r.2.2.1]), [.cells [cL p1, cI r.2.2.2]])
theorem T_law21_normal_ok (k : Nat) (p1 : List Int) (p2 : Int) (r : Int × Int × (List Int) × Int) : T_law21_normal k p1 p2 = some r → C_T_law21_normal k p1 p2 r := by
 intro H
 cases k with
 | zero => simp [T_law21_normal] at H
 | succ k =>
  simp only [T_law21_normal] at H
  refine F_in X_law21_normal rfl ?_
  refine K_seq (K_r [] [] (by kernel_rfl) trivial ?_)
  refine K_seq ?_
  obtain ⟨x1, hx1, H⟩ := bind_some' H
  refine K_r [.r (.agg [cI x1.1, cI x1.2.1, cI x1.2.2.1, cI x1.2.2.2.1, cI x1.2.2.2.2.1, cL x1.2.2.2.2.2.1]) [.cells [cL p1, cI x1.2.2.2.2.2.2]]] [C_T_keep_Src_Scheme k p1 p2 x1] (by kernel_rfl) (A1 (T_keep_Src_Scheme_ok k p1 p2 x1 hx1)) ?_
  refine K_seq (K_r [] [] (by kernel_rfl) trivial ?_)
  refine K_seq (K_r [] [] (by kernel_rfl) trivial ?_)
  refine K_g (by kernel_rfl) ?_
  cases H
  refine K_ret ?_
  kernel_rfl
def T_keep_clip (k : Nat) (p1 : Int) : Option Unit := match k with
 | 0 => none
 | k + 1 => some ()
abbrev C_T_keep_clip (k : Nat) (p1 : Int) (r : Unit) : Prop := evF X k n_keep_clip [(I p1)] [] = some ((I (imin (imax p1 (-1000)) 1000)), [])
theorem T_keep_clip_ok (k : Nat) (p1 : Int) (r : Unit) : T_keep_clip k p1 = some r → C_T_keep_clip k p1 r := by
 intro H
 cases k with
 | zero => simp [T_keep_clip] at H
 | succ k =>
  simp only [T_keep_clip] at H
  refine F_in X_keep_clip rfl ?_
  refine K_seq (K_r [] [] (by kernel_rfl) trivial ?_)
  refine K_seq (K_r [] [] (by kernel_rfl) trivial ?_)
  refine K_g (by kernel_rfl) ?_
  cases H
  refine K_ret ?_
  kernel_rfl
def T_keep_Src_List_l1 (k : Nat) (p1 : Int) (p2 : List Int) (x8 : Int) (x9 : Int) (x37 : Int × Nat × Int × Int × (List Int)) : Option ((Int × Nat × Int × Int × (List Int)) ⊕ ((Nat × Int × (List Int)))) :=
 (if x37.2.2.1 < p1 then (((if x8 = 0 then some (decide (x8 = 0)) else some (decide (x8 = 1)))).bind fun x40 => ((if x40 = true then (T_keep_Src_Range k (w64 (0 - x9)) x9 p2 x37.2.2.2.1).bind fun x42 => (if x37.2.1 + 1 ≤ LIM then some (x37.1, x42.2, ((x37.2.2.2.2.drop 0).take x37.2.1 ++ ([x42.1] : List Int))) else none) else (((if x8 = 2 then some (decide (x8 = 2)) else some (decide (x8 = 3)))).bind fun x45 => (if x45 = true then (T_keep_Src_Range k (w64 (0 - x9)) x9 p2 x37.2.2.2.1).bind fun x47 => (T_keep_clip k (w64 (x37.1 + x47.1))).bind fun x48 => (if x37.2.1 + 1 ≤ LIM then some ((imin (imax (w64 (x37.1 + x47.1)) (-1000)) 1000), x47.2, ((x37.2.2.2.2.drop 0).take x37.2.1 ++ ([(imin (imax (w64 (x37.1 + x47.1)) (-1000)) 1000)] : List Int))) else none) else (if x8 = 4 then (T_keep_Src_N k 4 p2 x37.2.2.2.1).bind fun x51 => ((if x51.1 = 0 then ((T_keep_Src_Range k (w64 (0 - x9)) x9 p2 x51.2).bind fun x53 => some (x53.1, x53.2)) else some (x37.1, x51.2))).bind fun x54 => (if x37.2.1 + 1 ≤ LIM then some (x54.1, x54.2, ((x37.2.2.2.2.drop 0).take x37.2.1 ++ ([x54.1] : List Int))) else none) else (T_keep_Src_Pick k ([(-1000), 1000, 1000, 0] : List Int) p2 x37.2.2.2.1).bind fun x56 => (if x37.2.1 + 1 ≤ LIM then some (x37.1, x56.2, ((x37.2.2.2.2.drop 0).take x37.2.1 ++ ([x56.1] : List Int))) else none)))))).bind fun x58 => some (.inl (x58.1, (x37.2.1 + 1), (w64 (x37.2.2.1 + 1)), x58.2.1, x58.2.2))) else some (.inr (x37.2.1, x37.2.2.2.1, x37.2.2.2.2)))
theorem T_keep_Src_List_l1_ok (k : Nat) (p1 : Int) (p2 : List Int) (x8 : Int) (x9 : Int) : ∀ (x37 : Int × Nat × Int × Int × (List Int)) (x : (Int × Nat × Int × Int × (List Int)) ⊕ ((Nat × Int × (List Int)))), T_keep_Src_List_l1 k p1 p2 x8 x9 x37 = some x → evC X (evF X k) k 1 l_keep_Src_List_1 ⟨[(0, (Pt 0)), (1, (I p1)), (5, (I x8)), (6, (I x9)), (7, (I x37.1)), (8, (.one (.own 1 0 x37.2.1))), (9, (I x37.2.2.1))], [.cells [cL p2, cI x37.2.2.2.1], VI x37.2.2.2.2]⟩ = some (outS (fun (s : Int × Nat × Int × Int × (List Int)) => ⟨[(0, (Pt 0)), (1, (I p1)), (5, (I x8)), (6, (I x9)), (7, (I s.1)), (8, (.one (.own 1 0 s.2.1))), (9, (I s.2.2.1))], [.cells [cL p2, cI s.2.2.2.1], VI s.2.2.2.2]⟩) (fun (r : (Nat × Int × (List Int))) => (.exit 0, ⟨[(8, (.one (.own 1 0 r.1)))], [.cells [cL p2, cI r.2.1], VI r.2.2]⟩)) x) := by
 intro x37 x H
 unfold T_keep_Src_List_l1 at H
 refine K_in ?_
 refine K_seq (K_seq (K_r [] [] (by kernel_rfl) trivial ?_))
 rcases ite_some H with ⟨hx38, H⟩ | ⟨hx38, H⟩
 · refine K_t (by kernel_rfl) (decide_eq_true hx38) ?_
   refine K_g (by kernel_rfl) ?_
   refine K_skip (K_seq (K_block (K_seq (K_r [] [] (by kernel_rfl) trivial ?_))))
   refine K_block (K_seq (K_seq (K_r [] [] (by kernel_rfl) trivial ?_)))
   obtain ⟨x40, hx40, H⟩ := bind_some' H
   refine K_of ⟨[(0, (Pt 0)), (1, (I p1)), (5, (I x8)), (6, (I x9)), (7, (I x37.1)), (8, (.one (.own 1 0 x37.2.1))), (9, (I x37.2.2.1)), (25, (I x8)), (32, (B x40))], [.cells [cL p2, cI x37.2.2.2.1], VI x37.2.2.2.2]⟩ ?_ ?_
   · clear H; have H := hx40; clear hx40; refine K_in ?_
     rcases ite_some H with ⟨hx39, H⟩ | ⟨hx39, H⟩
     · refine K_t (by kernel_rfl) (decide_eq_true hx39) ?_
       refine K_g (by kernel_rfl) ?_
       refine K_skip ?_
       cases H
       exact K_end (by kernel_rfl)
     · refine K_f (by kernel_rfl) (decide_eq_false hx39) ?_
       refine K_r [] [] (by kernel_rfl) trivial ?_
       cases H
       exact K_end (by kernel_rfl)
   obtain ⟨x58, hx58, H⟩ := bind_some' H
   refine K_of ⟨[(0, (Pt 0)), (1, (I p1)), (5, (I x8)), (6, (I x9)), (7, (I x58.1)), (8, (.one (.own 1 0 (x37.2.1 + 1)))), (9, (I x37.2.2.1))], [.cells [cL p2, cI x58.2.1], VI x58.2.2]⟩ ?_ ?_
   · clear H; have H := hx58; clear hx58; refine K_in ?_
     rcases ite_some H with ⟨hx41, H⟩ | ⟨hx41, H⟩
     · refine K_t (by kernel_rfl) hx41 ?_
       obtain ⟨x42, hx42, H⟩ := bind_some' H
       obtain ⟨hx43, H⟩ := guard_some H
       refine K_r [.r (I x42.1) [.cells [cL p2, cI x42.2]], .n 1, .l (((x37.2.2.2.2.drop 0).take x37.2.1 ++ ([x42.1] : List Int)).map (D.int .i64))] [C_T_keep_Src_Range k (w64 (0 - x9)) x9 p2 x37.2.2.2.1 x42, (List.all (([x42.1] : List Int).map (D.int .i64)) fun d => d.cells.length == (D.cells (.int .i64 0)).length) = true, x37.2.1 + 1 ≤ LIM, (([x42.1] : List Int).map (D.int .i64)).length = 1, ((x37.2.2.2.2.map (D.int .i64)).drop 0).take x37.2.1 ++ (([x42.1] : List Int).map (D.int .i64)) = ((x37.2.2.2.2.drop 0).take x37.2.1 ++ ([x42.1] : List Int)).map (D.int .i64)] (by kernel_rfl) (AC (T_keep_Src_Range_ok k (w64 (0 - x9)) x9 p2 x37.2.2.2.1 x42 hx42) (AC (all_ok (D.int .i64) 1 ([x42.1] : List Int) (fun _ => rfl)) (AC hx43 (AC (by simp) (A1 (ap_map (D.int .i64) x37.2.2.2.2 ([x42.1] : List Int) 0 x37.2.1)))))) ?_
       cases H
       exact K_end (by kernel_rfl)
     · refine K_f (by kernel_rfl) (Bool.eq_false_iff.2 hx41) ?_
       refine K_seq (K_seq (K_r [] [] (by kernel_rfl) trivial ?_))
       obtain ⟨x45, hx45, H⟩ := bind_some' H
       refine K_of ⟨[(0, (Pt 0)), (1, (I p1)), (5, (I x8)), (6, (I x9)), (7, (I x37.1)), (8, (.one (.own 1 0 x37.2.1))), (9, (I x37.2.2.1)), (25, (I x8)), (43, (B x45))], [.cells [cL p2, cI x37.2.2.2.1], VI x37.2.2.2.2]⟩ ?_ ?_
       · clear H; have H := hx45; clear hx45; refine K_in ?_
         rcases ite_some H with ⟨hx44, H⟩ | ⟨hx44, H⟩
         · refine K_t (by kernel_rfl) (decide_eq_true hx44) ?_
           refine K_g (by kernel_rfl) ?_
           refine K_skip ?_
           cases H
           exact K_end (by kernel_rfl)
         · refine K_f (by kernel_rfl) (decide_eq_false hx44) ?_
           refine K_r [] [] (by kernel_rfl) trivial ?_
           cases H
           exact K_end (by kernel_rfl)
       rcases ite_some H with ⟨hx46, H⟩ | ⟨hx46, H⟩
       · refine K_t (by kernel_rfl) hx46 ?_
         refine K_seq ?_
         obtain ⟨x47, hx47, H⟩ := bind_some' H
         obtain ⟨x48, hx48, H⟩ := bind_some' H
         refine K_r [.r (I x47.1) [.cells [cL p2, cI x47.2]], .r (I (imin (imax (w64 (x37.1 + x47.1)) (-1000)) 1000)) []] [C_T_keep_Src_Range k (w64 (0 - x9)) x9 p2 x37.2.2.2.1 x47, C_T_keep_clip k (w64 (x37.1 + x47.1)) x48] (by kernel_rfl) (AC (T_keep_Src_Range_ok k (w64 (0 - x9)) x9 p2 x37.2.2.2.1 x47 hx47) (A1 (T_keep_clip_ok k (w64 (x37.1 + x47.1)) x48 hx48))) ?_
         obtain ⟨hx49, H⟩ := guard_some H
         refine K_r [.n 1, .l (((x37.2.2.2.2.drop 0).take x37.2.1 ++ ([(imin (imax (w64 (x37.1 + x47.1)) (-1000)) 1000)] : List Int)).map (D.int .i64))] [(List.all (([(imin (imax (w64 (x37.1 + x47.1)) (-1000)) 1000)] : List Int).map (D.int .i64)) fun d => d.cells.length == (D.cells (.int .i64 0)).length) = true, x37.2.1 + 1 ≤ LIM, (([(imin (imax (w64 (x37.1 + x47.1)) (-1000)) 1000)] : List Int).map (D.int .i64)).length = 1, ((x37.2.2.2.2.map (D.int .i64)).drop 0).take x37.2.1 ++ (([(imin (imax (w64 (x37.1 + x47.1)) (-1000)) 1000)] : List Int).map (D.int .i64)) = ((x37.2.2.2.2.drop 0).take x37.2.1 ++ ([(imin (imax (w64 (x37.1 + x47.1)) (-1000)) 1000)] : List Int)).map (D.int .i64)] (by kernel_rfl) (AC (all_ok (D.int .i64) 1 ([(imin (imax (w64 (x37.1 + x47.1)) (-1000)) 1000)] : List Int) (fun _ => rfl)) (AC hx49 (AC (by simp) (A1 (ap_map (D.int .i64) x37.2.2.2.2 ([(imin (imax (w64 (x37.1 + x47.1)) (-1000)) 1000)] : List Int) 0 x37.2.1))))) ?_
         cases H
         exact K_end (by kernel_rfl)
       · refine K_f (by kernel_rfl) (Bool.eq_false_iff.2 hx46) ?_
         refine K_seq (K_r [] [] (by kernel_rfl) trivial ?_)
         rcases ite_some H with ⟨hx50, H⟩ | ⟨hx50, H⟩
         · refine K_t (by kernel_rfl) (decide_eq_true hx50) ?_
           refine K_seq ?_
           refine K_seq ?_
           obtain ⟨x51, hx51, H⟩ := bind_some' H
           refine K_r [.r (I x51.1) [.cells [cL p2, cI x51.2]]] [C_T_keep_Src_N k 4 p2 x37.2.2.2.1 x51] (by kernel_rfl) (A1 (T_keep_Src_N_ok k 4 p2 x37.2.2.2.1 x51 hx51)) ?_
           obtain ⟨x54, hx54, H⟩ := bind_some' H
           refine K_of ⟨[(0, (Pt 0)), (1, (I p1)), (5, (I x8)), (6, (I x9)), (7, (I x54.1)), (8, (.one (.own 1 0 x37.2.1))), (9, (I x37.2.2.1))], [.cells [cL p2, cI x54.2], VI x37.2.2.2.2]⟩ ?_ ?_
           · clear H; have H := hx54; clear hx54; refine K_in ?_
             rcases ite_some H with ⟨hx52, H⟩ | ⟨hx52, H⟩
             · refine K_t (by kernel_rfl) (decide_eq_true hx52) ?_
               obtain ⟨x53, hx53, H⟩ := bind_some' H
               refine K_r [.r (I x53.1) [.cells [cL p2, cI x53.2]]] [C_T_keep_Src_Range k (w64 (0 - x9)) x9 p2 x51.2 x53] (by kernel_rfl) (A1 (T_keep_Src_Range_ok k (w64 (0 - x9)) x9 p2 x51.2 x53 hx53)) ?_
               cases H
               exact K_end (by kernel_rfl)
             · refine K_f (by kernel_rfl) (decide_eq_false hx52) ?_
               refine K_g (by kernel_rfl) ?_
               refine K_skip ?_
               cases H
               exact K_end (by kernel_rfl)
           obtain ⟨hx55, H⟩ := guard_some H
           refine K_r [.n 1, .l (((x37.2.2.2.2.drop 0).take x37.2.1 ++ ([x54.1] : List Int)).map (D.int .i64))] [(List.all (([x54.1] : List Int).map (D.int .i64)) fun d => d.cells.length == (D.cells (.int .i64 0)).length) = true, x37.2.1 + 1 ≤ LIM, (([x54.1] : List Int).map (D.int .i64)).length = 1, ((x37.2.2.2.2.map (D.int .i64)).drop 0).take x37.2.1 ++ (([x54.1] : List Int).map (D.int .i64)) = ((x37.2.2.2.2.drop 0).take x37.2.1 ++ ([x54.1] : List Int)).map (D.int .i64)] (by kernel_rfl) (AC (all_ok (D.int .i64) 1 ([x54.1] : List Int) (fun _ => rfl)) (AC hx55 (AC (by simp) (A1 (ap_map (D.int .i64) x37.2.2.2.2 ([x54.1] : List Int) 0 x37.2.1))))) ?_
           cases H
           exact K_end (by kernel_rfl)
         · refine K_f (by kernel_rfl) (decide_eq_false hx50) ?_
           obtain ⟨x56, hx56, H⟩ := bind_some' H
           obtain ⟨hx57, H⟩ := guard_some H
           refine K_r [.r (I x56.1) [.cells [cL p2, cI x56.2]], .n 1, .l (((x37.2.2.2.2.drop 0).take x37.2.1 ++ ([x56.1] : List Int)).map (D.int .i64))] [C_T_keep_Src_Pick k ([(-1000), 1000, 1000, 0] : List Int) p2 x37.2.2.2.1 x56, (List.all (([x56.1] : List Int).map (D.int .i64)) fun d => d.cells.length == (D.cells (.int .i64 0)).length) = true, x37.2.1 + 1 ≤ LIM, (([x56.1] : List Int).map (D.int .i64)).length = 1, ((x37.2.2.2.2.map (D.int .i64)).drop 0).take x37.2.1 ++ (([x56.1] : List Int).map (D.int .i64)) = ((x37.2.2.2.2.drop 0).take x37.2.1 ++ ([x56.1] : List Int)).map (D.int .i64)] (by kernel_rfl) (AC (T_keep_Src_Pick_ok k ([(-1000), 1000, 1000, 0] : List Int) p2 x37.2.2.2.1 x56 hx56) (AC (all_ok (D.int .i64) 1 ([x56.1] : List Int) (fun _ => rfl)) (AC hx57 (AC (by simp) (A1 (ap_map (D.int .i64) x37.2.2.2.2 ([x56.1] : List Int) 0 x37.2.1)))))) ?_
           cases H
           exact K_end (by kernel_rfl)
   refine K_blk (K_blk (K_r [] [] (by kernel_rfl) trivial ?_))
   cases H
   exact K_end (by kernel_rfl)
 · refine K_f (by kernel_rfl) (decide_eq_false hx38) ?_
   refine K_g (by kernel_rfl) ?_
   cases H
   exact K_exit0 rfl (by kernel_rfl)
def T_keep_Src_List (k : Nat) (p1 : Int) (p2 : List Int) (p3 : Int) : Option ((List Int) × Int) := match k with
 | 0 => none
 | k + 1 => ((T_keep_Src_N k 6 p2 p3).bind fun x1 => (T_keep_Src_Pick k ([1, 3, 10, 100, 1000] : List Int) p2 x1.2).bind fun x2 => (T_keep_Src_N k 3 p2 x2.2).bind fun x3 => ((if x3.1 = 0 then ((T_keep_Src_Range k (-1000) 1000 p2 x3.2).bind fun x5 => some (x5.1, x5.2)) else some (0, x3.2))).bind fun x6 => (loopT (T_keep_Src_List_l1 k p1 p2 x1.1 x2.1) k (x6.1, 0, 0, x6.2, [])).bind fun x59 => some (((x59.2.2.drop 0).take x59.1), x59.2.1))
abbrev C_T_keep_Src_List (k : Nat) (p1 : Int) (p2 : List Int) (p3 : Int) (r : (List Int) × Int) : Prop := evF X k n_keep_Src_List [(Pt 0), (I p1)] [.cells [cL p2, cI p3]] = some ((LI r.1), [.cells [cL p2, cI r.2]])
theorem T_keep_Src_List_ok (k : Nat) (p1 : Int) (p2 : List Int) (p3 : Int) (r : (List Int) × Int) : T_keep_Src_List k p1 p2 p3 = some r → C_T_keep_Src_List k p1 p2 p3 r := by
 intro H
 cases k with
 | zero => simp [T_keep_Src_List] at H
 | succ k =>
  simp only [T_keep_Src_List] at H
  refine F_in X_keep_Src_List rfl ?_
  refine K_seq (K_r [] [] (by kernel_rfl) trivial ?_)
  refine K_seq ?_
  obtain ⟨x1, hx1, H⟩ := bind_some' H
  obtain ⟨x2, hx2, H⟩ := bind_some' H
  refine K_r [.r (I x1.1) [.cells [cL p2, cI x1.2]], .r (I x2.1) [.cells [cL p2, cI x2.2]]] [C_T_keep_Src_N k 6 p2 p3 x1, C_T_keep_Src_Pick k ([1, 3, 10, 100, 1000] : List Int) p2 x1.2 x2] (by kernel_rfl) (AC (T_keep_Src_N_ok k 6 p2 p3 x1 hx1) (A1 (T_keep_Src_Pick_ok k ([1, 3, 10, 100, 1000] : List Int) p2 x1.2 x2 hx2))) ?_
  refine K_seq ?_
  refine K_seq ?_
  obtain ⟨x3, hx3, H⟩ := bind_some' H
  refine K_r [.r (I x3.1) [.cells [cL p2, cI x3.2]]] [C_T_keep_Src_N k 3 p2 x2.2 x3] (by kernel_rfl) (A1 (T_keep_Src_N_ok k 3 p2 x2.2 x3 hx3)) ?_
  obtain ⟨x6, hx6, H⟩ := bind_some' H
  refine K_of ⟨[(0, (Pt 0)), (1, (I p1)), (5, (I x1.1)), (6, (I x2.1)), (7, (I x6.1))], [.cells [cL p2, cI x6.2]]⟩ ?_ ?_
  · clear H; have H := hx6; clear hx6; refine K_in ?_
    rcases ite_some H with ⟨hx4, H⟩ | ⟨hx4, H⟩
    · refine K_t (by kernel_rfl) (decide_eq_true hx4) ?_
      obtain ⟨x5, hx5, H⟩ := bind_some' H
      refine K_r [.r (I x5.1) [.cells [cL p2, cI x5.2]]] [C_T_keep_Src_Range k (-1000) 1000 p2 x3.2 x5] (by kernel_rfl) (A1 (T_keep_Src_Range_ok k (-1000) 1000 p2 x3.2 x5 hx5)) ?_
      cases H
      exact K_end (by kernel_rfl)
    · refine K_f (by kernel_rfl) (decide_eq_false hx4) ?_
      refine K_g (by kernel_rfl) ?_
      refine K_skip ?_
      cases H
      exact K_end (by kernel_rfl)
  refine K_seq (K_r [] [] (by kernel_rfl) trivial ?_)
  refine K_seq (K_seq (K_r [] [] (by kernel_rfl) trivial ?_))
  refine K_block (K_g (by kernel_rfl) ?_)
  refine K_conv (σ' := ⟨[(0, (Pt 0)), (1, (I p1)), (5, (I x1.1)), (6, (I x2.1)), (7, (I x6.1)), (8, (.one (.own 1 0 0))), (9, (I 0))], [.cells [cL p2, cI x6.2], VI []]⟩) (by kernel_rfl) ?_
  obtain ⟨x59, hx59, H⟩ := bind_some' H
  refine K_loop ⟨[(8, (.one (.own 1 0 x59.1)))], [.cells [cL p2, cI x59.2.1], VI x59.2.2]⟩ (loop_ok (fun (s : Int × Nat × Int × Int × (List Int)) => ⟨[(0, (Pt 0)), (1, (I p1)), (5, (I x1.1)), (6, (I x2.1)), (7, (I s.1)), (8, (.one (.own 1 0 s.2.1))), (9, (I s.2.2.1))], [.cells [cL p2, cI s.2.2.2.1], VI s.2.2.2.2]⟩) (fun (r : (Nat × Int × (List Int))) => (.exit 0, ⟨[(8, (.one (.own 1 0 r.1)))], [.cells [cL p2, cI r.2.1], VI r.2.2]⟩)) (fun r h => by cases h) (T_keep_Src_List_l1_ok k p1 p2 x1.1 x2.1) k (x6.1, 0, 0, x6.2, []) x59 hx59) rfl ?_
  refine K_seq (K_r [] [] (by kernel_rfl) trivial ?_)
  refine K_g (by kernel_rfl) ?_
  cases H
  refine K_ret ?_
  exact Eq.trans (b := some ((.one (.d (.list (((x59.2.2.map (D.int .i64)).drop 0).take x59.1)))), [.cells [cL p2, cI x59.2.1]])) (by kernel_rfl) (by simp only [dt_map, LI, VI])
def T_keep_Src_Near_l1 (k : Nat) (p1 : List Int) (p2 : List Int) (x6 : Int) (x7 : Int) (x8 : Int) (x9 : Nat) (x10 : Int) (x42 : Int × Int × (List Int)) : Option ((Int × Int × (List Int)) ⊕ ((Int × (List Int)))) :=
 (if x42.1 < x10 then (((if x6 = 1 then (if (0 : Int) ≤ x42.1 ∧ x42.1 < ((x9 : Nat) : Int) then (x42.2.2[(0 + x42.1.toNat)]?).bind fun x46 => (T_keep_Src_Range k (-2) 2 p2 x42.2.1).bind fun x47 => (T_keep_clip k (w64 (x46 + x47.1))).bind fun x48 => some (x47.2, (x42.2.2.set (0 + x42.1.toNat) (imin (imax (w64 (x46 + x47.1)) (-1000)) 1000))) else none) else (if x6 = 2 then (if (0 : Int) ≤ x42.1 ∧ x42.1 < ((x9 : Nat) : Int) then (x42.2.2[(0 + x42.1.toNat)]?).bind fun x51 => (T_keep_clip k (w64 (x51 + x7))).bind fun x52 => some (x42.2.1, (x42.2.2.set (0 + x42.1.toNat) (imin (imax (w64 (x51 + x7)) (-1000)) 1000))) else none) else (if x6 = 3 then (if (0 : Int) ≤ x42.1 ∧ x42.1 < ((x9 : Nat) : Int) then (x42.2.2[(0 + x42.1.toNat)]?).bind fun x55 => (T_keep_clip k (w64 ((w64 (x55 * x8)) + x7))).bind fun x56 => some (x42.2.1, (x42.2.2.set (0 + x42.1.toNat) (imin (imax (w64 ((w64 (x55 * x8)) + x7)) (-1000)) 1000))) else none) else (if x6 = 4 then (at? p1 (w64 ((w64 ((p1.length : Int) - 1)) - x42.1))).bind fun x58 => (if (0 : Int) ≤ x42.1 ∧ x42.1 < ((x9 : Nat) : Int) then some (x42.2.1, (x42.2.2.set (0 + x42.1.toNat) x58)) else none) else (if x6 = 5 then (T_keep_Src_Range k (-1) 1 p2 x42.2.1).bind fun x61 => (T_keep_Mod k (w64 (x42.1 + x61.1)) (p1.length : Int)).bind fun x62 => (at? p1 x62).bind fun x63 => (if (0 : Int) ≤ x42.1 ∧ x42.1 < ((x9 : Nat) : Int) then some (x61.2, (x42.2.2.set (0 + x42.1.toNat) x63)) else none) else (if x6 = 6 then (if (0 : Int) ≤ x42.1 ∧ x42.1 < ((x9 : Nat) : Int) then (x42.2.2[(0 + x42.1.toNat)]?).bind fun x67 => (T_keep_clip k (w64 (x7 - (w64 (x67 * x8))))).bind fun x68 => some (x42.2.1, (x42.2.2.set (0 + x42.1.toNat) (imin (imax (w64 (x7 - (w64 (x67 * x8)))) (-1000)) 1000))) else none) else some (x42.2.1, x42.2.2)))))))).bind fun x69 => some (.inl ((w64 (x42.1 + 1)), x69.1, x69.2))) else some (.inr (x42.2.1, x42.2.2)))
theorem T_keep_Src_Near_l1_ok (k : Nat) (p1 : List Int) (p2 : List Int) (x6 : Int) (x7 : Int) (x8 : Int) (x9 : Nat) (x10 : Int) : ∀ (x42 : Int × Int × (List Int)) (x : (Int × Int × (List Int)) ⊕ ((Int × (List Int)))), T_keep_Src_Near_l1 k p1 p2 x6 x7 x8 x9 x10 x42 = some x → evC X (evF X k) k 1 l_keep_Src_Near_1 ⟨[(0, (Pt 0)), (1, (LI p1)), (5, (I x6)), (6, (I x7)), (7, (I x8)), (8, (.one (.own 1 0 x9))), (20, (I x10)), (21, (I x42.1))], [.cells [cL p2, cI x42.2.1], VI x42.2.2]⟩ = some (outS (fun (s : Int × Int × (List Int)) => ⟨[(0, (Pt 0)), (1, (LI p1)), (5, (I x6)), (6, (I x7)), (7, (I x8)), (8, (.one (.own 1 0 x9))), (20, (I x10)), (21, (I s.1))], [.cells [cL p2, cI s.2.1], VI s.2.2]⟩) (fun (r : (Int × (List Int))) => (.exit 0, ⟨[(8, (.one (.own 1 0 x9)))], [.cells [cL p2, cI r.1], VI r.2]⟩)) x) := by
 intro x42 x H
 unfold T_keep_Src_Near_l1 at H
 refine K_in ?_
 refine K_seq (K_r [] [] (by kernel_rfl) trivial ?_)
 refine K_seq ?_
 rcases ite_some H with ⟨hx43, H⟩ | ⟨hx43, H⟩
 · refine K_t (by kernel_rfl) (decide_eq_true hx43) ?_
   refine K_g (by kernel_rfl) ?_
   refine K_skip (K_seq (K_block (K_seq (K_r [] [] (by kernel_rfl) trivial ?_))))
   refine K_seq (K_r [] [] (by kernel_rfl) trivial ?_)
   refine K_block (K_seq (K_r [] [] (by kernel_rfl) trivial ?_))
   obtain ⟨x69, hx69, H⟩ := bind_some' H
   refine K_of ⟨[(0, (Pt 0)), (1, (LI p1)), (5, (I x6)), (6, (I x7)), (7, (I x8)), (8, (.one (.own 1 0 x9))), (20, (I x10)), (21, (I x42.1))], [.cells [cL p2, cI x69.1], VI x69.2]⟩ ?_ ?_
   · clear H; have H := hx69; clear hx69; refine K_in ?_
     rcases ite_some H with ⟨hx44, H⟩ | ⟨hx44, H⟩
     · refine K_t (by kernel_rfl) (decide_eq_true hx44) ?_
       obtain ⟨hx45, H⟩ := guard_some H
       obtain ⟨x46, hx46, H⟩ := bind_some' H
       obtain ⟨x47, hx47, H⟩ := bind_some' H
       obtain ⟨x48, hx48, H⟩ := bind_some' H
       refine K_rD [.l [.int .i64 x46], .r (I x47.1) [.cells [cL p2, cI x47.2]], .r (I (imin (imax (w64 (x46 + x47.1)) (-1000)) 1000)) [], .l ((x42.2.2.set (0 + x42.1.toNat) (imin (imax (w64 (x46 + x47.1)) (-1000)) 1000)).map (D.int .i64)), .r (I x47.1) [.cells [cL p2, cI x47.2]], .l [.int .i64 x46], .r (I (imin (imax (w64 (x46 + x47.1)) (-1000)) 1000)) [], .l ((x42.2.2.set (0 + x42.1.toNat) (imin (imax (w64 (x46 + x47.1)) (-1000)) 1000)).map (D.int .i64)), .r (I x47.1) [.cells [cL p2, cI x47.2]], .l [.int .i64 x46], .r (I (imin (imax (w64 (x46 + x47.1)) (-1000)) 1000)) [], .l ((x42.2.2.set (0 + x42.1.toNat) (imin (imax (w64 (x46 + x47.1)) (-1000)) 1000)).map (D.int .i64))] ((fun (z1 : St) => [(0 : Int) ≤ x42.1 ∧ x42.1 < ((x9 : Nat) : Int), ((x42.2.2.map (D.int .i64)).getD (0 + x42.1.toNat) (.int .i64 0)).cells = [.int .i64 x46], C_T_keep_Src_Range k (-2) 2 p2 x42.2.1 x47, C_T_keep_clip k (w64 (x46 + x47.1)) x48, (0 : Int) ≤ x42.1 ∧ x42.1 < ((x9 : Nat) : Int), (x42.2.2.map (D.int .i64)).set (0 + x42.1.toNat) (elemOf (.int .i64 0) (splice ((x42.2.2.map (D.int .i64)).getD (0 + x42.1.toNat) (.int .i64 0)).cells 0 [.int .i64 (imin (imax (w64 (x46 + x47.1)) (-1000)) 1000)])) = (x42.2.2.set (0 + x42.1.toNat) (imin (imax (w64 (x46 + x47.1)) (-1000)) 1000)).map (D.int .i64), C_T_keep_Src_Range k (-2) 2 p2 x42.2.1 x47, ((x42.2.2.map (D.int .i64)).getD (0 + x42.1.toNat) (.int .i64 0)).cells = [.int .i64 x46], C_T_keep_clip k (w64 (x46 + x47.1)) x48, (0 : Int) ≤ x42.1 ∧ x42.1 < ((x9 : Nat) : Int), (x42.2.2.map (D.int .i64)).set (0 + x42.1.toNat) (elemOf (.int .i64 0) (splice ((x42.2.2.map (D.int .i64)).getD (0 + x42.1.toNat) (.int .i64 0)).cells 0 [.int .i64 (imin (imax (w64 (x46 + x47.1)) (-1000)) 1000)])) = (x42.2.2.set (0 + x42.1.toNat) (imin (imax (w64 (x46 + x47.1)) (-1000)) 1000)).map (D.int .i64), z1 = z1, C_T_keep_Src_Range k (-2) 2 p2 x42.2.1 x47, (0 : Int) ≤ x42.1 ∧ x42.1 < ((x9 : Nat) : Int), ((x42.2.2.map (D.int .i64)).getD (0 + x42.1.toNat) (.int .i64 0)).cells = [.int .i64 x46], C_T_keep_clip k (w64 (x46 + x47.1)) x48, (0 : Int) ≤ x42.1 ∧ x42.1 < ((x9 : Nat) : Int), (x42.2.2.map (D.int .i64)).set (0 + x42.1.toNat) (elemOf (.int .i64 0) (splice ((x42.2.2.map (D.int .i64)).getD (0 + x42.1.toNat) (.int .i64 0)).cells 0 [.int .i64 (imin (imax (w64 (x46 + x47.1)) (-1000)) 1000)])) = (x42.2.2.set (0 + x42.1.toNat) (imin (imax (w64 (x46 + x47.1)) (-1000)) 1000)).map (D.int .i64), z1 = z1]) (⟨[(0, (Pt 0)), (1, (LI p1)), (5, (I x6)), (6, (I x7)), (7, (I x8)), (8, (.one (.own 1 0 x9))), (20, (I x10)), (21, (I x42.1))], [.cells [cL p2, cI x47.2], VI (x42.2.2.set (0 + x42.1.toNat) (imin (imax (w64 (x46 + x47.1)) (-1000)) 1000))]⟩)) (by kernel_rfl) (AC hx45 (AC (ld_ok hx46 (D.int .i64) (.int .i64 0)) (AC (T_keep_Src_Range_ok k (-2) 2 p2 x42.2.1 x47 hx47) (AC (T_keep_clip_ok k (w64 (x46 + x47.1)) x48 hx48) (AC hx45 (AC (st_one x42.2.2 (0 + x42.1.toNat) (imin (imax (w64 (x46 + x47.1)) (-1000)) 1000) (D.int .i64) (.int .i64 0) rfl (fun _ => rfl) rfl) (AC (T_keep_Src_Range_ok k (-2) 2 p2 x42.2.1 x47 hx47) (AC (ld_ok hx46 (D.int .i64) (.int .i64 0)) (AC (T_keep_clip_ok k (w64 (x46 + x47.1)) x48 hx48) (AC hx45 (AC (st_one x42.2.2 (0 + x42.1.toNat) (imin (imax (w64 (x46 + x47.1)) (-1000)) 1000) (D.int .i64) (.int .i64 0) rfl (fun _ => rfl) rfl) (AC rfl (AC (T_keep_Src_Range_ok k (-2) 2 p2 x42.2.1 x47 hx47) (AC hx45 (AC (ld_ok hx46 (D.int .i64) (.int .i64 0)) (AC (T_keep_clip_ok k (w64 (x46 + x47.1)) x48 hx48) (AC hx45 (AC (st_one x42.2.2 (0 + x42.1.toNat) (imin (imax (w64 (x46 + x47.1)) (-1000)) 1000) (D.int .i64) (.int .i64 0) rfl (fun _ => rfl) rfl) (A1 rfl))))))))))))))))))) ?_
       cases H
       exact K_end (by kernel_rfl)
     · refine K_f (by kernel_rfl) (decide_eq_false hx44) ?_
       refine K_seq (K_r [] [] (by kernel_rfl) trivial ?_)
       rcases ite_some H with ⟨hx49, H⟩ | ⟨hx49, H⟩
       · refine K_t (by kernel_rfl) (decide_eq_true hx49) ?_
         obtain ⟨hx50, H⟩ := guard_some H
         obtain ⟨x51, hx51, H⟩ := bind_some' H
         obtain ⟨x52, hx52, H⟩ := bind_some' H
         refine K_r [.l [.int .i64 x51], .r (I (imin (imax (w64 (x51 + x7)) (-1000)) 1000)) [], .l ((x42.2.2.set (0 + x42.1.toNat) (imin (imax (w64 (x51 + x7)) (-1000)) 1000)).map (D.int .i64))] [(0 : Int) ≤ x42.1 ∧ x42.1 < ((x9 : Nat) : Int), ((x42.2.2.map (D.int .i64)).getD (0 + x42.1.toNat) (.int .i64 0)).cells = [.int .i64 x51], C_T_keep_clip k (w64 (x51 + x7)) x52, (0 : Int) ≤ x42.1 ∧ x42.1 < ((x9 : Nat) : Int), (x42.2.2.map (D.int .i64)).set (0 + x42.1.toNat) (elemOf (.int .i64 0) (splice ((x42.2.2.map (D.int .i64)).getD (0 + x42.1.toNat) (.int .i64 0)).cells 0 [.int .i64 (imin (imax (w64 (x51 + x7)) (-1000)) 1000)])) = (x42.2.2.set (0 + x42.1.toNat) (imin (imax (w64 (x51 + x7)) (-1000)) 1000)).map (D.int .i64)] (by kernel_rfl) (AC hx50 (AC (ld_ok hx51 (D.int .i64) (.int .i64 0)) (AC (T_keep_clip_ok k (w64 (x51 + x7)) x52 hx52) (AC hx50 (A1 (st_one x42.2.2 (0 + x42.1.toNat) (imin (imax (w64 (x51 + x7)) (-1000)) 1000) (D.int .i64) (.int .i64 0) rfl (fun _ => rfl) rfl)))))) ?_
         cases H
         exact K_end (by kernel_rfl)
       · refine K_f (by kernel_rfl) (decide_eq_false hx49) ?_
         refine K_seq (K_r [] [] (by kernel_rfl) trivial ?_)
         rcases ite_some H with ⟨hx53, H⟩ | ⟨hx53, H⟩
         · refine K_t (by kernel_rfl) (decide_eq_true hx53) ?_
           obtain ⟨hx54, H⟩ := guard_some H
           obtain ⟨x55, hx55, H⟩ := bind_some' H
           obtain ⟨x56, hx56, H⟩ := bind_some' H
           refine K_r [.l [.int .i64 x55], .r (I (imin (imax (w64 ((w64 (x55 * x8)) + x7)) (-1000)) 1000)) [], .l ((x42.2.2.set (0 + x42.1.toNat) (imin (imax (w64 ((w64 (x55 * x8)) + x7)) (-1000)) 1000)).map (D.int .i64))] [(0 : Int) ≤ x42.1 ∧ x42.1 < ((x9 : Nat) : Int), ((x42.2.2.map (D.int .i64)).getD (0 + x42.1.toNat) (.int .i64 0)).cells = [.int .i64 x55], C_T_keep_clip k (w64 ((w64 (x55 * x8)) + x7)) x56, (0 : Int) ≤ x42.1 ∧ x42.1 < ((x9 : Nat) : Int), (x42.2.2.map (D.int .i64)).set (0 + x42.1.toNat) (elemOf (.int .i64 0) (splice ((x42.2.2.map (D.int .i64)).getD (0 + x42.1.toNat) (.int .i64 0)).cells 0 [.int .i64 (imin (imax (w64 ((w64 (x55 * x8)) + x7)) (-1000)) 1000)])) = (x42.2.2.set (0 + x42.1.toNat) (imin (imax (w64 ((w64 (x55 * x8)) + x7)) (-1000)) 1000)).map (D.int .i64)] (by kernel_rfl) (AC hx54 (AC (ld_ok hx55 (D.int .i64) (.int .i64 0)) (AC (T_keep_clip_ok k (w64 ((w64 (x55 * x8)) + x7)) x56 hx56) (AC hx54 (A1 (st_one x42.2.2 (0 + x42.1.toNat) (imin (imax (w64 ((w64 (x55 * x8)) + x7)) (-1000)) 1000) (D.int .i64) (.int .i64 0) rfl (fun _ => rfl) rfl)))))) ?_
           cases H
           exact K_end (by kernel_rfl)
         · refine K_f (by kernel_rfl) (decide_eq_false hx53) ?_
           refine K_seq (K_r [] [] (by kernel_rfl) trivial ?_)
           rcases ite_some H with ⟨hx57, H⟩ | ⟨hx57, H⟩
           · refine K_t (by kernel_rfl) (decide_eq_true hx57) ?_
             obtain ⟨x58, hx58, H⟩ := bind_some' H
             obtain ⟨hx59, H⟩ := guard_some H
             refine K_r [.n p1.length, .l [.int .i64 x58], .l ((x42.2.2.set (0 + x42.1.toNat) x58).map (D.int .i64))] [((p1.map (D.int .i64))).length = p1.length, (0 : Int) ≤ (w64 ((w64 ((p1.length : Int) - 1)) - x42.1)) ∧ (w64 ((w64 ((p1.length : Int) - 1)) - x42.1)) < (((p1.map (D.int .i64))).length : Int), ((p1.map (D.int .i64)).getD (w64 ((w64 ((p1.length : Int) - 1)) - x42.1)).toNat (.int .i64 0)).cells = [.int .i64 x58], (0 : Int) ≤ x42.1 ∧ x42.1 < ((x9 : Nat) : Int), (x42.2.2.map (D.int .i64)).set (0 + x42.1.toNat) (elemOf (.int .i64 0) (splice ((x42.2.2.map (D.int .i64)).getD (0 + x42.1.toNat) (.int .i64 0)).cells 0 [.int .i64 x58])) = (x42.2.2.set (0 + x42.1.toNat) x58).map (D.int .i64)] (by kernel_rfl) (AC (List.length_map _) (AC (at_ok hx58 (D.int .i64) (.int .i64 0)).1 (AC (at_ok hx58 (D.int .i64) (.int .i64 0)).2 (AC hx59 (A1 (st_one x42.2.2 (0 + x42.1.toNat) x58 (D.int .i64) (.int .i64 0) rfl (fun _ => rfl) rfl)))))) ?_
             cases H
             exact K_end (by kernel_rfl)
           · refine K_f (by kernel_rfl) (decide_eq_false hx57) ?_
             refine K_seq (K_r [] [] (by kernel_rfl) trivial ?_)
             rcases ite_some H with ⟨hx60, H⟩ | ⟨hx60, H⟩
             · refine K_t (by kernel_rfl) (decide_eq_true hx60) ?_
               obtain ⟨x61, hx61, H⟩ := bind_some' H
               obtain ⟨x62, hx62, H⟩ := bind_some' H
               obtain ⟨x63, hx63, H⟩ := bind_some' H
               obtain ⟨hx64, H⟩ := guard_some H
               refine K_r [.r (I x61.1) [.cells [cL p2, cI x61.2]], .n p1.length, .r (I x62) [], .l [.int .i64 x63], .l ((x42.2.2.set (0 + x42.1.toNat) x63).map (D.int .i64))] [C_T_keep_Src_Range k (-1) 1 p2 x42.2.1 x61, ((p1.map (D.int .i64))).length = p1.length, C_T_keep_Mod k (w64 (x42.1 + x61.1)) (p1.length : Int) x62, (0 : Int) ≤ x62 ∧ x62 < (((p1.map (D.int .i64))).length : Int), ((p1.map (D.int .i64)).getD x62.toNat (.int .i64 0)).cells = [.int .i64 x63], (0 : Int) ≤ x42.1 ∧ x42.1 < ((x9 : Nat) : Int), (x42.2.2.map (D.int .i64)).set (0 + x42.1.toNat) (elemOf (.int .i64 0) (splice ((x42.2.2.map (D.int .i64)).getD (0 + x42.1.toNat) (.int .i64 0)).cells 0 [.int .i64 x63])) = (x42.2.2.set (0 + x42.1.toNat) x63).map (D.int .i64)] (by kernel_rfl) (AC (T_keep_Src_Range_ok k (-1) 1 p2 x42.2.1 x61 hx61) (AC (List.length_map _) (AC (T_keep_Mod_ok k (w64 (x42.1 + x61.1)) (p1.length : Int) x62 hx62) (AC (at_ok hx63 (D.int .i64) (.int .i64 0)).1 (AC (at_ok hx63 (D.int .i64) (.int .i64 0)).2 (AC hx64 (A1 (st_one x42.2.2 (0 + x42.1.toNat) x63 (D.int .i64) (.int .i64 0) rfl (fun _ => rfl) rfl)))))))) ?_
               cases H
               exact K_end (by kernel_rfl)
             · refine K_f (by kernel_rfl) (decide_eq_false hx60) ?_
               refine K_seq (K_r [] [] (by kernel_rfl) trivial ?_)
               rcases ite_some H with ⟨hx65, H⟩ | ⟨hx65, H⟩
               · refine K_t (by kernel_rfl) (decide_eq_true hx65) ?_
                 obtain ⟨hx66, H⟩ := guard_some H
                 obtain ⟨x67, hx67, H⟩ := bind_some' H
                 obtain ⟨x68, hx68, H⟩ := bind_some' H
                 refine K_r [.l [.int .i64 x67], .r (I (imin (imax (w64 (x7 - (w64 (x67 * x8)))) (-1000)) 1000)) [], .l ((x42.2.2.set (0 + x42.1.toNat) (imin (imax (w64 (x7 - (w64 (x67 * x8)))) (-1000)) 1000)).map (D.int .i64))] [(0 : Int) ≤ x42.1 ∧ x42.1 < ((x9 : Nat) : Int), ((x42.2.2.map (D.int .i64)).getD (0 + x42.1.toNat) (.int .i64 0)).cells = [.int .i64 x67], C_T_keep_clip k (w64 (x7 - (w64 (x67 * x8)))) x68, (0 : Int) ≤ x42.1 ∧ x42.1 < ((x9 : Nat) : Int), (x42.2.2.map (D.int .i64)).set (0 + x42.1.toNat) (elemOf (.int .i64 0) (splice ((x42.2.2.map (D.int .i64)).getD (0 + x42.1.toNat) (.int .i64 0)).cells 0 [.int .i64 (imin (imax (w64 (x7 - (w64 (x67 * x8)))) (-1000)) 1000)])) = (x42.2.2.set (0 + x42.1.toNat) (imin (imax (w64 (x7 - (w64 (x67 * x8)))) (-1000)) 1000)).map (D.int .i64)] (by kernel_rfl) (AC hx66 (AC (ld_ok hx67 (D.int .i64) (.int .i64 0)) (AC (T_keep_clip_ok k (w64 (x7 - (w64 (x67 * x8)))) x68 hx68) (AC hx66 (A1 (st_one x42.2.2 (0 + x42.1.toNat) (imin (imax (w64 (x7 - (w64 (x67 * x8)))) (-1000)) 1000) (D.int .i64) (.int .i64 0) rfl (fun _ => rfl) rfl)))))) ?_
                 cases H
                 exact K_end (by kernel_rfl)
               · refine K_f (by kernel_rfl) (decide_eq_false hx65) ?_
                 refine K_g (by kernel_rfl) ?_
                 refine K_skip ?_
                 cases H
                 exact K_end (by kernel_rfl)
   refine K_blk (K_blk (K_r [] [] (by kernel_rfl) trivial ?_))
   cases H
   exact K_end (by kernel_rfl)
 · refine K_f (by kernel_rfl) (decide_eq_false hx43) ?_
   refine K_g (by kernel_rfl) ?_
   cases H
   exact K_exit0 rfl (by kernel_rfl)
def T_keep_Src_Near (k : Nat) (p1 : List Int) (p2 : List Int) (p3 : Int) : Option ((List Int) × Int) := match k with
 | 0 => none
 | k + 1 => (T_keep_Src_N k 7 p2 p3).bind fun x1 => (T_keep_Src_Range k (-20) 20 p2 x1.2).bind fun x2 => (T_keep_Src_Range k 1 3 p2 x2.2).bind fun x3 => (if 0 + p1.length ≤ LIM then (loopT (T_keep_Src_Near_l1 k p1 p2 x1.1 x2.1 x3.1 (0 + p1.length) (((0 + p1.length) : Nat) : Int)) k (0, x3.2, ((([] : List Int).drop 0).take 0 ++ p1))).bind fun x70 => some (((x70.2.drop 0).take (0 + p1.length)), x70.1) else none)
abbrev C_T_keep_Src_Near (k : Nat) (p1 : List Int) (p2 : List Int) (p3 : Int) (r : (List Int) × Int) : Prop := evF X k n_keep_Src_Near [(Pt 0), (LI p1)] [.cells [cL p2, cI p3]] = some ((LI r.1), [.cells [cL p2, cI r.2]])
theorem T_keep_Src_Near_ok (k : Nat) (p1 : List Int) (p2 : List Int) (p3 : Int) (r : (List Int) × Int) : T_keep_Src_Near k p1 p2 p3 = some r → C_T_keep_Src_Near k p1 p2 p3 r := by
 intro H
 cases k with
 | zero => simp [T_keep_Src_Near] at H
 | succ k =>
  simp only [T_keep_Src_Near] at H
  refine F_in X_keep_Src_Near rfl ?_
  refine K_seq (K_r [] [] (by kernel_rfl) trivial ?_)
  refine K_seq ?_
  obtain ⟨x1, hx1, H⟩ := bind_some' H
  obtain ⟨x2, hx2, H⟩ := bind_some' H
  obtain ⟨x3, hx3, H⟩ := bind_some' H
  refine K_r [.r (I x1.1) [.cells [cL p2, cI x1.2]], .r (I x2.1) [.cells [cL p2, cI x2.2]], .r (I x3.1) [.cells [cL p2, cI x3.2]]] [C_T_keep_Src_N k 7 p2 p3 x1, C_T_keep_Src_Range k (-20) 20 p2 x1.2 x2, C_T_keep_Src_Range k 1 3 p2 x2.2 x3] (by kernel_rfl) (AC (T_keep_Src_N_ok k 7 p2 p3 x1 hx1) (AC (T_keep_Src_Range_ok k (-20) 20 p2 x1.2 x2 hx2) (A1 (T_keep_Src_Range_ok k 1 3 p2 x2.2 x3 hx3)))) ?_
  refine K_seq ?_
  obtain ⟨hx4, H⟩ := guard_some H
  refine K_r [.n p1.length, .l (((([] : List Int).drop 0).take 0 ++ p1).map (D.int .i64))] [(List.all (p1.map (D.int .i64)) fun d => d.cells.length == (D.cells (.int .i64 0)).length) = true, 0 + p1.length ≤ LIM, (p1.map (D.int .i64)).length = p1.length, ((([] : List Int).map (D.int .i64)).drop 0).take 0 ++ (p1.map (D.int .i64)) = ((([] : List Int).drop 0).take 0 ++ p1).map (D.int .i64)] (by kernel_rfl) (AC (all_ok (D.int .i64) 1 p1 (fun _ => rfl)) (AC hx4 (AC (by simp) (A1 (ap_map (D.int .i64) ([] : List Int) p1 0 0))))) ?_
  refine K_seq (K_seq (K_r [] [] (by kernel_rfl) trivial ?_))
  refine K_block (K_conv (σ' := ⟨[(0, (Pt 0)), (1, (LI p1)), (5, (I x1.1)), (6, (I x2.1)), (7, (I x3.1)), (8, (.one (.own 1 0 (0 + p1.length)))), (20, (I (((0 + p1.length) : Nat) : Int))), (21, (I 0))], [.cells [cL p2, cI x3.2], VI ((([] : List Int).drop 0).take 0 ++ p1)]⟩) (by kernel_rfl) ?_)
  obtain ⟨x70, hx70, H⟩ := bind_some' H
  refine K_loop ⟨[(8, (.one (.own 1 0 (0 + p1.length))))], [.cells [cL p2, cI x70.1], VI x70.2]⟩ (loop_ok (fun (s : Int × Int × (List Int)) => ⟨[(0, (Pt 0)), (1, (LI p1)), (5, (I x1.1)), (6, (I x2.1)), (7, (I x3.1)), (8, (.one (.own 1 0 (0 + p1.length)))), (20, (I (((0 + p1.length) : Nat) : Int))), (21, (I s.1))], [.cells [cL p2, cI s.2.1], VI s.2.2]⟩) (fun (r : (Int × (List Int))) => (.exit 0, ⟨[(8, (.one (.own 1 0 (0 + p1.length))))], [.cells [cL p2, cI r.1], VI r.2]⟩)) (fun r h => by cases h) (T_keep_Src_Near_l1_ok k p1 p2 x1.1 x2.1 x3.1 (0 + p1.length) (((0 + p1.length) : Nat) : Int)) k (0, x3.2, ((([] : List Int).drop 0).take 0 ++ p1)) x70 hx70) rfl ?_
  refine K_seq (K_r [] [] (by kernel_rfl) trivial ?_)
  refine K_g (by kernel_rfl) ?_
  cases H
  refine K_ret ?_
  exact Eq.trans (b := some ((.one (.d (.list (((x70.2.map (D.int .i64)).drop 0).take (0 + p1.length))))), [.cells [cL p2, cI x70.1]])) (by kernel_rfl) (by simp only [dt_map, LI, VI])
def T_ref04_Sample (k : Nat) (p1 : Int) : Option Unit := match k with
 | 0 => none
 | k + 1 => some ()
abbrev C_T_ref04_Sample (k : Nat) (p1 : Int) (r : Unit) : Prop := evF X k n_ref04_Sample [(I p1)] [] = some ((B (decide ((-1000) ≤ p1) && decide (p1 ≤ 1000))), [])
theorem T_ref04_Sample_ok (k : Nat) (p1 : Int) (r : Unit) : T_ref04_Sample k p1 = some r → C_T_ref04_Sample k p1 r := by
 intro H
 cases k with
 | zero => simp [T_ref04_Sample] at H
 | succ k =>
  simp only [T_ref04_Sample] at H
  refine F_in X_ref04_Sample rfl ?_
  refine K_seq (K_r [] [] (by kernel_rfl) trivial ?_)
  refine K_seq (K_r [.m] [([] : Heap) = []] (by kernel_rfl) (A1 rfl) ?_)
  refine K_g (by kernel_rfl) ?_
  cases H
  refine K_ret ?_
  kernel_rfl
def T_ref17_Check (k : Nat) (p1 : Int) (p2 : Int) (p3 : Int) : Option Int := match k with
 | 0 => none
 | k + 1 => (((if ((((decide (p1 < 1) || decide (5 < p1)) || decide (p2 < 0)) || decide (32 < p2)) || ((!decide (p1 = 4)) && (!decide (p2 = 0)))) = true then some true else ((T_ref04_Sample k p3).bind fun x3 => some ((!(decide ((-1000) ≤ p3) && decide (p3 ≤ 1000))) || ((!decide (p1 = 5)) && (!decide (p3 = 0))))))).bind fun x4 => (if x4 = true then some 9 else some 0))
abbrev C_T_ref17_Check (k : Nat) (p1 : Int) (p2 : Int) (p3 : Int) (r : Int) : Prop := evF X k n_ref17_Check [(.agg [cI p1, cI p2, cI p3])] [] = some ((I r), [])
theorem T_ref17_Check_ok (k : Nat) (p1 : Int) (p2 : Int) (p3 : Int) (r : Int) : T_ref17_Check k p1 p2 p3 = some r → C_T_ref17_Check k p1 p2 p3 r := by
 intro H
 cases k with
 | zero => simp [T_ref17_Check] at H
 | succ k =>
  simp only [T_ref17_Check] at H
  refine F_in X_ref17_Check rfl ?_
  refine K_seq (K_r [] [] (by kernel_rfl) trivial ?_)
  refine K_seq ?_
  refine K_seq ?_
  obtain ⟨x4, hx4, H⟩ := bind_some' H
  refine K_of ⟨[(46, (B x4))], []⟩ ?_ ?_
  · clear H; have H := hx4; clear hx4; refine K_in ?_
    rcases ite_some H with ⟨hx2, H⟩ | ⟨hx2, H⟩
    · refine K_r [.m, .m, .m, .m, .m, .b true, .b true] ((fun (z1 : Heap) => [z1 = z1, z1 = z1, z1 = z1, (((decide (p1 < 1) || decide (5 < p1)) || decide (p2 < 0)) || decide (32 < p2)) = false → AllT [z1 = z1], z1 = z1, ((((decide (p1 < 1) || decide (5 < p1)) || decide (p2 < 0)) || decide (32 < p2)) || ((!decide (p1 = 4)) && (!decide (p2 = 0)))) = true, true = true]) [.cells [cI p1, cI p2, cI p3]]) (by kernel_rfl) (AC rfl (AC rfl (AC rfl (AC (fun _ => (A1 rfl)) (AC rfl (AC hx2 (A1 rfl))))))) ?_
      cases H
      exact K_end (by kernel_rfl)
    · obtain ⟨x3, hx3, H⟩ := bind_some' H
      refine K_r [.m, .m, .m, .m, .m, .b false, .r (B (decide ((-1000) ≤ p3) && decide (p3 ≤ 1000))) [], .m, .m] ((fun (z1 : Heap) => [z1 = z1, z1 = z1, z1 = z1, (((decide (p1 < 1) || decide (5 < p1)) || decide (p2 < 0)) || decide (32 < p2)) = false → AllT [z1 = z1], z1 = z1, ((((decide (p1 < 1) || decide (5 < p1)) || decide (p2 < 0)) || decide (32 < p2)) || ((!decide (p1 = 4)) && (!decide (p2 = 0)))) = false, C_T_ref04_Sample k p3 x3, (!(decide ((-1000) ≤ p3) && decide (p3 ≤ 1000))) = false → AllT [z1 = z1], z1 = z1]) [.cells [cI p1, cI p2, cI p3]]) (by kernel_rfl) (AC rfl (AC rfl (AC rfl (AC (fun _ => (A1 rfl)) (AC rfl (AC (Bool.eq_false_iff.2 hx2) (AC (T_ref04_Sample_ok k p3 x3 hx3) (AC (fun _ => (A1 rfl)) (A1 rfl))))))))) ?_
      cases H
      exact K_end (by kernel_rfl)
  rcases ite_some H with ⟨hx5, H⟩ | ⟨hx5, H⟩
  · refine K_t (by kernel_rfl) hx5 ?_
    refine K_seq (K_r [] [] (by kernel_rfl) trivial ?_)
    refine K_g (by kernel_rfl) ?_
    cases H
    refine K_ret ?_
    kernel_rfl
  · refine K_f (by kernel_rfl) (Bool.eq_false_iff.2 hx5) ?_
    refine K_g (by kernel_rfl) ?_
    refine K_skip (K_seq (K_r [] [] (by kernel_rfl) trivial ?_))
    refine K_g (by kernel_rfl) ?_
    cases H
    refine K_ret ?_
    kernel_rfl
def T_ref19_Check_l1 (k : Nat) (p1 : Int) (p2 : Int) (x3 : Int) (p3 : Int) (p4 : Int) (p5 : Int) (p6 : List Int) (x20 : Int) : Option (Int ⊕ (Unit ⊕ Unit)) :=
 (if x20 < x3 then ((((at? p6 x20).bind fun x22 => (if (decide (x22 < (-2000)) || decide (2000 < x22)) = true then some true else (if 0 < x20 then ((at? p6 (w64 (x20 - 1))).bind fun x27 => some (decide (x22 ≤ x27))) else some false)))).bind fun x28 => (if x28 = true then some (.inr (.inr ())) else some (.inl (w64 (x20 + 1))))) else some (.inr (.inl ())))
theorem T_ref19_Check_l1_ok (k : Nat) (p1 : Int) (p2 : Int) (x3 : Int) (p3 : Int) (p4 : Int) (p5 : Int) (p6 : List Int) : ∀ (x20 : Int) (x : Int ⊕ (Unit ⊕ Unit)), T_ref19_Check_l1 k p1 p2 x3 p3 p4 p5 p6 x20 = some x → evC X (evF X k) k 0 l_ref19_Check_1 ⟨[(1, (Pt 0)), (43, (I x3)), (44, (I x20))], [.cells [cI p1, cI p2, cI p3, cI p4, cI p5, cL p6]]⟩ = some (outS (fun (s : Int) => ⟨[(1, (Pt 0)), (43, (I x3)), (44, (I s))], [.cells [cI p1, cI p2, cI p3, cI p4, cI p5, cL p6]]⟩) (fun (r : Unit ⊕ Unit) => Sum.elim (fun y => (.exit 0, ⟨[], []⟩)) (fun y => (.ret, ⟨[(2, (I 10))], []⟩)) r) x) := by
 intro x20 x H
 unfold T_ref19_Check_l1 at H
 refine K_in ?_
 refine K_seq (K_r [] [] (by kernel_rfl) trivial ?_)
 refine K_seq ?_
 rcases ite_some H with ⟨hx21, H⟩ | ⟨hx21, H⟩
 · refine K_t (by kernel_rfl) (decide_eq_true hx21) ?_
   refine K_g (by kernel_rfl) ?_
   refine K_skip (K_seq (K_block (K_seq (K_r [] [] (by kernel_rfl) trivial ?_))))
   refine K_seq ?_
   obtain ⟨x28, hx28, H⟩ := bind_some' H
   refine K_of ⟨[(1, (Pt 0)), (43, (I x3)), (44, (I x20)), (78, (B x28))], [.cells [cI p1, cI p2, cI p3, cI p4, cI p5, cL p6]]⟩ ?_ ?_
   · clear H; have H := hx28; clear hx28; refine K_in ?_
     obtain ⟨x22, hx22, H⟩ := bind_some' H
     rcases ite_some H with ⟨hx24, H⟩ | ⟨hx24, H⟩
     · refine K_r [.l [.int .i64 x22], .m, .l [.int .i64 x22], .b true] ((fun (z1 : Heap) => [(0 : Int) ≤ x20 ∧ x20 < (((p6.map (D.int .i64))).length : Int), ((p6.map (D.int .i64)).getD x20.toNat (.int .i64 0)).cells = [.int .i64 x22], decide (x22 < (-2000)) = false → AllT [(0 : Int) ≤ x20 ∧ x20 < (((p6.map (D.int .i64))).length : Int), ((p6.map (D.int .i64)).getD x20.toNat (.int .i64 0)).cells = [.int .i64 x22]], z1 = z1, (decide (x22 < (-2000)) || decide (2000 < x22)) = true]) [.cells [cI p1, cI p2, cI p3, cI p4, cI p5, cL p6]]) (by kernel_rfl) (AC (at_ok hx22 (D.int .i64) (.int .i64 0)).1 (AC (at_ok hx22 (D.int .i64) (.int .i64 0)).2 (AC (fun _ => (AC (at_ok hx22 (D.int .i64) (.int .i64 0)).1 (A1 (at_ok hx22 (D.int .i64) (.int .i64 0)).2))) (AC rfl (A1 hx24))))) ?_
       cases H
       exact K_end (by kernel_rfl)
     · rcases ite_some H with ⟨hx26, H⟩ | ⟨hx26, H⟩
       · obtain ⟨x27, hx27, H⟩ := bind_some' H
         refine K_r [.l [.int .i64 x22], .m, .l [.int .i64 x22], .b false, .b true, .l [.int .i64 x22], .l [.int .i64 x27]] ((fun (z1 : Heap) => [(0 : Int) ≤ x20 ∧ x20 < (((p6.map (D.int .i64))).length : Int), ((p6.map (D.int .i64)).getD x20.toNat (.int .i64 0)).cells = [.int .i64 x22], decide (x22 < (-2000)) = false → AllT [(0 : Int) ≤ x20 ∧ x20 < (((p6.map (D.int .i64))).length : Int), ((p6.map (D.int .i64)).getD x20.toNat (.int .i64 0)).cells = [.int .i64 x22]], z1 = z1, (decide (x22 < (-2000)) || decide (2000 < x22)) = false, decide (0 < x20) = true, (0 : Int) ≤ x20 ∧ x20 < (((p6.map (D.int .i64))).length : Int), ((p6.map (D.int .i64)).getD x20.toNat (.int .i64 0)).cells = [.int .i64 x22], (0 : Int) ≤ (w64 (x20 - 1)) ∧ (w64 (x20 - 1)) < (((p6.map (D.int .i64))).length : Int), ((p6.map (D.int .i64)).getD (w64 (x20 - 1)).toNat (.int .i64 0)).cells = [.int .i64 x27]]) [.cells [cI p1, cI p2, cI p3, cI p4, cI p5, cL p6]]) (by kernel_rfl) (AC (at_ok hx22 (D.int .i64) (.int .i64 0)).1 (AC (at_ok hx22 (D.int .i64) (.int .i64 0)).2 (AC (fun _ => (AC (at_ok hx22 (D.int .i64) (.int .i64 0)).1 (A1 (at_ok hx22 (D.int .i64) (.int .i64 0)).2))) (AC rfl (AC (Bool.eq_false_iff.2 hx24) (AC (decide_eq_true hx26) (AC (at_ok hx22 (D.int .i64) (.int .i64 0)).1 (AC (at_ok hx22 (D.int .i64) (.int .i64 0)).2 (AC (at_ok hx27 (D.int .i64) (.int .i64 0)).1 (A1 (at_ok hx27 (D.int .i64) (.int .i64 0)).2)))))))))) ?_
         cases H
         exact K_end (by kernel_rfl)
       · refine K_r [.l [.int .i64 x22], .m, .l [.int .i64 x22], .b false, .b false] ((fun (z1 : Heap) => [(0 : Int) ≤ x20 ∧ x20 < (((p6.map (D.int .i64))).length : Int), ((p6.map (D.int .i64)).getD x20.toNat (.int .i64 0)).cells = [.int .i64 x22], decide (x22 < (-2000)) = false → AllT [(0 : Int) ≤ x20 ∧ x20 < (((p6.map (D.int .i64))).length : Int), ((p6.map (D.int .i64)).getD x20.toNat (.int .i64 0)).cells = [.int .i64 x22]], z1 = z1, (decide (x22 < (-2000)) || decide (2000 < x22)) = false, decide (0 < x20) = false]) [.cells [cI p1, cI p2, cI p3, cI p4, cI p5, cL p6]]) (by kernel_rfl) (AC (at_ok hx22 (D.int .i64) (.int .i64 0)).1 (AC (at_ok hx22 (D.int .i64) (.int .i64 0)).2 (AC (fun _ => (AC (at_ok hx22 (D.int .i64) (.int .i64 0)).1 (A1 (at_ok hx22 (D.int .i64) (.int .i64 0)).2))) (AC rfl (AC (Bool.eq_false_iff.2 hx24) (A1 (decide_eq_false hx26))))))) ?_
         cases H
         exact K_end (by kernel_rfl)
   rcases ite_some H with ⟨hx29, H⟩ | ⟨hx29, H⟩
   · refine K_t (by kernel_rfl) hx29 ?_
     refine K_seq (K_r [] [] (by kernel_rfl) trivial ?_)
     refine K_g (by kernel_rfl) ?_
     cases H
     exact K_ret (by kernel_rfl)
   · refine K_f (by kernel_rfl) (Bool.eq_false_iff.2 hx29) ?_
     refine K_g (by kernel_rfl) ?_
     refine K_skip (K_blk (K_r [] [] (by kernel_rfl) trivial ?_))
     cases H
     exact K_end (by kernel_rfl)
 · refine K_f (by kernel_rfl) (decide_eq_false hx21) ?_
   refine K_g (by kernel_rfl) ?_
   cases H
   exact K_exit0 rfl (by kernel_rfl)
def T_ref19_Check (k : Nat) (p1 : Int) (p2 : Int) (p3 : Int) (p4 : Int) (p5 : Int) (p6 : List Int) : Option Int := match k with
 | 0 => none
 | k + 1 => ((T_ref17_Check k p1 p2 p3).bind fun x1 => (if (((((((!decide (x1 = 0)) || decide (p4 < 2)) || decide (32 < p4)) || decide (p5 < 1)) || decide (8 < p5)) || decide (p4 < p5)) || decide (15 < (p6.length : Int))) = true then some 10 else ((loopT (T_ref19_Check_l1 k p1 p2 (p6.length : Int) p3 p4 p5 p6) k 0).bind fun x30 => (match x30 with | .inl x31 => some 0 | .inr x32 => some 10))))
abbrev C_T_ref19_Check (k : Nat) (p1 : Int) (p2 : Int) (p3 : Int) (p4 : Int) (p5 : Int) (p6 : List Int) (r : Int) : Prop := evF X k n_ref19_Check [(.agg [cI p1, cI p2, cI p3, cI p4, cI p5, cL p6])] [] = some ((I r), [])
theorem T_ref19_Check_ok (k : Nat) (p1 : Int) (p2 : Int) (p3 : Int) (p4 : Int) (p5 : Int) (p6 : List Int) (r : Int) : T_ref19_Check k p1 p2 p3 p4 p5 p6 = some r → C_T_ref19_Check k p1 p2 p3 p4 p5 p6 r := by
 intro H
 cases k with
 | zero => simp [T_ref19_Check] at H
 | succ k =>
  simp only [T_ref19_Check] at H
  refine F_in X_ref19_Check rfl ?_
  refine K_seq (K_r [] [] (by kernel_rfl) trivial ?_)
  refine K_seq ?_
  refine K_seq ?_
  obtain ⟨x1, hx1, H⟩ := bind_some' H
  refine K_r [.r (I x1) [], .m, .m, .m, .m, .m, .m, .n p6.length] ((fun (z1 : Heap) => [C_T_ref17_Check k p1 p2 p3 x1, z1 = z1, z1 = z1, z1 = z1, z1 = z1, z1 = z1, ((((((!decide (x1 = 0)) || decide (p4 < 2)) || decide (32 < p4)) || decide (p5 < 1)) || decide (8 < p5)) || decide (p4 < p5)) = false → AllT [((p6.map (D.int .i64))).length = p6.length], z1 = z1]) [.cells [cI p1, cI p2, cI p3, cI p4, cI p5, cL p6]]) (by kernel_rfl) (AC (T_ref17_Check_ok k p1 p2 p3 x1 hx1) (AC rfl (AC rfl (AC rfl (AC rfl (AC rfl (AC (fun _ => (A1 (List.length_map _))) (A1 rfl)))))))) ?_
  rcases ite_some H with ⟨hx2, H⟩ | ⟨hx2, H⟩
  · refine K_t (by kernel_rfl) hx2 ?_
    refine K_seq (K_r [] [] (by kernel_rfl) trivial ?_)
    refine K_g (by kernel_rfl) ?_
    cases H
    refine K_ret ?_
    kernel_rfl
  · refine K_f (by kernel_rfl) (Bool.eq_false_iff.2 hx2) ?_
    refine K_g (by kernel_rfl) ?_
    refine K_skip (K_seq (K_seq (K_r [.n p6.length] [((p6.map (D.int .i64))).length = p6.length] (by kernel_rfl) (A1 (List.length_map _)) ?_)))
    refine K_block (K_conv (σ' := ⟨[(1, (Pt 0)), (43, (I (p6.length : Int))), (44, (I 0))], [.cells [cI p1, cI p2, cI p3, cI p4, cI p5, cL p6]]⟩) (by kernel_rfl) ?_)
    obtain ⟨x30, hx30, H⟩ := bind_some' H
    cases x30 with
    | inl x31 =>
     dsimp only at H
     refine K_loop ⟨[], []⟩ (loop_ok (fun (s : Int) => ⟨[(1, (Pt 0)), (43, (I (p6.length : Int))), (44, (I s))], [.cells [cI p1, cI p2, cI p3, cI p4, cI p5, cL p6]]⟩) (fun (r : Unit ⊕ Unit) => Sum.elim (fun y => (.exit 0, ⟨[], []⟩)) (fun y => (.ret, ⟨[(2, (I 10))], []⟩)) r) (fun r h => by cases r <;> cases h) (T_ref19_Check_l1_ok k p1 p2 (p6.length : Int) p3 p4 p5 p6) k 0 (.inl x31) hx30) rfl ?_
     refine K_seq (K_r [] [] (by kernel_rfl) trivial ?_)
     refine K_g (by kernel_rfl) ?_
     cases H
     refine K_ret ?_
     kernel_rfl
    | inr x32 =>
     dsimp only at H
     cases H
     refine K_loopr ⟨[(2, (I 10))], []⟩ (loop_ok (fun (s : Int) => ⟨[(1, (Pt 0)), (43, (I (p6.length : Int))), (44, (I s))], [.cells [cI p1, cI p2, cI p3, cI p4, cI p5, cL p6]]⟩) (fun (r : Unit ⊕ Unit) => Sum.elim (fun y => (.exit 0, ⟨[], []⟩)) (fun y => (.ret, ⟨[(2, (I 10))], []⟩)) r) (fun r h => by cases r <;> cases h) (T_ref19_Check_l1_ok k p1 p2 (p6.length : Int) p3 p4 p5 p6) k 0 (.inr x32) hx30) ?_
     kernel_rfl
def T_ref12_Samples_l1 (k : Nat) (p1 : List Int) (x2 : Int) (x8 : Int) : Option (Int ⊕ (Unit ⊕ Unit)) :=
 (if x8 < x2 then ((at? p1 x8).bind fun x10 => (T_ref04_Sample k x10).bind fun x11 => (if (!(decide ((-1000) ≤ x10) && decide (x10 ≤ 1000))) = true then some (.inr (.inr ())) else some (.inl (w64 (x8 + 1))))) else some (.inr (.inl ())))
theorem T_ref12_Samples_l1_ok (k : Nat) (p1 : List Int) (x2 : Int) : ∀ (x8 : Int) (x : Int ⊕ (Unit ⊕ Unit)), T_ref12_Samples_l1 k p1 x2 x8 = some x → evC X (evF X k) k 0 l_ref12_Samples_1 ⟨[(0, (LI p1)), (5, (I x2)), (6, (I x8))], []⟩ = some (outS (fun (s : Int) => ⟨[(0, (LI p1)), (5, (I x2)), (6, (I s))], []⟩) (fun (r : Unit ⊕ Unit) => Sum.elim (fun y => (.exit 0, ⟨[], []⟩)) (fun y => (.ret, ⟨[(2, (I 12))], []⟩)) r) x) := by
 intro x8 x H
 unfold T_ref12_Samples_l1 at H
 refine K_in ?_
 refine K_seq (K_r [] [] (by kernel_rfl) trivial ?_)
 refine K_seq ?_
 rcases ite_some H with ⟨hx9, H⟩ | ⟨hx9, H⟩
 · refine K_t (by kernel_rfl) (decide_eq_true hx9) ?_
   refine K_g (by kernel_rfl) ?_
   refine K_skip (K_seq (K_block (K_seq (K_r [] [] (by kernel_rfl) trivial ?_))))
   refine K_seq ?_
   obtain ⟨x10, hx10, H⟩ := bind_some' H
   obtain ⟨x11, hx11, H⟩ := bind_some' H
   refine K_r [.l [.int .i64 x10], .r (B (decide ((-1000) ≤ x10) && decide (x10 ≤ 1000))) []] [(0 : Int) ≤ x8 ∧ x8 < (((p1.map (D.int .i64))).length : Int), ((p1.map (D.int .i64)).getD x8.toNat (.int .i64 0)).cells = [.int .i64 x10], C_T_ref04_Sample k x10 x11] (by kernel_rfl) (AC (at_ok hx10 (D.int .i64) (.int .i64 0)).1 (AC (at_ok hx10 (D.int .i64) (.int .i64 0)).2 (A1 (T_ref04_Sample_ok k x10 x11 hx11)))) ?_
   rcases ite_some H with ⟨hx12, H⟩ | ⟨hx12, H⟩
   · refine K_t (by kernel_rfl) hx12 ?_
     refine K_seq (K_r [] [] (by kernel_rfl) trivial ?_)
     refine K_g (by kernel_rfl) ?_
     cases H
     exact K_ret (by kernel_rfl)
   · refine K_f (by kernel_rfl) (Bool.eq_false_iff.2 hx12) ?_
     refine K_g (by kernel_rfl) ?_
     refine K_skip (K_blk (K_r [] [] (by kernel_rfl) trivial ?_))
     cases H
     exact K_end (by kernel_rfl)
 · refine K_f (by kernel_rfl) (decide_eq_false hx9) ?_
   refine K_g (by kernel_rfl) ?_
   cases H
   exact K_exit0 rfl (by kernel_rfl)
def T_ref12_Samples (k : Nat) (p1 : List Int) : Option Int := match k with
 | 0 => none
 | k + 1 => ((loopT (T_ref12_Samples_l1 k p1 (p1.length : Int)) k 0).bind fun x13 => (match x13 with | .inl x14 => some 0 | .inr x15 => some 12))
abbrev C_T_ref12_Samples (k : Nat) (p1 : List Int) (r : Int) : Prop := evF X k n_ref12_Samples [(LI p1)] [] = some ((I r), [])
theorem T_ref12_Samples_ok (k : Nat) (p1 : List Int) (r : Int) : T_ref12_Samples k p1 = some r → C_T_ref12_Samples k p1 r := by
 intro H
 cases k with
 | zero => simp [T_ref12_Samples] at H
 | succ k =>
  simp only [T_ref12_Samples] at H
  refine F_in X_ref12_Samples rfl ?_
  refine K_seq (K_r [] [] (by kernel_rfl) trivial ?_)
  refine K_seq (K_seq (K_r [.n p1.length] [((p1.map (D.int .i64))).length = p1.length] (by kernel_rfl) (A1 (List.length_map _)) ?_))
  refine K_block (K_conv (σ' := ⟨[(0, (LI p1)), (5, (I (p1.length : Int))), (6, (I 0))], []⟩) (by kernel_rfl) ?_)
  obtain ⟨x13, hx13, H⟩ := bind_some' H
  cases x13 with
  | inl x14 =>
   dsimp only at H
   refine K_loop ⟨[], []⟩ (loop_ok (fun (s : Int) => ⟨[(0, (LI p1)), (5, (I (p1.length : Int))), (6, (I s))], []⟩) (fun (r : Unit ⊕ Unit) => Sum.elim (fun y => (.exit 0, ⟨[], []⟩)) (fun y => (.ret, ⟨[(2, (I 12))], []⟩)) r) (fun r h => by cases r <;> cases h) (T_ref12_Samples_l1_ok k p1 (p1.length : Int)) k 0 (.inl x14) hx13) rfl ?_
   refine K_seq (K_r [] [] (by kernel_rfl) trivial ?_)
   refine K_g (by kernel_rfl) ?_
   cases H
   refine K_ret ?_
   kernel_rfl
  | inr x15 =>
   dsimp only at H
   cases H
   refine K_loopr ⟨[(2, (I 12))], []⟩ (loop_ok (fun (s : Int) => ⟨[(0, (LI p1)), (5, (I (p1.length : Int))), (6, (I s))], []⟩) (fun (r : Unit ⊕ Unit) => Sum.elim (fun y => (.exit 0, ⟨[], []⟩)) (fun y => (.ret, ⟨[(2, (I 12))], []⟩)) r) (fun r h => by cases r <;> cases h) (T_ref12_Samples_l1_ok k p1 (p1.length : Int)) k 0 (.inr x15) hx13) ?_
   kernel_rfl
def T_ref19_Fits (k : Nat) (p1 : Int) (p2 : Int) (p3 : Int) (p4 : Int) (p5 : Int) (p6 : List Int) (p7 : List Int) : Option Int := match k with
 | 0 => none
 | k + 1 => ((T_ref19_Check k p1 p2 p3 p4 p5 p6).bind fun x1 => (if (!decide (x1 = 0)) = true then some x1 else (if (!decide ((p7.length : Int) = p4)) = true then some 8 else ((T_ref12_Samples k p7).bind fun x4 => some x4))))
abbrev C_T_ref19_Fits (k : Nat) (p1 : Int) (p2 : Int) (p3 : Int) (p4 : Int) (p5 : Int) (p6 : List Int) (p7 : List Int) (r : Int) : Prop := evF X k n_ref19_Fits [(.agg [cI p1, cI p2, cI p3, cI p4, cI p5, cL p6]), (LI p7)] [] = some ((I r), [])
theorem T_ref19_Fits_ok (k : Nat) (p1 : Int) (p2 : Int) (p3 : Int) (p4 : Int) (p5 : Int) (p6 : List Int) (p7 : List Int) (r : Int) : T_ref19_Fits k p1 p2 p3 p4 p5 p6 p7 = some r → C_T_ref19_Fits k p1 p2 p3 p4 p5 p6 p7 r := by
 intro H
 cases k with
 | zero => simp [T_ref19_Fits] at H
 | succ k =>
  simp only [T_ref19_Fits] at H
  refine F_in X_ref19_Fits rfl ?_
  refine K_seq (K_r [] [] (by kernel_rfl) trivial ?_)
  refine K_seq ?_
  refine K_seq ?_
  obtain ⟨x1, hx1, H⟩ := bind_some' H
  refine K_r [.r (I x1) []] [C_T_ref19_Check k p1 p2 p3 p4 p5 p6 x1] (by kernel_rfl) (A1 (T_ref19_Check_ok k p1 p2 p3 p4 p5 p6 x1 hx1)) ?_
  refine K_seq (K_r [] [] (by kernel_rfl) trivial ?_)
  rcases ite_some H with ⟨hx2, H⟩ | ⟨hx2, H⟩
  · refine K_t (by kernel_rfl) hx2 ?_
    refine K_seq (K_r [] [] (by kernel_rfl) trivial ?_)
    refine K_g (by kernel_rfl) ?_
    cases H
    refine K_ret ?_
    kernel_rfl
  · refine K_f (by kernel_rfl) (Bool.eq_false_iff.2 hx2) ?_
    refine K_g (by kernel_rfl) ?_
    refine K_skip (K_seq (K_seq (K_r [.n p7.length] [((p7.map (D.int .i64))).length = p7.length] (by kernel_rfl) (A1 (List.length_map _)) ?_)))
    rcases ite_some H with ⟨hx3, H⟩ | ⟨hx3, H⟩
    · refine K_t (by kernel_rfl) hx3 ?_
      refine K_seq (K_r [] [] (by kernel_rfl) trivial ?_)
      refine K_g (by kernel_rfl) ?_
      cases H
      refine K_ret ?_
      kernel_rfl
    · refine K_f (by kernel_rfl) (Bool.eq_false_iff.2 hx3) ?_
      refine K_g (by kernel_rfl) ?_
      refine K_skip ?_
      refine K_seq ?_
      obtain ⟨x4, hx4, H⟩ := bind_some' H
      refine K_r [.r (I x4) []] [C_T_ref12_Samples k p7 x4] (by kernel_rfl) (A1 (T_ref12_Samples_ok k p7 x4 hx4)) ?_
      refine K_g (by kernel_rfl) ?_
      cases H
      refine K_ret ?_
      kernel_rfl
def T_ref18_Starts_l1 (k : Nat) (p1 : Int) (p2 : Int) (x11 : Nat × Int × (List Int)) : Option ((Nat × Int × (List Int)) ⊕ ((Nat × (List Int)))) :=
 (if x11.2.1 ≤ p2 then (if p2 ≠ 0 then (if x11.1 + 1 ≤ LIM then some (.inl ((x11.1 + 1), (w64 (x11.2.1 + 1)), ((x11.2.2.drop 0).take x11.1 ++ ([(w64 ((w64 (x11.2.1 * p1)).tdiv p2))] : List Int)))) else none) else none) else some (.inr (x11.1, x11.2.2)))
theorem T_ref18_Starts_l1_ok (k : Nat) (p1 : Int) (p2 : Int) : ∀ (x11 : Nat × Int × (List Int)) (x : (Nat × Int × (List Int)) ⊕ ((Nat × (List Int)))), T_ref18_Starts_l1 k p1 p2 x11 = some x → evC X (evF X k) k 0 l_ref18_Starts_1 ⟨[(0, (I p1)), (1, (I p2)), (6, (.one (.own 0 0 x11.1))), (7, (I x11.2.1))], [VI x11.2.2]⟩ = some (outS (fun (s : Nat × Int × (List Int)) => ⟨[(0, (I p1)), (1, (I p2)), (6, (.one (.own 0 0 s.1))), (7, (I s.2.1))], [VI s.2.2]⟩) (fun (r : (Nat × (List Int))) => (.exit 0, ⟨[(6, (.one (.own 0 0 r.1)))], [VI r.2]⟩)) x) := by
 intro x11 x H
 unfold T_ref18_Starts_l1 at H
 refine K_in ?_
 refine K_seq (K_seq (K_r [] [] (by kernel_rfl) trivial ?_))
 rcases ite_some H with ⟨hx12, H⟩ | ⟨hx12, H⟩
 · refine K_t (by kernel_rfl) (decide_eq_true hx12) ?_
   refine K_g (by kernel_rfl) ?_
   refine K_skip ?_
   refine K_seq ?_
   refine K_block ?_
   obtain ⟨hx13, H⟩ := guard_some H
   obtain ⟨hx14, H⟩ := guard_some H
   refine K_r [.n 1, .l (((x11.2.2.drop 0).take x11.1 ++ ([(w64 ((w64 (x11.2.1 * p1)).tdiv p2))] : List Int)).map (D.int .i64))] [p2 ≠ (0 : Int), (List.all (([(w64 ((w64 (x11.2.1 * p1)).tdiv p2))] : List Int).map (D.int .i64)) fun d => d.cells.length == (D.cells (.int .i64 0)).length) = true, x11.1 + 1 ≤ LIM, (([(w64 ((w64 (x11.2.1 * p1)).tdiv p2))] : List Int).map (D.int .i64)).length = 1, ((x11.2.2.map (D.int .i64)).drop 0).take x11.1 ++ (([(w64 ((w64 (x11.2.1 * p1)).tdiv p2))] : List Int).map (D.int .i64)) = ((x11.2.2.drop 0).take x11.1 ++ ([(w64 ((w64 (x11.2.1 * p1)).tdiv p2))] : List Int)).map (D.int .i64)] (by kernel_rfl) (AC hx13 (AC (all_ok (D.int .i64) 1 ([(w64 ((w64 (x11.2.1 * p1)).tdiv p2))] : List Int) (fun _ => rfl)) (AC hx14 (AC (by simp) (A1 (ap_map (D.int .i64) x11.2.2 ([(w64 ((w64 (x11.2.1 * p1)).tdiv p2))] : List Int) 0 x11.1)))))) ?_
   refine K_blk (K_r [] [] (by kernel_rfl) trivial ?_)
   cases H
   exact K_end (by kernel_rfl)
 · refine K_f (by kernel_rfl) (decide_eq_false hx12) ?_
   refine K_g (by kernel_rfl) ?_
   cases H
   exact K_exit0 rfl (by kernel_rfl)
def T_ref18_Starts (k : Nat) (p1 : Int) (p2 : Int) : Option ((List Int) × Int) := match k with
 | 0 => none
 | k + 1 => (if (decide (p1 < 2) || decide (32 < p1)) = true then some ([], 8) else (if ((decide (p2 < 1) || decide (8 < p2)) || decide (p1 < p2)) = true then some ([], 1) else ((loopT (T_ref18_Starts_l1 k p1 p2) k (0, 0, [])).bind fun x15 => some (((x15.2.drop 0).take x15.1), 0))))
abbrev C_T_ref18_Starts (k : Nat) (p1 : Int) (p2 : Int) (r : (List Int) × Int) : Prop := evF X k n_ref18_Starts [(I p1), (I p2)] [] = some ((.tup [(false, [cL r.1]), (false, [cI r.2])]), [])
theorem T_ref18_Starts_ok (k : Nat) (p1 : Int) (p2 : Int) (r : (List Int) × Int) : T_ref18_Starts k p1 p2 = some r → C_T_ref18_Starts k p1 p2 r := by
 intro H
 cases k with
 | zero => simp [T_ref18_Starts] at H
 | succ k =>
  simp only [T_ref18_Starts] at H
  refine F_in X_ref18_Starts rfl ?_
  refine K_seq (K_r [] [] (by kernel_rfl) trivial ?_)
  refine K_seq (K_seq (K_r [.m] [([] : Heap) = []] (by kernel_rfl) (A1 rfl) ?_))
  rcases ite_some H with ⟨hx1, H⟩ | ⟨hx1, H⟩
  · refine K_t (by kernel_rfl) hx1 ?_
    refine K_seq (K_r [] [] (by kernel_rfl) trivial ?_)
    refine K_g (by kernel_rfl) ?_
    cases H
    refine K_ret ?_
    kernel_rfl
  · refine K_f (by kernel_rfl) (Bool.eq_false_iff.2 hx1) ?_
    refine K_g (by kernel_rfl) ?_
    refine K_skip (K_seq (K_seq (K_r [.m, .m] [([] : Heap) = [], ([] : Heap) = []] (by kernel_rfl) (AC rfl (A1 rfl)) ?_)))
    rcases ite_some H with ⟨hx2, H⟩ | ⟨hx2, H⟩
    · refine K_t (by kernel_rfl) hx2 ?_
      refine K_seq (K_r [] [] (by kernel_rfl) trivial ?_)
      refine K_g (by kernel_rfl) ?_
      cases H
      refine K_ret ?_
      kernel_rfl
    · refine K_f (by kernel_rfl) (Bool.eq_false_iff.2 hx2) ?_
      refine K_g (by kernel_rfl) ?_
      refine K_skip (K_seq (K_r [] [] (by kernel_rfl) trivial ?_))
      refine K_seq (K_seq (K_r [] [] (by kernel_rfl) trivial ?_))
      refine K_block (K_g (by kernel_rfl) ?_)
      refine K_conv (σ' := ⟨[(0, (I p1)), (1, (I p2)), (6, (.one (.own 0 0 0))), (7, (I 0))], [VI []]⟩) (by kernel_rfl) ?_
      obtain ⟨x15, hx15, H⟩ := bind_some' H
      refine K_loop ⟨[(6, (.one (.own 0 0 x15.1)))], [VI x15.2]⟩ (loop_ok (fun (s : Nat × Int × (List Int)) => ⟨[(0, (I p1)), (1, (I p2)), (6, (.one (.own 0 0 s.1))), (7, (I s.2.1))], [VI s.2.2]⟩) (fun (r : (Nat × (List Int))) => (.exit 0, ⟨[(6, (.one (.own 0 0 r.1)))], [VI r.2]⟩)) (fun r h => by cases h) (T_ref18_Starts_l1_ok k p1 p2) k (0, 0, []) x15 hx15) rfl ?_
      refine K_seq (K_r [] [] (by kernel_rfl) trivial ?_)
      refine K_g (by kernel_rfl) ?_
      cases H
      refine K_ret ?_
      exact Eq.trans (b := some ((.tup [(false, [.d (.list (((x15.2.map (D.int .i64)).drop 0).take x15.1))]), (false, [cI 0])]), [])) (by kernel_rfl) (by simp only [dt_map, LI, VI])
def T_ref12_Window (k : Nat) (p1 : List Int) : Option Int := match k with
 | 0 => none
 | k + 1 => (if (decide ((p1.length : Int) < 2) || decide (32 < (p1.length : Int))) = true then some 8 else ((T_ref12_Samples k p1).bind fun x2 => some x2))
abbrev C_T_ref12_Window (k : Nat) (p1 : List Int) (r : Int) : Prop := evF X k n_ref12_Window [(LI p1)] [] = some ((I r), [])
theorem T_ref12_Window_ok (k : Nat) (p1 : List Int) (r : Int) : T_ref12_Window k p1 = some r → C_T_ref12_Window k p1 r := by
 intro H
 cases k with
 | zero => simp [T_ref12_Window] at H
 | succ k =>
  simp only [T_ref12_Window] at H
  refine F_in X_ref12_Window rfl ?_
  refine K_seq (K_r [] [] (by kernel_rfl) trivial ?_)
  refine K_seq (K_seq (K_r [.n p1.length, .m, .n p1.length] [((p1.map (D.int .i64))).length = p1.length, decide ((p1.length : Int) < 2) = false → AllT [((p1.map (D.int .i64))).length = p1.length], ([] : Heap) = []] (by kernel_rfl) (AC (List.length_map _) (AC (fun _ => (A1 (List.length_map _))) (A1 rfl))) ?_))
  rcases ite_some H with ⟨hx1, H⟩ | ⟨hx1, H⟩
  · refine K_t (by kernel_rfl) hx1 ?_
    refine K_seq (K_r [] [] (by kernel_rfl) trivial ?_)
    refine K_g (by kernel_rfl) ?_
    cases H
    refine K_ret ?_
    kernel_rfl
  · refine K_f (by kernel_rfl) (Bool.eq_false_iff.2 hx1) ?_
    refine K_g (by kernel_rfl) ?_
    refine K_skip ?_
    refine K_seq ?_
    obtain ⟨x2, hx2, H⟩ := bind_some' H
    refine K_r [.r (I x2) []] [C_T_ref12_Samples k p1 x2] (by kernel_rfl) (A1 (T_ref12_Samples_ok k p1 x2 hx2)) ?_
    refine K_g (by kernel_rfl) ?_
    cases H
    refine K_ret ?_
    kernel_rfl
def T_ref18_Fold_l1 (k : Nat) (p1 : List Int) (p2 : List Int) (x29 : Nat) (x30 : Int) (x33 : List Int) (x37 : Int × Int) : Option ((Int × Int) ⊕ Int) :=
 ((at? p2 x30).bind fun x38 => (if x37.2 < x38 then ((at? p1 x37.2).bind fun x40 => some (.inl ((w64 (x37.1 + x40)), (w64 (x37.2 + 1))))) else some (.inr x37.1)))
theorem T_ref18_Fold_l1_ok (k : Nat) (p1 : List Int) (p2 : List Int) (x29 : Nat) (x30 : Int) (x33 : List Int) : ∀ (x37 : Int × Int) (x : (Int × Int) ⊕ Int), T_ref18_Fold_l1 k p1 p2 x29 x30 x33 x37 = some x → evC X (evF X k) k 0 l_ref18_Fold_1 ⟨[(0, (LI p1)), (1, (LI p2)), (5, (.one (.own 0 0 x29))), (6, (I x30)), (7, (I x37.1)), (8, (I x37.2))], [VI x33]⟩ = some (outS (fun (s : Int × Int) => ⟨[(0, (LI p1)), (1, (LI p2)), (5, (.one (.own 0 0 x29))), (6, (I x30)), (7, (I s.1)), (8, (I s.2))], [VI x33]⟩) (fun (r : Int) => (.exit 2, ⟨[(0, (LI p1)), (1, (LI p2)), (5, (.one (.own 0 0 x29))), (6, (I x30)), (7, (I r))], [VI x33]⟩)) x) := by
 intro x37 x H
 unfold T_ref18_Fold_l1 at H
 refine K_in ?_
 refine K_seq ?_
 refine K_seq ?_
 obtain ⟨x38, hx38, H⟩ := bind_some' H
 refine K_r [.l [.int .i64 x38]] [(0 : Int) ≤ x30 ∧ x30 < (((p2.map (D.int .i64))).length : Int), ((p2.map (D.int .i64)).getD x30.toNat (.int .i64 0)).cells = [.int .i64 x38]] (by kernel_rfl) (AC (at_ok hx38 (D.int .i64) (.int .i64 0)).1 (A1 (at_ok hx38 (D.int .i64) (.int .i64 0)).2)) ?_
 rcases ite_some H with ⟨hx39, H⟩ | ⟨hx39, H⟩
 · refine K_t (by kernel_rfl) (decide_eq_true hx39) ?_
   refine K_g (by kernel_rfl) ?_
   refine K_skip ?_
   refine K_seq ?_
   refine K_block ?_
   obtain ⟨x40, hx40, H⟩ := bind_some' H
   refine K_r [.l [.int .i64 x40]] [(0 : Int) ≤ x37.2 ∧ x37.2 < (((p1.map (D.int .i64))).length : Int), ((p1.map (D.int .i64)).getD x37.2.toNat (.int .i64 0)).cells = [.int .i64 x40]] (by kernel_rfl) (AC (at_ok hx40 (D.int .i64) (.int .i64 0)).1 (A1 (at_ok hx40 (D.int .i64) (.int .i64 0)).2)) ?_
   refine K_blk (K_r [] [] (by kernel_rfl) trivial ?_)
   cases H
   exact K_end (by kernel_rfl)
 · refine K_f (by kernel_rfl) (decide_eq_false hx39) ?_
   refine K_g (by kernel_rfl) ?_
   cases H
   exact K_exit0 rfl (by kernel_rfl)
def T_ref18_Fold_l2 (k : Nat) (p1 : List Int) (p2 : List Int) (x24 : Nat × Int × (List Int)) : Option ((Nat × Int × (List Int)) ⊕ ((Nat × (List Int)))) :=
 (if x24.2.1 < (p2.length : Int) then (at? p2 (w64 (x24.2.1 - 1))).bind fun x26 => (loopT (T_ref18_Fold_l1 k p1 p2 x24.1 x24.2.1 x24.2.2) k (0, x26)).bind fun x41 => (if x24.1 + 1 ≤ LIM then some (.inl ((x24.1 + 1), (w64 (x24.2.1 + 1)), ((x24.2.2.drop 0).take x24.1 ++ ([x41] : List Int)))) else none) else some (.inr (x24.1, x24.2.2)))
theorem T_ref18_Fold_l2_ok (k : Nat) (p1 : List Int) (p2 : List Int) : ∀ (x24 : Nat × Int × (List Int)) (x : (Nat × Int × (List Int)) ⊕ ((Nat × (List Int)))), T_ref18_Fold_l2 k p1 p2 x24 = some x → evC X (evF X k) k 0 l_ref18_Fold_2 ⟨[(0, (LI p1)), (1, (LI p2)), (5, (.one (.own 0 0 x24.1))), (6, (I x24.2.1))], [VI x24.2.2]⟩ = some (outS (fun (s : Nat × Int × (List Int)) => ⟨[(0, (LI p1)), (1, (LI p2)), (5, (.one (.own 0 0 s.1))), (6, (I s.2.1))], [VI s.2.2]⟩) (fun (r : (Nat × (List Int))) => (.exit 0, ⟨[(5, (.one (.own 0 0 r.1)))], [VI r.2]⟩)) x) := by
 intro x24 x H
 unfold T_ref18_Fold_l2 at H
 refine K_in ?_
 refine K_seq (K_seq (K_r [.n p2.length] [((p2.map (D.int .i64))).length = p2.length] (by kernel_rfl) (A1 (List.length_map _)) ?_))
 rcases ite_some H with ⟨hx25, H⟩ | ⟨hx25, H⟩
 · refine K_t (by kernel_rfl) (decide_eq_true hx25) ?_
   refine K_g (by kernel_rfl) ?_
   refine K_skip (K_seq (K_block (K_seq (K_r [] [] (by kernel_rfl) trivial ?_))))
   refine K_seq ?_
   refine K_seq ?_
   obtain ⟨x26, hx26, H⟩ := bind_some' H
   refine K_r [.l [.int .i64 x26]] [(0 : Int) ≤ (w64 (x24.2.1 - 1)) ∧ (w64 (x24.2.1 - 1)) < (((p2.map (D.int .i64))).length : Int), ((p2.map (D.int .i64)).getD (w64 (x24.2.1 - 1)).toNat (.int .i64 0)).cells = [.int .i64 x26]] (by kernel_rfl) (AC (at_ok hx26 (D.int .i64) (.int .i64 0)).1 (A1 (at_ok hx26 (D.int .i64) (.int .i64 0)).2)) ?_
   refine K_block (K_conv (σ' := ⟨[(0, (LI p1)), (1, (LI p2)), (5, (.one (.own 0 0 x24.1))), (6, (I x24.2.1)), (7, (I 0)), (8, (I x26))], [VI x24.2.2]⟩) (by kernel_rfl) ?_)
   obtain ⟨x41, hx41, H⟩ := bind_some' H
   refine K_loop ⟨[(0, (LI p1)), (1, (LI p2)), (5, (.one (.own 0 0 x24.1))), (6, (I x24.2.1)), (7, (I x41))], [VI x24.2.2]⟩ (loop_ok (fun (s : Int × Int) => ⟨[(0, (LI p1)), (1, (LI p2)), (5, (.one (.own 0 0 x24.1))), (6, (I x24.2.1)), (7, (I s.1)), (8, (I s.2))], [VI x24.2.2]⟩) (fun (r : Int) => (.exit 2, ⟨[(0, (LI p1)), (1, (LI p2)), (5, (.one (.own 0 0 x24.1))), (6, (I x24.2.1)), (7, (I r))], [VI x24.2.2]⟩)) (fun r h => by cases h) (T_ref18_Fold_l1_ok k p1 p2 x24.1 x24.2.1 x24.2.2) k (0, x26) x41 hx41) rfl ?_
   obtain ⟨hx42, H⟩ := guard_some H
   refine K_r [.n 1, .l (((x24.2.2.drop 0).take x24.1 ++ ([x41] : List Int)).map (D.int .i64))] [(List.all (([x41] : List Int).map (D.int .i64)) fun d => d.cells.length == (D.cells (.int .i64 0)).length) = true, x24.1 + 1 ≤ LIM, (([x41] : List Int).map (D.int .i64)).length = 1, ((x24.2.2.map (D.int .i64)).drop 0).take x24.1 ++ (([x41] : List Int).map (D.int .i64)) = ((x24.2.2.drop 0).take x24.1 ++ ([x41] : List Int)).map (D.int .i64)] (by kernel_rfl) (AC (all_ok (D.int .i64) 1 ([x41] : List Int) (fun _ => rfl)) (AC hx42 (AC (by simp) (A1 (ap_map (D.int .i64) x24.2.2 ([x41] : List Int) 0 x24.1))))) ?_
   refine K_blk (K_r [] [] (by kernel_rfl) trivial ?_)
   cases H
   exact K_end (by kernel_rfl)
 · refine K_f (by kernel_rfl) (decide_eq_false hx25) ?_
   refine K_g (by kernel_rfl) ?_
   cases H
   exact K_exit0 rfl (by kernel_rfl)
def T_ref18_Fold (k : Nat) (p1 : List Int) (p2 : List Int) : Option ((List Int)) := match k with
 | 0 => none
 | k + 1 => ((loopT (T_ref18_Fold_l2 k p1 p2) k (0, 1, [])).bind fun x43 => some ((x43.2.drop 0).take x43.1))
abbrev C_T_ref18_Fold (k : Nat) (p1 : List Int) (p2 : List Int) (r : (List Int)) : Prop := evF X k n_ref18_Fold [(LI p1), (LI p2)] [] = some ((LI r), [])
theorem T_ref18_Fold_ok (k : Nat) (p1 : List Int) (p2 : List Int) (r : (List Int)) : T_ref18_Fold k p1 p2 = some r → C_T_ref18_Fold k p1 p2 r := by
 intro H
 cases k with
 | zero => simp [T_ref18_Fold] at H
 | succ k =>
  simp only [T_ref18_Fold] at H
  refine F_in X_ref18_Fold rfl ?_
  refine K_seq (K_r [] [] (by kernel_rfl) trivial ?_)
  refine K_seq (K_r [] [] (by kernel_rfl) trivial ?_)
  refine K_seq (K_seq (K_r [] [] (by kernel_rfl) trivial ?_))
  refine K_block (K_g (by kernel_rfl) ?_)
  refine K_conv (σ' := ⟨[(0, (LI p1)), (1, (LI p2)), (5, (.one (.own 0 0 0))), (6, (I 1))], [VI []]⟩) (by kernel_rfl) ?_
  obtain ⟨x43, hx43, H⟩ := bind_some' H
  refine K_loop ⟨[(5, (.one (.own 0 0 x43.1)))], [VI x43.2]⟩ (loop_ok (fun (s : Nat × Int × (List Int)) => ⟨[(0, (LI p1)), (1, (LI p2)), (5, (.one (.own 0 0 s.1))), (6, (I s.2.1))], [VI s.2.2]⟩) (fun (r : (Nat × (List Int))) => (.exit 0, ⟨[(5, (.one (.own 0 0 r.1)))], [VI r.2]⟩)) (fun r h => by cases h) (T_ref18_Fold_l2_ok k p1 p2) k (0, 1, []) x43 hx43) rfl ?_
  refine K_seq (K_r [] [] (by kernel_rfl) trivial ?_)
  refine K_g (by kernel_rfl) ?_
  cases H
  refine K_ret ?_
  exact Eq.trans (b := some ((.one (.d (.list (((x43.2.map (D.int .i64)).drop 0).take x43.1)))), [])) (by kernel_rfl) (by simp only [dt_map, LI, VI])
def T_ref18_Sums (k : Nat) (p1 : List Int) (p2 : Int) : Option ((List Int) × Int) := match k with
 | 0 => none
 | k + 1 => ((T_ref12_Window k p1).bind fun x1 => (if (!decide (x1 = 0)) = true then some ([], x1) else ((T_ref18_Starts k (p1.length : Int) p2).bind fun x3 => (if (!decide (x3.2 = 0)) = true then some ([], x3.2) else ((T_ref18_Fold k p1 x3.1).bind fun x5 => some (x5, 0))))))
abbrev C_T_ref18_Sums (k : Nat) (p1 : List Int) (p2 : Int) (r : (List Int) × Int) : Prop := evF X k n_ref18_Sums [(LI p1), (I p2)] [] = some ((.tup [(false, [cL r.1]), (false, [cI r.2])]), [])
theorem T_ref18_Sums_ok (k : Nat) (p1 : List Int) (p2 : Int) (r : (List Int) × Int) : T_ref18_Sums k p1 p2 = some r → C_T_ref18_Sums k p1 p2 r := by
 intro H
 cases k with
 | zero => simp [T_ref18_Sums] at H
 | succ k =>
  simp only [T_ref18_Sums] at H
  refine F_in X_ref18_Sums rfl ?_
  refine K_seq (K_r [] [] (by kernel_rfl) trivial ?_)
  refine K_seq ?_
  refine K_seq ?_
  obtain ⟨x1, hx1, H⟩ := bind_some' H
  refine K_r [.r (I x1) []] [C_T_ref12_Window k p1 x1] (by kernel_rfl) (A1 (T_ref12_Window_ok k p1 x1 hx1)) ?_
  refine K_seq (K_r [] [] (by kernel_rfl) trivial ?_)
  rcases ite_some H with ⟨hx2, H⟩ | ⟨hx2, H⟩
  · refine K_t (by kernel_rfl) hx2 ?_
    refine K_seq (K_r [] [] (by kernel_rfl) trivial ?_)
    refine K_g (by kernel_rfl) ?_
    cases H
    refine K_ret ?_
    kernel_rfl
  · refine K_f (by kernel_rfl) (Bool.eq_false_iff.2 hx2) ?_
    refine K_g (by kernel_rfl) ?_
    refine K_skip ?_
    refine K_seq ?_
    obtain ⟨x3, hx3, H⟩ := bind_some' H
    refine K_r [.n p1.length, .r (.tup [(false, [cL x3.1]), (false, [cI x3.2])]) []] [((p1.map (D.int .i64))).length = p1.length, C_T_ref18_Starts k (p1.length : Int) p2 x3] (by kernel_rfl) (AC (List.length_map _) (A1 (T_ref18_Starts_ok k (p1.length : Int) p2 x3 hx3))) ?_
    refine K_seq (K_seq (K_r [] [] (by kernel_rfl) trivial ?_))
    rcases ite_some H with ⟨hx4, H⟩ | ⟨hx4, H⟩
    · refine K_t (by kernel_rfl) hx4 ?_
      refine K_seq (K_r [] [] (by kernel_rfl) trivial ?_)
      refine K_g (by kernel_rfl) ?_
      cases H
      refine K_ret ?_
      kernel_rfl
    · refine K_f (by kernel_rfl) (Bool.eq_false_iff.2 hx4) ?_
      refine K_g (by kernel_rfl) ?_
      refine K_skip ?_
      refine K_seq ?_
      obtain ⟨x5, hx5, H⟩ := bind_some' H
      refine K_r [.r (LI x5) []] [C_T_ref18_Fold k p1 x3.1 x5] (by kernel_rfl) (A1 (T_ref18_Fold_ok k p1 x3.1 x5 hx5)) ?_
      refine K_g (by kernel_rfl) ?_
      cases H
      refine K_ret ?_
      kernel_rfl
def T_ref13_Centred_l1 (k : Nat) (p1 : List Int) (x5 : Int) (x9 : Int × Int) : Option ((Int × Int) ⊕ Int) :=
 (if x9.2 < x5 then ((at? p1 x9.2).bind fun x11 => some (.inl ((w64 (x9.1 + x11)), (w64 (x9.2 + 1))))) else some (.inr x9.1))
theorem T_ref13_Centred_l1_ok (k : Nat) (p1 : List Int) (x5 : Int) : ∀ (x9 : Int × Int) (x : (Int × Int) ⊕ Int), T_ref13_Centred_l1 k p1 x5 x9 = some x → evC X (evF X k) k 0 l_ref13_Centred_1 ⟨[(0, (LI p1)), (5, (I x9.1)), (15, (I x5)), (16, (I x9.2))], []⟩ = some (outS (fun (s : Int × Int) => ⟨[(0, (LI p1)), (5, (I s.1)), (15, (I x5)), (16, (I s.2))], []⟩) (fun (r : Int) => (.exit 0, ⟨[(0, (LI p1)), (5, (I r))], []⟩)) x) := by
 intro x9 x H
 unfold T_ref13_Centred_l1 at H
 refine K_in ?_
 refine K_seq (K_r [] [] (by kernel_rfl) trivial ?_)
 refine K_seq ?_
 rcases ite_some H with ⟨hx10, H⟩ | ⟨hx10, H⟩
 · refine K_t (by kernel_rfl) (decide_eq_true hx10) ?_
   refine K_g (by kernel_rfl) ?_
   refine K_skip (K_seq (K_block (K_seq (K_r [] [] (by kernel_rfl) trivial ?_))))
   obtain ⟨x11, hx11, H⟩ := bind_some' H
   refine K_r [.l [.int .i64 x11]] [(0 : Int) ≤ x9.2 ∧ x9.2 < (((p1.map (D.int .i64))).length : Int), ((p1.map (D.int .i64)).getD x9.2.toNat (.int .i64 0)).cells = [.int .i64 x11]] (by kernel_rfl) (AC (at_ok hx11 (D.int .i64) (.int .i64 0)).1 (A1 (at_ok hx11 (D.int .i64) (.int .i64 0)).2)) ?_
   refine K_blk (K_r [] [] (by kernel_rfl) trivial ?_)
   cases H
   exact K_end (by kernel_rfl)
 · refine K_f (by kernel_rfl) (decide_eq_false hx10) ?_
   refine K_g (by kernel_rfl) ?_
   cases H
   exact K_exit0 rfl (by kernel_rfl)
def T_ref13_Centred_l2 (k : Nat) (p1 : List Int) (x12 : Int) (x16 : Int) (x22 : Nat × Int × (List Int)) : Option ((Nat × Int × (List Int)) ⊕ ((Nat × (List Int)))) :=
 (if x22.2.1 < x16 then (at? p1 x22.2.1).bind fun x24 => (if x22.1 + 1 ≤ LIM then some (.inl ((x22.1 + 1), (w64 (x22.2.1 + 1)), ((x22.2.2.drop 0).take x22.1 ++ ([(w64 ((w64 ((p1.length : Int) * x24)) - x12))] : List Int)))) else none) else some (.inr (x22.1, x22.2.2)))
theorem T_ref13_Centred_l2_ok (k : Nat) (p1 : List Int) (x12 : Int) (x16 : Int) : ∀ (x22 : Nat × Int × (List Int)) (x : (Nat × Int × (List Int)) ⊕ ((Nat × (List Int)))), T_ref13_Centred_l2 k p1 x12 x16 x22 = some x → evC X (evF X k) k 0 l_ref13_Centred_2 ⟨[(0, (LI p1)), (5, (I x12)), (7, (.one (.own 0 0 x22.1))), (27, (I x16)), (28, (I x22.2.1))], [VI x22.2.2]⟩ = some (outS (fun (s : Nat × Int × (List Int)) => ⟨[(0, (LI p1)), (5, (I x12)), (7, (.one (.own 0 0 s.1))), (27, (I x16)), (28, (I s.2.1))], [VI s.2.2]⟩) (fun (r : (Nat × (List Int))) => (.exit 2, ⟨[(7, (.one (.own 0 0 r.1)))], [VI r.2]⟩)) x) := by
 intro x22 x H
 unfold T_ref13_Centred_l2 at H
 refine K_in ?_
 refine K_seq (K_r [] [] (by kernel_rfl) trivial ?_)
 refine K_seq ?_
 rcases ite_some H with ⟨hx23, H⟩ | ⟨hx23, H⟩
 · refine K_t (by kernel_rfl) (decide_eq_true hx23) ?_
   refine K_g (by kernel_rfl) ?_
   refine K_skip (K_seq (K_block (K_seq (K_r [] [] (by kernel_rfl) trivial ?_))))
   obtain ⟨x24, hx24, H⟩ := bind_some' H
   obtain ⟨hx25, H⟩ := guard_some H
   refine K_r [.n p1.length, .l [.int .i64 x24], .n 1, .l (((x22.2.2.drop 0).take x22.1 ++ ([(w64 ((w64 ((p1.length : Int) * x24)) - x12))] : List Int)).map (D.int .i64))] [((p1.map (D.int .i64))).length = p1.length, (0 : Int) ≤ x22.2.1 ∧ x22.2.1 < (((p1.map (D.int .i64))).length : Int), ((p1.map (D.int .i64)).getD x22.2.1.toNat (.int .i64 0)).cells = [.int .i64 x24], (List.all (([(w64 ((w64 ((p1.length : Int) * x24)) - x12))] : List Int).map (D.int .i64)) fun d => d.cells.length == (D.cells (.int .i64 0)).length) = true, x22.1 + 1 ≤ LIM, (([(w64 ((w64 ((p1.length : Int) * x24)) - x12))] : List Int).map (D.int .i64)).length = 1, ((x22.2.2.map (D.int .i64)).drop 0).take x22.1 ++ (([(w64 ((w64 ((p1.length : Int) * x24)) - x12))] : List Int).map (D.int .i64)) = ((x22.2.2.drop 0).take x22.1 ++ ([(w64 ((w64 ((p1.length : Int) * x24)) - x12))] : List Int)).map (D.int .i64)] (by kernel_rfl) (AC (List.length_map _) (AC (at_ok hx24 (D.int .i64) (.int .i64 0)).1 (AC (at_ok hx24 (D.int .i64) (.int .i64 0)).2 (AC (all_ok (D.int .i64) 1 ([(w64 ((w64 ((p1.length : Int) * x24)) - x12))] : List Int) (fun _ => rfl)) (AC hx25 (AC (by simp) (A1 (ap_map (D.int .i64) x22.2.2 ([(w64 ((w64 ((p1.length : Int) * x24)) - x12))] : List Int) 0 x22.1)))))))) ?_
   refine K_blk (K_r [] [] (by kernel_rfl) trivial ?_)
   cases H
   exact K_end (by kernel_rfl)
 · refine K_f (by kernel_rfl) (decide_eq_false hx23) ?_
   refine K_g (by kernel_rfl) ?_
   cases H
   exact K_exit0 rfl (by kernel_rfl)
def T_ref13_Centred (k : Nat) (p1 : List Int) : Option ((List Int) × Int) := match k with
 | 0 => none
 | k + 1 => ((T_ref12_Window k p1).bind fun x1 => (if (!decide (x1 = 0)) = true then some ([], x1) else ((loopT (T_ref13_Centred_l1 k p1 (p1.length : Int)) k (0, 0)).bind fun x12 => (loopT (T_ref13_Centred_l2 k p1 x12 (p1.length : Int)) k (0, 0, [])).bind fun x26 => some (((x26.2.drop 0).take x26.1), 0))))
abbrev C_T_ref13_Centred (k : Nat) (p1 : List Int) (r : (List Int) × Int) : Prop := evF X k n_ref13_Centred [(LI p1)] [] = some ((.tup [(false, [cL r.1]), (false, [cI r.2])]), [])
theorem T_ref13_Centred_ok (k : Nat) (p1 : List Int) (r : (List Int) × Int) : T_ref13_Centred k p1 = some r → C_T_ref13_Centred k p1 r := by
 intro H
 cases k with
 | zero => simp [T_ref13_Centred] at H
 | succ k =>
  simp only [T_ref13_Centred] at H
  refine F_in X_ref13_Centred rfl ?_
  refine K_seq (K_r [] [] (by kernel_rfl) trivial ?_)
  refine K_seq ?_
  refine K_seq ?_
  obtain ⟨x1, hx1, H⟩ := bind_some' H
  refine K_r [.r (I x1) []] [C_T_ref12_Window k p1 x1] (by kernel_rfl) (A1 (T_ref12_Window_ok k p1 x1 hx1)) ?_
  refine K_seq (K_r [] [] (by kernel_rfl) trivial ?_)
  rcases ite_some H with ⟨hx2, H⟩ | ⟨hx2, H⟩
  · refine K_t (by kernel_rfl) hx2 ?_
    refine K_seq (K_r [] [] (by kernel_rfl) trivial ?_)
    refine K_g (by kernel_rfl) ?_
    cases H
    refine K_ret ?_
    kernel_rfl
  · refine K_f (by kernel_rfl) (Bool.eq_false_iff.2 hx2) ?_
    refine K_g (by kernel_rfl) ?_
    refine K_skip (K_seq (K_r [] [] (by kernel_rfl) trivial ?_))
    refine K_seq (K_seq (K_r [.n p1.length] [((p1.map (D.int .i64))).length = p1.length] (by kernel_rfl) (A1 (List.length_map _)) ?_))
    refine K_block (K_conv (σ' := ⟨[(0, (LI p1)), (5, (I 0)), (15, (I (p1.length : Int))), (16, (I 0))], []⟩) (by kernel_rfl) ?_)
    obtain ⟨x12, hx12, H⟩ := bind_some' H
    refine K_loop ⟨[(0, (LI p1)), (5, (I x12))], []⟩ (loop_ok (fun (s : Int × Int) => ⟨[(0, (LI p1)), (5, (I s.1)), (15, (I (p1.length : Int))), (16, (I s.2))], []⟩) (fun (r : Int) => (.exit 0, ⟨[(0, (LI p1)), (5, (I r))], []⟩)) (fun r h => by cases h) (T_ref13_Centred_l1_ok k p1 (p1.length : Int)) k (0, 0) x12 hx12) rfl ?_
    refine K_seq (K_r [] [] (by kernel_rfl) trivial ?_)
    refine K_seq (K_seq (K_r [.n p1.length] [((p1.map (D.int .i64))).length = p1.length] (by kernel_rfl) (A1 (List.length_map _)) ?_))
    refine K_block (K_g (by kernel_rfl) ?_)
    refine K_conv (σ' := ⟨[(0, (LI p1)), (5, (I x12)), (7, (.one (.own 0 0 0))), (27, (I (p1.length : Int))), (28, (I 0))], [VI []]⟩) (by kernel_rfl) ?_
    obtain ⟨x26, hx26, H⟩ := bind_some' H
    refine K_loop ⟨[(7, (.one (.own 0 0 x26.1)))], [VI x26.2]⟩ (loop_ok (fun (s : Nat × Int × (List Int)) => ⟨[(0, (LI p1)), (5, (I x12)), (7, (.one (.own 0 0 s.1))), (27, (I (p1.length : Int))), (28, (I s.2.1))], [VI s.2.2]⟩) (fun (r : (Nat × (List Int))) => (.exit 2, ⟨[(7, (.one (.own 0 0 r.1)))], [VI r.2]⟩)) (fun r h => by cases h) (T_ref13_Centred_l2_ok k p1 x12 (p1.length : Int)) k (0, 0, []) x26 hx26) rfl ?_
    refine K_seq (K_r [] [] (by kernel_rfl) trivial ?_)
    refine K_g (by kernel_rfl) ?_
    cases H
    refine K_ret ?_
    exact Eq.trans (b := some ((.tup [(false, [.d (.list (((x26.2.map (D.int .i64)).drop 0).take x26.1))]), (false, [cI 0])]), [])) (by kernel_rfl) (by simp only [dt_map, LI, VI])
def T_ref18_Centred (k : Nat) (p1 : List Int) (p2 : Int) : Option ((List Int) × Int) := match k with
 | 0 => none
 | k + 1 => ((T_ref13_Centred k p1).bind fun x1 => (if (!decide (x1.2 = 0)) = true then some ([], x1.2) else ((T_ref18_Starts k (p1.length : Int) p2).bind fun x3 => (if (!decide (x3.2 = 0)) = true then some ([], x3.2) else ((T_ref18_Fold k x1.1 x3.1).bind fun x5 => some (x5, 0))))))
abbrev C_T_ref18_Centred (k : Nat) (p1 : List Int) (p2 : Int) (r : (List Int) × Int) : Prop := evF X k n_ref18_Centred [(LI p1), (I p2)] [] = some ((.tup [(false, [cL r.1]), (false, [cI r.2])]), [])
theorem T_ref18_Centred_ok (k : Nat) (p1 : List Int) (p2 : Int) (r : (List Int) × Int) : T_ref18_Centred k p1 p2 = some r → C_T_ref18_Centred k p1 p2 r := by
 intro H
 cases k with
 | zero => simp [T_ref18_Centred] at H
 | succ k =>
  simp only [T_ref18_Centred] at H
  refine F_in X_ref18_Centred rfl ?_
  refine K_seq (K_r [] [] (by kernel_rfl) trivial ?_)
  refine K_seq ?_
  obtain ⟨x1, hx1, H⟩ := bind_some' H
  refine K_r [.r (.tup [(false, [cL x1.1]), (false, [cI x1.2])]) []] [C_T_ref13_Centred k p1 x1] (by kernel_rfl) (A1 (T_ref13_Centred_ok k p1 x1 hx1)) ?_
  refine K_seq (K_seq (K_r [] [] (by kernel_rfl) trivial ?_))
  rcases ite_some H with ⟨hx2, H⟩ | ⟨hx2, H⟩
  · refine K_t (by kernel_rfl) hx2 ?_
    refine K_seq (K_r [] [] (by kernel_rfl) trivial ?_)
    refine K_g (by kernel_rfl) ?_
    cases H
    refine K_ret ?_
    kernel_rfl
  · refine K_f (by kernel_rfl) (Bool.eq_false_iff.2 hx2) ?_
    refine K_g (by kernel_rfl) ?_
    refine K_skip ?_
    refine K_seq ?_
    obtain ⟨x3, hx3, H⟩ := bind_some' H
    refine K_r [.n p1.length, .r (.tup [(false, [cL x3.1]), (false, [cI x3.2])]) []] [((p1.map (D.int .i64))).length = p1.length, C_T_ref18_Starts k (p1.length : Int) p2 x3] (by kernel_rfl) (AC (List.length_map _) (A1 (T_ref18_Starts_ok k (p1.length : Int) p2 x3 hx3))) ?_
    refine K_seq (K_seq (K_r [] [] (by kernel_rfl) trivial ?_))
    rcases ite_some H with ⟨hx4, H⟩ | ⟨hx4, H⟩
    · refine K_t (by kernel_rfl) hx4 ?_
      refine K_seq (K_r [] [] (by kernel_rfl) trivial ?_)
      refine K_g (by kernel_rfl) ?_
      cases H
      refine K_ret ?_
      kernel_rfl
    · refine K_f (by kernel_rfl) (Bool.eq_false_iff.2 hx4) ?_
      refine K_g (by kernel_rfl) ?_
      refine K_skip ?_
      refine K_seq ?_
      obtain ⟨x5, hx5, H⟩ := bind_some' H
      refine K_r [.r (LI x5) []] [C_T_ref18_Fold k x1.1 x3.1 x5] (by kernel_rfl) (A1 (T_ref18_Fold_ok k x1.1 x3.1 x5 hx5)) ?_
      refine K_g (by kernel_rfl) ?_
      cases H
      refine K_ret ?_
      kernel_rfl
def T_ref12_Two (k : Nat) (p1 : List Int) (p2 : List Int) (p3 : Int) : Option Int := match k with
 | 0 => none
 | k + 1 => (if (((decide ((p1.length : Int) < 2) || decide (32 < (p1.length : Int))) || decide ((p2.length : Int) < 2)) || decide (32 < (p2.length : Int))) = true then some 8 else ((((T_ref12_Samples k p1).bind fun x2 => (if (!decide (x2 = 0)) = true then some true else ((T_ref12_Samples k p2).bind fun x5 => some (!decide (x5 = 0)))))).bind fun x6 => (if x6 = true then some 12 else (if (decide (p3 < (w64 ((p1.length : Int) - (p2.length : Int)))) || decide (p3 < (w64 ((p2.length : Int) - (p1.length : Int))))) = true then some 8 else some 0))))
abbrev C_T_ref12_Two (k : Nat) (p1 : List Int) (p2 : List Int) (p3 : Int) (r : Int) : Prop := evF X k n_ref12_Two [(LI p1), (LI p2), (I p3)] [] = some ((I r), [])
theorem T_ref12_Two_ok (k : Nat) (p1 : List Int) (p2 : List Int) (p3 : Int) (r : Int) : T_ref12_Two k p1 p2 p3 = some r → C_T_ref12_Two k p1 p2 p3 r := by
 intro H
 cases k with
 | zero => simp [T_ref12_Two] at H
 | succ k =>
  simp only [T_ref12_Two] at H
  refine F_in X_ref12_Two rfl ?_
  refine K_seq (K_r [] [] (by kernel_rfl) trivial ?_)
  refine K_seq (K_seq (K_r [.n p1.length, .m, .n p1.length, .m, .n p2.length, .m, .n p2.length] [((p1.map (D.int .i64))).length = p1.length, decide ((p1.length : Int) < 2) = false → AllT [((p1.map (D.int .i64))).length = p1.length], ([] : Heap) = [], (decide ((p1.length : Int) < 2) || decide (32 < (p1.length : Int))) = false → AllT [((p2.map (D.int .i64))).length = p2.length], ([] : Heap) = [], ((decide ((p1.length : Int) < 2) || decide (32 < (p1.length : Int))) || decide ((p2.length : Int) < 2)) = false → AllT [((p2.map (D.int .i64))).length = p2.length], ([] : Heap) = []] (by kernel_rfl) (AC (List.length_map _) (AC (fun _ => (A1 (List.length_map _))) (AC rfl (AC (fun _ => (A1 (List.length_map _))) (AC rfl (AC (fun _ => (A1 (List.length_map _))) (A1 rfl))))))) ?_))
  rcases ite_some H with ⟨hx1, H⟩ | ⟨hx1, H⟩
  · refine K_t (by kernel_rfl) hx1 ?_
    refine K_seq (K_r [] [] (by kernel_rfl) trivial ?_)
    refine K_g (by kernel_rfl) ?_
    cases H
    refine K_ret ?_
    kernel_rfl
  · refine K_f (by kernel_rfl) (Bool.eq_false_iff.2 hx1) ?_
    refine K_g (by kernel_rfl) ?_
    refine K_skip ?_
    refine K_seq ?_
    refine K_seq ?_
    obtain ⟨x6, hx6, H⟩ := bind_some' H
    refine K_of ⟨[(0, (LI p1)), (1, (LI p2)), (2, (I p3)), (32, (B x6))], []⟩ ?_ ?_
    · clear H; have H := hx6; clear hx6; refine K_in ?_
      obtain ⟨x2, hx2, H⟩ := bind_some' H
      rcases ite_some H with ⟨hx4, H⟩ | ⟨hx4, H⟩
      · refine K_r [.r (I x2) [], .b true] [C_T_ref12_Samples k p1 x2, (!decide (x2 = 0)) = true] (by kernel_rfl) (AC (T_ref12_Samples_ok k p1 x2 hx2) (A1 hx4)) ?_
        cases H
        exact K_end (by kernel_rfl)
      · obtain ⟨x5, hx5, H⟩ := bind_some' H
        refine K_r [.r (I x2) [], .b false, .r (I x5) []] [C_T_ref12_Samples k p1 x2, (!decide (x2 = 0)) = false, C_T_ref12_Samples k p2 x5] (by kernel_rfl) (AC (T_ref12_Samples_ok k p1 x2 hx2) (AC (Bool.eq_false_iff.2 hx4) (A1 (T_ref12_Samples_ok k p2 x5 hx5)))) ?_
        cases H
        exact K_end (by kernel_rfl)
    rcases ite_some H with ⟨hx7, H⟩ | ⟨hx7, H⟩
    · refine K_t (by kernel_rfl) hx7 ?_
      refine K_seq (K_r [] [] (by kernel_rfl) trivial ?_)
      refine K_g (by kernel_rfl) ?_
      cases H
      refine K_ret ?_
      kernel_rfl
    · refine K_f (by kernel_rfl) (Bool.eq_false_iff.2 hx7) ?_
      refine K_g (by kernel_rfl) ?_
      refine K_skip (K_seq (K_seq (K_r [.n p1.length, .n p2.length, .m, .n p2.length, .n p1.length] [((p1.map (D.int .i64))).length = p1.length, ((p2.map (D.int .i64))).length = p2.length, decide (p3 < (w64 ((p1.length : Int) - (p2.length : Int)))) = false → AllT [((p2.map (D.int .i64))).length = p2.length, ((p1.map (D.int .i64))).length = p1.length], ([] : Heap) = []] (by kernel_rfl) (AC (List.length_map _) (AC (List.length_map _) (AC (fun _ => (AC (List.length_map _) (A1 (List.length_map _)))) (A1 rfl)))) ?_)))
      rcases ite_some H with ⟨hx8, H⟩ | ⟨hx8, H⟩
      · refine K_t (by kernel_rfl) hx8 ?_
        refine K_seq (K_r [] [] (by kernel_rfl) trivial ?_)
        refine K_g (by kernel_rfl) ?_
        cases H
        refine K_ret ?_
        kernel_rfl
      · refine K_f (by kernel_rfl) (Bool.eq_false_iff.2 hx8) ?_
        refine K_g (by kernel_rfl) ?_
        refine K_skip (K_seq (K_r [] [] (by kernel_rfl) trivial ?_))
        refine K_g (by kernel_rfl) ?_
        cases H
        refine K_ret ?_
        kernel_rfl
def T_ref13_product_l1 (k : Nat) (p1 : List Int) (p2 : List Int) (x6 : Int) (x11 : Int × Int × Int × Int) : Option ((Int × Int × Int × Int) ⊕ ((Int × Int × Int))) :=
 (if x11.2.2.2 < x6 then ((at? p1 x11.2.2.2).bind fun x13 => (at? p2 x11.2.2.2).bind fun x14 => some (.inl ((w64 (x11.1 + (w64 (x13 * x14)))), (w64 (x11.2.1 + x13)), (w64 (x11.2.2.1 + x14)), (w64 (x11.2.2.2 + 1))))) else some (.inr (x11.1, x11.2.1, x11.2.2.1)))
theorem T_ref13_product_l1_ok (k : Nat) (p1 : List Int) (p2 : List Int) (x6 : Int) : ∀ (x11 : Int × Int × Int × Int) (x : (Int × Int × Int × Int) ⊕ ((Int × Int × Int))), T_ref13_product_l1 k p1 p2 x6 x11 = some x → evC X (evF X k) k 0 l_ref13_product_1 ⟨[(0, (LI p1)), (1, (LI p2)), (5, (I x11.1)), (6, (I x11.2.1)), (7, (I x11.2.2.1)), (10, (I x6)), (11, (I x11.2.2.2))], []⟩ = some (outS (fun (s : Int × Int × Int × Int) => ⟨[(0, (LI p1)), (1, (LI p2)), (5, (I s.1)), (6, (I s.2.1)), (7, (I s.2.2.1)), (10, (I x6)), (11, (I s.2.2.2))], []⟩) (fun (r : (Int × Int × Int)) => (.exit 0, ⟨[(0, (LI p1)), (5, (I r.1)), (6, (I r.2.1)), (7, (I r.2.2))], []⟩)) x) := by
 intro x11 x H
 unfold T_ref13_product_l1 at H
 refine K_in ?_
 refine K_seq (K_r [] [] (by kernel_rfl) trivial ?_)
 refine K_seq ?_
 rcases ite_some H with ⟨hx12, H⟩ | ⟨hx12, H⟩
 · refine K_t (by kernel_rfl) (decide_eq_true hx12) ?_
   refine K_g (by kernel_rfl) ?_
   refine K_skip (K_seq (K_block (K_seq (K_r [] [] (by kernel_rfl) trivial ?_))))
   obtain ⟨x13, hx13, H⟩ := bind_some' H
   obtain ⟨x14, hx14, H⟩ := bind_some' H
   refine K_r [.l [.int .i64 x13], .l [.int .i64 x14], .l [.int .i64 x13], .l [.int .i64 x14]] [(0 : Int) ≤ x11.2.2.2 ∧ x11.2.2.2 < (((p1.map (D.int .i64))).length : Int), ((p1.map (D.int .i64)).getD x11.2.2.2.toNat (.int .i64 0)).cells = [.int .i64 x13], (0 : Int) ≤ x11.2.2.2 ∧ x11.2.2.2 < (((p2.map (D.int .i64))).length : Int), ((p2.map (D.int .i64)).getD x11.2.2.2.toNat (.int .i64 0)).cells = [.int .i64 x14], (0 : Int) ≤ x11.2.2.2 ∧ x11.2.2.2 < (((p1.map (D.int .i64))).length : Int), ((p1.map (D.int .i64)).getD x11.2.2.2.toNat (.int .i64 0)).cells = [.int .i64 x13], (0 : Int) ≤ x11.2.2.2 ∧ x11.2.2.2 < (((p2.map (D.int .i64))).length : Int), ((p2.map (D.int .i64)).getD x11.2.2.2.toNat (.int .i64 0)).cells = [.int .i64 x14]] (by kernel_rfl) (AC (at_ok hx13 (D.int .i64) (.int .i64 0)).1 (AC (at_ok hx13 (D.int .i64) (.int .i64 0)).2 (AC (at_ok hx14 (D.int .i64) (.int .i64 0)).1 (AC (at_ok hx14 (D.int .i64) (.int .i64 0)).2 (AC (at_ok hx13 (D.int .i64) (.int .i64 0)).1 (AC (at_ok hx13 (D.int .i64) (.int .i64 0)).2 (AC (at_ok hx14 (D.int .i64) (.int .i64 0)).1 (A1 (at_ok hx14 (D.int .i64) (.int .i64 0)).2)))))))) ?_
   refine K_blk (K_r [] [] (by kernel_rfl) trivial ?_)
   cases H
   exact K_end (by kernel_rfl)
 · refine K_f (by kernel_rfl) (decide_eq_false hx12) ?_
   refine K_g (by kernel_rfl) ?_
   cases H
   exact K_exit0 rfl (by kernel_rfl)
def T_ref13_product (k : Nat) (p1 : List Int) (p2 : List Int) : Option Int := match k with
 | 0 => none
 | k + 1 => ((loopT (T_ref13_product_l1 k p1 p2 (p1.length : Int)) k (0, 0, 0, 0)).bind fun x15 => some (w64 ((w64 ((p1.length : Int) * x15.1)) - (w64 (x15.2.1 * x15.2.2)))))
abbrev C_T_ref13_product (k : Nat) (p1 : List Int) (p2 : List Int) (r : Int) : Prop := evF X k n_ref13_product [(LI p1), (LI p2)] [] = some ((I r), [])
theorem T_ref13_product_ok (k : Nat) (p1 : List Int) (p2 : List Int) (r : Int) : T_ref13_product k p1 p2 = some r → C_T_ref13_product k p1 p2 r := by
 intro H
 cases k with
 | zero => simp [T_ref13_product] at H
 | succ k =>
  simp only [T_ref13_product] at H
  refine F_in X_ref13_product rfl ?_
  refine K_seq (K_r [] [] (by kernel_rfl) trivial ?_)
  refine K_seq (K_r [] [] (by kernel_rfl) trivial ?_)
  refine K_seq (K_seq (K_r [.n p1.length] [((p1.map (D.int .i64))).length = p1.length] (by kernel_rfl) (A1 (List.length_map _)) ?_))
  refine K_block (K_conv (σ' := ⟨[(0, (LI p1)), (1, (LI p2)), (5, (I 0)), (6, (I 0)), (7, (I 0)), (10, (I (p1.length : Int))), (11, (I 0))], []⟩) (by kernel_rfl) ?_)
  obtain ⟨x15, hx15, H⟩ := bind_some' H
  refine K_loop ⟨[(0, (LI p1)), (5, (I x15.1)), (6, (I x15.2.1)), (7, (I x15.2.2))], []⟩ (loop_ok (fun (s : Int × Int × Int × Int) => ⟨[(0, (LI p1)), (1, (LI p2)), (5, (I s.1)), (6, (I s.2.1)), (7, (I s.2.2.1)), (10, (I (p1.length : Int))), (11, (I s.2.2.2))], []⟩) (fun (r : (Int × Int × Int)) => (.exit 0, ⟨[(0, (LI p1)), (5, (I r.1)), (6, (I r.2.1)), (7, (I r.2.2))], []⟩)) (fun r h => by cases h) (T_ref13_product_l1_ok k p1 p2 (p1.length : Int)) k (0, 0, 0, 0) x15 hx15) rfl ?_
  refine K_seq (K_r [.n p1.length] [((p1.map (D.int .i64))).length = p1.length] (by kernel_rfl) (A1 (List.length_map _)) ?_)
  refine K_g (by kernel_rfl) ?_
  cases H
  refine K_ret ?_
  kernel_rfl
def T_ref13_Product (k : Nat) (p1 : List Int) (p2 : List Int) : Option (Int × Int) := match k with
 | 0 => none
 | k + 1 => ((T_ref12_Two k p1 p2 0).bind fun x1 => (if (!decide (x1 = 0)) = true then some (0, x1) else ((T_ref13_product k p1 p2).bind fun x3 => some (x3, 0))))
abbrev C_T_ref13_Product (k : Nat) (p1 : List Int) (p2 : List Int) (r : Int × Int) : Prop := evF X k n_ref13_Product [(LI p1), (LI p2)] [] = some ((.tup [(false, [cI r.1]), (false, [cI r.2])]), [])
theorem T_ref13_Product_ok (k : Nat) (p1 : List Int) (p2 : List Int) (r : Int × Int) : T_ref13_Product k p1 p2 = some r → C_T_ref13_Product k p1 p2 r := by
 intro H
 cases k with
 | zero => simp [T_ref13_Product] at H
 | succ k =>
  simp only [T_ref13_Product] at H
  refine F_in X_ref13_Product rfl ?_
  refine K_seq (K_r [] [] (by kernel_rfl) trivial ?_)
  refine K_seq ?_
  refine K_seq ?_
  obtain ⟨x1, hx1, H⟩ := bind_some' H
  refine K_r [.r (I x1) []] [C_T_ref12_Two k p1 p2 0 x1] (by kernel_rfl) (A1 (T_ref12_Two_ok k p1 p2 0 x1 hx1)) ?_
  refine K_seq (K_r [] [] (by kernel_rfl) trivial ?_)
  rcases ite_some H with ⟨hx2, H⟩ | ⟨hx2, H⟩
  · refine K_t (by kernel_rfl) hx2 ?_
    refine K_seq (K_r [] [] (by kernel_rfl) trivial ?_)
    refine K_g (by kernel_rfl) ?_
    cases H
    refine K_ret ?_
    kernel_rfl
  · refine K_f (by kernel_rfl) (Bool.eq_false_iff.2 hx2) ?_
    refine K_g (by kernel_rfl) ?_
    refine K_skip ?_
    refine K_seq ?_
    obtain ⟨x3, hx3, H⟩ := bind_some' H
    refine K_r [.r (I x3) []] [C_T_ref13_product k p1 p2 x3] (by kernel_rfl) (A1 (T_ref13_product_ok k p1 p2 x3 hx3)) ?_
    refine K_g (by kernel_rfl) ?_
    cases H
    refine K_ret ?_
    kernel_rfl
def T_ref04_Down (k : Nat) (p1 : Int) (p2 : Int) : Option Int := match k with
 | 0 => none
 | k + 1 => (if p2 ≠ 0 then (if p2 ≠ 0 then ((if (p1.tmod p2) < 0 then some (w64 ((w64 (p1.tdiv p2)) - 1)) else some (w64 (p1.tdiv p2)))).bind fun x4 => some x4 else none) else none)
abbrev C_T_ref04_Down (k : Nat) (p1 : Int) (p2 : Int) (r : Int) : Prop := evF X k n_ref04_Down [(I p1), (I p2)] [] = some ((I r), [])
theorem T_ref04_Down_ok (k : Nat) (p1 : Int) (p2 : Int) (r : Int) : T_ref04_Down k p1 p2 = some r → C_T_ref04_Down k p1 p2 r := by
 intro H
 cases k with
 | zero => simp [T_ref04_Down] at H
 | succ k =>
  simp only [T_ref04_Down] at H
  refine F_in X_ref04_Down rfl ?_
  refine K_seq (K_r [] [] (by kernel_rfl) trivial ?_)
  refine K_seq ?_
  obtain ⟨hx1, H⟩ := guard_some H
  refine K_r [] [p2 ≠ (0 : Int)] (by kernel_rfl) (A1 hx1) ?_
  refine K_seq ?_
  refine K_seq ?_
  obtain ⟨hx2, H⟩ := guard_some H
  refine K_r [] [p2 ≠ (0 : Int)] (by kernel_rfl) (A1 hx2) ?_
  obtain ⟨x4, hx4, H⟩ := bind_some' H
  refine K_of ⟨[(5, (I x4))], []⟩ ?_ ?_
  · clear H; have H := hx4; clear hx4; refine K_in ?_
    rcases ite_some H with ⟨hx3, H⟩ | ⟨hx3, H⟩
    · refine K_t (by kernel_rfl) (decide_eq_true hx3) ?_
      refine K_r [] [] (by kernel_rfl) trivial ?_
      cases H
      exact K_end (by kernel_rfl)
    · refine K_f (by kernel_rfl) (decide_eq_false hx3) ?_
      refine K_g (by kernel_rfl) ?_
      refine K_skip ?_
      cases H
      exact K_end (by kernel_rfl)
  refine K_seq (K_r [] [] (by kernel_rfl) trivial ?_)
  refine K_g (by kernel_rfl) ?_
  cases H
  refine K_ret ?_
  kernel_rfl
def T_ref02_Floor_l1 (k : Nat) (p1 : Int) (x8 : Int × Int) : Option ((Int × Int) ⊕ Int) :=
 (if 0 < x8.2 then (((if (decide ((w64 (x8.1 + x8.2)) ≤ 2147483648) && decide ((w64 ((w64 (x8.1 + x8.2)) * (w64 (x8.1 + x8.2)))) ≤ p1)) = true then some (w64 (x8.1 + x8.2)) else some x8.1)).bind fun x11 => some (.inl (x11, (x8.2.fdiv (2 ^ 1))))) else some (.inr x8.1))
theorem T_ref02_Floor_l1_ok (k : Nat) (p1 : Int) : ∀ (x8 : Int × Int) (x : (Int × Int) ⊕ Int), T_ref02_Floor_l1 k p1 x8 = some x → evC X (evF X k) k 0 l_ref02_Floor_1 ⟨[(0, (I p1)), (3, (I x8.1)), (4, (I x8.2))], []⟩ = some (outS (fun (s : Int × Int) => ⟨[(0, (I p1)), (3, (I s.1)), (4, (I s.2))], []⟩) (fun (r : Int) => (.exit 0, ⟨[(3, (I r))], []⟩)) x) := by
 intro x8 x H
 unfold T_ref02_Floor_l1 at H
 refine K_in ?_
 refine K_seq (K_seq (K_r [] [] (by kernel_rfl) trivial ?_))
 rcases ite_some H with ⟨hx9, H⟩ | ⟨hx9, H⟩
 · refine K_t (by kernel_rfl) (decide_eq_true hx9) ?_
   refine K_g (by kernel_rfl) ?_
   refine K_skip (K_seq (K_block (K_seq (K_r [.m] [([] : Heap) = []] (by kernel_rfl) (A1 rfl) ?_))))
   obtain ⟨x11, hx11, H⟩ := bind_some' H
   refine K_of ⟨[(0, (I p1)), (3, (I x11)), (4, (I x8.2))], []⟩ ?_ ?_
   · clear H; have H := hx11; clear hx11; refine K_in ?_
     rcases ite_some H with ⟨hx10, H⟩ | ⟨hx10, H⟩
     · refine K_t (by kernel_rfl) hx10 ?_
       refine K_r [] [] (by kernel_rfl) trivial ?_
       cases H
       exact K_end (by kernel_rfl)
     · refine K_f (by kernel_rfl) (Bool.eq_false_iff.2 hx10) ?_
       refine K_g (by kernel_rfl) ?_
       refine K_skip ?_
       cases H
       exact K_end (by kernel_rfl)
   refine K_blk (K_r [] [(0 : Int) ≤ 1] (by kernel_rfl) (A1 (by decide)) ?_)
   cases H
   exact K_end (by kernel_rfl)
 · refine K_f (by kernel_rfl) (decide_eq_false hx9) ?_
   refine K_g (by kernel_rfl) ?_
   cases H
   exact K_exit0 rfl (by kernel_rfl)
def T_ref02_Floor (k : Nat) (p1 : Int) : Option Int := match k with
 | 0 => none
 | k + 1 => (if (decide (p1 < 0) || decide (4611686018427387904 < p1)) = true then some 0 else ((loopT (T_ref02_Floor_l1 k p1) k (0, 2147483648)).bind fun x12 => some x12))
abbrev C_T_ref02_Floor (k : Nat) (p1 : Int) (r : Int) : Prop := evF X k n_ref02_Floor [(I p1)] [] = some ((I r), [])
theorem T_ref02_Floor_ok (k : Nat) (p1 : Int) (r : Int) : T_ref02_Floor k p1 = some r → C_T_ref02_Floor k p1 r := by
 intro H
 cases k with
 | zero => simp [T_ref02_Floor] at H
 | succ k =>
  simp only [T_ref02_Floor] at H
  refine F_in X_ref02_Floor rfl ?_
  refine K_seq (K_r [] [] (by kernel_rfl) trivial ?_)
  refine K_seq (K_seq (K_r [.m] [([] : Heap) = []] (by kernel_rfl) (A1 rfl) ?_))
  rcases ite_some H with ⟨hx1, H⟩ | ⟨hx1, H⟩
  · refine K_t (by kernel_rfl) hx1 ?_
    refine K_seq (K_r [] [] (by kernel_rfl) trivial ?_)
    refine K_g (by kernel_rfl) ?_
    cases H
    refine K_ret ?_
    kernel_rfl
  · refine K_f (by kernel_rfl) (Bool.eq_false_iff.2 hx1) ?_
    refine K_g (by kernel_rfl) ?_
    refine K_skip (K_seq (K_r [] [] (by kernel_rfl) trivial ?_))
    refine K_seq (K_seq (K_r [] [] (by kernel_rfl) trivial ?_))
    refine K_block (K_conv (σ' := ⟨[(0, (I p1)), (3, (I 0)), (4, (I 2147483648))], []⟩) (by kernel_rfl) ?_)
    obtain ⟨x12, hx12, H⟩ := bind_some' H
    refine K_loop ⟨[(3, (I x12))], []⟩ (loop_ok (fun (s : Int × Int) => ⟨[(0, (I p1)), (3, (I s.1)), (4, (I s.2))], []⟩) (fun (r : Int) => (.exit 0, ⟨[(3, (I r))], []⟩)) (fun r h => by cases h) (T_ref02_Floor_l1_ok k p1) k (0, 2147483648) x12 hx12) rfl ?_
    refine K_seq (K_r [] [] (by kernel_rfl) trivial ?_)
    refine K_g (by kernel_rfl) ?_
    cases H
    refine K_ret ?_
    kernel_rfl
def T_ref02_Ceil (k : Nat) (p1 : Int) : Option Int := match k with
 | 0 => none
 | k + 1 => ((T_ref02_Floor k p1).bind fun x1 => (if ((decide (0 ≤ p1) && decide (p1 ≤ 4611686018427387904)) && decide ((w64 (x1 * x1)) < p1)) = true then some (w64 (x1 + 1)) else some x1))
abbrev C_T_ref02_Ceil (k : Nat) (p1 : Int) (r : Int) : Prop := evF X k n_ref02_Ceil [(I p1)] [] = some ((I r), [])
theorem T_ref02_Ceil_ok (k : Nat) (p1 : Int) (r : Int) : T_ref02_Ceil k p1 = some r → C_T_ref02_Ceil k p1 r := by
 intro H
 cases k with
 | zero => simp [T_ref02_Ceil] at H
 | succ k =>
  simp only [T_ref02_Ceil] at H
  refine F_in X_ref02_Ceil rfl ?_
  refine K_seq (K_r [] [] (by kernel_rfl) trivial ?_)
  refine K_seq ?_
  obtain ⟨x1, hx1, H⟩ := bind_some' H
  refine K_r [.r (I x1) []] [C_T_ref02_Floor k p1 x1] (by kernel_rfl) (A1 (T_ref02_Floor_ok k p1 x1 hx1)) ?_
  refine K_seq (K_seq (K_r [.m, .m] [([] : Heap) = [], ([] : Heap) = []] (by kernel_rfl) (AC rfl (A1 rfl)) ?_))
  rcases ite_some H with ⟨hx2, H⟩ | ⟨hx2, H⟩
  · refine K_t (by kernel_rfl) hx2 ?_
    refine K_seq (K_r [] [] (by kernel_rfl) trivial ?_)
    refine K_g (by kernel_rfl) ?_
    cases H
    refine K_ret ?_
    kernel_rfl
  · refine K_f (by kernel_rfl) (Bool.eq_false_iff.2 hx2) ?_
    refine K_g (by kernel_rfl) ?_
    refine K_skip (K_seq (K_r [] [] (by kernel_rfl) trivial ?_))
    refine K_g (by kernel_rfl) ?_
    cases H
    refine K_ret ?_
    kernel_rfl
def T_ref02_Quotient (k : Nat) (p1 : Int) (p2 : Int) : Option (Int × Int) := match k with
 | 0 => none
 | k + 1 => (if (((decide (p1 < (-2147483648)) || decide (2147483648 < p1)) || decide (p2 < 1)) || decide (4611686018427387904 < p2)) = true then some (0, 1) else (if p2 ≠ 0 then (if 0 ≤ p1 then ((T_ref02_Floor k (w64 ((w64 (p1 * p1)).tdiv p2))).bind fun x4 => some (x4, 0)) else (if p2 ≠ 0 then ((if (!decide (((w64 (p1 * p1)).tmod p2) = 0)) = true then some (w64 ((w64 ((w64 (p1 * p1)).tdiv p2)) + 1)) else some (w64 ((w64 (p1 * p1)).tdiv p2)))).bind fun x7 => (T_ref02_Ceil k x7).bind fun x8 => some ((w64 (0 - x8)), 0) else none)) else none))
abbrev C_T_ref02_Quotient (k : Nat) (p1 : Int) (p2 : Int) (r : Int × Int) : Prop := evF X k n_ref02_Quotient [(I p1), (I p2)] [] = some ((.tup [(false, [cI r.1]), (false, [cI r.2])]), [])
theorem T_ref02_Quotient_ok (k : Nat) (p1 : Int) (p2 : Int) (r : Int × Int) : T_ref02_Quotient k p1 p2 = some r → C_T_ref02_Quotient k p1 p2 r := by
 intro H
 cases k with
 | zero => simp [T_ref02_Quotient] at H
 | succ k =>
  simp only [T_ref02_Quotient] at H
  refine F_in X_ref02_Quotient rfl ?_
  refine K_seq (K_r [] [] (by kernel_rfl) trivial ?_)
  refine K_seq (K_seq (K_r [.m, .m, .m] [([] : Heap) = [], ([] : Heap) = [], ([] : Heap) = []] (by kernel_rfl) (AC rfl (AC rfl (A1 rfl))) ?_))
  rcases ite_some H with ⟨hx1, H⟩ | ⟨hx1, H⟩
  · refine K_t (by kernel_rfl) hx1 ?_
    refine K_seq (K_r [] [] (by kernel_rfl) trivial ?_)
    refine K_g (by kernel_rfl) ?_
    cases H
    refine K_ret ?_
    kernel_rfl
  · refine K_f (by kernel_rfl) (Bool.eq_false_iff.2 hx1) ?_
    refine K_g (by kernel_rfl) ?_
    refine K_skip ?_
    refine K_seq ?_
    obtain ⟨hx2, H⟩ := guard_some H
    refine K_r [] [p2 ≠ (0 : Int)] (by kernel_rfl) (A1 hx2) ?_
    refine K_seq (K_seq (K_r [] [] (by kernel_rfl) trivial ?_))
    rcases ite_some H with ⟨hx3, H⟩ | ⟨hx3, H⟩
    · refine K_t (by kernel_rfl) (decide_eq_true hx3) ?_
      refine K_seq ?_
      obtain ⟨x4, hx4, H⟩ := bind_some' H
      refine K_r [.r (I x4) []] [C_T_ref02_Floor k (w64 ((w64 (p1 * p1)).tdiv p2)) x4] (by kernel_rfl) (A1 (T_ref02_Floor_ok k (w64 ((w64 (p1 * p1)).tdiv p2)) x4 hx4)) ?_
      refine K_g (by kernel_rfl) ?_
      cases H
      refine K_ret ?_
      kernel_rfl
    · refine K_f (by kernel_rfl) (decide_eq_false hx3) ?_
      refine K_g (by kernel_rfl) ?_
      refine K_skip ?_
      refine K_seq ?_
      refine K_seq ?_
      obtain ⟨hx5, H⟩ := guard_some H
      refine K_r [] [p2 ≠ (0 : Int)] (by kernel_rfl) (A1 hx5) ?_
      obtain ⟨x7, hx7, H⟩ := bind_some' H
      refine K_of ⟨[(6, (I x7))], []⟩ ?_ ?_
      · clear H; have H := hx7; clear hx7; refine K_in ?_
        rcases ite_some H with ⟨hx6, H⟩ | ⟨hx6, H⟩
        · refine K_t (by kernel_rfl) hx6 ?_
          refine K_r [] [] (by kernel_rfl) trivial ?_
          cases H
          exact K_end (by kernel_rfl)
        · refine K_f (by kernel_rfl) (Bool.eq_false_iff.2 hx6) ?_
          refine K_g (by kernel_rfl) ?_
          refine K_skip ?_
          cases H
          exact K_end (by kernel_rfl)
      refine K_seq ?_
      obtain ⟨x8, hx8, H⟩ := bind_some' H
      refine K_r [.r (I x8) []] [C_T_ref02_Ceil k x7 x8] (by kernel_rfl) (A1 (T_ref02_Ceil_ok k x7 x8 hx8)) ?_
      refine K_g (by kernel_rfl) ?_
      cases H
      refine K_ret ?_
      kernel_rfl
def T_ref19_Coordinates_l1 (k : Nat) (p1 : Int) (p2 : Int) (p3 : Int) (p4 : Int) (p5 : Int) (p6 : List Int) (x7 : Int) (x8 : List Int) (x9 : List Int) (x10 : List Int) (x11 : Int) (x13 : Int) (x35 : Nat × Int × (List Int)) : Option ((Nat × Int × (List Int)) ⊕ ((Nat × (List Int)))) :=
 (if x35.2.1 < x13 then (at? x8 (w64 (x35.2.1 + 1))).bind fun x37 => (at? x8 x35.2.1).bind fun x38 => (at? x9 x35.2.1).bind fun x39 => (T_ref04_Down k x39 (w64 (x37 - x38))).bind fun x40 => ((if p1 = 2 then ((at? x10 x35.2.1).bind fun x42 => (T_ref04_Down k x42 (w64 (x7 * (w64 (x37 - x38))))).bind fun x43 => some x43) else (if p1 = 3 then ((at? x10 x35.2.1).bind fun x45 => (T_ref02_Quotient k (w64 (64 * x45)) (w64 (x7 * x11))).bind fun x46 => some x46.1) else some x40))).bind fun x47 => (if x35.1 + 1 ≤ LIM then some (.inl ((x35.1 + 1), (w64 (x35.2.1 + 1)), ((x35.2.2.drop 0).take x35.1 ++ ([x47] : List Int)))) else none) else some (.inr (x35.1, x35.2.2)))
theorem T_ref19_Coordinates_l1_ok (k : Nat) (p1 : Int) (p2 : Int) (p3 : Int) (p4 : Int) (p5 : Int) (p6 : List Int) (x7 : Int) (x8 : List Int) (x9 : List Int) (x10 : List Int) (x11 : Int) (x13 : Int) : ∀ (x35 : Nat × Int × (List Int)) (x : (Nat × Int × (List Int)) ⊕ ((Nat × (List Int)))), T_ref19_Coordinates_l1 k p1 p2 p3 p4 p5 p6 x7 x8 x9 x10 x11 x13 x35 = some x → evC X (evF X k) k 0 l_ref19_Coordinates_1 ⟨[(2, (Pt 0)), (7, (I x7)), (8, (LI x8)), (10, (LI x9)), (12, (LI x10)), (14, (I x11)), (16, (.one (.own 1 0 x35.1))), (56, (I x13)), (57, (I x35.2.1))], [.cells [cI p1, cI p2, cI p3, cI p4, cI p5, cL p6], VI x35.2.2]⟩ = some (outS (fun (s : Nat × Int × (List Int)) => ⟨[(2, (Pt 0)), (7, (I x7)), (8, (LI x8)), (10, (LI x9)), (12, (LI x10)), (14, (I x11)), (16, (.one (.own 1 0 s.1))), (56, (I x13)), (57, (I s.2.1))], [.cells [cI p1, cI p2, cI p3, cI p4, cI p5, cL p6], VI s.2.2]⟩) (fun (r : (Nat × (List Int))) => (.exit 0, ⟨[(16, (.one (.own 0 0 r.1)))], [VI r.2]⟩)) x) := by
 intro x35 x H
 unfold T_ref19_Coordinates_l1 at H
 refine K_in ?_
 refine K_seq (K_r [] [] (by kernel_rfl) trivial ?_)
 refine K_seq ?_
 rcases ite_some H with ⟨hx36, H⟩ | ⟨hx36, H⟩
 · refine K_t (by kernel_rfl) (decide_eq_true hx36) ?_
   refine K_g (by kernel_rfl) ?_
   refine K_skip (K_seq (K_block (K_seq (K_r [] [] (by kernel_rfl) trivial ?_))))
   refine K_seq ?_
   obtain ⟨x37, hx37, H⟩ := bind_some' H
   obtain ⟨x38, hx38, H⟩ := bind_some' H
   refine K_r [.l [.int .i64 x37], .l [.int .i64 x38]] [(0 : Int) ≤ (w64 (x35.2.1 + 1)) ∧ (w64 (x35.2.1 + 1)) < (((x8.map (D.int .i64))).length : Int), ((x8.map (D.int .i64)).getD (w64 (x35.2.1 + 1)).toNat (.int .i64 0)).cells = [.int .i64 x37], (0 : Int) ≤ x35.2.1 ∧ x35.2.1 < (((x8.map (D.int .i64))).length : Int), ((x8.map (D.int .i64)).getD x35.2.1.toNat (.int .i64 0)).cells = [.int .i64 x38]] (by kernel_rfl) (AC (at_ok hx37 (D.int .i64) (.int .i64 0)).1 (AC (at_ok hx37 (D.int .i64) (.int .i64 0)).2 (AC (at_ok hx38 (D.int .i64) (.int .i64 0)).1 (A1 (at_ok hx38 (D.int .i64) (.int .i64 0)).2)))) ?_
   refine K_seq ?_
   obtain ⟨x39, hx39, H⟩ := bind_some' H
   obtain ⟨x40, hx40, H⟩ := bind_some' H
   refine K_r [.l [.int .i64 x39], .r (I x40) []] [(0 : Int) ≤ x35.2.1 ∧ x35.2.1 < (((x9.map (D.int .i64))).length : Int), ((x9.map (D.int .i64)).getD x35.2.1.toNat (.int .i64 0)).cells = [.int .i64 x39], C_T_ref04_Down k x39 (w64 (x37 - x38)) x40] (by kernel_rfl) (AC (at_ok hx39 (D.int .i64) (.int .i64 0)).1 (AC (at_ok hx39 (D.int .i64) (.int .i64 0)).2 (A1 (T_ref04_Down_ok k x39 (w64 (x37 - x38)) x40 hx40)))) ?_
   refine K_seq (K_seq (K_r [] [] (by kernel_rfl) trivial ?_))
   refine K_block (K_seq (K_r [] [] (by kernel_rfl) trivial ?_))
   obtain ⟨x47, hx47, H⟩ := bind_some' H
   refine K_of ⟨[(2, (Pt 0)), (7, (I x7)), (8, (LI x8)), (10, (LI x9)), (12, (LI x10)), (14, (I x11)), (16, (.one (.own 1 0 x35.1))), (19, (I x47)), (56, (I x13)), (57, (I x35.2.1))], [.cells [cI p1, cI p2, cI p3, cI p4, cI p5, cL p6], VI x35.2.2]⟩ ?_ ?_
   · clear H; have H := hx47; clear hx47; refine K_in ?_
     rcases ite_some H with ⟨hx41, H⟩ | ⟨hx41, H⟩
     · refine K_t (by kernel_rfl) (decide_eq_true hx41) ?_
       obtain ⟨x42, hx42, H⟩ := bind_some' H
       obtain ⟨x43, hx43, H⟩ := bind_some' H
       refine K_r [.l [.int .i64 x42], .r (I x43) []] [(0 : Int) ≤ x35.2.1 ∧ x35.2.1 < (((x10.map (D.int .i64))).length : Int), ((x10.map (D.int .i64)).getD x35.2.1.toNat (.int .i64 0)).cells = [.int .i64 x42], C_T_ref04_Down k x42 (w64 (x7 * (w64 (x37 - x38)))) x43] (by kernel_rfl) (AC (at_ok hx42 (D.int .i64) (.int .i64 0)).1 (AC (at_ok hx42 (D.int .i64) (.int .i64 0)).2 (A1 (T_ref04_Down_ok k x42 (w64 (x7 * (w64 (x37 - x38)))) x43 hx43)))) ?_
       cases H
       exact K_end (by kernel_rfl)
     · refine K_f (by kernel_rfl) (decide_eq_false hx41) ?_
       refine K_seq (K_r [] [] (by kernel_rfl) trivial ?_)
       rcases ite_some H with ⟨hx44, H⟩ | ⟨hx44, H⟩
       · refine K_t (by kernel_rfl) (decide_eq_true hx44) ?_
         obtain ⟨x45, hx45, H⟩ := bind_some' H
         obtain ⟨x46, hx46, H⟩ := bind_some' H
         refine K_r [.l [.int .i64 x45], .r (.tup [(false, [cI x46.1]), (false, [cI x46.2])]) []] [(0 : Int) ≤ x35.2.1 ∧ x35.2.1 < (((x10.map (D.int .i64))).length : Int), ((x10.map (D.int .i64)).getD x35.2.1.toNat (.int .i64 0)).cells = [.int .i64 x45], C_T_ref02_Quotient k (w64 (64 * x45)) (w64 (x7 * x11)) x46] (by kernel_rfl) (AC (at_ok hx45 (D.int .i64) (.int .i64 0)).1 (AC (at_ok hx45 (D.int .i64) (.int .i64 0)).2 (A1 (T_ref02_Quotient_ok k (w64 (64 * x45)) (w64 (x7 * x11)) x46 hx46)))) ?_
         cases H
         exact K_end (by kernel_rfl)
       · refine K_f (by kernel_rfl) (decide_eq_false hx44) ?_
         refine K_g (by kernel_rfl) ?_
         refine K_skip ?_
         cases H
         exact K_end (by kernel_rfl)
   refine K_blk ?_
   obtain ⟨hx48, H⟩ := guard_some H
   refine K_r [.n 1, .l (((x35.2.2.drop 0).take x35.1 ++ ([x47] : List Int)).map (D.int .i64))] [(List.all (([x47] : List Int).map (D.int .i64)) fun d => d.cells.length == (D.cells (.int .i64 0)).length) = true, x35.1 + 1 ≤ LIM, (([x47] : List Int).map (D.int .i64)).length = 1, ((x35.2.2.map (D.int .i64)).drop 0).take x35.1 ++ (([x47] : List Int).map (D.int .i64)) = ((x35.2.2.drop 0).take x35.1 ++ ([x47] : List Int)).map (D.int .i64)] (by kernel_rfl) (AC (all_ok (D.int .i64) 1 ([x47] : List Int) (fun _ => rfl)) (AC hx48 (AC (by simp) (A1 (ap_map (D.int .i64) x35.2.2 ([x47] : List Int) 0 x35.1))))) ?_
   refine K_blk (K_r [] [] (by kernel_rfl) trivial ?_)
   cases H
   exact K_end (by kernel_rfl)
 · refine K_f (by kernel_rfl) (decide_eq_false hx36) ?_
   refine K_g (by kernel_rfl) ?_
   cases H
   exact K_exit0 rfl (by kernel_rfl)
def T_ref19_Coordinates (k : Nat) (p1 : Int) (p2 : Int) (p3 : Int) (p4 : Int) (p5 : Int) (p6 : List Int) (p7 : List Int) : Option ((List Int) × Int) := match k with
 | 0 => none
 | k + 1 => ((T_ref19_Fits k p1 p2 p3 p4 p5 p6 p7).bind fun x1 => (if (!decide (x1 = 0)) = true then some ([], x1) else ((T_ref18_Starts k (p7.length : Int) p5).bind fun x3 => (T_ref18_Sums k p7 p5).bind fun x4 => (T_ref18_Centred k p7 p5).bind fun x5 => (T_ref13_Product k p7 p7).bind fun x6 => (loopT (T_ref19_Coordinates_l1 k p1 p2 p3 p4 p5 p6 (p7.length : Int) x3.1 x4.1 x5.1 x6.1 (x4.1.length : Int)) k (0, 0, [])).bind fun x49 => some (((x49.2.drop 0).take x49.1), 0))))
abbrev C_T_ref19_Coordinates (k : Nat) (p1 : Int) (p2 : Int) (p3 : Int) (p4 : Int) (p5 : Int) (p6 : List Int) (p7 : List Int) (r : (List Int) × Int) : Prop := evF X k n_ref19_Coordinates [(.agg [cI p1, cI p2, cI p3, cI p4, cI p5, cL p6]), (LI p7)] [] = some ((.tup [(false, [cL r.1]), (false, [cI r.2])]), [])
theorem T_ref19_Coordinates_ok (k : Nat) (p1 : Int) (p2 : Int) (p3 : Int) (p4 : Int) (p5 : Int) (p6 : List Int) (p7 : List Int) (r : (List Int) × Int) : T_ref19_Coordinates k p1 p2 p3 p4 p5 p6 p7 = some r → C_T_ref19_Coordinates k p1 p2 p3 p4 p5 p6 p7 r := by
 intro H
 cases k with
 | zero => simp [T_ref19_Coordinates] at H
 | succ k =>
  simp only [T_ref19_Coordinates] at H
  refine F_in X_ref19_Coordinates rfl ?_
  refine K_seq (K_r [] [] (by kernel_rfl) trivial ?_)
  refine K_seq ?_
  refine K_seq ?_
  obtain ⟨x1, hx1, H⟩ := bind_some' H
  refine K_r [.r (I x1) []] [C_T_ref19_Fits k p1 p2 p3 p4 p5 p6 p7 x1] (by kernel_rfl) (A1 (T_ref19_Fits_ok k p1 p2 p3 p4 p5 p6 p7 x1 hx1)) ?_
  refine K_seq (K_r [] [] (by kernel_rfl) trivial ?_)
  rcases ite_some H with ⟨hx2, H⟩ | ⟨hx2, H⟩
  · refine K_t (by kernel_rfl) hx2 ?_
    refine K_seq (K_r [] [] (by kernel_rfl) trivial ?_)
    refine K_g (by kernel_rfl) ?_
    cases H
    refine K_ret ?_
    kernel_rfl
  · refine K_f (by kernel_rfl) (Bool.eq_false_iff.2 hx2) ?_
    refine K_g (by kernel_rfl) ?_
    refine K_skip (K_seq (K_r [.n p7.length] [((p7.map (D.int .i64))).length = p7.length] (by kernel_rfl) (A1 (List.length_map _)) ?_))
    refine K_seq ?_
    obtain ⟨x3, hx3, H⟩ := bind_some' H
    refine K_r [.r (.tup [(false, [cL x3.1]), (false, [cI x3.2])]) []] [C_T_ref18_Starts k (p7.length : Int) p5 x3] (by kernel_rfl) (A1 (T_ref18_Starts_ok k (p7.length : Int) p5 x3 hx3)) ?_
    refine K_seq ?_
    obtain ⟨x4, hx4, H⟩ := bind_some' H
    refine K_r [.r (.tup [(false, [cL x4.1]), (false, [cI x4.2])]) []] [C_T_ref18_Sums k p7 p5 x4] (by kernel_rfl) (A1 (T_ref18_Sums_ok k p7 p5 x4 hx4)) ?_
    refine K_seq ?_
    obtain ⟨x5, hx5, H⟩ := bind_some' H
    refine K_r [.r (.tup [(false, [cL x5.1]), (false, [cI x5.2])]) []] [C_T_ref18_Centred k p7 p5 x5] (by kernel_rfl) (A1 (T_ref18_Centred_ok k p7 p5 x5 hx5)) ?_
    refine K_seq ?_
    obtain ⟨x6, hx6, H⟩ := bind_some' H
    refine K_r [.r (.tup [(false, [cI x6.1]), (false, [cI x6.2])]) []] [C_T_ref13_Product k p7 p7 x6] (by kernel_rfl) (A1 (T_ref13_Product_ok k p7 p7 x6 hx6)) ?_
    refine K_seq (K_r [] [] (by kernel_rfl) trivial ?_)
    refine K_seq (K_seq (K_r [.n x4.1.length] [((x4.1.map (D.int .i64))).length = x4.1.length] (by kernel_rfl) (A1 (List.length_map _)) ?_))
    refine K_block (K_g (by kernel_rfl) ?_)
    refine K_conv (σ' := ⟨[(2, (Pt 0)), (7, (I (p7.length : Int))), (8, (LI x3.1)), (10, (LI x4.1)), (12, (LI x5.1)), (14, (I x6.1)), (16, (.one (.own 1 0 0))), (56, (I (x4.1.length : Int))), (57, (I 0))], [.cells [cI p1, cI p2, cI p3, cI p4, cI p5, cL p6], VI []]⟩) (by kernel_rfl) ?_
    obtain ⟨x49, hx49, H⟩ := bind_some' H
    refine K_loop ⟨[(16, (.one (.own 0 0 x49.1)))], [VI x49.2]⟩ (loop_ok (fun (s : Nat × Int × (List Int)) => ⟨[(2, (Pt 0)), (7, (I (p7.length : Int))), (8, (LI x3.1)), (10, (LI x4.1)), (12, (LI x5.1)), (14, (I x6.1)), (16, (.one (.own 1 0 s.1))), (56, (I (x4.1.length : Int))), (57, (I s.2.1))], [.cells [cI p1, cI p2, cI p3, cI p4, cI p5, cL p6], VI s.2.2]⟩) (fun (r : (Nat × (List Int))) => (.exit 0, ⟨[(16, (.one (.own 0 0 r.1)))], [VI r.2]⟩)) (fun r h => by cases h) (T_ref19_Coordinates_l1_ok k p1 p2 p3 p4 p5 p6 (p7.length : Int) x3.1 x4.1 x5.1 x6.1 (x4.1.length : Int)) k (0, 0, []) x49 hx49) rfl ?_
    refine K_seq (K_r [] [] (by kernel_rfl) trivial ?_)
    refine K_g (by kernel_rfl) ?_
    cases H
    refine K_ret ?_
    exact Eq.trans (b := some ((.tup [(false, [.d (.list (((x49.2.map (D.int .i64)).drop 0).take x49.1))]), (false, [cI 0])]), [])) (by kernel_rfl) (by simp only [dt_map, LI, VI])
def T_ref19_Of_l1 (k : Nat) (p1 : Int) (p2 : Int) (x3 : List Int) (p3 : Int) (x4 : Int) (p4 : Int) (p5 : Int) (p6 : List Int) (x51 : Int) (x54 : Int) (x55 : Int) (x63 : Nat) (x64 : Nat) (x65 : List Int) (x66 : List Int) (x72 : Int × Int) : Option ((Int × Int) ⊕ Int) :=
 (if x72.2 < x55 then ((at? p6 x72.2).bind fun x74 => (at? x3 x51).bind fun x75 => ((if x74 ≤ x75 then some (w64 (x72.1 + 1)) else some x72.1)).bind fun x77 => some (.inl (x77, (w64 (x72.2 + 1))))) else some (.inr x72.1))
theorem T_ref19_Of_l1_ok (k : Nat) (p1 : Int) (p2 : Int) (x3 : List Int) (p3 : Int) (x4 : Int) (p4 : Int) (p5 : Int) (p6 : List Int) (x51 : Int) (x54 : Int) (x55 : Int) (x63 : Nat) (x64 : Nat) (x65 : List Int) (x66 : List Int) : ∀ (x72 : Int × Int) (x : (Int × Int) ⊕ Int), T_ref19_Of_l1 k p1 p2 x3 p3 x4 p4 p5 p6 x51 x54 x55 x63 x64 x65 x66 x72 = some x → evC X (evF X k) k 0 l_ref19_Of_1 ⟨[(2, (Pt 0)), (4, (Pt 1)), (6, (LI x3)), (8, (Pt 2)), (9, (I x51)), (10, (I x72.1)), (23, (I x4)), (24, (I x54)), (29, (I x55)), (30, (I x72.2))], [.cells [cI p1, cI p2, cI p3, cI p4, cI p5, cL p6], .cells [.nil, .nil], .cells [.own 3 0 x63, .own 4 0 x64], VI x65, VI x66]⟩ = some (outS (fun (s : Int × Int) => ⟨[(2, (Pt 0)), (4, (Pt 1)), (6, (LI x3)), (8, (Pt 2)), (9, (I x51)), (10, (I s.1)), (23, (I x4)), (24, (I x54)), (29, (I x55)), (30, (I s.2))], [.cells [cI p1, cI p2, cI p3, cI p4, cI p5, cL p6], .cells [.nil, .nil], .cells [.own 3 0 x63, .own 4 0 x64], VI x65, VI x66]⟩) (fun (r : Int) => (.exit 2, ⟨[(2, (Pt 0)), (4, (Pt 1)), (6, (LI x3)), (8, (Pt 2)), (10, (I r)), (23, (I x4)), (24, (I x54))], [.cells [cI p1, cI p2, cI p3, cI p4, cI p5, cL p6], .cells [.nil, .nil], .cells [.own 3 0 x63, .own 4 0 x64], VI x65, VI x66]⟩)) x) := by
 intro x72 x H
 unfold T_ref19_Of_l1 at H
 refine K_in ?_
 refine K_seq (K_r [] [] (by kernel_rfl) trivial ?_)
 refine K_seq ?_
 rcases ite_some H with ⟨hx73, H⟩ | ⟨hx73, H⟩
 · refine K_t (by kernel_rfl) (decide_eq_true hx73) ?_
   refine K_g (by kernel_rfl) ?_
   refine K_skip (K_seq (K_block (K_seq (K_r [] [] (by kernel_rfl) trivial ?_))))
   refine K_seq ?_
   obtain ⟨x74, hx74, H⟩ := bind_some' H
   obtain ⟨x75, hx75, H⟩ := bind_some' H
   refine K_r [.l [.int .i64 x74], .l [.int .i64 x75]] [(0 : Int) ≤ x72.2 ∧ x72.2 < (((p6.map (D.int .i64))).length : Int), ((p6.map (D.int .i64)).getD x72.2.toNat (.int .i64 0)).cells = [.int .i64 x74], (0 : Int) ≤ x51 ∧ x51 < (((x3.map (D.int .i64))).length : Int), ((x3.map (D.int .i64)).getD x51.toNat (.int .i64 0)).cells = [.int .i64 x75]] (by kernel_rfl) (AC (at_ok hx74 (D.int .i64) (.int .i64 0)).1 (AC (at_ok hx74 (D.int .i64) (.int .i64 0)).2 (AC (at_ok hx75 (D.int .i64) (.int .i64 0)).1 (A1 (at_ok hx75 (D.int .i64) (.int .i64 0)).2)))) ?_
   obtain ⟨x77, hx77, H⟩ := bind_some' H
   refine K_of ⟨[(2, (Pt 0)), (4, (Pt 1)), (6, (LI x3)), (8, (Pt 2)), (9, (I x51)), (10, (I x77)), (23, (I x4)), (24, (I x54)), (29, (I x55)), (30, (I x72.2))], [.cells [cI p1, cI p2, cI p3, cI p4, cI p5, cL p6], .cells [.nil, .nil], .cells [.own 3 0 x63, .own 4 0 x64], VI x65, VI x66]⟩ ?_ ?_
   · clear H; have H := hx77; clear hx77; refine K_in ?_
     rcases ite_some H with ⟨hx76, H⟩ | ⟨hx76, H⟩
     · refine K_t (by kernel_rfl) (decide_eq_true hx76) ?_
       refine K_r [] [] (by kernel_rfl) trivial ?_
       cases H
       exact K_end (by kernel_rfl)
     · refine K_f (by kernel_rfl) (decide_eq_false hx76) ?_
       refine K_g (by kernel_rfl) ?_
       refine K_skip ?_
       cases H
       exact K_end (by kernel_rfl)
   refine K_blk (K_r [] [] (by kernel_rfl) trivial ?_)
   cases H
   exact K_end (by kernel_rfl)
 · refine K_f (by kernel_rfl) (decide_eq_false hx73) ?_
   refine K_g (by kernel_rfl) ?_
   cases H
   exact K_exit0 rfl (by kernel_rfl)
def T_ref19_Of_l2 (k : Nat) (p1 : Int) (p2 : Int) (x3 : List Int) (p3 : Int) (x4 : Int) (p4 : Int) (p5 : Int) (p6 : List Int) (x48 : Int × Nat × Nat × (List Int) × (List Int)) : Option ((Int × Nat × Nat × (List Int) × (List Int)) ⊕ ((Nat × Nat × (List Int) × (List Int)))) :=
 (if x48.1 < x4 then (loopT (T_ref19_Of_l1 k p1 p2 x3 p3 x4 p4 p5 p6 x48.1 x48.1 (p6.length : Int) x48.2.1 x48.2.2.1 x48.2.2.2.1 x48.2.2.2.2) k (0, 0)).bind fun x78 => (if x48.2.1 + 1 ≤ LIM then (if x48.2.2.1 + 1 ≤ LIM then some (.inl ((w64 (x48.1 + 1)), (x48.2.1 + 1), (x48.2.2.1 + 1), ((x48.2.2.2.1.drop 0).take x48.2.1 ++ ([x78] : List Int)), ((x48.2.2.2.2.drop 0).take x48.2.2.1 ++ ([4] : List Int)))) else none) else none) else some (.inr (x48.2.1, x48.2.2.1, x48.2.2.2.1, x48.2.2.2.2)))
theorem T_ref19_Of_l2_ok (k : Nat) (p1 : Int) (p2 : Int) (x3 : List Int) (p3 : Int) (x4 : Int) (p4 : Int) (p5 : Int) (p6 : List Int) : ∀ (x48 : Int × Nat × Nat × (List Int) × (List Int)) (x : (Int × Nat × Nat × (List Int) × (List Int)) ⊕ ((Nat × Nat × (List Int) × (List Int)))), T_ref19_Of_l2 k p1 p2 x3 p3 x4 p4 p5 p6 x48 = some x → evC X (evF X k) k 0 l_ref19_Of_2 ⟨[(2, (Pt 0)), (4, (Pt 1)), (6, (LI x3)), (8, (Pt 2)), (23, (I x4)), (24, (I x48.1))], [.cells [cI p1, cI p2, cI p3, cI p4, cI p5, cL p6], .cells [.nil, .nil], .cells [.own 3 0 x48.2.1, .own 4 0 x48.2.2.1], VI x48.2.2.2.1, VI x48.2.2.2.2]⟩ = some (outS (fun (s : Int × Nat × Nat × (List Int) × (List Int)) => ⟨[(2, (Pt 0)), (4, (Pt 1)), (6, (LI x3)), (8, (Pt 2)), (23, (I x4)), (24, (I s.1))], [.cells [cI p1, cI p2, cI p3, cI p4, cI p5, cL p6], .cells [.nil, .nil], .cells [.own 3 0 s.2.1, .own 4 0 s.2.2.1], VI s.2.2.2.1, VI s.2.2.2.2]⟩) (fun (r : (Nat × Nat × (List Int) × (List Int))) => (.exit 0, ⟨[(4, (Pt 0)), (8, (Pt 1))], [.cells [.nil, .nil], .cells [.own 2 0 r.1, .own 3 0 r.2.1], VI r.2.2.1, VI r.2.2.2]⟩)) x) := by
 intro x48 x H
 unfold T_ref19_Of_l2 at H
 refine K_in ?_
 refine K_seq (K_r [] [] (by kernel_rfl) trivial ?_)
 refine K_seq ?_
 rcases ite_some H with ⟨hx49, H⟩ | ⟨hx49, H⟩
 · refine K_t (by kernel_rfl) (decide_eq_true hx49) ?_
   refine K_g (by kernel_rfl) ?_
   refine K_skip (K_seq (K_block (K_seq (K_r [] [] (by kernel_rfl) trivial ?_))))
   refine K_seq (K_r [] [] (by kernel_rfl) trivial ?_)
   refine K_seq (K_seq (K_r [.n p6.length] [((p6.map (D.int .i64))).length = p6.length] (by kernel_rfl) (A1 (List.length_map _)) ?_))
   refine K_block (K_conv (σ' := ⟨[(2, (Pt 0)), (4, (Pt 1)), (6, (LI x3)), (8, (Pt 2)), (9, (I x48.1)), (10, (I 0)), (23, (I x4)), (24, (I x48.1)), (29, (I (p6.length : Int))), (30, (I 0))], [.cells [cI p1, cI p2, cI p3, cI p4, cI p5, cL p6], .cells [.nil, .nil], .cells [.own 3 0 x48.2.1, .own 4 0 x48.2.2.1], VI x48.2.2.2.1, VI x48.2.2.2.2]⟩) (by kernel_rfl) ?_)
   obtain ⟨x78, hx78, H⟩ := bind_some' H
   refine K_loop ⟨[(2, (Pt 0)), (4, (Pt 1)), (6, (LI x3)), (8, (Pt 2)), (10, (I x78)), (23, (I x4)), (24, (I x48.1))], [.cells [cI p1, cI p2, cI p3, cI p4, cI p5, cL p6], .cells [.nil, .nil], .cells [.own 3 0 x48.2.1, .own 4 0 x48.2.2.1], VI x48.2.2.2.1, VI x48.2.2.2.2]⟩ (loop_ok (fun (s : Int × Int) => ⟨[(2, (Pt 0)), (4, (Pt 1)), (6, (LI x3)), (8, (Pt 2)), (9, (I x48.1)), (10, (I s.1)), (23, (I x4)), (24, (I x48.1)), (29, (I (p6.length : Int))), (30, (I s.2))], [.cells [cI p1, cI p2, cI p3, cI p4, cI p5, cL p6], .cells [.nil, .nil], .cells [.own 3 0 x48.2.1, .own 4 0 x48.2.2.1], VI x48.2.2.2.1, VI x48.2.2.2.2]⟩) (fun (r : Int) => (.exit 2, ⟨[(2, (Pt 0)), (4, (Pt 1)), (6, (LI x3)), (8, (Pt 2)), (10, (I r)), (23, (I x4)), (24, (I x48.1))], [.cells [cI p1, cI p2, cI p3, cI p4, cI p5, cL p6], .cells [.nil, .nil], .cells [.own 3 0 x48.2.1, .own 4 0 x48.2.2.1], VI x48.2.2.2.1, VI x48.2.2.2.2]⟩)) (fun r h => by cases h) (T_ref19_Of_l1_ok k p1 p2 x3 p3 x4 p4 p5 p6 x48.1 x48.1 (p6.length : Int) x48.2.1 x48.2.2.1 x48.2.2.2.1 x48.2.2.2.2) k (0, 0) x78 hx78) rfl ?_
   obtain ⟨hx79, H⟩ := guard_some H
   obtain ⟨hx80, H⟩ := guard_some H
   refine K_rD [.n 1, .l (((x48.2.2.2.1.drop 0).take x48.2.1 ++ ([x78] : List Int)).map (D.int .i64)), .n 1, .l (((x48.2.2.2.2.drop 0).take x48.2.2.1 ++ ([4] : List Int)).map (D.int .i64)), .n 1, .l (((x48.2.2.2.1.drop 0).take x48.2.1 ++ ([x78] : List Int)).map (D.int .i64)), .n 1, .l (((x48.2.2.2.2.drop 0).take x48.2.2.1 ++ ([4] : List Int)).map (D.int .i64)), .n 1, .l (((x48.2.2.2.1.drop 0).take x48.2.1 ++ ([x78] : List Int)).map (D.int .i64)), .n 1, .l (((x48.2.2.2.2.drop 0).take x48.2.2.1 ++ ([4] : List Int)).map (D.int .i64))] ((fun (z1 : St) => [(List.all (([x78] : List Int).map (D.int .i64)) fun d => d.cells.length == (D.cells (.int .i64 0)).length) = true, x48.2.1 + 1 ≤ LIM, (([x78] : List Int).map (D.int .i64)).length = 1, ((x48.2.2.2.1.map (D.int .i64)).drop 0).take x48.2.1 ++ (([x78] : List Int).map (D.int .i64)) = ((x48.2.2.2.1.drop 0).take x48.2.1 ++ ([x78] : List Int)).map (D.int .i64), (List.all (([4] : List Int).map (D.int .i64)) fun d => d.cells.length == (D.cells (.int .i64 0)).length) = true, x48.2.2.1 + 1 ≤ LIM, (([4] : List Int).map (D.int .i64)).length = 1, ((x48.2.2.2.2.map (D.int .i64)).drop 0).take x48.2.2.1 ++ (([4] : List Int).map (D.int .i64)) = ((x48.2.2.2.2.drop 0).take x48.2.2.1 ++ ([4] : List Int)).map (D.int .i64), (List.all (([x78] : List Int).map (D.int .i64)) fun d => d.cells.length == (D.cells (.int .i64 0)).length) = true, x48.2.1 + 1 ≤ LIM, (([x78] : List Int).map (D.int .i64)).length = 1, ((x48.2.2.2.1.map (D.int .i64)).drop 0).take x48.2.1 ++ (([x78] : List Int).map (D.int .i64)) = ((x48.2.2.2.1.drop 0).take x48.2.1 ++ ([x78] : List Int)).map (D.int .i64), (List.all (([4] : List Int).map (D.int .i64)) fun d => d.cells.length == (D.cells (.int .i64 0)).length) = true, x48.2.2.1 + 1 ≤ LIM, (([4] : List Int).map (D.int .i64)).length = 1, ((x48.2.2.2.2.map (D.int .i64)).drop 0).take x48.2.2.1 ++ (([4] : List Int).map (D.int .i64)) = ((x48.2.2.2.2.drop 0).take x48.2.2.1 ++ ([4] : List Int)).map (D.int .i64), z1 = z1, (List.all (([x78] : List Int).map (D.int .i64)) fun d => d.cells.length == (D.cells (.int .i64 0)).length) = true, x48.2.1 + 1 ≤ LIM, (([x78] : List Int).map (D.int .i64)).length = 1, ((x48.2.2.2.1.map (D.int .i64)).drop 0).take x48.2.1 ++ (([x78] : List Int).map (D.int .i64)) = ((x48.2.2.2.1.drop 0).take x48.2.1 ++ ([x78] : List Int)).map (D.int .i64), (List.all (([4] : List Int).map (D.int .i64)) fun d => d.cells.length == (D.cells (.int .i64 0)).length) = true, x48.2.2.1 + 1 ≤ LIM, (([4] : List Int).map (D.int .i64)).length = 1, ((x48.2.2.2.2.map (D.int .i64)).drop 0).take x48.2.2.1 ++ (([4] : List Int).map (D.int .i64)) = ((x48.2.2.2.2.drop 0).take x48.2.2.1 ++ ([4] : List Int)).map (D.int .i64), z1 = z1]) (⟨[(2, (Pt 0)), (4, (Pt 1)), (6, (LI x3)), (8, (Pt 2)), (23, (I x4)), (24, (I x48.1))], [.cells [cI p1, cI p2, cI p3, cI p4, cI p5, cL p6], .cells [.nil, .nil], .cells [.own 3 0 (x48.2.1 + 1), .own 4 0 (x48.2.2.1 + 1)], VI ((x48.2.2.2.1.drop 0).take x48.2.1 ++ ([x78] : List Int)), VI ((x48.2.2.2.2.drop 0).take x48.2.2.1 ++ ([4] : List Int))]⟩)) (by kernel_rfl) (AC (all_ok (D.int .i64) 1 ([x78] : List Int) (fun _ => rfl)) (AC hx79 (AC (by simp) (AC (ap_map (D.int .i64) x48.2.2.2.1 ([x78] : List Int) 0 x48.2.1) (AC (all_ok (D.int .i64) 1 ([4] : List Int) (fun _ => rfl)) (AC hx80 (AC (by simp) (AC (ap_map (D.int .i64) x48.2.2.2.2 ([4] : List Int) 0 x48.2.2.1) (AC (all_ok (D.int .i64) 1 ([x78] : List Int) (fun _ => rfl)) (AC hx79 (AC (by simp) (AC (ap_map (D.int .i64) x48.2.2.2.1 ([x78] : List Int) 0 x48.2.1) (AC (all_ok (D.int .i64) 1 ([4] : List Int) (fun _ => rfl)) (AC hx80 (AC (by simp) (AC (ap_map (D.int .i64) x48.2.2.2.2 ([4] : List Int) 0 x48.2.2.1) (AC rfl (AC (all_ok (D.int .i64) 1 ([x78] : List Int) (fun _ => rfl)) (AC hx79 (AC (by simp) (AC (ap_map (D.int .i64) x48.2.2.2.1 ([x78] : List Int) 0 x48.2.1) (AC (all_ok (D.int .i64) 1 ([4] : List Int) (fun _ => rfl)) (AC hx80 (AC (by simp) (AC (ap_map (D.int .i64) x48.2.2.2.2 ([4] : List Int) 0 x48.2.2.1) (A1 rfl)))))))))))))))))))))))))) ?_
   refine K_blk (K_r [] [] (by kernel_rfl) trivial ?_)
   cases H
   exact K_end (by kernel_rfl)
 · refine K_f (by kernel_rfl) (decide_eq_false hx49) ?_
   refine K_g (by kernel_rfl) ?_
   cases H
   exact K_exit0 rfl (by kernel_rfl)
def T_ref19_Of (k : Nat) (p1 : Int) (p2 : Int) (p3 : Int) (p4 : Int) (p5 : Int) (p6 : List Int) (p7 : List Int) : Option ((List Int) × (List Int) × Int) := match k with
 | 0 => none
 | k + 1 => ((T_ref19_Coordinates k p1 p2 p3 p4 p5 p6 p7).bind fun x1 => (if (!decide (x1.2 = 0)) = true then some ([], [], x1.2) else ((loopT (T_ref19_Of_l2 k p1 p2 x1.1 p3 (x1.1.length : Int) p4 p5 p6) k (0, 0, 0, [], [])).bind fun x81 => some (((x81.2.2.1.drop 0).take x81.1), ((x81.2.2.2.drop 0).take x81.2.1), 0))))
abbrev C_T_ref19_Of (k : Nat) (p1 : Int) (p2 : Int) (p3 : Int) (p4 : Int) (p5 : Int) (p6 : List Int) (p7 : List Int) (r : (List Int) × (List Int) × Int) : Prop := evF X k n_ref19_Of [(.agg [cI p1, cI p2, cI p3, cI p4, cI p5, cL p6]), (LI p7)] [] = some ((.tup [(true, [cL r.1, cL r.2.1]), (false, [cI r.2.2])]), [])
theorem T_ref19_Of_ok (k : Nat) (p1 : Int) (p2 : Int) (p3 : Int) (p4 : Int) (p5 : Int) (p6 : List Int) (p7 : List Int) (r : (List Int) × (List Int) × Int) : T_ref19_Of k p1 p2 p3 p4 p5 p6 p7 = some r → C_T_ref19_Of k p1 p2 p3 p4 p5 p6 p7 r := by
 intro H
 cases k with
 | zero => simp [T_ref19_Of] at H
 | succ k =>
  simp only [T_ref19_Of] at H
  refine F_in X_ref19_Of rfl ?_
  refine K_seq (K_r [] [] (by kernel_rfl) trivial ?_)
  refine K_seq ?_
  obtain ⟨x1, hx1, H⟩ := bind_some' H
  refine K_r [.r (.tup [(false, [cL x1.1]), (false, [cI x1.2])]) []] [C_T_ref19_Coordinates k p1 p2 p3 p4 p5 p6 p7 x1] (by kernel_rfl) (A1 (T_ref19_Coordinates_ok k p1 p2 p3 p4 p5 p6 p7 x1 hx1)) ?_
  refine K_seq (K_seq (K_r [] [] (by kernel_rfl) trivial ?_))
  rcases ite_some H with ⟨hx2, H⟩ | ⟨hx2, H⟩
  · refine K_t (by kernel_rfl) hx2 ?_
    refine K_seq (K_r [] [] (by kernel_rfl) trivial ?_)
    refine K_g (by kernel_rfl) ?_
    cases H
    refine K_ret ?_
    kernel_rfl
  · refine K_f (by kernel_rfl) (Bool.eq_false_iff.2 hx2) ?_
    refine K_g (by kernel_rfl) ?_
    refine K_skip (K_seq (K_r [] [] (by kernel_rfl) trivial ?_))
    refine K_seq (K_seq (K_r [.n x1.1.length] [((x1.1.map (D.int .i64))).length = x1.1.length] (by kernel_rfl) (A1 (List.length_map _)) ?_))
    refine K_block (K_g (by kernel_rfl) ?_)
    refine K_conv (σ' := ⟨[(2, (Pt 0)), (4, (Pt 1)), (6, (LI x1.1)), (8, (Pt 2)), (23, (I (x1.1.length : Int))), (24, (I 0))], [.cells [cI p1, cI p2, cI p3, cI p4, cI p5, cL p6], .cells [.nil, .nil], .cells [.own 3 0 0, .own 4 0 0], VI [], VI []]⟩) (by kernel_rfl) ?_
    obtain ⟨x81, hx81, H⟩ := bind_some' H
    refine K_loop ⟨[(4, (Pt 0)), (8, (Pt 1))], [.cells [.nil, .nil], .cells [.own 2 0 x81.1, .own 3 0 x81.2.1], VI x81.2.2.1, VI x81.2.2.2]⟩ (loop_ok (fun (s : Int × Nat × Nat × (List Int) × (List Int)) => ⟨[(2, (Pt 0)), (4, (Pt 1)), (6, (LI x1.1)), (8, (Pt 2)), (23, (I (x1.1.length : Int))), (24, (I s.1))], [.cells [cI p1, cI p2, cI p3, cI p4, cI p5, cL p6], .cells [.nil, .nil], .cells [.own 3 0 s.2.1, .own 4 0 s.2.2.1], VI s.2.2.2.1, VI s.2.2.2.2]⟩) (fun (r : (Nat × Nat × (List Int) × (List Int))) => (.exit 0, ⟨[(4, (Pt 0)), (8, (Pt 1))], [.cells [.nil, .nil], .cells [.own 2 0 r.1, .own 3 0 r.2.1], VI r.2.2.1, VI r.2.2.2]⟩)) (fun r h => by cases h) (T_ref19_Of_l2_ok k p1 p2 x1.1 p3 (x1.1.length : Int) p4 p5 p6) k (0, 0, 0, [], []) x81 hx81) rfl ?_
    refine K_seq (K_r [] [] (by kernel_rfl) trivial ?_)
    refine K_g (by kernel_rfl) ?_
    cases H
    refine K_ret ?_
    exact Eq.trans (b := some ((.tup [(true, [.d (.list (((x81.2.2.1.map (D.int .i64)).drop 0).take x81.1)), .d (.list (((x81.2.2.2.map (D.int .i64)).drop 0).take x81.2.1))]), (false, [cI 0])]), [])) (by kernel_rfl) (by simp only [dt_map, LI, VI])
def T_keep_Src_Upper_l1 (k : Nat) (p1 : List Int) (x1 : Int) (p2 : List Int) (p3 : List Int) (x17 : Int × Int × Nat × Nat × (List Int) × (List Int)) : Option ((Int × Int × Nat × Nat × (List Int) × (List Int)) ⊕ ((Int × Nat × Nat × (List Int) × (List Int)))) :=
 (if x17.1 < x1 then (T_keep_Src_N k 5 p3 x17.2.1).bind fun x19 => (at? p1 x17.1).bind fun x20 => (if (0 : Int) ≤ (w64 (4 - x19.1)) then (if x17.2.2.1 + 1 ≤ LIM then (if x17.2.2.2.1 + 1 ≤ LIM then some (.inl ((w64 (x17.1 + 1)), x19.2, (x17.2.2.1 + 1), (x17.2.2.2.1 + 1), ((x17.2.2.2.2.1.drop 0).take x17.2.2.1 ++ ([(x20.fdiv (2 ^ (Nat.min (w64 (4 - x19.1)).toNat (IntKind.bits .i64))))] : List Int)), ((x17.2.2.2.2.2.drop 0).take x17.2.2.2.1 ++ ([x19.1] : List Int)))) else none) else none) else none) else some (.inr (x17.2.1, x17.2.2.1, x17.2.2.2.1, x17.2.2.2.2.1, x17.2.2.2.2.2)))
theorem T_keep_Src_Upper_l1_ok (k : Nat) (p1 : List Int) (x1 : Int) (p2 : List Int) (p3 : List Int) : ∀ (x17 : Int × Int × Nat × Nat × (List Int) × (List Int)) (x : (Int × Int × Nat × Nat × (List Int) × (List Int)) ⊕ ((Int × Nat × Nat × (List Int) × (List Int)))), T_keep_Src_Upper_l1 k p1 x1 p2 p3 x17 = some x → evC X (evF X k) k 1 l_keep_Src_Upper_1 ⟨[(0, (Pt 0)), (3, (Pt 1)), (4, (Pt 2)), (5, (Pt 3)), (10, (I x1)), (11, (I x17.1))], [.cells [cL p3, cI x17.2.1], .cells [cL p1, cL p2], .cells [.nil, .nil], .cells [.own 4 0 x17.2.2.1, .own 5 0 x17.2.2.2.1], VI x17.2.2.2.2.1, VI x17.2.2.2.2.2]⟩ = some (outS (fun (s : Int × Int × Nat × Nat × (List Int) × (List Int)) => ⟨[(0, (Pt 0)), (3, (Pt 1)), (4, (Pt 2)), (5, (Pt 3)), (10, (I x1)), (11, (I s.1))], [.cells [cL p3, cI s.2.1], .cells [cL p1, cL p2], .cells [.nil, .nil], .cells [.own 4 0 s.2.2.1, .own 5 0 s.2.2.2.1], VI s.2.2.2.2.1, VI s.2.2.2.2.2]⟩) (fun (r : (Int × Nat × Nat × (List Int) × (List Int))) => (.exit 0, ⟨[(4, (Pt 1)), (5, (Pt 2))], [.cells [cL p3, cI r.1], .cells [.nil, .nil], .cells [.own 3 0 r.2.1, .own 4 0 r.2.2.1], VI r.2.2.2.1, VI r.2.2.2.2]⟩)) x) := by
 intro x17 x H
 unfold T_keep_Src_Upper_l1 at H
 refine K_in ?_
 refine K_seq (K_r [] [] (by kernel_rfl) trivial ?_)
 refine K_seq ?_
 rcases ite_some H with ⟨hx18, H⟩ | ⟨hx18, H⟩
 · refine K_t (by kernel_rfl) (decide_eq_true hx18) ?_
   refine K_g (by kernel_rfl) ?_
   refine K_skip (K_seq (K_block (K_seq (K_r [] [] (by kernel_rfl) trivial ?_))))
   refine K_seq ?_
   obtain ⟨x19, hx19, H⟩ := bind_some' H
   refine K_r [.r (I x19.1) [.cells [cL p3, cI x19.2]]] [C_T_keep_Src_N k 5 p3 x17.2.1 x19] (by kernel_rfl) (A1 (T_keep_Src_N_ok k 5 p3 x17.2.1 x19 hx19)) ?_
   obtain ⟨x20, hx20, H⟩ := bind_some' H
   obtain ⟨hx21, H⟩ := guard_some H
   obtain ⟨hx22, H⟩ := guard_some H
   obtain ⟨hx23, H⟩ := guard_some H
   refine K_rD [.l [.int .i64 x20], .n 1, .l (((x17.2.2.2.2.1.drop 0).take x17.2.2.1 ++ ([(x20.fdiv (2 ^ (Nat.min (w64 (4 - x19.1)).toNat (IntKind.bits .i64))))] : List Int)).map (D.int .i64)), .n 1, .l (((x17.2.2.2.2.2.drop 0).take x17.2.2.2.1 ++ ([x19.1] : List Int)).map (D.int .i64)), .n 1, .l (((x17.2.2.2.2.1.drop 0).take x17.2.2.1 ++ ([(x20.fdiv (2 ^ (Nat.min (w64 (4 - x19.1)).toNat (IntKind.bits .i64))))] : List Int)).map (D.int .i64)), .n 1, .l (((x17.2.2.2.2.2.drop 0).take x17.2.2.2.1 ++ ([x19.1] : List Int)).map (D.int .i64)), .l [.int .i64 x20], .n 1, .l (((x17.2.2.2.2.1.drop 0).take x17.2.2.1 ++ ([(x20.fdiv (2 ^ (Nat.min (w64 (4 - x19.1)).toNat (IntKind.bits .i64))))] : List Int)).map (D.int .i64)), .n 1, .l (((x17.2.2.2.2.2.drop 0).take x17.2.2.2.1 ++ ([x19.1] : List Int)).map (D.int .i64)), .l [.int .i64 x20], .n 1, .l (((x17.2.2.2.2.1.drop 0).take x17.2.2.1 ++ ([(x20.fdiv (2 ^ (Nat.min (w64 (4 - x19.1)).toNat (IntKind.bits .i64))))] : List Int)).map (D.int .i64)), .n 1, .l (((x17.2.2.2.2.2.drop 0).take x17.2.2.2.1 ++ ([x19.1] : List Int)).map (D.int .i64)), .n 1, .l (((x17.2.2.2.2.1.drop 0).take x17.2.2.1 ++ ([(x20.fdiv (2 ^ (Nat.min (w64 (4 - x19.1)).toNat (IntKind.bits .i64))))] : List Int)).map (D.int .i64)), .n 1, .l (((x17.2.2.2.2.2.drop 0).take x17.2.2.2.1 ++ ([x19.1] : List Int)).map (D.int .i64)), .n 1, .l (((x17.2.2.2.2.1.drop 0).take x17.2.2.1 ++ ([(x20.fdiv (2 ^ (Nat.min (w64 (4 - x19.1)).toNat (IntKind.bits .i64))))] : List Int)).map (D.int .i64)), .n 1, .l (((x17.2.2.2.2.2.drop 0).take x17.2.2.2.1 ++ ([x19.1] : List Int)).map (D.int .i64)), .l [.int .i64 x20], .n 1, .l (((x17.2.2.2.2.1.drop 0).take x17.2.2.1 ++ ([(x20.fdiv (2 ^ (Nat.min (w64 (4 - x19.1)).toNat (IntKind.bits .i64))))] : List Int)).map (D.int .i64)), .n 1, .l (((x17.2.2.2.2.2.drop 0).take x17.2.2.2.1 ++ ([x19.1] : List Int)).map (D.int .i64)), .l [.int .i64 x20], .n 1, .l (((x17.2.2.2.2.1.drop 0).take x17.2.2.1 ++ ([(x20.fdiv (2 ^ (Nat.min (w64 (4 - x19.1)).toNat (IntKind.bits .i64))))] : List Int)).map (D.int .i64)), .n 1, .l (((x17.2.2.2.2.2.drop 0).take x17.2.2.2.1 ++ ([x19.1] : List Int)).map (D.int .i64))] ((fun (z1 : St) => [(0 : Int) ≤ x17.1 ∧ x17.1 < (((p1.map (D.int .i64))).length : Int), ((p1.map (D.int .i64)).getD x17.1.toNat (.int .i64 0)).cells = [.int .i64 x20], (0 : Int) ≤ (w64 (4 - x19.1)), (List.all (([(x20.fdiv (2 ^ (Nat.min (w64 (4 - x19.1)).toNat (IntKind.bits .i64))))] : List Int).map (D.int .i64)) fun d => d.cells.length == (D.cells (.int .i64 0)).length) = true, x17.2.2.1 + 1 ≤ LIM, (([(x20.fdiv (2 ^ (Nat.min (w64 (4 - x19.1)).toNat (IntKind.bits .i64))))] : List Int).map (D.int .i64)).length = 1, ((x17.2.2.2.2.1.map (D.int .i64)).drop 0).take x17.2.2.1 ++ (([(x20.fdiv (2 ^ (Nat.min (w64 (4 - x19.1)).toNat (IntKind.bits .i64))))] : List Int).map (D.int .i64)) = ((x17.2.2.2.2.1.drop 0).take x17.2.2.1 ++ ([(x20.fdiv (2 ^ (Nat.min (w64 (4 - x19.1)).toNat (IntKind.bits .i64))))] : List Int)).map (D.int .i64), (List.all (([x19.1] : List Int).map (D.int .i64)) fun d => d.cells.length == (D.cells (.int .i64 0)).length) = true, x17.2.2.2.1 + 1 ≤ LIM, (([x19.1] : List Int).map (D.int .i64)).length = 1, ((x17.2.2.2.2.2.map (D.int .i64)).drop 0).take x17.2.2.2.1 ++ (([x19.1] : List Int).map (D.int .i64)) = ((x17.2.2.2.2.2.drop 0).take x17.2.2.2.1 ++ ([x19.1] : List Int)).map (D.int .i64), (List.all (([(x20.fdiv (2 ^ (Nat.min (w64 (4 - x19.1)).toNat (IntKind.bits .i64))))] : List Int).map (D.int .i64)) fun d => d.cells.length == (D.cells (.int .i64 0)).length) = true, x17.2.2.1 + 1 ≤ LIM, (([(x20.fdiv (2 ^ (Nat.min (w64 (4 - x19.1)).toNat (IntKind.bits .i64))))] : List Int).map (D.int .i64)).length = 1, ((x17.2.2.2.2.1.map (D.int .i64)).drop 0).take x17.2.2.1 ++ (([(x20.fdiv (2 ^ (Nat.min (w64 (4 - x19.1)).toNat (IntKind.bits .i64))))] : List Int).map (D.int .i64)) = ((x17.2.2.2.2.1.drop 0).take x17.2.2.1 ++ ([(x20.fdiv (2 ^ (Nat.min (w64 (4 - x19.1)).toNat (IntKind.bits .i64))))] : List Int)).map (D.int .i64), (List.all (([x19.1] : List Int).map (D.int .i64)) fun d => d.cells.length == (D.cells (.int .i64 0)).length) = true, x17.2.2.2.1 + 1 ≤ LIM, (([x19.1] : List Int).map (D.int .i64)).length = 1, ((x17.2.2.2.2.2.map (D.int .i64)).drop 0).take x17.2.2.2.1 ++ (([x19.1] : List Int).map (D.int .i64)) = ((x17.2.2.2.2.2.drop 0).take x17.2.2.2.1 ++ ([x19.1] : List Int)).map (D.int .i64), z1 = z1, (0 : Int) ≤ x17.1 ∧ x17.1 < (((p1.map (D.int .i64))).length : Int), ((p1.map (D.int .i64)).getD x17.1.toNat (.int .i64 0)).cells = [.int .i64 x20], (0 : Int) ≤ (w64 (4 - x19.1)), (List.all (([(x20.fdiv (2 ^ (Nat.min (w64 (4 - x19.1)).toNat (IntKind.bits .i64))))] : List Int).map (D.int .i64)) fun d => d.cells.length == (D.cells (.int .i64 0)).length) = true, x17.2.2.1 + 1 ≤ LIM, (([(x20.fdiv (2 ^ (Nat.min (w64 (4 - x19.1)).toNat (IntKind.bits .i64))))] : List Int).map (D.int .i64)).length = 1, ((x17.2.2.2.2.1.map (D.int .i64)).drop 0).take x17.2.2.1 ++ (([(x20.fdiv (2 ^ (Nat.min (w64 (4 - x19.1)).toNat (IntKind.bits .i64))))] : List Int).map (D.int .i64)) = ((x17.2.2.2.2.1.drop 0).take x17.2.2.1 ++ ([(x20.fdiv (2 ^ (Nat.min (w64 (4 - x19.1)).toNat (IntKind.bits .i64))))] : List Int)).map (D.int .i64), (List.all (([x19.1] : List Int).map (D.int .i64)) fun d => d.cells.length == (D.cells (.int .i64 0)).length) = true, x17.2.2.2.1 + 1 ≤ LIM, (([x19.1] : List Int).map (D.int .i64)).length = 1, ((x17.2.2.2.2.2.map (D.int .i64)).drop 0).take x17.2.2.2.1 ++ (([x19.1] : List Int).map (D.int .i64)) = ((x17.2.2.2.2.2.drop 0).take x17.2.2.2.1 ++ ([x19.1] : List Int)).map (D.int .i64), z1 = z1, (0 : Int) ≤ x17.1 ∧ x17.1 < (((p1.map (D.int .i64))).length : Int), ((p1.map (D.int .i64)).getD x17.1.toNat (.int .i64 0)).cells = [.int .i64 x20], (0 : Int) ≤ (w64 (4 - x19.1)), (List.all (([(x20.fdiv (2 ^ (Nat.min (w64 (4 - x19.1)).toNat (IntKind.bits .i64))))] : List Int).map (D.int .i64)) fun d => d.cells.length == (D.cells (.int .i64 0)).length) = true, x17.2.2.1 + 1 ≤ LIM, (([(x20.fdiv (2 ^ (Nat.min (w64 (4 - x19.1)).toNat (IntKind.bits .i64))))] : List Int).map (D.int .i64)).length = 1, ((x17.2.2.2.2.1.map (D.int .i64)).drop 0).take x17.2.2.1 ++ (([(x20.fdiv (2 ^ (Nat.min (w64 (4 - x19.1)).toNat (IntKind.bits .i64))))] : List Int).map (D.int .i64)) = ((x17.2.2.2.2.1.drop 0).take x17.2.2.1 ++ ([(x20.fdiv (2 ^ (Nat.min (w64 (4 - x19.1)).toNat (IntKind.bits .i64))))] : List Int)).map (D.int .i64), (List.all (([x19.1] : List Int).map (D.int .i64)) fun d => d.cells.length == (D.cells (.int .i64 0)).length) = true, x17.2.2.2.1 + 1 ≤ LIM, (([x19.1] : List Int).map (D.int .i64)).length = 1, ((x17.2.2.2.2.2.map (D.int .i64)).drop 0).take x17.2.2.2.1 ++ (([x19.1] : List Int).map (D.int .i64)) = ((x17.2.2.2.2.2.drop 0).take x17.2.2.2.1 ++ ([x19.1] : List Int)).map (D.int .i64), (List.all (([(x20.fdiv (2 ^ (Nat.min (w64 (4 - x19.1)).toNat (IntKind.bits .i64))))] : List Int).map (D.int .i64)) fun d => d.cells.length == (D.cells (.int .i64 0)).length) = true, x17.2.2.1 + 1 ≤ LIM, (([(x20.fdiv (2 ^ (Nat.min (w64 (4 - x19.1)).toNat (IntKind.bits .i64))))] : List Int).map (D.int .i64)).length = 1, ((x17.2.2.2.2.1.map (D.int .i64)).drop 0).take x17.2.2.1 ++ (([(x20.fdiv (2 ^ (Nat.min (w64 (4 - x19.1)).toNat (IntKind.bits .i64))))] : List Int).map (D.int .i64)) = ((x17.2.2.2.2.1.drop 0).take x17.2.2.1 ++ ([(x20.fdiv (2 ^ (Nat.min (w64 (4 - x19.1)).toNat (IntKind.bits .i64))))] : List Int)).map (D.int .i64), (List.all (([x19.1] : List Int).map (D.int .i64)) fun d => d.cells.length == (D.cells (.int .i64 0)).length) = true, x17.2.2.2.1 + 1 ≤ LIM, (([x19.1] : List Int).map (D.int .i64)).length = 1, ((x17.2.2.2.2.2.map (D.int .i64)).drop 0).take x17.2.2.2.1 ++ (([x19.1] : List Int).map (D.int .i64)) = ((x17.2.2.2.2.2.drop 0).take x17.2.2.2.1 ++ ([x19.1] : List Int)).map (D.int .i64), z1 = z1, (List.all (([(x20.fdiv (2 ^ (Nat.min (w64 (4 - x19.1)).toNat (IntKind.bits .i64))))] : List Int).map (D.int .i64)) fun d => d.cells.length == (D.cells (.int .i64 0)).length) = true, x17.2.2.1 + 1 ≤ LIM, (([(x20.fdiv (2 ^ (Nat.min (w64 (4 - x19.1)).toNat (IntKind.bits .i64))))] : List Int).map (D.int .i64)).length = 1, ((x17.2.2.2.2.1.map (D.int .i64)).drop 0).take x17.2.2.1 ++ (([(x20.fdiv (2 ^ (Nat.min (w64 (4 - x19.1)).toNat (IntKind.bits .i64))))] : List Int).map (D.int .i64)) = ((x17.2.2.2.2.1.drop 0).take x17.2.2.1 ++ ([(x20.fdiv (2 ^ (Nat.min (w64 (4 - x19.1)).toNat (IntKind.bits .i64))))] : List Int)).map (D.int .i64), (List.all (([x19.1] : List Int).map (D.int .i64)) fun d => d.cells.length == (D.cells (.int .i64 0)).length) = true, x17.2.2.2.1 + 1 ≤ LIM, (([x19.1] : List Int).map (D.int .i64)).length = 1, ((x17.2.2.2.2.2.map (D.int .i64)).drop 0).take x17.2.2.2.1 ++ (([x19.1] : List Int).map (D.int .i64)) = ((x17.2.2.2.2.2.drop 0).take x17.2.2.2.1 ++ ([x19.1] : List Int)).map (D.int .i64), z1 = z1, z1 = z1, (0 : Int) ≤ x17.1 ∧ x17.1 < (((p1.map (D.int .i64))).length : Int), ((p1.map (D.int .i64)).getD x17.1.toNat (.int .i64 0)).cells = [.int .i64 x20], (0 : Int) ≤ (w64 (4 - x19.1)), (List.all (([(x20.fdiv (2 ^ (Nat.min (w64 (4 - x19.1)).toNat (IntKind.bits .i64))))] : List Int).map (D.int .i64)) fun d => d.cells.length == (D.cells (.int .i64 0)).length) = true, x17.2.2.1 + 1 ≤ LIM, (([(x20.fdiv (2 ^ (Nat.min (w64 (4 - x19.1)).toNat (IntKind.bits .i64))))] : List Int).map (D.int .i64)).length = 1, ((x17.2.2.2.2.1.map (D.int .i64)).drop 0).take x17.2.2.1 ++ (([(x20.fdiv (2 ^ (Nat.min (w64 (4 - x19.1)).toNat (IntKind.bits .i64))))] : List Int).map (D.int .i64)) = ((x17.2.2.2.2.1.drop 0).take x17.2.2.1 ++ ([(x20.fdiv (2 ^ (Nat.min (w64 (4 - x19.1)).toNat (IntKind.bits .i64))))] : List Int)).map (D.int .i64), (List.all (([x19.1] : List Int).map (D.int .i64)) fun d => d.cells.length == (D.cells (.int .i64 0)).length) = true, x17.2.2.2.1 + 1 ≤ LIM, (([x19.1] : List Int).map (D.int .i64)).length = 1, ((x17.2.2.2.2.2.map (D.int .i64)).drop 0).take x17.2.2.2.1 ++ (([x19.1] : List Int).map (D.int .i64)) = ((x17.2.2.2.2.2.drop 0).take x17.2.2.2.1 ++ ([x19.1] : List Int)).map (D.int .i64), (0 : Int) ≤ x17.1 ∧ x17.1 < (((p1.map (D.int .i64))).length : Int), ((p1.map (D.int .i64)).getD x17.1.toNat (.int .i64 0)).cells = [.int .i64 x20], (0 : Int) ≤ (w64 (4 - x19.1)), (List.all (([(x20.fdiv (2 ^ (Nat.min (w64 (4 - x19.1)).toNat (IntKind.bits .i64))))] : List Int).map (D.int .i64)) fun d => d.cells.length == (D.cells (.int .i64 0)).length) = true, x17.2.2.1 + 1 ≤ LIM, (([(x20.fdiv (2 ^ (Nat.min (w64 (4 - x19.1)).toNat (IntKind.bits .i64))))] : List Int).map (D.int .i64)).length = 1, ((x17.2.2.2.2.1.map (D.int .i64)).drop 0).take x17.2.2.1 ++ (([(x20.fdiv (2 ^ (Nat.min (w64 (4 - x19.1)).toNat (IntKind.bits .i64))))] : List Int).map (D.int .i64)) = ((x17.2.2.2.2.1.drop 0).take x17.2.2.1 ++ ([(x20.fdiv (2 ^ (Nat.min (w64 (4 - x19.1)).toNat (IntKind.bits .i64))))] : List Int)).map (D.int .i64), (List.all (([x19.1] : List Int).map (D.int .i64)) fun d => d.cells.length == (D.cells (.int .i64 0)).length) = true, x17.2.2.2.1 + 1 ≤ LIM, (([x19.1] : List Int).map (D.int .i64)).length = 1, ((x17.2.2.2.2.2.map (D.int .i64)).drop 0).take x17.2.2.2.1 ++ (([x19.1] : List Int).map (D.int .i64)) = ((x17.2.2.2.2.2.drop 0).take x17.2.2.2.1 ++ ([x19.1] : List Int)).map (D.int .i64), z1 = z1, z1 = z1]) (⟨[(0, (Pt 0)), (3, (Pt 1)), (4, (Pt 2)), (5, (Pt 3)), (10, (I x1)), (11, (I x17.1))], [.cells [cL p3, cI x19.2], .cells [cL p1, cL p2], .cells [.nil, .nil], .cells [.own 4 0 (x17.2.2.1 + 1), .own 5 0 (x17.2.2.2.1 + 1)], VI ((x17.2.2.2.2.1.drop 0).take x17.2.2.1 ++ ([(x20.fdiv (2 ^ (Nat.min (w64 (4 - x19.1)).toNat (IntKind.bits .i64))))] : List Int)), VI ((x17.2.2.2.2.2.drop 0).take x17.2.2.2.1 ++ ([x19.1] : List Int))]⟩)) (by kernel_rfl) (AC (at_ok hx20 (D.int .i64) (.int .i64 0)).1 (AC (at_ok hx20 (D.int .i64) (.int .i64 0)).2 (AC hx21 (AC (all_ok (D.int .i64) 1 ([(x20.fdiv (2 ^ (Nat.min (w64 (4 - x19.1)).toNat (IntKind.bits .i64))))] : List Int) (fun _ => rfl)) (AC hx22 (AC (by simp) (AC (ap_map (D.int .i64) x17.2.2.2.2.1 ([(x20.fdiv (2 ^ (Nat.min (w64 (4 - x19.1)).toNat (IntKind.bits .i64))))] : List Int) 0 x17.2.2.1) (AC (all_ok (D.int .i64) 1 ([x19.1] : List Int) (fun _ => rfl)) (AC hx23 (AC (by simp) (AC (ap_map (D.int .i64) x17.2.2.2.2.2 ([x19.1] : List Int) 0 x17.2.2.2.1) (AC (all_ok (D.int .i64) 1 ([(x20.fdiv (2 ^ (Nat.min (w64 (4 - x19.1)).toNat (IntKind.bits .i64))))] : List Int) (fun _ => rfl)) (AC hx22 (AC (by simp) (AC (ap_map (D.int .i64) x17.2.2.2.2.1 ([(x20.fdiv (2 ^ (Nat.min (w64 (4 - x19.1)).toNat (IntKind.bits .i64))))] : List Int) 0 x17.2.2.1) (AC (all_ok (D.int .i64) 1 ([x19.1] : List Int) (fun _ => rfl)) (AC hx23 (AC (by simp) (AC (ap_map (D.int .i64) x17.2.2.2.2.2 ([x19.1] : List Int) 0 x17.2.2.2.1) (AC rfl (AC (at_ok hx20 (D.int .i64) (.int .i64 0)).1 (AC (at_ok hx20 (D.int .i64) (.int .i64 0)).2 (AC hx21 (AC (all_ok (D.int .i64) 1 ([(x20.fdiv (2 ^ (Nat.min (w64 (4 - x19.1)).toNat (IntKind.bits .i64))))] : List Int) (fun _ => rfl)) (AC hx22 (AC (by simp) (AC (ap_map (D.int .i64) x17.2.2.2.2.1 ([(x20.fdiv (2 ^ (Nat.min (w64 (4 - x19.1)).toNat (IntKind.bits .i64))))] : List Int) 0 x17.2.2.1) (AC (all_ok (D.int .i64) 1 ([x19.1] : List Int) (fun _ => rfl)) (AC hx23 (AC (by simp) (AC (ap_map (D.int .i64) x17.2.2.2.2.2 ([x19.1] : List Int) 0 x17.2.2.2.1) (AC rfl (AC (at_ok hx20 (D.int .i64) (.int .i64 0)).1 (AC (at_ok hx20 (D.int .i64) (.int .i64 0)).2 (AC hx21 (AC (all_ok (D.int .i64) 1 ([(x20.fdiv (2 ^ (Nat.min (w64 (4 - x19.1)).toNat (IntKind.bits .i64))))] : List Int) (fun _ => rfl)) (AC hx22 (AC (by simp) (AC (ap_map (D.int .i64) x17.2.2.2.2.1 ([(x20.fdiv (2 ^ (Nat.min (w64 (4 - x19.1)).toNat (IntKind.bits .i64))))] : List Int) 0 x17.2.2.1) (AC (all_ok (D.int .i64) 1 ([x19.1] : List Int) (fun _ => rfl)) (AC hx23 (AC (by simp) (AC (ap_map (D.int .i64) x17.2.2.2.2.2 ([x19.1] : List Int) 0 x17.2.2.2.1) (AC (all_ok (D.int .i64) 1 ([(x20.fdiv (2 ^ (Nat.min (w64 (4 - x19.1)).toNat (IntKind.bits .i64))))] : List Int) (fun _ => rfl)) (AC hx22 (AC (by simp) (AC (ap_map (D.int .i64) x17.2.2.2.2.1 ([(x20.fdiv (2 ^ (Nat.min (w64 (4 - x19.1)).toNat (IntKind.bits .i64))))] : List Int) 0 x17.2.2.1) (AC (all_ok (D.int .i64) 1 ([x19.1] : List Int) (fun _ => rfl)) (AC hx23 (AC (by simp) (AC (ap_map (D.int .i64) x17.2.2.2.2.2 ([x19.1] : List Int) 0 x17.2.2.2.1) (AC rfl (AC (all_ok (D.int .i64) 1 ([(x20.fdiv (2 ^ (Nat.min (w64 (4 - x19.1)).toNat (IntKind.bits .i64))))] : List Int) (fun _ => rfl)) (AC hx22 (AC (by simp) (AC (ap_map (D.int .i64) x17.2.2.2.2.1 ([(x20.fdiv (2 ^ (Nat.min (w64 (4 - x19.1)).toNat (IntKind.bits .i64))))] : List Int) 0 x17.2.2.1) (AC (all_ok (D.int .i64) 1 ([x19.1] : List Int) (fun _ => rfl)) (AC hx23 (AC (by simp) (AC (ap_map (D.int .i64) x17.2.2.2.2.2 ([x19.1] : List Int) 0 x17.2.2.2.1) (AC rfl (AC rfl (AC (at_ok hx20 (D.int .i64) (.int .i64 0)).1 (AC (at_ok hx20 (D.int .i64) (.int .i64 0)).2 (AC hx21 (AC (all_ok (D.int .i64) 1 ([(x20.fdiv (2 ^ (Nat.min (w64 (4 - x19.1)).toNat (IntKind.bits .i64))))] : List Int) (fun _ => rfl)) (AC hx22 (AC (by simp) (AC (ap_map (D.int .i64) x17.2.2.2.2.1 ([(x20.fdiv (2 ^ (Nat.min (w64 (4 - x19.1)).toNat (IntKind.bits .i64))))] : List Int) 0 x17.2.2.1) (AC (all_ok (D.int .i64) 1 ([x19.1] : List Int) (fun _ => rfl)) (AC hx23 (AC (by simp) (AC (ap_map (D.int .i64) x17.2.2.2.2.2 ([x19.1] : List Int) 0 x17.2.2.2.1) (AC (at_ok hx20 (D.int .i64) (.int .i64 0)).1 (AC (at_ok hx20 (D.int .i64) (.int .i64 0)).2 (AC hx21 (AC (all_ok (D.int .i64) 1 ([(x20.fdiv (2 ^ (Nat.min (w64 (4 - x19.1)).toNat (IntKind.bits .i64))))] : List Int) (fun _ => rfl)) (AC hx22 (AC (by simp) (AC (ap_map (D.int .i64) x17.2.2.2.2.1 ([(x20.fdiv (2 ^ (Nat.min (w64 (4 - x19.1)).toNat (IntKind.bits .i64))))] : List Int) 0 x17.2.2.1) (AC (all_ok (D.int .i64) 1 ([x19.1] : List Int) (fun _ => rfl)) (AC hx23 (AC (by simp) (AC (ap_map (D.int .i64) x17.2.2.2.2.2 ([x19.1] : List Int) 0 x17.2.2.2.1) (AC rfl (A1 rfl)))))))))))))))))))))))))))))))))))))))))))))))))))))))))))))))))))))))))))))))))))))) ?_
   refine K_blk (K_r [] [] (by kernel_rfl) trivial ?_)
   cases H
   exact K_end (by kernel_rfl)
 · refine K_f (by kernel_rfl) (decide_eq_false hx18) ?_
   refine K_g (by kernel_rfl) ?_
   cases H
   exact K_exit0 rfl (by kernel_rfl)
def T_keep_Src_Upper (k : Nat) (p1 : List Int) (p2 : List Int) (p3 : List Int) (p4 : Int) : Option ((List Int) × (List Int) × Int) := match k with
 | 0 => none
 | k + 1 => ((loopT (T_keep_Src_Upper_l1 k p1 (p1.length : Int) p2 p3) k (0, p4, 0, 0, [], [])).bind fun x24 => some (((x24.2.2.2.1.drop 0).take x24.2.1), ((x24.2.2.2.2.drop 0).take x24.2.2.1), x24.1))
abbrev C_T_keep_Src_Upper (k : Nat) (p1 : List Int) (p2 : List Int) (p3 : List Int) (p4 : Int) (r : (List Int) × (List Int) × Int) : Prop := evF X k n_keep_Src_Upper [(Pt 0), (.agg [cL p1, cL p2])] [.cells [cL p3, cI p4]] = some ((.agg [cL r.1, cL r.2.1]), [.cells [cL p3, cI r.2.2]])
theorem T_keep_Src_Upper_ok (k : Nat) (p1 : List Int) (p2 : List Int) (p3 : List Int) (p4 : Int) (r : (List Int) × (List Int) × Int) : T_keep_Src_Upper k p1 p2 p3 p4 = some r → C_T_keep_Src_Upper k p1 p2 p3 p4 r := by
 intro H
 cases k with
 | zero => simp [T_keep_Src_Upper] at H
 | succ k =>
  simp only [T_keep_Src_Upper] at H
  refine F_in X_keep_Src_Upper rfl ?_
  refine K_seq (K_r [] [] (by kernel_rfl) trivial ?_)
  refine K_seq (K_r [] [] (by kernel_rfl) trivial ?_)
  refine K_seq (K_seq (K_r [.n p1.length] [((p1.map (D.int .i64))).length = p1.length] (by kernel_rfl) (A1 (List.length_map _)) ?_))
  refine K_block (K_g (by kernel_rfl) ?_)
  refine K_conv (σ' := ⟨[(0, (Pt 0)), (3, (Pt 1)), (4, (Pt 2)), (5, (Pt 3)), (10, (I (p1.length : Int))), (11, (I 0))], [.cells [cL p3, cI p4], .cells [cL p1, cL p2], .cells [.nil, .nil], .cells [.own 4 0 0, .own 5 0 0], VI [], VI []]⟩) (by kernel_rfl) ?_
  obtain ⟨x24, hx24, H⟩ := bind_some' H
  refine K_loop ⟨[(4, (Pt 1)), (5, (Pt 2))], [.cells [cL p3, cI x24.1], .cells [.nil, .nil], .cells [.own 3 0 x24.2.1, .own 4 0 x24.2.2.1], VI x24.2.2.2.1, VI x24.2.2.2.2]⟩ (loop_ok (fun (s : Int × Int × Nat × Nat × (List Int) × (List Int)) => ⟨[(0, (Pt 0)), (3, (Pt 1)), (4, (Pt 2)), (5, (Pt 3)), (10, (I (p1.length : Int))), (11, (I s.1))], [.cells [cL p3, cI s.2.1], .cells [cL p1, cL p2], .cells [.nil, .nil], .cells [.own 4 0 s.2.2.1, .own 5 0 s.2.2.2.1], VI s.2.2.2.2.1, VI s.2.2.2.2.2]⟩) (fun (r : (Int × Nat × Nat × (List Int) × (List Int))) => (.exit 0, ⟨[(4, (Pt 1)), (5, (Pt 2))], [.cells [cL p3, cI r.1], .cells [.nil, .nil], .cells [.own 3 0 r.2.1, .own 4 0 r.2.2.1], VI r.2.2.2.1, VI r.2.2.2.2]⟩)) (fun r h => by cases h) (T_keep_Src_Upper_l1_ok k p1 (p1.length : Int) p2 p3) k (0, p4, 0, 0, [], []) x24 hx24) rfl ?_
  refine K_seq (K_r [] [] (by kernel_rfl) trivial ?_)
  refine K_g (by kernel_rfl) ?_
  cases H
  refine K_ret ?_
  exact Eq.trans (b := some ((.agg [.d (.list (((x24.2.2.2.1.map (D.int .i64)).drop 0).take x24.2.1)), .d (.list (((x24.2.2.2.2.map (D.int .i64)).drop 0).take x24.2.2.1))]), [.cells [cL p3, cI x24.1]])) (by kernel_rfl) (by simp only [dt_map, LI, VI])
def T_ref19_Valid_l1 (k : Nat) (x3 : Int) (p7 : List Int) (p8 : List Int) (x17 : Int) : Option (Int ⊕ (Unit ⊕ Unit)) :=
 (if x17 < x3 then ((((at? p8 x17).bind fun x19 => (if (decide (x19 < 0) || decide (4 < x19)) = true then some true else ((at? p7 x17).bind fun x22 => (if x22 < 0 then some true else (if (0 : Int) ≤ x19 then some (decide ((w64 (1 * 2 ^ (Nat.min x19.toNat (IntKind.bits .i64)))) ≤ x22)) else none)))))).bind fun x26 => (if x26 = true then some (.inr (.inr ())) else some (.inl (w64 (x17 + 1))))) else some (.inr (.inl ())))
theorem T_ref19_Valid_l1_ok (k : Nat) (x3 : Int) (p7 : List Int) (p8 : List Int) : ∀ (x17 : Int) (x : Int ⊕ (Unit ⊕ Unit)), T_ref19_Valid_l1 k x3 p7 p8 x17 = some x → evC X (evF X k) k 0 l_ref19_Valid_1 ⟨[(3, (Pt 0)), (27, (I x3)), (28, (I x17))], [.cells [cL p7, cL p8]]⟩ = some (outS (fun (s : Int) => ⟨[(3, (Pt 0)), (27, (I x3)), (28, (I s))], [.cells [cL p7, cL p8]]⟩) (fun (r : Unit ⊕ Unit) => Sum.elim (fun y => (.exit 0, ⟨[], []⟩)) (fun y => (.ret, ⟨[(4, (B false))], []⟩)) r) x) := by
 intro x17 x H
 unfold T_ref19_Valid_l1 at H
 refine K_in ?_
 refine K_seq (K_r [] [] (by kernel_rfl) trivial ?_)
 refine K_seq ?_
 rcases ite_some H with ⟨hx18, H⟩ | ⟨hx18, H⟩
 · refine K_t (by kernel_rfl) (decide_eq_true hx18) ?_
   refine K_g (by kernel_rfl) ?_
   refine K_skip (K_seq (K_block (K_seq (K_r [] [] (by kernel_rfl) trivial ?_))))
   refine K_seq ?_
   obtain ⟨x26, hx26, H⟩ := bind_some' H
   refine K_of ⟨[(3, (Pt 0)), (27, (I x3)), (28, (I x17)), (66, (B x26))], [.cells [cL p7, cL p8]]⟩ ?_ ?_
   · clear H; have H := hx26; clear hx26; refine K_in ?_
     obtain ⟨x19, hx19, H⟩ := bind_some' H
     rcases ite_some H with ⟨hx21, H⟩ | ⟨hx21, H⟩
     · refine K_r [.l [.int .i64 x19], .m, .l [.int .i64 x19], .b true, .b true] [(0 : Int) ≤ x17 ∧ x17 < (((p8.map (D.int .i64))).length : Int), ((p8.map (D.int .i64)).getD x17.toNat (.int .i64 0)).cells = [.int .i64 x19], decide (x19 < 0) = false → AllT [(0 : Int) ≤ x17 ∧ x17 < (((p8.map (D.int .i64))).length : Int), ((p8.map (D.int .i64)).getD x17.toNat (.int .i64 0)).cells = [.int .i64 x19]], ([.cells [cL p7, cL p8]] : Heap) = [.cells [cL p7, cL p8]], (decide (x19 < 0) || decide (4 < x19)) = true, true = true] (by kernel_rfl) (AC (at_ok hx19 (D.int .i64) (.int .i64 0)).1 (AC (at_ok hx19 (D.int .i64) (.int .i64 0)).2 (AC (fun _ => (AC (at_ok hx19 (D.int .i64) (.int .i64 0)).1 (A1 (at_ok hx19 (D.int .i64) (.int .i64 0)).2))) (AC rfl (AC hx21 (A1 rfl)))))) ?_
       cases H
       exact K_end (by kernel_rfl)
     · obtain ⟨x22, hx22, H⟩ := bind_some' H
       rcases ite_some H with ⟨hx24, H⟩ | ⟨hx24, H⟩
       · refine K_r [.l [.int .i64 x19], .m, .l [.int .i64 x19], .b false, .l [.int .i64 x22], .b true] [(0 : Int) ≤ x17 ∧ x17 < (((p8.map (D.int .i64))).length : Int), ((p8.map (D.int .i64)).getD x17.toNat (.int .i64 0)).cells = [.int .i64 x19], decide (x19 < 0) = false → AllT [(0 : Int) ≤ x17 ∧ x17 < (((p8.map (D.int .i64))).length : Int), ((p8.map (D.int .i64)).getD x17.toNat (.int .i64 0)).cells = [.int .i64 x19]], ([.cells [cL p7, cL p8]] : Heap) = [.cells [cL p7, cL p8]], (decide (x19 < 0) || decide (4 < x19)) = false, (0 : Int) ≤ x17 ∧ x17 < (((p7.map (D.int .i64))).length : Int), ((p7.map (D.int .i64)).getD x17.toNat (.int .i64 0)).cells = [.int .i64 x22], decide (x22 < 0) = true] (by kernel_rfl) (AC (at_ok hx19 (D.int .i64) (.int .i64 0)).1 (AC (at_ok hx19 (D.int .i64) (.int .i64 0)).2 (AC (fun _ => (AC (at_ok hx19 (D.int .i64) (.int .i64 0)).1 (A1 (at_ok hx19 (D.int .i64) (.int .i64 0)).2))) (AC rfl (AC (Bool.eq_false_iff.2 hx21) (AC (at_ok hx22 (D.int .i64) (.int .i64 0)).1 (AC (at_ok hx22 (D.int .i64) (.int .i64 0)).2 (A1 (decide_eq_true hx24))))))))) ?_
         cases H
         exact K_end (by kernel_rfl)
       · obtain ⟨hx25, H⟩ := guard_some H
         refine K_r [.l [.int .i64 x19], .m, .l [.int .i64 x19], .b false, .l [.int .i64 x22], .b false, .l [.int .i64 x22], .l [.int .i64 x19]] [(0 : Int) ≤ x17 ∧ x17 < (((p8.map (D.int .i64))).length : Int), ((p8.map (D.int .i64)).getD x17.toNat (.int .i64 0)).cells = [.int .i64 x19], decide (x19 < 0) = false → AllT [(0 : Int) ≤ x17 ∧ x17 < (((p8.map (D.int .i64))).length : Int), ((p8.map (D.int .i64)).getD x17.toNat (.int .i64 0)).cells = [.int .i64 x19]], ([.cells [cL p7, cL p8]] : Heap) = [.cells [cL p7, cL p8]], (decide (x19 < 0) || decide (4 < x19)) = false, (0 : Int) ≤ x17 ∧ x17 < (((p7.map (D.int .i64))).length : Int), ((p7.map (D.int .i64)).getD x17.toNat (.int .i64 0)).cells = [.int .i64 x22], decide (x22 < 0) = false, (0 : Int) ≤ x17 ∧ x17 < (((p7.map (D.int .i64))).length : Int), ((p7.map (D.int .i64)).getD x17.toNat (.int .i64 0)).cells = [.int .i64 x22], (0 : Int) ≤ x17 ∧ x17 < (((p8.map (D.int .i64))).length : Int), ((p8.map (D.int .i64)).getD x17.toNat (.int .i64 0)).cells = [.int .i64 x19], (0 : Int) ≤ x19] (by kernel_rfl) (AC (at_ok hx19 (D.int .i64) (.int .i64 0)).1 (AC (at_ok hx19 (D.int .i64) (.int .i64 0)).2 (AC (fun _ => (AC (at_ok hx19 (D.int .i64) (.int .i64 0)).1 (A1 (at_ok hx19 (D.int .i64) (.int .i64 0)).2))) (AC rfl (AC (Bool.eq_false_iff.2 hx21) (AC (at_ok hx22 (D.int .i64) (.int .i64 0)).1 (AC (at_ok hx22 (D.int .i64) (.int .i64 0)).2 (AC (decide_eq_false hx24) (AC (at_ok hx22 (D.int .i64) (.int .i64 0)).1 (AC (at_ok hx22 (D.int .i64) (.int .i64 0)).2 (AC (at_ok hx19 (D.int .i64) (.int .i64 0)).1 (AC (at_ok hx19 (D.int .i64) (.int .i64 0)).2 (A1 hx25))))))))))))) ?_
         cases H
         exact K_end (by kernel_rfl)
   rcases ite_some H with ⟨hx27, H⟩ | ⟨hx27, H⟩
   · refine K_t (by kernel_rfl) hx27 ?_
     refine K_seq (K_r [] [] (by kernel_rfl) trivial ?_)
     refine K_g (by kernel_rfl) ?_
     cases H
     exact K_ret (by kernel_rfl)
   · refine K_f (by kernel_rfl) (Bool.eq_false_iff.2 hx27) ?_
     refine K_g (by kernel_rfl) ?_
     refine K_skip (K_blk (K_r [] [] (by kernel_rfl) trivial ?_))
     cases H
     exact K_end (by kernel_rfl)
 · refine K_f (by kernel_rfl) (decide_eq_false hx18) ?_
   refine K_g (by kernel_rfl) ?_
   cases H
   exact K_exit0 rfl (by kernel_rfl)
def T_ref19_Valid (k : Nat) (p1 : Int) (p2 : Int) (p3 : Int) (p4 : Int) (p5 : Int) (p6 : List Int) (p7 : List Int) (p8 : List Int) : Option Bool := match k with
 | 0 => none
 | k + 1 => ((T_ref19_Check k p1 p2 p3 p4 p5 p6).bind fun x1 => (if (((!decide (x1 = 0)) || (!decide ((p7.length : Int) = p5))) || (!decide ((p8.length : Int) = p5))) = true then some false else ((loopT (T_ref19_Valid_l1 k (p8.length : Int) p7 p8) k 0).bind fun x28 => (match x28 with | .inl x29 => some true | .inr x30 => some false))))
abbrev C_T_ref19_Valid (k : Nat) (p1 : Int) (p2 : Int) (p3 : Int) (p4 : Int) (p5 : Int) (p6 : List Int) (p7 : List Int) (p8 : List Int) (r : Bool) : Prop := evF X k n_ref19_Valid [(.agg [cI p1, cI p2, cI p3, cI p4, cI p5, cL p6]), (.agg [cL p7, cL p8])] [] = some ((B r), [])
theorem T_ref19_Valid_ok (k : Nat) (p1 : Int) (p2 : Int) (p3 : Int) (p4 : Int) (p5 : Int) (p6 : List Int) (p7 : List Int) (p8 : List Int) (r : Bool) : T_ref19_Valid k p1 p2 p3 p4 p5 p6 p7 p8 = some r → C_T_ref19_Valid k p1 p2 p3 p4 p5 p6 p7 p8 r := by
 intro H
 cases k with
 | zero => simp [T_ref19_Valid] at H
 | succ k =>
  simp only [T_ref19_Valid] at H
  refine F_in X_ref19_Valid rfl ?_
  refine K_seq (K_r [] [] (by kernel_rfl) trivial ?_)
  refine K_seq ?_
  refine K_seq ?_
  obtain ⟨x1, hx1, H⟩ := bind_some' H
  refine K_r [.r (I x1) [], .m, .n p7.length, .m, .n p8.length] ((fun (z1 : Heap) => [C_T_ref19_Check k p1 p2 p3 p4 p5 p6 x1, (!decide (x1 = 0)) = false → AllT [((p7.map (D.int .i64))).length = p7.length], z1 = z1, ((!decide (x1 = 0)) || (!decide ((p7.length : Int) = p5))) = false → AllT [((p8.map (D.int .i64))).length = p8.length], z1 = z1]) [.cells [cI p1, cI p2, cI p3, cI p4, cI p5, cL p6], .cells [cL p7, cL p8]]) (by kernel_rfl) (AC (T_ref19_Check_ok k p1 p2 p3 p4 p5 p6 x1 hx1) (AC (fun _ => (A1 (List.length_map _))) (AC rfl (AC (fun _ => (A1 (List.length_map _))) (A1 rfl))))) ?_
  rcases ite_some H with ⟨hx2, H⟩ | ⟨hx2, H⟩
  · refine K_t (by kernel_rfl) hx2 ?_
    refine K_seq (K_r [] [] (by kernel_rfl) trivial ?_)
    refine K_g (by kernel_rfl) ?_
    cases H
    refine K_ret ?_
    kernel_rfl
  · refine K_f (by kernel_rfl) (Bool.eq_false_iff.2 hx2) ?_
    refine K_g (by kernel_rfl) ?_
    refine K_skip (K_seq (K_seq (K_r [.n p8.length] [((p8.map (D.int .i64))).length = p8.length] (by kernel_rfl) (A1 (List.length_map _)) ?_)))
    refine K_block (K_conv (σ' := ⟨[(3, (Pt 0)), (27, (I (p8.length : Int))), (28, (I 0))], [.cells [cL p7, cL p8]]⟩) (by kernel_rfl) ?_)
    obtain ⟨x28, hx28, H⟩ := bind_some' H
    cases x28 with
    | inl x29 =>
     dsimp only at H
     refine K_loop ⟨[], []⟩ (loop_ok (fun (s : Int) => ⟨[(3, (Pt 0)), (27, (I (p8.length : Int))), (28, (I s))], [.cells [cL p7, cL p8]]⟩) (fun (r : Unit ⊕ Unit) => Sum.elim (fun y => (.exit 0, ⟨[], []⟩)) (fun y => (.ret, ⟨[(4, (B false))], []⟩)) r) (fun r h => by cases r <;> cases h) (T_ref19_Valid_l1_ok k (p8.length : Int) p7 p8) k 0 (.inl x29) hx28) rfl ?_
     refine K_seq (K_r [] [] (by kernel_rfl) trivial ?_)
     refine K_g (by kernel_rfl) ?_
     cases H
     refine K_ret ?_
     kernel_rfl
    | inr x30 =>
     dsimp only at H
     cases H
     refine K_loopr ⟨[(4, (B false))], []⟩ (loop_ok (fun (s : Int) => ⟨[(3, (Pt 0)), (27, (I (p8.length : Int))), (28, (I s))], [.cells [cL p7, cL p8]]⟩) (fun (r : Unit ⊕ Unit) => Sum.elim (fun y => (.exit 0, ⟨[], []⟩)) (fun y => (.ret, ⟨[(4, (B false))], []⟩)) r) (fun r h => by cases r <;> cases h) (T_ref19_Valid_l1_ok k (p8.length : Int) p7 p8) k 0 (.inr x30) hx28) ?_
     kernel_rfl
def T_ref19_Region_l1 (k : Nat) (p1 : Int) (p2 : Int) (p3 : Int) (x4 : Int) (p4 : Int) (p5 : Int) (p6 : List Int) (p7 : List Int) (p8 : List Int) (x30 : Nat × Int × (List (Int × Int))) : Option ((Nat × Int × (List (Int × Int))) ⊕ ((Nat × (List (Int × Int))))) :=
 (if x30.2.1 < x4 then (at? p7 x30.2.1).bind fun x32 => (at? p8 x30.2.1).bind fun x33 => (if (0 : Int) ≤ (w64 (4 - x33)) then (at? p8 x30.2.1).bind fun x35 => (if (0 : Int) ≤ (w64 (4 - x35)) then ((if (decide (0 < (w64 (x32 * 2 ^ (Nat.min (w64 (4 - x33)).toNat (IntKind.bits .i64))))) && decide ((w64 (x32 * 2 ^ (Nat.min (w64 (4 - x33)).toNat (IntKind.bits .i64)))) ≤ (p6.length : Int))) = true then ((at? p6 (w64 ((w64 (x32 * 2 ^ (Nat.min (w64 (4 - x33)).toNat (IntKind.bits .i64)))) - 1))).bind fun x38 => some x38) else some (-1099511627776))).bind fun x39 => ((if (w64 ((w64 ((w64 (x32 * 2 ^ (Nat.min (w64 (4 - x33)).toNat (IntKind.bits .i64)))) + (w64 (1 * 2 ^ (Nat.min (w64 (4 - x35)).toNat (IntKind.bits .i64)))))) - 1)) < (p6.length : Int) then ((at? p6 (w64 ((w64 ((w64 (x32 * 2 ^ (Nat.min (w64 (4 - x33)).toNat (IntKind.bits .i64)))) + (w64 (1 * 2 ^ (Nat.min (w64 (4 - x35)).toNat (IntKind.bits .i64)))))) - 1))).bind fun x41 => some (w64 (x41 - 1))) else some 1099511627776)).bind fun x42 => ((if (p6.length : Int) < (w64 (x32 * 2 ^ (Nat.min (w64 (4 - x33)).toNat (IntKind.bits .i64)))) then some (1, 0) else some (x39, x42))).bind fun x44 => (if x30.1 + 1 ≤ LIM then some (.inl ((x30.1 + 1), (w64 (x30.2.1 + 1)), ((x30.2.2.drop 0).take x30.1 ++ ([(x44.1, x44.2)] : List (Int × Int))))) else none) else none) else none) else some (.inr (x30.1, x30.2.2)))
theorem T_ref19_Region_l1_ok (k : Nat) (p1 : Int) (p2 : Int) (p3 : Int) (x4 : Int) (p4 : Int) (p5 : Int) (p6 : List Int) (p7 : List Int) (p8 : List Int) : ∀ (x30 : Nat × Int × (List (Int × Int))) (x : (Nat × Int × (List (Int × Int))) ⊕ ((Nat × (List (Int × Int))))), T_ref19_Region_l1 k p1 p2 p3 x4 p4 p5 p6 p7 p8 x30 = some x → evC X (evF X k) k 0 l_ref19_Region_1 ⟨[(2, (Pt 0)), (3, (Pt 1)), (6, (.one (.own 2 0 x30.1))), (17, (I x4)), (18, (I x30.2.1))], [.cells [cI p1, cI p2, cI p3, cI p4, cI p5, cL p6], .cells [cL p7, cL p8], .vals (.agg [(.int .i64 0), (.int .i64 0)]) (x30.2.2.map e_st0)]⟩ = some (outS (fun (s : Nat × Int × (List (Int × Int))) => ⟨[(2, (Pt 0)), (3, (Pt 1)), (6, (.one (.own 2 0 s.1))), (17, (I x4)), (18, (I s.2.1))], [.cells [cI p1, cI p2, cI p3, cI p4, cI p5, cL p6], .cells [cL p7, cL p8], .vals (.agg [(.int .i64 0), (.int .i64 0)]) (s.2.2.map e_st0)]⟩) (fun (r : (Nat × (List (Int × Int)))) => (.exit 0, ⟨[(6, (.one (.own 0 0 r.1)))], [.vals (.agg [(.int .i64 0), (.int .i64 0)]) (r.2.map e_st0)]⟩)) x) := by
 intro x30 x H
 unfold T_ref19_Region_l1 at H
 refine K_in ?_
 refine K_seq (K_r [] [] (by kernel_rfl) trivial ?_)
 refine K_seq ?_
 rcases ite_some H with ⟨hx31, H⟩ | ⟨hx31, H⟩
 · refine K_t (by kernel_rfl) (decide_eq_true hx31) ?_
   refine K_g (by kernel_rfl) ?_
   refine K_skip (K_seq (K_block (K_seq (K_r [] [] (by kernel_rfl) trivial ?_))))
   refine K_seq ?_
   obtain ⟨x32, hx32, H⟩ := bind_some' H
   obtain ⟨x33, hx33, H⟩ := bind_some' H
   obtain ⟨hx34, H⟩ := guard_some H
   refine K_r [.l [.int .i64 x32], .l [.int .i64 x33]] [(0 : Int) ≤ x30.2.1 ∧ x30.2.1 < (((p7.map (D.int .i64))).length : Int), ((p7.map (D.int .i64)).getD x30.2.1.toNat (.int .i64 0)).cells = [.int .i64 x32], (0 : Int) ≤ x30.2.1 ∧ x30.2.1 < (((p8.map (D.int .i64))).length : Int), ((p8.map (D.int .i64)).getD x30.2.1.toNat (.int .i64 0)).cells = [.int .i64 x33], (0 : Int) ≤ (w64 (4 - x33))] (by kernel_rfl) (AC (at_ok hx32 (D.int .i64) (.int .i64 0)).1 (AC (at_ok hx32 (D.int .i64) (.int .i64 0)).2 (AC (at_ok hx33 (D.int .i64) (.int .i64 0)).1 (AC (at_ok hx33 (D.int .i64) (.int .i64 0)).2 (A1 hx34))))) ?_
   refine K_seq ?_
   obtain ⟨x35, hx35, H⟩ := bind_some' H
   obtain ⟨hx36, H⟩ := guard_some H
   refine K_r [.l [.int .i64 x35]] [(0 : Int) ≤ x30.2.1 ∧ x30.2.1 < (((p8.map (D.int .i64))).length : Int), ((p8.map (D.int .i64)).getD x30.2.1.toNat (.int .i64 0)).cells = [.int .i64 x35], (0 : Int) ≤ (w64 (4 - x35))] (by kernel_rfl) (AC (at_ok hx35 (D.int .i64) (.int .i64 0)).1 (AC (at_ok hx35 (D.int .i64) (.int .i64 0)).2 (A1 hx36))) ?_
   refine K_seq (K_r [] [] (by kernel_rfl) trivial ?_)
   refine K_seq (K_seq (K_r [.m, .n p6.length] ((fun (z1 : Heap) => [decide (0 < (w64 (x32 * 2 ^ (Nat.min (w64 (4 - x33)).toNat (IntKind.bits .i64))))) = true → AllT [((p6.map (D.int .i64))).length = p6.length], z1 = z1]) [.cells [cI p1, cI p2, cI p3, cI p4, cI p5, cL p6], .cells [cL p7, cL p8], .vals (.agg [(.int .i64 0), (.int .i64 0)]) (x30.2.2.map e_st0), .cells [cI (-1099511627776), cI 1099511627776]]) (by kernel_rfl) (AC (fun _ => (A1 (List.length_map _))) (A1 rfl)) ?_))
   obtain ⟨x39, hx39, H⟩ := bind_some' H
   refine K_of ⟨[(2, (Pt 0)), (3, (Pt 1)), (6, (.one (.own 2 0 x30.1))), (8, (I (w64 (x32 * 2 ^ (Nat.min (w64 (4 - x33)).toNat (IntKind.bits .i64)))))), (9, (I (w64 ((w64 ((w64 (x32 * 2 ^ (Nat.min (w64 (4 - x33)).toNat (IntKind.bits .i64)))) + (w64 (1 * 2 ^ (Nat.min (w64 (4 - x35)).toNat (IntKind.bits .i64)))))) - 1)))), (10, (Pt 3)), (17, (I x4)), (18, (I x30.2.1))], [.cells [cI p1, cI p2, cI p3, cI p4, cI p5, cL p6], .cells [cL p7, cL p8], .vals (.agg [(.int .i64 0), (.int .i64 0)]) (x30.2.2.map e_st0), .cells [cI x39, cI 1099511627776]]⟩ ?_ ?_
   · clear H; have H := hx39; clear hx39; refine K_in ?_
     rcases ite_some H with ⟨hx37, H⟩ | ⟨hx37, H⟩
     · refine K_t (by kernel_rfl) hx37 ?_
       obtain ⟨x38, hx38, H⟩ := bind_some' H
       refine K_r [.l [.int .i64 x38]] [(0 : Int) ≤ (w64 ((w64 (x32 * 2 ^ (Nat.min (w64 (4 - x33)).toNat (IntKind.bits .i64)))) - 1)) ∧ (w64 ((w64 (x32 * 2 ^ (Nat.min (w64 (4 - x33)).toNat (IntKind.bits .i64)))) - 1)) < (((p6.map (D.int .i64))).length : Int), ((p6.map (D.int .i64)).getD (w64 ((w64 (x32 * 2 ^ (Nat.min (w64 (4 - x33)).toNat (IntKind.bits .i64)))) - 1)).toNat (.int .i64 0)).cells = [.int .i64 x38]] (by kernel_rfl) (AC (at_ok hx38 (D.int .i64) (.int .i64 0)).1 (A1 (at_ok hx38 (D.int .i64) (.int .i64 0)).2)) ?_
       cases H
       exact K_end (by kernel_rfl)
     · refine K_f (by kernel_rfl) (Bool.eq_false_iff.2 hx37) ?_
       refine K_g (by kernel_rfl) ?_
       refine K_skip ?_
       cases H
       exact K_end (by kernel_rfl)
   refine K_seq (K_seq (K_r [.n p6.length] [((p6.map (D.int .i64))).length = p6.length] (by kernel_rfl) (A1 (List.length_map _)) ?_))
   obtain ⟨x42, hx42, H⟩ := bind_some' H
   refine K_of ⟨[(2, (Pt 0)), (3, (Pt 1)), (6, (.one (.own 2 0 x30.1))), (8, (I (w64 (x32 * 2 ^ (Nat.min (w64 (4 - x33)).toNat (IntKind.bits .i64)))))), (10, (Pt 3)), (17, (I x4)), (18, (I x30.2.1))], [.cells [cI p1, cI p2, cI p3, cI p4, cI p5, cL p6], .cells [cL p7, cL p8], .vals (.agg [(.int .i64 0), (.int .i64 0)]) (x30.2.2.map e_st0), .cells [cI x39, cI x42]]⟩ ?_ ?_
   · clear H; have H := hx42; clear hx42; refine K_in ?_
     rcases ite_some H with ⟨hx40, H⟩ | ⟨hx40, H⟩
     · refine K_t (by kernel_rfl) (decide_eq_true hx40) ?_
       obtain ⟨x41, hx41, H⟩ := bind_some' H
       refine K_r [.l [.int .i64 x41]] [(0 : Int) ≤ (w64 ((w64 ((w64 (x32 * 2 ^ (Nat.min (w64 (4 - x33)).toNat (IntKind.bits .i64)))) + (w64 (1 * 2 ^ (Nat.min (w64 (4 - x35)).toNat (IntKind.bits .i64)))))) - 1)) ∧ (w64 ((w64 ((w64 (x32 * 2 ^ (Nat.min (w64 (4 - x33)).toNat (IntKind.bits .i64)))) + (w64 (1 * 2 ^ (Nat.min (w64 (4 - x35)).toNat (IntKind.bits .i64)))))) - 1)) < (((p6.map (D.int .i64))).length : Int), ((p6.map (D.int .i64)).getD (w64 ((w64 ((w64 (x32 * 2 ^ (Nat.min (w64 (4 - x33)).toNat (IntKind.bits .i64)))) + (w64 (1 * 2 ^ (Nat.min (w64 (4 - x35)).toNat (IntKind.bits .i64)))))) - 1)).toNat (.int .i64 0)).cells = [.int .i64 x41]] (by kernel_rfl) (AC (at_ok hx41 (D.int .i64) (.int .i64 0)).1 (A1 (at_ok hx41 (D.int .i64) (.int .i64 0)).2)) ?_
       cases H
       exact K_end (by kernel_rfl)
     · refine K_f (by kernel_rfl) (decide_eq_false hx40) ?_
       refine K_g (by kernel_rfl) ?_
       refine K_skip ?_
       cases H
       exact K_end (by kernel_rfl)
   refine K_seq (K_seq (K_r [.n p6.length] [((p6.map (D.int .i64))).length = p6.length] (by kernel_rfl) (A1 (List.length_map _)) ?_))
   obtain ⟨x44, hx44, H⟩ := bind_some' H
   refine K_of ⟨[(2, (Pt 0)), (3, (Pt 1)), (6, (.one (.own 2 0 x30.1))), (10, (Pt 3)), (17, (I x4)), (18, (I x30.2.1))], [.cells [cI p1, cI p2, cI p3, cI p4, cI p5, cL p6], .cells [cL p7, cL p8], .vals (.agg [(.int .i64 0), (.int .i64 0)]) (x30.2.2.map e_st0), .cells [cI x44.1, cI x44.2]]⟩ ?_ ?_
   · clear H; have H := hx44; clear hx44; refine K_in ?_
     rcases ite_some H with ⟨hx43, H⟩ | ⟨hx43, H⟩
     · refine K_t (by kernel_rfl) (decide_eq_true hx43) ?_
       refine K_r [] [] (by kernel_rfl) trivial ?_
       cases H
       exact K_end (by kernel_rfl)
     · refine K_f (by kernel_rfl) (decide_eq_false hx43) ?_
       refine K_g (by kernel_rfl) ?_
       refine K_skip ?_
       cases H
       exact K_end (by kernel_rfl)
   obtain ⟨hx45, H⟩ := guard_some H
   refine K_r [.n 1, .l (((x30.2.2.drop 0).take x30.1 ++ ([(x44.1, x44.2)] : List (Int × Int))).map e_st0)] [(List.all (([(x44.1, x44.2)] : List (Int × Int)).map e_st0) fun d => d.cells.length == (D.cells (.agg [(.int .i64 0), (.int .i64 0)])).length) = true, x30.1 + 1 ≤ LIM, (([(x44.1, x44.2)] : List (Int × Int)).map e_st0).length = 1, ((x30.2.2.map e_st0).drop 0).take x30.1 ++ (([(x44.1, x44.2)] : List (Int × Int)).map e_st0) = ((x30.2.2.drop 0).take x30.1 ++ ([(x44.1, x44.2)] : List (Int × Int))).map e_st0] (by kernel_rfl) (AC (all_ok e_st0 2 ([(x44.1, x44.2)] : List (Int × Int)) (fun _ => rfl)) (AC hx45 (AC (by simp) (A1 (ap_map e_st0 x30.2.2 ([(x44.1, x44.2)] : List (Int × Int)) 0 x30.1))))) ?_
   refine K_blk (K_r [] [] (by kernel_rfl) trivial ?_)
   cases H
   exact K_end (by kernel_rfl)
 · refine K_f (by kernel_rfl) (decide_eq_false hx31) ?_
   refine K_g (by kernel_rfl) ?_
   cases H
   exact K_exit0 rfl (by kernel_rfl)
def T_ref19_Region (k : Nat) (p1 : Int) (p2 : Int) (p3 : Int) (p4 : Int) (p5 : Int) (p6 : List Int) (p7 : List Int) (p8 : List Int) : Option ((List (Int × Int)) × Int) := match k with
 | 0 => none
 | k + 1 => ((T_ref19_Valid k p1 p2 p3 p4 p5 p6 p7 p8).bind fun x1 => (if (!x1) = true then some ([], 10) else ((loopT (T_ref19_Region_l1 k p1 p2 p3 (p8.length : Int) p4 p5 p6 p7 p8) k (0, 0, [])).bind fun x46 => some (((x46.2.drop 0).take x46.1), 0))))
abbrev C_T_ref19_Region (k : Nat) (p1 : Int) (p2 : Int) (p3 : Int) (p4 : Int) (p5 : Int) (p6 : List Int) (p7 : List Int) (p8 : List Int) (r : (List (Int × Int)) × Int) : Prop := evF X k n_ref19_Region [(.agg [cI p1, cI p2, cI p3, cI p4, cI p5, cL p6]), (.agg [cL p7, cL p8])] [] = some ((.tup [(false, [.d (.list (r.1.map e_st0))]), (false, [cI r.2])]), [])
theorem T_ref19_Region_ok (k : Nat) (p1 : Int) (p2 : Int) (p3 : Int) (p4 : Int) (p5 : Int) (p6 : List Int) (p7 : List Int) (p8 : List Int) (r : (List (Int × Int)) × Int) : T_ref19_Region k p1 p2 p3 p4 p5 p6 p7 p8 = some r → C_T_ref19_Region k p1 p2 p3 p4 p5 p6 p7 p8 r := by
 intro H
 cases k with
 | zero => simp [T_ref19_Region] at H
 | succ k =>
  simp only [T_ref19_Region] at H
  refine F_in X_ref19_Region rfl ?_
  refine K_seq (K_r [] [] (by kernel_rfl) trivial ?_)
  refine K_seq ?_
  refine K_seq ?_
  obtain ⟨x1, hx1, H⟩ := bind_some' H
  refine K_r [.r (B x1) []] [C_T_ref19_Valid k p1 p2 p3 p4 p5 p6 p7 p8 x1] (by kernel_rfl) (A1 (T_ref19_Valid_ok k p1 p2 p3 p4 p5 p6 p7 p8 x1 hx1)) ?_
  rcases ite_some H with ⟨hx2, H⟩ | ⟨hx2, H⟩
  · refine K_t (by kernel_rfl) hx2 ?_
    refine K_seq (K_r [] [] (by kernel_rfl) trivial ?_)
    refine K_g (by kernel_rfl) ?_
    cases H
    refine K_ret ?_
    kernel_rfl
  · refine K_f (by kernel_rfl) (Bool.eq_false_iff.2 hx2) ?_
    refine K_g (by kernel_rfl) ?_
    refine K_skip (K_seq (K_r [] [] (by kernel_rfl) trivial ?_))
    refine K_seq (K_seq (K_r [.n p8.length] [((p8.map (D.int .i64))).length = p8.length] (by kernel_rfl) (A1 (List.length_map _)) ?_))
    refine K_block (K_g (by kernel_rfl) ?_)
    refine K_conv (σ' := ⟨[(2, (Pt 0)), (3, (Pt 1)), (6, (.one (.own 2 0 0))), (17, (I (p8.length : Int))), (18, (I 0))], [.cells [cI p1, cI p2, cI p3, cI p4, cI p5, cL p6], .cells [cL p7, cL p8], .vals (.agg [(.int .i64 0), (.int .i64 0)]) ([].map e_st0)]⟩) (by kernel_rfl) ?_
    obtain ⟨x46, hx46, H⟩ := bind_some' H
    refine K_loop ⟨[(6, (.one (.own 0 0 x46.1)))], [.vals (.agg [(.int .i64 0), (.int .i64 0)]) (x46.2.map e_st0)]⟩ (loop_ok (fun (s : Nat × Int × (List (Int × Int))) => ⟨[(2, (Pt 0)), (3, (Pt 1)), (6, (.one (.own 2 0 s.1))), (17, (I (p8.length : Int))), (18, (I s.2.1))], [.cells [cI p1, cI p2, cI p3, cI p4, cI p5, cL p6], .cells [cL p7, cL p8], .vals (.agg [(.int .i64 0), (.int .i64 0)]) (s.2.2.map e_st0)]⟩) (fun (r : (Nat × (List (Int × Int)))) => (.exit 0, ⟨[(6, (.one (.own 0 0 r.1)))], [.vals (.agg [(.int .i64 0), (.int .i64 0)]) (r.2.map e_st0)]⟩)) (fun r h => by cases h) (T_ref19_Region_l1_ok k p1 p2 p3 (p8.length : Int) p4 p5 p6 p7 p8) k (0, 0, []) x46 hx46) rfl ?_
    refine K_seq (K_r [] [] (by kernel_rfl) trivial ?_)
    refine K_g (by kernel_rfl) ?_
    cases H
    refine K_ret ?_
    exact Eq.trans (b := some ((.tup [(false, [.d (.list (((x46.2.map e_st0).drop 0).take x46.1))]), (false, [cI 0])]), [])) (by kernel_rfl) (by simp only [dt_map, LI, VI])
def T_euclid_length (k : Nat) (p1 : List Int) : Option Unit := match k with
 | 0 => none
 | k + 1 => some ()
abbrev C_T_euclid_length (k : Nat) (p1 : List Int) (r : Unit) : Prop := evF X k n_euclid_length [(LI p1)] [] = some ((B (decide (2 ≤ (p1.length : Int)) && decide ((p1.length : Int) ≤ 32))), [])
theorem T_euclid_length_ok (k : Nat) (p1 : List Int) (r : Unit) : T_euclid_length k p1 = some r → C_T_euclid_length k p1 r := by
 intro H
 cases k with
 | zero => simp [T_euclid_length] at H
 | succ k =>
  simp only [T_euclid_length] at H
  refine F_in X_euclid_length rfl ?_
  refine K_seq (K_r [] [] (by kernel_rfl) trivial ?_)
  refine K_seq (K_r [.n p1.length, .m, .n p1.length] [((p1.map (D.int .i64))).length = p1.length, decide (2 ≤ (p1.length : Int)) = true → AllT [((p1.map (D.int .i64))).length = p1.length], ([] : Heap) = []] (by kernel_rfl) (AC (List.length_map _) (AC (fun _ => (A1 (List.length_map _))) (A1 rfl))) ?_)
  refine K_g (by kernel_rfl) ?_
  cases H
  refine K_ret ?_
  kernel_rfl
def T_euclid_samples_l1 (k : Nat) (p1 : List Int) (x2 : Int) (x7 : Int) : Option (Int ⊕ (Unit ⊕ Unit)) :=
 (if x7 < x2 then ((at? p1 x7).bind fun x9 => (if (decide (x9 < (-1000)) || decide (1000 < x9)) = true then some (.inr (.inr ())) else some (.inl (w64 (x7 + 1))))) else some (.inr (.inl ())))
theorem T_euclid_samples_l1_ok (k : Nat) (p1 : List Int) (x2 : Int) : ∀ (x7 : Int) (x : Int ⊕ (Unit ⊕ Unit)), T_euclid_samples_l1 k p1 x2 x7 = some x → evC X (evF X k) k 0 l_euclid_samples_1 ⟨[(5, (LI p1)), (6, (I x2)), (7, (I x7))], []⟩ = some (outS (fun (s : Int) => ⟨[(5, (LI p1)), (6, (I x2)), (7, (I s))], []⟩) (fun (r : Unit ⊕ Unit) => Sum.elim (fun y => (.exit 0, ⟨[], []⟩)) (fun y => (.ret, ⟨[(2, (B false))], []⟩)) r) x) := by
 intro x7 x H
 unfold T_euclid_samples_l1 at H
 refine K_in ?_
 refine K_seq (K_r [] [] (by kernel_rfl) trivial ?_)
 refine K_seq ?_
 rcases ite_some H with ⟨hx8, H⟩ | ⟨hx8, H⟩
 · refine K_t (by kernel_rfl) (decide_eq_true hx8) ?_
   refine K_g (by kernel_rfl) ?_
   refine K_skip ?_
   refine K_seq ?_
   refine K_block ?_
   refine K_seq ?_
   obtain ⟨x9, hx9, H⟩ := bind_some' H
   refine K_r [.l [.int .i64 x9]] [(0 : Int) ≤ x7 ∧ x7 < (((p1.map (D.int .i64))).length : Int), ((p1.map (D.int .i64)).getD x7.toNat (.int .i64 0)).cells = [.int .i64 x9]] (by kernel_rfl) (AC (at_ok hx9 (D.int .i64) (.int .i64 0)).1 (A1 (at_ok hx9 (D.int .i64) (.int .i64 0)).2)) ?_
   refine K_seq (K_r [.m] [([] : Heap) = []] (by kernel_rfl) (A1 rfl) ?_)
   rcases ite_some H with ⟨hx10, H⟩ | ⟨hx10, H⟩
   · refine K_t (by kernel_rfl) hx10 ?_
     refine K_seq (K_r [] [] (by kernel_rfl) trivial ?_)
     refine K_g (by kernel_rfl) ?_
     cases H
     exact K_ret (by kernel_rfl)
   · refine K_f (by kernel_rfl) (Bool.eq_false_iff.2 hx10) ?_
     refine K_g (by kernel_rfl) ?_
     refine K_skip (K_blk (K_r [] [] (by kernel_rfl) trivial ?_))
     cases H
     exact K_end (by kernel_rfl)
 · refine K_f (by kernel_rfl) (decide_eq_false hx8) ?_
   refine K_g (by kernel_rfl) ?_
   cases H
   exact K_exit0 rfl (by kernel_rfl)
def T_euclid_samples (k : Nat) (p1 : List Int) : Option Bool := match k with
 | 0 => none
 | k + 1 => ((loopT (T_euclid_samples_l1 k p1 (p1.length : Int)) k 0).bind fun x11 => (match x11 with | .inl x12 => some true | .inr x13 => some false))
abbrev C_T_euclid_samples (k : Nat) (p1 : List Int) (r : Bool) : Prop := evF X k n_euclid_samples [(LI p1)] [] = some ((B r), [])
theorem T_euclid_samples_ok (k : Nat) (p1 : List Int) (r : Bool) : T_euclid_samples k p1 = some r → C_T_euclid_samples k p1 r := by
 intro H
 cases k with
 | zero => simp [T_euclid_samples] at H
 | succ k =>
  simp only [T_euclid_samples] at H
  refine F_in X_euclid_samples rfl ?_
  refine K_seq (K_r [] [] (by kernel_rfl) trivial ?_)
  refine K_seq (K_seq (K_r [.n p1.length] [((p1.map (D.int .i64))).length = p1.length] (by kernel_rfl) (A1 (List.length_map _)) ?_))
  refine K_block (K_conv (σ' := ⟨[(5, (LI p1)), (6, (I (p1.length : Int))), (7, (I 0))], []⟩) (by kernel_rfl) ?_)
  obtain ⟨x11, hx11, H⟩ := bind_some' H
  cases x11 with
  | inl x12 =>
   dsimp only at H
   refine K_loop ⟨[], []⟩ (loop_ok (fun (s : Int) => ⟨[(5, (LI p1)), (6, (I (p1.length : Int))), (7, (I s))], []⟩) (fun (r : Unit ⊕ Unit) => Sum.elim (fun y => (.exit 0, ⟨[], []⟩)) (fun y => (.ret, ⟨[(2, (B false))], []⟩)) r) (fun r h => by cases r <;> cases h) (T_euclid_samples_l1_ok k p1 (p1.length : Int)) k 0 (.inl x12) hx11) rfl ?_
   refine K_seq (K_r [] [] (by kernel_rfl) trivial ?_)
   refine K_g (by kernel_rfl) ?_
   cases H
   refine K_ret ?_
   kernel_rfl
  | inr x13 =>
   dsimp only at H
   cases H
   refine K_loopr ⟨[(2, (B false))], []⟩ (loop_ok (fun (s : Int) => ⟨[(5, (LI p1)), (6, (I (p1.length : Int))), (7, (I s))], []⟩) (fun (r : Unit ⊕ Unit) => Sum.elim (fun y => (.exit 0, ⟨[], []⟩)) (fun y => (.ret, ⟨[(2, (B false))], []⟩)) r) (fun r h => by cases r <;> cases h) (T_euclid_samples_l1_ok k p1 (p1.length : Int)) k 0 (.inr x13) hx11) ?_
   kernel_rfl
def T_euclid_check (k : Nat) (p1 : List Int) (p2 : List Int) : Option Int := match k with
 | 0 => none
 | k + 1 => ((((T_euclid_length k p1).bind fun x1 => (if (!(decide (2 ≤ (p1.length : Int)) && decide ((p1.length : Int) ≤ 32))) = true then some true else ((T_euclid_length k p2).bind fun x4 => some (!(decide (2 ≤ (p2.length : Int)) && decide ((p2.length : Int) ≤ 32))))))).bind fun x5 => (if x5 = true then some 8 else ((((T_euclid_samples k p1).bind fun x7 => (if (!x7) = true then some true else ((T_euclid_samples k p2).bind fun x10 => some (!x10))))).bind fun x11 => (if x11 = true then some 12 else (if (!decide ((p1.length : Int) = (p2.length : Int))) = true then some 8 else some 0)))))
abbrev C_T_euclid_check (k : Nat) (p1 : List Int) (p2 : List Int) (r : Int) : Prop := evF X k n_euclid_check [(LI p1), (LI p2)] [] = some ((I r), [])
theorem T_euclid_check_ok (k : Nat) (p1 : List Int) (p2 : List Int) (r : Int) : T_euclid_check k p1 p2 = some r → C_T_euclid_check k p1 p2 r := by
 intro H
 cases k with
 | zero => simp [T_euclid_check] at H
 | succ k =>
  simp only [T_euclid_check] at H
  refine F_in X_euclid_check rfl ?_
  refine K_seq (K_r [] [] (by kernel_rfl) trivial ?_)
  refine K_seq ?_
  refine K_block ?_
  refine K_seq ?_
  obtain ⟨x5, hx5, H⟩ := bind_some' H
  refine K_of ⟨[(0, (LI p1)), (1, (LI p2)), (5, (B x5))], []⟩ ?_ ?_
  · clear H; have H := hx5; clear hx5; refine K_in ?_
    obtain ⟨x1, hx1, H⟩ := bind_some' H
    rcases ite_some H with ⟨hx3, H⟩ | ⟨hx3, H⟩
    · refine K_r [.r (B (decide (2 ≤ (p1.length : Int)) && decide ((p1.length : Int) ≤ 32))) [], .b true] [C_T_euclid_length k p1 x1, (!(decide (2 ≤ (p1.length : Int)) && decide ((p1.length : Int) ≤ 32))) = true] (by kernel_rfl) (AC (T_euclid_length_ok k p1 x1 hx1) (A1 hx3)) ?_
      cases H
      exact K_end (by kernel_rfl)
    · obtain ⟨x4, hx4, H⟩ := bind_some' H
      refine K_r [.r (B (decide (2 ≤ (p1.length : Int)) && decide ((p1.length : Int) ≤ 32))) [], .b false, .r (B (decide (2 ≤ (p2.length : Int)) && decide ((p2.length : Int) ≤ 32))) []] [C_T_euclid_length k p1 x1, (!(decide (2 ≤ (p1.length : Int)) && decide ((p1.length : Int) ≤ 32))) = false, C_T_euclid_length k p2 x4] (by kernel_rfl) (AC (T_euclid_length_ok k p1 x1 hx1) (AC (Bool.eq_false_iff.2 hx3) (A1 (T_euclid_length_ok k p2 x4 hx4)))) ?_
      cases H
      exact K_end (by kernel_rfl)
  rcases ite_some H with ⟨hx6, H⟩ | ⟨hx6, H⟩
  · refine K_t (by kernel_rfl) hx6 ?_
    refine K_seq (K_r [] [] (by kernel_rfl) trivial ?_)
    refine K_g (by kernel_rfl) ?_
    cases H
    refine K_ret ?_
    kernel_rfl
  · refine K_f (by kernel_rfl) (Bool.eq_false_iff.2 hx6) ?_
    refine K_seq ?_
    obtain ⟨x11, hx11, H⟩ := bind_some' H
    refine K_of ⟨[(0, (LI p1)), (1, (LI p2)), (14, (B x11))], []⟩ ?_ ?_
    · clear H; have H := hx11; clear hx11; refine K_in ?_
      obtain ⟨x7, hx7, H⟩ := bind_some' H
      rcases ite_some H with ⟨hx9, H⟩ | ⟨hx9, H⟩
      · refine K_r [.r (B x7) [], .b true] [C_T_euclid_samples k p1 x7, (!x7) = true] (by kernel_rfl) (AC (T_euclid_samples_ok k p1 x7 hx7) (A1 hx9)) ?_
        cases H
        exact K_end (by kernel_rfl)
      · obtain ⟨x10, hx10, H⟩ := bind_some' H
        refine K_r [.r (B x7) [], .b false, .r (B x10) []] [C_T_euclid_samples k p1 x7, (!x7) = false, C_T_euclid_samples k p2 x10] (by kernel_rfl) (AC (T_euclid_samples_ok k p1 x7 hx7) (AC (Bool.eq_false_iff.2 hx9) (A1 (T_euclid_samples_ok k p2 x10 hx10)))) ?_
        cases H
        exact K_end (by kernel_rfl)
    rcases ite_some H with ⟨hx12, H⟩ | ⟨hx12, H⟩
    · refine K_t (by kernel_rfl) hx12 ?_
      refine K_seq (K_r [] [] (by kernel_rfl) trivial ?_)
      refine K_g (by kernel_rfl) ?_
      cases H
      refine K_ret ?_
      kernel_rfl
    · refine K_f (by kernel_rfl) (Bool.eq_false_iff.2 hx12) ?_
      refine K_seq (K_r [.n p1.length, .n p2.length] [((p1.map (D.int .i64))).length = p1.length, ((p2.map (D.int .i64))).length = p2.length] (by kernel_rfl) (AC (List.length_map _) (A1 (List.length_map _))) ?_)
      rcases ite_some H with ⟨hx13, H⟩ | ⟨hx13, H⟩
      · refine K_t (by kernel_rfl) hx13 ?_
        refine K_seq (K_r [] [] (by kernel_rfl) trivial ?_)
        refine K_g (by kernel_rfl) ?_
        cases H
        refine K_ret ?_
        kernel_rfl
      · refine K_f (by kernel_rfl) (Bool.eq_false_iff.2 hx13) ?_
        refine K_g (by kernel_rfl) ?_
        refine K_skip (K_blk (K_seq (K_r [] [] (by kernel_rfl) trivial ?_)))
        refine K_g (by kernel_rfl) ?_
        cases H
        refine K_ret ?_
        kernel_rfl
def T_euclid_square_l1 (k : Nat) (p1 : List Int) (p2 : List Int) (x4 : Int) (x9 : Int × Int) : Option ((Int × Int) ⊕ Int) :=
 (if x9.2 < x4 then ((at? p1 x9.2).bind fun x11 => (at? p2 x9.2).bind fun x12 => some (.inl ((w64 (x9.1 + (w64 ((w64 (x11 - x12)) * (w64 (x11 - x12)))))), (w64 (x9.2 + 1))))) else some (.inr x9.1))
theorem T_euclid_square_l1_ok (k : Nat) (p1 : List Int) (p2 : List Int) (x4 : Int) : ∀ (x9 : Int × Int) (x : (Int × Int) ⊕ Int), T_euclid_square_l1 k p1 p2 x4 x9 = some x → evC X (evF X k) k 0 l_euclid_square_1 ⟨[(1, (LI p2)), (5, (I x9.1)), (8, (LI p1)), (9, (I x4)), (10, (I x9.2))], []⟩ = some (outS (fun (s : Int × Int) => ⟨[(1, (LI p2)), (5, (I s.1)), (8, (LI p1)), (9, (I x4)), (10, (I s.2))], []⟩) (fun (r : Int) => (.exit 0, ⟨[(5, (I r))], []⟩)) x) := by
 intro x9 x H
 unfold T_euclid_square_l1 at H
 refine K_in ?_
 refine K_seq (K_r [] [] (by kernel_rfl) trivial ?_)
 refine K_seq ?_
 rcases ite_some H with ⟨hx10, H⟩ | ⟨hx10, H⟩
 · refine K_t (by kernel_rfl) (decide_eq_true hx10) ?_
   refine K_g (by kernel_rfl) ?_
   refine K_skip ?_
   refine K_seq ?_
   refine K_block ?_
   refine K_seq ?_
   obtain ⟨x11, hx11, H⟩ := bind_some' H
   refine K_r [.l [.int .i64 x11]] [(0 : Int) ≤ x9.2 ∧ x9.2 < (((p1.map (D.int .i64))).length : Int), ((p1.map (D.int .i64)).getD x9.2.toNat (.int .i64 0)).cells = [.int .i64 x11]] (by kernel_rfl) (AC (at_ok hx11 (D.int .i64) (.int .i64 0)).1 (A1 (at_ok hx11 (D.int .i64) (.int .i64 0)).2)) ?_
   obtain ⟨x12, hx12, H⟩ := bind_some' H
   refine K_r [.l [.int .i64 x12], .l [.int .i64 x12]] [(0 : Int) ≤ x9.2 ∧ x9.2 < (((p2.map (D.int .i64))).length : Int), ((p2.map (D.int .i64)).getD x9.2.toNat (.int .i64 0)).cells = [.int .i64 x12], (0 : Int) ≤ x9.2 ∧ x9.2 < (((p2.map (D.int .i64))).length : Int), ((p2.map (D.int .i64)).getD x9.2.toNat (.int .i64 0)).cells = [.int .i64 x12]] (by kernel_rfl) (AC (at_ok hx12 (D.int .i64) (.int .i64 0)).1 (AC (at_ok hx12 (D.int .i64) (.int .i64 0)).2 (AC (at_ok hx12 (D.int .i64) (.int .i64 0)).1 (A1 (at_ok hx12 (D.int .i64) (.int .i64 0)).2)))) ?_
   refine K_blk (K_r [] [] (by kernel_rfl) trivial ?_)
   cases H
   exact K_end (by kernel_rfl)
 · refine K_f (by kernel_rfl) (decide_eq_false hx10) ?_
   refine K_g (by kernel_rfl) ?_
   cases H
   exact K_exit0 rfl (by kernel_rfl)
def T_euclid_square (k : Nat) (p1 : List Int) (p2 : List Int) : Option Int := match k with
 | 0 => none
 | k + 1 => ((loopT (T_euclid_square_l1 k p1 p2 (p1.length : Int)) k (0, 0)).bind fun x13 => some x13)
abbrev C_T_euclid_square (k : Nat) (p1 : List Int) (p2 : List Int) (r : Int) : Prop := evF X k n_euclid_square [(LI p1), (LI p2)] [] = some ((I r), [])
theorem T_euclid_square_ok (k : Nat) (p1 : List Int) (p2 : List Int) (r : Int) : T_euclid_square k p1 p2 = some r → C_T_euclid_square k p1 p2 r := by
 intro H
 cases k with
 | zero => simp [T_euclid_square] at H
 | succ k =>
  simp only [T_euclid_square] at H
  refine F_in X_euclid_square rfl ?_
  refine K_seq (K_r [] [] (by kernel_rfl) trivial ?_)
  refine K_seq (K_r [] [] (by kernel_rfl) trivial ?_)
  refine K_seq (K_seq (K_r [.n p1.length] [((p1.map (D.int .i64))).length = p1.length] (by kernel_rfl) (A1 (List.length_map _)) ?_))
  refine K_block (K_conv (σ' := ⟨[(1, (LI p2)), (5, (I 0)), (8, (LI p1)), (9, (I (p1.length : Int))), (10, (I 0))], []⟩) (by kernel_rfl) ?_)
  obtain ⟨x13, hx13, H⟩ := bind_some' H
  refine K_loop ⟨[(5, (I x13))], []⟩ (loop_ok (fun (s : Int × Int) => ⟨[(1, (LI p2)), (5, (I s.1)), (8, (LI p1)), (9, (I (p1.length : Int))), (10, (I s.2))], []⟩) (fun (r : Int) => (.exit 0, ⟨[(5, (I r))], []⟩)) (fun r h => by cases h) (T_euclid_square_l1_ok k p1 p2 (p1.length : Int)) k (0, 0) x13 hx13) rfl ?_
  refine K_seq (K_r [] [] (by kernel_rfl) trivial ?_)
  refine K_g (by kernel_rfl) ?_
  cases H
  refine K_ret ?_
  kernel_rfl
def T_euclid_Distance (k : Nat) (p1 : List Int) (p2 : List Int) : Option (Int × Int) := match k with
 | 0 => none
 | k + 1 => ((T_euclid_check k p1 p2).bind fun x1 => (if (!decide (x1 = 0)) = true then some (0, x1) else ((T_euclid_square k p1 p2).bind fun x3 => some (x3, 0))))
abbrev C_T_euclid_Distance (k : Nat) (p1 : List Int) (p2 : List Int) (r : Int × Int) : Prop := evF X k n_euclid_Distance [(LI p1), (LI p2)] [] = some ((.tup [(false, [cI r.1]), (false, [cI r.2])]), [])
theorem T_euclid_Distance_ok (k : Nat) (p1 : List Int) (p2 : List Int) (r : Int × Int) : T_euclid_Distance k p1 p2 = some r → C_T_euclid_Distance k p1 p2 r := by
 intro H
 cases k with
 | zero => simp [T_euclid_Distance] at H
 | succ k =>
  simp only [T_euclid_Distance] at H
  refine F_in X_euclid_Distance rfl ?_
  refine K_seq (K_r [] [] (by kernel_rfl) trivial ?_)
  refine K_seq ?_
  refine K_seq ?_
  obtain ⟨x1, hx1, H⟩ := bind_some' H
  refine K_r [.r (I x1) []] [C_T_euclid_check k p1 p2 x1] (by kernel_rfl) (A1 (T_euclid_check_ok k p1 p2 x1 hx1)) ?_
  refine K_seq (K_r [] [] (by kernel_rfl) trivial ?_)
  rcases ite_some H with ⟨hx2, H⟩ | ⟨hx2, H⟩
  · refine K_t (by kernel_rfl) hx2 ?_
    refine K_seq (K_r [] [] (by kernel_rfl) trivial ?_)
    refine K_g (by kernel_rfl) ?_
    cases H
    refine K_ret ?_
    kernel_rfl
  · refine K_f (by kernel_rfl) (Bool.eq_false_iff.2 hx2) ?_
    refine K_g (by kernel_rfl) ?_
    refine K_skip ?_
    refine K_seq ?_
    obtain ⟨x3, hx3, H⟩ := bind_some' H
    refine K_r [.r (I x3) []] [C_T_euclid_square k p1 p2 x3] (by kernel_rfl) (A1 (T_euclid_square_ok k p1 p2 x3 hx3)) ?_
    refine K_g (by kernel_rfl) ?_
    cases H
    refine K_ret ?_
    kernel_rfl
def T_pieces_number (k : Nat) (p1 : Int) (p2 : Int) : Option Unit := match k with
 | 0 => none
 | k + 1 => some ()
abbrev C_T_pieces_number (k : Nat) (p1 : Int) (p2 : Int) (r : Unit) : Prop := evF X k n_pieces_number [(I p1), (I p2)] [] = some ((B ((decide (1 ≤ p2) && decide (p2 ≤ 8)) && decide (p2 ≤ p1))), [])
theorem T_pieces_number_ok (k : Nat) (p1 : Int) (p2 : Int) (r : Unit) : T_pieces_number k p1 p2 = some r → C_T_pieces_number k p1 p2 r := by
 intro H
 cases k with
 | zero => simp [T_pieces_number] at H
 | succ k =>
  simp only [T_pieces_number] at H
  refine F_in X_pieces_number rfl ?_
  refine K_seq (K_r [] [] (by kernel_rfl) trivial ?_)
  refine K_seq (K_r [.m, .m] [([] : Heap) = [], ([] : Heap) = []] (by kernel_rfl) (AC rfl (A1 rfl)) ?_)
  refine K_g (by kernel_rfl) ?_
  cases H
  refine K_ret ?_
  kernel_rfl
def T_pieces_check (k : Nat) (p1 : List Int) (p2 : Int) : Option Int := match k with
 | 0 => none
 | k + 1 => ((T_euclid_Distance k p1 p1).bind fun x1 => (if (!decide (x1.2 = 0)) = true then some x1.2 else ((T_pieces_number k (p1.length : Int) p2).bind fun x3 => (if (!((decide (1 ≤ p2) && decide (p2 ≤ 8)) && decide (p2 ≤ (p1.length : Int)))) = true then some 1 else some 0))))
abbrev C_T_pieces_check (k : Nat) (p1 : List Int) (p2 : Int) (r : Int) : Prop := evF X k n_pieces_check [(LI p1), (I p2)] [] = some ((I r), [])
theorem T_pieces_check_ok (k : Nat) (p1 : List Int) (p2 : Int) (r : Int) : T_pieces_check k p1 p2 = some r → C_T_pieces_check k p1 p2 r := by
 intro H
 cases k with
 | zero => simp [T_pieces_check] at H
 | succ k =>
  simp only [T_pieces_check] at H
  refine F_in X_pieces_check rfl ?_
  refine K_seq (K_r [] [] (by kernel_rfl) trivial ?_)
  refine K_seq ?_
  refine K_seq ?_
  obtain ⟨x1, hx1, H⟩ := bind_some' H
  refine K_r [.r (.tup [(false, [cI x1.1]), (false, [cI x1.2])]) []] [C_T_euclid_Distance k p1 p1 x1] (by kernel_rfl) (A1 (T_euclid_Distance_ok k p1 p1 x1 hx1)) ?_
  refine K_seq (K_r [] [] (by kernel_rfl) trivial ?_)
  rcases ite_some H with ⟨hx2, H⟩ | ⟨hx2, H⟩
  · refine K_t (by kernel_rfl) hx2 ?_
    refine K_seq (K_r [] [] (by kernel_rfl) trivial ?_)
    refine K_g (by kernel_rfl) ?_
    cases H
    refine K_ret ?_
    kernel_rfl
  · refine K_f (by kernel_rfl) (Bool.eq_false_iff.2 hx2) ?_
    refine K_g (by kernel_rfl) ?_
    refine K_skip ?_
    refine K_seq ?_
    refine K_seq ?_
    obtain ⟨x3, hx3, H⟩ := bind_some' H
    refine K_r [.n p1.length, .r (B ((decide (1 ≤ p2) && decide (p2 ≤ 8)) && decide (p2 ≤ (p1.length : Int)))) []] [((p1.map (D.int .i64))).length = p1.length, C_T_pieces_number k (p1.length : Int) p2 x3] (by kernel_rfl) (AC (List.length_map _) (A1 (T_pieces_number_ok k (p1.length : Int) p2 x3 hx3))) ?_
    rcases ite_some H with ⟨hx4, H⟩ | ⟨hx4, H⟩
    · refine K_t (by kernel_rfl) hx4 ?_
      refine K_seq (K_r [] [] (by kernel_rfl) trivial ?_)
      refine K_g (by kernel_rfl) ?_
      cases H
      refine K_ret ?_
      kernel_rfl
    · refine K_f (by kernel_rfl) (Bool.eq_false_iff.2 hx4) ?_
      refine K_g (by kernel_rfl) ?_
      refine K_skip (K_seq (K_r [] [] (by kernel_rfl) trivial ?_))
      refine K_g (by kernel_rfl) ?_
      cases H
      refine K_ret ?_
      kernel_rfl
def T_pieces_total_l1 (k : Nat) (p1 : List Int) (x3 : Int) (x7 : Int × Int) : Option ((Int × Int) ⊕ Int) :=
 (if x7.2 < x3 then ((at? p1 x7.2).bind fun x9 => some (.inl ((w64 (x7.1 + x9)), (w64 (x7.2 + 1))))) else some (.inr x7.1))
theorem T_pieces_total_l1_ok (k : Nat) (p1 : List Int) (x3 : Int) : ∀ (x7 : Int × Int) (x : (Int × Int) ⊕ Int), T_pieces_total_l1 k p1 x3 x7 = some x → evC X (evF X k) k 0 l_pieces_total_1 ⟨[(3, (I x7.1)), (6, (LI p1)), (7, (I x3)), (8, (I x7.2))], []⟩ = some (outS (fun (s : Int × Int) => ⟨[(3, (I s.1)), (6, (LI p1)), (7, (I x3)), (8, (I s.2))], []⟩) (fun (r : Int) => (.exit 0, ⟨[(3, (I r))], []⟩)) x) := by
 intro x7 x H
 unfold T_pieces_total_l1 at H
 refine K_in ?_
 refine K_seq (K_r [] [] (by kernel_rfl) trivial ?_)
 refine K_seq ?_
 rcases ite_some H with ⟨hx8, H⟩ | ⟨hx8, H⟩
 · refine K_t (by kernel_rfl) (decide_eq_true hx8) ?_
   refine K_g (by kernel_rfl) ?_
   refine K_skip ?_
   refine K_seq ?_
   refine K_block ?_
   refine K_seq ?_
   obtain ⟨x9, hx9, H⟩ := bind_some' H
   refine K_r [.l [.int .i64 x9]] [(0 : Int) ≤ x7.2 ∧ x7.2 < (((p1.map (D.int .i64))).length : Int), ((p1.map (D.int .i64)).getD x7.2.toNat (.int .i64 0)).cells = [.int .i64 x9]] (by kernel_rfl) (AC (at_ok hx9 (D.int .i64) (.int .i64 0)).1 (A1 (at_ok hx9 (D.int .i64) (.int .i64 0)).2)) ?_
   refine K_r [] [] (by kernel_rfl) trivial ?_
   refine K_blk (K_r [] [] (by kernel_rfl) trivial ?_)
   cases H
   exact K_end (by kernel_rfl)
 · refine K_f (by kernel_rfl) (decide_eq_false hx8) ?_
   refine K_g (by kernel_rfl) ?_
   cases H
   exact K_exit0 rfl (by kernel_rfl)
def T_pieces_total (k : Nat) (p1 : List Int) : Option Int := match k with
 | 0 => none
 | k + 1 => ((loopT (T_pieces_total_l1 k p1 (p1.length : Int)) k (0, 0)).bind fun x10 => some x10)
abbrev C_T_pieces_total (k : Nat) (p1 : List Int) (r : Int) : Prop := evF X k n_pieces_total [(LI p1)] [] = some ((I r), [])
theorem T_pieces_total_ok (k : Nat) (p1 : List Int) (r : Int) : T_pieces_total k p1 = some r → C_T_pieces_total k p1 r := by
 intro H
 cases k with
 | zero => simp [T_pieces_total] at H
 | succ k =>
  simp only [T_pieces_total] at H
  refine F_in X_pieces_total rfl ?_
  refine K_seq (K_r [] [] (by kernel_rfl) trivial ?_)
  refine K_seq (K_r [] [] (by kernel_rfl) trivial ?_)
  refine K_seq (K_seq (K_r [.n p1.length] [((p1.map (D.int .i64))).length = p1.length] (by kernel_rfl) (A1 (List.length_map _)) ?_))
  refine K_block (K_conv (σ' := ⟨[(3, (I 0)), (6, (LI p1)), (7, (I (p1.length : Int))), (8, (I 0))], []⟩) (by kernel_rfl) ?_)
  obtain ⟨x10, hx10, H⟩ := bind_some' H
  refine K_loop ⟨[(3, (I x10))], []⟩ (loop_ok (fun (s : Int × Int) => ⟨[(3, (I s.1)), (6, (LI p1)), (7, (I (p1.length : Int))), (8, (I s.2))], []⟩) (fun (r : Int) => (.exit 0, ⟨[(3, (I r))], []⟩)) (fun r h => by cases h) (T_pieces_total_l1_ok k p1 (p1.length : Int)) k (0, 0) x10 hx10) rfl ?_
  refine K_seq (K_r [] [] (by kernel_rfl) trivial ?_)
  refine K_g (by kernel_rfl) ?_
  cases H
  refine K_ret ?_
  kernel_rfl
def T_pieces_all (k : Nat) (p1 : Int) (p2 : Int) : Option Unit := match k with
 | 0 => none
 | k + 1 => some ()
abbrev C_T_pieces_all (k : Nat) (p1 : Int) (p2 : Int) (r : Unit) : Prop := evF X k n_pieces_all [(I p1), (I p2)] [] = some ((.one (.d (.fn (.func n_pieces_all_1) [.ref [.int .i64 p2], .ref [.int .i64 p1]]))), [])
theorem T_pieces_all_ok (k : Nat) (p1 : Int) (p2 : Int) (r : Unit) : T_pieces_all k p1 p2 = some r → C_T_pieces_all k p1 p2 r := by
 intro H
 cases k with
 | zero => simp [T_pieces_all] at H
 | succ k =>
  simp only [T_pieces_all] at H
  refine F_in X_pieces_all rfl ?_
  refine K_seq (K_r [] [] (by kernel_rfl) trivial ?_)
  refine K_seq (K_r [] [] (by kernel_rfl) trivial ?_)
  refine K_g (by kernel_rfl) ?_
  cases H
  refine K_ret ?_
  kernel_rfl
def T_pieces_Centred_r1 (k : Nat) (p1 : List Int) (p2 : Int) (x3 : Int) (x8 : Int) (x11 : Nat) (x13 x14 x15 : Int) (x19 : (List Int)) : Option (((List Int)) ⊕ Unit) :=
 (if (0 : Int) ≤ x14 ∧ x14 ≤ x15 ∧ x15 ≤ (p1.length : Int) ∧ (p1.length : Int) ≤ (p1.length : Int) then (T_pieces_total k ((p1.drop x14.toNat).take (x15.toNat - x14.toNat))).bind fun x21 => (if (0 : Int) ≤ x13 ∧ x13 < ((x11 : Nat) : Int) then some (.inl (x19.set (0 + x13.toNat) (w64 ((w64 ((p1.length : Int) * x21)) - (w64 ((w64 (x15 - x14)) * x3)))))) else none) else none)
theorem T_pieces_Centred_r1_ok (k : Nat) (p1 : List Int) (p2 : Int) (x3 : Int) (x8 : Int) (x11 : Nat) : ∀ (x13 x14 x15 : Int) (x19 : (List Int)) (x : ((List Int)) ⊕ Unit), T_pieces_Centred_r1 k p1 p2 x3 x8 x11 x13 x14 x15 x19 = some x → roundM (fun b' => evC X (evF X k) k b' l_pieces_Centred_r1a) (fun b' => evC X (evF X k) k b' l_pieces_Centred_r1b) 0 [25, 26] [.gc] [I x13, .agg [.d (.int .i64 x14), .d (.int .i64 x15)]] (.normal, ⟨[(2, (Pt 0)), (4, (.one (.nil))), (5, (I 0)), (7, (Pt 1)), (8, (Pt 2)), (24, (.one (.d (.fn (.func n_pieces_all_1) [.ref [.int .i64 p2], .ref [.int .i64 x8]]))))], [.cells [cL p1], .cells [cI x3], .cells [.own 3 0 x11], VI x19]⟩) = some (Sum.elim (fun (s : (List Int)) => (true, (.normal, ⟨[(2, (Pt 0)), (4, (.one (.nil))), (5, (I 0)), (7, (Pt 1)), (8, (Pt 2)), (24, (.one (.d (.fn (.func n_pieces_all_1) [.ref [.int .i64 p2], .ref [.int .i64 x8]]))))], [.cells [cL p1], .cells [cI x3], .cells [.own 3 0 x11], VI s]⟩))) (fun (r : Unit) => (false, (.ret, ⟨[], []⟩))) x) := by
 intro x13 x14 x15 x19 x H
 unfold T_pieces_Centred_r1 at H
 refine R_as rfl ?_
 refine K_seq (K_r [] [] (by kernel_rfl) trivial ?_)
 refine K_r [] [] (by kernel_rfl) trivial ?_
 refine K_end (R_body ?_)
 refine K_block ?_
 obtain ⟨hx20, H⟩ := guard_some H
 obtain ⟨x21, hx21, H⟩ := bind_some' H
 obtain ⟨hx22, H⟩ := guard_some H
 refine K_r [.n p1.length, .l (((p1.drop x14.toNat).take (x15.toNat - x14.toNat)).map (D.int .i64)), .r (I x21) [], .l ((x19.set (0 + x13.toNat) (w64 ((w64 ((p1.length : Int) * x21)) - (w64 ((w64 (x15 - x14)) * x3))))).map (D.int .i64))] [((p1.map (D.int .i64))).length = p1.length, ((p1.map (D.int .i64)).all fun d => d.cells.length == 1) = true, (0 : Int) ≤ x14 ∧ x14 ≤ x15 ∧ x15 ≤ (((p1.map (D.int .i64))).length : Int) ∧ (((p1.map (D.int .i64))).length : Int) ≤ (((p1.map (D.int .i64))).length : Int), ((p1.map (D.int .i64)).drop (x14 : Int).toNat).take ((x15 : Int).toNat - (x14 : Int).toNat) = ((p1.drop x14.toNat).take (x15.toNat - x14.toNat)).map (D.int .i64), C_T_pieces_total k ((p1.drop x14.toNat).take (x15.toNat - x14.toNat)) x21, (0 : Int) ≤ x13 ∧ x13 < ((x11 : Nat) : Int), (x19.map (D.int .i64)).set (0 + x13.toNat) (elemOf (.int .i64 0) (splice ((x19.map (D.int .i64)).getD (0 + x13.toNat) (.int .i64 0)).cells 0 [.int .i64 (w64 ((w64 ((p1.length : Int) * x21)) - (w64 ((w64 (x15 - x14)) * x3))))])) = (x19.set (0 + x13.toNat) (w64 ((w64 ((p1.length : Int) * x21)) - (w64 ((w64 (x15 - x14)) * x3))))).map (D.int .i64)] (by kernel_rfl) (AC (List.length_map _) (AC (all_ok (D.int .i64) 1 p1 (fun _ => rfl)) (AC (by simpa using hx20) (AC (dt_map _ _ _ _) (AC (T_pieces_total_ok k ((p1.drop x14.toNat).take (x15.toNat - x14.toNat)) x21 hx21) (AC hx22 (A1 (st_one x19 (0 + x13.toNat) (w64 ((w64 ((p1.length : Int) * x21)) - (w64 ((w64 (x15 - x14)) * x3)))) (D.int .i64) (.int .i64 0) rfl (fun _ => rfl) rfl)))))))) ?_
 refine K_blk ?_
 cases H
 exact K_end (R_end ⟨[(2, (Pt 0)), (4, (.one (.nil))), (5, (I 0)), (7, (Pt 1)), (8, (Pt 2)), (24, (.one (.d (.fn (.func n_pieces_all_1) [.ref [.int .i64 p2], .ref [.int .i64 x8]]))))], [.cells [cL p1], .cells [cI x3], .cells [.own 3 0 x11], VI (x19.set (0 + x13.toNat) (w64 ((w64 ((p1.length : Int) * x21)) - (w64 ((w64 (x15 - x14)) * x3)))))]⟩ (by kernel_rfl) rfl)
def T_pieces_Centred (k : Nat) (p1 : List Int) (p2 : Int) : Option ((List Int) × Int) := match k with
 | 0 => none
 | k + 1 => ((T_pieces_check k p1 p2).bind fun x1 => (if (!decide (x1 = 0)) = true then some ([], x1) else (T_pieces_total k p1).bind fun x3 => (if (0 : Int) ≤ p2 ∧ p2 ≤ p2 ∧ p2 ≤ (LIM : Int) then (T_pieces_all k (p1.length : Int) p2).bind fun x5 => (allT (T_pieces_Centred_r1 k p1 p2 x3 (p1.length : Int) p2.toNat) (p1.length : Int) p2 k 0 (List.replicate p2.toNat (0 : Int))).bind fun x23 => (match x23 with | .inl x24 => some (((x24.drop 0).take p2.toNat), 0) | .inr _ => none) else none)))
abbrev C_T_pieces_Centred (k : Nat) (p1 : List Int) (p2 : Int) (r : (List Int) × Int) : Prop := evF X k n_pieces_Centred [(LI p1), (I p2)] [] = some ((.tup [(false, [cL r.1]), (false, [cI r.2])]), [])
theorem T_pieces_Centred_ok (k : Nat) (p1 : List Int) (p2 : Int) (r : (List Int) × Int) : T_pieces_Centred k p1 p2 = some r → C_T_pieces_Centred k p1 p2 r := by
 intro H
 cases k with
 | zero => simp [T_pieces_Centred] at H
 | succ k =>
  simp only [T_pieces_Centred] at H
  refine F_in X_pieces_Centred rfl ?_
  refine K_seq (K_r [] [] (by kernel_rfl) trivial ?_)
  refine K_seq ?_
  refine K_seq ?_
  obtain ⟨x1, hx1, H⟩ := bind_some' H
  refine K_r [.r (I x1) []] [C_T_pieces_check k p1 p2 x1] (by kernel_rfl) (A1 (T_pieces_check_ok k p1 p2 x1 hx1)) ?_
  refine K_seq (K_r [] [] (by kernel_rfl) trivial ?_)
  rcases ite_some H with ⟨hx2, H⟩ | ⟨hx2, H⟩
  · refine K_t (by kernel_rfl) hx2 ?_
    refine K_seq (K_r [] [] (by kernel_rfl) trivial ?_)
    refine K_g (by kernel_rfl) ?_
    cases H
    refine K_ret ?_
    kernel_rfl
  · refine K_f (by kernel_rfl) (Bool.eq_false_iff.2 hx2) ?_
    refine K_g (by kernel_rfl) ?_
    refine K_skip ?_
    refine K_seq ?_
    obtain ⟨x3, hx3, H⟩ := bind_some' H
    refine K_r [.r (I x3) []] [C_T_pieces_total k p1 x3] (by kernel_rfl) (A1 (T_pieces_total_ok k p1 x3 hx3)) ?_
    refine K_seq ?_
    obtain ⟨hx4, H⟩ := guard_some H
    refine K_r [.l ((List.replicate p2.toNat (0 : Int)).map (D.int .i64))] [(0 : Int) ≤ p2 ∧ p2 ≤ p2 ∧ p2 ≤ (LIM : Int), List.replicate p2.toNat (.int .i64 0) = (List.replicate p2.toNat (0 : Int)).map (D.int .i64)] (by kernel_rfl) (AC hx4 (A1 (rep_map (D.int .i64) _ (0 : Int)))) ?_
    refine K_seq ?_
    refine K_seq ?_
    obtain ⟨x5, hx5, H⟩ := bind_some' H
    refine K_r [.n p1.length, .r (.one (.d (.fn (.func n_pieces_all_1) [.ref [.int .i64 p2], .ref [.int .i64 (p1.length : Int)]]))) []] [((p1.map (D.int .i64))).length = p1.length, C_T_pieces_all k (p1.length : Int) p2 x5] (by kernel_rfl) (AC (List.length_map _) (A1 (T_pieces_all_ok k (p1.length : Int) p2 x5 hx5))) ?_
    refine K_block (K_conv (σ' := ⟨[(2, (Pt 0)), (4, (.one (.nil))), (5, (I 0)), (7, (Pt 1)), (8, (Pt 2)), (24, (.one (.d (.fn (.func n_pieces_all_1) [.ref [.int .i64 p2], .ref [.int .i64 (p1.length : Int)]]))))], [.cells [cL p1], .cells [cI x3], .cells [.own 3 0 p2.toNat], VI (List.replicate p2.toNat (0 : Int))]⟩) (by kernel_rfl) ?_)
    obtain ⟨x23, hx23, H⟩ := bind_some' H
    cases x23 with
    | inl x24 =>
     dsimp only at H
     refine K_of ⟨[(2, (Pt 0)), (4, (.one (.nil))), (5, (I 0)), (7, (Pt 1)), (8, (Pt 2)), (24, (.one (.d (.fn (.func n_pieces_all_1) [.ref [.int .i64 p2], .ref [.int .i64 (p1.length : Int)]]))))], [.cells [cL p1], .cells [cI x3], .cells [.own 3 0 p2.toNat], VI x24]⟩ (range_ok (fun (s : (List Int)) => ⟨[(2, (Pt 0)), (4, (.one (.nil))), (5, (I 0)), (7, (Pt 1)), (8, (Pt 2)), (24, (.one (.d (.fn (.func n_pieces_all_1) [.ref [.int .i64 p2], .ref [.int .i64 (p1.length : Int)]]))))], [.cells [cL p1], .cells [cI x3], .cells [.own 3 0 p2.toNat], VI s]⟩) (fun (r : Unit) => (.ret, ⟨[], []⟩)) (s := (List.replicate p2.toNat (0 : Int))) (y := (.inl x24)) rfl (X_pieces_all_1 : X n_pieces_all_1 = some allM) (T_pieces_Centred_r1_ok k p1 p2 x3 (p1.length : Int) p2.toNat) hx23) ?_
     refine K_blk (K_seq (K_r [] [] (by kernel_rfl) trivial ?_))
     refine K_g (by kernel_rfl) ?_
     cases H
     refine K_ret ?_
     exact Eq.trans (b := some ((.tup [(false, [.d (.list (((x24.map (D.int .i64)).drop 0).take p2.toNat))]), (false, [cI 0])]), [])) (by kernel_rfl) (by simp only [dt_map, LI, VI])
    | inr _ =>
     dsimp only at H
     cases H
def T_normal_product_l1 (k : Nat) (p1 : List Int) (p2 : List Int) (x7 : Int) (x12 : Int × Int × Int × Int) : Option ((Int × Int × Int × Int) ⊕ ((Int × Int × Int))) :=
 (if x12.2.2.2 < x7 then ((at? p1 x12.2.2.2).bind fun x14 => (at? p2 x12.2.2.2).bind fun x15 => some (.inl ((w64 (x12.1 + (w64 (x14 * x15)))), (w64 (x12.2.1 + x14)), (w64 (x12.2.2.1 + x15)), (w64 (x12.2.2.2 + 1))))) else some (.inr (x12.1, x12.2.1, x12.2.2.1)))
theorem T_normal_product_l1_ok (k : Nat) (p1 : List Int) (p2 : List Int) (x7 : Int) : ∀ (x12 : Int × Int × Int × Int) (x : (Int × Int × Int × Int) ⊕ ((Int × Int × Int))), T_normal_product_l1 k p1 p2 x7 x12 = some x → evC X (evF X k) k 0 l_normal_product_1 ⟨[(0, (LI p1)), (1, (LI p2)), (5, (I x12.1)), (6, (I x12.2.1)), (7, (I x12.2.2.1)), (10, (LI p1)), (11, (I x7)), (12, (I x12.2.2.2))], []⟩ = some (outS (fun (s : Int × Int × Int × Int) => ⟨[(0, (LI p1)), (1, (LI p2)), (5, (I s.1)), (6, (I s.2.1)), (7, (I s.2.2.1)), (10, (LI p1)), (11, (I x7)), (12, (I s.2.2.2))], []⟩) (fun (r : (Int × Int × Int)) => (.exit 0, ⟨[(0, (LI p1)), (5, (I r.1)), (6, (I r.2.1)), (7, (I r.2.2))], []⟩)) x) := by
 intro x12 x H
 unfold T_normal_product_l1 at H
 refine K_in ?_
 refine K_seq (K_r [] [] (by kernel_rfl) trivial ?_)
 refine K_seq ?_
 rcases ite_some H with ⟨hx13, H⟩ | ⟨hx13, H⟩
 · refine K_t (by kernel_rfl) (decide_eq_true hx13) ?_
   refine K_g (by kernel_rfl) ?_
   refine K_skip ?_
   refine K_seq ?_
   refine K_block ?_
   refine K_seq ?_
   obtain ⟨x14, hx14, H⟩ := bind_some' H
   refine K_r [.l [.int .i64 x14]] [(0 : Int) ≤ x12.2.2.2 ∧ x12.2.2.2 < (((p1.map (D.int .i64))).length : Int), ((p1.map (D.int .i64)).getD x12.2.2.2.toNat (.int .i64 0)).cells = [.int .i64 x14]] (by kernel_rfl) (AC (at_ok hx14 (D.int .i64) (.int .i64 0)).1 (A1 (at_ok hx14 (D.int .i64) (.int .i64 0)).2)) ?_
   obtain ⟨x15, hx15, H⟩ := bind_some' H
   refine K_r [.l [.int .i64 x15], .l [.int .i64 x15]] [(0 : Int) ≤ x12.2.2.2 ∧ x12.2.2.2 < (((p2.map (D.int .i64))).length : Int), ((p2.map (D.int .i64)).getD x12.2.2.2.toNat (.int .i64 0)).cells = [.int .i64 x15], (0 : Int) ≤ x12.2.2.2 ∧ x12.2.2.2 < (((p2.map (D.int .i64))).length : Int), ((p2.map (D.int .i64)).getD x12.2.2.2.toNat (.int .i64 0)).cells = [.int .i64 x15]] (by kernel_rfl) (AC (at_ok hx15 (D.int .i64) (.int .i64 0)).1 (AC (at_ok hx15 (D.int .i64) (.int .i64 0)).2 (AC (at_ok hx15 (D.int .i64) (.int .i64 0)).1 (A1 (at_ok hx15 (D.int .i64) (.int .i64 0)).2)))) ?_
   refine K_blk (K_r [] [] (by kernel_rfl) trivial ?_)
   cases H
   exact K_end (by kernel_rfl)
 · refine K_f (by kernel_rfl) (decide_eq_false hx13) ?_
   refine K_g (by kernel_rfl) ?_
   cases H
   exact K_exit0 rfl (by kernel_rfl)
def T_normal_product (k : Nat) (p1 : List Int) (p2 : List Int) : Option Int := match k with
 | 0 => none
 | k + 1 => ((loopT (T_normal_product_l1 k p1 p2 (p1.length : Int)) k (0, 0, 0, 0)).bind fun x16 => some (w64 ((w64 ((p1.length : Int) * x16.1)) - (w64 (x16.2.1 * x16.2.2)))))
abbrev C_T_normal_product (k : Nat) (p1 : List Int) (p2 : List Int) (r : Int) : Prop := evF X k n_normal_product [(LI p1), (LI p2)] [] = some ((I r), [])
theorem T_normal_product_ok (k : Nat) (p1 : List Int) (p2 : List Int) (r : Int) : T_normal_product k p1 p2 = some r → C_T_normal_product k p1 p2 r := by
 intro H
 cases k with
 | zero => simp [T_normal_product] at H
 | succ k =>
  simp only [T_normal_product] at H
  refine F_in X_normal_product rfl ?_
  refine K_seq (K_r [] [] (by kernel_rfl) trivial ?_)
  refine K_seq (K_r [] [] (by kernel_rfl) trivial ?_)
  refine K_seq (K_seq (K_r [.n p1.length] [((p1.map (D.int .i64))).length = p1.length] (by kernel_rfl) (A1 (List.length_map _)) ?_))
  refine K_block (K_conv (σ' := ⟨[(0, (LI p1)), (1, (LI p2)), (5, (I 0)), (6, (I 0)), (7, (I 0)), (10, (LI p1)), (11, (I (p1.length : Int))), (12, (I 0))], []⟩) (by kernel_rfl) ?_)
  obtain ⟨x16, hx16, H⟩ := bind_some' H
  refine K_loop ⟨[(0, (LI p1)), (5, (I x16.1)), (6, (I x16.2.1)), (7, (I x16.2.2))], []⟩ (loop_ok (fun (s : Int × Int × Int × Int) => ⟨[(0, (LI p1)), (1, (LI p2)), (5, (I s.1)), (6, (I s.2.1)), (7, (I s.2.2.1)), (10, (LI p1)), (11, (I (p1.length : Int))), (12, (I s.2.2.2))], []⟩) (fun (r : (Int × Int × Int)) => (.exit 0, ⟨[(0, (LI p1)), (5, (I r.1)), (6, (I r.2.1)), (7, (I r.2.2))], []⟩)) (fun r h => by cases h) (T_normal_product_l1_ok k p1 p2 (p1.length : Int)) k (0, 0, 0, 0) x16 hx16) rfl ?_
  refine K_seq (K_r [.n p1.length] [((p1.map (D.int .i64))).length = p1.length] (by kernel_rfl) (A1 (List.length_map _)) ?_)
  refine K_g (by kernel_rfl) ?_
  cases H
  refine K_ret ?_
  kernel_rfl
def T_normal_Product (k : Nat) (p1 : List Int) (p2 : List Int) : Option (Int × Int) := match k with
 | 0 => none
 | k + 1 => ((T_euclid_Distance k p1 p2).bind fun x1 => (if (!decide (x1.2 = 0)) = true then some (0, x1.2) else ((T_normal_product k p1 p2).bind fun x3 => some (x3, 0))))
abbrev C_T_normal_Product (k : Nat) (p1 : List Int) (p2 : List Int) (r : Int × Int) : Prop := evF X k n_normal_Product [(LI p1), (LI p2)] [] = some ((.tup [(false, [cI r.1]), (false, [cI r.2])]), [])
theorem T_normal_Product_ok (k : Nat) (p1 : List Int) (p2 : List Int) (r : Int × Int) : T_normal_Product k p1 p2 = some r → C_T_normal_Product k p1 p2 r := by
 intro H
 cases k with
 | zero => simp [T_normal_Product] at H
 | succ k =>
  simp only [T_normal_Product] at H
  refine F_in X_normal_Product rfl ?_
  refine K_seq (K_r [] [] (by kernel_rfl) trivial ?_)
  refine K_seq ?_
  refine K_seq ?_
  obtain ⟨x1, hx1, H⟩ := bind_some' H
  refine K_r [.r (.tup [(false, [cI x1.1]), (false, [cI x1.2])]) []] [C_T_euclid_Distance k p1 p2 x1] (by kernel_rfl) (A1 (T_euclid_Distance_ok k p1 p2 x1 hx1)) ?_
  refine K_seq (K_r [] [] (by kernel_rfl) trivial ?_)
  rcases ite_some H with ⟨hx2, H⟩ | ⟨hx2, H⟩
  · refine K_t (by kernel_rfl) hx2 ?_
    refine K_seq (K_r [] [] (by kernel_rfl) trivial ?_)
    refine K_g (by kernel_rfl) ?_
    cases H
    refine K_ret ?_
    kernel_rfl
  · refine K_f (by kernel_rfl) (Bool.eq_false_iff.2 hx2) ?_
    refine K_g (by kernel_rfl) ?_
    refine K_skip ?_
    refine K_seq ?_
    obtain ⟨x3, hx3, H⟩ := bind_some' H
    refine K_r [.r (I x3) []] [C_T_normal_product k p1 p2 x3] (by kernel_rfl) (A1 (T_normal_product_ok k p1 p2 x3 hx3)) ?_
    refine K_g (by kernel_rfl) ?_
    cases H
    refine K_ret ?_
    kernel_rfl
def T_sketch_Of (k : Nat) (p1 : List Int) (p2 : Int) : Option (Int × (List Int) × Int × Int) := match k with
 | 0 => none
 | k + 1 => ((T_pieces_Centred k p1 p2).bind fun x1 => (if (!decide (x1.2 = 0)) = true then some (0, [], 0, x1.2) else ((T_normal_Product k p1 p1).bind fun x3 => (if (!decide (x3.2 = 0)) = true then some (0, [], 0, x3.2) else some ((p1.length : Int), x1.1, (w64 ((p1.length : Int) * x3.1)), 0)))))
abbrev C_T_sketch_Of (k : Nat) (p1 : List Int) (p2 : Int) (r : Int × (List Int) × Int × Int) : Prop := evF X k n_sketch_Of [(LI p1), (I p2)] [] = some ((.tup [(true, [cI r.1, cL r.2.1, cI r.2.2.1]), (false, [cI r.2.2.2])]), [])
theorem T_sketch_Of_ok (k : Nat) (p1 : List Int) (p2 : Int) (r : Int × (List Int) × Int × Int) : T_sketch_Of k p1 p2 = some r → C_T_sketch_Of k p1 p2 r := by
 intro H
 cases k with
 | zero => simp [T_sketch_Of] at H
 | succ k =>
  simp only [T_sketch_Of] at H
  refine F_in X_sketch_Of rfl ?_
  refine K_seq (K_r [] [] (by kernel_rfl) trivial ?_)
  refine K_seq ?_
  obtain ⟨x1, hx1, H⟩ := bind_some' H
  refine K_r [.r (.tup [(false, [cL x1.1]), (false, [cI x1.2])]) []] [C_T_pieces_Centred k p1 p2 x1] (by kernel_rfl) (A1 (T_pieces_Centred_ok k p1 p2 x1 hx1)) ?_
  refine K_seq (K_seq (K_r [] [] (by kernel_rfl) trivial ?_))
  rcases ite_some H with ⟨hx2, H⟩ | ⟨hx2, H⟩
  · refine K_t (by kernel_rfl) hx2 ?_
    refine K_seq (K_r [] [] (by kernel_rfl) trivial ?_)
    refine K_g (by kernel_rfl) ?_
    cases H
    refine K_ret ?_
    kernel_rfl
  · refine K_f (by kernel_rfl) (Bool.eq_false_iff.2 hx2) ?_
    refine K_g (by kernel_rfl) ?_
    refine K_skip ?_
    refine K_seq ?_
    obtain ⟨x3, hx3, H⟩ := bind_some' H
    refine K_r [.r (.tup [(false, [cI x3.1]), (false, [cI x3.2])]) []] [C_T_normal_Product k p1 p1 x3] (by kernel_rfl) (A1 (T_normal_Product_ok k p1 p1 x3 hx3)) ?_
    refine K_seq (K_seq (K_r [] [] (by kernel_rfl) trivial ?_))
    rcases ite_some H with ⟨hx4, H⟩ | ⟨hx4, H⟩
    · refine K_t (by kernel_rfl) hx4 ?_
      refine K_seq (K_r [] [] (by kernel_rfl) trivial ?_)
      refine K_g (by kernel_rfl) ?_
      cases H
      refine K_ret ?_
      kernel_rfl
    · refine K_f (by kernel_rfl) (Bool.eq_false_iff.2 hx4) ?_
      refine K_g (by kernel_rfl) ?_
      refine K_skip (K_seq (K_r [.n p1.length, .n p1.length] [((p1.map (D.int .i64))).length = p1.length, ((p1.map (D.int .i64))).length = p1.length] (by kernel_rfl) (AC (List.length_map _) (A1 (List.length_map _))) ?_))
      refine K_g (by kernel_rfl) ?_
      cases H
      refine K_ret ?_
      kernel_rfl
def T_pieces_Starts_r1 (k : Nat) (p1 : Int) (p2 : Int) (x10 x11 x12 : Int) (x14 : Nat × (List Int)) : Option ((Nat × (List Int)) ⊕ Unit) :=
 (if x14.1 + 1 ≤ LIM then some (.inl ((x14.1 + 1), ((x14.2.drop 0).take x14.1 ++ ([x12] : List Int)))) else none)
theorem T_pieces_Starts_r1_ok (k : Nat) (p1 : Int) (p2 : Int) : ∀ (x10 x11 x12 : Int) (x14 : Nat × (List Int)) (x : (Nat × (List Int)) ⊕ Unit), T_pieces_Starts_r1 k p1 p2 x10 x11 x12 x14 = some x → roundM (fun b' => evC X (evF X k) k b' l_pieces_Starts_r1a) (fun b' => evC X (evF X k) k b' l_pieces_Starts_r1b) 0 [23, 24] [.gc] [I x10, .agg [.d (.int .i64 x11), .d (.int .i64 x12)]] (.normal, ⟨[(4, (.one (.nil))), (5, (I 0)), (6, (Pt 0)), (22, (.one (.d (.fn (.func n_pieces_all_1) [.ref [.int .i64 p2], .ref [.int .i64 p1]]))))], [.cells [.own 1 0 x14.1], VI x14.2]⟩) = some (Sum.elim (fun (s : Nat × (List Int)) => (true, (.normal, ⟨[(4, (.one (.nil))), (5, (I 0)), (6, (Pt 0)), (22, (.one (.d (.fn (.func n_pieces_all_1) [.ref [.int .i64 p2], .ref [.int .i64 p1]]))))], [.cells [.own 1 0 s.1], VI s.2]⟩))) (fun (r : Unit) => (false, (.ret, ⟨[], []⟩))) x) := by
 intro x10 x11 x12 x14 x H
 unfold T_pieces_Starts_r1 at H
 refine R_as rfl ?_
 refine K_r [] [] (by kernel_rfl) trivial ?_
 refine K_end (R_body ?_)
 refine K_block ?_
 obtain ⟨hx15, H⟩ := guard_some H
 refine K_r [.n 1, .l (((x14.2.drop 0).take x14.1 ++ ([x12] : List Int)).map (D.int .i64))] [(List.all (([x12] : List Int).map (D.int .i64)) fun d => d.cells.length == (D.cells (.int .i64 0)).length) = true, x14.1 + 1 ≤ LIM, (([x12] : List Int).map (D.int .i64)).length = 1, ((x14.2.map (D.int .i64)).drop 0).take x14.1 ++ (([x12] : List Int).map (D.int .i64)) = ((x14.2.drop 0).take x14.1 ++ ([x12] : List Int)).map (D.int .i64)] (by kernel_rfl) (AC (all_ok (D.int .i64) 1 ([x12] : List Int) (fun _ => rfl)) (AC hx15 (AC (by simp) (A1 (ap_map (D.int .i64) x14.2 ([x12] : List Int) 0 x14.1))))) ?_
 refine K_blk ?_
 cases H
 exact K_end (R_end ⟨[(4, (.one (.nil))), (5, (I 0)), (6, (Pt 0)), (22, (.one (.d (.fn (.func n_pieces_all_1) [.ref [.int .i64 p2], .ref [.int .i64 p1]]))))], [.cells [.own 1 0 (x14.1 + 1)], VI ((x14.2.drop 0).take x14.1 ++ ([x12] : List Int))]⟩ (by kernel_rfl) rfl)
def T_pieces_Starts (k : Nat) (p1 : Int) (p2 : Int) : Option ((List Int) × Int) := match k with
 | 0 => none
 | k + 1 => (if (decide (p1 < 2) || decide (32 < p1)) = true then some ([], 8) else ((T_pieces_number k p1 p2).bind fun x2 => (if (!((decide (1 ≤ p2) && decide (p2 ≤ 8)) && decide (p2 ≤ p1))) = true then some ([], 1) else ((T_pieces_all k p1 p2).bind fun x4 => (allT (T_pieces_Starts_r1 k p1 p2) p1 p2 k 0 (1, [0])).bind fun x16 => (match x16 with | .inl x17 => some (((x17.2.drop 0).take x17.1), 0) | .inr _ => none)))))
abbrev C_T_pieces_Starts (k : Nat) (p1 : Int) (p2 : Int) (r : (List Int) × Int) : Prop := evF X k n_pieces_Starts [(I p1), (I p2)] [] = some ((.tup [(false, [cL r.1]), (false, [cI r.2])]), [])
theorem T_pieces_Starts_ok (k : Nat) (p1 : Int) (p2 : Int) (r : (List Int) × Int) : T_pieces_Starts k p1 p2 = some r → C_T_pieces_Starts k p1 p2 r := by
 intro H
 cases k with
 | zero => simp [T_pieces_Starts] at H
 | succ k =>
  simp only [T_pieces_Starts] at H
  refine F_in X_pieces_Starts rfl ?_
  refine K_seq (K_r [] [] (by kernel_rfl) trivial ?_)
  refine K_seq (K_seq (K_r [.m] [([] : Heap) = []] (by kernel_rfl) (A1 rfl) ?_))
  rcases ite_some H with ⟨hx1, H⟩ | ⟨hx1, H⟩
  · refine K_t (by kernel_rfl) hx1 ?_
    refine K_seq (K_r [] [] (by kernel_rfl) trivial ?_)
    refine K_g (by kernel_rfl) ?_
    cases H
    refine K_ret ?_
    kernel_rfl
  · refine K_f (by kernel_rfl) (Bool.eq_false_iff.2 hx1) ?_
    refine K_g (by kernel_rfl) ?_
    refine K_skip ?_
    refine K_seq ?_
    refine K_seq ?_
    obtain ⟨x2, hx2, H⟩ := bind_some' H
    refine K_r [.r (B ((decide (1 ≤ p2) && decide (p2 ≤ 8)) && decide (p2 ≤ p1))) []] [C_T_pieces_number k p1 p2 x2] (by kernel_rfl) (A1 (T_pieces_number_ok k p1 p2 x2 hx2)) ?_
    rcases ite_some H with ⟨hx3, H⟩ | ⟨hx3, H⟩
    · refine K_t (by kernel_rfl) hx3 ?_
      refine K_seq (K_r [] [] (by kernel_rfl) trivial ?_)
      refine K_g (by kernel_rfl) ?_
      cases H
      refine K_ret ?_
      kernel_rfl
    · refine K_f (by kernel_rfl) (Bool.eq_false_iff.2 hx3) ?_
      refine K_g (by kernel_rfl) ?_
      refine K_skip (K_seq (K_r [] [] (by kernel_rfl) trivial ?_))
      refine K_seq ?_
      refine K_seq ?_
      obtain ⟨x4, hx4, H⟩ := bind_some' H
      refine K_r [.r (.one (.d (.fn (.func n_pieces_all_1) [.ref [.int .i64 p2], .ref [.int .i64 p1]]))) []] [C_T_pieces_all k p1 p2 x4] (by kernel_rfl) (A1 (T_pieces_all_ok k p1 p2 x4 hx4)) ?_
      refine K_block (K_conv (σ' := ⟨[(4, (.one (.nil))), (5, (I 0)), (6, (Pt 0)), (22, (.one (.d (.fn (.func n_pieces_all_1) [.ref [.int .i64 p2], .ref [.int .i64 p1]]))))], [.cells [.own 1 0 1], VI [0]]⟩) (by kernel_rfl) ?_)
      obtain ⟨x16, hx16, H⟩ := bind_some' H
      cases x16 with
      | inl x17 =>
       dsimp only at H
       refine K_of ⟨[(4, (.one (.nil))), (5, (I 0)), (6, (Pt 0)), (22, (.one (.d (.fn (.func n_pieces_all_1) [.ref [.int .i64 p2], .ref [.int .i64 p1]]))))], [.cells [.own 1 0 x17.1], VI x17.2]⟩ (range_ok (fun (s : Nat × (List Int)) => ⟨[(4, (.one (.nil))), (5, (I 0)), (6, (Pt 0)), (22, (.one (.d (.fn (.func n_pieces_all_1) [.ref [.int .i64 p2], .ref [.int .i64 p1]]))))], [.cells [.own 1 0 s.1], VI s.2]⟩) (fun (r : Unit) => (.ret, ⟨[], []⟩)) (s := (1, [0])) (y := (.inl x17)) rfl (X_pieces_all_1 : X n_pieces_all_1 = some allM) (T_pieces_Starts_r1_ok k p1 p2) hx16) ?_
       refine K_blk (K_seq (K_r [] [] (by kernel_rfl) trivial ?_))
       refine K_g (by kernel_rfl) ?_
       cases H
       refine K_ret ?_
       exact Eq.trans (b := some ((.tup [(false, [.d (.list (((x17.2.map (D.int .i64)).drop 0).take x17.1))]), (false, [cI 0])]), [])) (by kernel_rfl) (by simp only [dt_map, LI, VI])
      | inr _ =>
       dsimp only at H
       cases H
def T_sketch_lengths_l1 (k : Nat) (x3 : List Int) (x5 : Int) (x12 : Nat × Int × (List Int)) : Option ((Nat × Int × (List Int)) ⊕ ((Nat × (List Int)))) :=
 (if x12.2.1 < x5 then (at? x3 (w64 (x12.2.1 + 1))).bind fun x14 => (at? x3 x12.2.1).bind fun x15 => (if x12.1 + 1 ≤ LIM then some (.inl ((x12.1 + 1), (w64 (x12.2.1 + 1)), ((x12.2.2.drop 0).take x12.1 ++ ([(w64 (x14 - x15))] : List Int)))) else none) else some (.inr (x12.1, x12.2.2)))
theorem T_sketch_lengths_l1_ok (k : Nat) (x3 : List Int) (x5 : Int) : ∀ (x12 : Nat × Int × (List Int)) (x : (Nat × Int × (List Int)) ⊕ ((Nat × (List Int)))), T_sketch_lengths_l1 k x3 x5 x12 = some x → evC X (evF X k) k 0 l_sketch_lengths_1 ⟨[(3, (LI x3)), (5, (.one (.own 0 0 x12.1))), (20, (I x5)), (21, (I x12.2.1))], [VI x12.2.2]⟩ = some (outS (fun (s : Nat × Int × (List Int)) => ⟨[(3, (LI x3)), (5, (.one (.own 0 0 s.1))), (20, (I x5)), (21, (I s.2.1))], [VI s.2.2]⟩) (fun (r : (Nat × (List Int))) => (.exit 0, ⟨[(5, (.one (.own 0 0 r.1)))], [VI r.2]⟩)) x) := by
 intro x12 x H
 unfold T_sketch_lengths_l1 at H
 refine K_in ?_
 refine K_seq (K_r [] [] (by kernel_rfl) trivial ?_)
 refine K_seq ?_
 rcases ite_some H with ⟨hx13, H⟩ | ⟨hx13, H⟩
 · refine K_t (by kernel_rfl) (decide_eq_true hx13) ?_
   refine K_g (by kernel_rfl) ?_
   refine K_skip (K_seq (K_block (K_seq (K_r [] [] (by kernel_rfl) trivial ?_))))
   obtain ⟨x14, hx14, H⟩ := bind_some' H
   obtain ⟨x15, hx15, H⟩ := bind_some' H
   obtain ⟨hx16, H⟩ := guard_some H
   refine K_r [.l [.int .i64 x14], .l [.int .i64 x15], .n 1, .l (((x12.2.2.drop 0).take x12.1 ++ ([(w64 (x14 - x15))] : List Int)).map (D.int .i64))] [(0 : Int) ≤ (w64 (x12.2.1 + 1)) ∧ (w64 (x12.2.1 + 1)) < (((x3.map (D.int .i64))).length : Int), ((x3.map (D.int .i64)).getD (w64 (x12.2.1 + 1)).toNat (.int .i64 0)).cells = [.int .i64 x14], (0 : Int) ≤ x12.2.1 ∧ x12.2.1 < (((x3.map (D.int .i64))).length : Int), ((x3.map (D.int .i64)).getD x12.2.1.toNat (.int .i64 0)).cells = [.int .i64 x15], (List.all (([(w64 (x14 - x15))] : List Int).map (D.int .i64)) fun d => d.cells.length == (D.cells (.int .i64 0)).length) = true, x12.1 + 1 ≤ LIM, (([(w64 (x14 - x15))] : List Int).map (D.int .i64)).length = 1, ((x12.2.2.map (D.int .i64)).drop 0).take x12.1 ++ (([(w64 (x14 - x15))] : List Int).map (D.int .i64)) = ((x12.2.2.drop 0).take x12.1 ++ ([(w64 (x14 - x15))] : List Int)).map (D.int .i64)] (by kernel_rfl) (AC (at_ok hx14 (D.int .i64) (.int .i64 0)).1 (AC (at_ok hx14 (D.int .i64) (.int .i64 0)).2 (AC (at_ok hx15 (D.int .i64) (.int .i64 0)).1 (AC (at_ok hx15 (D.int .i64) (.int .i64 0)).2 (AC (all_ok (D.int .i64) 1 ([(w64 (x14 - x15))] : List Int) (fun _ => rfl)) (AC hx16 (AC (by simp) (A1 (ap_map (D.int .i64) x12.2.2 ([(w64 (x14 - x15))] : List Int) 0 x12.1))))))))) ?_
   refine K_blk (K_r [] [] (by kernel_rfl) trivial ?_)
   cases H
   exact K_end (by kernel_rfl)
 · refine K_f (by kernel_rfl) (decide_eq_false hx13) ?_
   refine K_g (by kernel_rfl) ?_
   cases H
   exact K_exit0 rfl (by kernel_rfl)
def T_sketch_lengths (k : Nat) (p1 : Int) (p2 : List Int) (p3 : Int) : Option ((List Int)) := match k with
 | 0 => none
 | k + 1 => ((T_pieces_Starts k p1 (p2.length : Int)).bind fun x1 => (if (!decide (x1.2 = 0)) = true then some [] else ((loopT (T_sketch_lengths_l1 k x1.1 (p2.length : Int)) k (0, 0, [])).bind fun x17 => some ((x17.2.drop 0).take x17.1))))
abbrev C_T_sketch_lengths (k : Nat) (p1 : Int) (p2 : List Int) (p3 : Int) (r : (List Int)) : Prop := evF X k n_sketch_lengths [(.agg [cI p1, cL p2, cI p3])] [] = some ((LI r), [])
theorem T_sketch_lengths_ok (k : Nat) (p1 : Int) (p2 : List Int) (p3 : Int) (r : (List Int)) : T_sketch_lengths k p1 p2 p3 = some r → C_T_sketch_lengths k p1 p2 p3 r := by
 intro H
 cases k with
 | zero => simp [T_sketch_lengths] at H
 | succ k =>
  simp only [T_sketch_lengths] at H
  refine F_in X_sketch_lengths rfl ?_
  refine K_seq (K_r [] [] (by kernel_rfl) trivial ?_)
  refine K_seq ?_
  obtain ⟨x1, hx1, H⟩ := bind_some' H
  refine K_r [.n p2.length, .r (.tup [(false, [cL x1.1]), (false, [cI x1.2])]) []] [((p2.map (D.int .i64))).length = p2.length, C_T_pieces_Starts k p1 (p2.length : Int) x1] (by kernel_rfl) (AC (List.length_map _) (A1 (T_pieces_Starts_ok k p1 (p2.length : Int) x1 hx1))) ?_
  refine K_seq (K_seq (K_r [] [] (by kernel_rfl) trivial ?_))
  rcases ite_some H with ⟨hx2, H⟩ | ⟨hx2, H⟩
  · refine K_t (by kernel_rfl) hx2 ?_
    refine K_seq (K_r [] [] (by kernel_rfl) trivial ?_)
    refine K_g (by kernel_rfl) ?_
    cases H
    refine K_ret ?_
    kernel_rfl
  · refine K_f (by kernel_rfl) (Bool.eq_false_iff.2 hx2) ?_
    refine K_g (by kernel_rfl) ?_
    refine K_skip (K_seq (K_r [] [] (by kernel_rfl) trivial ?_))
    refine K_seq (K_seq (K_r [.n p2.length] [((p2.map (D.int .i64))).length = p2.length] (by kernel_rfl) (A1 (List.length_map _)) ?_))
    refine K_block (K_g (by kernel_rfl) ?_)
    refine K_conv (σ' := ⟨[(3, (LI x1.1)), (5, (.one (.own 0 0 0))), (20, (I (p2.length : Int))), (21, (I 0))], [VI []]⟩) (by kernel_rfl) ?_
    obtain ⟨x17, hx17, H⟩ := bind_some' H
    refine K_loop ⟨[(5, (.one (.own 0 0 x17.1)))], [VI x17.2]⟩ (loop_ok (fun (s : Nat × Int × (List Int)) => ⟨[(3, (LI x1.1)), (5, (.one (.own 0 0 s.1))), (20, (I (p2.length : Int))), (21, (I s.2.1))], [VI s.2.2]⟩) (fun (r : (Nat × (List Int))) => (.exit 0, ⟨[(5, (.one (.own 0 0 r.1)))], [VI r.2]⟩)) (fun r h => by cases h) (T_sketch_lengths_l1_ok k x1.1 (p2.length : Int)) k (0, 0, []) x17 hx17) rfl ?_
    refine K_seq (K_r [] [] (by kernel_rfl) trivial ?_)
    refine K_g (by kernel_rfl) ?_
    cases H
    refine K_ret ?_
    exact Eq.trans (b := some ((.one (.d (.list (((x17.2.map (D.int .i64)).drop 0).take x17.1)))), [])) (by kernel_rfl) (by simp only [dt_map, LI, VI])
def T_sketch_known_l1 (k : Nat) (x1 : (List Int)) (p1 : Int) (p2 : List Int) (p3 : Int) (x4 : Int) (x13 : Int × Int) : Option ((Int × Int) ⊕ Int) :=
 (if x13.2 < x4 then (at? x1 x13.2).bind fun x15 => (at? p2 x13.2).bind fun x16 => (if x15 ≠ 0 then some (.inl ((w64 (x13.1 + (w64 ((w64 (x16 * x16)).tdiv x15)))), (w64 (x13.2 + 1)))) else none) else some (.inr x13.1))
theorem T_sketch_known_l1_ok (k : Nat) (x1 : (List Int)) (p1 : Int) (p2 : List Int) (p3 : Int) (x4 : Int) : ∀ (x13 : Int × Int) (x : (Int × Int) ⊕ Int), T_sketch_known_l1 k x1 p1 p2 p3 x4 x13 = some x → evC X (evF X k) k 0 l_sketch_known_1 ⟨[(1, (Pt 0)), (3, (I x13.1)), (7, (LI x1)), (8, (I x4)), (9, (I x13.2))], [.cells [cI p1, cL p2, cI p3]]⟩ = some (outS (fun (s : Int × Int) => ⟨[(1, (Pt 0)), (3, (I s.1)), (7, (LI x1)), (8, (I x4)), (9, (I s.2))], [.cells [cI p1, cL p2, cI p3]]⟩) (fun (r : Int) => (.exit 0, ⟨[(3, (I r))], []⟩)) x) := by
 intro x13 x H
 unfold T_sketch_known_l1 at H
 refine K_in ?_
 refine K_seq (K_r [] [] (by kernel_rfl) trivial ?_)
 refine K_seq ?_
 rcases ite_some H with ⟨hx14, H⟩ | ⟨hx14, H⟩
 · refine K_t (by kernel_rfl) (decide_eq_true hx14) ?_
   refine K_g (by kernel_rfl) ?_
   refine K_skip ?_
   refine K_seq ?_
   refine K_block ?_
   refine K_seq ?_
   obtain ⟨x15, hx15, H⟩ := bind_some' H
   refine K_r [.l [.int .i64 x15]] [(0 : Int) ≤ x13.2 ∧ x13.2 < (((x1.map (D.int .i64))).length : Int), ((x1.map (D.int .i64)).getD x13.2.toNat (.int .i64 0)).cells = [.int .i64 x15]] (by kernel_rfl) (AC (at_ok hx15 (D.int .i64) (.int .i64 0)).1 (A1 (at_ok hx15 (D.int .i64) (.int .i64 0)).2)) ?_
   obtain ⟨x16, hx16, H⟩ := bind_some' H
   obtain ⟨hx17, H⟩ := guard_some H
   refine K_r [.l [.int .i64 x16], .l [.int .i64 x16]] [(0 : Int) ≤ x13.2 ∧ x13.2 < (((p2.map (D.int .i64))).length : Int), ((p2.map (D.int .i64)).getD x13.2.toNat (.int .i64 0)).cells = [.int .i64 x16], (0 : Int) ≤ x13.2 ∧ x13.2 < (((p2.map (D.int .i64))).length : Int), ((p2.map (D.int .i64)).getD x13.2.toNat (.int .i64 0)).cells = [.int .i64 x16], x15 ≠ (0 : Int)] (by kernel_rfl) (AC (at_ok hx16 (D.int .i64) (.int .i64 0)).1 (AC (at_ok hx16 (D.int .i64) (.int .i64 0)).2 (AC (at_ok hx16 (D.int .i64) (.int .i64 0)).1 (AC (at_ok hx16 (D.int .i64) (.int .i64 0)).2 (A1 hx17))))) ?_
   refine K_blk (K_r [] [] (by kernel_rfl) trivial ?_)
   cases H
   exact K_end (by kernel_rfl)
 · refine K_f (by kernel_rfl) (decide_eq_false hx14) ?_
   refine K_g (by kernel_rfl) ?_
   cases H
   exact K_exit0 rfl (by kernel_rfl)
def T_sketch_known (k : Nat) (p1 : Int) (p2 : List Int) (p3 : Int) : Option Int := match k with
 | 0 => none
 | k + 1 => ((T_sketch_lengths k p1 p2 p3).bind fun x1 => (loopT (T_sketch_known_l1 k x1 p1 p2 p3 (x1.length : Int)) k (0, 0)).bind fun x18 => some x18)
abbrev C_T_sketch_known (k : Nat) (p1 : Int) (p2 : List Int) (p3 : Int) (r : Int) : Prop := evF X k n_sketch_known [(.agg [cI p1, cL p2, cI p3])] [] = some ((I r), [])
theorem T_sketch_known_ok (k : Nat) (p1 : Int) (p2 : List Int) (p3 : Int) (r : Int) : T_sketch_known k p1 p2 p3 = some r → C_T_sketch_known k p1 p2 p3 r := by
 intro H
 cases k with
 | zero => simp [T_sketch_known] at H
 | succ k =>
  simp only [T_sketch_known] at H
  refine F_in X_sketch_known rfl ?_
  refine K_seq (K_r [] [] (by kernel_rfl) trivial ?_)
  refine K_seq (K_r [] [] (by kernel_rfl) trivial ?_)
  refine K_seq ?_
  refine K_seq ?_
  obtain ⟨x1, hx1, H⟩ := bind_some' H
  refine K_r [.r (LI x1) [], .n x1.length] [C_T_sketch_lengths k p1 p2 p3 x1, ((x1.map (D.int .i64))).length = x1.length] (by kernel_rfl) (AC (T_sketch_lengths_ok k p1 p2 p3 x1 hx1) (A1 (List.length_map _))) ?_
  refine K_block (K_conv (σ' := ⟨[(1, (Pt 0)), (3, (I 0)), (7, (LI x1)), (8, (I (x1.length : Int))), (9, (I 0))], [.cells [cI p1, cL p2, cI p3]]⟩) (by kernel_rfl) ?_)
  obtain ⟨x18, hx18, H⟩ := bind_some' H
  refine K_loop ⟨[(3, (I x18))], []⟩ (loop_ok (fun (s : Int × Int) => ⟨[(1, (Pt 0)), (3, (I s.1)), (7, (LI x1)), (8, (I (x1.length : Int))), (9, (I s.2))], [.cells [cI p1, cL p2, cI p3]]⟩) (fun (r : Int) => (.exit 0, ⟨[(3, (I r))], []⟩)) (fun r h => by cases h) (T_sketch_known_l1_ok k x1 p1 p2 p3 (x1.length : Int)) k (0, 0) x18 hx18) rfl ?_
  refine K_seq (K_r [] [] (by kernel_rfl) trivial ?_)
  refine K_g (by kernel_rfl) ?_
  cases H
  refine K_ret ?_
  kernel_rfl
def T_sketch_valid_l1 (k : Nat) (p1 : Int) (p2 : List Int) (p3 : Int) (x8 : Int) (x16 : Int) : Option (Int ⊕ (Unit ⊕ Unit)) :=
 (if x16 < x8 then ((at? p2 x16).bind fun x18 => (if (decide (x18 < (-2097152)) || decide (2097152 < x18)) = true then some (.inr (.inr ())) else some (.inl (w64 (x16 + 1))))) else some (.inr (.inl ())))
theorem T_sketch_valid_l1_ok (k : Nat) (p1 : Int) (p2 : List Int) (p3 : Int) (x8 : Int) : ∀ (x16 : Int) (x : Int ⊕ (Unit ⊕ Unit)), T_sketch_valid_l1 k p1 p2 p3 x8 x16 = some x → evC X (evF X k) k 0 l_sketch_valid_1 ⟨[(1, (Pt 0)), (38, (LI p2)), (39, (I x8)), (40, (I x16))], [.cells [cI p1, cL p2, cI p3]]⟩ = some (outS (fun (s : Int) => ⟨[(1, (Pt 0)), (38, (LI p2)), (39, (I x8)), (40, (I s))], [.cells [cI p1, cL p2, cI p3]]⟩) (fun (r : Unit ⊕ Unit) => Sum.elim (fun y => (.exit 0, ⟨[(1, (Pt 0))], [.cells [cI p1, cL p2, cI p3]]⟩)) (fun y => (.ret, ⟨[(2, (B false))], []⟩)) r) x) := by
 intro x16 x H
 unfold T_sketch_valid_l1 at H
 refine K_in ?_
 refine K_seq (K_r [] [] (by kernel_rfl) trivial ?_)
 refine K_seq ?_
 rcases ite_some H with ⟨hx17, H⟩ | ⟨hx17, H⟩
 · refine K_t (by kernel_rfl) (decide_eq_true hx17) ?_
   refine K_g (by kernel_rfl) ?_
   refine K_skip ?_
   refine K_seq ?_
   refine K_block ?_
   refine K_seq ?_
   obtain ⟨x18, hx18, H⟩ := bind_some' H
   refine K_r [.l [.int .i64 x18]] [(0 : Int) ≤ x16 ∧ x16 < (((p2.map (D.int .i64))).length : Int), ((p2.map (D.int .i64)).getD x16.toNat (.int .i64 0)).cells = [.int .i64 x18]] (by kernel_rfl) (AC (at_ok hx18 (D.int .i64) (.int .i64 0)).1 (A1 (at_ok hx18 (D.int .i64) (.int .i64 0)).2)) ?_
   refine K_seq (K_r [.m] [([.cells [cI p1, cL p2, cI p3]] : Heap) = [.cells [cI p1, cL p2, cI p3]]] (by kernel_rfl) (A1 rfl) ?_)
   rcases ite_some H with ⟨hx19, H⟩ | ⟨hx19, H⟩
   · refine K_t (by kernel_rfl) hx19 ?_
     refine K_seq (K_r [] [] (by kernel_rfl) trivial ?_)
     refine K_g (by kernel_rfl) ?_
     cases H
     exact K_ret (by kernel_rfl)
   · refine K_f (by kernel_rfl) (Bool.eq_false_iff.2 hx19) ?_
     refine K_g (by kernel_rfl) ?_
     refine K_skip (K_blk (K_r [] [] (by kernel_rfl) trivial ?_))
     cases H
     exact K_end (by kernel_rfl)
 · refine K_f (by kernel_rfl) (decide_eq_false hx17) ?_
   refine K_g (by kernel_rfl) ?_
   cases H
   exact K_exit0 rfl (by kernel_rfl)
def T_sketch_valid (k : Nat) (p1 : Int) (p2 : List Int) (p3 : Int) : Option Bool := match k with
 | 0 => none
 | k + 1 => ((((T_sketch_lengths k p1 p2 p3).bind fun x1 => (if ((decide ((x1.length : Int) = 0) || decide (p3 < 0)) || decide ((w64 ((w64 ((w64 ((w64 (p1 * p1)) * p1)) * 1000)) * 1000)) < p3)) = true then some true else (if p1 ≠ 0 then some (!decide ((p3.tmod p1) = 0)) else none)))).bind fun x5 => (if x5 = true then some false else ((loopT (T_sketch_valid_l1 k p1 p2 p3 (p2.length : Int)) k 0).bind fun x20 => (match x20 with | .inl x21 => ((T_sketch_known k p1 p2 p3).bind fun x22 => some (decide (x22 ≤ p3))) | .inr x23 => some false))))
abbrev C_T_sketch_valid (k : Nat) (p1 : Int) (p2 : List Int) (p3 : Int) (r : Bool) : Prop := evF X k n_sketch_valid [(.agg [cI p1, cL p2, cI p3])] [] = some ((B r), [])
theorem T_sketch_valid_ok (k : Nat) (p1 : Int) (p2 : List Int) (p3 : Int) (r : Bool) : T_sketch_valid k p1 p2 p3 = some r → C_T_sketch_valid k p1 p2 p3 r := by
 intro H
 cases k with
 | zero => simp [T_sketch_valid] at H
 | succ k =>
  simp only [T_sketch_valid] at H
  refine F_in X_sketch_valid rfl ?_
  refine K_seq (K_r [] [] (by kernel_rfl) trivial ?_)
  refine K_seq ?_
  refine K_seq ?_
  obtain ⟨x5, hx5, H⟩ := bind_some' H
  refine K_of ⟨[(1, (Pt 0)), (36, (B x5))], [.cells [cI p1, cL p2, cI p3]]⟩ ?_ ?_
  · clear H; have H := hx5; clear hx5; refine K_in ?_
    obtain ⟨x1, hx1, H⟩ := bind_some' H
    rcases ite_some H with ⟨hx3, H⟩ | ⟨hx3, H⟩
    · refine K_r [.r (LI x1) [], .n x1.length, .m, .m, .b true] ((fun (z1 : Heap) => [C_T_sketch_lengths k p1 p2 p3 x1, ((x1.map (D.int .i64))).length = x1.length, z1 = z1, z1 = z1, ((decide ((x1.length : Int) = 0) || decide (p3 < 0)) || decide ((w64 ((w64 ((w64 ((w64 (p1 * p1)) * p1)) * 1000)) * 1000)) < p3)) = true]) [.cells [cI p1, cL p2, cI p3]]) (by kernel_rfl) (AC (T_sketch_lengths_ok k p1 p2 p3 x1 hx1) (AC (List.length_map _) (AC rfl (AC rfl (A1 hx3))))) ?_
      cases H
      exact K_end (by kernel_rfl)
    · obtain ⟨hx4, H⟩ := guard_some H
      refine K_r [.r (LI x1) [], .n x1.length, .m, .m, .b false] ((fun (z1 : Heap) => [C_T_sketch_lengths k p1 p2 p3 x1, ((x1.map (D.int .i64))).length = x1.length, z1 = z1, z1 = z1, ((decide ((x1.length : Int) = 0) || decide (p3 < 0)) || decide ((w64 ((w64 ((w64 ((w64 (p1 * p1)) * p1)) * 1000)) * 1000)) < p3)) = false, p1 ≠ (0 : Int)]) [.cells [cI p1, cL p2, cI p3]]) (by kernel_rfl) (AC (T_sketch_lengths_ok k p1 p2 p3 x1 hx1) (AC (List.length_map _) (AC rfl (AC rfl (AC (Bool.eq_false_iff.2 hx3) (A1 hx4)))))) ?_
      cases H
      exact K_end (by kernel_rfl)
  rcases ite_some H with ⟨hx6, H⟩ | ⟨hx6, H⟩
  · refine K_t (by kernel_rfl) hx6 ?_
    refine K_seq (K_r [] [] (by kernel_rfl) trivial ?_)
    refine K_g (by kernel_rfl) ?_
    cases H
    refine K_ret ?_
    kernel_rfl
  · refine K_f (by kernel_rfl) (Bool.eq_false_iff.2 hx6) ?_
    refine K_g (by kernel_rfl) ?_
    refine K_skip (K_seq (K_seq (K_r [.n p2.length] [((p2.map (D.int .i64))).length = p2.length] (by kernel_rfl) (A1 (List.length_map _)) ?_)))
    refine K_block (K_conv (σ' := ⟨[(1, (Pt 0)), (38, (LI p2)), (39, (I (p2.length : Int))), (40, (I 0))], [.cells [cI p1, cL p2, cI p3]]⟩) (by kernel_rfl) ?_)
    obtain ⟨x20, hx20, H⟩ := bind_some' H
    cases x20 with
    | inl x21 =>
     dsimp only at H
     refine K_loop ⟨[(1, (Pt 0))], [.cells [cI p1, cL p2, cI p3]]⟩ (loop_ok (fun (s : Int) => ⟨[(1, (Pt 0)), (38, (LI p2)), (39, (I (p2.length : Int))), (40, (I s))], [.cells [cI p1, cL p2, cI p3]]⟩) (fun (r : Unit ⊕ Unit) => Sum.elim (fun y => (.exit 0, ⟨[(1, (Pt 0))], [.cells [cI p1, cL p2, cI p3]]⟩)) (fun y => (.ret, ⟨[(2, (B false))], []⟩)) r) (fun r h => by cases r <;> cases h) (T_sketch_valid_l1_ok k p1 p2 p3 (p2.length : Int)) k 0 (.inl x21) hx20) rfl ?_
     refine K_seq ?_
     obtain ⟨x22, hx22, H⟩ := bind_some' H
     refine K_r [.r (I x22) []] [C_T_sketch_known k p1 p2 p3 x22] (by kernel_rfl) (A1 (T_sketch_known_ok k p1 p2 p3 x22 hx22)) ?_
     refine K_g (by kernel_rfl) ?_
     cases H
     refine K_ret ?_
     kernel_rfl
    | inr x23 =>
     dsimp only at H
     cases H
     refine K_loopr ⟨[(2, (B false))], []⟩ (loop_ok (fun (s : Int) => ⟨[(1, (Pt 0)), (38, (LI p2)), (39, (I (p2.length : Int))), (40, (I s))], [.cells [cI p1, cL p2, cI p3]]⟩) (fun (r : Unit ⊕ Unit) => Sum.elim (fun y => (.exit 0, ⟨[(1, (Pt 0))], [.cells [cI p1, cL p2, cI p3]]⟩)) (fun y => (.ret, ⟨[(2, (B false))], []⟩)) r) (fun r h => by cases r <;> cases h) (T_sketch_valid_l1_ok k p1 p2 p3 (p2.length : Int)) k 0 (.inr x23) hx20) ?_
     kernel_rfl
def T_ratio_divisor_l1 (k : Nat) (x5 : Int × Int) : Option ((Int × Int) ⊕ Int) :=
 (if (!decide (x5.2 = 0)) = true then (if x5.2 ≠ 0 then some (.inl (x5.2, (x5.1.tmod x5.2))) else none) else some (.inr x5.1))
theorem T_ratio_divisor_l1_ok (k : Nat) : ∀ (x5 : Int × Int) (x : (Int × Int) ⊕ Int), T_ratio_divisor_l1 k x5 = some x → evC X (evF X k) k 0 l_ratio_divisor_1 ⟨[(0, (I x5.1)), (1, (I x5.2))], []⟩ = some (outS (fun (s : Int × Int) => ⟨[(0, (I s.1)), (1, (I s.2))], []⟩) (fun (r : Int) => (.exit 0, ⟨[(0, (I r))], []⟩)) x) := by
 intro x5 x H
 unfold T_ratio_divisor_l1 at H
 refine K_in ?_
 refine K_seq (K_seq (K_r [] [] (by kernel_rfl) trivial ?_))
 rcases ite_some H with ⟨hx6, H⟩ | ⟨hx6, H⟩
 · refine K_t (by kernel_rfl) hx6 ?_
   refine K_g (by kernel_rfl) ?_
   refine K_skip ?_
   refine K_block ?_
   obtain ⟨hx7, H⟩ := guard_some H
   refine K_r [] [x5.2 ≠ (0 : Int)] (by kernel_rfl) (A1 hx7) ?_
   refine K_blk ?_
   cases H
   exact K_end (by kernel_rfl)
 · refine K_f (by kernel_rfl) (Bool.eq_false_iff.2 hx6) ?_
   refine K_g (by kernel_rfl) ?_
   cases H
   exact K_exit0 rfl (by kernel_rfl)
def T_ratio_divisor (k : Nat) (p1 : Int) (p2 : Int) : Option Int := match k with
 | 0 => none
 | k + 1 => ((loopT (T_ratio_divisor_l1 k) k (p1, p2)).bind fun x8 => some x8)
abbrev C_T_ratio_divisor (k : Nat) (p1 : Int) (p2 : Int) (r : Int) : Prop := evF X k n_ratio_divisor [(I p1), (I p2)] [] = some ((I r), [])
theorem T_ratio_divisor_ok (k : Nat) (p1 : Int) (p2 : Int) (r : Int) : T_ratio_divisor k p1 p2 = some r → C_T_ratio_divisor k p1 p2 r := by
 intro H
 cases k with
 | zero => simp [T_ratio_divisor] at H
 | succ k =>
  simp only [T_ratio_divisor] at H
  refine F_in X_ratio_divisor rfl ?_
  refine K_seq (K_r [] [] (by kernel_rfl) trivial ?_)
  refine K_seq (K_block (K_conv (σ' := ⟨[(0, (I p1)), (1, (I p2))], []⟩) (by kernel_rfl) ?_))
  obtain ⟨x8, hx8, H⟩ := bind_some' H
  refine K_loop ⟨[(0, (I x8))], []⟩ (loop_ok (fun (s : Int × Int) => ⟨[(0, (I s.1)), (1, (I s.2))], []⟩) (fun (r : Int) => (.exit 0, ⟨[(0, (I r))], []⟩)) (fun r h => by cases h) (T_ratio_divisor_l1_ok k) k (p1, p2) x8 hx8) rfl ?_
  refine K_seq (K_r [] [] (by kernel_rfl) trivial ?_)
  refine K_g (by kernel_rfl) ?_
  cases H
  refine K_ret ?_
  kernel_rfl
def T_ratio_within (k : Nat) (p1 : Int) (p2 : Int) : Option Unit := match k with
 | 0 => none
 | k + 1 => some ()
abbrev C_T_ratio_within (k : Nat) (p1 : Int) (p2 : Int) (r : Unit) : Prop := evF X k n_ratio_within [(.agg [cI p1, cI p2])] [] = some ((B (((decide (0 ≤ p1) && decide (p1 ≤ 2305843009213693952)) && decide (1 ≤ p2)) && decide (p2 ≤ 1152921504606846976))), [])
theorem T_ratio_within_ok (k : Nat) (p1 : Int) (p2 : Int) (r : Unit) : T_ratio_within k p1 p2 = some r → C_T_ratio_within k p1 p2 r := by
 intro H
 cases k with
 | zero => simp [T_ratio_within] at H
 | succ k =>
  simp only [T_ratio_within] at H
  refine F_in X_ratio_within rfl ?_
  refine K_seq (K_r [] [] (by kernel_rfl) trivial ?_)
  refine K_seq (K_r [.m, .m, .m] ((fun (z1 : Heap) => [z1 = z1, z1 = z1, z1 = z1]) [.cells [cI p1, cI p2]]) (by kernel_rfl) (AC rfl (AC rfl (A1 rfl))) ?_)
  refine K_g (by kernel_rfl) ?_
  cases H
  refine K_ret ?_
  kernel_rfl
def T_ratio_Make (k : Nat) (p1 : Int) (p2 : Int) : Option (Int × Int × Int) := match k with
 | 0 => none
 | k + 1 => (if (decide (p1 < 0) || decide (p2 < 1)) = true then some (0, 0, 1) else (T_ratio_divisor k p1 p2).bind fun x2 => (if x2 ≠ 0 then (T_ratio_within k (w64 (p1.tdiv x2)) (w64 (p2.tdiv x2))).bind fun x4 => (if (!(((decide (0 ≤ (w64 (p1.tdiv x2))) && decide ((w64 (p1.tdiv x2)) ≤ 2305843009213693952)) && decide (1 ≤ (w64 (p2.tdiv x2)))) && decide ((w64 (p2.tdiv x2)) ≤ 1152921504606846976))) = true then some (0, 0, 1) else some ((w64 (p1.tdiv x2)), (w64 (p2.tdiv x2)), 0)) else none))
abbrev C_T_ratio_Make (k : Nat) (p1 : Int) (p2 : Int) (r : Int × Int × Int) : Prop := evF X k n_ratio_Make [(I p1), (I p2)] [] = some ((.tup [(true, [cI r.1, cI r.2.1]), (false, [cI r.2.2])]), [])
theorem T_ratio_Make_ok (k : Nat) (p1 : Int) (p2 : Int) (r : Int × Int × Int) : T_ratio_Make k p1 p2 = some r → C_T_ratio_Make k p1 p2 r := by
 intro H
 cases k with
 | zero => simp [T_ratio_Make] at H
 | succ k =>
  simp only [T_ratio_Make] at H
  refine F_in X_ratio_Make rfl ?_
  refine K_seq (K_r [] [] (by kernel_rfl) trivial ?_)
  refine K_seq (K_seq (K_r [.m] [([.cells [cI 0, cI 0]] : Heap) = [.cells [cI 0, cI 0]]] (by kernel_rfl) (A1 rfl) ?_))
  rcases ite_some H with ⟨hx1, H⟩ | ⟨hx1, H⟩
  · refine K_t (by kernel_rfl) hx1 ?_
    refine K_seq (K_r [] [] (by kernel_rfl) trivial ?_)
    refine K_g (by kernel_rfl) ?_
    cases H
    refine K_ret ?_
    kernel_rfl
  · refine K_f (by kernel_rfl) (Bool.eq_false_iff.2 hx1) ?_
    refine K_g (by kernel_rfl) ?_
    refine K_skip ?_
    refine K_seq ?_
    obtain ⟨x2, hx2, H⟩ := bind_some' H
    refine K_r [.r (I x2) []] [C_T_ratio_divisor k p1 p2 x2] (by kernel_rfl) (A1 (T_ratio_divisor_ok k p1 p2 x2 hx2)) ?_
    refine K_seq ?_
    obtain ⟨hx3, H⟩ := guard_some H
    refine K_r [] [x2 ≠ (0 : Int), x2 ≠ (0 : Int)] (by kernel_rfl) (AC hx3 (A1 hx3)) ?_
    refine K_seq ?_
    refine K_seq ?_
    obtain ⟨x4, hx4, H⟩ := bind_some' H
    refine K_r [.r (B (((decide (0 ≤ (w64 (p1.tdiv x2))) && decide ((w64 (p1.tdiv x2)) ≤ 2305843009213693952)) && decide (1 ≤ (w64 (p2.tdiv x2)))) && decide ((w64 (p2.tdiv x2)) ≤ 1152921504606846976))) []] [C_T_ratio_within k (w64 (p1.tdiv x2)) (w64 (p2.tdiv x2)) x4] (by kernel_rfl) (A1 (T_ratio_within_ok k (w64 (p1.tdiv x2)) (w64 (p2.tdiv x2)) x4 hx4)) ?_
    rcases ite_some H with ⟨hx5, H⟩ | ⟨hx5, H⟩
    · refine K_t (by kernel_rfl) hx5 ?_
      refine K_seq (K_r [] [] (by kernel_rfl) trivial ?_)
      refine K_g (by kernel_rfl) ?_
      cases H
      refine K_ret ?_
      kernel_rfl
    · refine K_f (by kernel_rfl) (Bool.eq_false_iff.2 hx5) ?_
      refine K_g (by kernel_rfl) ?_
      refine K_skip (K_seq (K_r [] [] (by kernel_rfl) trivial ?_))
      refine K_g (by kernel_rfl) ?_
      cases H
      refine K_ret ?_
      kernel_rfl
def T_sketch_flat_l1 (k : Nat) (p1 : List (Int × Int)) (x2 : Int) (x10 : Int) : Option (Int ⊕ (Unit ⊕ (Int × Int × Int))) :=
 (if x10 < x2 then ((at? p1 x10).bind fun x12 => (if (decide (0 < x12.1) || decide (x12.2 < 0)) = true then ((T_ratio_Make k 1 1).bind fun x14 => some (.inr (.inr (x14.2.2, x14.1, x14.2.1)))) else some (.inl (w64 (x10 + 1))))) else some (.inr (.inl ())))
theorem T_sketch_flat_l1_ok (k : Nat) (p1 : List (Int × Int)) (x2 : Int) : ∀ (x10 : Int) (x : Int ⊕ (Unit ⊕ (Int × Int × Int))), T_sketch_flat_l1 k p1 x2 x10 = some x → evC X (evF X k) k 0 l_sketch_flat_1 ⟨[(2, (Pt 0)), (6, (.one (.d (.list (p1.map e_st0))))), (7, (I x2)), (8, (I x10))], [.cells [cI 0, cI 0]]⟩ = some (outS (fun (s : Int) => ⟨[(2, (Pt 0)), (6, (.one (.d (.list (p1.map e_st0))))), (7, (I x2)), (8, (I s))], [.cells [cI 0, cI 0]]⟩) (fun (r : Unit ⊕ (Int × Int × Int)) => Sum.elim (fun y => (.exit 0, ⟨[(2, (Pt 0))], [.cells [cI 0, cI 0]]⟩)) (fun y => (.ret, ⟨[(2, (Pt 0)), (3, (I y.1))], [.cells [cI y.2.1, cI y.2.2]]⟩)) r) x) := by
 intro x10 x H
 unfold T_sketch_flat_l1 at H
 refine K_in ?_
 refine K_seq (K_r [] [] (by kernel_rfl) trivial ?_)
 refine K_seq ?_
 rcases ite_some H with ⟨hx11, H⟩ | ⟨hx11, H⟩
 · refine K_t (by kernel_rfl) (decide_eq_true hx11) ?_
   refine K_g (by kernel_rfl) ?_
   refine K_skip ?_
   refine K_seq ?_
   refine K_block ?_
   refine K_seq ?_
   obtain ⟨x12, hx12, H⟩ := bind_some' H
   refine K_r [.l [.int .i64 x12.1, .int .i64 x12.2]] [(0 : Int) ≤ x10 ∧ x10 < (((p1.map e_st0)).length : Int), ((p1.map e_st0).getD x10.toNat (.agg [(.int .i64 0), (.int .i64 0)])).cells = [.int .i64 x12.1, .int .i64 x12.2]] (by kernel_rfl) (AC (at_ok hx12 e_st0 (.agg [(.int .i64 0), (.int .i64 0)])).1 (A1 (at_ok hx12 e_st0 (.agg [(.int .i64 0), (.int .i64 0)])).2)) ?_
   refine K_seq (K_r [.m] ((fun (z1 : Heap) => [z1 = z1]) [.cells [cI 0, cI 0], .cells [cI x12.1, cI x12.2]]) (by kernel_rfl) (A1 rfl) ?_)
   rcases ite_some H with ⟨hx13, H⟩ | ⟨hx13, H⟩
   · refine K_t (by kernel_rfl) hx13 ?_
     refine K_seq ?_
     obtain ⟨x14, hx14, H⟩ := bind_some' H
     refine K_r [.r (.tup [(true, [cI x14.1, cI x14.2.1]), (false, [cI x14.2.2])]) []] [C_T_ratio_Make k 1 1 x14] (by kernel_rfl) (A1 (T_ratio_Make_ok k 1 1 x14 hx14)) ?_
     refine K_g (by kernel_rfl) ?_
     cases H
     exact K_ret (by kernel_rfl)
   · refine K_f (by kernel_rfl) (Bool.eq_false_iff.2 hx13) ?_
     refine K_g (by kernel_rfl) ?_
     refine K_skip (K_blk (K_r [] [] (by kernel_rfl) trivial ?_))
     cases H
     exact K_end (by kernel_rfl)
 · refine K_f (by kernel_rfl) (decide_eq_false hx11) ?_
   refine K_g (by kernel_rfl) ?_
   cases H
   exact K_exit0 rfl (by kernel_rfl)
def T_sketch_flat (k : Nat) (p1 : List (Int × Int)) : Option (Int × Int × Int) := match k with
 | 0 => none
 | k + 1 => ((loopT (T_sketch_flat_l1 k p1 (p1.length : Int)) k 0).bind fun x15 => (match x15 with | .inl x16 => ((T_ratio_Make k 0 1).bind fun x17 => some (x17.1, x17.2.1, x17.2.2)) | .inr x18 => some (x18.2.1, x18.2.2, x18.1)))
abbrev C_T_sketch_flat (k : Nat) (p1 : List (Int × Int)) (r : Int × Int × Int) : Prop := evF X k n_sketch_flat [(.one (.d (.list (p1.map e_st0))))] [] = some ((.tup [(true, [cI r.1, cI r.2.1]), (false, [cI r.2.2])]), [])
theorem T_sketch_flat_ok (k : Nat) (p1 : List (Int × Int)) (r : Int × Int × Int) : T_sketch_flat k p1 = some r → C_T_sketch_flat k p1 r := by
 intro H
 cases k with
 | zero => simp [T_sketch_flat] at H
 | succ k =>
  simp only [T_sketch_flat] at H
  refine F_in X_sketch_flat rfl ?_
  refine K_seq (K_r [] [] (by kernel_rfl) trivial ?_)
  refine K_seq (K_seq (K_r [.n p1.length] [((p1.map e_st0)).length = p1.length] (by kernel_rfl) (A1 (List.length_map _)) ?_))
  refine K_block (K_conv (σ' := ⟨[(2, (Pt 0)), (6, (.one (.d (.list (p1.map e_st0))))), (7, (I (p1.length : Int))), (8, (I 0))], [.cells [cI 0, cI 0]]⟩) (by kernel_rfl) ?_)
  obtain ⟨x15, hx15, H⟩ := bind_some' H
  cases x15 with
  | inl x16 =>
   dsimp only at H
   refine K_loop ⟨[(2, (Pt 0))], [.cells [cI 0, cI 0]]⟩ (loop_ok (fun (s : Int) => ⟨[(2, (Pt 0)), (6, (.one (.d (.list (p1.map e_st0))))), (7, (I (p1.length : Int))), (8, (I s))], [.cells [cI 0, cI 0]]⟩) (fun (r : Unit ⊕ (Int × Int × Int)) => Sum.elim (fun y => (.exit 0, ⟨[(2, (Pt 0))], [.cells [cI 0, cI 0]]⟩)) (fun y => (.ret, ⟨[(2, (Pt 0)), (3, (I y.1))], [.cells [cI y.2.1, cI y.2.2]]⟩)) r) (fun r h => by cases r <;> cases h) (T_sketch_flat_l1_ok k p1 (p1.length : Int)) k 0 (.inl x16) hx15) rfl ?_
   refine K_seq ?_
   obtain ⟨x17, hx17, H⟩ := bind_some' H
   refine K_r [.r (.tup [(true, [cI x17.1, cI x17.2.1]), (false, [cI x17.2.2])]) []] [C_T_ratio_Make k 0 1 x17] (by kernel_rfl) (A1 (T_ratio_Make_ok k 0 1 x17 hx17)) ?_
   refine K_g (by kernel_rfl) ?_
   cases H
   refine K_ret ?_
   kernel_rfl
  | inr x18 =>
   dsimp only at H
   cases H
   refine K_loopr ⟨[(2, (Pt 0)), (3, (I x18.1))], [.cells [cI x18.2.1, cI x18.2.2]]⟩ (loop_ok (fun (s : Int) => ⟨[(2, (Pt 0)), (6, (.one (.d (.list (p1.map e_st0))))), (7, (I (p1.length : Int))), (8, (I s))], [.cells [cI 0, cI 0]]⟩) (fun (r : Unit ⊕ (Int × Int × Int)) => Sum.elim (fun y => (.exit 0, ⟨[(2, (Pt 0))], [.cells [cI 0, cI 0]]⟩)) (fun y => (.ret, ⟨[(2, (Pt 0)), (3, (I y.1))], [.cells [cI y.2.1, cI y.2.2]]⟩)) r) (fun r h => by cases r <;> cases h) (T_sketch_flat_l1_ok k p1 (p1.length : Int)) k 0 (.inr x18) hx15) ?_
   kernel_rfl
end Go.Proofs.Ytdmipmhpjdmopaa.sketchRegions
