/- What the functions that the statement WarpLeast reaches compute, told as functions of Lean, and that the theory's language computes the same: part 1 of 2. There are no conditions. -/
import Derived.Test.YtnceoalphoodaaaMWarpLeast
set_option maxRecDepth 100000
set_option linter.unusedVariables false
set_option linter.unusedSimpArgs false
namespace Go.Proofs.Ytnceoalphoodaaa.warpLeast
open Go
abbrev e_st0 (p : Int × Int) : D := .agg [.int .i64 p.1, .int .i64 p.2]
def T_keep_New (k : Nat) (p1 : List Int) : Option Unit := match k with
 | 0 => none
 | k + 1 => (if (0 : Int) ≤ 0 ∧ 0 ≤ (imin (p1.length : Int) 2000) ∧ (imin (p1.length : Int) 2000) ≤ (p1.length : Int) ∧ (p1.length : Int) ≤ (p1.length : Int) then some () else none)
abbrev C_T_keep_New (k : Nat) (p1 : List Int) (r : Unit) : Prop := evF X k n_keep_New [(LI p1)] [] = some ((Pt 0), [.cells [cL ((p1.drop 0).take ((imin (p1.length : Int) 2000).toNat - 0)), cI 0]])
theorem T_keep_New_ok (k : Nat) (p1 : List Int) (r : Unit) : T_keep_New k p1 = some r → C_T_keep_New k p1 r := by
 intro H
 cases k with
 | zero => simp [T_keep_New] at H
 | succ k =>
  simp only [T_keep_New] at H
  refine F_in X_keep_New rfl ?_
  refine K_seq (K_r [] [] (by kernel_rfl) trivial ?_)
  refine K_seq ?_
  obtain ⟨hx1, H⟩ := guard_some H
  refine K_r [.n p1.length, .l (((p1.drop 0).take ((imin (p1.length : Int) 2000).toNat - 0)).map (D.int .i64))] [((p1.map (D.int .i64))).length = p1.length, ((p1.map (D.int .i64)).all fun d => d.cells.length == 1) = true, (0 : Int) ≤ 0 ∧ 0 ≤ (imin (p1.length : Int) 2000) ∧ (imin (p1.length : Int) 2000) ≤ (((p1.map (D.int .i64))).length : Int) ∧ (((p1.map (D.int .i64))).length : Int) ≤ (((p1.map (D.int .i64))).length : Int), ((p1.map (D.int .i64)).drop (0 : Int).toNat).take (((imin (p1.length : Int) 2000) : Int).toNat - (0 : Int).toNat) = ((p1.drop 0).take ((imin (p1.length : Int) 2000).toNat - 0)).map (D.int .i64)] (by kernel_rfl) (AC (List.length_map _) (AC (all_ok (D.int .i64) 1 p1 (fun _ => rfl)) (AC (by simpa using hx1) (A1 (dt_map _ _ _ _))))) ?_
  refine K_g (by kernel_rfl) ?_
  cases H
  refine K_ret ?_
  kernel_rfl
def T_keep_Src_Raw (k : Nat) (p1 : List Int) (p2 : Int) : Option (Int × Int) := match k with
 | 0 => none
 | k + 1 => (if (p1.length : Int) ≤ p2 then some (0, p2) else ((at? p1 (w64 ((w64 (p2 + 1)) - 1))).bind fun x2 => some (x2, (w64 (p2 + 1)))))
abbrev C_T_keep_Src_Raw (k : Nat) (p1 : List Int) (p2 : Int) (r : Int × Int) : Prop := evF X k n_keep_Src_Raw [(Pt 0)] [.cells [cL p1, cI p2]] = some ((I r.1), [.cells [cL p1, cI r.2]])
theorem T_keep_Src_Raw_ok (k : Nat) (p1 : List Int) (p2 : Int) (r : Int × Int) : T_keep_Src_Raw k p1 p2 = some r → C_T_keep_Src_Raw k p1 p2 r := by
 intro H
 cases k with
 | zero => simp [T_keep_Src_Raw] at H
 | succ k =>
  simp only [T_keep_Src_Raw] at H
  refine F_in X_keep_Src_Raw rfl ?_
  refine K_seq (K_r [] [] (by kernel_rfl) trivial ?_)
  refine K_seq (K_seq (K_r [.n p1.length] [((p1.map (D.int .i64))).length = p1.length] (by kernel_rfl) (A1 (List.length_map _)) ?_))
  rcases ite_some H with ⟨hx1, H⟩ | ⟨hx1, H⟩
  · refine K_t (by kernel_rfl) (decide_eq_true hx1) ?_
    refine K_seq (K_r [] [] (by kernel_rfl) trivial ?_)
    refine K_g (by kernel_rfl) ?_
    cases H
    refine K_ret ?_
    kernel_rfl
  · refine K_f (by kernel_rfl) (decide_eq_false hx1) ?_
    refine K_g (by kernel_rfl) ?_
    refine K_skip (K_seq (K_r [] [] (by kernel_rfl) trivial ?_))
    refine K_seq ?_
    obtain ⟨x2, hx2, H⟩ := bind_some' H
    refine K_r [.l [.int .i64 x2]] [(0 : Int) ≤ (w64 ((w64 (p2 + 1)) - 1)) ∧ (w64 ((w64 (p2 + 1)) - 1)) < (((p1.map (D.int .i64))).length : Int), ((p1.map (D.int .i64)).getD (w64 ((w64 (p2 + 1)) - 1)).toNat (.int .i64 0)).cells = [.int .i64 x2]] (by kernel_rfl) (AC (at_ok hx2 (D.int .i64) (.int .i64 0)).1 (A1 (at_ok hx2 (D.int .i64) (.int .i64 0)).2)) ?_
    refine K_g (by kernel_rfl) ?_
    cases H
    refine K_ret ?_
    kernel_rfl
def T_keep_Mod (k : Nat) (p1 : Int) (p2 : Int) : Option Int := match k with
 | 0 => none
 | k + 1 => (if p2 < 1 then some 0 else (if p2 ≠ 0 then ((if (p1.tmod p2) < 0 then some (w64 ((p1.tmod p2) + p2)) else some (p1.tmod p2))).bind fun x4 => some x4 else none))
abbrev C_T_keep_Mod (k : Nat) (p1 : Int) (p2 : Int) (r : Int) : Prop := evF X k n_keep_Mod [(I p1), (I p2)] [] = some ((I r), [])
theorem T_keep_Mod_ok (k : Nat) (p1 : Int) (p2 : Int) (r : Int) : T_keep_Mod k p1 p2 = some r → C_T_keep_Mod k p1 p2 r := by
 intro H
 cases k with
 | zero => simp [T_keep_Mod] at H
 | succ k =>
  simp only [T_keep_Mod] at H
  refine F_in X_keep_Mod rfl ?_
  refine K_seq (K_r [] [] (by kernel_rfl) trivial ?_)
  refine K_seq (K_seq (K_r [] [] (by kernel_rfl) trivial ?_))
  rcases ite_some H with ⟨hx1, H⟩ | ⟨hx1, H⟩
  · refine K_t (by kernel_rfl) (decide_eq_true hx1) ?_
    refine K_seq (K_r [] [] (by kernel_rfl) trivial ?_)
    refine K_g (by kernel_rfl) ?_
    cases H
    refine K_ret ?_
    kernel_rfl
  · refine K_f (by kernel_rfl) (decide_eq_false hx1) ?_
    refine K_g (by kernel_rfl) ?_
    refine K_skip ?_
    refine K_seq ?_
    obtain ⟨hx2, H⟩ := guard_some H
    refine K_r [] [p2 ≠ (0 : Int)] (by kernel_rfl) (A1 hx2) ?_
    refine K_seq (K_seq (K_r [] [] (by kernel_rfl) trivial ?_))
    obtain ⟨x4, hx4, H⟩ := bind_some' H
    refine K_of ⟨[(0, (I x4))], []⟩ ?_ ?_
    · clear H; have H := hx4; clear hx4; refine K_in ?_
      rcases ite_some H with ⟨hx3, H⟩ | ⟨hx3, H⟩
      · refine K_t (by kernel_rfl) (decide_eq_true hx3) ?_
        refine K_r [] [] (by kernel_rfl) trivial ?_
        cases H
        exact K_end (by kernel_rfl)
      · refine K_f (by kernel_rfl) (decide_eq_false hx3) ?_
        refine K_g (by kernel_rfl) ?_
        refine K_skip ?_
        cases H
        exact K_end (by kernel_rfl)
    refine K_seq (K_r [] [] (by kernel_rfl) trivial ?_)
    refine K_g (by kernel_rfl) ?_
    cases H
    refine K_ret ?_
    kernel_rfl
def T_keep_Src_N (k : Nat) (p1 : Int) (p2 : List Int) (p3 : Int) : Option (Int × Int) := match k with
 | 0 => none
 | k + 1 => ((T_keep_Src_Raw k p2 p3).bind fun x1 => (T_keep_Mod k x1.1 p1).bind fun x2 => some (x2, x1.2))
abbrev C_T_keep_Src_N (k : Nat) (p1 : Int) (p2 : List Int) (p3 : Int) (r : Int × Int) : Prop := evF X k n_keep_Src_N [(Pt 0), (I p1)] [.cells [cL p2, cI p3]] = some ((I r.1), [.cells [cL p2, cI r.2]])
theorem T_keep_Src_N_ok (k : Nat) (p1 : Int) (p2 : List Int) (p3 : Int) (r : Int × Int) : T_keep_Src_N k p1 p2 p3 = some r → C_T_keep_Src_N k p1 p2 p3 r := by
 intro H
 cases k with
 | zero => simp [T_keep_Src_N] at H
 | succ k =>
  simp only [T_keep_Src_N] at H
  refine F_in X_keep_Src_N rfl ?_
  refine K_seq (K_r [] [] (by kernel_rfl) trivial ?_)
  refine K_seq ?_
  obtain ⟨x1, hx1, H⟩ := bind_some' H
  obtain ⟨x2, hx2, H⟩ := bind_some' H
  refine K_r [.r (I x1.1) [.cells [cL p2, cI x1.2]], .r (I x2) []] [C_T_keep_Src_Raw k p2 p3 x1, C_T_keep_Mod k x1.1 p1 x2] (by kernel_rfl) (AC (T_keep_Src_Raw_ok k p2 p3 x1 hx1) (A1 (T_keep_Mod_ok k x1.1 p1 x2 hx2))) ?_
  refine K_g (by kernel_rfl) ?_
  cases H
  refine K_ret ?_
  kernel_rfl
def T_keep_Src_Range (k : Nat) (p1 : Int) (p2 : Int) (p3 : List Int) (p4 : Int) : Option (Int × Int) := match k with
 | 0 => none
 | k + 1 => ((T_keep_Src_N k (w64 ((w64 (p2 - p1)) + 1)) p3 p4).bind fun x1 => some ((w64 (p1 + x1.1)), x1.2))
abbrev C_T_keep_Src_Range (k : Nat) (p1 : Int) (p2 : Int) (p3 : List Int) (p4 : Int) (r : Int × Int) : Prop := evF X k n_keep_Src_Range [(Pt 0), (I p1), (I p2)] [.cells [cL p3, cI p4]] = some ((I r.1), [.cells [cL p3, cI r.2]])
theorem T_keep_Src_Range_ok (k : Nat) (p1 : Int) (p2 : Int) (p3 : List Int) (p4 : Int) (r : Int × Int) : T_keep_Src_Range k p1 p2 p3 p4 = some r → C_T_keep_Src_Range k p1 p2 p3 p4 r := by
 intro H
 cases k with
 | zero => simp [T_keep_Src_Range] at H
 | succ k =>
  simp only [T_keep_Src_Range] at H
  refine F_in X_keep_Src_Range rfl ?_
  refine K_seq (K_r [] [] (by kernel_rfl) trivial ?_)
  refine K_seq ?_
  obtain ⟨x1, hx1, H⟩ := bind_some' H
  refine K_r [.r (I x1.1) [.cells [cL p3, cI x1.2]]] [C_T_keep_Src_N k (w64 ((w64 (p2 - p1)) + 1)) p3 p4 x1] (by kernel_rfl) (A1 (T_keep_Src_N_ok k (w64 ((w64 (p2 - p1)) + 1)) p3 p4 x1 hx1)) ?_
  refine K_g (by kernel_rfl) ?_
  cases H
  refine K_ret ?_
  kernel_rfl
def T_keep_Src_Length (k : Nat) (p1 : List Int) (p2 : Int) : Option (Int × Int) := match k with
 | 0 => none
 | k + 1 => ((T_keep_Src_N k 8 p1 p2).bind fun x1 => (if x1.1 = 7 then ((T_keep_Src_Range k 13 32 p1 x1.2).bind fun x3 => some (x3.1, x3.2)) else ((T_keep_Src_Range k 2 12 p1 x1.2).bind fun x4 => some (x4.1, x4.2))))
abbrev C_T_keep_Src_Length (k : Nat) (p1 : List Int) (p2 : Int) (r : Int × Int) : Prop := evF X k n_keep_Src_Length [(Pt 0)] [.cells [cL p1, cI p2]] = some ((I r.1), [.cells [cL p1, cI r.2]])
theorem T_keep_Src_Length_ok (k : Nat) (p1 : List Int) (p2 : Int) (r : Int × Int) : T_keep_Src_Length k p1 p2 = some r → C_T_keep_Src_Length k p1 p2 r := by
 intro H
 cases k with
 | zero => simp [T_keep_Src_Length] at H
 | succ k =>
  simp only [T_keep_Src_Length] at H
  refine F_in X_keep_Src_Length rfl ?_
  refine K_seq (K_r [] [] (by kernel_rfl) trivial ?_)
  refine K_seq ?_
  refine K_seq ?_
  obtain ⟨x1, hx1, H⟩ := bind_some' H
  refine K_r [.r (I x1.1) [.cells [cL p1, cI x1.2]]] [C_T_keep_Src_N k 8 p1 p2 x1] (by kernel_rfl) (A1 (T_keep_Src_N_ok k 8 p1 p2 x1 hx1)) ?_
  rcases ite_some H with ⟨hx2, H⟩ | ⟨hx2, H⟩
  · refine K_t (by kernel_rfl) (decide_eq_true hx2) ?_
    refine K_seq ?_
    obtain ⟨x3, hx3, H⟩ := bind_some' H
    refine K_r [.r (I x3.1) [.cells [cL p1, cI x3.2]]] [C_T_keep_Src_Range k 13 32 p1 x1.2 x3] (by kernel_rfl) (A1 (T_keep_Src_Range_ok k 13 32 p1 x1.2 x3 hx3)) ?_
    refine K_g (by kernel_rfl) ?_
    cases H
    refine K_ret ?_
    kernel_rfl
  · refine K_f (by kernel_rfl) (decide_eq_false hx2) ?_
    refine K_g (by kernel_rfl) ?_
    refine K_skip ?_
    refine K_seq ?_
    obtain ⟨x4, hx4, H⟩ := bind_some' H
    refine K_r [.r (I x4.1) [.cells [cL p1, cI x4.2]]] [C_T_keep_Src_Range k 2 12 p1 x1.2 x4] (by kernel_rfl) (A1 (T_keep_Src_Range_ok k 2 12 p1 x1.2 x4 hx4)) ?_
    refine K_g (by kernel_rfl) ?_
    cases H
    refine K_ret ?_
    kernel_rfl
def T_keep_Src_Pick (k : Nat) (p1 : List Int) (p2 : List Int) (p3 : Int) : Option (Int × Int) := match k with
 | 0 => none
 | k + 1 => ((T_keep_Src_N k (p1.length : Int) p2 p3).bind fun x1 => (at? p1 x1.1).bind fun x2 => some (x2, x1.2))
abbrev C_T_keep_Src_Pick (k : Nat) (p1 : List Int) (p2 : List Int) (p3 : Int) (r : Int × Int) : Prop := evF X k n_keep_Src_Pick [(Pt 0), (LI p1)] [.cells [cL p2, cI p3]] = some ((I r.1), [.cells [cL p2, cI r.2]])
theorem T_keep_Src_Pick_ok (k : Nat) (p1 : List Int) (p2 : List Int) (p3 : Int) (r : Int × Int) : T_keep_Src_Pick k p1 p2 p3 = some r → C_T_keep_Src_Pick k p1 p2 p3 r := by
 intro H
 cases k with
 | zero => simp [T_keep_Src_Pick] at H
 | succ k =>
  simp only [T_keep_Src_Pick] at H
  refine F_in X_keep_Src_Pick rfl ?_
  refine K_seq (K_r [] [] (by kernel_rfl) trivial ?_)
  refine K_seq ?_
  obtain ⟨x1, hx1, H⟩ := bind_some' H
  obtain ⟨x2, hx2, H⟩ := bind_some' H
  refine K_r [.n p1.length, .r (I x1.1) [.cells [cL p2, cI x1.2]], .l [.int .i64 x2]] [((p1.map (D.int .i64))).length = p1.length, C_T_keep_Src_N k (p1.length : Int) p2 p3 x1, (0 : Int) ≤ x1.1 ∧ x1.1 < (((p1.map (D.int .i64))).length : Int), ((p1.map (D.int .i64)).getD x1.1.toNat (.int .i64 0)).cells = [.int .i64 x2]] (by kernel_rfl) (AC (List.length_map _) (AC (T_keep_Src_N_ok k (p1.length : Int) p2 p3 x1 hx1) (AC (at_ok hx2 (D.int .i64) (.int .i64 0)).1 (A1 (at_ok hx2 (D.int .i64) (.int .i64 0)).2)))) ?_
  refine K_g (by kernel_rfl) ?_
  cases H
  refine K_ret ?_
  kernel_rfl
def T_keep_clip (k : Nat) (p1 : Int) : Option Unit := match k with
 | 0 => none
 | k + 1 => some ()
abbrev C_T_keep_clip (k : Nat) (p1 : Int) (r : Unit) : Prop := evF X k n_keep_clip [(I p1)] [] = some ((I (imin (imax p1 (-1000)) 1000)), [])
theorem T_keep_clip_ok (k : Nat) (p1 : Int) (r : Unit) : T_keep_clip k p1 = some r → C_T_keep_clip k p1 r := by
 intro H
 cases k with
 | zero => simp [T_keep_clip] at H
 | succ k =>
  simp only [T_keep_clip] at H
  refine F_in X_keep_clip rfl ?_
  refine K_seq (K_r [] [] (by kernel_rfl) trivial ?_)
  refine K_seq (K_r [] [] (by kernel_rfl) trivial ?_)
  refine K_g (by kernel_rfl) ?_
  cases H
  refine K_ret ?_
  kernel_rfl
def T_keep_Src_List_l1 (k : Nat) (p1 : Int) (p2 : List Int) (x8 : Int) (x9 : Int) (x37 : Int × Nat × Int × Int × (List Int)) : Option ((Int × Nat × Int × Int × (List Int)) ⊕ ((Nat × Int × (List Int)))) :=
 (if x37.2.2.1 < p1 then (((if x8 = 0 then some (decide (x8 = 0)) else some (decide (x8 = 1)))).bind fun x40 => ((if x40 = true then (T_keep_Src_Range k (w64 (0 - x9)) x9 p2 x37.2.2.2.1).bind fun x42 => (if x37.2.1 + 1 ≤ LIM then some (x37.1, x42.2, ((x37.2.2.2.2.drop 0).take x37.2.1 ++ ([x42.1] : List Int))) else none) else (((if x8 = 2 then some (decide (x8 = 2)) else some (decide (x8 = 3)))).bind fun x45 => (if x45 = true then (T_keep_Src_Range k (w64 (0 - x9)) x9 p2 x37.2.2.2.1).bind fun x47 => (T_keep_clip k (w64 (x37.1 + x47.1))).bind fun x48 => (if x37.2.1 + 1 ≤ LIM then some ((imin (imax (w64 (x37.1 + x47.1)) (-1000)) 1000), x47.2, ((x37.2.2.2.2.drop 0).take x37.2.1 ++ ([(imin (imax (w64 (x37.1 + x47.1)) (-1000)) 1000)] : List Int))) else none) else (if x8 = 4 then (T_keep_Src_N k 4 p2 x37.2.2.2.1).bind fun x51 => ((if x51.1 = 0 then ((T_keep_Src_Range k (w64 (0 - x9)) x9 p2 x51.2).bind fun x53 => some (x53.1, x53.2)) else some (x37.1, x51.2))).bind fun x54 => (if x37.2.1 + 1 ≤ LIM then some (x54.1, x54.2, ((x37.2.2.2.2.drop 0).take x37.2.1 ++ ([x54.1] : List Int))) else none) else (T_keep_Src_Pick k ([(-1000), 1000, 1000, 0] : List Int) p2 x37.2.2.2.1).bind fun x56 => (if x37.2.1 + 1 ≤ LIM then some (x37.1, x56.2, ((x37.2.2.2.2.drop 0).take x37.2.1 ++ ([x56.1] : List Int))) else none)))))).bind fun x58 => some (.inl (x58.1, (x37.2.1 + 1), (w64 (x37.2.2.1 + 1)), x58.2.1, x58.2.2))) else some (.inr (x37.2.1, x37.2.2.2.1, x37.2.2.2.2)))
theorem T_keep_Src_List_l1_ok (k : Nat) (p1 : Int) (p2 : List Int) (x8 : Int) (x9 : Int) : ∀ (x37 : Int × Nat × Int × Int × (List Int)) (x : (Int × Nat × Int × Int × (List Int)) ⊕ ((Nat × Int × (List Int)))), T_keep_Src_List_l1 k p1 p2 x8 x9 x37 = some x → evC X (evF X k) k 1 l_keep_Src_List_1 ⟨[(0, (Pt 0)), (1, (I p1)), (5, (I x8)), (6, (I x9)), (7, (I x37.1)), (8, (.one (.own 1 0 x37.2.1))), (9, (I x37.2.2.1))], [.cells [cL p2, cI x37.2.2.2.1], VI x37.2.2.2.2]⟩ = some (outS (fun (s : Int × Nat × Int × Int × (List Int)) => ⟨[(0, (Pt 0)), (1, (I p1)), (5, (I x8)), (6, (I x9)), (7, (I s.1)), (8, (.one (.own 1 0 s.2.1))), (9, (I s.2.2.1))], [.cells [cL p2, cI s.2.2.2.1], VI s.2.2.2.2]⟩) (fun (r : (Nat × Int × (List Int))) => (.exit 0, ⟨[(8, (.one (.own 1 0 r.1)))], [.cells [cL p2, cI r.2.1], VI r.2.2]⟩)) x) := by
 intro x37 x H
 unfold T_keep_Src_List_l1 at H
 refine K_in ?_
 refine K_seq (K_seq (K_r [] [] (by kernel_rfl) trivial ?_))
 rcases ite_some H with ⟨hx38, H⟩ | ⟨hx38, H⟩
 · refine K_t (by kernel_rfl) (decide_eq_true hx38) ?_
   refine K_g (by kernel_rfl) ?_
   refine K_skip (K_seq (K_block (K_seq (K_r [] [] (by kernel_rfl) trivial ?_))))
   refine K_block (K_seq (K_seq (K_r [] [] (by kernel_rfl) trivial ?_)))
   obtain ⟨x40, hx40, H⟩ := bind_some' H
   refine K_of ⟨[(0, (Pt 0)), (1, (I p1)), (5, (I x8)), (6, (I x9)), (7, (I x37.1)), (8, (.one (.own 1 0 x37.2.1))), (9, (I x37.2.2.1)), (25, (I x8)), (32, (B x40))], [.cells [cL p2, cI x37.2.2.2.1], VI x37.2.2.2.2]⟩ ?_ ?_
   · clear H; have H := hx40; clear hx40; refine K_in ?_
     rcases ite_some H with ⟨hx39, H⟩ | ⟨hx39, H⟩
     · refine K_t (by kernel_rfl) (decide_eq_true hx39) ?_
       refine K_g (by kernel_rfl) ?_
       refine K_skip ?_
       cases H
       exact K_end (by kernel_rfl)
     · refine K_f (by kernel_rfl) (decide_eq_false hx39) ?_
       refine K_r [] [] (by kernel_rfl) trivial ?_
       cases H
       exact K_end (by kernel_rfl)
   obtain ⟨x58, hx58, H⟩ := bind_some' H
   refine K_of ⟨[(0, (Pt 0)), (1, (I p1)), (5, (I x8)), (6, (I x9)), (7, (I x58.1)), (8, (.one (.own 1 0 (x37.2.1 + 1)))), (9, (I x37.2.2.1))], [.cells [cL p2, cI x58.2.1], VI x58.2.2]⟩ ?_ ?_
   · clear H; have H := hx58; clear hx58; refine K_in ?_
     rcases ite_some H with ⟨hx41, H⟩ | ⟨hx41, H⟩
     · refine K_t (by kernel_rfl) hx41 ?_
       obtain ⟨x42, hx42, H⟩ := bind_some' H
       obtain ⟨hx43, H⟩ := guard_some H
       refine K_r [.r (I x42.1) [.cells [cL p2, cI x42.2]], .n 1, .l (((x37.2.2.2.2.drop 0).take x37.2.1 ++ ([x42.1] : List Int)).map (D.int .i64))] [C_T_keep_Src_Range k (w64 (0 - x9)) x9 p2 x37.2.2.2.1 x42, (List.all (([x42.1] : List Int).map (D.int .i64)) fun d => d.cells.length == (D.cells (.int .i64 0)).length) = true, x37.2.1 + 1 ≤ LIM, (([x42.1] : List Int).map (D.int .i64)).length = 1, ((x37.2.2.2.2.map (D.int .i64)).drop 0).take x37.2.1 ++ (([x42.1] : List Int).map (D.int .i64)) = ((x37.2.2.2.2.drop 0).take x37.2.1 ++ ([x42.1] : List Int)).map (D.int .i64)] (by kernel_rfl) (AC (T_keep_Src_Range_ok k (w64 (0 - x9)) x9 p2 x37.2.2.2.1 x42 hx42) (AC (all_ok (D.int .i64) 1 ([x42.1] : List Int) (fun _ => rfl)) (AC hx43 (AC (by simp) (A1 (ap_map (D.int .i64) x37.2.2.2.2 ([x42.1] : List Int) 0 x37.2.1)))))) ?_
       cases H
       exact K_end (by kernel_rfl)
     · refine K_f (by kernel_rfl) (Bool.eq_false_iff.2 hx41) ?_
       refine K_seq (K_seq (K_r [] [] (by kernel_rfl) trivial ?_))
       obtain ⟨x45, hx45, H⟩ := bind_some' H
       refine K_of ⟨[(0, (Pt 0)), (1, (I p1)), (5, (I x8)), (6, (I x9)), (7, (I x37.1)), (8, (.one (.own 1 0 x37.2.1))), (9, (I x37.2.2.1)), (25, (I x8)), (43, (B x45))], [.cells [cL p2, cI x37.2.2.2.1], VI x37.2.2.2.2]⟩ ?_ ?_
       · clear H; have H := hx45; clear hx45; refine K_in ?_
         rcases ite_some H with ⟨hx44, H⟩ | ⟨hx44, H⟩
         · refine K_t (by kernel_rfl) (decide_eq_true hx44) ?_
           refine K_g (by kernel_rfl) ?_
           refine K_skip ?_
           cases H
           exact K_end (by kernel_rfl)
         · refine K_f (by kernel_rfl) (decide_eq_false hx44) ?_
           refine K_r [] [] (by kernel_rfl) trivial ?_
           cases H
           exact K_end (by kernel_rfl)
       rcases ite_some H with ⟨hx46, H⟩ | ⟨hx46, H⟩
       · refine K_t (by kernel_rfl) hx46 ?_
         refine K_seq ?_
         obtain ⟨x47, hx47, H⟩ := bind_some' H
         obtain ⟨x48, hx48, H⟩ := bind_some' H
         refine K_r [.r (I x47.1) [.cells [cL p2, cI x47.2]], .r (I (imin (imax (w64 (x37.1 + x47.1)) (-1000)) 1000)) []] [C_T_keep_Src_Range k (w64 (0 - x9)) x9 p2 x37.2.2.2.1 x47, C_T_keep_clip k (w64 (x37.1 + x47.1)) x48] (by kernel_rfl) (AC (T_keep_Src_Range_ok k (w64 (0 - x9)) x9 p2 x37.2.2.2.1 x47 hx47) (A1 (T_keep_clip_ok k (w64 (x37.1 + x47.1)) x48 hx48))) ?_
         obtain ⟨hx49, H⟩ := guard_some H
         refine K_r [.n 1, .l (((x37.2.2.2.2.drop 0).take x37.2.1 ++ ([(imin (imax (w64 (x37.1 + x47.1)) (-1000)) 1000)] : List Int)).map (D.int .i64))] [(List.all (([(imin (imax (w64 (x37.1 + x47.1)) (-1000)) 1000)] : List Int).map (D.int .i64)) fun d => d.cells.length == (D.cells (.int .i64 0)).length) = true, x37.2.1 + 1 ≤ LIM, (([(imin (imax (w64 (x37.1 + x47.1)) (-1000)) 1000)] : List Int).map (D.int .i64)).length = 1, ((x37.2.2.2.2.map (D.int .i64)).drop 0).take x37.2.1 ++ (([(imin (imax (w64 (x37.1 + x47.1)) (-1000)) 1000)] : List Int).map (D.int .i64)) = ((x37.2.2.2.2.drop 0).take x37.2.1 ++ ([(imin (imax (w64 (x37.1 + x47.1)) (-1000)) 1000)] : List Int)).map (D.int .i64)] (by kernel_rfl) (AC (all_ok (D.int .i64) 1 ([(imin (imax (w64 (x37.1 + x47.1)) (-1000)) 1000)] : List Int) (fun _ => rfl)) (AC hx49 (AC (by simp) (A1 (ap_map (D.int .i64) x37.2.2.2.2 ([(imin (imax (w64 (x37.1 + x47.1)) (-1000)) 1000)] : List Int) 0 x37.2.1))))) ?_
         cases H
         exact K_end (by kernel_rfl)
       · refine K_f (by kernel_rfl) (Bool.eq_false_iff.2 hx46) ?_
         refine K_seq (K_r [] [] (by kernel_rfl) trivial ?_)
         rcases ite_some H with ⟨hx50, H⟩ | ⟨hx50, H⟩
         · refine K_t (by kernel_rfl) (decide_eq_true hx50) ?_
           refine K_seq ?_
           refine K_seq ?_
           obtain ⟨x51, hx51, H⟩ := bind_some' H
           refine K_r [.r (I x51.1) [.cells [cL p2, cI x51.2]]] [C_T_keep_Src_N k 4 p2 x37.2.2.2.1 x51] (by kernel_rfl) (A1 (T_keep_Src_N_ok k 4 p2 x37.2.2.2.1 x51 hx51)) ?_
           obtain ⟨x54, hx54, H⟩ := bind_some' H
           refine K_of ⟨[(0, (Pt 0)), (1, (I p1)), (5, (I x8)), (6, (I x9)), (7, (I x54.1)), (8, (.one (.own 1 0 x37.2.1))), (9, (I x37.2.2.1))], [.cells [cL p2, cI x54.2], VI x37.2.2.2.2]⟩ ?_ ?_
           · clear H; have H := hx54; clear hx54; refine K_in ?_
             rcases ite_some H with ⟨hx52, H⟩ | ⟨hx52, H⟩
             · refine K_t (by kernel_rfl) (decide_eq_true hx52) ?_
               obtain ⟨x53, hx53, H⟩ := bind_some' H
               refine K_r [.r (I x53.1) [.cells [cL p2, cI x53.2]]] [C_T_keep_Src_Range k (w64 (0 - x9)) x9 p2 x51.2 x53] (by kernel_rfl) (A1 (T_keep_Src_Range_ok k (w64 (0 - x9)) x9 p2 x51.2 x53 hx53)) ?_
               cases H
               exact K_end (by kernel_rfl)
             · refine K_f (by kernel_rfl) (decide_eq_false hx52) ?_
               refine K_g (by kernel_rfl) ?_
               refine K_skip ?_
               cases H
               exact K_end (by kernel_rfl)
           obtain ⟨hx55, H⟩ := guard_some H
           refine K_r [.n 1, .l (((x37.2.2.2.2.drop 0).take x37.2.1 ++ ([x54.1] : List Int)).map (D.int .i64))] [(List.all (([x54.1] : List Int).map (D.int .i64)) fun d => d.cells.length == (D.cells (.int .i64 0)).length) = true, x37.2.1 + 1 ≤ LIM, (([x54.1] : List Int).map (D.int .i64)).length = 1, ((x37.2.2.2.2.map (D.int .i64)).drop 0).take x37.2.1 ++ (([x54.1] : List Int).map (D.int .i64)) = ((x37.2.2.2.2.drop 0).take x37.2.1 ++ ([x54.1] : List Int)).map (D.int .i64)] (by kernel_rfl) (AC (all_ok (D.int .i64) 1 ([x54.1] : List Int) (fun _ => rfl)) (AC hx55 (AC (by simp) (A1 (ap_map (D.int .i64) x37.2.2.2.2 ([x54.1] : List Int) 0 x37.2.1))))) ?_
           cases H
           exact K_end (by kernel_rfl)
         · refine K_f (by kernel_rfl) (decide_eq_false hx50) ?_
           obtain ⟨x56, hx56, H⟩ := bind_some' H
           obtain ⟨hx57, H⟩ := guard_some H
           refine K_r [.r (I x56.1) [.cells [cL p2, cI x56.2]], .n 1, .l (((x37.2.2.2.2.drop 0).take x37.2.1 ++ ([x56.1] : List Int)).map (D.int .i64))] [C_T_keep_Src_Pick k ([(-1000), 1000, 1000, 0] : List Int) p2 x37.2.2.2.1 x56, (List.all (([x56.1] : List Int).map (D.int .i64)) fun d => d.cells.length == (D.cells (.int .i64 0)).length) = true, x37.2.1 + 1 ≤ LIM, (([x56.1] : List Int).map (D.int .i64)).length = 1, ((x37.2.2.2.2.map (D.int .i64)).drop 0).take x37.2.1 ++ (([x56.1] : List Int).map (D.int .i64)) = ((x37.2.2.2.2.drop 0).take x37.2.1 ++ ([x56.1] : List Int)).map (D.int .i64)] (by kernel_rfl) (AC (T_keep_Src_Pick_ok k ([(-1000), 1000, 1000, 0] : List Int) p2 x37.2.2.2.1 x56 hx56) (AC (all_ok (D.int .i64) 1 ([x56.1] : List Int) (fun _ => rfl)) (AC hx57 (AC (by simp) (A1 (ap_map (D.int .i64) x37.2.2.2.2 ([x56.1] : List Int) 0 x37.2.1)))))) ?_
           cases H
           exact K_end (by kernel_rfl)
   refine K_blk (K_blk (K_r [] [] (by kernel_rfl) trivial ?_))
   cases H
   exact K_end (by kernel_rfl)
 · refine K_f (by kernel_rfl) (decide_eq_false hx38) ?_
   refine K_g (by kernel_rfl) ?_
   cases H
   exact K_exit0 rfl (by kernel_rfl)
def T_keep_Src_List (k : Nat) (p1 : Int) (p2 : List Int) (p3 : Int) : Option ((List Int) × Int) := match k with
 | 0 => none
 | k + 1 => ((T_keep_Src_N k 6 p2 p3).bind fun x1 => (T_keep_Src_Pick k ([1, 3, 10, 100, 1000] : List Int) p2 x1.2).bind fun x2 => (T_keep_Src_N k 3 p2 x2.2).bind fun x3 => ((if x3.1 = 0 then ((T_keep_Src_Range k (-1000) 1000 p2 x3.2).bind fun x5 => some (x5.1, x5.2)) else some (0, x3.2))).bind fun x6 => (loopT (T_keep_Src_List_l1 k p1 p2 x1.1 x2.1) k (x6.1, 0, 0, x6.2, [])).bind fun x59 => some (((x59.2.2.drop 0).take x59.1), x59.2.1))
abbrev C_T_keep_Src_List (k : Nat) (p1 : Int) (p2 : List Int) (p3 : Int) (r : (List Int) × Int) : Prop := evF X k n_keep_Src_List [(Pt 0), (I p1)] [.cells [cL p2, cI p3]] = some ((LI r.1), [.cells [cL p2, cI r.2]])
theorem T_keep_Src_List_ok (k : Nat) (p1 : Int) (p2 : List Int) (p3 : Int) (r : (List Int) × Int) : T_keep_Src_List k p1 p2 p3 = some r → C_T_keep_Src_List k p1 p2 p3 r := by
 intro H
 cases k with
 | zero => simp [T_keep_Src_List] at H
 | succ k =>
  simp only [T_keep_Src_List] at H
  refine F_in X_keep_Src_List rfl ?_
  refine K_seq (K_r [] [] (by kernel_rfl) trivial ?_)
  refine K_seq ?_
  obtain ⟨x1, hx1, H⟩ := bind_some' H
  obtain ⟨x2, hx2, H⟩ := bind_some' H
  refine K_r [.r (I x1.1) [.cells [cL p2, cI x1.2]], .r (I x2.1) [.cells [cL p2, cI x2.2]]] [C_T_keep_Src_N k 6 p2 p3 x1, C_T_keep_Src_Pick k ([1, 3, 10, 100, 1000] : List Int) p2 x1.2 x2] (by kernel_rfl) (AC (T_keep_Src_N_ok k 6 p2 p3 x1 hx1) (A1 (T_keep_Src_Pick_ok k ([1, 3, 10, 100, 1000] : List Int) p2 x1.2 x2 hx2))) ?_
  refine K_seq ?_
  refine K_seq ?_
  obtain ⟨x3, hx3, H⟩ := bind_some' H
  refine K_r [.r (I x3.1) [.cells [cL p2, cI x3.2]]] [C_T_keep_Src_N k 3 p2 x2.2 x3] (by kernel_rfl) (A1 (T_keep_Src_N_ok k 3 p2 x2.2 x3 hx3)) ?_
  obtain ⟨x6, hx6, H⟩ := bind_some' H
  refine K_of ⟨[(0, (Pt 0)), (1, (I p1)), (5, (I x1.1)), (6, (I x2.1)), (7, (I x6.1))], [.cells [cL p2, cI x6.2]]⟩ ?_ ?_
  · clear H; have H := hx6; clear hx6; refine K_in ?_
    rcases ite_some H with ⟨hx4, H⟩ | ⟨hx4, H⟩
    · refine K_t (by kernel_rfl) (decide_eq_true hx4) ?_
      obtain ⟨x5, hx5, H⟩ := bind_some' H
      refine K_r [.r (I x5.1) [.cells [cL p2, cI x5.2]]] [C_T_keep_Src_Range k (-1000) 1000 p2 x3.2 x5] (by kernel_rfl) (A1 (T_keep_Src_Range_ok k (-1000) 1000 p2 x3.2 x5 hx5)) ?_
      cases H
      exact K_end (by kernel_rfl)
    · refine K_f (by kernel_rfl) (decide_eq_false hx4) ?_
      refine K_g (by kernel_rfl) ?_
      refine K_skip ?_
      cases H
      exact K_end (by kernel_rfl)
  refine K_seq (K_r [] [] (by kernel_rfl) trivial ?_)
  refine K_seq (K_seq (K_r [] [] (by kernel_rfl) trivial ?_))
  refine K_block (K_g (by kernel_rfl) ?_)
  refine K_conv (σ' := ⟨[(0, (Pt 0)), (1, (I p1)), (5, (I x1.1)), (6, (I x2.1)), (7, (I x6.1)), (8, (.one (.own 1 0 0))), (9, (I 0))], [.cells [cL p2, cI x6.2], VI []]⟩) (by kernel_rfl) ?_
  obtain ⟨x59, hx59, H⟩ := bind_some' H
  refine K_loop ⟨[(8, (.one (.own 1 0 x59.1)))], [.cells [cL p2, cI x59.2.1], VI x59.2.2]⟩ (loop_ok (fun (s : Int × Nat × Int × Int × (List Int)) => ⟨[(0, (Pt 0)), (1, (I p1)), (5, (I x1.1)), (6, (I x2.1)), (7, (I s.1)), (8, (.one (.own 1 0 s.2.1))), (9, (I s.2.2.1))], [.cells [cL p2, cI s.2.2.2.1], VI s.2.2.2.2]⟩) (fun (r : (Nat × Int × (List Int))) => (.exit 0, ⟨[(8, (.one (.own 1 0 r.1)))], [.cells [cL p2, cI r.2.1], VI r.2.2]⟩)) (fun r h => by cases h) (T_keep_Src_List_l1_ok k p1 p2 x1.1 x2.1) k (x6.1, 0, 0, x6.2, []) x59 hx59) rfl ?_
  refine K_seq (K_r [] [] (by kernel_rfl) trivial ?_)
  refine K_g (by kernel_rfl) ?_
  cases H
  refine K_ret ?_
  exact Eq.trans (b := some ((.one (.d (.list (((x59.2.2.map (D.int .i64)).drop 0).take x59.1)))), [.cells [cL p2, cI x59.2.1]])) (by kernel_rfl) (by simp only [dt_map, rl_map, LI, VI])
def T_keep_Src_Near_l1 (k : Nat) (p1 : List Int) (p2 : List Int) (x6 : Int) (x7 : Int) (x8 : Int) (x9 : Nat) (x10 : Int) (x42 : Int × Int × (List Int)) : Option ((Int × Int × (List Int)) ⊕ ((Int × (List Int)))) :=
 (if x42.1 < x10 then (((if x6 = 1 then (if (0 : Int) ≤ x42.1 ∧ x42.1 < ((x9 : Nat) : Int) then (x42.2.2[(0 + x42.1.toNat)]?).bind fun x46 => (T_keep_Src_Range k (-2) 2 p2 x42.2.1).bind fun x47 => (T_keep_clip k (w64 (x46 + x47.1))).bind fun x48 => some (x47.2, (x42.2.2.set (0 + x42.1.toNat) (imin (imax (w64 (x46 + x47.1)) (-1000)) 1000))) else none) else (if x6 = 2 then (if (0 : Int) ≤ x42.1 ∧ x42.1 < ((x9 : Nat) : Int) then (x42.2.2[(0 + x42.1.toNat)]?).bind fun x51 => (T_keep_clip k (w64 (x51 + x7))).bind fun x52 => some (x42.2.1, (x42.2.2.set (0 + x42.1.toNat) (imin (imax (w64 (x51 + x7)) (-1000)) 1000))) else none) else (if x6 = 3 then (if (0 : Int) ≤ x42.1 ∧ x42.1 < ((x9 : Nat) : Int) then (x42.2.2[(0 + x42.1.toNat)]?).bind fun x55 => (T_keep_clip k (w64 ((w64 (x55 * x8)) + x7))).bind fun x56 => some (x42.2.1, (x42.2.2.set (0 + x42.1.toNat) (imin (imax (w64 ((w64 (x55 * x8)) + x7)) (-1000)) 1000))) else none) else (if x6 = 4 then (at? p1 (w64 ((w64 ((p1.length : Int) - 1)) - x42.1))).bind fun x58 => (if (0 : Int) ≤ x42.1 ∧ x42.1 < ((x9 : Nat) : Int) then some (x42.2.1, (x42.2.2.set (0 + x42.1.toNat) x58)) else none) else (if x6 = 5 then (T_keep_Src_Range k (-1) 1 p2 x42.2.1).bind fun x61 => (T_keep_Mod k (w64 (x42.1 + x61.1)) (p1.length : Int)).bind fun x62 => (at? p1 x62).bind fun x63 => (if (0 : Int) ≤ x42.1 ∧ x42.1 < ((x9 : Nat) : Int) then some (x61.2, (x42.2.2.set (0 + x42.1.toNat) x63)) else none) else (if x6 = 6 then (if (0 : Int) ≤ x42.1 ∧ x42.1 < ((x9 : Nat) : Int) then (x42.2.2[(0 + x42.1.toNat)]?).bind fun x67 => (T_keep_clip k (w64 (x7 - (w64 (x67 * x8))))).bind fun x68 => some (x42.2.1, (x42.2.2.set (0 + x42.1.toNat) (imin (imax (w64 (x7 - (w64 (x67 * x8)))) (-1000)) 1000))) else none) else some (x42.2.1, x42.2.2)))))))).bind fun x69 => some (.inl ((w64 (x42.1 + 1)), x69.1, x69.2))) else some (.inr (x42.2.1, x42.2.2)))
theorem T_keep_Src_Near_l1_ok (k : Nat) (p1 : List Int) (p2 : List Int) (x6 : Int) (x7 : Int) (x8 : Int) (x9 : Nat) (x10 : Int) : ∀ (x42 : Int × Int × (List Int)) (x : (Int × Int × (List Int)) ⊕ ((Int × (List Int)))), T_keep_Src_Near_l1 k p1 p2 x6 x7 x8 x9 x10 x42 = some x → evC X (evF X k) k 1 l_keep_Src_Near_1 ⟨[(0, (Pt 0)), (1, (LI p1)), (5, (I x6)), (6, (I x7)), (7, (I x8)), (8, (.one (.own 1 0 x9))), (20, (I x10)), (21, (I x42.1))], [.cells [cL p2, cI x42.2.1], VI x42.2.2]⟩ = some (outS (fun (s : Int × Int × (List Int)) => ⟨[(0, (Pt 0)), (1, (LI p1)), (5, (I x6)), (6, (I x7)), (7, (I x8)), (8, (.one (.own 1 0 x9))), (20, (I x10)), (21, (I s.1))], [.cells [cL p2, cI s.2.1], VI s.2.2]⟩) (fun (r : (Int × (List Int))) => (.exit 0, ⟨[(8, (.one (.own 1 0 x9)))], [.cells [cL p2, cI r.1], VI r.2]⟩)) x) := by
 intro x42 x H
 unfold T_keep_Src_Near_l1 at H
 refine K_in ?_
 refine K_seq (K_r [] [] (by kernel_rfl) trivial ?_)
 refine K_seq ?_
 rcases ite_some H with ⟨hx43, H⟩ | ⟨hx43, H⟩
 · refine K_t (by kernel_rfl) (decide_eq_true hx43) ?_
   refine K_g (by kernel_rfl) ?_
   refine K_skip (K_seq (K_block (K_seq (K_r [] [] (by kernel_rfl) trivial ?_))))
   refine K_seq (K_r [] [] (by kernel_rfl) trivial ?_)
   refine K_block (K_seq (K_r [] [] (by kernel_rfl) trivial ?_))
   obtain ⟨x69, hx69, H⟩ := bind_some' H
   refine K_of ⟨[(0, (Pt 0)), (1, (LI p1)), (5, (I x6)), (6, (I x7)), (7, (I x8)), (8, (.one (.own 1 0 x9))), (20, (I x10)), (21, (I x42.1))], [.cells [cL p2, cI x69.1], VI x69.2]⟩ ?_ ?_
   · clear H; have H := hx69; clear hx69; refine K_in ?_
     rcases ite_some H with ⟨hx44, H⟩ | ⟨hx44, H⟩
     · refine K_t (by kernel_rfl) (decide_eq_true hx44) ?_
       obtain ⟨hx45, H⟩ := guard_some H
       obtain ⟨x46, hx46, H⟩ := bind_some' H
       obtain ⟨x47, hx47, H⟩ := bind_some' H
       obtain ⟨x48, hx48, H⟩ := bind_some' H
       refine K_rD [.l [.int .i64 x46], .r (I x47.1) [.cells [cL p2, cI x47.2]], .r (I (imin (imax (w64 (x46 + x47.1)) (-1000)) 1000)) [], .l ((x42.2.2.set (0 + x42.1.toNat) (imin (imax (w64 (x46 + x47.1)) (-1000)) 1000)).map (D.int .i64)), .r (I x47.1) [.cells [cL p2, cI x47.2]], .l [.int .i64 x46], .r (I (imin (imax (w64 (x46 + x47.1)) (-1000)) 1000)) [], .l ((x42.2.2.set (0 + x42.1.toNat) (imin (imax (w64 (x46 + x47.1)) (-1000)) 1000)).map (D.int .i64)), .r (I x47.1) [.cells [cL p2, cI x47.2]], .l [.int .i64 x46], .r (I (imin (imax (w64 (x46 + x47.1)) (-1000)) 1000)) [], .l ((x42.2.2.set (0 + x42.1.toNat) (imin (imax (w64 (x46 + x47.1)) (-1000)) 1000)).map (D.int .i64))] ((fun (z1 : St) => [(0 : Int) ≤ x42.1 ∧ x42.1 < ((x9 : Nat) : Int), ((x42.2.2.map (D.int .i64)).getD (0 + x42.1.toNat) (.int .i64 0)).cells = [.int .i64 x46], C_T_keep_Src_Range k (-2) 2 p2 x42.2.1 x47, C_T_keep_clip k (w64 (x46 + x47.1)) x48, (0 : Int) ≤ x42.1 ∧ x42.1 < ((x9 : Nat) : Int), (x42.2.2.map (D.int .i64)).set (0 + x42.1.toNat) (elemOf (.int .i64 0) (splice ((x42.2.2.map (D.int .i64)).getD (0 + x42.1.toNat) (.int .i64 0)).cells 0 [.int .i64 (imin (imax (w64 (x46 + x47.1)) (-1000)) 1000)])) = (x42.2.2.set (0 + x42.1.toNat) (imin (imax (w64 (x46 + x47.1)) (-1000)) 1000)).map (D.int .i64), C_T_keep_Src_Range k (-2) 2 p2 x42.2.1 x47, ((x42.2.2.map (D.int .i64)).getD (0 + x42.1.toNat) (.int .i64 0)).cells = [.int .i64 x46], C_T_keep_clip k (w64 (x46 + x47.1)) x48, (0 : Int) ≤ x42.1 ∧ x42.1 < ((x9 : Nat) : Int), (x42.2.2.map (D.int .i64)).set (0 + x42.1.toNat) (elemOf (.int .i64 0) (splice ((x42.2.2.map (D.int .i64)).getD (0 + x42.1.toNat) (.int .i64 0)).cells 0 [.int .i64 (imin (imax (w64 (x46 + x47.1)) (-1000)) 1000)])) = (x42.2.2.set (0 + x42.1.toNat) (imin (imax (w64 (x46 + x47.1)) (-1000)) 1000)).map (D.int .i64), z1 = z1, C_T_keep_Src_Range k (-2) 2 p2 x42.2.1 x47, (0 : Int) ≤ x42.1 ∧ x42.1 < ((x9 : Nat) : Int), ((x42.2.2.map (D.int .i64)).getD (0 + x42.1.toNat) (.int .i64 0)).cells = [.int .i64 x46], C_T_keep_clip k (w64 (x46 + x47.1)) x48, (0 : Int) ≤ x42.1 ∧ x42.1 < ((x9 : Nat) : Int), (x42.2.2.map (D.int .i64)).set (0 + x42.1.toNat) (elemOf (.int .i64 0) (splice ((x42.2.2.map (D.int .i64)).getD (0 + x42.1.toNat) (.int .i64 0)).cells 0 [.int .i64 (imin (imax (w64 (x46 + x47.1)) (-1000)) 1000)])) = (x42.2.2.set (0 + x42.1.toNat) (imin (imax (w64 (x46 + x47.1)) (-1000)) 1000)).map (D.int .i64), z1 = z1]) (⟨[(0, (Pt 0)), (1, (LI p1)), (5, (I x6)), (6, (I x7)), (7, (I x8)), (8, (.one (.own 1 0 x9))), (20, (I x10)), (21, (I x42.1))], [.cells [cL p2, cI x47.2], VI (x42.2.2.set (0 + x42.1.toNat) (imin (imax (w64 (x46 + x47.1)) (-1000)) 1000))]⟩)) (by kernel_rfl) (AC hx45 (AC (ld_ok hx46 (D.int .i64) (.int .i64 0)) (AC (T_keep_Src_Range_ok k (-2) 2 p2 x42.2.1 x47 hx47) (AC (T_keep_clip_ok k (w64 (x46 + x47.1)) x48 hx48) (AC hx45 (AC (st_one x42.2.2 (0 + x42.1.toNat) (imin (imax (w64 (x46 + x47.1)) (-1000)) 1000) (D.int .i64) (.int .i64 0) rfl (fun _ => rfl) rfl) (AC (T_keep_Src_Range_ok k (-2) 2 p2 x42.2.1 x47 hx47) (AC (ld_ok hx46 (D.int .i64) (.int .i64 0)) (AC (T_keep_clip_ok k (w64 (x46 + x47.1)) x48 hx48) (AC hx45 (AC (st_one x42.2.2 (0 + x42.1.toNat) (imin (imax (w64 (x46 + x47.1)) (-1000)) 1000) (D.int .i64) (.int .i64 0) rfl (fun _ => rfl) rfl) (AC rfl (AC (T_keep_Src_Range_ok k (-2) 2 p2 x42.2.1 x47 hx47) (AC hx45 (AC (ld_ok hx46 (D.int .i64) (.int .i64 0)) (AC (T_keep_clip_ok k (w64 (x46 + x47.1)) x48 hx48) (AC hx45 (AC (st_one x42.2.2 (0 + x42.1.toNat) (imin (imax (w64 (x46 + x47.1)) (-1000)) 1000) (D.int .i64) (.int .i64 0) rfl (fun _ => rfl) rfl) (A1 rfl))))))))))))))))))) ?_
       cases H
       exact K_end (by kernel_rfl)
     · refine K_f (by kernel_rfl) (decide_eq_false hx44) ?_
       refine K_seq (K_r [] [] (by kernel_rfl) trivial ?_)
       rcases ite_some H with ⟨hx49, H⟩ | ⟨hx49, H⟩
       · refine K_t (by kernel_rfl) (decide_eq_true hx49) ?_
         obtain ⟨hx50, H⟩ := guard_some H
         obtain ⟨x51, hx51, H⟩ := bind_some' H
         obtain ⟨x52, hx52, H⟩ := bind_some' H
         refine K_r [.l [.int .i64 x51], .r (I (imin (imax (w64 (x51 + x7)) (-1000)) 1000)) [], .l ((x42.2.2.set (0 + x42.1.toNat) (imin (imax (w64 (x51 + x7)) (-1000)) 1000)).map (D.int .i64))] [(0 : Int) ≤ x42.1 ∧ x42.1 < ((x9 : Nat) : Int), ((x42.2.2.map (D.int .i64)).getD (0 + x42.1.toNat) (.int .i64 0)).cells = [.int .i64 x51], C_T_keep_clip k (w64 (x51 + x7)) x52, (0 : Int) ≤ x42.1 ∧ x42.1 < ((x9 : Nat) : Int), (x42.2.2.map (D.int .i64)).set (0 + x42.1.toNat) (elemOf (.int .i64 0) (splice ((x42.2.2.map (D.int .i64)).getD (0 + x42.1.toNat) (.int .i64 0)).cells 0 [.int .i64 (imin (imax (w64 (x51 + x7)) (-1000)) 1000)])) = (x42.2.2.set (0 + x42.1.toNat) (imin (imax (w64 (x51 + x7)) (-1000)) 1000)).map (D.int .i64)] (by kernel_rfl) (AC hx50 (AC (ld_ok hx51 (D.int .i64) (.int .i64 0)) (AC (T_keep_clip_ok k (w64 (x51 + x7)) x52 hx52) (AC hx50 (A1 (st_one x42.2.2 (0 + x42.1.toNat) (imin (imax (w64 (x51 + x7)) (-1000)) 1000) (D.int .i64) (.int .i64 0) rfl (fun _ => rfl) rfl)))))) ?_
         cases H
         exact K_end (by kernel_rfl)
       · refine K_f (by kernel_rfl) (decide_eq_false hx49) ?_
         refine K_seq (K_r [] [] (by kernel_rfl) trivial ?_)
         rcases ite_some H with ⟨hx53, H⟩ | ⟨hx53, H⟩
         · refine K_t (by kernel_rfl) (decide_eq_true hx53) ?_
           obtain ⟨hx54, H⟩ := guard_some H
           obtain ⟨x55, hx55, H⟩ := bind_some' H
           obtain ⟨x56, hx56, H⟩ := bind_some' H
           refine K_r [.l [.int .i64 x55], .r (I (imin (imax (w64 ((w64 (x55 * x8)) + x7)) (-1000)) 1000)) [], .l ((x42.2.2.set (0 + x42.1.toNat) (imin (imax (w64 ((w64 (x55 * x8)) + x7)) (-1000)) 1000)).map (D.int .i64))] [(0 : Int) ≤ x42.1 ∧ x42.1 < ((x9 : Nat) : Int), ((x42.2.2.map (D.int .i64)).getD (0 + x42.1.toNat) (.int .i64 0)).cells = [.int .i64 x55], C_T_keep_clip k (w64 ((w64 (x55 * x8)) + x7)) x56, (0 : Int) ≤ x42.1 ∧ x42.1 < ((x9 : Nat) : Int), (x42.2.2.map (D.int .i64)).set (0 + x42.1.toNat) (elemOf (.int .i64 0) (splice ((x42.2.2.map (D.int .i64)).getD (0 + x42.1.toNat) (.int .i64 0)).cells 0 [.int .i64 (imin (imax (w64 ((w64 (x55 * x8)) + x7)) (-1000)) 1000)])) = (x42.2.2.set (0 + x42.1.toNat) (imin (imax (w64 ((w64 (x55 * x8)) + x7)) (-1000)) 1000)).map (D.int .i64)] (by kernel_rfl) (AC hx54 (AC (ld_ok hx55 (D.int .i64) (.int .i64 0)) (AC (T_keep_clip_ok k (w64 ((w64 (x55 * x8)) + x7)) x56 hx56) (AC hx54 (A1 (st_one x42.2.2 (0 + x42.1.toNat) (imin (imax (w64 ((w64 (x55 * x8)) + x7)) (-1000)) 1000) (D.int .i64) (.int .i64 0) rfl (fun _ => rfl) rfl)))))) ?_
           cases H
           exact K_end (by kernel_rfl)
         · refine K_f (by kernel_rfl) (decide_eq_false hx53) ?_
           refine K_seq (K_r [] [] (by kernel_rfl) trivial ?_)
           rcases ite_some H with ⟨hx57, H⟩ | ⟨hx57, H⟩
           · refine K_t (by kernel_rfl) (decide_eq_true hx57) ?_
             obtain ⟨x58, hx58, H⟩ := bind_some' H
             obtain ⟨hx59, H⟩ := guard_some H
             refine K_r [.n p1.length, .l [.int .i64 x58], .l ((x42.2.2.set (0 + x42.1.toNat) x58).map (D.int .i64))] [((p1.map (D.int .i64))).length = p1.length, (0 : Int) ≤ (w64 ((w64 ((p1.length : Int) - 1)) - x42.1)) ∧ (w64 ((w64 ((p1.length : Int) - 1)) - x42.1)) < (((p1.map (D.int .i64))).length : Int), ((p1.map (D.int .i64)).getD (w64 ((w64 ((p1.length : Int) - 1)) - x42.1)).toNat (.int .i64 0)).cells = [.int .i64 x58], (0 : Int) ≤ x42.1 ∧ x42.1 < ((x9 : Nat) : Int), (x42.2.2.map (D.int .i64)).set (0 + x42.1.toNat) (elemOf (.int .i64 0) (splice ((x42.2.2.map (D.int .i64)).getD (0 + x42.1.toNat) (.int .i64 0)).cells 0 [.int .i64 x58])) = (x42.2.2.set (0 + x42.1.toNat) x58).map (D.int .i64)] (by kernel_rfl) (AC (List.length_map _) (AC (at_ok hx58 (D.int .i64) (.int .i64 0)).1 (AC (at_ok hx58 (D.int .i64) (.int .i64 0)).2 (AC hx59 (A1 (st_one x42.2.2 (0 + x42.1.toNat) x58 (D.int .i64) (.int .i64 0) rfl (fun _ => rfl) rfl)))))) ?_
             cases H
             exact K_end (by kernel_rfl)
           · refine K_f (by kernel_rfl) (decide_eq_false hx57) ?_
             refine K_seq (K_r [] [] (by kernel_rfl) trivial ?_)
             rcases ite_some H with ⟨hx60, H⟩ | ⟨hx60, H⟩
             · refine K_t (by kernel_rfl) (decide_eq_true hx60) ?_
               obtain ⟨x61, hx61, H⟩ := bind_some' H
               obtain ⟨x62, hx62, H⟩ := bind_some' H
               obtain ⟨x63, hx63, H⟩ := bind_some' H
               obtain ⟨hx64, H⟩ := guard_some H
               refine K_r [.r (I x61.1) [.cells [cL p2, cI x61.2]], .n p1.length, .r (I x62) [], .l [.int .i64 x63], .l ((x42.2.2.set (0 + x42.1.toNat) x63).map (D.int .i64))] [C_T_keep_Src_Range k (-1) 1 p2 x42.2.1 x61, ((p1.map (D.int .i64))).length = p1.length, C_T_keep_Mod k (w64 (x42.1 + x61.1)) (p1.length : Int) x62, (0 : Int) ≤ x62 ∧ x62 < (((p1.map (D.int .i64))).length : Int), ((p1.map (D.int .i64)).getD x62.toNat (.int .i64 0)).cells = [.int .i64 x63], (0 : Int) ≤ x42.1 ∧ x42.1 < ((x9 : Nat) : Int), (x42.2.2.map (D.int .i64)).set (0 + x42.1.toNat) (elemOf (.int .i64 0) (splice ((x42.2.2.map (D.int .i64)).getD (0 + x42.1.toNat) (.int .i64 0)).cells 0 [.int .i64 x63])) = (x42.2.2.set (0 + x42.1.toNat) x63).map (D.int .i64)] (by kernel_rfl) (AC (T_keep_Src_Range_ok k (-1) 1 p2 x42.2.1 x61 hx61) (AC (List.length_map _) (AC (T_keep_Mod_ok k (w64 (x42.1 + x61.1)) (p1.length : Int) x62 hx62) (AC (at_ok hx63 (D.int .i64) (.int .i64 0)).1 (AC (at_ok hx63 (D.int .i64) (.int .i64 0)).2 (AC hx64 (A1 (st_one x42.2.2 (0 + x42.1.toNat) x63 (D.int .i64) (.int .i64 0) rfl (fun _ => rfl) rfl)))))))) ?_
               cases H
               exact K_end (by kernel_rfl)
             · refine K_f (by kernel_rfl) (decide_eq_false hx60) ?_
               refine K_seq (K_r [] [] (by kernel_rfl) trivial ?_)
               rcases ite_some H with ⟨hx65, H⟩ | ⟨hx65, H⟩
               · refine K_t (by kernel_rfl) (decide_eq_true hx65) ?_
                 obtain ⟨hx66, H⟩ := guard_some H
                 obtain ⟨x67, hx67, H⟩ := bind_some' H
                 obtain ⟨x68, hx68, H⟩ := bind_some' H
                 refine K_r [.l [.int .i64 x67], .r (I (imin (imax (w64 (x7 - (w64 (x67 * x8)))) (-1000)) 1000)) [], .l ((x42.2.2.set (0 + x42.1.toNat) (imin (imax (w64 (x7 - (w64 (x67 * x8)))) (-1000)) 1000)).map (D.int .i64))] [(0 : Int) ≤ x42.1 ∧ x42.1 < ((x9 : Nat) : Int), ((x42.2.2.map (D.int .i64)).getD (0 + x42.1.toNat) (.int .i64 0)).cells = [.int .i64 x67], C_T_keep_clip k (w64 (x7 - (w64 (x67 * x8)))) x68, (0 : Int) ≤ x42.1 ∧ x42.1 < ((x9 : Nat) : Int), (x42.2.2.map (D.int .i64)).set (0 + x42.1.toNat) (elemOf (.int .i64 0) (splice ((x42.2.2.map (D.int .i64)).getD (0 + x42.1.toNat) (.int .i64 0)).cells 0 [.int .i64 (imin (imax (w64 (x7 - (w64 (x67 * x8)))) (-1000)) 1000)])) = (x42.2.2.set (0 + x42.1.toNat) (imin (imax (w64 (x7 - (w64 (x67 * x8)))) (-1000)) 1000)).map (D.int .i64)] (by kernel_rfl) (AC hx66 (AC (ld_ok hx67 (D.int .i64) (.int .i64 0)) (AC (T_keep_clip_ok k (w64 (x7 - (w64 (x67 * x8)))) x68 hx68) (AC hx66 (A1 (st_one x42.2.2 (0 + x42.1.toNat) (imin (imax (w64 (x7 - (w64 (x67 * x8)))) (-1000)) 1000) (D.int .i64) (.int .i64 0) rfl (fun _ => rfl) rfl)))))) ?_
                 cases H
                 exact K_end (by kernel_rfl)
               · refine K_f (by kernel_rfl) (decide_eq_false hx65) ?_
                 refine K_g (by kernel_rfl) ?_
                 refine K_skip ?_
                 cases H
                 exact K_end (by kernel_rfl)
   refine K_blk (K_blk (K_r [] [] (by kernel_rfl) trivial ?_))
   cases H
   exact K_end (by kernel_rfl)
 · refine K_f (by kernel_rfl) (decide_eq_false hx43) ?_
   refine K_g (by kernel_rfl) ?_
   cases H
   exact K_exit0 rfl (by kernel_rfl)
def T_keep_Src_Near (k : Nat) (p1 : List Int) (p2 : List Int) (p3 : Int) : Option ((List Int) × Int) := match k with
 | 0 => none
 | k + 1 => (T_keep_Src_N k 7 p2 p3).bind fun x1 => (T_keep_Src_Range k (-20) 20 p2 x1.2).bind fun x2 => (T_keep_Src_Range k 1 3 p2 x2.2).bind fun x3 => (if 0 + p1.length ≤ LIM then (loopT (T_keep_Src_Near_l1 k p1 p2 x1.1 x2.1 x3.1 (0 + p1.length) (((0 + p1.length) : Nat) : Int)) k (0, x3.2, ((([] : List Int).drop 0).take 0 ++ p1))).bind fun x70 => some (((x70.2.drop 0).take (0 + p1.length)), x70.1) else none)
abbrev C_T_keep_Src_Near (k : Nat) (p1 : List Int) (p2 : List Int) (p3 : Int) (r : (List Int) × Int) : Prop := evF X k n_keep_Src_Near [(Pt 0), (LI p1)] [.cells [cL p2, cI p3]] = some ((LI r.1), [.cells [cL p2, cI r.2]])
theorem T_keep_Src_Near_ok (k : Nat) (p1 : List Int) (p2 : List Int) (p3 : Int) (r : (List Int) × Int) : T_keep_Src_Near k p1 p2 p3 = some r → C_T_keep_Src_Near k p1 p2 p3 r := by
 intro H
 cases k with
 | zero => simp [T_keep_Src_Near] at H
 | succ k =>
  simp only [T_keep_Src_Near] at H
  refine F_in X_keep_Src_Near rfl ?_
  refine K_seq (K_r [] [] (by kernel_rfl) trivial ?_)
  refine K_seq ?_
  obtain ⟨x1, hx1, H⟩ := bind_some' H
  obtain ⟨x2, hx2, H⟩ := bind_some' H
  obtain ⟨x3, hx3, H⟩ := bind_some' H
  refine K_r [.r (I x1.1) [.cells [cL p2, cI x1.2]], .r (I x2.1) [.cells [cL p2, cI x2.2]], .r (I x3.1) [.cells [cL p2, cI x3.2]]] [C_T_keep_Src_N k 7 p2 p3 x1, C_T_keep_Src_Range k (-20) 20 p2 x1.2 x2, C_T_keep_Src_Range k 1 3 p2 x2.2 x3] (by kernel_rfl) (AC (T_keep_Src_N_ok k 7 p2 p3 x1 hx1) (AC (T_keep_Src_Range_ok k (-20) 20 p2 x1.2 x2 hx2) (A1 (T_keep_Src_Range_ok k 1 3 p2 x2.2 x3 hx3)))) ?_
  refine K_seq ?_
  obtain ⟨hx4, H⟩ := guard_some H
  refine K_r [.n p1.length, .l (((([] : List Int).drop 0).take 0 ++ p1).map (D.int .i64))] [(List.all (p1.map (D.int .i64)) fun d => d.cells.length == (D.cells (.int .i64 0)).length) = true, 0 + p1.length ≤ LIM, (p1.map (D.int .i64)).length = p1.length, ((([] : List Int).map (D.int .i64)).drop 0).take 0 ++ (p1.map (D.int .i64)) = ((([] : List Int).drop 0).take 0 ++ p1).map (D.int .i64)] (by kernel_rfl) (AC (all_ok (D.int .i64) 1 p1 (fun _ => rfl)) (AC hx4 (AC (by simp) (A1 (ap_map (D.int .i64) ([] : List Int) p1 0 0))))) ?_
  refine K_seq (K_seq (K_r [] [] (by kernel_rfl) trivial ?_))
  refine K_block (K_conv (σ' := ⟨[(0, (Pt 0)), (1, (LI p1)), (5, (I x1.1)), (6, (I x2.1)), (7, (I x3.1)), (8, (.one (.own 1 0 (0 + p1.length)))), (20, (I (((0 + p1.length) : Nat) : Int))), (21, (I 0))], [.cells [cL p2, cI x3.2], VI ((([] : List Int).drop 0).take 0 ++ p1)]⟩) (by kernel_rfl) ?_)
  obtain ⟨x70, hx70, H⟩ := bind_some' H
  refine K_loop ⟨[(8, (.one (.own 1 0 (0 + p1.length))))], [.cells [cL p2, cI x70.1], VI x70.2]⟩ (loop_ok (fun (s : Int × Int × (List Int)) => ⟨[(0, (Pt 0)), (1, (LI p1)), (5, (I x1.1)), (6, (I x2.1)), (7, (I x3.1)), (8, (.one (.own 1 0 (0 + p1.length)))), (20, (I (((0 + p1.length) : Nat) : Int))), (21, (I s.1))], [.cells [cL p2, cI s.2.1], VI s.2.2]⟩) (fun (r : (Int × (List Int))) => (.exit 0, ⟨[(8, (.one (.own 1 0 (0 + p1.length))))], [.cells [cL p2, cI r.1], VI r.2]⟩)) (fun r h => by cases h) (T_keep_Src_Near_l1_ok k p1 p2 x1.1 x2.1 x3.1 (0 + p1.length) (((0 + p1.length) : Nat) : Int)) k (0, x3.2, ((([] : List Int).drop 0).take 0 ++ p1)) x70 hx70) rfl ?_
  refine K_seq (K_r [] [] (by kernel_rfl) trivial ?_)
  refine K_g (by kernel_rfl) ?_
  cases H
  refine K_ret ?_
  exact Eq.trans (b := some ((.one (.d (.list (((x70.2.map (D.int .i64)).drop 0).take (0 + p1.length))))), [.cells [cL p2, cI x70.1]])) (by kernel_rfl) (by simp only [dt_map, rl_map, LI, VI])
def T_keep_Src_Pair (k : Nat) (p1 : List Int) (p2 : Int) : Option ((List Int) × (List Int) × Int) := match k with
 | 0 => none
 | k + 1 => ((T_keep_Src_Length k p1 p2).bind fun x1 => (T_keep_Src_List k x1.1 p1 x1.2).bind fun x2 => (T_keep_Src_N k 3 p1 x2.2).bind fun x3 => (if x3.1 = 0 then ((T_keep_Src_List k (x2.1.length : Int) p1 x3.2).bind fun x5 => some (x2.1, x5.1, x5.2)) else ((T_keep_Src_Near k x2.1 p1 x3.2).bind fun x6 => some (x2.1, x6.1, x6.2))))
abbrev C_T_keep_Src_Pair (k : Nat) (p1 : List Int) (p2 : Int) (r : (List Int) × (List Int) × Int) : Prop := evF X k n_keep_Src_Pair [(Pt 0)] [.cells [cL p1, cI p2]] = some ((.tup [(false, [cL r.1]), (false, [cL r.2.1])]), [.cells [cL p1, cI r.2.2]])
theorem T_keep_Src_Pair_ok (k : Nat) (p1 : List Int) (p2 : Int) (r : (List Int) × (List Int) × Int) : T_keep_Src_Pair k p1 p2 = some r → C_T_keep_Src_Pair k p1 p2 r := by
 intro H
 cases k with
 | zero => simp [T_keep_Src_Pair] at H
 | succ k =>
  simp only [T_keep_Src_Pair] at H
  refine F_in X_keep_Src_Pair rfl ?_
  refine K_seq (K_r [] [] (by kernel_rfl) trivial ?_)
  refine K_seq ?_
  obtain ⟨x1, hx1, H⟩ := bind_some' H
  obtain ⟨x2, hx2, H⟩ := bind_some' H
  refine K_r [.r (I x1.1) [.cells [cL p1, cI x1.2]], .r (LI x2.1) [.cells [cL p1, cI x2.2]]] [C_T_keep_Src_Length k p1 p2 x1, C_T_keep_Src_List k x1.1 p1 x1.2 x2] (by kernel_rfl) (AC (T_keep_Src_Length_ok k p1 p2 x1 hx1) (A1 (T_keep_Src_List_ok k x1.1 p1 x1.2 x2 hx2))) ?_
  refine K_seq ?_
  refine K_seq ?_
  obtain ⟨x3, hx3, H⟩ := bind_some' H
  refine K_r [.r (I x3.1) [.cells [cL p1, cI x3.2]]] [C_T_keep_Src_N k 3 p1 x2.2 x3] (by kernel_rfl) (A1 (T_keep_Src_N_ok k 3 p1 x2.2 x3 hx3)) ?_
  rcases ite_some H with ⟨hx4, H⟩ | ⟨hx4, H⟩
  · refine K_t (by kernel_rfl) (decide_eq_true hx4) ?_
    refine K_seq ?_
    obtain ⟨x5, hx5, H⟩ := bind_some' H
    refine K_r [.n x2.1.length, .r (LI x5.1) [.cells [cL p1, cI x5.2]]] [((x2.1.map (D.int .i64))).length = x2.1.length, C_T_keep_Src_List k (x2.1.length : Int) p1 x3.2 x5] (by kernel_rfl) (AC (List.length_map _) (A1 (T_keep_Src_List_ok k (x2.1.length : Int) p1 x3.2 x5 hx5))) ?_
    refine K_g (by kernel_rfl) ?_
    cases H
    refine K_ret ?_
    kernel_rfl
  · refine K_f (by kernel_rfl) (decide_eq_false hx4) ?_
    refine K_g (by kernel_rfl) ?_
    refine K_skip ?_
    refine K_seq ?_
    obtain ⟨x6, hx6, H⟩ := bind_some' H
    refine K_r [.r (LI x6.1) [.cells [cL p1, cI x6.2]]] [C_T_keep_Src_Near k x2.1 p1 x3.2 x6] (by kernel_rfl) (A1 (T_keep_Src_Near_ok k x2.1 p1 x3.2 x6 hx6)) ?_
    refine K_g (by kernel_rfl) ?_
    cases H
    refine K_ret ?_
    kernel_rfl
def T_keep_Src_Uneven (k : Nat) (p1 : List Int) (p2 : Int) : Option ((List Int) × (List Int) × Int × Int) := match k with
 | 0 => none
 | k + 1 => ((T_keep_Src_Pair k p1 p2).bind fun x1 => (T_keep_Src_N k 2 p1 x1.2.2).bind fun x2 => ((if x2.1 = 0 then (T_keep_Src_Range k 2 (x1.2.1.length : Int) p1 x2.2).bind fun x4 => (if (0 : Int) ≤ 0 ∧ 0 ≤ x4.1 ∧ x4.1 ≤ (x1.2.1.length : Int) ∧ (x1.2.1.length : Int) ≤ (x1.2.1.length : Int) then some (((x1.2.1.drop 0).take (x4.1.toNat - 0)), x4.2) else none) else some (x1.2.1, x2.2))).bind fun x6 => (T_keep_Src_N k 4 p1 x6.2).bind fun x7 => (T_keep_Src_N k 5 p1 x7.2).bind fun x8 => ((if x8.1 = 0 then some 32 else some (imin 32 (w64 ((w64 ((x1.1.length : Int) - (x6.1.length : Int))) + x7.1))))).bind fun x10 => (T_keep_Src_N k 2 p1 x8.2).bind fun x11 => (if x11.1 = 0 then some (x6.1, x1.1, x10, x11.2) else some (x1.1, x6.1, x10, x11.2)))
abbrev C_T_keep_Src_Uneven (k : Nat) (p1 : List Int) (p2 : Int) (r : (List Int) × (List Int) × Int × Int) : Prop := evF X k n_keep_Src_Uneven [(Pt 0)] [.cells [cL p1, cI p2]] = some ((.tup [(false, [cL r.1]), (false, [cL r.2.1]), (false, [cI r.2.2.1])]), [.cells [cL p1, cI r.2.2.2]])
theorem T_keep_Src_Uneven_ok (k : Nat) (p1 : List Int) (p2 : Int) (r : (List Int) × (List Int) × Int × Int) : T_keep_Src_Uneven k p1 p2 = some r → C_T_keep_Src_Uneven k p1 p2 r := by
 intro H
 cases k with
 | zero => simp [T_keep_Src_Uneven] at H
 | succ k =>
  simp only [T_keep_Src_Uneven] at H
  refine F_in X_keep_Src_Uneven rfl ?_
  refine K_seq (K_r [] [] (by kernel_rfl) trivial ?_)
  refine K_seq ?_
  obtain ⟨x1, hx1, H⟩ := bind_some' H
  refine K_r [.r (.tup [(false, [cL x1.1]), (false, [cL x1.2.1])]) [.cells [cL p1, cI x1.2.2]]] [C_T_keep_Src_Pair k p1 p2 x1] (by kernel_rfl) (A1 (T_keep_Src_Pair_ok k p1 p2 x1 hx1)) ?_
  refine K_seq ?_
  refine K_seq ?_
  obtain ⟨x2, hx2, H⟩ := bind_some' H
  refine K_r [.r (I x2.1) [.cells [cL p1, cI x2.2]]] [C_T_keep_Src_N k 2 p1 x1.2.2 x2] (by kernel_rfl) (A1 (T_keep_Src_N_ok k 2 p1 x1.2.2 x2 hx2)) ?_
  obtain ⟨x6, hx6, H⟩ := bind_some' H
  refine K_of ⟨[(0, (Pt 0)), (5, (LI x1.1)), (6, (LI x6.1))], [.cells [cL p1, cI x6.2]]⟩ ?_ ?_
  · clear H; have H := hx6; clear hx6; refine K_in ?_
    rcases ite_some H with ⟨hx3, H⟩ | ⟨hx3, H⟩
    · refine K_t (by kernel_rfl) (decide_eq_true hx3) ?_
      obtain ⟨x4, hx4, H⟩ := bind_some' H
      obtain ⟨hx5, H⟩ := guard_some H
      refine K_r [.n x1.2.1.length, .r (I x4.1) [.cells [cL p1, cI x4.2]], .l (((x1.2.1.drop 0).take (x4.1.toNat - 0)).map (D.int .i64))] [((x1.2.1.map (D.int .i64))).length = x1.2.1.length, C_T_keep_Src_Range k 2 (x1.2.1.length : Int) p1 x2.2 x4, ((x1.2.1.map (D.int .i64)).all fun d => d.cells.length == 1) = true, (0 : Int) ≤ 0 ∧ 0 ≤ x4.1 ∧ x4.1 ≤ (((x1.2.1.map (D.int .i64))).length : Int) ∧ (((x1.2.1.map (D.int .i64))).length : Int) ≤ (((x1.2.1.map (D.int .i64))).length : Int), ((x1.2.1.map (D.int .i64)).drop (0 : Int).toNat).take ((x4.1 : Int).toNat - (0 : Int).toNat) = ((x1.2.1.drop 0).take (x4.1.toNat - 0)).map (D.int .i64)] (by kernel_rfl) (AC (List.length_map _) (AC (T_keep_Src_Range_ok k 2 (x1.2.1.length : Int) p1 x2.2 x4 hx4) (AC (all_ok (D.int .i64) 1 x1.2.1 (fun _ => rfl)) (AC (by simpa using hx5) (A1 (dt_map _ _ _ _)))))) ?_
      cases H
      exact K_end (by kernel_rfl)
    · refine K_f (by kernel_rfl) (decide_eq_false hx3) ?_
      refine K_g (by kernel_rfl) ?_
      refine K_skip ?_
      cases H
      exact K_end (by kernel_rfl)
  refine K_seq ?_
  obtain ⟨x7, hx7, H⟩ := bind_some' H
  refine K_r [.n x1.1.length, .n x6.1.length, .r (I x7.1) [.cells [cL p1, cI x7.2]]] [((x1.1.map (D.int .i64))).length = x1.1.length, ((x6.1.map (D.int .i64))).length = x6.1.length, C_T_keep_Src_N k 4 p1 x6.2 x7] (by kernel_rfl) (AC (List.length_map _) (AC (List.length_map _) (A1 (T_keep_Src_N_ok k 4 p1 x6.2 x7 hx7)))) ?_
  refine K_seq ?_
  refine K_seq ?_
  obtain ⟨x8, hx8, H⟩ := bind_some' H
  refine K_r [.r (I x8.1) [.cells [cL p1, cI x8.2]]] [C_T_keep_Src_N k 5 p1 x7.2 x8] (by kernel_rfl) (A1 (T_keep_Src_N_ok k 5 p1 x7.2 x8 hx8)) ?_
  obtain ⟨x10, hx10, H⟩ := bind_some' H
  refine K_of ⟨[(0, (Pt 0)), (5, (LI x1.1)), (6, (LI x6.1)), (7, (I x10))], [.cells [cL p1, cI x8.2]]⟩ ?_ ?_
  · clear H; have H := hx10; clear hx10; refine K_in ?_
    rcases ite_some H with ⟨hx9, H⟩ | ⟨hx9, H⟩
    · refine K_t (by kernel_rfl) (decide_eq_true hx9) ?_
      refine K_r [] [] (by kernel_rfl) trivial ?_
      cases H
      exact K_end (by kernel_rfl)
    · refine K_f (by kernel_rfl) (decide_eq_false hx9) ?_
      refine K_g (by kernel_rfl) ?_
      refine K_skip ?_
      cases H
      exact K_end (by kernel_rfl)
  refine K_seq ?_
  refine K_seq ?_
  obtain ⟨x11, hx11, H⟩ := bind_some' H
  refine K_r [.r (I x11.1) [.cells [cL p1, cI x11.2]]] [C_T_keep_Src_N k 2 p1 x8.2 x11] (by kernel_rfl) (A1 (T_keep_Src_N_ok k 2 p1 x8.2 x11 hx11)) ?_
  rcases ite_some H with ⟨hx12, H⟩ | ⟨hx12, H⟩
  · refine K_t (by kernel_rfl) (decide_eq_true hx12) ?_
    refine K_seq (K_r [] [] (by kernel_rfl) trivial ?_)
    refine K_g (by kernel_rfl) ?_
    cases H
    refine K_ret ?_
    kernel_rfl
  · refine K_f (by kernel_rfl) (decide_eq_false hx12) ?_
    refine K_g (by kernel_rfl) ?_
    refine K_skip (K_seq (K_r [] [] (by kernel_rfl) trivial ?_))
    refine K_g (by kernel_rfl) ?_
    cases H
    refine K_ret ?_
    kernel_rfl
def T_euclid_length (k : Nat) (p1 : List Int) : Option Unit := match k with
 | 0 => none
 | k + 1 => some ()
abbrev C_T_euclid_length (k : Nat) (p1 : List Int) (r : Unit) : Prop := evF X k n_euclid_length [(LI p1)] [] = some ((B (decide (2 ≤ (p1.length : Int)) && decide ((p1.length : Int) ≤ 32))), [])
theorem T_euclid_length_ok (k : Nat) (p1 : List Int) (r : Unit) : T_euclid_length k p1 = some r → C_T_euclid_length k p1 r := by
 intro H
 cases k with
 | zero => simp [T_euclid_length] at H
 | succ k =>
  simp only [T_euclid_length] at H
  refine F_in X_euclid_length rfl ?_
  refine K_seq (K_r [] [] (by kernel_rfl) trivial ?_)
  refine K_seq (K_r [.n p1.length, .m, .n p1.length] [((p1.map (D.int .i64))).length = p1.length, decide (2 ≤ (p1.length : Int)) = true → AllT [((p1.map (D.int .i64))).length = p1.length], ([] : Heap) = []] (by kernel_rfl) (AC (List.length_map _) (AC (fun _ => (A1 (List.length_map _))) (A1 rfl))) ?_)
  refine K_g (by kernel_rfl) ?_
  cases H
  refine K_ret ?_
  kernel_rfl
def T_euclid_samples_l1 (k : Nat) (p1 : List Int) (x2 : Int) (x7 : Int) : Option (Int ⊕ (Unit ⊕ Unit)) :=
 (if x7 < x2 then ((at? p1 x7).bind fun x9 => (if (decide (x9 < (-1000)) || decide (1000 < x9)) = true then some (.inr (.inr ())) else some (.inl (w64 (x7 + 1))))) else some (.inr (.inl ())))
theorem T_euclid_samples_l1_ok (k : Nat) (p1 : List Int) (x2 : Int) : ∀ (x7 : Int) (x : Int ⊕ (Unit ⊕ Unit)), T_euclid_samples_l1 k p1 x2 x7 = some x → evC X (evF X k) k 0 l_euclid_samples_1 ⟨[(5, (LI p1)), (6, (I x2)), (7, (I x7))], []⟩ = some (outS (fun (s : Int) => ⟨[(5, (LI p1)), (6, (I x2)), (7, (I s))], []⟩) (fun (r : Unit ⊕ Unit) => Sum.elim (fun y => (.exit 0, ⟨[], []⟩)) (fun y => (.ret, ⟨[(2, (B false))], []⟩)) r) x) := by
 intro x7 x H
 unfold T_euclid_samples_l1 at H
 refine K_in ?_
 refine K_seq (K_r [] [] (by kernel_rfl) trivial ?_)
 refine K_seq ?_
 rcases ite_some H with ⟨hx8, H⟩ | ⟨hx8, H⟩
 · refine K_t (by kernel_rfl) (decide_eq_true hx8) ?_
   refine K_g (by kernel_rfl) ?_
   refine K_skip ?_
   refine K_seq ?_
   refine K_block ?_
   refine K_seq ?_
   obtain ⟨x9, hx9, H⟩ := bind_some' H
   refine K_r [.l [.int .i64 x9]] [(0 : Int) ≤ x7 ∧ x7 < (((p1.map (D.int .i64))).length : Int), ((p1.map (D.int .i64)).getD x7.toNat (.int .i64 0)).cells = [.int .i64 x9]] (by kernel_rfl) (AC (at_ok hx9 (D.int .i64) (.int .i64 0)).1 (A1 (at_ok hx9 (D.int .i64) (.int .i64 0)).2)) ?_
   refine K_seq (K_r [.m] [([] : Heap) = []] (by kernel_rfl) (A1 rfl) ?_)
   rcases ite_some H with ⟨hx10, H⟩ | ⟨hx10, H⟩
   · refine K_t (by kernel_rfl) hx10 ?_
     refine K_seq (K_r [] [] (by kernel_rfl) trivial ?_)
     refine K_g (by kernel_rfl) ?_
     cases H
     exact K_ret (by kernel_rfl)
   · refine K_f (by kernel_rfl) (Bool.eq_false_iff.2 hx10) ?_
     refine K_g (by kernel_rfl) ?_
     refine K_skip (K_blk (K_r [] [] (by kernel_rfl) trivial ?_))
     cases H
     exact K_end (by kernel_rfl)
 · refine K_f (by kernel_rfl) (decide_eq_false hx8) ?_
   refine K_g (by kernel_rfl) ?_
   cases H
   exact K_exit0 rfl (by kernel_rfl)
def T_euclid_samples (k : Nat) (p1 : List Int) : Option Bool := match k with
 | 0 => none
 | k + 1 => ((loopT (T_euclid_samples_l1 k p1 (p1.length : Int)) k 0).bind fun x11 => (match x11 with | .inl x12 => some true | .inr x13 => some false))
abbrev C_T_euclid_samples (k : Nat) (p1 : List Int) (r : Bool) : Prop := evF X k n_euclid_samples [(LI p1)] [] = some ((B r), [])
theorem T_euclid_samples_ok (k : Nat) (p1 : List Int) (r : Bool) : T_euclid_samples k p1 = some r → C_T_euclid_samples k p1 r := by
 intro H
 cases k with
 | zero => simp [T_euclid_samples] at H
 | succ k =>
  simp only [T_euclid_samples] at H
  refine F_in X_euclid_samples rfl ?_
  refine K_seq (K_r [] [] (by kernel_rfl) trivial ?_)
  refine K_seq (K_seq (K_r [.n p1.length] [((p1.map (D.int .i64))).length = p1.length] (by kernel_rfl) (A1 (List.length_map _)) ?_))
  refine K_block (K_conv (σ' := ⟨[(5, (LI p1)), (6, (I (p1.length : Int))), (7, (I 0))], []⟩) (by kernel_rfl) ?_)
  obtain ⟨x11, hx11, H⟩ := bind_some' H
  cases x11 with
  | inl x12 =>
   dsimp only at H
   refine K_loop ⟨[], []⟩ (loop_ok (fun (s : Int) => ⟨[(5, (LI p1)), (6, (I (p1.length : Int))), (7, (I s))], []⟩) (fun (r : Unit ⊕ Unit) => Sum.elim (fun y => (.exit 0, ⟨[], []⟩)) (fun y => (.ret, ⟨[(2, (B false))], []⟩)) r) (fun r h => by cases r <;> cases h) (T_euclid_samples_l1_ok k p1 (p1.length : Int)) k 0 (.inl x12) hx11) rfl ?_
   refine K_seq (K_r [] [] (by kernel_rfl) trivial ?_)
   refine K_g (by kernel_rfl) ?_
   cases H
   refine K_ret ?_
   kernel_rfl
  | inr x13 =>
   dsimp only at H
   cases H
   refine K_loopr ⟨[(2, (B false))], []⟩ (loop_ok (fun (s : Int) => ⟨[(5, (LI p1)), (6, (I (p1.length : Int))), (7, (I s))], []⟩) (fun (r : Unit ⊕ Unit) => Sum.elim (fun y => (.exit 0, ⟨[], []⟩)) (fun y => (.ret, ⟨[(2, (B false))], []⟩)) r) (fun r h => by cases r <;> cases h) (T_euclid_samples_l1_ok k p1 (p1.length : Int)) k 0 (.inr x13) hx11) ?_
   kernel_rfl
def T_euclid_check (k : Nat) (p1 : List Int) (p2 : List Int) : Option Int := match k with
 | 0 => none
 | k + 1 => ((((T_euclid_length k p1).bind fun x1 => (if (!(decide (2 ≤ (p1.length : Int)) && decide ((p1.length : Int) ≤ 32))) = true then some true else ((T_euclid_length k p2).bind fun x4 => some (!(decide (2 ≤ (p2.length : Int)) && decide ((p2.length : Int) ≤ 32))))))).bind fun x5 => (if x5 = true then some 8 else ((((T_euclid_samples k p1).bind fun x7 => (if (!x7) = true then some true else ((T_euclid_samples k p2).bind fun x10 => some (!x10))))).bind fun x11 => (if x11 = true then some 12 else (if (!decide ((p1.length : Int) = (p2.length : Int))) = true then some 8 else some 0)))))
abbrev C_T_euclid_check (k : Nat) (p1 : List Int) (p2 : List Int) (r : Int) : Prop := evF X k n_euclid_check [(LI p1), (LI p2)] [] = some ((I r), [])
theorem T_euclid_check_ok (k : Nat) (p1 : List Int) (p2 : List Int) (r : Int) : T_euclid_check k p1 p2 = some r → C_T_euclid_check k p1 p2 r := by
 intro H
 cases k with
 | zero => simp [T_euclid_check] at H
 | succ k =>
  simp only [T_euclid_check] at H
  refine F_in X_euclid_check rfl ?_
  refine K_seq (K_r [] [] (by kernel_rfl) trivial ?_)
  refine K_seq ?_
  refine K_block ?_
  refine K_seq ?_
  obtain ⟨x5, hx5, H⟩ := bind_some' H
  refine K_of ⟨[(0, (LI p1)), (1, (LI p2)), (5, (B x5))], []⟩ ?_ ?_
  · clear H; have H := hx5; clear hx5; refine K_in ?_
    obtain ⟨x1, hx1, H⟩ := bind_some' H
    rcases ite_some H with ⟨hx3, H⟩ | ⟨hx3, H⟩
    · refine K_r [.r (B (decide (2 ≤ (p1.length : Int)) && decide ((p1.length : Int) ≤ 32))) [], .b true] [C_T_euclid_length k p1 x1, (!(decide (2 ≤ (p1.length : Int)) && decide ((p1.length : Int) ≤ 32))) = true] (by kernel_rfl) (AC (T_euclid_length_ok k p1 x1 hx1) (A1 hx3)) ?_
      cases H
      exact K_end (by kernel_rfl)
    · obtain ⟨x4, hx4, H⟩ := bind_some' H
      refine K_r [.r (B (decide (2 ≤ (p1.length : Int)) && decide ((p1.length : Int) ≤ 32))) [], .b false, .r (B (decide (2 ≤ (p2.length : Int)) && decide ((p2.length : Int) ≤ 32))) []] [C_T_euclid_length k p1 x1, (!(decide (2 ≤ (p1.length : Int)) && decide ((p1.length : Int) ≤ 32))) = false, C_T_euclid_length k p2 x4] (by kernel_rfl) (AC (T_euclid_length_ok k p1 x1 hx1) (AC (Bool.eq_false_iff.2 hx3) (A1 (T_euclid_length_ok k p2 x4 hx4)))) ?_
      cases H
      exact K_end (by kernel_rfl)
  rcases ite_some H with ⟨hx6, H⟩ | ⟨hx6, H⟩
  · refine K_t (by kernel_rfl) hx6 ?_
    refine K_seq (K_r [] [] (by kernel_rfl) trivial ?_)
    refine K_g (by kernel_rfl) ?_
    cases H
    refine K_ret ?_
    kernel_rfl
  · refine K_f (by kernel_rfl) (Bool.eq_false_iff.2 hx6) ?_
    refine K_seq ?_
    obtain ⟨x11, hx11, H⟩ := bind_some' H
    refine K_of ⟨[(0, (LI p1)), (1, (LI p2)), (14, (B x11))], []⟩ ?_ ?_
    · clear H; have H := hx11; clear hx11; refine K_in ?_
      obtain ⟨x7, hx7, H⟩ := bind_some' H
      rcases ite_some H with ⟨hx9, H⟩ | ⟨hx9, H⟩
      · refine K_r [.r (B x7) [], .b true] [C_T_euclid_samples k p1 x7, (!x7) = true] (by kernel_rfl) (AC (T_euclid_samples_ok k p1 x7 hx7) (A1 hx9)) ?_
        cases H
        exact K_end (by kernel_rfl)
      · obtain ⟨x10, hx10, H⟩ := bind_some' H
        refine K_r [.r (B x7) [], .b false, .r (B x10) []] [C_T_euclid_samples k p1 x7, (!x7) = false, C_T_euclid_samples k p2 x10] (by kernel_rfl) (AC (T_euclid_samples_ok k p1 x7 hx7) (AC (Bool.eq_false_iff.2 hx9) (A1 (T_euclid_samples_ok k p2 x10 hx10)))) ?_
        cases H
        exact K_end (by kernel_rfl)
    rcases ite_some H with ⟨hx12, H⟩ | ⟨hx12, H⟩
    · refine K_t (by kernel_rfl) hx12 ?_
      refine K_seq (K_r [] [] (by kernel_rfl) trivial ?_)
      refine K_g (by kernel_rfl) ?_
      cases H
      refine K_ret ?_
      kernel_rfl
    · refine K_f (by kernel_rfl) (Bool.eq_false_iff.2 hx12) ?_
      refine K_seq (K_r [.n p1.length, .n p2.length] [((p1.map (D.int .i64))).length = p1.length, ((p2.map (D.int .i64))).length = p2.length] (by kernel_rfl) (AC (List.length_map _) (A1 (List.length_map _))) ?_)
      rcases ite_some H with ⟨hx13, H⟩ | ⟨hx13, H⟩
      · refine K_t (by kernel_rfl) hx13 ?_
        refine K_seq (K_r [] [] (by kernel_rfl) trivial ?_)
        refine K_g (by kernel_rfl) ?_
        cases H
        refine K_ret ?_
        kernel_rfl
      · refine K_f (by kernel_rfl) (Bool.eq_false_iff.2 hx13) ?_
        refine K_g (by kernel_rfl) ?_
        refine K_skip (K_blk (K_seq (K_r [] [] (by kernel_rfl) trivial ?_)))
        refine K_g (by kernel_rfl) ?_
        cases H
        refine K_ret ?_
        kernel_rfl
def T_euclid_square_l1 (k : Nat) (p1 : List Int) (p2 : List Int) (x4 : Int) (x9 : Int × Int) : Option ((Int × Int) ⊕ Int) :=
 (if x9.2 < x4 then ((at? p1 x9.2).bind fun x11 => (at? p2 x9.2).bind fun x12 => some (.inl ((w64 (x9.1 + (w64 ((w64 (x11 - x12)) * (w64 (x11 - x12)))))), (w64 (x9.2 + 1))))) else some (.inr x9.1))
theorem T_euclid_square_l1_ok (k : Nat) (p1 : List Int) (p2 : List Int) (x4 : Int) : ∀ (x9 : Int × Int) (x : (Int × Int) ⊕ Int), T_euclid_square_l1 k p1 p2 x4 x9 = some x → evC X (evF X k) k 0 l_euclid_square_1 ⟨[(1, (LI p2)), (5, (I x9.1)), (8, (LI p1)), (9, (I x4)), (10, (I x9.2))], []⟩ = some (outS (fun (s : Int × Int) => ⟨[(1, (LI p2)), (5, (I s.1)), (8, (LI p1)), (9, (I x4)), (10, (I s.2))], []⟩) (fun (r : Int) => (.exit 0, ⟨[(5, (I r))], []⟩)) x) := by
 intro x9 x H
 unfold T_euclid_square_l1 at H
 refine K_in ?_
 refine K_seq (K_r [] [] (by kernel_rfl) trivial ?_)
 refine K_seq ?_
 rcases ite_some H with ⟨hx10, H⟩ | ⟨hx10, H⟩
 · refine K_t (by kernel_rfl) (decide_eq_true hx10) ?_
   refine K_g (by kernel_rfl) ?_
   refine K_skip ?_
   refine K_seq ?_
   refine K_block ?_
   refine K_seq ?_
   obtain ⟨x11, hx11, H⟩ := bind_some' H
   refine K_r [.l [.int .i64 x11]] [(0 : Int) ≤ x9.2 ∧ x9.2 < (((p1.map (D.int .i64))).length : Int), ((p1.map (D.int .i64)).getD x9.2.toNat (.int .i64 0)).cells = [.int .i64 x11]] (by kernel_rfl) (AC (at_ok hx11 (D.int .i64) (.int .i64 0)).1 (A1 (at_ok hx11 (D.int .i64) (.int .i64 0)).2)) ?_
   obtain ⟨x12, hx12, H⟩ := bind_some' H
   refine K_r [.l [.int .i64 x12], .l [.int .i64 x12]] [(0 : Int) ≤ x9.2 ∧ x9.2 < (((p2.map (D.int .i64))).length : Int), ((p2.map (D.int .i64)).getD x9.2.toNat (.int .i64 0)).cells = [.int .i64 x12], (0 : Int) ≤ x9.2 ∧ x9.2 < (((p2.map (D.int .i64))).length : Int), ((p2.map (D.int .i64)).getD x9.2.toNat (.int .i64 0)).cells = [.int .i64 x12]] (by kernel_rfl) (AC (at_ok hx12 (D.int .i64) (.int .i64 0)).1 (AC (at_ok hx12 (D.int .i64) (.int .i64 0)).2 (AC (at_ok hx12 (D.int .i64) (.int .i64 0)).1 (A1 (at_ok hx12 (D.int .i64) (.int .i64 0)).2)))) ?_
   refine K_blk (K_r [] [] (by kernel_rfl) trivial ?_)
   cases H
   exact K_end (by kernel_rfl)
 · refine K_f (by kernel_rfl) (decide_eq_false hx10) ?_
   refine K_g (by kernel_rfl) ?_
   cases H
   exact K_exit0 rfl (by kernel_rfl)
def T_euclid_square (k : Nat) (p1 : List Int) (p2 : List Int) : Option Int := match k with
 | 0 => none
 | k + 1 => ((loopT (T_euclid_square_l1 k p1 p2 (p1.length : Int)) k (0, 0)).bind fun x13 => some x13)
abbrev C_T_euclid_square (k : Nat) (p1 : List Int) (p2 : List Int) (r : Int) : Prop := evF X k n_euclid_square [(LI p1), (LI p2)] [] = some ((I r), [])
theorem T_euclid_square_ok (k : Nat) (p1 : List Int) (p2 : List Int) (r : Int) : T_euclid_square k p1 p2 = some r → C_T_euclid_square k p1 p2 r := by
 intro H
 cases k with
 | zero => simp [T_euclid_square] at H
 | succ k =>
  simp only [T_euclid_square] at H
  refine F_in X_euclid_square rfl ?_
  refine K_seq (K_r [] [] (by kernel_rfl) trivial ?_)
  refine K_seq (K_r [] [] (by kernel_rfl) trivial ?_)
  refine K_seq (K_seq (K_r [.n p1.length] [((p1.map (D.int .i64))).length = p1.length] (by kernel_rfl) (A1 (List.length_map _)) ?_))
  refine K_block (K_conv (σ' := ⟨[(1, (LI p2)), (5, (I 0)), (8, (LI p1)), (9, (I (p1.length : Int))), (10, (I 0))], []⟩) (by kernel_rfl) ?_)
  obtain ⟨x13, hx13, H⟩ := bind_some' H
  refine K_loop ⟨[(5, (I x13))], []⟩ (loop_ok (fun (s : Int × Int) => ⟨[(1, (LI p2)), (5, (I s.1)), (8, (LI p1)), (9, (I (p1.length : Int))), (10, (I s.2))], []⟩) (fun (r : Int) => (.exit 0, ⟨[(5, (I r))], []⟩)) (fun r h => by cases h) (T_euclid_square_l1_ok k p1 p2 (p1.length : Int)) k (0, 0) x13 hx13) rfl ?_
  refine K_seq (K_r [] [] (by kernel_rfl) trivial ?_)
  refine K_g (by kernel_rfl) ?_
  cases H
  refine K_ret ?_
  kernel_rfl
def T_euclid_Distance (k : Nat) (p1 : List Int) (p2 : List Int) : Option (Int × Int) := match k with
 | 0 => none
 | k + 1 => ((T_euclid_check k p1 p2).bind fun x1 => (if (!decide (x1 = 0)) = true then some (0, x1) else ((T_euclid_square k p1 p2).bind fun x3 => some (x3, 0))))
abbrev C_T_euclid_Distance (k : Nat) (p1 : List Int) (p2 : List Int) (r : Int × Int) : Prop := evF X k n_euclid_Distance [(LI p1), (LI p2)] [] = some ((.tup [(false, [cI r.1]), (false, [cI r.2])]), [])
theorem T_euclid_Distance_ok (k : Nat) (p1 : List Int) (p2 : List Int) (r : Int × Int) : T_euclid_Distance k p1 p2 = some r → C_T_euclid_Distance k p1 p2 r := by
 intro H
 cases k with
 | zero => simp [T_euclid_Distance] at H
 | succ k =>
  simp only [T_euclid_Distance] at H
  refine F_in X_euclid_Distance rfl ?_
  refine K_seq (K_r [] [] (by kernel_rfl) trivial ?_)
  refine K_seq ?_
  refine K_seq ?_
  obtain ⟨x1, hx1, H⟩ := bind_some' H
  refine K_r [.r (I x1) []] [C_T_euclid_check k p1 p2 x1] (by kernel_rfl) (A1 (T_euclid_check_ok k p1 p2 x1 hx1)) ?_
  refine K_seq (K_r [] [] (by kernel_rfl) trivial ?_)
  rcases ite_some H with ⟨hx2, H⟩ | ⟨hx2, H⟩
  · refine K_t (by kernel_rfl) hx2 ?_
    refine K_seq (K_r [] [] (by kernel_rfl) trivial ?_)
    refine K_g (by kernel_rfl) ?_
    cases H
    refine K_ret ?_
    kernel_rfl
  · refine K_f (by kernel_rfl) (Bool.eq_false_iff.2 hx2) ?_
    refine K_g (by kernel_rfl) ?_
    refine K_skip ?_
    refine K_seq ?_
    obtain ⟨x3, hx3, H⟩ := bind_some' H
    refine K_r [.r (I x3) []] [C_T_euclid_square k p1 p2 x3] (by kernel_rfl) (A1 (T_euclid_square_ok k p1 p2 x3 hx3)) ?_
    refine K_g (by kernel_rfl) ?_
    cases H
    refine K_ret ?_
    kernel_rfl
def T_warp_check (k : Nat) (p1 : List Int) (p2 : List Int) (p3 : Int) : Option Int := match k with
 | 0 => none
 | k + 1 => (if (decide (p3 < 0) || decide (32 < p3)) = true then some 1 else ((T_euclid_Distance k p1 p1).bind fun x2 => (T_euclid_Distance k p2 p2).bind fun x3 => (if (decide (x2.2 = 8) || decide (x3.2 = 8)) = true then some 8 else (if (!decide (x2.2 = 0)) = true then some x2.2 else (if (!decide (x3.2 = 0)) = true then some x3.2 else (if (decide (p3 < (w64 ((p1.length : Int) - (p2.length : Int)))) || decide (p3 < (w64 ((p2.length : Int) - (p1.length : Int))))) = true then some 8 else some 0))))))
abbrev C_T_warp_check (k : Nat) (p1 : List Int) (p2 : List Int) (p3 : Int) (r : Int) : Prop := evF X k n_warp_check [(LI p1), (LI p2), (I p3)] [] = some ((I r), [])
theorem T_warp_check_ok (k : Nat) (p1 : List Int) (p2 : List Int) (p3 : Int) (r : Int) : T_warp_check k p1 p2 p3 = some r → C_T_warp_check k p1 p2 p3 r := by
 intro H
 cases k with
 | zero => simp [T_warp_check] at H
 | succ k =>
  simp only [T_warp_check] at H
  refine F_in X_warp_check rfl ?_
  refine K_seq (K_r [] [] (by kernel_rfl) trivial ?_)
  refine K_seq (K_seq (K_r [.m] [([] : Heap) = []] (by kernel_rfl) (A1 rfl) ?_))
  rcases ite_some H with ⟨hx1, H⟩ | ⟨hx1, H⟩
  · refine K_t (by kernel_rfl) hx1 ?_
    refine K_seq (K_r [] [] (by kernel_rfl) trivial ?_)
    refine K_g (by kernel_rfl) ?_
    cases H
    refine K_ret ?_
    kernel_rfl
  · refine K_f (by kernel_rfl) (Bool.eq_false_iff.2 hx1) ?_
    refine K_g (by kernel_rfl) ?_
    refine K_skip ?_
    refine K_seq ?_
    obtain ⟨x2, hx2, H⟩ := bind_some' H
    refine K_r [.r (.tup [(false, [cI x2.1]), (false, [cI x2.2])]) []] [C_T_euclid_Distance k p1 p1 x2] (by kernel_rfl) (A1 (T_euclid_Distance_ok k p1 p1 x2 hx2)) ?_
    refine K_seq ?_
    obtain ⟨x3, hx3, H⟩ := bind_some' H
    refine K_r [.r (.tup [(false, [cI x3.1]), (false, [cI x3.2])]) []] [C_T_euclid_Distance k p2 p2 x3] (by kernel_rfl) (A1 (T_euclid_Distance_ok k p2 p2 x3 hx3)) ?_
    refine K_seq (K_block (K_seq (K_r [.m] [([] : Heap) = []] (by kernel_rfl) (A1 rfl) ?_)))
    rcases ite_some H with ⟨hx4, H⟩ | ⟨hx4, H⟩
    · refine K_t (by kernel_rfl) hx4 ?_
      refine K_seq (K_r [] [] (by kernel_rfl) trivial ?_)
      refine K_g (by kernel_rfl) ?_
      cases H
      refine K_ret ?_
      kernel_rfl
    · refine K_f (by kernel_rfl) (Bool.eq_false_iff.2 hx4) ?_
      refine K_seq (K_r [] [] (by kernel_rfl) trivial ?_)
      rcases ite_some H with ⟨hx5, H⟩ | ⟨hx5, H⟩
      · refine K_t (by kernel_rfl) hx5 ?_
        refine K_seq (K_r [] [] (by kernel_rfl) trivial ?_)
        refine K_g (by kernel_rfl) ?_
        cases H
        refine K_ret ?_
        kernel_rfl
      · refine K_f (by kernel_rfl) (Bool.eq_false_iff.2 hx5) ?_
        refine K_seq (K_r [] [] (by kernel_rfl) trivial ?_)
        rcases ite_some H with ⟨hx6, H⟩ | ⟨hx6, H⟩
        · refine K_t (by kernel_rfl) hx6 ?_
          refine K_seq (K_r [] [] (by kernel_rfl) trivial ?_)
          refine K_g (by kernel_rfl) ?_
          cases H
          refine K_ret ?_
          kernel_rfl
        · refine K_f (by kernel_rfl) (Bool.eq_false_iff.2 hx6) ?_
          refine K_seq (K_r [.n p1.length, .n p2.length, .m, .n p2.length, .n p1.length] [((p1.map (D.int .i64))).length = p1.length, ((p2.map (D.int .i64))).length = p2.length, decide (p3 < (w64 ((p1.length : Int) - (p2.length : Int)))) = false → AllT [((p2.map (D.int .i64))).length = p2.length, ((p1.map (D.int .i64))).length = p1.length], ([] : Heap) = []] (by kernel_rfl) (AC (List.length_map _) (AC (List.length_map _) (AC (fun _ => (AC (List.length_map _) (A1 (List.length_map _)))) (A1 rfl)))) ?_)
          rcases ite_some H with ⟨hx7, H⟩ | ⟨hx7, H⟩
          · refine K_t (by kernel_rfl) hx7 ?_
            refine K_seq (K_r [] [] (by kernel_rfl) trivial ?_)
            refine K_g (by kernel_rfl) ?_
            cases H
            refine K_ret ?_
            kernel_rfl
          · refine K_f (by kernel_rfl) (Bool.eq_false_iff.2 hx7) ?_
            refine K_g (by kernel_rfl) ?_
            refine K_skip (K_blk (K_seq (K_r [] [] (by kernel_rfl) trivial ?_)))
            refine K_g (by kernel_rfl) ?_
            cases H
            refine K_ret ?_
            kernel_rfl
def T_warp_near (k : Nat) (p1 : Int) (p2 : Int) (p3 : Int) : Option Unit := match k with
 | 0 => none
 | k + 1 => some ()
abbrev C_T_warp_near (k : Nat) (p1 : Int) (p2 : Int) (p3 : Int) (r : Unit) : Prop := evF X k n_warp_near [(I p1), (I p2), (I p3)] [] = some ((B (decide ((w64 (p1 - p2)) ≤ p3) && decide ((w64 (p2 - p1)) ≤ p3))), [])
theorem T_warp_near_ok (k : Nat) (p1 : Int) (p2 : Int) (p3 : Int) (r : Unit) : T_warp_near k p1 p2 p3 = some r → C_T_warp_near k p1 p2 p3 r := by
 intro H
 cases k with
 | zero => simp [T_warp_near] at H
 | succ k =>
  simp only [T_warp_near] at H
  refine F_in X_warp_near rfl ?_
  refine K_seq (K_r [] [] (by kernel_rfl) trivial ?_)
  refine K_seq (K_r [.m] [([] : Heap) = []] (by kernel_rfl) (A1 rfl) ?_)
  refine K_g (by kernel_rfl) ?_
  cases H
  refine K_ret ?_
  kernel_rfl
def T_warp_fill_l1 (k : Nat) (p1 : Nat) (p2 : Nat) (p3 : List Int) (p4 : List Int) (p5 : Int) (p6 : Int) (x7 : Int) (p8 : List Int) (x34 : Int × (List Int)) : Option ((Int × (List Int)) ⊕ (((List Int)))) :=
 (if x34.1 < x7 then (if (0 : Int) ≤ x34.1 ∧ x34.1 < ((p1 : Nat) : Int) then (T_warp_near k p6 x34.1 p5).bind fun x37 => (if (!(decide ((w64 (p6 - x34.1)) ≤ p5) && decide ((w64 (x34.1 - p6)) ≤ p5))) = true then some (.inl ((w64 (x34.1 + 1)), (x34.2.set (0 + x34.1.toNat) 4611686018427387904))) else ((if (decide (p6 = 0) && decide (x34.1 = 0)) = true then some 0 else some 4611686018427387904)).bind fun x40 => ((if 0 < x34.1 then (if (0 : Int) ≤ (w64 (x34.1 - 1)) ∧ (w64 (x34.1 - 1)) < ((p1 : Nat) : Int) then ((x34.2.set (0 + x34.1.toNat) 4611686018427387904)[(0 + (w64 (x34.1 - 1)).toNat)]?).bind fun x43 => some (imin x40 x43) else none) else some x40)).bind fun x44 => ((if 0 < p6 then (if (0 : Int) ≤ x34.1 ∧ x34.1 < ((p2 : Nat) : Int) then (p8[(0 + x34.1.toNat)]?).bind fun x47 => some (imin x44 x47) else none) else some x44)).bind fun x48 => ((if (decide (0 < p6) && decide (0 < x34.1)) = true then (if (0 : Int) ≤ x34.1 ∧ x34.1 < ((p2 : Nat) : Int) then (p8[(0 + x34.1.toNat)]?).bind fun x51 => (if (0 : Int) ≤ (w64 (x34.1 - 1)) ∧ (w64 (x34.1 - 1)) < ((p2 : Nat) : Int) then (p8[(0 + (w64 (x34.1 - 1)).toNat)]?).bind fun x53 => some (imin (imin x48 x51) x53) else none) else none) else some x48)).bind fun x54 => (at? p3 p6).bind fun x55 => (at? p4 x34.1).bind fun x56 => (if (0 : Int) ≤ x34.1 ∧ x34.1 < ((p1 : Nat) : Int) then some (.inl ((w64 (x34.1 + 1)), ((x34.2.set (0 + x34.1.toNat) 4611686018427387904).set (0 + x34.1.toNat) (imin 4611686018427387904 (w64 (x54 + (w64 ((w64 (x55 - x56)) * (w64 (x55 - x56)))))))))) else none)) else none) else some (.inr x34.2))
theorem T_warp_fill_l1_ok (k : Nat) (p1 : Nat) (p2 : Nat) (p3 : List Int) (p4 : List Int) (p5 : Int) (p6 : Int) (x7 : Int) (p8 : List Int) : ∀ (x34 : Int × (List Int)) (x : (Int × (List Int)) ⊕ (((List Int)))), T_warp_fill_l1 k p1 p2 p3 p4 p5 p6 x7 p8 x34 = some x → evC X (evF X k) k 2 l_warp_fill_1 ⟨[(0, (.one (.own 0 0 p1))), (1, (.one (.own 1 0 p2))), (2, (LI p3)), (3, (LI p4)), (4, (I p5)), (5, (I p6)), (15, (I x7)), (16, (I x34.1))], [VI x34.2, VI p8]⟩ = some (outS (fun (s : Int × (List Int)) => ⟨[(0, (.one (.own 0 0 p1))), (1, (.one (.own 1 0 p2))), (2, (LI p3)), (3, (LI p4)), (4, (I p5)), (5, (I p6)), (15, (I x7)), (16, (I s.1))], [VI s.2, VI p8]⟩) (fun (r : ((List Int))) => (.exit 0, ⟨[], [VI r, VI p8]⟩)) x) := by
 intro x34 x H
 unfold T_warp_fill_l1 at H
 refine K_in ?_
 refine K_seq (K_r [] [] (by kernel_rfl) trivial ?_)
 refine K_seq ?_
 rcases ite_some H with ⟨hx35, H⟩ | ⟨hx35, H⟩
 · refine K_t (by kernel_rfl) (decide_eq_true hx35) ?_
   refine K_g (by kernel_rfl) ?_
   refine K_skip (K_seq (K_block (K_seq (K_r [] [] (by kernel_rfl) trivial ?_))))
   refine K_seq ?_
   obtain ⟨hx36, H⟩ := guard_some H
   refine K_r [.l ((x34.2.set (0 + x34.1.toNat) 4611686018427387904).map (D.int .i64))] [(0 : Int) ≤ x34.1 ∧ x34.1 < ((p1 : Nat) : Int), (x34.2.map (D.int .i64)).set (0 + x34.1.toNat) (elemOf (.int .i64 0) (splice ((x34.2.map (D.int .i64)).getD (0 + x34.1.toNat) (.int .i64 0)).cells 0 [.int .i64 4611686018427387904])) = (x34.2.set (0 + x34.1.toNat) 4611686018427387904).map (D.int .i64)] (by kernel_rfl) (AC hx36 (A1 (st_one x34.2 (0 + x34.1.toNat) 4611686018427387904 (D.int .i64) (.int .i64 0) rfl (fun _ => rfl) rfl))) ?_
   refine K_seq ?_
   refine K_seq ?_
   obtain ⟨x37, hx37, H⟩ := bind_some' H
   refine K_r [.r (B (decide ((w64 (p6 - x34.1)) ≤ p5) && decide ((w64 (x34.1 - p6)) ≤ p5))) []] [C_T_warp_near k p6 x34.1 p5 x37] (by kernel_rfl) (A1 (T_warp_near_ok k p6 x34.1 p5 x37 hx37)) ?_
   rcases ite_some H with ⟨hx38, H⟩ | ⟨hx38, H⟩
   · refine K_t (by kernel_rfl) hx38 ?_
     refine K_g (by kernel_rfl) ?_
     refine K_exit rfl ?_
     refine K_r [] [] (by kernel_rfl) trivial ?_
     cases H
     exact K_end (by kernel_rfl)
   · refine K_f (by kernel_rfl) (Bool.eq_false_iff.2 hx38) ?_
     refine K_g (by kernel_rfl) ?_
     refine K_skip (K_seq (K_r [] [] (by kernel_rfl) trivial ?_))
     refine K_seq (K_seq (K_r [.m] ((fun (z1 : Heap) => [z1 = z1]) [VI (x34.2.set (0 + x34.1.toNat) 4611686018427387904), VI p8]) (by kernel_rfl) (A1 rfl) ?_))
     obtain ⟨x40, hx40, H⟩ := bind_some' H
     refine K_of ⟨[(0, (.one (.own 0 0 p1))), (1, (.one (.own 1 0 p2))), (2, (LI p3)), (3, (LI p4)), (4, (I p5)), (5, (I p6)), (12, (I x34.1)), (13, (I x40)), (15, (I x7)), (16, (I x34.1))], [VI (x34.2.set (0 + x34.1.toNat) 4611686018427387904), VI p8]⟩ ?_ ?_
     · clear H; have H := hx40; clear hx40; refine K_in ?_
       rcases ite_some H with ⟨hx39, H⟩ | ⟨hx39, H⟩
       · refine K_t (by kernel_rfl) hx39 ?_
         refine K_r [] [] (by kernel_rfl) trivial ?_
         cases H
         exact K_end (by kernel_rfl)
       · refine K_f (by kernel_rfl) (Bool.eq_false_iff.2 hx39) ?_
         refine K_g (by kernel_rfl) ?_
         refine K_skip ?_
         cases H
         exact K_end (by kernel_rfl)
     refine K_seq (K_seq (K_r [] [] (by kernel_rfl) trivial ?_))
     obtain ⟨x44, hx44, H⟩ := bind_some' H
     refine K_of ⟨[(0, (.one (.own 0 0 p1))), (1, (.one (.own 1 0 p2))), (2, (LI p3)), (3, (LI p4)), (4, (I p5)), (5, (I p6)), (12, (I x34.1)), (13, (I x44)), (15, (I x7)), (16, (I x34.1))], [VI (x34.2.set (0 + x34.1.toNat) 4611686018427387904), VI p8]⟩ ?_ ?_
     · clear H; have H := hx44; clear hx44; refine K_in ?_
       rcases ite_some H with ⟨hx41, H⟩ | ⟨hx41, H⟩
       · refine K_t (by kernel_rfl) (decide_eq_true hx41) ?_
         obtain ⟨hx42, H⟩ := guard_some H
         obtain ⟨x43, hx43, H⟩ := bind_some' H
         refine K_r [.l [.int .i64 x43]] [(0 : Int) ≤ (w64 (x34.1 - 1)) ∧ (w64 (x34.1 - 1)) < ((p1 : Nat) : Int), (((x34.2.set (0 + x34.1.toNat) 4611686018427387904).map (D.int .i64)).getD (0 + (w64 (x34.1 - 1)).toNat) (.int .i64 0)).cells = [.int .i64 x43]] (by kernel_rfl) (AC hx42 (A1 (ld_ok hx43 (D.int .i64) (.int .i64 0)))) ?_
         cases H
         exact K_end (by kernel_rfl)
       · refine K_f (by kernel_rfl) (decide_eq_false hx41) ?_
         refine K_g (by kernel_rfl) ?_
         refine K_skip ?_
         cases H
         exact K_end (by kernel_rfl)
     refine K_seq (K_seq (K_r [] [] (by kernel_rfl) trivial ?_))
     obtain ⟨x48, hx48, H⟩ := bind_some' H
     refine K_of ⟨[(0, (.one (.own 0 0 p1))), (1, (.one (.own 1 0 p2))), (2, (LI p3)), (3, (LI p4)), (4, (I p5)), (5, (I p6)), (12, (I x34.1)), (13, (I x48)), (15, (I x7)), (16, (I x34.1))], [VI (x34.2.set (0 + x34.1.toNat) 4611686018427387904), VI p8]⟩ ?_ ?_
     · clear H; have H := hx48; clear hx48; refine K_in ?_
       rcases ite_some H with ⟨hx45, H⟩ | ⟨hx45, H⟩
       · refine K_t (by kernel_rfl) (decide_eq_true hx45) ?_
         obtain ⟨hx46, H⟩ := guard_some H
         obtain ⟨x47, hx47, H⟩ := bind_some' H
         refine K_r [.l [.int .i64 x47]] [(0 : Int) ≤ x34.1 ∧ x34.1 < ((p2 : Nat) : Int), ((p8.map (D.int .i64)).getD (0 + x34.1.toNat) (.int .i64 0)).cells = [.int .i64 x47]] (by kernel_rfl) (AC hx46 (A1 (ld_ok hx47 (D.int .i64) (.int .i64 0)))) ?_
         cases H
         exact K_end (by kernel_rfl)
       · refine K_f (by kernel_rfl) (decide_eq_false hx45) ?_
         refine K_g (by kernel_rfl) ?_
         refine K_skip ?_
         cases H
         exact K_end (by kernel_rfl)
     refine K_seq (K_seq (K_r [.m] ((fun (z1 : Heap) => [z1 = z1]) [VI (x34.2.set (0 + x34.1.toNat) 4611686018427387904), VI p8]) (by kernel_rfl) (A1 rfl) ?_))
     obtain ⟨x54, hx54, H⟩ := bind_some' H
     refine K_of ⟨[(0, (.one (.own 0 0 p1))), (1, (.one (.own 1 0 p2))), (2, (LI p3)), (3, (LI p4)), (4, (I p5)), (5, (I p6)), (12, (I x34.1)), (13, (I x54)), (15, (I x7)), (16, (I x34.1))], [VI (x34.2.set (0 + x34.1.toNat) 4611686018427387904), VI p8]⟩ ?_ ?_
     · clear H; have H := hx54; clear hx54; refine K_in ?_
       rcases ite_some H with ⟨hx49, H⟩ | ⟨hx49, H⟩
       · refine K_t (by kernel_rfl) hx49 ?_
         obtain ⟨hx50, H⟩ := guard_some H
         obtain ⟨x51, hx51, H⟩ := bind_some' H
         obtain ⟨hx52, H⟩ := guard_some H
         obtain ⟨x53, hx53, H⟩ := bind_some' H
         refine K_r [.l [.int .i64 x51], .l [.int .i64 x53]] [(0 : Int) ≤ x34.1 ∧ x34.1 < ((p2 : Nat) : Int), ((p8.map (D.int .i64)).getD (0 + x34.1.toNat) (.int .i64 0)).cells = [.int .i64 x51], (0 : Int) ≤ (w64 (x34.1 - 1)) ∧ (w64 (x34.1 - 1)) < ((p2 : Nat) : Int), ((p8.map (D.int .i64)).getD (0 + (w64 (x34.1 - 1)).toNat) (.int .i64 0)).cells = [.int .i64 x53]] (by kernel_rfl) (AC hx50 (AC (ld_ok hx51 (D.int .i64) (.int .i64 0)) (AC hx52 (A1 (ld_ok hx53 (D.int .i64) (.int .i64 0)))))) ?_
         cases H
         exact K_end (by kernel_rfl)
       · refine K_f (by kernel_rfl) (Bool.eq_false_iff.2 hx49) ?_
         refine K_g (by kernel_rfl) ?_
         refine K_skip ?_
         cases H
         exact K_end (by kernel_rfl)
     obtain ⟨x55, hx55, H⟩ := bind_some' H
     obtain ⟨x56, hx56, H⟩ := bind_some' H
     obtain ⟨hx57, H⟩ := guard_some H
     refine K_r [.l [.int .i64 x55], .l [.int .i64 x56], .l [.int .i64 x55], .l [.int .i64 x56], .l (((x34.2.set (0 + x34.1.toNat) 4611686018427387904).set (0 + x34.1.toNat) (imin 4611686018427387904 (w64 (x54 + (w64 ((w64 (x55 - x56)) * (w64 (x55 - x56)))))))).map (D.int .i64))] [(0 : Int) ≤ p6 ∧ p6 < (((p3.map (D.int .i64))).length : Int), ((p3.map (D.int .i64)).getD p6.toNat (.int .i64 0)).cells = [.int .i64 x55], (0 : Int) ≤ x34.1 ∧ x34.1 < (((p4.map (D.int .i64))).length : Int), ((p4.map (D.int .i64)).getD x34.1.toNat (.int .i64 0)).cells = [.int .i64 x56], (0 : Int) ≤ p6 ∧ p6 < (((p3.map (D.int .i64))).length : Int), ((p3.map (D.int .i64)).getD p6.toNat (.int .i64 0)).cells = [.int .i64 x55], (0 : Int) ≤ x34.1 ∧ x34.1 < (((p4.map (D.int .i64))).length : Int), ((p4.map (D.int .i64)).getD x34.1.toNat (.int .i64 0)).cells = [.int .i64 x56], (0 : Int) ≤ x34.1 ∧ x34.1 < ((p1 : Nat) : Int), ((x34.2.set (0 + x34.1.toNat) 4611686018427387904).map (D.int .i64)).set (0 + x34.1.toNat) (elemOf (.int .i64 0) (splice (((x34.2.set (0 + x34.1.toNat) 4611686018427387904).map (D.int .i64)).getD (0 + x34.1.toNat) (.int .i64 0)).cells 0 [.int .i64 (imin 4611686018427387904 (w64 (x54 + (w64 ((w64 (x55 - x56)) * (w64 (x55 - x56)))))))])) = ((x34.2.set (0 + x34.1.toNat) 4611686018427387904).set (0 + x34.1.toNat) (imin 4611686018427387904 (w64 (x54 + (w64 ((w64 (x55 - x56)) * (w64 (x55 - x56)))))))).map (D.int .i64)] (by kernel_rfl) (AC (at_ok hx55 (D.int .i64) (.int .i64 0)).1 (AC (at_ok hx55 (D.int .i64) (.int .i64 0)).2 (AC (at_ok hx56 (D.int .i64) (.int .i64 0)).1 (AC (at_ok hx56 (D.int .i64) (.int .i64 0)).2 (AC (at_ok hx55 (D.int .i64) (.int .i64 0)).1 (AC (at_ok hx55 (D.int .i64) (.int .i64 0)).2 (AC (at_ok hx56 (D.int .i64) (.int .i64 0)).1 (AC (at_ok hx56 (D.int .i64) (.int .i64 0)).2 (AC hx57 (A1 (st_one (x34.2.set (0 + x34.1.toNat) 4611686018427387904) (0 + x34.1.toNat) (imin 4611686018427387904 (w64 (x54 + (w64 ((w64 (x55 - x56)) * (w64 (x55 - x56))))))) (D.int .i64) (.int .i64 0) rfl (fun _ => rfl) rfl))))))))))) ?_
     refine K_blk (K_r [] [] (by kernel_rfl) trivial ?_)
     cases H
     exact K_end (by kernel_rfl)
 · refine K_f (by kernel_rfl) (decide_eq_false hx35) ?_
   refine K_g (by kernel_rfl) ?_
   cases H
   exact K_exit0 rfl (by kernel_rfl)
def T_warp_fill (k : Nat) (p1 : Nat) (p2 : Nat) (p3 : List Int) (p4 : List Int) (p5 : Int) (p6 : Int) (p7 : List Int) (p8 : List Int) : Option ((List Int)) := match k with
 | 0 => none
 | k + 1 => ((loopT (T_warp_fill_l1 k p1 p2 p3 p4 p5 p6 (p4.length : Int) p8) k (0, p7)).bind fun x58 => some x58)
abbrev C_T_warp_fill (k : Nat) (p1 : Nat) (p2 : Nat) (p3 : List Int) (p4 : List Int) (p5 : Int) (p6 : Int) (p7 : List Int) (p8 : List Int) (r : (List Int)) : Prop := evF X k n_warp_fill [(.one (.own 0 0 p1)), (.one (.own 1 0 p2)), (LI p3), (LI p4), (I p5), (I p6)] [VI p7, VI p8] = some ((.tup []), [VI r, VI p8])
theorem T_warp_fill_ok (k : Nat) (p1 : Nat) (p2 : Nat) (p3 : List Int) (p4 : List Int) (p5 : Int) (p6 : Int) (p7 : List Int) (p8 : List Int) (r : (List Int)) : T_warp_fill k p1 p2 p3 p4 p5 p6 p7 p8 = some r → C_T_warp_fill k p1 p2 p3 p4 p5 p6 p7 p8 r := by
 intro H
 cases k with
 | zero => simp [T_warp_fill] at H
 | succ k =>
  simp only [T_warp_fill] at H
  refine F_in X_warp_fill rfl ?_
  refine K_seq (K_r [.n p4.length] [((p4.map (D.int .i64))).length = p4.length] (by kernel_rfl) (A1 (List.length_map _)) ?_)
  refine K_block (K_conv (σ' := ⟨[(0, (.one (.own 0 0 p1))), (1, (.one (.own 1 0 p2))), (2, (LI p3)), (3, (LI p4)), (4, (I p5)), (5, (I p6)), (15, (I (p4.length : Int))), (16, (I 0))], [VI p7, VI p8]⟩) (by kernel_rfl) ?_)
  obtain ⟨x58, hx58, H⟩ := bind_some' H
  refine K_loop ⟨[], [VI x58, VI p8]⟩ (loop_ok (fun (s : Int × (List Int)) => ⟨[(0, (.one (.own 0 0 p1))), (1, (.one (.own 1 0 p2))), (2, (LI p3)), (3, (LI p4)), (4, (I p5)), (5, (I p6)), (15, (I (p4.length : Int))), (16, (I s.1))], [VI s.2, VI p8]⟩) (fun (r : ((List Int))) => (.exit 0, ⟨[], [VI r, VI p8]⟩)) (fun r h => by cases h) (T_warp_fill_l1_ok k p1 p2 p3 p4 p5 p6 (p4.length : Int) p8) k (0, p7) x58 hx58) rfl ?_
  cases H
  refine K_end ?_
  kernel_rfl
def T_slices_Min_b354_l1 (k : Nat) (p1 : Nat) (p2 : List Int) (x11 : Int × Int) : Option ((Int × Int) ⊕ Int) :=
 (if x11.2 < ((p1 : Nat) : Int) then (if (0 : Int) ≤ x11.2 ∧ x11.2 < ((p1 : Nat) : Int) then (p2[(0 + x11.2.toNat)]?).bind fun x14 => some (.inl ((imin x11.1 x14), (w64 (x11.2 + 1)))) else none) else some (.inr x11.1))
theorem T_slices_Min_b354_l1_ok (k : Nat) (p1 : Nat) (p2 : List Int) : ∀ (x11 : Int × Int) (x : (Int × Int) ⊕ Int), T_slices_Min_b354_l1 k p1 p2 x11 = some x → evC X (evF X k) k 1 l_slices_Min_b354_1 ⟨[(0, (.one (.own 0 0 p1))), (3, (I x11.1)), (4, (I x11.2))], [VI p2]⟩ = some (outS (fun (s : Int × Int) => ⟨[(0, (.one (.own 0 0 p1))), (3, (I s.1)), (4, (I s.2))], [VI p2]⟩) (fun (r : Int) => (.exit 0, ⟨[(3, (I r))], [VI p2]⟩)) x) := by
 intro x11 x H
 unfold T_slices_Min_b354_l1 at H
 refine K_in ?_
 refine K_seq (K_seq (K_r [] [] (by kernel_rfl) trivial ?_))
 rcases ite_some H with ⟨hx12, H⟩ | ⟨hx12, H⟩
 · refine K_t (by kernel_rfl) (decide_eq_true hx12) ?_
   refine K_g (by kernel_rfl) ?_
   refine K_skip ?_
   refine K_seq ?_
   refine K_block ?_
   obtain ⟨hx13, H⟩ := guard_some H
   obtain ⟨x14, hx14, H⟩ := bind_some' H
   refine K_r [.l [.int .i64 x14]] [(0 : Int) ≤ x11.2 ∧ x11.2 < ((p1 : Nat) : Int), ((p2.map (D.int .i64)).getD (0 + x11.2.toNat) (.int .i64 0)).cells = [.int .i64 x14]] (by kernel_rfl) (AC hx13 (A1 (ld_ok hx14 (D.int .i64) (.int .i64 0)))) ?_
   refine K_blk (K_r [] [] (by kernel_rfl) trivial ?_)
   cases H
   exact K_end (by kernel_rfl)
 · refine K_f (by kernel_rfl) (decide_eq_false hx12) ?_
   refine K_g (by kernel_rfl) ?_
   cases H
   exact K_exit0 rfl (by kernel_rfl)
def T_slices_Min_b354 (k : Nat) (p1 : Nat) (p2 : List Int) : Option Int := match k with
 | 0 => none
 | k + 1 => (if ((p1 : Nat) : Int) < 1 then none else (if (0 : Int) ≤ 0 ∧ 0 < ((p1 : Nat) : Int) then (p2[(0 + 0)]?).bind fun x3 => (loopT (T_slices_Min_b354_l1 k p1 p2) k (x3, 1)).bind fun x15 => some x15 else none))
abbrev C_T_slices_Min_b354 (k : Nat) (p1 : Nat) (p2 : List Int) (r : Int) : Prop := evF X k n_slices_Min_b354 [(.one (.own 0 0 p1))] [VI p2] = some ((I r), [VI p2])
theorem T_slices_Min_b354_ok (k : Nat) (p1 : Nat) (p2 : List Int) (r : Int) : T_slices_Min_b354 k p1 p2 = some r → C_T_slices_Min_b354 k p1 p2 r := by
 intro H
 cases k with
 | zero => simp [T_slices_Min_b354] at H
 | succ k =>
  simp only [T_slices_Min_b354] at H
  refine F_in X_slices_Min_b354 rfl ?_
  refine K_seq (K_r [] [] (by kernel_rfl) trivial ?_)
  refine K_seq (K_seq (K_r [] [] (by kernel_rfl) trivial ?_))
  rcases ite_some H with ⟨hx1, H⟩ | ⟨hx1, H⟩
  · refine K_t (by kernel_rfl) (decide_eq_true hx1) ?_
    cases H
  · refine K_f (by kernel_rfl) (decide_eq_false hx1) ?_
    refine K_g (by kernel_rfl) ?_
    refine K_skip ?_
    refine K_seq ?_
    obtain ⟨hx2, H⟩ := guard_some H
    obtain ⟨x3, hx3, H⟩ := bind_some' H
    refine K_r [.l [.int .i64 x3]] [(0 : Int) ≤ 0 ∧ 0 < ((p1 : Nat) : Int), ((p2.map (D.int .i64)).getD (0 + 0) (.int .i64 0)).cells = [.int .i64 x3]] (by kernel_rfl) (AC hx2 (A1 (ld_ok hx3 (D.int .i64) (.int .i64 0)))) ?_
    refine K_seq (K_seq (K_r [] [] (by kernel_rfl) trivial ?_))
    refine K_block (K_conv (σ' := ⟨[(0, (.one (.own 0 0 p1))), (3, (I x3)), (4, (I 1))], [VI p2]⟩) (by kernel_rfl) ?_)
    obtain ⟨x15, hx15, H⟩ := bind_some' H
    refine K_loop ⟨[(3, (I x15))], [VI p2]⟩ (loop_ok (fun (s : Int × Int) => ⟨[(0, (.one (.own 0 0 p1))), (3, (I s.1)), (4, (I s.2))], [VI p2]⟩) (fun (r : Int) => (.exit 0, ⟨[(3, (I r))], [VI p2]⟩)) (fun r h => by cases h) (T_slices_Min_b354_l1_ok k p1 p2) k (x3, 1) x15 hx15) rfl ?_
    refine K_seq (K_r [] [] (by kernel_rfl) trivial ?_)
    refine K_g (by kernel_rfl) ?_
    cases H
    refine K_ret ?_
    kernel_rfl
def T_warp_distance_l1 (k : Nat) (p1 : List Int) (p2 : List Int) (p3 : Int) (p4 : Int) (x8 : Int) (x16 : Nat × Nat × Int × (List Int) × (List Int)) : Option ((Nat × Nat × Int × (List Int) × (List Int)) ⊕ ((Nat × (List Int)) ⊕ Unit)) :=
 (if x16.2.2.1 < x8 then ((T_warp_fill k x16.1 x16.2.1 p1 p2 p3 x16.2.2.1 x16.2.2.2.1 x16.2.2.2.2).bind fun x18 => (T_slices_Min_b354 k x16.1 x18).bind fun x19 => (if p4 < x19 then some (.inr (.inr ())) else some (.inl (x16.2.1, x16.1, (w64 (x16.2.2.1 + 1)), x16.2.2.2.2, x18)))) else some (.inr (.inl (x16.2.1, x16.2.2.2.2))))
theorem T_warp_distance_l1_ok (k : Nat) (p1 : List Int) (p2 : List Int) (p3 : Int) (p4 : Int) (x8 : Int) : ∀ (x16 : Nat × Nat × Int × (List Int) × (List Int)) (x : (Nat × Nat × Int × (List Int) × (List Int)) ⊕ ((Nat × (List Int)) ⊕ Unit)), T_warp_distance_l1 k p1 p2 p3 p4 x8 x16 = some x → evC X (evF X k) k 0 l_warp_distance_1 ⟨[(0, (LI p1)), (1, (LI p2)), (2, (I p3)), (3, (I p4)), (9, (.one (.own 0 0 x16.1))), (10, (.one (.own 1 0 x16.2.1))), (19, (I x8)), (20, (I x16.2.2.1))], [VI x16.2.2.2.1, VI x16.2.2.2.2]⟩ = some (outS (fun (s : Nat × Nat × Int × (List Int) × (List Int)) => ⟨[(0, (LI p1)), (1, (LI p2)), (2, (I p3)), (3, (I p4)), (9, (.one (.own 0 0 s.1))), (10, (.one (.own 1 0 s.2.1))), (19, (I x8)), (20, (I s.2.2.1))], [VI s.2.2.2.1, VI s.2.2.2.2]⟩) (fun (r : (Nat × (List Int)) ⊕ Unit) => Sum.elim (fun y => (.exit 0, ⟨[(1, (LI p2)), (10, (.one (.own 0 0 y.1)))], [VI y.2]⟩)) (fun y => (.ret, ⟨[(8, (I 4611686018427387904))], []⟩)) r) x) := by
 intro x16 x H
 unfold T_warp_distance_l1 at H
 refine K_in ?_
 refine K_seq (K_r [] [] (by kernel_rfl) trivial ?_)
 refine K_seq ?_
 rcases ite_some H with ⟨hx17, H⟩ | ⟨hx17, H⟩
 · refine K_t (by kernel_rfl) (decide_eq_true hx17) ?_
   refine K_g (by kernel_rfl) ?_
   refine K_skip (K_seq (K_block (K_seq (K_r [] [] (by kernel_rfl) trivial ?_))))
   refine K_seq (K_r [] [] (by kernel_rfl) trivial ?_)
   refine K_seq ?_
   obtain ⟨x18, hx18, H⟩ := bind_some' H
   refine K_r [.r (.tup []) [VI x18, VI x16.2.2.2.2]] [C_T_warp_fill k x16.1 x16.2.1 p1 p2 p3 x16.2.2.1 x16.2.2.2.1 x16.2.2.2.2 x18] (by kernel_rfl) (A1 (T_warp_fill_ok k x16.1 x16.2.1 p1 p2 p3 x16.2.2.1 x16.2.2.2.1 x16.2.2.2.2 x18 hx18)) ?_
   refine K_seq ?_
   obtain ⟨x19, hx19, H⟩ := bind_some' H
   refine K_r [.r (I x19) [VI x18]] [C_T_slices_Min_b354 k x16.1 x18 x19] (by kernel_rfl) (A1 (T_slices_Min_b354_ok k x16.1 x18 x19 hx19)) ?_
   rcases ite_some H with ⟨hx20, H⟩ | ⟨hx20, H⟩
   · refine K_t (by kernel_rfl) (decide_eq_true hx20) ?_
     refine K_seq (K_r [] [] (by kernel_rfl) trivial ?_)
     refine K_g (by kernel_rfl) ?_
     cases H
     exact K_ret (by kernel_rfl)
   · refine K_f (by kernel_rfl) (decide_eq_false hx20) ?_
     refine K_g (by kernel_rfl) ?_
     refine K_skip (K_blk (K_r [] [] (by kernel_rfl) trivial ?_))
     cases H
     exact K_end (by kernel_rfl)
 · refine K_f (by kernel_rfl) (decide_eq_false hx17) ?_
   refine K_g (by kernel_rfl) ?_
   cases H
   exact K_exit0 rfl (by kernel_rfl)
def T_warp_distance (k : Nat) (p1 : List Int) (p2 : List Int) (p3 : Int) (p4 : Int) : Option Int := match k with
 | 0 => none
 | k + 1 => (if (0 : Int) ≤ (p2.length : Int) ∧ (p2.length : Int) ≤ (p2.length : Int) ∧ (p2.length : Int) ≤ (LIM : Int) then (loopT (T_warp_distance_l1 k p1 p2 p3 p4 (p1.length : Int)) k ((p2.length : Int).toNat, (p2.length : Int).toNat, 0, (List.replicate (p2.length : Int).toNat (0 : Int)), (List.replicate (p2.length : Int).toNat (0 : Int)))).bind fun x21 => (match x21 with | .inl x22 => (if (0 : Int) ≤ (w64 ((p2.length : Int) - 1)) ∧ (w64 ((p2.length : Int) - 1)) < ((x22.1 : Nat) : Int) then (x22.2[(0 + (w64 ((p2.length : Int) - 1)).toNat)]?).bind fun x24 => some x24 else none) | .inr x25 => some 4611686018427387904) else none)
abbrev C_T_warp_distance (k : Nat) (p1 : List Int) (p2 : List Int) (p3 : Int) (p4 : Int) (r : Int) : Prop := evF X k n_warp_distance [(LI p1), (LI p2), (I p3), (I p4)] [] = some ((I r), [])
theorem T_warp_distance_ok (k : Nat) (p1 : List Int) (p2 : List Int) (p3 : Int) (p4 : Int) (r : Int) : T_warp_distance k p1 p2 p3 p4 = some r → C_T_warp_distance k p1 p2 p3 p4 r := by
 intro H
 cases k with
 | zero => simp [T_warp_distance] at H
 | succ k =>
  simp only [T_warp_distance] at H
  refine F_in X_warp_distance rfl ?_
  refine K_seq (K_r [] [] (by kernel_rfl) trivial ?_)
  refine K_seq ?_
  obtain ⟨hx1, H⟩ := guard_some H
  refine K_rD [.n p2.length, .n p2.length, .l ((List.replicate (p2.length : Int).toNat (0 : Int)).map (D.int .i64)), .l ((List.replicate (p2.length : Int).toNat (0 : Int)).map (D.int .i64)), .l ((List.replicate (p2.length : Int).toNat (0 : Int)).map (D.int .i64)), .l ((List.replicate (p2.length : Int).toNat (0 : Int)).map (D.int .i64))] ((fun (z1 : St) => [((p2.map (D.int .i64))).length = p2.length, ((p2.map (D.int .i64))).length = p2.length, (0 : Int) ≤ (p2.length : Int) ∧ (p2.length : Int) ≤ (p2.length : Int) ∧ (p2.length : Int) ≤ (LIM : Int), List.replicate (p2.length : Int).toNat (.int .i64 0) = (List.replicate (p2.length : Int).toNat (0 : Int)).map (D.int .i64), (0 : Int) ≤ (p2.length : Int) ∧ (p2.length : Int) ≤ (p2.length : Int) ∧ (p2.length : Int) ≤ (LIM : Int), List.replicate (p2.length : Int).toNat (.int .i64 0) = (List.replicate (p2.length : Int).toNat (0 : Int)).map (D.int .i64), (0 : Int) ≤ (p2.length : Int) ∧ (p2.length : Int) ≤ (p2.length : Int) ∧ (p2.length : Int) ≤ (LIM : Int), List.replicate (p2.length : Int).toNat (.int .i64 0) = (List.replicate (p2.length : Int).toNat (0 : Int)).map (D.int .i64), (0 : Int) ≤ (p2.length : Int) ∧ (p2.length : Int) ≤ (p2.length : Int) ∧ (p2.length : Int) ≤ (LIM : Int), List.replicate (p2.length : Int).toNat (.int .i64 0) = (List.replicate (p2.length : Int).toNat (0 : Int)).map (D.int .i64), z1 = z1]) (⟨[(0, (LI p1)), (1, (LI p2)), (2, (I p3)), (3, (I p4)), (9, (.one (.own 0 0 ((p2.length : Int).toNat)))), (10, (.one (.own 1 0 ((p2.length : Int).toNat))))], [VI (List.replicate (p2.length : Int).toNat (0 : Int)), VI (List.replicate (p2.length : Int).toNat (0 : Int))]⟩)) (by kernel_rfl) (AC (List.length_map _) (AC (List.length_map _) (AC hx1 (AC (rep_map (D.int .i64) _ (0 : Int)) (AC hx1 (AC (rep_map (D.int .i64) _ (0 : Int)) (AC hx1 (AC (rep_map (D.int .i64) _ (0 : Int)) (AC hx1 (AC (rep_map (D.int .i64) _ (0 : Int)) (A1 rfl))))))))))) ?_
  refine K_seq (K_seq (K_r [.n p1.length] [((p1.map (D.int .i64))).length = p1.length] (by kernel_rfl) (A1 (List.length_map _)) ?_))
  refine K_block (K_conv (σ' := ⟨[(0, (LI p1)), (1, (LI p2)), (2, (I p3)), (3, (I p4)), (9, (.one (.own 0 0 ((p2.length : Int).toNat)))), (10, (.one (.own 1 0 ((p2.length : Int).toNat)))), (19, (I (p1.length : Int))), (20, (I 0))], [VI (List.replicate (p2.length : Int).toNat (0 : Int)), VI (List.replicate (p2.length : Int).toNat (0 : Int))]⟩) (by kernel_rfl) ?_)
  obtain ⟨x21, hx21, H⟩ := bind_some' H
  cases x21 with
  | inl x22 =>
   dsimp only at H
   refine K_loop ⟨[(1, (LI p2)), (10, (.one (.own 0 0 x22.1)))], [VI x22.2]⟩ (loop_ok (fun (s : Nat × Nat × Int × (List Int) × (List Int)) => ⟨[(0, (LI p1)), (1, (LI p2)), (2, (I p3)), (3, (I p4)), (9, (.one (.own 0 0 s.1))), (10, (.one (.own 1 0 s.2.1))), (19, (I (p1.length : Int))), (20, (I s.2.2.1))], [VI s.2.2.2.1, VI s.2.2.2.2]⟩) (fun (r : (Nat × (List Int)) ⊕ Unit) => Sum.elim (fun y => (.exit 0, ⟨[(1, (LI p2)), (10, (.one (.own 0 0 y.1)))], [VI y.2]⟩)) (fun y => (.ret, ⟨[(8, (I 4611686018427387904))], []⟩)) r) (fun r h => by cases r <;> cases h) (T_warp_distance_l1_ok k p1 p2 p3 p4 (p1.length : Int)) k ((p2.length : Int).toNat, (p2.length : Int).toNat, 0, (List.replicate (p2.length : Int).toNat (0 : Int)), (List.replicate (p2.length : Int).toNat (0 : Int))) (.inl x22) hx21) rfl ?_
   refine K_seq ?_
   obtain ⟨hx23, H⟩ := guard_some H
   obtain ⟨x24, hx24, H⟩ := bind_some' H
   refine K_r [.n p2.length, .l [.int .i64 x24]] [((p2.map (D.int .i64))).length = p2.length, (0 : Int) ≤ (w64 ((p2.length : Int) - 1)) ∧ (w64 ((p2.length : Int) - 1)) < ((x22.1 : Nat) : Int), ((x22.2.map (D.int .i64)).getD (0 + (w64 ((p2.length : Int) - 1)).toNat) (.int .i64 0)).cells = [.int .i64 x24]] (by kernel_rfl) (AC (List.length_map _) (AC hx23 (A1 (ld_ok hx24 (D.int .i64) (.int .i64 0))))) ?_
   refine K_g (by kernel_rfl) ?_
   cases H
   refine K_ret ?_
   kernel_rfl
  | inr x25 =>
   dsimp only at H
   cases H
   refine K_loopr ⟨[(8, (I 4611686018427387904))], []⟩ (loop_ok (fun (s : Nat × Nat × Int × (List Int) × (List Int)) => ⟨[(0, (LI p1)), (1, (LI p2)), (2, (I p3)), (3, (I p4)), (9, (.one (.own 0 0 s.1))), (10, (.one (.own 1 0 s.2.1))), (19, (I (p1.length : Int))), (20, (I s.2.2.1))], [VI s.2.2.2.1, VI s.2.2.2.2]⟩) (fun (r : (Nat × (List Int)) ⊕ Unit) => Sum.elim (fun y => (.exit 0, ⟨[(1, (LI p2)), (10, (.one (.own 0 0 y.1)))], [VI y.2]⟩)) (fun y => (.ret, ⟨[(8, (I 4611686018427387904))], []⟩)) r) (fun r h => by cases r <;> cases h) (T_warp_distance_l1_ok k p1 p2 p3 p4 (p1.length : Int)) k ((p2.length : Int).toNat, (p2.length : Int).toNat, 0, (List.replicate (p2.length : Int).toNat (0 : Int)), (List.replicate (p2.length : Int).toNat (0 : Int))) (.inr x25) hx21) ?_
   kernel_rfl
def T_warp_Distance (k : Nat) (p1 : List Int) (p2 : List Int) (p3 : Int) : Option (Int × Int) := match k with
 | 0 => none
 | k + 1 => ((T_warp_check k p1 p2 p3).bind fun x1 => (if (!decide (x1 = 0)) = true then some (0, x1) else ((T_warp_distance k p1 p2 p3 4611686018427387904).bind fun x3 => some (x3, 0))))
abbrev C_T_warp_Distance (k : Nat) (p1 : List Int) (p2 : List Int) (p3 : Int) (r : Int × Int) : Prop := evF X k n_warp_Distance [(LI p1), (LI p2), (I p3)] [] = some ((.tup [(false, [cI r.1]), (false, [cI r.2])]), [])
theorem T_warp_Distance_ok (k : Nat) (p1 : List Int) (p2 : List Int) (p3 : Int) (r : Int × Int) : T_warp_Distance k p1 p2 p3 = some r → C_T_warp_Distance k p1 p2 p3 r := by
 intro H
 cases k with
 | zero => simp [T_warp_Distance] at H
 | succ k =>
  simp only [T_warp_Distance] at H
  refine F_in X_warp_Distance rfl ?_
  refine K_seq (K_r [] [] (by kernel_rfl) trivial ?_)
  refine K_seq ?_
  refine K_seq ?_
  obtain ⟨x1, hx1, H⟩ := bind_some' H
  refine K_r [.r (I x1) []] [C_T_warp_check k p1 p2 p3 x1] (by kernel_rfl) (A1 (T_warp_check_ok k p1 p2 p3 x1 hx1)) ?_
  refine K_seq (K_r [] [] (by kernel_rfl) trivial ?_)
  rcases ite_some H with ⟨hx2, H⟩ | ⟨hx2, H⟩
  · refine K_t (by kernel_rfl) hx2 ?_
    refine K_seq (K_r [] [] (by kernel_rfl) trivial ?_)
    refine K_g (by kernel_rfl) ?_
    cases H
    refine K_ret ?_
    kernel_rfl
  · refine K_f (by kernel_rfl) (Bool.eq_false_iff.2 hx2) ?_
    refine K_g (by kernel_rfl) ?_
    refine K_skip ?_
    refine K_seq ?_
    obtain ⟨x3, hx3, H⟩ := bind_some' H
    refine K_r [.r (I x3) []] [C_T_warp_distance k p1 p2 p3 4611686018427387904 x3] (by kernel_rfl) (A1 (T_warp_distance_ok k p1 p2 p3 4611686018427387904 x3 hx3)) ?_
    refine K_g (by kernel_rfl) ?_
    cases H
    refine K_ret ?_
    kernel_rfl
def T_slices_Reverse_3828_l1 (k : Nat) (p1 : Nat) (x10 : Int × Int × (List (Int × Int))) : Option ((Int × Int × (List (Int × Int))) ⊕ (((List (Int × Int))))) :=
 (if x10.1 < x10.2.1 then (if (0 : Int) ≤ x10.2.1 ∧ x10.2.1 < ((p1 : Nat) : Int) then (x10.2.2[(0 + x10.2.1.toNat)]?).bind fun x13 => (if (0 : Int) ≤ x10.1 ∧ x10.1 < ((p1 : Nat) : Int) then (x10.2.2[(0 + x10.1.toNat)]?).bind fun x15 => some (.inl ((w64 (x10.1 + 1)), (w64 (x10.2.1 - 1)), ((x10.2.2.set (0 + x10.1.toNat) (x13.1, x13.2)).set (0 + x10.2.1.toNat) (x15.1, x15.2)))) else none) else none) else some (.inr x10.2.2))
theorem T_slices_Reverse_3828_l1_ok (k : Nat) (p1 : Nat) : ∀ (x10 : Int × Int × (List (Int × Int))) (x : (Int × Int × (List (Int × Int))) ⊕ (((List (Int × Int))))), T_slices_Reverse_3828_l1 k p1 x10 = some x → evC X (evF X k) k 1 l_slices_Reverse_3828_1 ⟨[(0, (.one (.own 0 0 p1))), (2, (I x10.1)), (3, (I x10.2.1))], [.vals (.agg [(.int .i64 0), (.int .i64 0)]) (x10.2.2.map e_st0)]⟩ = some (outS (fun (s : Int × Int × (List (Int × Int))) => ⟨[(0, (.one (.own 0 0 p1))), (2, (I s.1)), (3, (I s.2.1))], [.vals (.agg [(.int .i64 0), (.int .i64 0)]) (s.2.2.map e_st0)]⟩) (fun (r : ((List (Int × Int)))) => (.exit 0, ⟨[], [.vals (.agg [(.int .i64 0), (.int .i64 0)]) (r.map e_st0)]⟩)) x) := by
 intro x10 x H
 unfold T_slices_Reverse_3828_l1 at H
 refine K_in ?_
 refine K_seq (K_seq (K_r [] [] (by kernel_rfl) trivial ?_))
 rcases ite_some H with ⟨hx11, H⟩ | ⟨hx11, H⟩
 · refine K_t (by kernel_rfl) (decide_eq_true hx11) ?_
   refine K_g (by kernel_rfl) ?_
   refine K_skip ?_
   refine K_seq ?_
   refine K_block ?_
   obtain ⟨hx12, H⟩ := guard_some H
   obtain ⟨x13, hx13, H⟩ := bind_some' H
   obtain ⟨hx14, H⟩ := guard_some H
   obtain ⟨x15, hx15, H⟩ := bind_some' H
   refine K_r [.l [.int .i64 x13.1, .int .i64 x13.2], .l [.int .i64 x15.1, .int .i64 x15.2], .l ((x10.2.2.set (0 + x10.1.toNat) (x13.1, x13.2)).map e_st0), .l (((x10.2.2.set (0 + x10.1.toNat) (x13.1, x13.2)).set (0 + x10.2.1.toNat) (x15.1, x15.2)).map e_st0)] [(0 : Int) ≤ x10.2.1 ∧ x10.2.1 < ((p1 : Nat) : Int), ((x10.2.2.map e_st0).getD (0 + x10.2.1.toNat) (.agg [(.int .i64 0), (.int .i64 0)])).cells = [.int .i64 x13.1, .int .i64 x13.2], (0 : Int) ≤ x10.1 ∧ x10.1 < ((p1 : Nat) : Int), ((x10.2.2.map e_st0).getD (0 + x10.1.toNat) (.agg [(.int .i64 0), (.int .i64 0)])).cells = [.int .i64 x15.1, .int .i64 x15.2], (0 : Int) ≤ x10.1 ∧ x10.1 < ((p1 : Nat) : Int), (x10.2.2.map e_st0).set (0 + x10.1.toNat) (elemOf (.agg [(.int .i64 0), (.int .i64 0)]) (splice ((x10.2.2.map e_st0).getD (0 + x10.1.toNat) (.agg [(.int .i64 0), (.int .i64 0)])).cells 0 [.int .i64 x13.1, .int .i64 x13.2])) = (x10.2.2.set (0 + x10.1.toNat) (x13.1, x13.2)).map e_st0, (0 : Int) ≤ x10.2.1 ∧ x10.2.1 < ((p1 : Nat) : Int), ((x10.2.2.set (0 + x10.1.toNat) (x13.1, x13.2)).map e_st0).set (0 + x10.2.1.toNat) (elemOf (.agg [(.int .i64 0), (.int .i64 0)]) (splice (((x10.2.2.set (0 + x10.1.toNat) (x13.1, x13.2)).map e_st0).getD (0 + x10.2.1.toNat) (.agg [(.int .i64 0), (.int .i64 0)])).cells 0 [.int .i64 x15.1, .int .i64 x15.2])) = ((x10.2.2.set (0 + x10.1.toNat) (x13.1, x13.2)).set (0 + x10.2.1.toNat) (x15.1, x15.2)).map e_st0] (by kernel_rfl) (AC hx12 (AC (ld_ok hx13 e_st0 (.agg [(.int .i64 0), (.int .i64 0)])) (AC hx14 (AC (ld_ok hx15 e_st0 (.agg [(.int .i64 0), (.int .i64 0)])) (AC hx14 (AC (st_agg x10.2.2 (0 + x10.1.toNat) (x13.1, x13.2) e_st0 [(.int .i64 0), (.int .i64 0)] 2 (fun _ => ⟨_, rfl, rfl⟩) rfl) (AC hx12 (A1 (st_agg (x10.2.2.set (0 + x10.1.toNat) (x13.1, x13.2)) (0 + x10.2.1.toNat) (x15.1, x15.2) e_st0 [(.int .i64 0), (.int .i64 0)] 2 (fun _ => ⟨_, rfl, rfl⟩) rfl))))))))) ?_
   refine K_blk (K_r [] [] (by kernel_rfl) trivial ?_)
   cases H
   exact K_end (by kernel_rfl)
 · refine K_f (by kernel_rfl) (decide_eq_false hx11) ?_
   refine K_g (by kernel_rfl) ?_
   cases H
   exact K_exit0 rfl (by kernel_rfl)
def T_slices_Reverse_3828 (k : Nat) (p1 : Nat) (p2 : List (Int × Int)) : Option ((List (Int × Int))) := match k with
 | 0 => none
 | k + 1 => ((loopT (T_slices_Reverse_3828_l1 k p1) k (0, (w64 (((p1 : Nat) : Int) - 1)), p2)).bind fun x16 => some x16)
abbrev C_T_slices_Reverse_3828 (k : Nat) (p1 : Nat) (p2 : List (Int × Int)) (r : (List (Int × Int))) : Prop := evF X k n_slices_Reverse_3828 [(.one (.own 0 0 p1))] [.vals (.agg [(.int .i64 0), (.int .i64 0)]) (p2.map e_st0)] = some ((.tup []), [.vals (.agg [(.int .i64 0), (.int .i64 0)]) (r.map e_st0)])
theorem T_slices_Reverse_3828_ok (k : Nat) (p1 : Nat) (p2 : List (Int × Int)) (r : (List (Int × Int))) : T_slices_Reverse_3828 k p1 p2 = some r → C_T_slices_Reverse_3828 k p1 p2 r := by
 intro H
 cases k with
 | zero => simp [T_slices_Reverse_3828] at H
 | succ k =>
  simp only [T_slices_Reverse_3828] at H
  refine F_in X_slices_Reverse_3828 rfl ?_
  refine K_seq (K_r [] [] (by kernel_rfl) trivial ?_)
  refine K_block (K_conv (σ' := ⟨[(0, (.one (.own 0 0 p1))), (2, (I 0)), (3, (I (w64 (((p1 : Nat) : Int) - 1))))], [.vals (.agg [(.int .i64 0), (.int .i64 0)]) (p2.map e_st0)]⟩) (by kernel_rfl) ?_)
  obtain ⟨x16, hx16, H⟩ := bind_some' H
  refine K_loop ⟨[], [.vals (.agg [(.int .i64 0), (.int .i64 0)]) (x16.map e_st0)]⟩ (loop_ok (fun (s : Int × Int × (List (Int × Int))) => ⟨[(0, (.one (.own 0 0 p1))), (2, (I s.1)), (3, (I s.2.1))], [.vals (.agg [(.int .i64 0), (.int .i64 0)]) (s.2.2.map e_st0)]⟩) (fun (r : ((List (Int × Int)))) => (.exit 0, ⟨[], [.vals (.agg [(.int .i64 0), (.int .i64 0)]) (r.map e_st0)]⟩)) (fun r h => by cases h) (T_slices_Reverse_3828_l1_ok k p1) k (0, (w64 (((p1 : Nat) : Int) - 1)), p2) x16 hx16) rfl ?_
  cases H
  refine K_end ?_
  kernel_rfl
def T_warp_Path_l1 (k : Nat) (p1 : List Int) (p2 : List Int) (p3 : Int) (x8 : Int) (x20 : Nat × Int × (List (List Int))) : Option ((Nat × Int × (List (List Int))) ⊕ ((Nat × (List (List Int))))) :=
 (if x20.2.1 < x8 then (if (0 : Int) ≤ (p2.length : Int) ∧ (p2.length : Int) ≤ (p2.length : Int) ∧ (p2.length : Int) ≤ (LIM : Int) then (if x20.1 + 1 ≤ LIM then (if (0 : Int) ≤ (w64 (x20.2.1 + 1)) ∧ (w64 (x20.2.1 + 1)) < (((x20.1 + 1) : Nat) : Int) then (((x20.2.2.take x20.1 ++ [[]]).set x20.1 (List.replicate (p2.length : Int).toNat (0 : Int)))[(0 + (w64 (x20.2.1 + 1)).toNat)]?).bind fun x25 => (if (0 : Int) ≤ x20.2.1 ∧ x20.2.1 < (((x20.1 + 1) : Nat) : Int) then (if (0 + (w64 (x20.2.1 + 1)).toNat) ≠ (0 + x20.2.1.toNat) then (((x20.2.2.take x20.1 ++ [[]]).set x20.1 (List.replicate (p2.length : Int).toNat (0 : Int)))[(0 + x20.2.1.toNat)]?).bind fun x28 => (T_warp_fill k x25.length x28.length p1 p2 p3 x20.2.1 x25 x28).bind fun x29 => some (.inl ((x20.1 + 1), (w64 (x20.2.1 + 1)), (((x20.2.2.take x20.1 ++ [[]]).set x20.1 (List.replicate (p2.length : Int).toNat (0 : Int))).set (0 + (w64 (x20.2.1 + 1)).toNat) (x29.take x25.length)))) else none) else none) else none) else none) else none) else some (.inr (x20.1, x20.2.2)))
theorem T_warp_Path_l1_ok (k : Nat) (p1 : List Int) (p2 : List Int) (p3 : Int) (x8 : Int) : ∀ (x20 : Nat × Int × (List (List Int))) (x : (Nat × Int × (List (List Int))) ⊕ ((Nat × (List (List Int))))), T_warp_Path_l1 k p1 p2 p3 x8 x20 = some x → evC X (evF X k) k 0 l_warp_Path_1 ⟨[(0, (LI p1)), (1, (LI p2)), (2, (I p3)), (9, (.one (.own 0 0 x20.1))), (29, (I x8)), (30, (I x20.2.1))], [.rows (.int .i64 0) (x20.2.2.map (List.map (D.int .i64))) []]⟩ = some (outS (fun (s : Nat × Int × (List (List Int))) => ⟨[(0, (LI p1)), (1, (LI p2)), (2, (I p3)), (9, (.one (.own 0 0 s.1))), (29, (I x8)), (30, (I s.2.1))], [.rows (.int .i64 0) (s.2.2.map (List.map (D.int .i64))) []]⟩) (fun (r : (Nat × (List (List Int)))) => (.exit 0, ⟨[(0, (LI p1)), (1, (LI p2)), (9, (.one (.own 0 0 r.1)))], [.rows (.int .i64 0) (r.2.map (List.map (D.int .i64))) []]⟩)) x) := by
 intro x20 x H
 unfold T_warp_Path_l1 at H
 refine K_in ?_
 refine K_seq (K_r [] [] (by kernel_rfl) trivial ?_)
 refine K_seq ?_
 rcases ite_some H with ⟨hx21, H⟩ | ⟨hx21, H⟩
 · refine K_t (by kernel_rfl) (decide_eq_true hx21) ?_
   refine K_g (by kernel_rfl) ?_
   refine K_skip (K_seq (K_block (K_seq (K_r [] [] (by kernel_rfl) trivial ?_))))
   refine K_seq ?_
   obtain ⟨hx22, H⟩ := guard_some H
   obtain ⟨hx23, H⟩ := guard_some H
   refine K_r [.n p2.length, .l ((List.replicate (p2.length : Int).toNat (0 : Int)).map (D.int .i64)), .ll ((x20.2.2.take x20.1 ++ [[]]).map (List.map (D.int .i64))), .n x20.1, .n ((p2.length : Int).toNat), .ll (((x20.2.2.take x20.1 ++ [[]]).set x20.1 (List.replicate (p2.length : Int).toNat (0 : Int))).map (List.map (D.int .i64))), .br []] [((p2.map (D.int .i64))).length = p2.length, (0 : Int) ≤ (p2.length : Int) ∧ (p2.length : Int) ≤ (p2.length : Int) ∧ (p2.length : Int) ≤ (LIM : Int), List.replicate (p2.length : Int).toNat (.int .i64 0) = (List.replicate (p2.length : Int).toNat (0 : Int)).map (D.int .i64), x20.1 + 1 ≤ LIM, (x20.2.2.map (List.map (D.int .i64))).take x20.1 ++ [[]] = (x20.2.2.take x20.1 ++ [[]]).map (List.map (D.int .i64)), brHas 1 [(x20.1, .own 1 0 ((p2.length : Int).toNat))] [(x20.1, .own 1 0 ((p2.length : Int).toNat))] = some (x20.1, (p2.length : Int).toNat), ((x20.2.2.take x20.1 ++ [[]]).map (List.map (D.int .i64))).set x20.1 (((List.replicate (p2.length : Int).toNat (0 : Int)).map (D.int .i64)).take ((p2.length : Int).toNat)) = ((x20.2.2.take x20.1 ++ [[]]).set x20.1 (List.replicate (p2.length : Int).toNat (0 : Int))).map (List.map (D.int .i64)), brDel [(x20.1, .own 1 0 ((p2.length : Int).toNat))] x20.1 = []] (by kernel_rfl) (AC (List.length_map _) (AC hx22 (AC (rep_map (D.int .i64) _ (0 : Int)) (AC hx23 (AC (ra_map (D.int .i64) _ _) (AC bh_1 (AC (bk_all (D.int .i64) (x20.2.2.take x20.1 ++ [[]]) x20.1 (List.replicate (p2.length : Int).toNat (0 : Int)) ((p2.length : Int).toNat) (by simp)) (A1 bd_1)))))))) ?_
   obtain ⟨hx24, H⟩ := guard_some H
   obtain ⟨x25, hx25, H⟩ := bind_some' H
   obtain ⟨hx26, H⟩ := guard_some H
   obtain ⟨hx27, H⟩ := guard_some H
   obtain ⟨x28, hx28, H⟩ := bind_some' H
   obtain ⟨x29, hx29, H⟩ := bind_some' H
   refine K_rD [.n 0, .l (x25.map (D.int .i64)), .n x25.length, .n 1, .l (x28.map (D.int .i64)), .n x28.length, .r (.tup []) [VI x29, VI x28], .n (0 + x20.2.1.toNat), .n x28.length, .ll (((x20.2.2.take x20.1 ++ [[]]).set x20.1 (List.replicate (p2.length : Int).toNat (0 : Int))).map (List.map (D.int .i64))), .br [((0 + (w64 (x20.2.1 + 1)).toNat), .own 1 0 x25.length)], .n (0 + (w64 (x20.2.1 + 1)).toNat), .n x25.length, .ll ((((x20.2.2.take x20.1 ++ [[]]).set x20.1 (List.replicate (p2.length : Int).toNat (0 : Int))).set (0 + (w64 (x20.2.1 + 1)).toNat) (x29.take x25.length)).map (List.map (D.int .i64))), .br [], .n 0, .l (x25.map (D.int .i64)), .n x25.length, .n 1, .l (x28.map (D.int .i64)), .n x28.length, .r (.tup []) [VI x29, VI x28], .n (0 + x20.2.1.toNat), .n x28.length, .ll (((x20.2.2.take x20.1 ++ [[]]).set x20.1 (List.replicate (p2.length : Int).toNat (0 : Int))).map (List.map (D.int .i64))), .br [((0 + (w64 (x20.2.1 + 1)).toNat), .own 1 0 x25.length)], .n (0 + (w64 (x20.2.1 + 1)).toNat), .n x25.length, .ll ((((x20.2.2.take x20.1 ++ [[]]).set x20.1 (List.replicate (p2.length : Int).toNat (0 : Int))).set (0 + (w64 (x20.2.1 + 1)).toNat) (x29.take x25.length)).map (List.map (D.int .i64))), .br [], .n 0, .l (x28.map (D.int .i64)), .n x28.length, .n 1, .l (x25.map (D.int .i64)), .n x25.length, .r (.tup []) [VI x29, VI x28], .n (0 + x20.2.1.toNat), .n x28.length, .ll (((x20.2.2.take x20.1 ++ [[]]).set x20.1 (List.replicate (p2.length : Int).toNat (0 : Int))).map (List.map (D.int .i64))), .br [((0 + (w64 (x20.2.1 + 1)).toNat), .own 2 0 x25.length)], .n (0 + (w64 (x20.2.1 + 1)).toNat), .n x25.length, .ll ((((x20.2.2.take x20.1 ++ [[]]).set x20.1 (List.replicate (p2.length : Int).toNat (0 : Int))).set (0 + (w64 (x20.2.1 + 1)).toNat) (x29.take x25.length)).map (List.map (D.int .i64))), .br [], .n 0, .l (x25.map (D.int .i64)), .n x25.length, .n 1, .l (x28.map (D.int .i64)), .n x28.length, .r (.tup []) [VI x29, VI x28], .n (0 + x20.2.1.toNat), .n x28.length, .ll (((x20.2.2.take x20.1 ++ [[]]).set x20.1 (List.replicate (p2.length : Int).toNat (0 : Int))).map (List.map (D.int .i64))), .br [((0 + (w64 (x20.2.1 + 1)).toNat), .own 1 0 x25.length)], .n (0 + (w64 (x20.2.1 + 1)).toNat), .n x25.length, .ll ((((x20.2.2.take x20.1 ++ [[]]).set x20.1 (List.replicate (p2.length : Int).toNat (0 : Int))).set (0 + (w64 (x20.2.1 + 1)).toNat) (x29.take x25.length)).map (List.map (D.int .i64))), .br [], .n 0, .l (x28.map (D.int .i64)), .n x28.length, .n 1, .l (x25.map (D.int .i64)), .n x25.length, .r (.tup []) [VI x29, VI x28], .n (0 + x20.2.1.toNat), .n x28.length, .ll (((x20.2.2.take x20.1 ++ [[]]).set x20.1 (List.replicate (p2.length : Int).toNat (0 : Int))).map (List.map (D.int .i64))), .br [((0 + (w64 (x20.2.1 + 1)).toNat), .own 2 0 x25.length)], .n (0 + (w64 (x20.2.1 + 1)).toNat), .n x25.length, .ll ((((x20.2.2.take x20.1 ++ [[]]).set x20.1 (List.replicate (p2.length : Int).toNat (0 : Int))).set (0 + (w64 (x20.2.1 + 1)).toNat) (x29.take x25.length)).map (List.map (D.int .i64))), .br [], .n 0, .l (x28.map (D.int .i64)), .n x28.length, .n 1, .l (x25.map (D.int .i64)), .n x25.length, .r (.tup []) [VI x29, VI x28], .n (0 + x20.2.1.toNat), .n x28.length, .ll (((x20.2.2.take x20.1 ++ [[]]).set x20.1 (List.replicate (p2.length : Int).toNat (0 : Int))).map (List.map (D.int .i64))), .br [((0 + (w64 (x20.2.1 + 1)).toNat), .own 2 0 x25.length)], .n (0 + (w64 (x20.2.1 + 1)).toNat), .n x25.length, .ll ((((x20.2.2.take x20.1 ++ [[]]).set x20.1 (List.replicate (p2.length : Int).toNat (0 : Int))).set (0 + (w64 (x20.2.1 + 1)).toNat) (x29.take x25.length)).map (List.map (D.int .i64))), .br []] ((fun (z1 : St) => [(0 : Int) ≤ (w64 (x20.2.1 + 1)) ∧ (w64 (x20.2.1 + 1)) < (((x20.1 + 1) : Nat) : Int), (((x20.2.2.take x20.1 ++ [[]]).set x20.1 (List.replicate (p2.length : Int).toNat (0 : Int))).map (List.map (D.int .i64))).getD (0 + (w64 (x20.2.1 + 1)).toNat) [] = x25.map (D.int .i64), (x25.map (D.int .i64)).length = x25.length, (0 : Int) ≤ x20.2.1 ∧ x20.2.1 < (((x20.1 + 1) : Nat) : Int), (0 + (w64 (x20.2.1 + 1)).toNat) ≠ (0 + x20.2.1.toNat), (((x20.2.2.take x20.1 ++ [[]]).set x20.1 (List.replicate (p2.length : Int).toNat (0 : Int))).map (List.map (D.int .i64))).getD (0 + x20.2.1.toNat) [] = x28.map (D.int .i64), (x28.map (D.int .i64)).length = x28.length, C_T_warp_fill k x25.length x28.length p1 p2 p3 x20.2.1 x25 x28 x29, brHas 2 [((0 + x20.2.1.toNat), .own 2 0 x28.length), ((0 + (w64 (x20.2.1 + 1)).toNat), .own 1 0 x25.length)] [((0 + x20.2.1.toNat), .own 2 0 x28.length), ((0 + (w64 (x20.2.1 + 1)).toNat), .own 1 0 x25.length)] = some ((0 + x20.2.1.toNat), x28.length), (((x20.2.2.take x20.1 ++ [[]]).set x20.1 (List.replicate (p2.length : Int).toNat (0 : Int))).map (List.map (D.int .i64))).set (0 + x20.2.1.toNat) ((x28.map (D.int .i64)).take x28.length) = ((x20.2.2.take x20.1 ++ [[]]).set x20.1 (List.replicate (p2.length : Int).toNat (0 : Int))).map (List.map (D.int .i64)), brDel [((0 + x20.2.1.toNat), .own 2 0 x28.length), ((0 + (w64 (x20.2.1 + 1)).toNat), .own 1 0 x25.length)] (0 + x20.2.1.toNat) = [((0 + (w64 (x20.2.1 + 1)).toNat), .own 1 0 x25.length)], brHas 1 [((0 + (w64 (x20.2.1 + 1)).toNat), .own 1 0 x25.length)] [((0 + (w64 (x20.2.1 + 1)).toNat), .own 1 0 x25.length)] = some ((0 + (w64 (x20.2.1 + 1)).toNat), x25.length), (((x20.2.2.take x20.1 ++ [[]]).set x20.1 (List.replicate (p2.length : Int).toNat (0 : Int))).map (List.map (D.int .i64))).set (0 + (w64 (x20.2.1 + 1)).toNat) ((x29.map (D.int .i64)).take x25.length) = (((x20.2.2.take x20.1 ++ [[]]).set x20.1 (List.replicate (p2.length : Int).toNat (0 : Int))).set (0 + (w64 (x20.2.1 + 1)).toNat) (x29.take x25.length)).map (List.map (D.int .i64)), brDel [((0 + (w64 (x20.2.1 + 1)).toNat), .own 1 0 x25.length)] (0 + (w64 (x20.2.1 + 1)).toNat) = [], (0 : Int) ≤ x20.2.1 ∧ x20.2.1 < (((x20.1 + 1) : Nat) : Int), (((x20.2.2.take x20.1 ++ [[]]).set x20.1 (List.replicate (p2.length : Int).toNat (0 : Int))).map (List.map (D.int .i64))).getD (0 + (w64 (x20.2.1 + 1)).toNat) [] = x25.map (D.int .i64), (x25.map (D.int .i64)).length = x25.length, (0 + (w64 (x20.2.1 + 1)).toNat) ≠ (0 + x20.2.1.toNat), (((x20.2.2.take x20.1 ++ [[]]).set x20.1 (List.replicate (p2.length : Int).toNat (0 : Int))).map (List.map (D.int .i64))).getD (0 + x20.2.1.toNat) [] = x28.map (D.int .i64), (x28.map (D.int .i64)).length = x28.length, C_T_warp_fill k x25.length x28.length p1 p2 p3 x20.2.1 x25 x28 x29, brHas 2 [((0 + x20.2.1.toNat), .own 2 0 x28.length), ((0 + (w64 (x20.2.1 + 1)).toNat), .own 1 0 x25.length)] [((0 + x20.2.1.toNat), .own 2 0 x28.length), ((0 + (w64 (x20.2.1 + 1)).toNat), .own 1 0 x25.length)] = some ((0 + x20.2.1.toNat), x28.length), (((x20.2.2.take x20.1 ++ [[]]).set x20.1 (List.replicate (p2.length : Int).toNat (0 : Int))).map (List.map (D.int .i64))).set (0 + x20.2.1.toNat) ((x28.map (D.int .i64)).take x28.length) = ((x20.2.2.take x20.1 ++ [[]]).set x20.1 (List.replicate (p2.length : Int).toNat (0 : Int))).map (List.map (D.int .i64)), brDel [((0 + x20.2.1.toNat), .own 2 0 x28.length), ((0 + (w64 (x20.2.1 + 1)).toNat), .own 1 0 x25.length)] (0 + x20.2.1.toNat) = [((0 + (w64 (x20.2.1 + 1)).toNat), .own 1 0 x25.length)], brHas 1 [((0 + (w64 (x20.2.1 + 1)).toNat), .own 1 0 x25.length)] [((0 + (w64 (x20.2.1 + 1)).toNat), .own 1 0 x25.length)] = some ((0 + (w64 (x20.2.1 + 1)).toNat), x25.length), (((x20.2.2.take x20.1 ++ [[]]).set x20.1 (List.replicate (p2.length : Int).toNat (0 : Int))).map (List.map (D.int .i64))).set (0 + (w64 (x20.2.1 + 1)).toNat) ((x29.map (D.int .i64)).take x25.length) = (((x20.2.2.take x20.1 ++ [[]]).set x20.1 (List.replicate (p2.length : Int).toNat (0 : Int))).set (0 + (w64 (x20.2.1 + 1)).toNat) (x29.take x25.length)).map (List.map (D.int .i64)), brDel [((0 + (w64 (x20.2.1 + 1)).toNat), .own 1 0 x25.length)] (0 + (w64 (x20.2.1 + 1)).toNat) = [], (((x20.2.2.take x20.1 ++ [[]]).set x20.1 (List.replicate (p2.length : Int).toNat (0 : Int))).map (List.map (D.int .i64))).getD (0 + x20.2.1.toNat) [] = x28.map (D.int .i64), (x28.map (D.int .i64)).length = x28.length, (0 + x20.2.1.toNat) ≠ (0 + (w64 (x20.2.1 + 1)).toNat), (((x20.2.2.take x20.1 ++ [[]]).set x20.1 (List.replicate (p2.length : Int).toNat (0 : Int))).map (List.map (D.int .i64))).getD (0 + (w64 (x20.2.1 + 1)).toNat) [] = x25.map (D.int .i64), (x25.map (D.int .i64)).length = x25.length, C_T_warp_fill k x25.length x28.length p1 p2 p3 x20.2.1 x25 x28 x29, brHas 1 [((0 + (w64 (x20.2.1 + 1)).toNat), .own 2 0 x25.length), ((0 + x20.2.1.toNat), .own 1 0 x28.length)] [((0 + (w64 (x20.2.1 + 1)).toNat), .own 2 0 x25.length), ((0 + x20.2.1.toNat), .own 1 0 x28.length)] = some ((0 + x20.2.1.toNat), x28.length), (((x20.2.2.take x20.1 ++ [[]]).set x20.1 (List.replicate (p2.length : Int).toNat (0 : Int))).map (List.map (D.int .i64))).set (0 + x20.2.1.toNat) ((x28.map (D.int .i64)).take x28.length) = ((x20.2.2.take x20.1 ++ [[]]).set x20.1 (List.replicate (p2.length : Int).toNat (0 : Int))).map (List.map (D.int .i64)), brDel [((0 + (w64 (x20.2.1 + 1)).toNat), .own 2 0 x25.length), ((0 + x20.2.1.toNat), .own 1 0 x28.length)] (0 + x20.2.1.toNat) = [((0 + (w64 (x20.2.1 + 1)).toNat), .own 2 0 x25.length)], brHas 2 [((0 + (w64 (x20.2.1 + 1)).toNat), .own 2 0 x25.length)] [((0 + (w64 (x20.2.1 + 1)).toNat), .own 2 0 x25.length)] = some ((0 + (w64 (x20.2.1 + 1)).toNat), x25.length), (((x20.2.2.take x20.1 ++ [[]]).set x20.1 (List.replicate (p2.length : Int).toNat (0 : Int))).map (List.map (D.int .i64))).set (0 + (w64 (x20.2.1 + 1)).toNat) ((x29.map (D.int .i64)).take x25.length) = (((x20.2.2.take x20.1 ++ [[]]).set x20.1 (List.replicate (p2.length : Int).toNat (0 : Int))).set (0 + (w64 (x20.2.1 + 1)).toNat) (x29.take x25.length)).map (List.map (D.int .i64)), brDel [((0 + (w64 (x20.2.1 + 1)).toNat), .own 2 0 x25.length)] (0 + (w64 (x20.2.1 + 1)).toNat) = [], z1 = z1, z1 = z1, (0 : Int) ≤ x20.2.1 ∧ x20.2.1 < (((x20.1 + 1) : Nat) : Int), (0 : Int) ≤ (w64 (x20.2.1 + 1)) ∧ (w64 (x20.2.1 + 1)) < (((x20.1 + 1) : Nat) : Int), (((x20.2.2.take x20.1 ++ [[]]).set x20.1 (List.replicate (p2.length : Int).toNat (0 : Int))).map (List.map (D.int .i64))).getD (0 + (w64 (x20.2.1 + 1)).toNat) [] = x25.map (D.int .i64), (x25.map (D.int .i64)).length = x25.length, (0 + (w64 (x20.2.1 + 1)).toNat) ≠ (0 + x20.2.1.toNat), (((x20.2.2.take x20.1 ++ [[]]).set x20.1 (List.replicate (p2.length : Int).toNat (0 : Int))).map (List.map (D.int .i64))).getD (0 + x20.2.1.toNat) [] = x28.map (D.int .i64), (x28.map (D.int .i64)).length = x28.length, C_T_warp_fill k x25.length x28.length p1 p2 p3 x20.2.1 x25 x28 x29, brHas 2 [((0 + x20.2.1.toNat), .own 2 0 x28.length), ((0 + (w64 (x20.2.1 + 1)).toNat), .own 1 0 x25.length)] [((0 + x20.2.1.toNat), .own 2 0 x28.length), ((0 + (w64 (x20.2.1 + 1)).toNat), .own 1 0 x25.length)] = some ((0 + x20.2.1.toNat), x28.length), (((x20.2.2.take x20.1 ++ [[]]).set x20.1 (List.replicate (p2.length : Int).toNat (0 : Int))).map (List.map (D.int .i64))).set (0 + x20.2.1.toNat) ((x28.map (D.int .i64)).take x28.length) = ((x20.2.2.take x20.1 ++ [[]]).set x20.1 (List.replicate (p2.length : Int).toNat (0 : Int))).map (List.map (D.int .i64)), brDel [((0 + x20.2.1.toNat), .own 2 0 x28.length), ((0 + (w64 (x20.2.1 + 1)).toNat), .own 1 0 x25.length)] (0 + x20.2.1.toNat) = [((0 + (w64 (x20.2.1 + 1)).toNat), .own 1 0 x25.length)], brHas 1 [((0 + (w64 (x20.2.1 + 1)).toNat), .own 1 0 x25.length)] [((0 + (w64 (x20.2.1 + 1)).toNat), .own 1 0 x25.length)] = some ((0 + (w64 (x20.2.1 + 1)).toNat), x25.length), (((x20.2.2.take x20.1 ++ [[]]).set x20.1 (List.replicate (p2.length : Int).toNat (0 : Int))).map (List.map (D.int .i64))).set (0 + (w64 (x20.2.1 + 1)).toNat) ((x29.map (D.int .i64)).take x25.length) = (((x20.2.2.take x20.1 ++ [[]]).set x20.1 (List.replicate (p2.length : Int).toNat (0 : Int))).set (0 + (w64 (x20.2.1 + 1)).toNat) (x29.take x25.length)).map (List.map (D.int .i64)), brDel [((0 + (w64 (x20.2.1 + 1)).toNat), .own 1 0 x25.length)] (0 + (w64 (x20.2.1 + 1)).toNat) = [], (((x20.2.2.take x20.1 ++ [[]]).set x20.1 (List.replicate (p2.length : Int).toNat (0 : Int))).map (List.map (D.int .i64))).getD (0 + x20.2.1.toNat) [] = x28.map (D.int .i64), (x28.map (D.int .i64)).length = x28.length, (0 + x20.2.1.toNat) ≠ (0 + (w64 (x20.2.1 + 1)).toNat), (((x20.2.2.take x20.1 ++ [[]]).set x20.1 (List.replicate (p2.length : Int).toNat (0 : Int))).map (List.map (D.int .i64))).getD (0 + (w64 (x20.2.1 + 1)).toNat) [] = x25.map (D.int .i64), (x25.map (D.int .i64)).length = x25.length, C_T_warp_fill k x25.length x28.length p1 p2 p3 x20.2.1 x25 x28 x29, brHas 1 [((0 + (w64 (x20.2.1 + 1)).toNat), .own 2 0 x25.length), ((0 + x20.2.1.toNat), .own 1 0 x28.length)] [((0 + (w64 (x20.2.1 + 1)).toNat), .own 2 0 x25.length), ((0 + x20.2.1.toNat), .own 1 0 x28.length)] = some ((0 + x20.2.1.toNat), x28.length), (((x20.2.2.take x20.1 ++ [[]]).set x20.1 (List.replicate (p2.length : Int).toNat (0 : Int))).map (List.map (D.int .i64))).set (0 + x20.2.1.toNat) ((x28.map (D.int .i64)).take x28.length) = ((x20.2.2.take x20.1 ++ [[]]).set x20.1 (List.replicate (p2.length : Int).toNat (0 : Int))).map (List.map (D.int .i64)), brDel [((0 + (w64 (x20.2.1 + 1)).toNat), .own 2 0 x25.length), ((0 + x20.2.1.toNat), .own 1 0 x28.length)] (0 + x20.2.1.toNat) = [((0 + (w64 (x20.2.1 + 1)).toNat), .own 2 0 x25.length)], brHas 2 [((0 + (w64 (x20.2.1 + 1)).toNat), .own 2 0 x25.length)] [((0 + (w64 (x20.2.1 + 1)).toNat), .own 2 0 x25.length)] = some ((0 + (w64 (x20.2.1 + 1)).toNat), x25.length), (((x20.2.2.take x20.1 ++ [[]]).set x20.1 (List.replicate (p2.length : Int).toNat (0 : Int))).map (List.map (D.int .i64))).set (0 + (w64 (x20.2.1 + 1)).toNat) ((x29.map (D.int .i64)).take x25.length) = (((x20.2.2.take x20.1 ++ [[]]).set x20.1 (List.replicate (p2.length : Int).toNat (0 : Int))).set (0 + (w64 (x20.2.1 + 1)).toNat) (x29.take x25.length)).map (List.map (D.int .i64)), brDel [((0 + (w64 (x20.2.1 + 1)).toNat), .own 2 0 x25.length)] (0 + (w64 (x20.2.1 + 1)).toNat) = [], z1 = z1, (((x20.2.2.take x20.1 ++ [[]]).set x20.1 (List.replicate (p2.length : Int).toNat (0 : Int))).map (List.map (D.int .i64))).getD (0 + x20.2.1.toNat) [] = x28.map (D.int .i64), (x28.map (D.int .i64)).length = x28.length, (0 : Int) ≤ (w64 (x20.2.1 + 1)) ∧ (w64 (x20.2.1 + 1)) < (((x20.1 + 1) : Nat) : Int), (0 + x20.2.1.toNat) ≠ (0 + (w64 (x20.2.1 + 1)).toNat), (((x20.2.2.take x20.1 ++ [[]]).set x20.1 (List.replicate (p2.length : Int).toNat (0 : Int))).map (List.map (D.int .i64))).getD (0 + (w64 (x20.2.1 + 1)).toNat) [] = x25.map (D.int .i64), (x25.map (D.int .i64)).length = x25.length, C_T_warp_fill k x25.length x28.length p1 p2 p3 x20.2.1 x25 x28 x29, brHas 1 [((0 + (w64 (x20.2.1 + 1)).toNat), .own 2 0 x25.length), ((0 + x20.2.1.toNat), .own 1 0 x28.length)] [((0 + (w64 (x20.2.1 + 1)).toNat), .own 2 0 x25.length), ((0 + x20.2.1.toNat), .own 1 0 x28.length)] = some ((0 + x20.2.1.toNat), x28.length), (((x20.2.2.take x20.1 ++ [[]]).set x20.1 (List.replicate (p2.length : Int).toNat (0 : Int))).map (List.map (D.int .i64))).set (0 + x20.2.1.toNat) ((x28.map (D.int .i64)).take x28.length) = ((x20.2.2.take x20.1 ++ [[]]).set x20.1 (List.replicate (p2.length : Int).toNat (0 : Int))).map (List.map (D.int .i64)), brDel [((0 + (w64 (x20.2.1 + 1)).toNat), .own 2 0 x25.length), ((0 + x20.2.1.toNat), .own 1 0 x28.length)] (0 + x20.2.1.toNat) = [((0 + (w64 (x20.2.1 + 1)).toNat), .own 2 0 x25.length)], brHas 2 [((0 + (w64 (x20.2.1 + 1)).toNat), .own 2 0 x25.length)] [((0 + (w64 (x20.2.1 + 1)).toNat), .own 2 0 x25.length)] = some ((0 + (w64 (x20.2.1 + 1)).toNat), x25.length), (((x20.2.2.take x20.1 ++ [[]]).set x20.1 (List.replicate (p2.length : Int).toNat (0 : Int))).map (List.map (D.int .i64))).set (0 + (w64 (x20.2.1 + 1)).toNat) ((x29.map (D.int .i64)).take x25.length) = (((x20.2.2.take x20.1 ++ [[]]).set x20.1 (List.replicate (p2.length : Int).toNat (0 : Int))).set (0 + (w64 (x20.2.1 + 1)).toNat) (x29.take x25.length)).map (List.map (D.int .i64)), brDel [((0 + (w64 (x20.2.1 + 1)).toNat), .own 2 0 x25.length)] (0 + (w64 (x20.2.1 + 1)).toNat) = [], z1 = z1, z1 = z1]) (⟨[(0, (LI p1)), (1, (LI p2)), (2, (I p3)), (9, (.one (.own 0 0 (x20.1 + 1)))), (29, (I x8)), (30, (I x20.2.1))], [.rows (.int .i64 0) ((((x20.2.2.take x20.1 ++ [[]]).set x20.1 (List.replicate (p2.length : Int).toNat (0 : Int))).set (0 + (w64 (x20.2.1 + 1)).toNat) (x29.take x25.length)).map (List.map (D.int .i64))) []]⟩)) (by kernel_rfl) (AC hx24 (AC (rg_ok hx25 (D.int .i64)) (AC (List.length_map _) (AC hx26 (AC hx27 (AC (rg_ok hx28 (D.int .i64)) (AC (List.length_map _) (AC (T_warp_fill_ok k x25.length x28.length p1 p2 p3 x20.2.1 x25 x28 x29 hx29) (AC bh_1 (AC (bk_same (D.int .i64) hx28) (AC (bd_2 hx27) (AC bh_1 (AC (bk_map (D.int .i64) ((x20.2.2.take x20.1 ++ [[]]).set x20.1 (List.replicate (p2.length : Int).toNat (0 : Int))) (0 + (w64 (x20.2.1 + 1)).toNat) x29 x25.length) (AC bd_1 (AC hx26 (AC (rg_ok hx25 (D.int .i64)) (AC (List.length_map _) (AC hx27 (AC (rg_ok hx28 (D.int .i64)) (AC (List.length_map _) (AC (T_warp_fill_ok k x25.length x28.length p1 p2 p3 x20.2.1 x25 x28 x29 hx29) (AC bh_1 (AC (bk_same (D.int .i64) hx28) (AC (bd_2 hx27) (AC bh_1 (AC (bk_map (D.int .i64) ((x20.2.2.take x20.1 ++ [[]]).set x20.1 (List.replicate (p2.length : Int).toNat (0 : Int))) (0 + (w64 (x20.2.1 + 1)).toNat) x29 x25.length) (AC bd_1 (AC (rg_ok hx28 (D.int .i64)) (AC (List.length_map _) (AC (Ne.symm hx27) (AC (rg_ok hx25 (D.int .i64)) (AC (List.length_map _) (AC (T_warp_fill_ok k x25.length x28.length p1 p2 p3 x20.2.1 x25 x28 x29 hx29) (AC (bh_2 hx27 (by decide)) (AC (bk_same (D.int .i64) hx28) (AC (bd_3 hx27) (AC bh_1 (AC (bk_map (D.int .i64) ((x20.2.2.take x20.1 ++ [[]]).set x20.1 (List.replicate (p2.length : Int).toNat (0 : Int))) (0 + (w64 (x20.2.1 + 1)).toNat) x29 x25.length) (AC bd_1 (AC rfl (AC rfl (AC hx26 (AC hx24 (AC (rg_ok hx25 (D.int .i64)) (AC (List.length_map _) (AC hx27 (AC (rg_ok hx28 (D.int .i64)) (AC (List.length_map _) (AC (T_warp_fill_ok k x25.length x28.length p1 p2 p3 x20.2.1 x25 x28 x29 hx29) (AC bh_1 (AC (bk_same (D.int .i64) hx28) (AC (bd_2 hx27) (AC bh_1 (AC (bk_map (D.int .i64) ((x20.2.2.take x20.1 ++ [[]]).set x20.1 (List.replicate (p2.length : Int).toNat (0 : Int))) (0 + (w64 (x20.2.1 + 1)).toNat) x29 x25.length) (AC bd_1 (AC (rg_ok hx28 (D.int .i64)) (AC (List.length_map _) (AC (Ne.symm hx27) (AC (rg_ok hx25 (D.int .i64)) (AC (List.length_map _) (AC (T_warp_fill_ok k x25.length x28.length p1 p2 p3 x20.2.1 x25 x28 x29 hx29) (AC (bh_2 hx27 (by decide)) (AC (bk_same (D.int .i64) hx28) (AC (bd_3 hx27) (AC bh_1 (AC (bk_map (D.int .i64) ((x20.2.2.take x20.1 ++ [[]]).set x20.1 (List.replicate (p2.length : Int).toNat (0 : Int))) (0 + (w64 (x20.2.1 + 1)).toNat) x29 x25.length) (AC bd_1 (AC rfl (AC (rg_ok hx28 (D.int .i64)) (AC (List.length_map _) (AC hx24 (AC (Ne.symm hx27) (AC (rg_ok hx25 (D.int .i64)) (AC (List.length_map _) (AC (T_warp_fill_ok k x25.length x28.length p1 p2 p3 x20.2.1 x25 x28 x29 hx29) (AC (bh_2 hx27 (by decide)) (AC (bk_same (D.int .i64) hx28) (AC (bd_3 hx27) (AC bh_1 (AC (bk_map (D.int .i64) ((x20.2.2.take x20.1 ++ [[]]).set x20.1 (List.replicate (p2.length : Int).toNat (0 : Int))) (0 + (w64 (x20.2.1 + 1)).toNat) x29 x25.length) (AC bd_1 (AC rfl (A1 rfl))))))))))))))))))))))))))))))))))))))))))))))))))))))))))))))))))))))))))))))))))) ?_
   refine K_blk (K_r [] [] (by kernel_rfl) trivial ?_)
   cases H
   exact K_end (by kernel_rfl)
 · refine K_f (by kernel_rfl) (decide_eq_false hx21) ?_
   refine K_g (by kernel_rfl) ?_
   cases H
   exact K_exit0 rfl (by kernel_rfl)
def T_warp_Path_l2 (k : Nat) (x32 : Nat) (x33 : Nat) (x35 : List (List Int)) (x90 : Nat) (x92 : List (Int × Int)) (x93 : Int) (x96 : Int) (x97 : Int) (x98 : List (Int × Int)) (x116 : Int × Int × Int × Int) : Option ((Int × Int × Int × Int) ⊕ ((Int × Int))) :=
 (if x116.2.1 < x93 then ((at? x92 x116.2.1).bind fun x118 => ((if 0 ≤ x118.1 then (if 0 ≤ x118.2 then (if (0 : Int) ≤ x118.1 ∧ x118.1 < ((x33 : Nat) : Int) then (x35[(x32 + x118.1.toNat)]?).bind fun x122 => (if (0 : Int) ≤ x118.2 ∧ x118.2 < ((x122.length : Nat) : Int) then (x122[(0 + x118.2.toNat)]?).bind fun x124 => some (decide (x124 < x116.1)) else none) else none) else some false) else some false)).bind fun x125 => ((if x125 = true then (if (0 : Int) ≤ x118.1 ∧ x118.1 < ((x33 : Nat) : Int) then (x35[(x32 + x118.1.toNat)]?).bind fun x128 => (if (0 : Int) ≤ x118.2 ∧ x118.2 < ((x128.length : Nat) : Int) then (x128[(0 + x118.2.toNat)]?).bind fun x130 => some (x130, x118.1, x118.2) else none) else none) else some (x116.1, x116.2.2.1, x116.2.2.2))).bind fun x131 => some (.inl (x131.1, (w64 (x116.2.1 + 1)), x131.2.1, x131.2.2))) else some (.inr (x116.2.2.1, x116.2.2.2)))
theorem T_warp_Path_l2_ok (k : Nat) (x32 : Nat) (x33 : Nat) (x35 : List (List Int)) (x90 : Nat) (x92 : List (Int × Int)) (x93 : Int) (x96 : Int) (x97 : Int) (x98 : List (Int × Int)) : ∀ (x116 : Int × Int × Int × Int) (x : (Int × Int × Int × Int) ⊕ ((Int × Int))), T_warp_Path_l2 k x32 x33 x35 x90 x92 x93 x96 x97 x98 x116 = some x → evC X (evF X k) k 0 l_warp_Path_2 ⟨[(9, (.one (.own 0 x32 x33))), (11, (Pt 1)), (12, (.one (.own 2 0 x90))), (13, (Pt 3)), (14, (I x116.1)), (88, (.one (.d (.list (x92.map e_st0))))), (89, (I x93)), (90, (I x116.2.1))], [.rows (.int .i64 0) (x35.map (List.map (D.int .i64))) [], .cells [cI x96, cI x97], .vals (.agg [(.int .i64 0), (.int .i64 0)]) (x98.map e_st0), .cells [cI x116.2.2.1, cI x116.2.2.2]]⟩ = some (outS (fun (s : Int × Int × Int × Int) => ⟨[(9, (.one (.own 0 x32 x33))), (11, (Pt 1)), (12, (.one (.own 2 0 x90))), (13, (Pt 3)), (14, (I s.1)), (88, (.one (.d (.list (x92.map e_st0))))), (89, (I x93)), (90, (I s.2.1))], [.rows (.int .i64 0) (x35.map (List.map (D.int .i64))) [], .cells [cI x96, cI x97], .vals (.agg [(.int .i64 0), (.int .i64 0)]) (x98.map e_st0), .cells [cI s.2.2.1, cI s.2.2.2]]⟩) (fun (r : (Int × Int)) => (.exit 4, ⟨[(9, (.one (.own 0 x32 x33))), (11, (Pt 1)), (12, (.one (.own 2 0 x90))), (13, (Pt 3))], [.rows (.int .i64 0) (x35.map (List.map (D.int .i64))) [], .cells [cI x96, cI x97], .vals (.agg [(.int .i64 0), (.int .i64 0)]) (x98.map e_st0), .cells [cI r.1, cI r.2]]⟩)) x) := by
 intro x116 x H
 unfold T_warp_Path_l2 at H
 refine K_in ?_
 refine K_seq (K_r [] [] (by kernel_rfl) trivial ?_)
 refine K_seq ?_
 rcases ite_some H with ⟨hx117, H⟩ | ⟨hx117, H⟩
 · refine K_t (by kernel_rfl) (decide_eq_true hx117) ?_
   refine K_g (by kernel_rfl) ?_
   refine K_skip ?_
   refine K_seq ?_
   refine K_block ?_
   refine K_seq ?_
   obtain ⟨x118, hx118, H⟩ := bind_some' H
   refine K_r [.l [.int .i64 x118.1, .int .i64 x118.2]] [(0 : Int) ≤ x116.2.1 ∧ x116.2.1 < (((x92.map e_st0)).length : Int), ((x92.map e_st0).getD x116.2.1.toNat (.agg [(.int .i64 0), (.int .i64 0)])).cells = [.int .i64 x118.1, .int .i64 x118.2]] (by kernel_rfl) (AC (at_ok hx118 e_st0 (.agg [(.int .i64 0), (.int .i64 0)])).1 (A1 (at_ok hx118 e_st0 (.agg [(.int .i64 0), (.int .i64 0)])).2)) ?_
   refine K_seq ?_
   obtain ⟨x125, hx125, H⟩ := bind_some' H
   refine K_of ⟨[(9, (.one (.own 0 x32 x33))), (11, (Pt 1)), (12, (.one (.own 2 0 x90))), (13, (Pt 3)), (14, (I x116.1)), (16, (Pt 4)), (88, (.one (.d (.list (x92.map e_st0))))), (89, (I x93)), (90, (I x116.2.1)), (114, (B x125))], [.rows (.int .i64 0) (x35.map (List.map (D.int .i64))) [], .cells [cI x96, cI x97], .vals (.agg [(.int .i64 0), (.int .i64 0)]) (x98.map e_st0), .cells [cI x116.2.2.1, cI x116.2.2.2], .cells [cI x118.1, cI x118.2]]⟩ ?_ ?_
   · clear H; have H := hx125; clear hx125; refine K_in ?_
     rcases ite_some H with ⟨hx119, H⟩ | ⟨hx119, H⟩
     · rcases ite_some H with ⟨hx120, H⟩ | ⟨hx120, H⟩
       · obtain ⟨hx121, H⟩ := guard_some H
         obtain ⟨x122, hx122, H⟩ := bind_some' H
         obtain ⟨hx123, H⟩ := guard_some H
         obtain ⟨x124, hx124, H⟩ := bind_some' H
         refine K_rD [.b true, .b true, .b true, .b true, .b true, .b true, .b true, .b true, .b true, .b true, .b true, .n 0, .l (x122.map (D.int .i64)), .n x122.length, .b true, .b true, .b true, .l [.int .i64 x124], .b true, .b true, .n (x32 + x118.1.toNat), .n x122.length, .ll (x35.map (List.map (D.int .i64))), .br [], .b true, .b true, .n 0, .l (x122.map (D.int .i64)), .n x122.length, .b true, .b true, .l [.int .i64 x124], .b true, .b true, .n (x32 + x118.1.toNat), .n x122.length, .ll (x35.map (List.map (D.int .i64))), .br [], .b true, .b true, .b true, .n 0, .l (x122.map (D.int .i64)), .n x122.length, .b true, .b true, .l [.int .i64 x124], .b true, .b true, .n (x32 + x118.1.toNat), .n x122.length, .ll (x35.map (List.map (D.int .i64))), .br [], .b true, .b true, .b true, .b true, .n 0, .l (x122.map (D.int .i64)), .n x122.length, .b true, .b true, .l [.int .i64 x124], .b true, .b true, .n (x32 + x118.1.toNat), .n x122.length, .ll (x35.map (List.map (D.int .i64))), .br []] ((fun (z1 : St) => [decide (0 ≤ x118.1) = true, decide (0 ≤ x118.1) = true, decide (0 ≤ x118.1) = true, decide (0 ≤ x118.1) = true, decide (0 ≤ x118.2) = true, decide (0 ≤ x118.2) = true, decide (0 ≤ x118.2) = true, decide (0 ≤ x118.2) = true, decide (0 ≤ x118.2) = true, decide (0 ≤ x118.2) = true, (0 : Int) ≤ x118.1 ∧ x118.1 < ((x33 : Nat) : Int), decide (0 ≤ x118.2) = true, (x35.map (List.map (D.int .i64))).getD (x32 + x118.1.toNat) [] = x122.map (D.int .i64), (x122.map (D.int .i64)).length = x122.length, decide (0 ≤ x118.2) = true, decide (0 ≤ x118.2) = true, (0 : Int) ≤ x118.2 ∧ x118.2 < ((x122.length : Nat) : Int), decide (0 ≤ x118.2) = true, ((x122.map (D.int .i64)).getD (0 + x118.2.toNat) (.int .i64 0)).cells = [.int .i64 x124], decide (0 ≤ x118.2) = true, decide (0 ≤ x118.2) = true, brHas 5 [((x32 + x118.1.toNat), .own 5 0 x122.length)] [((x32 + x118.1.toNat), .own 5 0 x122.length)] = some ((x32 + x118.1.toNat), x122.length), (x35.map (List.map (D.int .i64))).set (x32 + x118.1.toNat) ((x122.map (D.int .i64)).take x122.length) = x35.map (List.map (D.int .i64)), brDel [((x32 + x118.1.toNat), .own 5 0 x122.length)] (x32 + x118.1.toNat) = [], decide (0 ≤ x118.2) = true, decide (0 ≤ x118.2) = true, (x35.map (List.map (D.int .i64))).getD (x32 + x118.1.toNat) [] = x122.map (D.int .i64), (x122.map (D.int .i64)).length = x122.length, decide (0 ≤ x118.2) = true, (0 : Int) ≤ x118.2 ∧ x118.2 < ((x122.length : Nat) : Int), decide (0 ≤ x118.2) = true, ((x122.map (D.int .i64)).getD (0 + x118.2.toNat) (.int .i64 0)).cells = [.int .i64 x124], decide (0 ≤ x118.2) = true, decide (0 ≤ x118.2) = true, brHas 5 [((x32 + x118.1.toNat), .own 5 0 x122.length)] [((x32 + x118.1.toNat), .own 5 0 x122.length)] = some ((x32 + x118.1.toNat), x122.length), (x35.map (List.map (D.int .i64))).set (x32 + x118.1.toNat) ((x122.map (D.int .i64)).take x122.length) = x35.map (List.map (D.int .i64)), brDel [((x32 + x118.1.toNat), .own 5 0 x122.length)] (x32 + x118.1.toNat) = [], z1 = z1, decide (0 ≤ x118.2) = true, decide (0 ≤ x118.2) = true, (0 : Int) ≤ x118.1 ∧ x118.1 < ((x33 : Nat) : Int), decide (0 ≤ x118.2) = true, (x35.map (List.map (D.int .i64))).getD (x32 + x118.1.toNat) [] = x122.map (D.int .i64), (x122.map (D.int .i64)).length = x122.length, decide (0 ≤ x118.2) = true, (0 : Int) ≤ x118.2 ∧ x118.2 < ((x122.length : Nat) : Int), decide (0 ≤ x118.2) = true, ((x122.map (D.int .i64)).getD (0 + x118.2.toNat) (.int .i64 0)).cells = [.int .i64 x124], decide (0 ≤ x118.2) = true, decide (0 ≤ x118.2) = true, brHas 5 [((x32 + x118.1.toNat), .own 5 0 x122.length)] [((x32 + x118.1.toNat), .own 5 0 x122.length)] = some ((x32 + x118.1.toNat), x122.length), (x35.map (List.map (D.int .i64))).set (x32 + x118.1.toNat) ((x122.map (D.int .i64)).take x122.length) = x35.map (List.map (D.int .i64)), brDel [((x32 + x118.1.toNat), .own 5 0 x122.length)] (x32 + x118.1.toNat) = [], z1 = z1, decide (0 ≤ x118.2) = true, decide (0 ≤ x118.2) = true, decide (0 ≤ x118.2) = true, (0 : Int) ≤ x118.1 ∧ x118.1 < ((x33 : Nat) : Int), decide (0 ≤ x118.2) = true, (x35.map (List.map (D.int .i64))).getD (x32 + x118.1.toNat) [] = x122.map (D.int .i64), (x122.map (D.int .i64)).length = x122.length, decide (0 ≤ x118.2) = true, (0 : Int) ≤ x118.2 ∧ x118.2 < ((x122.length : Nat) : Int), decide (0 ≤ x118.2) = true, ((x122.map (D.int .i64)).getD (0 + x118.2.toNat) (.int .i64 0)).cells = [.int .i64 x124], decide (0 ≤ x118.2) = true, decide (0 ≤ x118.2) = true, brHas 5 [((x32 + x118.1.toNat), .own 5 0 x122.length)] [((x32 + x118.1.toNat), .own 5 0 x122.length)] = some ((x32 + x118.1.toNat), x122.length), (x35.map (List.map (D.int .i64))).set (x32 + x118.1.toNat) ((x122.map (D.int .i64)).take x122.length) = x35.map (List.map (D.int .i64)), brDel [((x32 + x118.1.toNat), .own 5 0 x122.length)] (x32 + x118.1.toNat) = [], z1 = z1]) (⟨[(9, (.one (.own 0 x32 x33))), (11, (Pt 1)), (12, (.one (.own 2 0 x90))), (13, (Pt 3)), (14, (I x116.1)), (16, (Pt 4)), (88, (.one (.d (.list (x92.map e_st0))))), (89, (I x93)), (90, (I x116.2.1)), (114, (B (decide (x124 < x116.1))))], [.rows (.int .i64 0) (x35.map (List.map (D.int .i64))) [], .cells [cI x96, cI x97], .vals (.agg [(.int .i64 0), (.int .i64 0)]) (x98.map e_st0), .cells [cI x116.2.2.1, cI x116.2.2.2], .cells [cI x118.1, cI x118.2]]⟩)) (by kernel_rfl) (AC (decide_eq_true hx119) (AC (decide_eq_true hx119) (AC (decide_eq_true hx119) (AC (decide_eq_true hx119) (AC (decide_eq_true hx120) (AC (decide_eq_true hx120) (AC (decide_eq_true hx120) (AC (decide_eq_true hx120) (AC (decide_eq_true hx120) (AC (decide_eq_true hx120) (AC hx121 (AC (decide_eq_true hx120) (AC (rg_ok hx122 (D.int .i64)) (AC (List.length_map _) (AC (decide_eq_true hx120) (AC (decide_eq_true hx120) (AC hx123 (AC (decide_eq_true hx120) (AC (ld_ok hx124 (D.int .i64) (.int .i64 0)) (AC (decide_eq_true hx120) (AC (decide_eq_true hx120) (AC bh_1 (AC (bk_same (D.int .i64) hx122) (AC bd_1 (AC (decide_eq_true hx120) (AC (decide_eq_true hx120) (AC (rg_ok hx122 (D.int .i64)) (AC (List.length_map _) (AC (decide_eq_true hx120) (AC hx123 (AC (decide_eq_true hx120) (AC (ld_ok hx124 (D.int .i64) (.int .i64 0)) (AC (decide_eq_true hx120) (AC (decide_eq_true hx120) (AC bh_1 (AC (bk_same (D.int .i64) hx122) (AC bd_1 (AC rfl (AC (decide_eq_true hx120) (AC (decide_eq_true hx120) (AC hx121 (AC (decide_eq_true hx120) (AC (rg_ok hx122 (D.int .i64)) (AC (List.length_map _) (AC (decide_eq_true hx120) (AC hx123 (AC (decide_eq_true hx120) (AC (ld_ok hx124 (D.int .i64) (.int .i64 0)) (AC (decide_eq_true hx120) (AC (decide_eq_true hx120) (AC bh_1 (AC (bk_same (D.int .i64) hx122) (AC bd_1 (AC rfl (AC (decide_eq_true hx120) (AC (decide_eq_true hx120) (AC (decide_eq_true hx120) (AC hx121 (AC (decide_eq_true hx120) (AC (rg_ok hx122 (D.int .i64)) (AC (List.length_map _) (AC (decide_eq_true hx120) (AC hx123 (AC (decide_eq_true hx120) (AC (ld_ok hx124 (D.int .i64) (.int .i64 0)) (AC (decide_eq_true hx120) (AC (decide_eq_true hx120) (AC bh_1 (AC (bk_same (D.int .i64) hx122) (AC bd_1 (A1 rfl))))))))))))))))))))))))))))))))))))))))))))))))))))))))))))))))))))))) ?_
         cases H
         exact K_end (by kernel_rfl)
       · refine K_rD [.b true, .b true, .b true, .b true, .b false, .b false, .b false, .b false, .b false, .b false, .b false, .b false, .b false, .b false, .b false, .b false, .b false, .b false, .b false, .b false, .b false, .b false, .b false, .b false, .b false, .b false, .b false, .b false, .b false, .b false, .b false, .b false, .b false, .b false, .b false, .b false, .b false] ((fun (z1 : St) => [decide (0 ≤ x118.1) = true, decide (0 ≤ x118.1) = true, decide (0 ≤ x118.1) = true, decide (0 ≤ x118.1) = true, decide (0 ≤ x118.2) = false, decide (0 ≤ x118.2) = false, decide (0 ≤ x118.2) = false, decide (0 ≤ x118.2) = false, decide (0 ≤ x118.2) = false, decide (0 ≤ x118.2) = false, decide (0 ≤ x118.2) = false, decide (0 ≤ x118.2) = false, decide (0 ≤ x118.2) = false, decide (0 ≤ x118.2) = false, decide (0 ≤ x118.2) = false, decide (0 ≤ x118.2) = false, decide (0 ≤ x118.2) = false, decide (0 ≤ x118.2) = false, decide (0 ≤ x118.2) = false, decide (0 ≤ x118.2) = false, decide (0 ≤ x118.2) = false, decide (0 ≤ x118.2) = false, z1 = z1, decide (0 ≤ x118.2) = false, decide (0 ≤ x118.2) = false, decide (0 ≤ x118.2) = false, decide (0 ≤ x118.2) = false, decide (0 ≤ x118.2) = false, decide (0 ≤ x118.2) = false, decide (0 ≤ x118.2) = false, z1 = z1, decide (0 ≤ x118.2) = false, decide (0 ≤ x118.2) = false, decide (0 ≤ x118.2) = false, decide (0 ≤ x118.2) = false, decide (0 ≤ x118.2) = false, decide (0 ≤ x118.2) = false, decide (0 ≤ x118.2) = false, decide (0 ≤ x118.2) = false, z1 = z1]) (⟨[(9, (.one (.own 0 x32 x33))), (11, (Pt 1)), (12, (.one (.own 2 0 x90))), (13, (Pt 3)), (14, (I x116.1)), (16, (Pt 4)), (88, (.one (.d (.list (x92.map e_st0))))), (89, (I x93)), (90, (I x116.2.1)), (114, (B false))], [.rows (.int .i64 0) (x35.map (List.map (D.int .i64))) [], .cells [cI x96, cI x97], .vals (.agg [(.int .i64 0), (.int .i64 0)]) (x98.map e_st0), .cells [cI x116.2.2.1, cI x116.2.2.2], .cells [cI x118.1, cI x118.2]]⟩)) (by kernel_rfl) (AC (decide_eq_true hx119) (AC (decide_eq_true hx119) (AC (decide_eq_true hx119) (AC (decide_eq_true hx119) (AC (decide_eq_false hx120) (AC (decide_eq_false hx120) (AC (decide_eq_false hx120) (AC (decide_eq_false hx120) (AC (decide_eq_false hx120) (AC (decide_eq_false hx120) (AC (decide_eq_false hx120) (AC (decide_eq_false hx120) (AC (decide_eq_false hx120) (AC (decide_eq_false hx120) (AC (decide_eq_false hx120) (AC (decide_eq_false hx120) (AC (decide_eq_false hx120) (AC (decide_eq_false hx120) (AC (decide_eq_false hx120) (AC (decide_eq_false hx120) (AC (decide_eq_false hx120) (AC (decide_eq_false hx120) (AC rfl (AC (decide_eq_false hx120) (AC (decide_eq_false hx120) (AC (decide_eq_false hx120) (AC (decide_eq_false hx120) (AC (decide_eq_false hx120) (AC (decide_eq_false hx120) (AC (decide_eq_false hx120) (AC rfl (AC (decide_eq_false hx120) (AC (decide_eq_false hx120) (AC (decide_eq_false hx120) (AC (decide_eq_false hx120) (AC (decide_eq_false hx120) (AC (decide_eq_false hx120) (AC (decide_eq_false hx120) (AC (decide_eq_false hx120) (A1 rfl)))))))))))))))))))))))))))))))))))))))) ?_
         cases H
         exact K_end (by kernel_rfl)
     · refine K_rD [.b false, .b false, .b false, .b false, .b false, .b false, .b false, .b false, .b false, .b false, .b false, .b false, .b false, .b false, .b false, .b false, .b false, .b false, .b false, .b false, .b false, .b false, .b false, .b false, .b false, .b false, .b false, .b false, .b false, .b false, .b false, .b false, .b false, .b false, .b false, .b false, .b false] ((fun (z1 : St) => [decide (0 ≤ x118.1) = false, decide (0 ≤ x118.1) = false, decide (0 ≤ x118.1) = false, decide (0 ≤ x118.1) = false, false = false, false = false, false = false, false = false, false = false, false = false, false = false, false = false, false = false, false = false, false = false, false = false, false = false, false = false, false = false, false = false, false = false, false = false, z1 = z1, false = false, false = false, false = false, false = false, false = false, false = false, false = false, z1 = z1, false = false, false = false, false = false, false = false, false = false, false = false, false = false, false = false, z1 = z1]) (⟨[(9, (.one (.own 0 x32 x33))), (11, (Pt 1)), (12, (.one (.own 2 0 x90))), (13, (Pt 3)), (14, (I x116.1)), (16, (Pt 4)), (88, (.one (.d (.list (x92.map e_st0))))), (89, (I x93)), (90, (I x116.2.1)), (114, (B false))], [.rows (.int .i64 0) (x35.map (List.map (D.int .i64))) [], .cells [cI x96, cI x97], .vals (.agg [(.int .i64 0), (.int .i64 0)]) (x98.map e_st0), .cells [cI x116.2.2.1, cI x116.2.2.2], .cells [cI x118.1, cI x118.2]]⟩)) (by kernel_rfl) (AC (decide_eq_false hx119) (AC (decide_eq_false hx119) (AC (decide_eq_false hx119) (AC (decide_eq_false hx119) (AC rfl (AC rfl (AC rfl (AC rfl (AC rfl (AC rfl (AC rfl (AC rfl (AC rfl (AC rfl (AC rfl (AC rfl (AC rfl (AC rfl (AC rfl (AC rfl (AC rfl (AC rfl (AC rfl (AC rfl (AC rfl (AC rfl (AC rfl (AC rfl (AC rfl (AC rfl (AC rfl (AC rfl (AC rfl (AC rfl (AC rfl (AC rfl (AC rfl (AC rfl (AC rfl (A1 rfl)))))))))))))))))))))))))))))))))))))))) ?_
       cases H
       exact K_end (by kernel_rfl)
   obtain ⟨x131, hx131, H⟩ := bind_some' H
   refine K_of ⟨[(9, (.one (.own 0 x32 x33))), (11, (Pt 1)), (12, (.one (.own 2 0 x90))), (13, (Pt 3)), (14, (I x131.1)), (88, (.one (.d (.list (x92.map e_st0))))), (89, (I x93)), (90, (I x116.2.1))], [.rows (.int .i64 0) (x35.map (List.map (D.int .i64))) [], .cells [cI x96, cI x97], .vals (.agg [(.int .i64 0), (.int .i64 0)]) (x98.map e_st0), .cells [cI x131.2.1, cI x131.2.2]]⟩ ?_ ?_
   · clear H; have H := hx131; clear hx131; refine K_in ?_
     rcases ite_some H with ⟨hx126, H⟩ | ⟨hx126, H⟩
     · refine K_t (by kernel_rfl) hx126 ?_
       obtain ⟨hx127, H⟩ := guard_some H
       obtain ⟨x128, hx128, H⟩ := bind_some' H
       obtain ⟨hx129, H⟩ := guard_some H
       obtain ⟨x130, hx130, H⟩ := bind_some' H
       refine K_rD [.n 0, .l (x128.map (D.int .i64)), .n x128.length, .l [.int .i64 x130], .n (x32 + x118.1.toNat), .n x128.length, .ll (x35.map (List.map (D.int .i64))), .br [], .l [.int .i64 x130], .n (x32 + x118.1.toNat), .n x128.length, .ll (x35.map (List.map (D.int .i64))), .br [], .l [.int .i64 x130], .n (x32 + x118.1.toNat), .n x128.length, .ll (x35.map (List.map (D.int .i64))), .br [], .l [.int .i64 x130], .n (x32 + x118.1.toNat), .n x128.length, .ll (x35.map (List.map (D.int .i64))), .br [], .n 0, .l (x128.map (D.int .i64)), .n x128.length, .l [.int .i64 x130], .n (x32 + x118.1.toNat), .n x128.length, .ll (x35.map (List.map (D.int .i64))), .br [], .l [.int .i64 x130], .n (x32 + x118.1.toNat), .n x128.length, .ll (x35.map (List.map (D.int .i64))), .br [], .l [.int .i64 x130], .n (x32 + x118.1.toNat), .n x128.length, .ll (x35.map (List.map (D.int .i64))), .br [], .n 0, .l (x128.map (D.int .i64)), .n x128.length, .l [.int .i64 x130], .n (x32 + x118.1.toNat), .n x128.length, .ll (x35.map (List.map (D.int .i64))), .br [], .n 0, .l (x128.map (D.int .i64)), .n x128.length, .l [.int .i64 x130], .n (x32 + x118.1.toNat), .n x128.length, .ll (x35.map (List.map (D.int .i64))), .br [], .n 0, .l (x128.map (D.int .i64)), .n x128.length, .l [.int .i64 x130], .n (x32 + x118.1.toNat), .n x128.length, .ll (x35.map (List.map (D.int .i64))), .br [], .n 0, .l (x128.map (D.int .i64)), .n x128.length, .l [.int .i64 x130], .n (x32 + x118.1.toNat), .n x128.length, .ll (x35.map (List.map (D.int .i64))), .br [], .l [.int .i64 x130], .n (x32 + x118.1.toNat), .n x128.length, .ll (x35.map (List.map (D.int .i64))), .br [], .l [.int .i64 x130], .n (x32 + x118.1.toNat), .n x128.length, .ll (x35.map (List.map (D.int .i64))), .br [], .n 0, .l (x128.map (D.int .i64)), .n x128.length, .l [.int .i64 x130], .n (x32 + x118.1.toNat), .n x128.length, .ll (x35.map (List.map (D.int .i64))), .br [], .n 0, .l (x128.map (D.int .i64)), .n x128.length, .l [.int .i64 x130], .n (x32 + x118.1.toNat), .n x128.length, .ll (x35.map (List.map (D.int .i64))), .br [], .n 0, .l (x128.map (D.int .i64)), .n x128.length, .l [.int .i64 x130], .n (x32 + x118.1.toNat), .n x128.length, .ll (x35.map (List.map (D.int .i64))), .br [], .n 0, .l (x128.map (D.int .i64)), .n x128.length, .l [.int .i64 x130], .n (x32 + x118.1.toNat), .n x128.length, .ll (x35.map (List.map (D.int .i64))), .br [], .n 0, .l (x128.map (D.int .i64)), .n x128.length, .l [.int .i64 x130], .n (x32 + x118.1.toNat), .n x128.length, .ll (x35.map (List.map (D.int .i64))), .br [], .n 0, .l (x128.map (D.int .i64)), .n x128.length, .l [.int .i64 x130], .n (x32 + x118.1.toNat), .n x128.length, .ll (x35.map (List.map (D.int .i64))), .br [], .l [.int .i64 x130], .n (x32 + x118.1.toNat), .n x128.length, .ll (x35.map (List.map (D.int .i64))), .br [], .l [.int .i64 x130], .n (x32 + x118.1.toNat), .n x128.length, .ll (x35.map (List.map (D.int .i64))), .br [], .n 0, .l (x128.map (D.int .i64)), .n x128.length, .l [.int .i64 x130], .n (x32 + x118.1.toNat), .n x128.length, .ll (x35.map (List.map (D.int .i64))), .br [], .n 0, .l (x128.map (D.int .i64)), .n x128.length, .l [.int .i64 x130], .n (x32 + x118.1.toNat), .n x128.length, .ll (x35.map (List.map (D.int .i64))), .br [], .n 0, .l (x128.map (D.int .i64)), .n x128.length, .l [.int .i64 x130], .n (x32 + x118.1.toNat), .n x128.length, .ll (x35.map (List.map (D.int .i64))), .br [], .n 0, .l (x128.map (D.int .i64)), .n x128.length, .l [.int .i64 x130], .n (x32 + x118.1.toNat), .n x128.length, .ll (x35.map (List.map (D.int .i64))), .br [], .n 0, .l (x128.map (D.int .i64)), .n x128.length, .l [.int .i64 x130], .n (x32 + x118.1.toNat), .n x128.length, .ll (x35.map (List.map (D.int .i64))), .br [], .n 0, .l (x128.map (D.int .i64)), .n x128.length, .l [.int .i64 x130], .n (x32 + x118.1.toNat), .n x128.length, .ll (x35.map (List.map (D.int .i64))), .br [], .n 0, .l (x128.map (D.int .i64)), .n x128.length, .l [.int .i64 x130], .n (x32 + x118.1.toNat), .n x128.length, .ll (x35.map (List.map (D.int .i64))), .br [], .n 0, .l (x128.map (D.int .i64)), .n x128.length, .l [.int .i64 x130], .n (x32 + x118.1.toNat), .n x128.length, .ll (x35.map (List.map (D.int .i64))), .br [], .l [.int .i64 x130], .n (x32 + x118.1.toNat), .n x128.length, .ll (x35.map (List.map (D.int .i64))), .br [], .l [.int .i64 x130], .n (x32 + x118.1.toNat), .n x128.length, .ll (x35.map (List.map (D.int .i64))), .br [], .l [.int .i64 x130], .n (x32 + x118.1.toNat), .n x128.length, .ll (x35.map (List.map (D.int .i64))), .br [], .n 0, .l (x128.map (D.int .i64)), .n x128.length, .l [.int .i64 x130], .n (x32 + x118.1.toNat), .n x128.length, .ll (x35.map (List.map (D.int .i64))), .br [], .l [.int .i64 x130], .n (x32 + x118.1.toNat), .n x128.length, .ll (x35.map (List.map (D.int .i64))), .br [], .l [.int .i64 x130], .n (x32 + x118.1.toNat), .n x128.length, .ll (x35.map (List.map (D.int .i64))), .br [], .n 0, .l (x128.map (D.int .i64)), .n x128.length, .l [.int .i64 x130], .n (x32 + x118.1.toNat), .n x128.length, .ll (x35.map (List.map (D.int .i64))), .br [], .n 0, .l (x128.map (D.int .i64)), .n x128.length, .l [.int .i64 x130], .n (x32 + x118.1.toNat), .n x128.length, .ll (x35.map (List.map (D.int .i64))), .br [], .n 0, .l (x128.map (D.int .i64)), .n x128.length, .l [.int .i64 x130], .n (x32 + x118.1.toNat), .n x128.length, .ll (x35.map (List.map (D.int .i64))), .br [], .n 0, .l (x128.map (D.int .i64)), .n x128.length, .l [.int .i64 x130], .n (x32 + x118.1.toNat), .n x128.length, .ll (x35.map (List.map (D.int .i64))), .br [], .l [.int .i64 x130], .n (x32 + x118.1.toNat), .n x128.length, .ll (x35.map (List.map (D.int .i64))), .br [], .l [.int .i64 x130], .n (x32 + x118.1.toNat), .n x128.length, .ll (x35.map (List.map (D.int .i64))), .br [], .n 0, .l (x128.map (D.int .i64)), .n x128.length, .l [.int .i64 x130], .n (x32 + x118.1.toNat), .n x128.length, .ll (x35.map (List.map (D.int .i64))), .br [], .n 0, .l (x128.map (D.int .i64)), .n x128.length, .l [.int .i64 x130], .n (x32 + x118.1.toNat), .n x128.length, .ll (x35.map (List.map (D.int .i64))), .br [], .n 0, .l (x128.map (D.int .i64)), .n x128.length, .l [.int .i64 x130], .n (x32 + x118.1.toNat), .n x128.length, .ll (x35.map (List.map (D.int .i64))), .br [], .n 0, .l (x128.map (D.int .i64)), .n x128.length, .l [.int .i64 x130], .n (x32 + x118.1.toNat), .n x128.length, .ll (x35.map (List.map (D.int .i64))), .br [], .n 0, .l (x128.map (D.int .i64)), .n x128.length, .l [.int .i64 x130], .n (x32 + x118.1.toNat), .n x128.length, .ll (x35.map (List.map (D.int .i64))), .br [], .n 0, .l (x128.map (D.int .i64)), .n x128.length, .l [.int .i64 x130], .n (x32 + x118.1.toNat), .n x128.length, .ll (x35.map (List.map (D.int .i64))), .br [], .l [.int .i64 x130], .n (x32 + x118.1.toNat), .n x128.length, .ll (x35.map (List.map (D.int .i64))), .br [], .l [.int .i64 x130], .n (x32 + x118.1.toNat), .n x128.length, .ll (x35.map (List.map (D.int .i64))), .br [], .l [.int .i64 x130], .n (x32 + x118.1.toNat), .n x128.length, .ll (x35.map (List.map (D.int .i64))), .br [], .n 0, .l (x128.map (D.int .i64)), .n x128.length, .l [.int .i64 x130], .n (x32 + x118.1.toNat), .n x128.length, .ll (x35.map (List.map (D.int .i64))), .br [], .l [.int .i64 x130], .n (x32 + x118.1.toNat), .n x128.length, .ll (x35.map (List.map (D.int .i64))), .br [], .l [.int .i64 x130], .n (x32 + x118.1.toNat), .n x128.length, .ll (x35.map (List.map (D.int .i64))), .br [], .n 0, .l (x128.map (D.int .i64)), .n x128.length, .l [.int .i64 x130], .n (x32 + x118.1.toNat), .n x128.length, .ll (x35.map (List.map (D.int .i64))), .br [], .n 0, .l (x128.map (D.int .i64)), .n x128.length, .l [.int .i64 x130], .n (x32 + x118.1.toNat), .n x128.length, .ll (x35.map (List.map (D.int .i64))), .br [], .n 0, .l (x128.map (D.int .i64)), .n x128.length, .l [.int .i64 x130], .n (x32 + x118.1.toNat), .n x128.length, .ll (x35.map (List.map (D.int .i64))), .br [], .n 0, .l (x128.map (D.int .i64)), .n x128.length, .l [.int .i64 x130], .n (x32 + x118.1.toNat), .n x128.length, .ll (x35.map (List.map (D.int .i64))), .br [], .l [.int .i64 x130], .n (x32 + x118.1.toNat), .n x128.length, .ll (x35.map (List.map (D.int .i64))), .br [], .l [.int .i64 x130], .n (x32 + x118.1.toNat), .n x128.length, .ll (x35.map (List.map (D.int .i64))), .br [], .l [.int .i64 x130], .n (x32 + x118.1.toNat), .n x128.length, .ll (x35.map (List.map (D.int .i64))), .br [], .l [.int .i64 x130], .n (x32 + x118.1.toNat), .n x128.length, .ll (x35.map (List.map (D.int .i64))), .br [], .l [.int .i64 x130], .n (x32 + x118.1.toNat), .n x128.length, .ll (x35.map (List.map (D.int .i64))), .br [], .l [.int .i64 x130], .n (x32 + x118.1.toNat), .n x128.length, .ll (x35.map (List.map (D.int .i64))), .br [], .l [.int .i64 x130], .n (x32 + x118.1.toNat), .n x128.length, .ll (x35.map (List.map (D.int .i64))), .br [], .l [.int .i64 x130], .n (x32 + x118.1.toNat), .n x128.length, .ll (x35.map (List.map (D.int .i64))), .br [], .l [.int .i64 x130], .n (x32 + x118.1.toNat), .n x128.length, .ll (x35.map (List.map (D.int .i64))), .br [], .n 0, .l (x128.map (D.int .i64)), .n x128.length, .l [.int .i64 x130], .n (x32 + x118.1.toNat), .n x128.length, .ll (x35.map (List.map (D.int .i64))), .br [], .l [.int .i64 x130], .n (x32 + x118.1.toNat), .n x128.length, .ll (x35.map (List.map (D.int .i64))), .br [], .l [.int .i64 x130], .n (x32 + x118.1.toNat), .n x128.length, .ll (x35.map (List.map (D.int .i64))), .br [], .n 0, .l (x128.map (D.int .i64)), .n x128.length, .l [.int .i64 x130], .n (x32 + x118.1.toNat), .n x128.length, .ll (x35.map (List.map (D.int .i64))), .br [], .n 0, .l (x128.map (D.int .i64)), .n x128.length, .l [.int .i64 x130], .n (x32 + x118.1.toNat), .n x128.length, .ll (x35.map (List.map (D.int .i64))), .br [], .l [.int .i64 x130], .n (x32 + x118.1.toNat), .n x128.length, .ll (x35.map (List.map (D.int .i64))), .br [], .l [.int .i64 x130], .n (x32 + x118.1.toNat), .n x128.length, .ll (x35.map (List.map (D.int .i64))), .br [], .l [.int .i64 x130], .n (x32 + x118.1.toNat), .n x128.length, .ll (x35.map (List.map (D.int .i64))), .br [], .l [.int .i64 x130], .n (x32 + x118.1.toNat), .n x128.length, .ll (x35.map (List.map (D.int .i64))), .br [], .l [.int .i64 x130], .n (x32 + x118.1.toNat), .n x128.length, .ll (x35.map (List.map (D.int .i64))), .br [], .n 0, .l (x128.map (D.int .i64)), .n x128.length, .l [.int .i64 x130], .n (x32 + x118.1.toNat), .n x128.length, .ll (x35.map (List.map (D.int .i64))), .br [], .l [.int .i64 x130], .n (x32 + x118.1.toNat), .n x128.length, .ll (x35.map (List.map (D.int .i64))), .br [], .l [.int .i64 x130], .n (x32 + x118.1.toNat), .n x128.length, .ll (x35.map (List.map (D.int .i64))), .br [], .n 0, .l (x128.map (D.int .i64)), .n x128.length, .l [.int .i64 x130], .n (x32 + x118.1.toNat), .n x128.length, .ll (x35.map (List.map (D.int .i64))), .br [], .n 0, .l (x128.map (D.int .i64)), .n x128.length, .l [.int .i64 x130], .n (x32 + x118.1.toNat), .n x128.length, .ll (x35.map (List.map (D.int .i64))), .br [], .n 0, .l (x128.map (D.int .i64)), .n x128.length, .l [.int .i64 x130], .n (x32 + x118.1.toNat), .n x128.length, .ll (x35.map (List.map (D.int .i64))), .br [], .l [.int .i64 x130], .n (x32 + x118.1.toNat), .n x128.length, .ll (x35.map (List.map (D.int .i64))), .br [], .l [.int .i64 x130], .n (x32 + x118.1.toNat), .n x128.length, .ll (x35.map (List.map (D.int .i64))), .br [], .n 0, .l (x128.map (D.int .i64)), .n x128.length, .l [.int .i64 x130], .n (x32 + x118.1.toNat), .n x128.length, .ll (x35.map (List.map (D.int .i64))), .br [], .n 0, .l (x128.map (D.int .i64)), .n x128.length, .l [.int .i64 x130], .n (x32 + x118.1.toNat), .n x128.length, .ll (x35.map (List.map (D.int .i64))), .br [], .l [.int .i64 x130], .n (x32 + x118.1.toNat), .n x128.length, .ll (x35.map (List.map (D.int .i64))), .br [], .l [.int .i64 x130], .n (x32 + x118.1.toNat), .n x128.length, .ll (x35.map (List.map (D.int .i64))), .br [], .l [.int .i64 x130], .n (x32 + x118.1.toNat), .n x128.length, .ll (x35.map (List.map (D.int .i64))), .br [], .l [.int .i64 x130], .n (x32 + x118.1.toNat), .n x128.length, .ll (x35.map (List.map (D.int .i64))), .br [], .l [.int .i64 x130], .n (x32 + x118.1.toNat), .n x128.length, .ll (x35.map (List.map (D.int .i64))), .br [], .n 0, .l (x128.map (D.int .i64)), .n x128.length, .l [.int .i64 x130], .n (x32 + x118.1.toNat), .n x128.length, .ll (x35.map (List.map (D.int .i64))), .br [], .l [.int .i64 x130], .n (x32 + x118.1.toNat), .n x128.length, .ll (x35.map (List.map (D.int .i64))), .br [], .l [.int .i64 x130], .n (x32 + x118.1.toNat), .n x128.length, .ll (x35.map (List.map (D.int .i64))), .br [], .n 0, .l (x128.map (D.int .i64)), .n x128.length, .l [.int .i64 x130], .n (x32 + x118.1.toNat), .n x128.length, .ll (x35.map (List.map (D.int .i64))), .br [], .n 0, .l (x128.map (D.int .i64)), .n x128.length, .l [.int .i64 x130], .n (x32 + x118.1.toNat), .n x128.length, .ll (x35.map (List.map (D.int .i64))), .br [], .n 0, .l (x128.map (D.int .i64)), .n x128.length, .l [.int .i64 x130], .n (x32 + x118.1.toNat), .n x128.length, .ll (x35.map (List.map (D.int .i64))), .br [], .n 0, .l (x128.map (D.int .i64)), .n x128.length, .l [.int .i64 x130], .n (x32 + x118.1.toNat), .n x128.length, .ll (x35.map (List.map (D.int .i64))), .br [], .l [.int .i64 x130], .n (x32 + x118.1.toNat), .n x128.length, .ll (x35.map (List.map (D.int .i64))), .br [], .l [.int .i64 x130], .n (x32 + x118.1.toNat), .n x128.length, .ll (x35.map (List.map (D.int .i64))), .br [], .n 0, .l (x128.map (D.int .i64)), .n x128.length, .l [.int .i64 x130], .n (x32 + x118.1.toNat), .n x128.length, .ll (x35.map (List.map (D.int .i64))), .br [], .n 0, .l (x128.map (D.int .i64)), .n x128.length, .l [.int .i64 x130], .n (x32 + x118.1.toNat), .n x128.length, .ll (x35.map (List.map (D.int .i64))), .br [], .n 0, .l (x128.map (D.int .i64)), .n x128.length, .l [.int .i64 x130], .n (x32 + x118.1.toNat), .n x128.length, .ll (x35.map (List.map (D.int .i64))), .br [], .l [.int .i64 x130], .n (x32 + x118.1.toNat), .n x128.length, .ll (x35.map (List.map (D.int .i64))), .br [], .l [.int .i64 x130], .n (x32 + x118.1.toNat), .n x128.length, .ll (x35.map (List.map (D.int .i64))), .br [], .n 0, .l (x128.map (D.int .i64)), .n x128.length, .l [.int .i64 x130], .n (x32 + x118.1.toNat), .n x128.length, .ll (x35.map (List.map (D.int .i64))), .br [], .n 0, .l (x128.map (D.int .i64)), .n x128.length, .l [.int .i64 x130], .n (x32 + x118.1.toNat), .n x128.length, .ll (x35.map (List.map (D.int .i64))), .br [], .l [.int .i64 x130], .n (x32 + x118.1.toNat), .n x128.length, .ll (x35.map (List.map (D.int .i64))), .br [], .l [.int .i64 x130], .n (x32 + x118.1.toNat), .n x128.length, .ll (x35.map (List.map (D.int .i64))), .br [], .l [.int .i64 x130], .n (x32 + x118.1.toNat), .n x128.length, .ll (x35.map (List.map (D.int .i64))), .br [], .l [.int .i64 x130], .n (x32 + x118.1.toNat), .n x128.length, .ll (x35.map (List.map (D.int .i64))), .br [], .l [.int .i64 x130], .n (x32 + x118.1.toNat), .n x128.length, .ll (x35.map (List.map (D.int .i64))), .br []] ((fun (z1 : St) => [(0 : Int) ≤ x118.1 ∧ x118.1 < ((x33 : Nat) : Int), (x35.map (List.map (D.int .i64))).getD (x32 + x118.1.toNat) [] = x128.map (D.int .i64), (x128.map (D.int .i64)).length = x128.length, (0 : Int) ≤ x118.2 ∧ x118.2 < ((x128.length : Nat) : Int), ((x128.map (D.int .i64)).getD (0 + x118.2.toNat) (.int .i64 0)).cells = [.int .i64 x130], brHas 5 [((x32 + x118.1.toNat), .own 5 0 x128.length)] [((x32 + x118.1.toNat), .own 5 0 x128.length)] = some ((x32 + x118.1.toNat), x128.length), (x35.map (List.map (D.int .i64))).set (x32 + x118.1.toNat) ((x128.map (D.int .i64)).take x128.length) = x35.map (List.map (D.int .i64)), brDel [((x32 + x118.1.toNat), .own 5 0 x128.length)] (x32 + x118.1.toNat) = [], ((x128.map (D.int .i64)).getD (0 + x118.2.toNat) (.int .i64 0)).cells = [.int .i64 x130], brHas 5 [((x32 + x118.1.toNat), .own 5 0 x128.length)] [((x32 + x118.1.toNat), .own 5 0 x128.length)] = some ((x32 + x118.1.toNat), x128.length), (x35.map (List.map (D.int .i64))).set (x32 + x118.1.toNat) ((x128.map (D.int .i64)).take x128.length) = x35.map (List.map (D.int .i64)), brDel [((x32 + x118.1.toNat), .own 5 0 x128.length)] (x32 + x118.1.toNat) = [], z1 = z1, (0 : Int) ≤ x118.2 ∧ x118.2 < ((x128.length : Nat) : Int), ((x128.map (D.int .i64)).getD (0 + x118.2.toNat) (.int .i64 0)).cells = [.int .i64 x130], brHas 5 [((x32 + x118.1.toNat), .own 5 0 x128.length)] [((x32 + x118.1.toNat), .own 5 0 x128.length)] = some ((x32 + x118.1.toNat), x128.length), (x35.map (List.map (D.int .i64))).set (x32 + x118.1.toNat) ((x128.map (D.int .i64)).take x128.length) = x35.map (List.map (D.int .i64)), brDel [((x32 + x118.1.toNat), .own 5 0 x128.length)] (x32 + x118.1.toNat) = [], z1 = z1, (0 : Int) ≤ x118.2 ∧ x118.2 < ((x128.length : Nat) : Int), ((x128.map (D.int .i64)).getD (0 + x118.2.toNat) (.int .i64 0)).cells = [.int .i64 x130], brHas 5 [((x32 + x118.1.toNat), .own 5 0 x128.length)] [((x32 + x118.1.toNat), .own 5 0 x128.length)] = some ((x32 + x118.1.toNat), x128.length), (x35.map (List.map (D.int .i64))).set (x32 + x118.1.toNat) ((x128.map (D.int .i64)).take x128.length) = x35.map (List.map (D.int .i64)), brDel [((x32 + x118.1.toNat), .own 5 0 x128.length)] (x32 + x118.1.toNat) = [], z1 = z1, (x35.map (List.map (D.int .i64))).getD (x32 + x118.1.toNat) [] = x128.map (D.int .i64), (x128.map (D.int .i64)).length = x128.length, (0 : Int) ≤ x118.2 ∧ x118.2 < ((x128.length : Nat) : Int), ((x128.map (D.int .i64)).getD (0 + x118.2.toNat) (.int .i64 0)).cells = [.int .i64 x130], brHas 5 [((x32 + x118.1.toNat), .own 5 0 x128.length)] [((x32 + x118.1.toNat), .own 5 0 x128.length)] = some ((x32 + x118.1.toNat), x128.length), (x35.map (List.map (D.int .i64))).set (x32 + x118.1.toNat) ((x128.map (D.int .i64)).take x128.length) = x35.map (List.map (D.int .i64)), brDel [((x32 + x118.1.toNat), .own 5 0 x128.length)] (x32 + x118.1.toNat) = [], ((x128.map (D.int .i64)).getD (0 + x118.2.toNat) (.int .i64 0)).cells = [.int .i64 x130], brHas 5 [((x32 + x118.1.toNat), .own 5 0 x128.length)] [((x32 + x118.1.toNat), .own 5 0 x128.length)] = some ((x32 + x118.1.toNat), x128.length), (x35.map (List.map (D.int .i64))).set (x32 + x118.1.toNat) ((x128.map (D.int .i64)).take x128.length) = x35.map (List.map (D.int .i64)), brDel [((x32 + x118.1.toNat), .own 5 0 x128.length)] (x32 + x118.1.toNat) = [], z1 = z1, (0 : Int) ≤ x118.2 ∧ x118.2 < ((x128.length : Nat) : Int), ((x128.map (D.int .i64)).getD (0 + x118.2.toNat) (.int .i64 0)).cells = [.int .i64 x130], brHas 5 [((x32 + x118.1.toNat), .own 5 0 x128.length)] [((x32 + x118.1.toNat), .own 5 0 x128.length)] = some ((x32 + x118.1.toNat), x128.length), (x35.map (List.map (D.int .i64))).set (x32 + x118.1.toNat) ((x128.map (D.int .i64)).take x128.length) = x35.map (List.map (D.int .i64)), brDel [((x32 + x118.1.toNat), .own 5 0 x128.length)] (x32 + x118.1.toNat) = [], z1 = z1, (x35.map (List.map (D.int .i64))).getD (x32 + x118.1.toNat) [] = x128.map (D.int .i64), (x128.map (D.int .i64)).length = x128.length, (0 : Int) ≤ x118.2 ∧ x118.2 < ((x128.length : Nat) : Int), ((x128.map (D.int .i64)).getD (0 + x118.2.toNat) (.int .i64 0)).cells = [.int .i64 x130], brHas 5 [((x32 + x118.1.toNat), .own 5 0 x128.length)] [((x32 + x118.1.toNat), .own 5 0 x128.length)] = some ((x32 + x118.1.toNat), x128.length), (x35.map (List.map (D.int .i64))).set (x32 + x118.1.toNat) ((x128.map (D.int .i64)).take x128.length) = x35.map (List.map (D.int .i64)), brDel [((x32 + x118.1.toNat), .own 5 0 x128.length)] (x32 + x118.1.toNat) = [], z1 = z1, z1 = z1, (x35.map (List.map (D.int .i64))).getD (x32 + x118.1.toNat) [] = x128.map (D.int .i64), (x128.map (D.int .i64)).length = x128.length, (0 : Int) ≤ x118.2 ∧ x118.2 < ((x128.length : Nat) : Int), ((x128.map (D.int .i64)).getD (0 + x118.2.toNat) (.int .i64 0)).cells = [.int .i64 x130], brHas 5 [((x32 + x118.1.toNat), .own 5 0 x128.length)] [((x32 + x118.1.toNat), .own 5 0 x128.length)] = some ((x32 + x118.1.toNat), x128.length), (x35.map (List.map (D.int .i64))).set (x32 + x118.1.toNat) ((x128.map (D.int .i64)).take x128.length) = x35.map (List.map (D.int .i64)), brDel [((x32 + x118.1.toNat), .own 5 0 x128.length)] (x32 + x118.1.toNat) = [], (x35.map (List.map (D.int .i64))).getD (x32 + x118.1.toNat) [] = x128.map (D.int .i64), (x128.map (D.int .i64)).length = x128.length, (0 : Int) ≤ x118.2 ∧ x118.2 < ((x128.length : Nat) : Int), ((x128.map (D.int .i64)).getD (0 + x118.2.toNat) (.int .i64 0)).cells = [.int .i64 x130], brHas 5 [((x32 + x118.1.toNat), .own 5 0 x128.length)] [((x32 + x118.1.toNat), .own 5 0 x128.length)] = some ((x32 + x118.1.toNat), x128.length), (x35.map (List.map (D.int .i64))).set (x32 + x118.1.toNat) ((x128.map (D.int .i64)).take x128.length) = x35.map (List.map (D.int .i64)), brDel [((x32 + x118.1.toNat), .own 5 0 x128.length)] (x32 + x118.1.toNat) = [], z1 = z1, z1 = z1, (0 : Int) ≤ x118.1 ∧ x118.1 < ((x33 : Nat) : Int), (x35.map (List.map (D.int .i64))).getD (x32 + x118.1.toNat) [] = x128.map (D.int .i64), (x128.map (D.int .i64)).length = x128.length, (0 : Int) ≤ x118.2 ∧ x118.2 < ((x128.length : Nat) : Int), ((x128.map (D.int .i64)).getD (0 + x118.2.toNat) (.int .i64 0)).cells = [.int .i64 x130], brHas 5 [((x32 + x118.1.toNat), .own 5 0 x128.length)] [((x32 + x118.1.toNat), .own 5 0 x128.length)] = some ((x32 + x118.1.toNat), x128.length), (x35.map (List.map (D.int .i64))).set (x32 + x118.1.toNat) ((x128.map (D.int .i64)).take x128.length) = x35.map (List.map (D.int .i64)), brDel [((x32 + x118.1.toNat), .own 5 0 x128.length)] (x32 + x118.1.toNat) = [], ((x128.map (D.int .i64)).getD (0 + x118.2.toNat) (.int .i64 0)).cells = [.int .i64 x130], brHas 5 [((x32 + x118.1.toNat), .own 5 0 x128.length)] [((x32 + x118.1.toNat), .own 5 0 x128.length)] = some ((x32 + x118.1.toNat), x128.length), (x35.map (List.map (D.int .i64))).set (x32 + x118.1.toNat) ((x128.map (D.int .i64)).take x128.length) = x35.map (List.map (D.int .i64)), brDel [((x32 + x118.1.toNat), .own 5 0 x128.length)] (x32 + x118.1.toNat) = [], z1 = z1, (0 : Int) ≤ x118.2 ∧ x118.2 < ((x128.length : Nat) : Int), ((x128.map (D.int .i64)).getD (0 + x118.2.toNat) (.int .i64 0)).cells = [.int .i64 x130], brHas 5 [((x32 + x118.1.toNat), .own 5 0 x128.length)] [((x32 + x118.1.toNat), .own 5 0 x128.length)] = some ((x32 + x118.1.toNat), x128.length), (x35.map (List.map (D.int .i64))).set (x32 + x118.1.toNat) ((x128.map (D.int .i64)).take x128.length) = x35.map (List.map (D.int .i64)), brDel [((x32 + x118.1.toNat), .own 5 0 x128.length)] (x32 + x118.1.toNat) = [], z1 = z1, (x35.map (List.map (D.int .i64))).getD (x32 + x118.1.toNat) [] = x128.map (D.int .i64), (x128.map (D.int .i64)).length = x128.length, (0 : Int) ≤ x118.2 ∧ x118.2 < ((x128.length : Nat) : Int), ((x128.map (D.int .i64)).getD (0 + x118.2.toNat) (.int .i64 0)).cells = [.int .i64 x130], brHas 5 [((x32 + x118.1.toNat), .own 5 0 x128.length)] [((x32 + x118.1.toNat), .own 5 0 x128.length)] = some ((x32 + x118.1.toNat), x128.length), (x35.map (List.map (D.int .i64))).set (x32 + x118.1.toNat) ((x128.map (D.int .i64)).take x128.length) = x35.map (List.map (D.int .i64)), brDel [((x32 + x118.1.toNat), .own 5 0 x128.length)] (x32 + x118.1.toNat) = [], z1 = z1, (0 : Int) ≤ x118.1 ∧ x118.1 < ((x33 : Nat) : Int), (x35.map (List.map (D.int .i64))).getD (x32 + x118.1.toNat) [] = x128.map (D.int .i64), (x128.map (D.int .i64)).length = x128.length, (0 : Int) ≤ x118.2 ∧ x118.2 < ((x128.length : Nat) : Int), ((x128.map (D.int .i64)).getD (0 + x118.2.toNat) (.int .i64 0)).cells = [.int .i64 x130], brHas 5 [((x32 + x118.1.toNat), .own 5 0 x128.length)] [((x32 + x118.1.toNat), .own 5 0 x128.length)] = some ((x32 + x118.1.toNat), x128.length), (x35.map (List.map (D.int .i64))).set (x32 + x118.1.toNat) ((x128.map (D.int .i64)).take x128.length) = x35.map (List.map (D.int .i64)), brDel [((x32 + x118.1.toNat), .own 5 0 x128.length)] (x32 + x118.1.toNat) = [], z1 = z1, z1 = z1, (0 : Int) ≤ x118.1 ∧ x118.1 < ((x33 : Nat) : Int), (x35.map (List.map (D.int .i64))).getD (x32 + x118.1.toNat) [] = x128.map (D.int .i64), (x128.map (D.int .i64)).length = x128.length, (0 : Int) ≤ x118.2 ∧ x118.2 < ((x128.length : Nat) : Int), ((x128.map (D.int .i64)).getD (0 + x118.2.toNat) (.int .i64 0)).cells = [.int .i64 x130], brHas 5 [((x32 + x118.1.toNat), .own 5 0 x128.length)] [((x32 + x118.1.toNat), .own 5 0 x128.length)] = some ((x32 + x118.1.toNat), x128.length), (x35.map (List.map (D.int .i64))).set (x32 + x118.1.toNat) ((x128.map (D.int .i64)).take x128.length) = x35.map (List.map (D.int .i64)), brDel [((x32 + x118.1.toNat), .own 5 0 x128.length)] (x32 + x118.1.toNat) = [], (x35.map (List.map (D.int .i64))).getD (x32 + x118.1.toNat) [] = x128.map (D.int .i64), (x128.map (D.int .i64)).length = x128.length, (0 : Int) ≤ x118.2 ∧ x118.2 < ((x128.length : Nat) : Int), ((x128.map (D.int .i64)).getD (0 + x118.2.toNat) (.int .i64 0)).cells = [.int .i64 x130], brHas 5 [((x32 + x118.1.toNat), .own 5 0 x128.length)] [((x32 + x118.1.toNat), .own 5 0 x128.length)] = some ((x32 + x118.1.toNat), x128.length), (x35.map (List.map (D.int .i64))).set (x32 + x118.1.toNat) ((x128.map (D.int .i64)).take x128.length) = x35.map (List.map (D.int .i64)), brDel [((x32 + x118.1.toNat), .own 5 0 x128.length)] (x32 + x118.1.toNat) = [], z1 = z1, (0 : Int) ≤ x118.1 ∧ x118.1 < ((x33 : Nat) : Int), (x35.map (List.map (D.int .i64))).getD (x32 + x118.1.toNat) [] = x128.map (D.int .i64), (x128.map (D.int .i64)).length = x128.length, (0 : Int) ≤ x118.2 ∧ x118.2 < ((x128.length : Nat) : Int), ((x128.map (D.int .i64)).getD (0 + x118.2.toNat) (.int .i64 0)).cells = [.int .i64 x130], brHas 5 [((x32 + x118.1.toNat), .own 5 0 x128.length)] [((x32 + x118.1.toNat), .own 5 0 x128.length)] = some ((x32 + x118.1.toNat), x128.length), (x35.map (List.map (D.int .i64))).set (x32 + x118.1.toNat) ((x128.map (D.int .i64)).take x128.length) = x35.map (List.map (D.int .i64)), brDel [((x32 + x118.1.toNat), .own 5 0 x128.length)] (x32 + x118.1.toNat) = [], z1 = z1, z1 = z1, (0 : Int) ≤ x118.1 ∧ x118.1 < ((x33 : Nat) : Int), (x35.map (List.map (D.int .i64))).getD (x32 + x118.1.toNat) [] = x128.map (D.int .i64), (x128.map (D.int .i64)).length = x128.length, (0 : Int) ≤ x118.2 ∧ x118.2 < ((x128.length : Nat) : Int), ((x128.map (D.int .i64)).getD (0 + x118.2.toNat) (.int .i64 0)).cells = [.int .i64 x130], brHas 5 [((x32 + x118.1.toNat), .own 5 0 x128.length)] [((x32 + x118.1.toNat), .own 5 0 x128.length)] = some ((x32 + x118.1.toNat), x128.length), (x35.map (List.map (D.int .i64))).set (x32 + x118.1.toNat) ((x128.map (D.int .i64)).take x128.length) = x35.map (List.map (D.int .i64)), brDel [((x32 + x118.1.toNat), .own 5 0 x128.length)] (x32 + x118.1.toNat) = [], ((x128.map (D.int .i64)).getD (0 + x118.2.toNat) (.int .i64 0)).cells = [.int .i64 x130], brHas 5 [((x32 + x118.1.toNat), .own 5 0 x128.length)] [((x32 + x118.1.toNat), .own 5 0 x128.length)] = some ((x32 + x118.1.toNat), x128.length), (x35.map (List.map (D.int .i64))).set (x32 + x118.1.toNat) ((x128.map (D.int .i64)).take x128.length) = x35.map (List.map (D.int .i64)), brDel [((x32 + x118.1.toNat), .own 5 0 x128.length)] (x32 + x118.1.toNat) = [], z1 = z1, (0 : Int) ≤ x118.2 ∧ x118.2 < ((x128.length : Nat) : Int), ((x128.map (D.int .i64)).getD (0 + x118.2.toNat) (.int .i64 0)).cells = [.int .i64 x130], brHas 5 [((x32 + x118.1.toNat), .own 5 0 x128.length)] [((x32 + x118.1.toNat), .own 5 0 x128.length)] = some ((x32 + x118.1.toNat), x128.length), (x35.map (List.map (D.int .i64))).set (x32 + x118.1.toNat) ((x128.map (D.int .i64)).take x128.length) = x35.map (List.map (D.int .i64)), brDel [((x32 + x118.1.toNat), .own 5 0 x128.length)] (x32 + x118.1.toNat) = [], z1 = z1, (x35.map (List.map (D.int .i64))).getD (x32 + x118.1.toNat) [] = x128.map (D.int .i64), (x128.map (D.int .i64)).length = x128.length, (0 : Int) ≤ x118.2 ∧ x118.2 < ((x128.length : Nat) : Int), ((x128.map (D.int .i64)).getD (0 + x118.2.toNat) (.int .i64 0)).cells = [.int .i64 x130], brHas 5 [((x32 + x118.1.toNat), .own 5 0 x128.length)] [((x32 + x118.1.toNat), .own 5 0 x128.length)] = some ((x32 + x118.1.toNat), x128.length), (x35.map (List.map (D.int .i64))).set (x32 + x118.1.toNat) ((x128.map (D.int .i64)).take x128.length) = x35.map (List.map (D.int .i64)), brDel [((x32 + x118.1.toNat), .own 5 0 x128.length)] (x32 + x118.1.toNat) = [], z1 = z1, (0 : Int) ≤ x118.1 ∧ x118.1 < ((x33 : Nat) : Int), (x35.map (List.map (D.int .i64))).getD (x32 + x118.1.toNat) [] = x128.map (D.int .i64), (x128.map (D.int .i64)).length = x128.length, (0 : Int) ≤ x118.2 ∧ x118.2 < ((x128.length : Nat) : Int), ((x128.map (D.int .i64)).getD (0 + x118.2.toNat) (.int .i64 0)).cells = [.int .i64 x130], brHas 5 [((x32 + x118.1.toNat), .own 5 0 x128.length)] [((x32 + x118.1.toNat), .own 5 0 x128.length)] = some ((x32 + x118.1.toNat), x128.length), (x35.map (List.map (D.int .i64))).set (x32 + x118.1.toNat) ((x128.map (D.int .i64)).take x128.length) = x35.map (List.map (D.int .i64)), brDel [((x32 + x118.1.toNat), .own 5 0 x128.length)] (x32 + x118.1.toNat) = [], z1 = z1, (0 : Int) ≤ x118.1 ∧ x118.1 < ((x33 : Nat) : Int), (x35.map (List.map (D.int .i64))).getD (x32 + x118.1.toNat) [] = x128.map (D.int .i64), (x128.map (D.int .i64)).length = x128.length, (0 : Int) ≤ x118.2 ∧ x118.2 < ((x128.length : Nat) : Int), ((x128.map (D.int .i64)).getD (0 + x118.2.toNat) (.int .i64 0)).cells = [.int .i64 x130], brHas 5 [((x32 + x118.1.toNat), .own 5 0 x128.length)] [((x32 + x118.1.toNat), .own 5 0 x128.length)] = some ((x32 + x118.1.toNat), x128.length), (x35.map (List.map (D.int .i64))).set (x32 + x118.1.toNat) ((x128.map (D.int .i64)).take x128.length) = x35.map (List.map (D.int .i64)), brDel [((x32 + x118.1.toNat), .own 5 0 x128.length)] (x32 + x118.1.toNat) = [], z1 = z1, z1 = z1, (0 : Int) ≤ x118.1 ∧ x118.1 < ((x33 : Nat) : Int), (x35.map (List.map (D.int .i64))).getD (x32 + x118.1.toNat) [] = x128.map (D.int .i64), (x128.map (D.int .i64)).length = x128.length, (0 : Int) ≤ x118.2 ∧ x118.2 < ((x128.length : Nat) : Int), ((x128.map (D.int .i64)).getD (0 + x118.2.toNat) (.int .i64 0)).cells = [.int .i64 x130], brHas 5 [((x32 + x118.1.toNat), .own 5 0 x128.length)] [((x32 + x118.1.toNat), .own 5 0 x128.length)] = some ((x32 + x118.1.toNat), x128.length), (x35.map (List.map (D.int .i64))).set (x32 + x118.1.toNat) ((x128.map (D.int .i64)).take x128.length) = x35.map (List.map (D.int .i64)), brDel [((x32 + x118.1.toNat), .own 5 0 x128.length)] (x32 + x118.1.toNat) = [], (x35.map (List.map (D.int .i64))).getD (x32 + x118.1.toNat) [] = x128.map (D.int .i64), (x128.map (D.int .i64)).length = x128.length, (0 : Int) ≤ x118.2 ∧ x118.2 < ((x128.length : Nat) : Int), ((x128.map (D.int .i64)).getD (0 + x118.2.toNat) (.int .i64 0)).cells = [.int .i64 x130], brHas 5 [((x32 + x118.1.toNat), .own 5 0 x128.length)] [((x32 + x118.1.toNat), .own 5 0 x128.length)] = some ((x32 + x118.1.toNat), x128.length), (x35.map (List.map (D.int .i64))).set (x32 + x118.1.toNat) ((x128.map (D.int .i64)).take x128.length) = x35.map (List.map (D.int .i64)), brDel [((x32 + x118.1.toNat), .own 5 0 x128.length)] (x32 + x118.1.toNat) = [], z1 = z1, (0 : Int) ≤ x118.1 ∧ x118.1 < ((x33 : Nat) : Int), (x35.map (List.map (D.int .i64))).getD (x32 + x118.1.toNat) [] = x128.map (D.int .i64), (x128.map (D.int .i64)).length = x128.length, (0 : Int) ≤ x118.2 ∧ x118.2 < ((x128.length : Nat) : Int), ((x128.map (D.int .i64)).getD (0 + x118.2.toNat) (.int .i64 0)).cells = [.int .i64 x130], brHas 5 [((x32 + x118.1.toNat), .own 5 0 x128.length)] [((x32 + x118.1.toNat), .own 5 0 x128.length)] = some ((x32 + x118.1.toNat), x128.length), (x35.map (List.map (D.int .i64))).set (x32 + x118.1.toNat) ((x128.map (D.int .i64)).take x128.length) = x35.map (List.map (D.int .i64)), brDel [((x32 + x118.1.toNat), .own 5 0 x128.length)] (x32 + x118.1.toNat) = [], z1 = z1, (0 : Int) ≤ x118.1 ∧ x118.1 < ((x33 : Nat) : Int), (x35.map (List.map (D.int .i64))).getD (x32 + x118.1.toNat) [] = x128.map (D.int .i64), (x128.map (D.int .i64)).length = x128.length, (0 : Int) ≤ x118.2 ∧ x118.2 < ((x128.length : Nat) : Int), ((x128.map (D.int .i64)).getD (0 + x118.2.toNat) (.int .i64 0)).cells = [.int .i64 x130], brHas 5 [((x32 + x118.1.toNat), .own 5 0 x128.length)] [((x32 + x118.1.toNat), .own 5 0 x128.length)] = some ((x32 + x118.1.toNat), x128.length), (x35.map (List.map (D.int .i64))).set (x32 + x118.1.toNat) ((x128.map (D.int .i64)).take x128.length) = x35.map (List.map (D.int .i64)), brDel [((x32 + x118.1.toNat), .own 5 0 x128.length)] (x32 + x118.1.toNat) = [], z1 = z1, z1 = z1, (0 : Int) ≤ x118.1 ∧ x118.1 < ((x33 : Nat) : Int), (x35.map (List.map (D.int .i64))).getD (x32 + x118.1.toNat) [] = x128.map (D.int .i64), (x128.map (D.int .i64)).length = x128.length, (0 : Int) ≤ x118.2 ∧ x118.2 < ((x128.length : Nat) : Int), ((x128.map (D.int .i64)).getD (0 + x118.2.toNat) (.int .i64 0)).cells = [.int .i64 x130], brHas 5 [((x32 + x118.1.toNat), .own 5 0 x128.length)] [((x32 + x118.1.toNat), .own 5 0 x128.length)] = some ((x32 + x118.1.toNat), x128.length), (x35.map (List.map (D.int .i64))).set (x32 + x118.1.toNat) ((x128.map (D.int .i64)).take x128.length) = x35.map (List.map (D.int .i64)), brDel [((x32 + x118.1.toNat), .own 5 0 x128.length)] (x32 + x118.1.toNat) = [], ((x128.map (D.int .i64)).getD (0 + x118.2.toNat) (.int .i64 0)).cells = [.int .i64 x130], brHas 5 [((x32 + x118.1.toNat), .own 5 0 x128.length)] [((x32 + x118.1.toNat), .own 5 0 x128.length)] = some ((x32 + x118.1.toNat), x128.length), (x35.map (List.map (D.int .i64))).set (x32 + x118.1.toNat) ((x128.map (D.int .i64)).take x128.length) = x35.map (List.map (D.int .i64)), brDel [((x32 + x118.1.toNat), .own 5 0 x128.length)] (x32 + x118.1.toNat) = [], z1 = z1, (0 : Int) ≤ x118.2 ∧ x118.2 < ((x128.length : Nat) : Int), ((x128.map (D.int .i64)).getD (0 + x118.2.toNat) (.int .i64 0)).cells = [.int .i64 x130], brHas 5 [((x32 + x118.1.toNat), .own 5 0 x128.length)] [((x32 + x118.1.toNat), .own 5 0 x128.length)] = some ((x32 + x118.1.toNat), x128.length), (x35.map (List.map (D.int .i64))).set (x32 + x118.1.toNat) ((x128.map (D.int .i64)).take x128.length) = x35.map (List.map (D.int .i64)), brDel [((x32 + x118.1.toNat), .own 5 0 x128.length)] (x32 + x118.1.toNat) = [], z1 = z1, (0 : Int) ≤ x118.2 ∧ x118.2 < ((x128.length : Nat) : Int), ((x128.map (D.int .i64)).getD (0 + x118.2.toNat) (.int .i64 0)).cells = [.int .i64 x130], brHas 5 [((x32 + x118.1.toNat), .own 5 0 x128.length)] [((x32 + x118.1.toNat), .own 5 0 x128.length)] = some ((x32 + x118.1.toNat), x128.length), (x35.map (List.map (D.int .i64))).set (x32 + x118.1.toNat) ((x128.map (D.int .i64)).take x128.length) = x35.map (List.map (D.int .i64)), brDel [((x32 + x118.1.toNat), .own 5 0 x128.length)] (x32 + x118.1.toNat) = [], z1 = z1, (x35.map (List.map (D.int .i64))).getD (x32 + x118.1.toNat) [] = x128.map (D.int .i64), (x128.map (D.int .i64)).length = x128.length, (0 : Int) ≤ x118.2 ∧ x118.2 < ((x128.length : Nat) : Int), ((x128.map (D.int .i64)).getD (0 + x118.2.toNat) (.int .i64 0)).cells = [.int .i64 x130], brHas 5 [((x32 + x118.1.toNat), .own 5 0 x128.length)] [((x32 + x118.1.toNat), .own 5 0 x128.length)] = some ((x32 + x118.1.toNat), x128.length), (x35.map (List.map (D.int .i64))).set (x32 + x118.1.toNat) ((x128.map (D.int .i64)).take x128.length) = x35.map (List.map (D.int .i64)), brDel [((x32 + x118.1.toNat), .own 5 0 x128.length)] (x32 + x118.1.toNat) = [], ((x128.map (D.int .i64)).getD (0 + x118.2.toNat) (.int .i64 0)).cells = [.int .i64 x130], brHas 5 [((x32 + x118.1.toNat), .own 5 0 x128.length)] [((x32 + x118.1.toNat), .own 5 0 x128.length)] = some ((x32 + x118.1.toNat), x128.length), (x35.map (List.map (D.int .i64))).set (x32 + x118.1.toNat) ((x128.map (D.int .i64)).take x128.length) = x35.map (List.map (D.int .i64)), brDel [((x32 + x118.1.toNat), .own 5 0 x128.length)] (x32 + x118.1.toNat) = [], z1 = z1, (0 : Int) ≤ x118.2 ∧ x118.2 < ((x128.length : Nat) : Int), ((x128.map (D.int .i64)).getD (0 + x118.2.toNat) (.int .i64 0)).cells = [.int .i64 x130], brHas 5 [((x32 + x118.1.toNat), .own 5 0 x128.length)] [((x32 + x118.1.toNat), .own 5 0 x128.length)] = some ((x32 + x118.1.toNat), x128.length), (x35.map (List.map (D.int .i64))).set (x32 + x118.1.toNat) ((x128.map (D.int .i64)).take x128.length) = x35.map (List.map (D.int .i64)), brDel [((x32 + x118.1.toNat), .own 5 0 x128.length)] (x32 + x118.1.toNat) = [], z1 = z1, (x35.map (List.map (D.int .i64))).getD (x32 + x118.1.toNat) [] = x128.map (D.int .i64), (x128.map (D.int .i64)).length = x128.length, (0 : Int) ≤ x118.2 ∧ x118.2 < ((x128.length : Nat) : Int), ((x128.map (D.int .i64)).getD (0 + x118.2.toNat) (.int .i64 0)).cells = [.int .i64 x130], brHas 5 [((x32 + x118.1.toNat), .own 5 0 x128.length)] [((x32 + x118.1.toNat), .own 5 0 x128.length)] = some ((x32 + x118.1.toNat), x128.length), (x35.map (List.map (D.int .i64))).set (x32 + x118.1.toNat) ((x128.map (D.int .i64)).take x128.length) = x35.map (List.map (D.int .i64)), brDel [((x32 + x118.1.toNat), .own 5 0 x128.length)] (x32 + x118.1.toNat) = [], z1 = z1, z1 = z1, (x35.map (List.map (D.int .i64))).getD (x32 + x118.1.toNat) [] = x128.map (D.int .i64), (x128.map (D.int .i64)).length = x128.length, (0 : Int) ≤ x118.2 ∧ x118.2 < ((x128.length : Nat) : Int), ((x128.map (D.int .i64)).getD (0 + x118.2.toNat) (.int .i64 0)).cells = [.int .i64 x130], brHas 5 [((x32 + x118.1.toNat), .own 5 0 x128.length)] [((x32 + x118.1.toNat), .own 5 0 x128.length)] = some ((x32 + x118.1.toNat), x128.length), (x35.map (List.map (D.int .i64))).set (x32 + x118.1.toNat) ((x128.map (D.int .i64)).take x128.length) = x35.map (List.map (D.int .i64)), brDel [((x32 + x118.1.toNat), .own 5 0 x128.length)] (x32 + x118.1.toNat) = [], (x35.map (List.map (D.int .i64))).getD (x32 + x118.1.toNat) [] = x128.map (D.int .i64), (x128.map (D.int .i64)).length = x128.length, (0 : Int) ≤ x118.2 ∧ x118.2 < ((x128.length : Nat) : Int), ((x128.map (D.int .i64)).getD (0 + x118.2.toNat) (.int .i64 0)).cells = [.int .i64 x130], brHas 5 [((x32 + x118.1.toNat), .own 5 0 x128.length)] [((x32 + x118.1.toNat), .own 5 0 x128.length)] = some ((x32 + x118.1.toNat), x128.length), (x35.map (List.map (D.int .i64))).set (x32 + x118.1.toNat) ((x128.map (D.int .i64)).take x128.length) = x35.map (List.map (D.int .i64)), brDel [((x32 + x118.1.toNat), .own 5 0 x128.length)] (x32 + x118.1.toNat) = [], z1 = z1, z1 = z1, (0 : Int) ≤ x118.1 ∧ x118.1 < ((x33 : Nat) : Int), (x35.map (List.map (D.int .i64))).getD (x32 + x118.1.toNat) [] = x128.map (D.int .i64), (x128.map (D.int .i64)).length = x128.length, (0 : Int) ≤ x118.2 ∧ x118.2 < ((x128.length : Nat) : Int), ((x128.map (D.int .i64)).getD (0 + x118.2.toNat) (.int .i64 0)).cells = [.int .i64 x130], brHas 5 [((x32 + x118.1.toNat), .own 5 0 x128.length)] [((x32 + x118.1.toNat), .own 5 0 x128.length)] = some ((x32 + x118.1.toNat), x128.length), (x35.map (List.map (D.int .i64))).set (x32 + x118.1.toNat) ((x128.map (D.int .i64)).take x128.length) = x35.map (List.map (D.int .i64)), brDel [((x32 + x118.1.toNat), .own 5 0 x128.length)] (x32 + x118.1.toNat) = [], ((x128.map (D.int .i64)).getD (0 + x118.2.toNat) (.int .i64 0)).cells = [.int .i64 x130], brHas 5 [((x32 + x118.1.toNat), .own 5 0 x128.length)] [((x32 + x118.1.toNat), .own 5 0 x128.length)] = some ((x32 + x118.1.toNat), x128.length), (x35.map (List.map (D.int .i64))).set (x32 + x118.1.toNat) ((x128.map (D.int .i64)).take x128.length) = x35.map (List.map (D.int .i64)), brDel [((x32 + x118.1.toNat), .own 5 0 x128.length)] (x32 + x118.1.toNat) = [], z1 = z1, (0 : Int) ≤ x118.2 ∧ x118.2 < ((x128.length : Nat) : Int), ((x128.map (D.int .i64)).getD (0 + x118.2.toNat) (.int .i64 0)).cells = [.int .i64 x130], brHas 5 [((x32 + x118.1.toNat), .own 5 0 x128.length)] [((x32 + x118.1.toNat), .own 5 0 x128.length)] = some ((x32 + x118.1.toNat), x128.length), (x35.map (List.map (D.int .i64))).set (x32 + x118.1.toNat) ((x128.map (D.int .i64)).take x128.length) = x35.map (List.map (D.int .i64)), brDel [((x32 + x118.1.toNat), .own 5 0 x128.length)] (x32 + x118.1.toNat) = [], z1 = z1, (x35.map (List.map (D.int .i64))).getD (x32 + x118.1.toNat) [] = x128.map (D.int .i64), (x128.map (D.int .i64)).length = x128.length, (0 : Int) ≤ x118.2 ∧ x118.2 < ((x128.length : Nat) : Int), ((x128.map (D.int .i64)).getD (0 + x118.2.toNat) (.int .i64 0)).cells = [.int .i64 x130], brHas 5 [((x32 + x118.1.toNat), .own 5 0 x128.length)] [((x32 + x118.1.toNat), .own 5 0 x128.length)] = some ((x32 + x118.1.toNat), x128.length), (x35.map (List.map (D.int .i64))).set (x32 + x118.1.toNat) ((x128.map (D.int .i64)).take x128.length) = x35.map (List.map (D.int .i64)), brDel [((x32 + x118.1.toNat), .own 5 0 x128.length)] (x32 + x118.1.toNat) = [], z1 = z1, (0 : Int) ≤ x118.1 ∧ x118.1 < ((x33 : Nat) : Int), (x35.map (List.map (D.int .i64))).getD (x32 + x118.1.toNat) [] = x128.map (D.int .i64), (x128.map (D.int .i64)).length = x128.length, (0 : Int) ≤ x118.2 ∧ x118.2 < ((x128.length : Nat) : Int), ((x128.map (D.int .i64)).getD (0 + x118.2.toNat) (.int .i64 0)).cells = [.int .i64 x130], brHas 5 [((x32 + x118.1.toNat), .own 5 0 x128.length)] [((x32 + x118.1.toNat), .own 5 0 x128.length)] = some ((x32 + x118.1.toNat), x128.length), (x35.map (List.map (D.int .i64))).set (x32 + x118.1.toNat) ((x128.map (D.int .i64)).take x128.length) = x35.map (List.map (D.int .i64)), brDel [((x32 + x118.1.toNat), .own 5 0 x128.length)] (x32 + x118.1.toNat) = [], z1 = z1, z1 = z1, (0 : Int) ≤ x118.1 ∧ x118.1 < ((x33 : Nat) : Int), (x35.map (List.map (D.int .i64))).getD (x32 + x118.1.toNat) [] = x128.map (D.int .i64), (x128.map (D.int .i64)).length = x128.length, (0 : Int) ≤ x118.2 ∧ x118.2 < ((x128.length : Nat) : Int), ((x128.map (D.int .i64)).getD (0 + x118.2.toNat) (.int .i64 0)).cells = [.int .i64 x130], brHas 5 [((x32 + x118.1.toNat), .own 5 0 x128.length)] [((x32 + x118.1.toNat), .own 5 0 x128.length)] = some ((x32 + x118.1.toNat), x128.length), (x35.map (List.map (D.int .i64))).set (x32 + x118.1.toNat) ((x128.map (D.int .i64)).take x128.length) = x35.map (List.map (D.int .i64)), brDel [((x32 + x118.1.toNat), .own 5 0 x128.length)] (x32 + x118.1.toNat) = [], (x35.map (List.map (D.int .i64))).getD (x32 + x118.1.toNat) [] = x128.map (D.int .i64), (x128.map (D.int .i64)).length = x128.length, (0 : Int) ≤ x118.2 ∧ x118.2 < ((x128.length : Nat) : Int), ((x128.map (D.int .i64)).getD (0 + x118.2.toNat) (.int .i64 0)).cells = [.int .i64 x130], brHas 5 [((x32 + x118.1.toNat), .own 5 0 x128.length)] [((x32 + x118.1.toNat), .own 5 0 x128.length)] = some ((x32 + x118.1.toNat), x128.length), (x35.map (List.map (D.int .i64))).set (x32 + x118.1.toNat) ((x128.map (D.int .i64)).take x128.length) = x35.map (List.map (D.int .i64)), brDel [((x32 + x118.1.toNat), .own 5 0 x128.length)] (x32 + x118.1.toNat) = [], z1 = z1, (0 : Int) ≤ x118.1 ∧ x118.1 < ((x33 : Nat) : Int), (x35.map (List.map (D.int .i64))).getD (x32 + x118.1.toNat) [] = x128.map (D.int .i64), (x128.map (D.int .i64)).length = x128.length, (0 : Int) ≤ x118.2 ∧ x118.2 < ((x128.length : Nat) : Int), ((x128.map (D.int .i64)).getD (0 + x118.2.toNat) (.int .i64 0)).cells = [.int .i64 x130], brHas 5 [((x32 + x118.1.toNat), .own 5 0 x128.length)] [((x32 + x118.1.toNat), .own 5 0 x128.length)] = some ((x32 + x118.1.toNat), x128.length), (x35.map (List.map (D.int .i64))).set (x32 + x118.1.toNat) ((x128.map (D.int .i64)).take x128.length) = x35.map (List.map (D.int .i64)), brDel [((x32 + x118.1.toNat), .own 5 0 x128.length)] (x32 + x118.1.toNat) = [], z1 = z1, z1 = z1, (0 : Int) ≤ x118.1 ∧ x118.1 < ((x33 : Nat) : Int), (x35.map (List.map (D.int .i64))).getD (x32 + x118.1.toNat) [] = x128.map (D.int .i64), (x128.map (D.int .i64)).length = x128.length, (0 : Int) ≤ x118.2 ∧ x118.2 < ((x128.length : Nat) : Int), ((x128.map (D.int .i64)).getD (0 + x118.2.toNat) (.int .i64 0)).cells = [.int .i64 x130], brHas 5 [((x32 + x118.1.toNat), .own 5 0 x128.length)] [((x32 + x118.1.toNat), .own 5 0 x128.length)] = some ((x32 + x118.1.toNat), x128.length), (x35.map (List.map (D.int .i64))).set (x32 + x118.1.toNat) ((x128.map (D.int .i64)).take x128.length) = x35.map (List.map (D.int .i64)), brDel [((x32 + x118.1.toNat), .own 5 0 x128.length)] (x32 + x118.1.toNat) = [], ((x128.map (D.int .i64)).getD (0 + x118.2.toNat) (.int .i64 0)).cells = [.int .i64 x130], brHas 5 [((x32 + x118.1.toNat), .own 5 0 x128.length)] [((x32 + x118.1.toNat), .own 5 0 x128.length)] = some ((x32 + x118.1.toNat), x128.length), (x35.map (List.map (D.int .i64))).set (x32 + x118.1.toNat) ((x128.map (D.int .i64)).take x128.length) = x35.map (List.map (D.int .i64)), brDel [((x32 + x118.1.toNat), .own 5 0 x128.length)] (x32 + x118.1.toNat) = [], z1 = z1, (0 : Int) ≤ x118.2 ∧ x118.2 < ((x128.length : Nat) : Int), ((x128.map (D.int .i64)).getD (0 + x118.2.toNat) (.int .i64 0)).cells = [.int .i64 x130], brHas 5 [((x32 + x118.1.toNat), .own 5 0 x128.length)] [((x32 + x118.1.toNat), .own 5 0 x128.length)] = some ((x32 + x118.1.toNat), x128.length), (x35.map (List.map (D.int .i64))).set (x32 + x118.1.toNat) ((x128.map (D.int .i64)).take x128.length) = x35.map (List.map (D.int .i64)), brDel [((x32 + x118.1.toNat), .own 5 0 x128.length)] (x32 + x118.1.toNat) = [], z1 = z1, (0 : Int) ≤ x118.2 ∧ x118.2 < ((x128.length : Nat) : Int), ((x128.map (D.int .i64)).getD (0 + x118.2.toNat) (.int .i64 0)).cells = [.int .i64 x130], brHas 5 [((x32 + x118.1.toNat), .own 5 0 x128.length)] [((x32 + x118.1.toNat), .own 5 0 x128.length)] = some ((x32 + x118.1.toNat), x128.length), (x35.map (List.map (D.int .i64))).set (x32 + x118.1.toNat) ((x128.map (D.int .i64)).take x128.length) = x35.map (List.map (D.int .i64)), brDel [((x32 + x118.1.toNat), .own 5 0 x128.length)] (x32 + x118.1.toNat) = [], z1 = z1, (x35.map (List.map (D.int .i64))).getD (x32 + x118.1.toNat) [] = x128.map (D.int .i64), (x128.map (D.int .i64)).length = x128.length, (0 : Int) ≤ x118.2 ∧ x118.2 < ((x128.length : Nat) : Int), ((x128.map (D.int .i64)).getD (0 + x118.2.toNat) (.int .i64 0)).cells = [.int .i64 x130], brHas 5 [((x32 + x118.1.toNat), .own 5 0 x128.length)] [((x32 + x118.1.toNat), .own 5 0 x128.length)] = some ((x32 + x118.1.toNat), x128.length), (x35.map (List.map (D.int .i64))).set (x32 + x118.1.toNat) ((x128.map (D.int .i64)).take x128.length) = x35.map (List.map (D.int .i64)), brDel [((x32 + x118.1.toNat), .own 5 0 x128.length)] (x32 + x118.1.toNat) = [], ((x128.map (D.int .i64)).getD (0 + x118.2.toNat) (.int .i64 0)).cells = [.int .i64 x130], brHas 5 [((x32 + x118.1.toNat), .own 5 0 x128.length)] [((x32 + x118.1.toNat), .own 5 0 x128.length)] = some ((x32 + x118.1.toNat), x128.length), (x35.map (List.map (D.int .i64))).set (x32 + x118.1.toNat) ((x128.map (D.int .i64)).take x128.length) = x35.map (List.map (D.int .i64)), brDel [((x32 + x118.1.toNat), .own 5 0 x128.length)] (x32 + x118.1.toNat) = [], z1 = z1, (0 : Int) ≤ x118.2 ∧ x118.2 < ((x128.length : Nat) : Int), ((x128.map (D.int .i64)).getD (0 + x118.2.toNat) (.int .i64 0)).cells = [.int .i64 x130], brHas 5 [((x32 + x118.1.toNat), .own 5 0 x128.length)] [((x32 + x118.1.toNat), .own 5 0 x128.length)] = some ((x32 + x118.1.toNat), x128.length), (x35.map (List.map (D.int .i64))).set (x32 + x118.1.toNat) ((x128.map (D.int .i64)).take x128.length) = x35.map (List.map (D.int .i64)), brDel [((x32 + x118.1.toNat), .own 5 0 x128.length)] (x32 + x118.1.toNat) = [], z1 = z1, (x35.map (List.map (D.int .i64))).getD (x32 + x118.1.toNat) [] = x128.map (D.int .i64), (x128.map (D.int .i64)).length = x128.length, (0 : Int) ≤ x118.2 ∧ x118.2 < ((x128.length : Nat) : Int), ((x128.map (D.int .i64)).getD (0 + x118.2.toNat) (.int .i64 0)).cells = [.int .i64 x130], brHas 5 [((x32 + x118.1.toNat), .own 5 0 x128.length)] [((x32 + x118.1.toNat), .own 5 0 x128.length)] = some ((x32 + x118.1.toNat), x128.length), (x35.map (List.map (D.int .i64))).set (x32 + x118.1.toNat) ((x128.map (D.int .i64)).take x128.length) = x35.map (List.map (D.int .i64)), brDel [((x32 + x118.1.toNat), .own 5 0 x128.length)] (x32 + x118.1.toNat) = [], z1 = z1, z1 = z1, (x35.map (List.map (D.int .i64))).getD (x32 + x118.1.toNat) [] = x128.map (D.int .i64), (x128.map (D.int .i64)).length = x128.length, (0 : Int) ≤ x118.2 ∧ x118.2 < ((x128.length : Nat) : Int), ((x128.map (D.int .i64)).getD (0 + x118.2.toNat) (.int .i64 0)).cells = [.int .i64 x130], brHas 5 [((x32 + x118.1.toNat), .own 5 0 x128.length)] [((x32 + x118.1.toNat), .own 5 0 x128.length)] = some ((x32 + x118.1.toNat), x128.length), (x35.map (List.map (D.int .i64))).set (x32 + x118.1.toNat) ((x128.map (D.int .i64)).take x128.length) = x35.map (List.map (D.int .i64)), brDel [((x32 + x118.1.toNat), .own 5 0 x128.length)] (x32 + x118.1.toNat) = [], (x35.map (List.map (D.int .i64))).getD (x32 + x118.1.toNat) [] = x128.map (D.int .i64), (x128.map (D.int .i64)).length = x128.length, (0 : Int) ≤ x118.2 ∧ x118.2 < ((x128.length : Nat) : Int), ((x128.map (D.int .i64)).getD (0 + x118.2.toNat) (.int .i64 0)).cells = [.int .i64 x130], brHas 5 [((x32 + x118.1.toNat), .own 5 0 x128.length)] [((x32 + x118.1.toNat), .own 5 0 x128.length)] = some ((x32 + x118.1.toNat), x128.length), (x35.map (List.map (D.int .i64))).set (x32 + x118.1.toNat) ((x128.map (D.int .i64)).take x128.length) = x35.map (List.map (D.int .i64)), brDel [((x32 + x118.1.toNat), .own 5 0 x128.length)] (x32 + x118.1.toNat) = [], z1 = z1, z1 = z1, (x35.map (List.map (D.int .i64))).getD (x32 + x118.1.toNat) [] = x128.map (D.int .i64), (x128.map (D.int .i64)).length = x128.length, (0 : Int) ≤ x118.2 ∧ x118.2 < ((x128.length : Nat) : Int), ((x128.map (D.int .i64)).getD (0 + x118.2.toNat) (.int .i64 0)).cells = [.int .i64 x130], brHas 5 [((x32 + x118.1.toNat), .own 5 0 x128.length)] [((x32 + x118.1.toNat), .own 5 0 x128.length)] = some ((x32 + x118.1.toNat), x128.length), (x35.map (List.map (D.int .i64))).set (x32 + x118.1.toNat) ((x128.map (D.int .i64)).take x128.length) = x35.map (List.map (D.int .i64)), brDel [((x32 + x118.1.toNat), .own 5 0 x128.length)] (x32 + x118.1.toNat) = [], ((x128.map (D.int .i64)).getD (0 + x118.2.toNat) (.int .i64 0)).cells = [.int .i64 x130], brHas 5 [((x32 + x118.1.toNat), .own 5 0 x128.length)] [((x32 + x118.1.toNat), .own 5 0 x128.length)] = some ((x32 + x118.1.toNat), x128.length), (x35.map (List.map (D.int .i64))).set (x32 + x118.1.toNat) ((x128.map (D.int .i64)).take x128.length) = x35.map (List.map (D.int .i64)), brDel [((x32 + x118.1.toNat), .own 5 0 x128.length)] (x32 + x118.1.toNat) = [], z1 = z1, (0 : Int) ≤ x118.2 ∧ x118.2 < ((x128.length : Nat) : Int), ((x128.map (D.int .i64)).getD (0 + x118.2.toNat) (.int .i64 0)).cells = [.int .i64 x130], brHas 5 [((x32 + x118.1.toNat), .own 5 0 x128.length)] [((x32 + x118.1.toNat), .own 5 0 x128.length)] = some ((x32 + x118.1.toNat), x128.length), (x35.map (List.map (D.int .i64))).set (x32 + x118.1.toNat) ((x128.map (D.int .i64)).take x128.length) = x35.map (List.map (D.int .i64)), brDel [((x32 + x118.1.toNat), .own 5 0 x128.length)] (x32 + x118.1.toNat) = [], z1 = z1, (0 : Int) ≤ x118.2 ∧ x118.2 < ((x128.length : Nat) : Int), ((x128.map (D.int .i64)).getD (0 + x118.2.toNat) (.int .i64 0)).cells = [.int .i64 x130], brHas 5 [((x32 + x118.1.toNat), .own 5 0 x128.length)] [((x32 + x118.1.toNat), .own 5 0 x128.length)] = some ((x32 + x118.1.toNat), x128.length), (x35.map (List.map (D.int .i64))).set (x32 + x118.1.toNat) ((x128.map (D.int .i64)).take x128.length) = x35.map (List.map (D.int .i64)), brDel [((x32 + x118.1.toNat), .own 5 0 x128.length)] (x32 + x118.1.toNat) = [], z1 = z1, (0 : Int) ≤ x118.2 ∧ x118.2 < ((x128.length : Nat) : Int), ((x128.map (D.int .i64)).getD (0 + x118.2.toNat) (.int .i64 0)).cells = [.int .i64 x130], brHas 5 [((x32 + x118.1.toNat), .own 5 0 x128.length)] [((x32 + x118.1.toNat), .own 5 0 x128.length)] = some ((x32 + x118.1.toNat), x128.length), (x35.map (List.map (D.int .i64))).set (x32 + x118.1.toNat) ((x128.map (D.int .i64)).take x128.length) = x35.map (List.map (D.int .i64)), brDel [((x32 + x118.1.toNat), .own 5 0 x128.length)] (x32 + x118.1.toNat) = [], ((x128.map (D.int .i64)).getD (0 + x118.2.toNat) (.int .i64 0)).cells = [.int .i64 x130], brHas 5 [((x32 + x118.1.toNat), .own 5 0 x128.length)] [((x32 + x118.1.toNat), .own 5 0 x128.length)] = some ((x32 + x118.1.toNat), x128.length), (x35.map (List.map (D.int .i64))).set (x32 + x118.1.toNat) ((x128.map (D.int .i64)).take x128.length) = x35.map (List.map (D.int .i64)), brDel [((x32 + x118.1.toNat), .own 5 0 x128.length)] (x32 + x118.1.toNat) = [], z1 = z1, (0 : Int) ≤ x118.2 ∧ x118.2 < ((x128.length : Nat) : Int), ((x128.map (D.int .i64)).getD (0 + x118.2.toNat) (.int .i64 0)).cells = [.int .i64 x130], brHas 5 [((x32 + x118.1.toNat), .own 5 0 x128.length)] [((x32 + x118.1.toNat), .own 5 0 x128.length)] = some ((x32 + x118.1.toNat), x128.length), (x35.map (List.map (D.int .i64))).set (x32 + x118.1.toNat) ((x128.map (D.int .i64)).take x128.length) = x35.map (List.map (D.int .i64)), brDel [((x32 + x118.1.toNat), .own 5 0 x128.length)] (x32 + x118.1.toNat) = [], z1 = z1, (0 : Int) ≤ x118.2 ∧ x118.2 < ((x128.length : Nat) : Int), ((x128.map (D.int .i64)).getD (0 + x118.2.toNat) (.int .i64 0)).cells = [.int .i64 x130], brHas 5 [((x32 + x118.1.toNat), .own 5 0 x128.length)] [((x32 + x118.1.toNat), .own 5 0 x128.length)] = some ((x32 + x118.1.toNat), x128.length), (x35.map (List.map (D.int .i64))).set (x32 + x118.1.toNat) ((x128.map (D.int .i64)).take x128.length) = x35.map (List.map (D.int .i64)), brDel [((x32 + x118.1.toNat), .own 5 0 x128.length)] (x32 + x118.1.toNat) = [], ((x128.map (D.int .i64)).getD (0 + x118.2.toNat) (.int .i64 0)).cells = [.int .i64 x130], brHas 5 [((x32 + x118.1.toNat), .own 5 0 x128.length)] [((x32 + x118.1.toNat), .own 5 0 x128.length)] = some ((x32 + x118.1.toNat), x128.length), (x35.map (List.map (D.int .i64))).set (x32 + x118.1.toNat) ((x128.map (D.int .i64)).take x128.length) = x35.map (List.map (D.int .i64)), brDel [((x32 + x118.1.toNat), .own 5 0 x128.length)] (x32 + x118.1.toNat) = [], z1 = z1, ((x128.map (D.int .i64)).getD (0 + x118.2.toNat) (.int .i64 0)).cells = [.int .i64 x130], brHas 5 [((x32 + x118.1.toNat), .own 5 0 x128.length)] [((x32 + x118.1.toNat), .own 5 0 x128.length)] = some ((x32 + x118.1.toNat), x128.length), (x35.map (List.map (D.int .i64))).set (x32 + x118.1.toNat) ((x128.map (D.int .i64)).take x128.length) = x35.map (List.map (D.int .i64)), brDel [((x32 + x118.1.toNat), .own 5 0 x128.length)] (x32 + x118.1.toNat) = [], z1 = z1, z1 = z1, z1 = z1, z1 = z1, (x35.map (List.map (D.int .i64))).getD (x32 + x118.1.toNat) [] = x128.map (D.int .i64), (x128.map (D.int .i64)).length = x128.length, (0 : Int) ≤ x118.2 ∧ x118.2 < ((x128.length : Nat) : Int), ((x128.map (D.int .i64)).getD (0 + x118.2.toNat) (.int .i64 0)).cells = [.int .i64 x130], brHas 5 [((x32 + x118.1.toNat), .own 5 0 x128.length)] [((x32 + x118.1.toNat), .own 5 0 x128.length)] = some ((x32 + x118.1.toNat), x128.length), (x35.map (List.map (D.int .i64))).set (x32 + x118.1.toNat) ((x128.map (D.int .i64)).take x128.length) = x35.map (List.map (D.int .i64)), brDel [((x32 + x118.1.toNat), .own 5 0 x128.length)] (x32 + x118.1.toNat) = [], ((x128.map (D.int .i64)).getD (0 + x118.2.toNat) (.int .i64 0)).cells = [.int .i64 x130], brHas 5 [((x32 + x118.1.toNat), .own 5 0 x128.length)] [((x32 + x118.1.toNat), .own 5 0 x128.length)] = some ((x32 + x118.1.toNat), x128.length), (x35.map (List.map (D.int .i64))).set (x32 + x118.1.toNat) ((x128.map (D.int .i64)).take x128.length) = x35.map (List.map (D.int .i64)), brDel [((x32 + x118.1.toNat), .own 5 0 x128.length)] (x32 + x118.1.toNat) = [], z1 = z1, (0 : Int) ≤ x118.2 ∧ x118.2 < ((x128.length : Nat) : Int), ((x128.map (D.int .i64)).getD (0 + x118.2.toNat) (.int .i64 0)).cells = [.int .i64 x130], brHas 5 [((x32 + x118.1.toNat), .own 5 0 x128.length)] [((x32 + x118.1.toNat), .own 5 0 x128.length)] = some ((x32 + x118.1.toNat), x128.length), (x35.map (List.map (D.int .i64))).set (x32 + x118.1.toNat) ((x128.map (D.int .i64)).take x128.length) = x35.map (List.map (D.int .i64)), brDel [((x32 + x118.1.toNat), .own 5 0 x128.length)] (x32 + x118.1.toNat) = [], z1 = z1, (x35.map (List.map (D.int .i64))).getD (x32 + x118.1.toNat) [] = x128.map (D.int .i64), (x128.map (D.int .i64)).length = x128.length, (0 : Int) ≤ x118.2 ∧ x118.2 < ((x128.length : Nat) : Int), ((x128.map (D.int .i64)).getD (0 + x118.2.toNat) (.int .i64 0)).cells = [.int .i64 x130], brHas 5 [((x32 + x118.1.toNat), .own 5 0 x128.length)] [((x32 + x118.1.toNat), .own 5 0 x128.length)] = some ((x32 + x118.1.toNat), x128.length), (x35.map (List.map (D.int .i64))).set (x32 + x118.1.toNat) ((x128.map (D.int .i64)).take x128.length) = x35.map (List.map (D.int .i64)), brDel [((x32 + x118.1.toNat), .own 5 0 x128.length)] (x32 + x118.1.toNat) = [], z1 = z1, (x35.map (List.map (D.int .i64))).getD (x32 + x118.1.toNat) [] = x128.map (D.int .i64), (x128.map (D.int .i64)).length = x128.length, (0 : Int) ≤ x118.2 ∧ x118.2 < ((x128.length : Nat) : Int), ((x128.map (D.int .i64)).getD (0 + x118.2.toNat) (.int .i64 0)).cells = [.int .i64 x130], brHas 5 [((x32 + x118.1.toNat), .own 5 0 x128.length)] [((x32 + x118.1.toNat), .own 5 0 x128.length)] = some ((x32 + x118.1.toNat), x128.length), (x35.map (List.map (D.int .i64))).set (x32 + x118.1.toNat) ((x128.map (D.int .i64)).take x128.length) = x35.map (List.map (D.int .i64)), brDel [((x32 + x118.1.toNat), .own 5 0 x128.length)] (x32 + x118.1.toNat) = [], ((x128.map (D.int .i64)).getD (0 + x118.2.toNat) (.int .i64 0)).cells = [.int .i64 x130], brHas 5 [((x32 + x118.1.toNat), .own 5 0 x128.length)] [((x32 + x118.1.toNat), .own 5 0 x128.length)] = some ((x32 + x118.1.toNat), x128.length), (x35.map (List.map (D.int .i64))).set (x32 + x118.1.toNat) ((x128.map (D.int .i64)).take x128.length) = x35.map (List.map (D.int .i64)), brDel [((x32 + x118.1.toNat), .own 5 0 x128.length)] (x32 + x118.1.toNat) = [], z1 = z1, (0 : Int) ≤ x118.2 ∧ x118.2 < ((x128.length : Nat) : Int), ((x128.map (D.int .i64)).getD (0 + x118.2.toNat) (.int .i64 0)).cells = [.int .i64 x130], brHas 5 [((x32 + x118.1.toNat), .own 5 0 x128.length)] [((x32 + x118.1.toNat), .own 5 0 x128.length)] = some ((x32 + x118.1.toNat), x128.length), (x35.map (List.map (D.int .i64))).set (x32 + x118.1.toNat) ((x128.map (D.int .i64)).take x128.length) = x35.map (List.map (D.int .i64)), brDel [((x32 + x118.1.toNat), .own 5 0 x128.length)] (x32 + x118.1.toNat) = [], z1 = z1, (0 : Int) ≤ x118.2 ∧ x118.2 < ((x128.length : Nat) : Int), ((x128.map (D.int .i64)).getD (0 + x118.2.toNat) (.int .i64 0)).cells = [.int .i64 x130], brHas 5 [((x32 + x118.1.toNat), .own 5 0 x128.length)] [((x32 + x118.1.toNat), .own 5 0 x128.length)] = some ((x32 + x118.1.toNat), x128.length), (x35.map (List.map (D.int .i64))).set (x32 + x118.1.toNat) ((x128.map (D.int .i64)).take x128.length) = x35.map (List.map (D.int .i64)), brDel [((x32 + x118.1.toNat), .own 5 0 x128.length)] (x32 + x118.1.toNat) = [], ((x128.map (D.int .i64)).getD (0 + x118.2.toNat) (.int .i64 0)).cells = [.int .i64 x130], brHas 5 [((x32 + x118.1.toNat), .own 5 0 x128.length)] [((x32 + x118.1.toNat), .own 5 0 x128.length)] = some ((x32 + x118.1.toNat), x128.length), (x35.map (List.map (D.int .i64))).set (x32 + x118.1.toNat) ((x128.map (D.int .i64)).take x128.length) = x35.map (List.map (D.int .i64)), brDel [((x32 + x118.1.toNat), .own 5 0 x128.length)] (x32 + x118.1.toNat) = [], z1 = z1, ((x128.map (D.int .i64)).getD (0 + x118.2.toNat) (.int .i64 0)).cells = [.int .i64 x130], brHas 5 [((x32 + x118.1.toNat), .own 5 0 x128.length)] [((x32 + x118.1.toNat), .own 5 0 x128.length)] = some ((x32 + x118.1.toNat), x128.length), (x35.map (List.map (D.int .i64))).set (x32 + x118.1.toNat) ((x128.map (D.int .i64)).take x128.length) = x35.map (List.map (D.int .i64)), brDel [((x32 + x118.1.toNat), .own 5 0 x128.length)] (x32 + x118.1.toNat) = [], z1 = z1, z1 = z1, z1 = z1, z1 = z1, z1 = z1, (0 : Int) ≤ x118.1 ∧ x118.1 < ((x33 : Nat) : Int), (x35.map (List.map (D.int .i64))).getD (x32 + x118.1.toNat) [] = x128.map (D.int .i64), (x128.map (D.int .i64)).length = x128.length, (0 : Int) ≤ x118.2 ∧ x118.2 < ((x128.length : Nat) : Int), ((x128.map (D.int .i64)).getD (0 + x118.2.toNat) (.int .i64 0)).cells = [.int .i64 x130], brHas 5 [((x32 + x118.1.toNat), .own 5 0 x128.length)] [((x32 + x118.1.toNat), .own 5 0 x128.length)] = some ((x32 + x118.1.toNat), x128.length), (x35.map (List.map (D.int .i64))).set (x32 + x118.1.toNat) ((x128.map (D.int .i64)).take x128.length) = x35.map (List.map (D.int .i64)), brDel [((x32 + x118.1.toNat), .own 5 0 x128.length)] (x32 + x118.1.toNat) = [], ((x128.map (D.int .i64)).getD (0 + x118.2.toNat) (.int .i64 0)).cells = [.int .i64 x130], brHas 5 [((x32 + x118.1.toNat), .own 5 0 x128.length)] [((x32 + x118.1.toNat), .own 5 0 x128.length)] = some ((x32 + x118.1.toNat), x128.length), (x35.map (List.map (D.int .i64))).set (x32 + x118.1.toNat) ((x128.map (D.int .i64)).take x128.length) = x35.map (List.map (D.int .i64)), brDel [((x32 + x118.1.toNat), .own 5 0 x128.length)] (x32 + x118.1.toNat) = [], z1 = z1, (0 : Int) ≤ x118.2 ∧ x118.2 < ((x128.length : Nat) : Int), ((x128.map (D.int .i64)).getD (0 + x118.2.toNat) (.int .i64 0)).cells = [.int .i64 x130], brHas 5 [((x32 + x118.1.toNat), .own 5 0 x128.length)] [((x32 + x118.1.toNat), .own 5 0 x128.length)] = some ((x32 + x118.1.toNat), x128.length), (x35.map (List.map (D.int .i64))).set (x32 + x118.1.toNat) ((x128.map (D.int .i64)).take x128.length) = x35.map (List.map (D.int .i64)), brDel [((x32 + x118.1.toNat), .own 5 0 x128.length)] (x32 + x118.1.toNat) = [], z1 = z1, (x35.map (List.map (D.int .i64))).getD (x32 + x118.1.toNat) [] = x128.map (D.int .i64), (x128.map (D.int .i64)).length = x128.length, (0 : Int) ≤ x118.2 ∧ x118.2 < ((x128.length : Nat) : Int), ((x128.map (D.int .i64)).getD (0 + x118.2.toNat) (.int .i64 0)).cells = [.int .i64 x130], brHas 5 [((x32 + x118.1.toNat), .own 5 0 x128.length)] [((x32 + x118.1.toNat), .own 5 0 x128.length)] = some ((x32 + x118.1.toNat), x128.length), (x35.map (List.map (D.int .i64))).set (x32 + x118.1.toNat) ((x128.map (D.int .i64)).take x128.length) = x35.map (List.map (D.int .i64)), brDel [((x32 + x118.1.toNat), .own 5 0 x128.length)] (x32 + x118.1.toNat) = [], z1 = z1, (0 : Int) ≤ x118.1 ∧ x118.1 < ((x33 : Nat) : Int), (x35.map (List.map (D.int .i64))).getD (x32 + x118.1.toNat) [] = x128.map (D.int .i64), (x128.map (D.int .i64)).length = x128.length, (0 : Int) ≤ x118.2 ∧ x118.2 < ((x128.length : Nat) : Int), ((x128.map (D.int .i64)).getD (0 + x118.2.toNat) (.int .i64 0)).cells = [.int .i64 x130], brHas 5 [((x32 + x118.1.toNat), .own 5 0 x128.length)] [((x32 + x118.1.toNat), .own 5 0 x128.length)] = some ((x32 + x118.1.toNat), x128.length), (x35.map (List.map (D.int .i64))).set (x32 + x118.1.toNat) ((x128.map (D.int .i64)).take x128.length) = x35.map (List.map (D.int .i64)), brDel [((x32 + x118.1.toNat), .own 5 0 x128.length)] (x32 + x118.1.toNat) = [], z1 = z1, (0 : Int) ≤ x118.1 ∧ x118.1 < ((x33 : Nat) : Int), (x35.map (List.map (D.int .i64))).getD (x32 + x118.1.toNat) [] = x128.map (D.int .i64), (x128.map (D.int .i64)).length = x128.length, (0 : Int) ≤ x118.2 ∧ x118.2 < ((x128.length : Nat) : Int), ((x128.map (D.int .i64)).getD (0 + x118.2.toNat) (.int .i64 0)).cells = [.int .i64 x130], brHas 5 [((x32 + x118.1.toNat), .own 5 0 x128.length)] [((x32 + x118.1.toNat), .own 5 0 x128.length)] = some ((x32 + x118.1.toNat), x128.length), (x35.map (List.map (D.int .i64))).set (x32 + x118.1.toNat) ((x128.map (D.int .i64)).take x128.length) = x35.map (List.map (D.int .i64)), brDel [((x32 + x118.1.toNat), .own 5 0 x128.length)] (x32 + x118.1.toNat) = [], ((x128.map (D.int .i64)).getD (0 + x118.2.toNat) (.int .i64 0)).cells = [.int .i64 x130], brHas 5 [((x32 + x118.1.toNat), .own 5 0 x128.length)] [((x32 + x118.1.toNat), .own 5 0 x128.length)] = some ((x32 + x118.1.toNat), x128.length), (x35.map (List.map (D.int .i64))).set (x32 + x118.1.toNat) ((x128.map (D.int .i64)).take x128.length) = x35.map (List.map (D.int .i64)), brDel [((x32 + x118.1.toNat), .own 5 0 x128.length)] (x32 + x118.1.toNat) = [], z1 = z1, (0 : Int) ≤ x118.2 ∧ x118.2 < ((x128.length : Nat) : Int), ((x128.map (D.int .i64)).getD (0 + x118.2.toNat) (.int .i64 0)).cells = [.int .i64 x130], brHas 5 [((x32 + x118.1.toNat), .own 5 0 x128.length)] [((x32 + x118.1.toNat), .own 5 0 x128.length)] = some ((x32 + x118.1.toNat), x128.length), (x35.map (List.map (D.int .i64))).set (x32 + x118.1.toNat) ((x128.map (D.int .i64)).take x128.length) = x35.map (List.map (D.int .i64)), brDel [((x32 + x118.1.toNat), .own 5 0 x128.length)] (x32 + x118.1.toNat) = [], z1 = z1, (x35.map (List.map (D.int .i64))).getD (x32 + x118.1.toNat) [] = x128.map (D.int .i64), (x128.map (D.int .i64)).length = x128.length, (0 : Int) ≤ x118.2 ∧ x118.2 < ((x128.length : Nat) : Int), ((x128.map (D.int .i64)).getD (0 + x118.2.toNat) (.int .i64 0)).cells = [.int .i64 x130], brHas 5 [((x32 + x118.1.toNat), .own 5 0 x128.length)] [((x32 + x118.1.toNat), .own 5 0 x128.length)] = some ((x32 + x118.1.toNat), x128.length), (x35.map (List.map (D.int .i64))).set (x32 + x118.1.toNat) ((x128.map (D.int .i64)).take x128.length) = x35.map (List.map (D.int .i64)), brDel [((x32 + x118.1.toNat), .own 5 0 x128.length)] (x32 + x118.1.toNat) = [], z1 = z1, (x35.map (List.map (D.int .i64))).getD (x32 + x118.1.toNat) [] = x128.map (D.int .i64), (x128.map (D.int .i64)).length = x128.length, (0 : Int) ≤ x118.2 ∧ x118.2 < ((x128.length : Nat) : Int), ((x128.map (D.int .i64)).getD (0 + x118.2.toNat) (.int .i64 0)).cells = [.int .i64 x130], brHas 5 [((x32 + x118.1.toNat), .own 5 0 x128.length)] [((x32 + x118.1.toNat), .own 5 0 x128.length)] = some ((x32 + x118.1.toNat), x128.length), (x35.map (List.map (D.int .i64))).set (x32 + x118.1.toNat) ((x128.map (D.int .i64)).take x128.length) = x35.map (List.map (D.int .i64)), brDel [((x32 + x118.1.toNat), .own 5 0 x128.length)] (x32 + x118.1.toNat) = [], ((x128.map (D.int .i64)).getD (0 + x118.2.toNat) (.int .i64 0)).cells = [.int .i64 x130], brHas 5 [((x32 + x118.1.toNat), .own 5 0 x128.length)] [((x32 + x118.1.toNat), .own 5 0 x128.length)] = some ((x32 + x118.1.toNat), x128.length), (x35.map (List.map (D.int .i64))).set (x32 + x118.1.toNat) ((x128.map (D.int .i64)).take x128.length) = x35.map (List.map (D.int .i64)), brDel [((x32 + x118.1.toNat), .own 5 0 x128.length)] (x32 + x118.1.toNat) = [], z1 = z1, (0 : Int) ≤ x118.2 ∧ x118.2 < ((x128.length : Nat) : Int), ((x128.map (D.int .i64)).getD (0 + x118.2.toNat) (.int .i64 0)).cells = [.int .i64 x130], brHas 5 [((x32 + x118.1.toNat), .own 5 0 x128.length)] [((x32 + x118.1.toNat), .own 5 0 x128.length)] = some ((x32 + x118.1.toNat), x128.length), (x35.map (List.map (D.int .i64))).set (x32 + x118.1.toNat) ((x128.map (D.int .i64)).take x128.length) = x35.map (List.map (D.int .i64)), brDel [((x32 + x118.1.toNat), .own 5 0 x128.length)] (x32 + x118.1.toNat) = [], z1 = z1, (0 : Int) ≤ x118.2 ∧ x118.2 < ((x128.length : Nat) : Int), ((x128.map (D.int .i64)).getD (0 + x118.2.toNat) (.int .i64 0)).cells = [.int .i64 x130], brHas 5 [((x32 + x118.1.toNat), .own 5 0 x128.length)] [((x32 + x118.1.toNat), .own 5 0 x128.length)] = some ((x32 + x118.1.toNat), x128.length), (x35.map (List.map (D.int .i64))).set (x32 + x118.1.toNat) ((x128.map (D.int .i64)).take x128.length) = x35.map (List.map (D.int .i64)), brDel [((x32 + x118.1.toNat), .own 5 0 x128.length)] (x32 + x118.1.toNat) = [], ((x128.map (D.int .i64)).getD (0 + x118.2.toNat) (.int .i64 0)).cells = [.int .i64 x130], brHas 5 [((x32 + x118.1.toNat), .own 5 0 x128.length)] [((x32 + x118.1.toNat), .own 5 0 x128.length)] = some ((x32 + x118.1.toNat), x128.length), (x35.map (List.map (D.int .i64))).set (x32 + x118.1.toNat) ((x128.map (D.int .i64)).take x128.length) = x35.map (List.map (D.int .i64)), brDel [((x32 + x118.1.toNat), .own 5 0 x128.length)] (x32 + x118.1.toNat) = [], z1 = z1, ((x128.map (D.int .i64)).getD (0 + x118.2.toNat) (.int .i64 0)).cells = [.int .i64 x130], brHas 5 [((x32 + x118.1.toNat), .own 5 0 x128.length)] [((x32 + x118.1.toNat), .own 5 0 x128.length)] = some ((x32 + x118.1.toNat), x128.length), (x35.map (List.map (D.int .i64))).set (x32 + x118.1.toNat) ((x128.map (D.int .i64)).take x128.length) = x35.map (List.map (D.int .i64)), brDel [((x32 + x118.1.toNat), .own 5 0 x128.length)] (x32 + x118.1.toNat) = [], z1 = z1, z1 = z1, z1 = z1, z1 = z1, z1 = z1, z1 = z1, (0 : Int) ≤ x118.1 ∧ x118.1 < ((x33 : Nat) : Int), (x35.map (List.map (D.int .i64))).getD (x32 + x118.1.toNat) [] = x128.map (D.int .i64), (x128.map (D.int .i64)).length = x128.length, (0 : Int) ≤ x118.2 ∧ x118.2 < ((x128.length : Nat) : Int), ((x128.map (D.int .i64)).getD (0 + x118.2.toNat) (.int .i64 0)).cells = [.int .i64 x130], brHas 5 [((x32 + x118.1.toNat), .own 5 0 x128.length)] [((x32 + x118.1.toNat), .own 5 0 x128.length)] = some ((x32 + x118.1.toNat), x128.length), (x35.map (List.map (D.int .i64))).set (x32 + x118.1.toNat) ((x128.map (D.int .i64)).take x128.length) = x35.map (List.map (D.int .i64)), brDel [((x32 + x118.1.toNat), .own 5 0 x128.length)] (x32 + x118.1.toNat) = [], ((x128.map (D.int .i64)).getD (0 + x118.2.toNat) (.int .i64 0)).cells = [.int .i64 x130], brHas 5 [((x32 + x118.1.toNat), .own 5 0 x128.length)] [((x32 + x118.1.toNat), .own 5 0 x128.length)] = some ((x32 + x118.1.toNat), x128.length), (x35.map (List.map (D.int .i64))).set (x32 + x118.1.toNat) ((x128.map (D.int .i64)).take x128.length) = x35.map (List.map (D.int .i64)), brDel [((x32 + x118.1.toNat), .own 5 0 x128.length)] (x32 + x118.1.toNat) = [], z1 = z1, (0 : Int) ≤ x118.2 ∧ x118.2 < ((x128.length : Nat) : Int), ((x128.map (D.int .i64)).getD (0 + x118.2.toNat) (.int .i64 0)).cells = [.int .i64 x130], brHas 5 [((x32 + x118.1.toNat), .own 5 0 x128.length)] [((x32 + x118.1.toNat), .own 5 0 x128.length)] = some ((x32 + x118.1.toNat), x128.length), (x35.map (List.map (D.int .i64))).set (x32 + x118.1.toNat) ((x128.map (D.int .i64)).take x128.length) = x35.map (List.map (D.int .i64)), brDel [((x32 + x118.1.toNat), .own 5 0 x128.length)] (x32 + x118.1.toNat) = [], z1 = z1, (x35.map (List.map (D.int .i64))).getD (x32 + x118.1.toNat) [] = x128.map (D.int .i64), (x128.map (D.int .i64)).length = x128.length, (0 : Int) ≤ x118.2 ∧ x118.2 < ((x128.length : Nat) : Int), ((x128.map (D.int .i64)).getD (0 + x118.2.toNat) (.int .i64 0)).cells = [.int .i64 x130], brHas 5 [((x32 + x118.1.toNat), .own 5 0 x128.length)] [((x32 + x118.1.toNat), .own 5 0 x128.length)] = some ((x32 + x118.1.toNat), x128.length), (x35.map (List.map (D.int .i64))).set (x32 + x118.1.toNat) ((x128.map (D.int .i64)).take x128.length) = x35.map (List.map (D.int .i64)), brDel [((x32 + x118.1.toNat), .own 5 0 x128.length)] (x32 + x118.1.toNat) = [], z1 = z1, (0 : Int) ≤ x118.1 ∧ x118.1 < ((x33 : Nat) : Int), (x35.map (List.map (D.int .i64))).getD (x32 + x118.1.toNat) [] = x128.map (D.int .i64), (x128.map (D.int .i64)).length = x128.length, (0 : Int) ≤ x118.2 ∧ x118.2 < ((x128.length : Nat) : Int), ((x128.map (D.int .i64)).getD (0 + x118.2.toNat) (.int .i64 0)).cells = [.int .i64 x130], brHas 5 [((x32 + x118.1.toNat), .own 5 0 x128.length)] [((x32 + x118.1.toNat), .own 5 0 x128.length)] = some ((x32 + x118.1.toNat), x128.length), (x35.map (List.map (D.int .i64))).set (x32 + x118.1.toNat) ((x128.map (D.int .i64)).take x128.length) = x35.map (List.map (D.int .i64)), brDel [((x32 + x118.1.toNat), .own 5 0 x128.length)] (x32 + x118.1.toNat) = [], z1 = z1, (0 : Int) ≤ x118.1 ∧ x118.1 < ((x33 : Nat) : Int), (x35.map (List.map (D.int .i64))).getD (x32 + x118.1.toNat) [] = x128.map (D.int .i64), (x128.map (D.int .i64)).length = x128.length, (0 : Int) ≤ x118.2 ∧ x118.2 < ((x128.length : Nat) : Int), ((x128.map (D.int .i64)).getD (0 + x118.2.toNat) (.int .i64 0)).cells = [.int .i64 x130], brHas 5 [((x32 + x118.1.toNat), .own 5 0 x128.length)] [((x32 + x118.1.toNat), .own 5 0 x128.length)] = some ((x32 + x118.1.toNat), x128.length), (x35.map (List.map (D.int .i64))).set (x32 + x118.1.toNat) ((x128.map (D.int .i64)).take x128.length) = x35.map (List.map (D.int .i64)), brDel [((x32 + x118.1.toNat), .own 5 0 x128.length)] (x32 + x118.1.toNat) = [], z1 = z1, (0 : Int) ≤ x118.1 ∧ x118.1 < ((x33 : Nat) : Int), (x35.map (List.map (D.int .i64))).getD (x32 + x118.1.toNat) [] = x128.map (D.int .i64), (x128.map (D.int .i64)).length = x128.length, (0 : Int) ≤ x118.2 ∧ x118.2 < ((x128.length : Nat) : Int), ((x128.map (D.int .i64)).getD (0 + x118.2.toNat) (.int .i64 0)).cells = [.int .i64 x130], brHas 5 [((x32 + x118.1.toNat), .own 5 0 x128.length)] [((x32 + x118.1.toNat), .own 5 0 x128.length)] = some ((x32 + x118.1.toNat), x128.length), (x35.map (List.map (D.int .i64))).set (x32 + x118.1.toNat) ((x128.map (D.int .i64)).take x128.length) = x35.map (List.map (D.int .i64)), brDel [((x32 + x118.1.toNat), .own 5 0 x128.length)] (x32 + x118.1.toNat) = [], ((x128.map (D.int .i64)).getD (0 + x118.2.toNat) (.int .i64 0)).cells = [.int .i64 x130], brHas 5 [((x32 + x118.1.toNat), .own 5 0 x128.length)] [((x32 + x118.1.toNat), .own 5 0 x128.length)] = some ((x32 + x118.1.toNat), x128.length), (x35.map (List.map (D.int .i64))).set (x32 + x118.1.toNat) ((x128.map (D.int .i64)).take x128.length) = x35.map (List.map (D.int .i64)), brDel [((x32 + x118.1.toNat), .own 5 0 x128.length)] (x32 + x118.1.toNat) = [], z1 = z1, (0 : Int) ≤ x118.2 ∧ x118.2 < ((x128.length : Nat) : Int), ((x128.map (D.int .i64)).getD (0 + x118.2.toNat) (.int .i64 0)).cells = [.int .i64 x130], brHas 5 [((x32 + x118.1.toNat), .own 5 0 x128.length)] [((x32 + x118.1.toNat), .own 5 0 x128.length)] = some ((x32 + x118.1.toNat), x128.length), (x35.map (List.map (D.int .i64))).set (x32 + x118.1.toNat) ((x128.map (D.int .i64)).take x128.length) = x35.map (List.map (D.int .i64)), brDel [((x32 + x118.1.toNat), .own 5 0 x128.length)] (x32 + x118.1.toNat) = [], z1 = z1, (x35.map (List.map (D.int .i64))).getD (x32 + x118.1.toNat) [] = x128.map (D.int .i64), (x128.map (D.int .i64)).length = x128.length, (0 : Int) ≤ x118.2 ∧ x118.2 < ((x128.length : Nat) : Int), ((x128.map (D.int .i64)).getD (0 + x118.2.toNat) (.int .i64 0)).cells = [.int .i64 x130], brHas 5 [((x32 + x118.1.toNat), .own 5 0 x128.length)] [((x32 + x118.1.toNat), .own 5 0 x128.length)] = some ((x32 + x118.1.toNat), x128.length), (x35.map (List.map (D.int .i64))).set (x32 + x118.1.toNat) ((x128.map (D.int .i64)).take x128.length) = x35.map (List.map (D.int .i64)), brDel [((x32 + x118.1.toNat), .own 5 0 x128.length)] (x32 + x118.1.toNat) = [], z1 = z1, (0 : Int) ≤ x118.1 ∧ x118.1 < ((x33 : Nat) : Int), (x35.map (List.map (D.int .i64))).getD (x32 + x118.1.toNat) [] = x128.map (D.int .i64), (x128.map (D.int .i64)).length = x128.length, (0 : Int) ≤ x118.2 ∧ x118.2 < ((x128.length : Nat) : Int), ((x128.map (D.int .i64)).getD (0 + x118.2.toNat) (.int .i64 0)).cells = [.int .i64 x130], brHas 5 [((x32 + x118.1.toNat), .own 5 0 x128.length)] [((x32 + x118.1.toNat), .own 5 0 x128.length)] = some ((x32 + x118.1.toNat), x128.length), (x35.map (List.map (D.int .i64))).set (x32 + x118.1.toNat) ((x128.map (D.int .i64)).take x128.length) = x35.map (List.map (D.int .i64)), brDel [((x32 + x118.1.toNat), .own 5 0 x128.length)] (x32 + x118.1.toNat) = [], z1 = z1, (0 : Int) ≤ x118.1 ∧ x118.1 < ((x33 : Nat) : Int), (x35.map (List.map (D.int .i64))).getD (x32 + x118.1.toNat) [] = x128.map (D.int .i64), (x128.map (D.int .i64)).length = x128.length, (0 : Int) ≤ x118.2 ∧ x118.2 < ((x128.length : Nat) : Int), ((x128.map (D.int .i64)).getD (0 + x118.2.toNat) (.int .i64 0)).cells = [.int .i64 x130], brHas 5 [((x32 + x118.1.toNat), .own 5 0 x128.length)] [((x32 + x118.1.toNat), .own 5 0 x128.length)] = some ((x32 + x118.1.toNat), x128.length), (x35.map (List.map (D.int .i64))).set (x32 + x118.1.toNat) ((x128.map (D.int .i64)).take x128.length) = x35.map (List.map (D.int .i64)), brDel [((x32 + x118.1.toNat), .own 5 0 x128.length)] (x32 + x118.1.toNat) = [], ((x128.map (D.int .i64)).getD (0 + x118.2.toNat) (.int .i64 0)).cells = [.int .i64 x130], brHas 5 [((x32 + x118.1.toNat), .own 5 0 x128.length)] [((x32 + x118.1.toNat), .own 5 0 x128.length)] = some ((x32 + x118.1.toNat), x128.length), (x35.map (List.map (D.int .i64))).set (x32 + x118.1.toNat) ((x128.map (D.int .i64)).take x128.length) = x35.map (List.map (D.int .i64)), brDel [((x32 + x118.1.toNat), .own 5 0 x128.length)] (x32 + x118.1.toNat) = [], z1 = z1, (0 : Int) ≤ x118.2 ∧ x118.2 < ((x128.length : Nat) : Int), ((x128.map (D.int .i64)).getD (0 + x118.2.toNat) (.int .i64 0)).cells = [.int .i64 x130], brHas 5 [((x32 + x118.1.toNat), .own 5 0 x128.length)] [((x32 + x118.1.toNat), .own 5 0 x128.length)] = some ((x32 + x118.1.toNat), x128.length), (x35.map (List.map (D.int .i64))).set (x32 + x118.1.toNat) ((x128.map (D.int .i64)).take x128.length) = x35.map (List.map (D.int .i64)), brDel [((x32 + x118.1.toNat), .own 5 0 x128.length)] (x32 + x118.1.toNat) = [], z1 = z1, (x35.map (List.map (D.int .i64))).getD (x32 + x118.1.toNat) [] = x128.map (D.int .i64), (x128.map (D.int .i64)).length = x128.length, (0 : Int) ≤ x118.2 ∧ x118.2 < ((x128.length : Nat) : Int), ((x128.map (D.int .i64)).getD (0 + x118.2.toNat) (.int .i64 0)).cells = [.int .i64 x130], brHas 5 [((x32 + x118.1.toNat), .own 5 0 x128.length)] [((x32 + x118.1.toNat), .own 5 0 x128.length)] = some ((x32 + x118.1.toNat), x128.length), (x35.map (List.map (D.int .i64))).set (x32 + x118.1.toNat) ((x128.map (D.int .i64)).take x128.length) = x35.map (List.map (D.int .i64)), brDel [((x32 + x118.1.toNat), .own 5 0 x128.length)] (x32 + x118.1.toNat) = [], z1 = z1, (x35.map (List.map (D.int .i64))).getD (x32 + x118.1.toNat) [] = x128.map (D.int .i64), (x128.map (D.int .i64)).length = x128.length, (0 : Int) ≤ x118.2 ∧ x118.2 < ((x128.length : Nat) : Int), ((x128.map (D.int .i64)).getD (0 + x118.2.toNat) (.int .i64 0)).cells = [.int .i64 x130], brHas 5 [((x32 + x118.1.toNat), .own 5 0 x128.length)] [((x32 + x118.1.toNat), .own 5 0 x128.length)] = some ((x32 + x118.1.toNat), x128.length), (x35.map (List.map (D.int .i64))).set (x32 + x118.1.toNat) ((x128.map (D.int .i64)).take x128.length) = x35.map (List.map (D.int .i64)), brDel [((x32 + x118.1.toNat), .own 5 0 x128.length)] (x32 + x118.1.toNat) = [], ((x128.map (D.int .i64)).getD (0 + x118.2.toNat) (.int .i64 0)).cells = [.int .i64 x130], brHas 5 [((x32 + x118.1.toNat), .own 5 0 x128.length)] [((x32 + x118.1.toNat), .own 5 0 x128.length)] = some ((x32 + x118.1.toNat), x128.length), (x35.map (List.map (D.int .i64))).set (x32 + x118.1.toNat) ((x128.map (D.int .i64)).take x128.length) = x35.map (List.map (D.int .i64)), brDel [((x32 + x118.1.toNat), .own 5 0 x128.length)] (x32 + x118.1.toNat) = [], z1 = z1, (0 : Int) ≤ x118.2 ∧ x118.2 < ((x128.length : Nat) : Int), ((x128.map (D.int .i64)).getD (0 + x118.2.toNat) (.int .i64 0)).cells = [.int .i64 x130], brHas 5 [((x32 + x118.1.toNat), .own 5 0 x128.length)] [((x32 + x118.1.toNat), .own 5 0 x128.length)] = some ((x32 + x118.1.toNat), x128.length), (x35.map (List.map (D.int .i64))).set (x32 + x118.1.toNat) ((x128.map (D.int .i64)).take x128.length) = x35.map (List.map (D.int .i64)), brDel [((x32 + x118.1.toNat), .own 5 0 x128.length)] (x32 + x118.1.toNat) = [], z1 = z1, (0 : Int) ≤ x118.2 ∧ x118.2 < ((x128.length : Nat) : Int), ((x128.map (D.int .i64)).getD (0 + x118.2.toNat) (.int .i64 0)).cells = [.int .i64 x130], brHas 5 [((x32 + x118.1.toNat), .own 5 0 x128.length)] [((x32 + x118.1.toNat), .own 5 0 x128.length)] = some ((x32 + x118.1.toNat), x128.length), (x35.map (List.map (D.int .i64))).set (x32 + x118.1.toNat) ((x128.map (D.int .i64)).take x128.length) = x35.map (List.map (D.int .i64)), brDel [((x32 + x118.1.toNat), .own 5 0 x128.length)] (x32 + x118.1.toNat) = [], ((x128.map (D.int .i64)).getD (0 + x118.2.toNat) (.int .i64 0)).cells = [.int .i64 x130], brHas 5 [((x32 + x118.1.toNat), .own 5 0 x128.length)] [((x32 + x118.1.toNat), .own 5 0 x128.length)] = some ((x32 + x118.1.toNat), x128.length), (x35.map (List.map (D.int .i64))).set (x32 + x118.1.toNat) ((x128.map (D.int .i64)).take x128.length) = x35.map (List.map (D.int .i64)), brDel [((x32 + x118.1.toNat), .own 5 0 x128.length)] (x32 + x118.1.toNat) = [], z1 = z1, ((x128.map (D.int .i64)).getD (0 + x118.2.toNat) (.int .i64 0)).cells = [.int .i64 x130], brHas 5 [((x32 + x118.1.toNat), .own 5 0 x128.length)] [((x32 + x118.1.toNat), .own 5 0 x128.length)] = some ((x32 + x118.1.toNat), x128.length), (x35.map (List.map (D.int .i64))).set (x32 + x118.1.toNat) ((x128.map (D.int .i64)).take x128.length) = x35.map (List.map (D.int .i64)), brDel [((x32 + x118.1.toNat), .own 5 0 x128.length)] (x32 + x118.1.toNat) = [], z1 = z1, z1 = z1, z1 = z1, z1 = z1, z1 = z1, z1 = z1]) (⟨[(9, (.one (.own 0 x32 x33))), (11, (Pt 1)), (12, (.one (.own 2 0 x90))), (13, (Pt 3)), (14, (I x130)), (88, (.one (.d (.list (x92.map e_st0))))), (89, (I x93)), (90, (I x116.2.1))], [.rows (.int .i64 0) (x35.map (List.map (D.int .i64))) [], .cells [cI x96, cI x97], .vals (.agg [(.int .i64 0), (.int .i64 0)]) (x98.map e_st0), .cells [cI x118.1, cI x118.2]]⟩)) (by kernel_rfl) (AC hx127 (AC (rg_ok hx128 (D.int .i64)) (AC (List.length_map _) (AC hx129 (AC (ld_ok hx130 (D.int .i64) (.int .i64 0)) (AC bh_1 (AC (bk_same (D.int .i64) hx128) (AC bd_1 (AC (ld_ok hx130 (D.int .i64) (.int .i64 0)) (AC bh_1 (AC (bk_same (D.int .i64) hx128) (AC bd_1 (AC rfl (AC hx129 (AC (ld_ok hx130 (D.int .i64) (.int .i64 0)) (AC bh_1 (AC (bk_same (D.int .i64) hx128) (AC bd_1 (AC rfl (AC hx129 (AC (ld_ok hx130 (D.int .i64) (.int .i64 0)) (AC bh_1 (AC (bk_same (D.int .i64) hx128) (AC bd_1 (AC rfl (AC (rg_ok hx128 (D.int .i64)) (AC (List.length_map _) (AC hx129 (AC (ld_ok hx130 (D.int .i64) (.int .i64 0)) (AC bh_1 (AC (bk_same (D.int .i64) hx128) (AC bd_1 (AC (ld_ok hx130 (D.int .i64) (.int .i64 0)) (AC bh_1 (AC (bk_same (D.int .i64) hx128) (AC bd_1 (AC rfl (AC hx129 (AC (ld_ok hx130 (D.int .i64) (.int .i64 0)) (AC bh_1 (AC (bk_same (D.int .i64) hx128) (AC bd_1 (AC rfl (AC (rg_ok hx128 (D.int .i64)) (AC (List.length_map _) (AC hx129 (AC (ld_ok hx130 (D.int .i64) (.int .i64 0)) (AC bh_1 (AC (bk_same (D.int .i64) hx128) (AC bd_1 (AC rfl (AC rfl (AC (rg_ok hx128 (D.int .i64)) (AC (List.length_map _) (AC hx129 (AC (ld_ok hx130 (D.int .i64) (.int .i64 0)) (AC bh_1 (AC (bk_same (D.int .i64) hx128) (AC bd_1 (AC (rg_ok hx128 (D.int .i64)) (AC (List.length_map _) (AC hx129 (AC (ld_ok hx130 (D.int .i64) (.int .i64 0)) (AC bh_1 (AC (bk_same (D.int .i64) hx128) (AC bd_1 (AC rfl (AC rfl (AC hx127 (AC (rg_ok hx128 (D.int .i64)) (AC (List.length_map _) (AC hx129 (AC (ld_ok hx130 (D.int .i64) (.int .i64 0)) (AC bh_1 (AC (bk_same (D.int .i64) hx128) (AC bd_1 (AC (ld_ok hx130 (D.int .i64) (.int .i64 0)) (AC bh_1 (AC (bk_same (D.int .i64) hx128) (AC bd_1 (AC rfl (AC hx129 (AC (ld_ok hx130 (D.int .i64) (.int .i64 0)) (AC bh_1 (AC (bk_same (D.int .i64) hx128) (AC bd_1 (AC rfl (AC (rg_ok hx128 (D.int .i64)) (AC (List.length_map _) (AC hx129 (AC (ld_ok hx130 (D.int .i64) (.int .i64 0)) (AC bh_1 (AC (bk_same (D.int .i64) hx128) (AC bd_1 (AC rfl (AC hx127 (AC (rg_ok hx128 (D.int .i64)) (AC (List.length_map _) (AC hx129 (AC (ld_ok hx130 (D.int .i64) (.int .i64 0)) (AC bh_1 (AC (bk_same (D.int .i64) hx128) (AC bd_1 (AC rfl (AC rfl (AC hx127 (AC (rg_ok hx128 (D.int .i64)) (AC (List.length_map _) (AC hx129 (AC (ld_ok hx130 (D.int .i64) (.int .i64 0)) (AC bh_1 (AC (bk_same (D.int .i64) hx128) (AC bd_1 (AC (rg_ok hx128 (D.int .i64)) (AC (List.length_map _) (AC hx129 (AC (ld_ok hx130 (D.int .i64) (.int .i64 0)) (AC bh_1 (AC (bk_same (D.int .i64) hx128) (AC bd_1 (AC rfl (AC hx127 (AC (rg_ok hx128 (D.int .i64)) (AC (List.length_map _) (AC hx129 (AC (ld_ok hx130 (D.int .i64) (.int .i64 0)) (AC bh_1 (AC (bk_same (D.int .i64) hx128) (AC bd_1 (AC rfl (AC rfl (AC hx127 (AC (rg_ok hx128 (D.int .i64)) (AC (List.length_map _) (AC hx129 (AC (ld_ok hx130 (D.int .i64) (.int .i64 0)) (AC bh_1 (AC (bk_same (D.int .i64) hx128) (AC bd_1 (AC (ld_ok hx130 (D.int .i64) (.int .i64 0)) (AC bh_1 (AC (bk_same (D.int .i64) hx128) (AC bd_1 (AC rfl (AC hx129 (AC (ld_ok hx130 (D.int .i64) (.int .i64 0)) (AC bh_1 (AC (bk_same (D.int .i64) hx128) (AC bd_1 (AC rfl (AC (rg_ok hx128 (D.int .i64)) (AC (List.length_map _) (AC hx129 (AC (ld_ok hx130 (D.int .i64) (.int .i64 0)) (AC bh_1 (AC (bk_same (D.int .i64) hx128) (AC bd_1 (AC rfl (AC hx127 (AC (rg_ok hx128 (D.int .i64)) (AC (List.length_map _) (AC hx129 (AC (ld_ok hx130 (D.int .i64) (.int .i64 0)) (AC bh_1 (AC (bk_same (D.int .i64) hx128) (AC bd_1 (AC rfl (AC hx127 (AC (rg_ok hx128 (D.int .i64)) (AC (List.length_map _) (AC hx129 (AC (ld_ok hx130 (D.int .i64) (.int .i64 0)) (AC bh_1 (AC (bk_same (D.int .i64) hx128) (AC bd_1 (AC rfl (AC rfl (AC hx127 (AC (rg_ok hx128 (D.int .i64)) (AC (List.length_map _) (AC hx129 (AC (ld_ok hx130 (D.int .i64) (.int .i64 0)) (AC bh_1 (AC (bk_same (D.int .i64) hx128) (AC bd_1 (AC (rg_ok hx128 (D.int .i64)) (AC (List.length_map _) (AC hx129 (AC (ld_ok hx130 (D.int .i64) (.int .i64 0)) (AC bh_1 (AC (bk_same (D.int .i64) hx128) (AC bd_1 (AC rfl (AC hx127 (AC (rg_ok hx128 (D.int .i64)) (AC (List.length_map _) (AC hx129 (AC (ld_ok hx130 (D.int .i64) (.int .i64 0)) (AC bh_1 (AC (bk_same (D.int .i64) hx128) (AC bd_1 (AC rfl (AC hx127 (AC (rg_ok hx128 (D.int .i64)) (AC (List.length_map _) (AC hx129 (AC (ld_ok hx130 (D.int .i64) (.int .i64 0)) (AC bh_1 (AC (bk_same (D.int .i64) hx128) (AC bd_1 (AC rfl (AC rfl (AC hx127 (AC (rg_ok hx128 (D.int .i64)) (AC (List.length_map _) (AC hx129 (AC (ld_ok hx130 (D.int .i64) (.int .i64 0)) (AC bh_1 (AC (bk_same (D.int .i64) hx128) (AC bd_1 (AC (ld_ok hx130 (D.int .i64) (.int .i64 0)) (AC bh_1 (AC (bk_same (D.int .i64) hx128) (AC bd_1 (AC rfl (AC hx129 (AC (ld_ok hx130 (D.int .i64) (.int .i64 0)) (AC bh_1 (AC (bk_same (D.int .i64) hx128) (AC bd_1 (AC rfl (AC hx129 (AC (ld_ok hx130 (D.int .i64) (.int .i64 0)) (AC bh_1 (AC (bk_same (D.int .i64) hx128) (AC bd_1 (AC rfl (AC (rg_ok hx128 (D.int .i64)) (AC (List.length_map _) (AC hx129 (AC (ld_ok hx130 (D.int .i64) (.int .i64 0)) (AC bh_1 (AC (bk_same (D.int .i64) hx128) (AC bd_1 (AC (ld_ok hx130 (D.int .i64) (.int .i64 0)) (AC bh_1 (AC (bk_same (D.int .i64) hx128) (AC bd_1 (AC rfl (AC hx129 (AC (ld_ok hx130 (D.int .i64) (.int .i64 0)) (AC bh_1 (AC (bk_same (D.int .i64) hx128) (AC bd_1 (AC rfl (AC (rg_ok hx128 (D.int .i64)) (AC (List.length_map _) (AC hx129 (AC (ld_ok hx130 (D.int .i64) (.int .i64 0)) (AC bh_1 (AC (bk_same (D.int .i64) hx128) (AC bd_1 (AC rfl (AC rfl (AC (rg_ok hx128 (D.int .i64)) (AC (List.length_map _) (AC hx129 (AC (ld_ok hx130 (D.int .i64) (.int .i64 0)) (AC bh_1 (AC (bk_same (D.int .i64) hx128) (AC bd_1 (AC (rg_ok hx128 (D.int .i64)) (AC (List.length_map _) (AC hx129 (AC (ld_ok hx130 (D.int .i64) (.int .i64 0)) (AC bh_1 (AC (bk_same (D.int .i64) hx128) (AC bd_1 (AC rfl (AC rfl (AC hx127 (AC (rg_ok hx128 (D.int .i64)) (AC (List.length_map _) (AC hx129 (AC (ld_ok hx130 (D.int .i64) (.int .i64 0)) (AC bh_1 (AC (bk_same (D.int .i64) hx128) (AC bd_1 (AC (ld_ok hx130 (D.int .i64) (.int .i64 0)) (AC bh_1 (AC (bk_same (D.int .i64) hx128) (AC bd_1 (AC rfl (AC hx129 (AC (ld_ok hx130 (D.int .i64) (.int .i64 0)) (AC bh_1 (AC (bk_same (D.int .i64) hx128) (AC bd_1 (AC rfl (AC (rg_ok hx128 (D.int .i64)) (AC (List.length_map _) (AC hx129 (AC (ld_ok hx130 (D.int .i64) (.int .i64 0)) (AC bh_1 (AC (bk_same (D.int .i64) hx128) (AC bd_1 (AC rfl (AC hx127 (AC (rg_ok hx128 (D.int .i64)) (AC (List.length_map _) (AC hx129 (AC (ld_ok hx130 (D.int .i64) (.int .i64 0)) (AC bh_1 (AC (bk_same (D.int .i64) hx128) (AC bd_1 (AC rfl (AC rfl (AC hx127 (AC (rg_ok hx128 (D.int .i64)) (AC (List.length_map _) (AC hx129 (AC (ld_ok hx130 (D.int .i64) (.int .i64 0)) (AC bh_1 (AC (bk_same (D.int .i64) hx128) (AC bd_1 (AC (rg_ok hx128 (D.int .i64)) (AC (List.length_map _) (AC hx129 (AC (ld_ok hx130 (D.int .i64) (.int .i64 0)) (AC bh_1 (AC (bk_same (D.int .i64) hx128) (AC bd_1 (AC rfl (AC hx127 (AC (rg_ok hx128 (D.int .i64)) (AC (List.length_map _) (AC hx129 (AC (ld_ok hx130 (D.int .i64) (.int .i64 0)) (AC bh_1 (AC (bk_same (D.int .i64) hx128) (AC bd_1 (AC rfl (AC rfl (AC hx127 (AC (rg_ok hx128 (D.int .i64)) (AC (List.length_map _) (AC hx129 (AC (ld_ok hx130 (D.int .i64) (.int .i64 0)) (AC bh_1 (AC (bk_same (D.int .i64) hx128) (AC bd_1 (AC (ld_ok hx130 (D.int .i64) (.int .i64 0)) (AC bh_1 (AC (bk_same (D.int .i64) hx128) (AC bd_1 (AC rfl (AC hx129 (AC (ld_ok hx130 (D.int .i64) (.int .i64 0)) (AC bh_1 (AC (bk_same (D.int .i64) hx128) (AC bd_1 (AC rfl (AC hx129 (AC (ld_ok hx130 (D.int .i64) (.int .i64 0)) (AC bh_1 (AC (bk_same (D.int .i64) hx128) (AC bd_1 (AC rfl (AC (rg_ok hx128 (D.int .i64)) (AC (List.length_map _) (AC hx129 (AC (ld_ok hx130 (D.int .i64) (.int .i64 0)) (AC bh_1 (AC (bk_same (D.int .i64) hx128) (AC bd_1 (AC (ld_ok hx130 (D.int .i64) (.int .i64 0)) (AC bh_1 (AC (bk_same (D.int .i64) hx128) (AC bd_1 (AC rfl (AC hx129 (AC (ld_ok hx130 (D.int .i64) (.int .i64 0)) (AC bh_1 (AC (bk_same (D.int .i64) hx128) (AC bd_1 (AC rfl (AC (rg_ok hx128 (D.int .i64)) (AC (List.length_map _) (AC hx129 (AC (ld_ok hx130 (D.int .i64) (.int .i64 0)) (AC bh_1 (AC (bk_same (D.int .i64) hx128) (AC bd_1 (AC rfl (AC rfl (AC (rg_ok hx128 (D.int .i64)) (AC (List.length_map _) (AC hx129 (AC (ld_ok hx130 (D.int .i64) (.int .i64 0)) (AC bh_1 (AC (bk_same (D.int .i64) hx128) (AC bd_1 (AC (rg_ok hx128 (D.int .i64)) (AC (List.length_map _) (AC hx129 (AC (ld_ok hx130 (D.int .i64) (.int .i64 0)) (AC bh_1 (AC (bk_same (D.int .i64) hx128) (AC bd_1 (AC rfl (AC rfl (AC (rg_ok hx128 (D.int .i64)) (AC (List.length_map _) (AC hx129 (AC (ld_ok hx130 (D.int .i64) (.int .i64 0)) (AC bh_1 (AC (bk_same (D.int .i64) hx128) (AC bd_1 (AC (ld_ok hx130 (D.int .i64) (.int .i64 0)) (AC bh_1 (AC (bk_same (D.int .i64) hx128) (AC bd_1 (AC rfl (AC hx129 (AC (ld_ok hx130 (D.int .i64) (.int .i64 0)) (AC bh_1 (AC (bk_same (D.int .i64) hx128) (AC bd_1 (AC rfl (AC hx129 (AC (ld_ok hx130 (D.int .i64) (.int .i64 0)) (AC bh_1 (AC (bk_same (D.int .i64) hx128) (AC bd_1 (AC rfl (AC hx129 (AC (ld_ok hx130 (D.int .i64) (.int .i64 0)) (AC bh_1 (AC (bk_same (D.int .i64) hx128) (AC bd_1 (AC (ld_ok hx130 (D.int .i64) (.int .i64 0)) (AC bh_1 (AC (bk_same (D.int .i64) hx128) (AC bd_1 (AC rfl (AC hx129 (AC (ld_ok hx130 (D.int .i64) (.int .i64 0)) (AC bh_1 (AC (bk_same (D.int .i64) hx128) (AC bd_1 (AC rfl (AC hx129 (AC (ld_ok hx130 (D.int .i64) (.int .i64 0)) (AC bh_1 (AC (bk_same (D.int .i64) hx128) (AC bd_1 (AC (ld_ok hx130 (D.int .i64) (.int .i64 0)) (AC bh_1 (AC (bk_same (D.int .i64) hx128) (AC bd_1 (AC rfl (AC (ld_ok hx130 (D.int .i64) (.int .i64 0)) (AC bh_1 (AC (bk_same (D.int .i64) hx128) (AC bd_1 (AC rfl (AC rfl (AC rfl (AC rfl (AC (rg_ok hx128 (D.int .i64)) (AC (List.length_map _) (AC hx129 (AC (ld_ok hx130 (D.int .i64) (.int .i64 0)) (AC bh_1 (AC (bk_same (D.int .i64) hx128) (AC bd_1 (AC (ld_ok hx130 (D.int .i64) (.int .i64 0)) (AC bh_1 (AC (bk_same (D.int .i64) hx128) (AC bd_1 (AC rfl (AC hx129 (AC (ld_ok hx130 (D.int .i64) (.int .i64 0)) (AC bh_1 (AC (bk_same (D.int .i64) hx128) (AC bd_1 (AC rfl (AC (rg_ok hx128 (D.int .i64)) (AC (List.length_map _) (AC hx129 (AC (ld_ok hx130 (D.int .i64) (.int .i64 0)) (AC bh_1 (AC (bk_same (D.int .i64) hx128) (AC bd_1 (AC rfl (AC (rg_ok hx128 (D.int .i64)) (AC (List.length_map _) (AC hx129 (AC (ld_ok hx130 (D.int .i64) (.int .i64 0)) (AC bh_1 (AC (bk_same (D.int .i64) hx128) (AC bd_1 (AC (ld_ok hx130 (D.int .i64) (.int .i64 0)) (AC bh_1 (AC (bk_same (D.int .i64) hx128) (AC bd_1 (AC rfl (AC hx129 (AC (ld_ok hx130 (D.int .i64) (.int .i64 0)) (AC bh_1 (AC (bk_same (D.int .i64) hx128) (AC bd_1 (AC rfl (AC hx129 (AC (ld_ok hx130 (D.int .i64) (.int .i64 0)) (AC bh_1 (AC (bk_same (D.int .i64) hx128) (AC bd_1 (AC (ld_ok hx130 (D.int .i64) (.int .i64 0)) (AC bh_1 (AC (bk_same (D.int .i64) hx128) (AC bd_1 (AC rfl (AC (ld_ok hx130 (D.int .i64) (.int .i64 0)) (AC bh_1 (AC (bk_same (D.int .i64) hx128) (AC bd_1 (AC rfl (AC rfl (AC rfl (AC rfl (AC rfl (AC hx127 (AC (rg_ok hx128 (D.int .i64)) (AC (List.length_map _) (AC hx129 (AC (ld_ok hx130 (D.int .i64) (.int .i64 0)) (AC bh_1 (AC (bk_same (D.int .i64) hx128) (AC bd_1 (AC (ld_ok hx130 (D.int .i64) (.int .i64 0)) (AC bh_1 (AC (bk_same (D.int .i64) hx128) (AC bd_1 (AC rfl (AC hx129 (AC (ld_ok hx130 (D.int .i64) (.int .i64 0)) (AC bh_1 (AC (bk_same (D.int .i64) hx128) (AC bd_1 (AC rfl (AC (rg_ok hx128 (D.int .i64)) (AC (List.length_map _) (AC hx129 (AC (ld_ok hx130 (D.int .i64) (.int .i64 0)) (AC bh_1 (AC (bk_same (D.int .i64) hx128) (AC bd_1 (AC rfl (AC hx127 (AC (rg_ok hx128 (D.int .i64)) (AC (List.length_map _) (AC hx129 (AC (ld_ok hx130 (D.int .i64) (.int .i64 0)) (AC bh_1 (AC (bk_same (D.int .i64) hx128) (AC bd_1 (AC rfl (AC hx127 (AC (rg_ok hx128 (D.int .i64)) (AC (List.length_map _) (AC hx129 (AC (ld_ok hx130 (D.int .i64) (.int .i64 0)) (AC bh_1 (AC (bk_same (D.int .i64) hx128) (AC bd_1 (AC (ld_ok hx130 (D.int .i64) (.int .i64 0)) (AC bh_1 (AC (bk_same (D.int .i64) hx128) (AC bd_1 (AC rfl (AC hx129 (AC (ld_ok hx130 (D.int .i64) (.int .i64 0)) (AC bh_1 (AC (bk_same (D.int .i64) hx128) (AC bd_1 (AC rfl (AC (rg_ok hx128 (D.int .i64)) (AC (List.length_map _) (AC hx129 (AC (ld_ok hx130 (D.int .i64) (.int .i64 0)) (AC bh_1 (AC (bk_same (D.int .i64) hx128) (AC bd_1 (AC rfl (AC (rg_ok hx128 (D.int .i64)) (AC (List.length_map _) (AC hx129 (AC (ld_ok hx130 (D.int .i64) (.int .i64 0)) (AC bh_1 (AC (bk_same (D.int .i64) hx128) (AC bd_1 (AC (ld_ok hx130 (D.int .i64) (.int .i64 0)) (AC bh_1 (AC (bk_same (D.int .i64) hx128) (AC bd_1 (AC rfl (AC hx129 (AC (ld_ok hx130 (D.int .i64) (.int .i64 0)) (AC bh_1 (AC (bk_same (D.int .i64) hx128) (AC bd_1 (AC rfl (AC hx129 (AC (ld_ok hx130 (D.int .i64) (.int .i64 0)) (AC bh_1 (AC (bk_same (D.int .i64) hx128) (AC bd_1 (AC (ld_ok hx130 (D.int .i64) (.int .i64 0)) (AC bh_1 (AC (bk_same (D.int .i64) hx128) (AC bd_1 (AC rfl (AC (ld_ok hx130 (D.int .i64) (.int .i64 0)) (AC bh_1 (AC (bk_same (D.int .i64) hx128) (AC bd_1 (AC rfl (AC rfl (AC rfl (AC rfl (AC rfl (AC rfl (AC hx127 (AC (rg_ok hx128 (D.int .i64)) (AC (List.length_map _) (AC hx129 (AC (ld_ok hx130 (D.int .i64) (.int .i64 0)) (AC bh_1 (AC (bk_same (D.int .i64) hx128) (AC bd_1 (AC (ld_ok hx130 (D.int .i64) (.int .i64 0)) (AC bh_1 (AC (bk_same (D.int .i64) hx128) (AC bd_1 (AC rfl (AC hx129 (AC (ld_ok hx130 (D.int .i64) (.int .i64 0)) (AC bh_1 (AC (bk_same (D.int .i64) hx128) (AC bd_1 (AC rfl (AC (rg_ok hx128 (D.int .i64)) (AC (List.length_map _) (AC hx129 (AC (ld_ok hx130 (D.int .i64) (.int .i64 0)) (AC bh_1 (AC (bk_same (D.int .i64) hx128) (AC bd_1 (AC rfl (AC hx127 (AC (rg_ok hx128 (D.int .i64)) (AC (List.length_map _) (AC hx129 (AC (ld_ok hx130 (D.int .i64) (.int .i64 0)) (AC bh_1 (AC (bk_same (D.int .i64) hx128) (AC bd_1 (AC rfl (AC hx127 (AC (rg_ok hx128 (D.int .i64)) (AC (List.length_map _) (AC hx129 (AC (ld_ok hx130 (D.int .i64) (.int .i64 0)) (AC bh_1 (AC (bk_same (D.int .i64) hx128) (AC bd_1 (AC rfl (AC hx127 (AC (rg_ok hx128 (D.int .i64)) (AC (List.length_map _) (AC hx129 (AC (ld_ok hx130 (D.int .i64) (.int .i64 0)) (AC bh_1 (AC (bk_same (D.int .i64) hx128) (AC bd_1 (AC (ld_ok hx130 (D.int .i64) (.int .i64 0)) (AC bh_1 (AC (bk_same (D.int .i64) hx128) (AC bd_1 (AC rfl (AC hx129 (AC (ld_ok hx130 (D.int .i64) (.int .i64 0)) (AC bh_1 (AC (bk_same (D.int .i64) hx128) (AC bd_1 (AC rfl (AC (rg_ok hx128 (D.int .i64)) (AC (List.length_map _) (AC hx129 (AC (ld_ok hx130 (D.int .i64) (.int .i64 0)) (AC bh_1 (AC (bk_same (D.int .i64) hx128) (AC bd_1 (AC rfl (AC hx127 (AC (rg_ok hx128 (D.int .i64)) (AC (List.length_map _) (AC hx129 (AC (ld_ok hx130 (D.int .i64) (.int .i64 0)) (AC bh_1 (AC (bk_same (D.int .i64) hx128) (AC bd_1 (AC rfl (AC hx127 (AC (rg_ok hx128 (D.int .i64)) (AC (List.length_map _) (AC hx129 (AC (ld_ok hx130 (D.int .i64) (.int .i64 0)) (AC bh_1 (AC (bk_same (D.int .i64) hx128) (AC bd_1 (AC (ld_ok hx130 (D.int .i64) (.int .i64 0)) (AC bh_1 (AC (bk_same (D.int .i64) hx128) (AC bd_1 (AC rfl (AC hx129 (AC (ld_ok hx130 (D.int .i64) (.int .i64 0)) (AC bh_1 (AC (bk_same (D.int .i64) hx128) (AC bd_1 (AC rfl (AC (rg_ok hx128 (D.int .i64)) (AC (List.length_map _) (AC hx129 (AC (ld_ok hx130 (D.int .i64) (.int .i64 0)) (AC bh_1 (AC (bk_same (D.int .i64) hx128) (AC bd_1 (AC rfl (AC (rg_ok hx128 (D.int .i64)) (AC (List.length_map _) (AC hx129 (AC (ld_ok hx130 (D.int .i64) (.int .i64 0)) (AC bh_1 (AC (bk_same (D.int .i64) hx128) (AC bd_1 (AC (ld_ok hx130 (D.int .i64) (.int .i64 0)) (AC bh_1 (AC (bk_same (D.int .i64) hx128) (AC bd_1 (AC rfl (AC hx129 (AC (ld_ok hx130 (D.int .i64) (.int .i64 0)) (AC bh_1 (AC (bk_same (D.int .i64) hx128) (AC bd_1 (AC rfl (AC hx129 (AC (ld_ok hx130 (D.int .i64) (.int .i64 0)) (AC bh_1 (AC (bk_same (D.int .i64) hx128) (AC bd_1 (AC (ld_ok hx130 (D.int .i64) (.int .i64 0)) (AC bh_1 (AC (bk_same (D.int .i64) hx128) (AC bd_1 (AC rfl (AC (ld_ok hx130 (D.int .i64) (.int .i64 0)) (AC bh_1 (AC (bk_same (D.int .i64) hx128) (AC bd_1 (AC rfl (AC rfl (AC rfl (AC rfl (AC rfl (A1 rfl))))))))))))))))))))))))))))))))))))))))))))))))))))))))))))))))))))))))))))))))))))))))))))))))))))))))))))))))))))))))))))))))))))))))))))))))))))))))))))))))))))))))))))))))))))))))))))))))))))))))))))))))))))))))))))))))))))))))))))))))))))))))))))))))))))))))))))))))))))))))))))))))))))))))))))))))))))))))))))))))))))))))))))))))))))))))))))))))))))))))))))))))))))))))))))))))))))))))))))))))))))))))))))))))))))))))))))))))))))))))))))))))))))))))))))))))))))))))))))))))))))))))))))))))))))))))))))))))))))))))))))))))))))))))))))))))))))))))))))))))))))))))))))))))))))))))))))))))))))))))))))))))))))))))))))))))))))))))))))))))))))))))))))))))))))))))))))))))))))))))))))))))))))))))))))))))))))))))))))))))))))))))))))))))))))))))))))))))))))))))))))))))))))))))))) ?_
       cases H
       exact K_end (by kernel_rfl)
     · refine K_f (by kernel_rfl) (Bool.eq_false_iff.2 hx126) ?_
       refine K_g (by kernel_rfl) ?_
       refine K_skip ?_
       cases H
       exact K_end (by kernel_rfl)
   refine K_blk (K_r [] [] (by kernel_rfl) trivial ?_)
   cases H
   exact K_end (by kernel_rfl)
 · refine K_f (by kernel_rfl) (decide_eq_false hx117) ?_
   refine K_g (by kernel_rfl) ?_
   cases H
   exact K_exit0 rfl (by kernel_rfl)
def T_warp_Path_l3 (k : Nat) (x32 : Nat) (x33 : Nat) (x35 : List (List Int)) (x86 : Nat × Int × Int × (List (Int × Int))) : Option ((Nat × Int × Int × (List (Int × Int))) ⊕ ((Nat × (List (Int × Int))))) :=
 (if (!(decide (x86.2.1 = 0) && (decide (x86.2.2.1 = 0) && true))) = true then (loopT (T_warp_Path_l2 k x32 x33 x35 x86.1 ([((w64 (x86.2.1 - 1)), (w64 (x86.2.2.1 - 1))), ((w64 (x86.2.1 - 1)), x86.2.2.1), (x86.2.1, (w64 (x86.2.2.1 - 1)))] : List (Int × Int)) (([((w64 (x86.2.1 - 1)), (w64 (x86.2.2.1 - 1))), ((w64 (x86.2.1 - 1)), x86.2.2.1), (x86.2.1, (w64 (x86.2.2.1 - 1)))] : List (Int × Int)).length : Int) x86.2.1 x86.2.2.1 x86.2.2.2) k (4611686018427387904, 0, x86.2.1, x86.2.2.1)).bind fun x132 => (if x86.1 + 1 ≤ LIM then some (.inl ((x86.1 + 1), x132.1, x132.2, ((x86.2.2.2.drop 0).take x86.1 ++ ([(x132.1, x132.2)] : List (Int × Int))))) else none) else some (.inr (x86.1, x86.2.2.2)))
theorem T_warp_Path_l3_ok (k : Nat) (x32 : Nat) (x33 : Nat) (x35 : List (List Int)) : ∀ (x86 : Nat × Int × Int × (List (Int × Int))) (x : (Nat × Int × Int × (List (Int × Int))) ⊕ ((Nat × (List (Int × Int))))), T_warp_Path_l3 k x32 x33 x35 x86 = some x → evC X (evF X k) k 0 l_warp_Path_3 ⟨[(9, (.one (.own 0 x32 x33))), (11, (Pt 1)), (12, (.one (.own 2 0 x86.1)))], [.rows (.int .i64 0) (x35.map (List.map (D.int .i64))) [], .cells [cI x86.2.1, cI x86.2.2.1], .vals (.agg [(.int .i64 0), (.int .i64 0)]) (x86.2.2.2.map e_st0)]⟩ = some (outS (fun (s : Nat × Int × Int × (List (Int × Int))) => ⟨[(9, (.one (.own 0 x32 x33))), (11, (Pt 1)), (12, (.one (.own 2 0 s.1)))], [.rows (.int .i64 0) (x35.map (List.map (D.int .i64))) [], .cells [cI s.2.1, cI s.2.2.1], .vals (.agg [(.int .i64 0), (.int .i64 0)]) (s.2.2.2.map e_st0)]⟩) (fun (r : (Nat × (List (Int × Int)))) => (.exit 2, ⟨[(12, (.one (.own 0 0 r.1)))], [.vals (.agg [(.int .i64 0), (.int .i64 0)]) (r.2.map e_st0)]⟩)) x) := by
 intro x86 x H
 unfold T_warp_Path_l3 at H
 refine K_in ?_
 refine K_seq (K_seq (K_r [] [] (by kernel_rfl) trivial ?_))
 rcases ite_some H with ⟨hx87, H⟩ | ⟨hx87, H⟩
 · refine K_t (by kernel_rfl) hx87 ?_
   refine K_g (by kernel_rfl) ?_
   refine K_skip (K_block (K_seq (K_r [] [] (by kernel_rfl) trivial ?_)))
   refine K_seq (K_seq (K_r [.n ([((w64 (x86.2.1 - 1)), (w64 (x86.2.2.1 - 1))), ((w64 (x86.2.1 - 1)), x86.2.2.1), (x86.2.1, (w64 (x86.2.2.1 - 1)))] : List (Int × Int)).length] [((([((w64 (x86.2.1 - 1)), (w64 (x86.2.2.1 - 1))), ((w64 (x86.2.1 - 1)), x86.2.2.1), (x86.2.1, (w64 (x86.2.2.1 - 1)))] : List (Int × Int)).map e_st0)).length = ([((w64 (x86.2.1 - 1)), (w64 (x86.2.2.1 - 1))), ((w64 (x86.2.1 - 1)), x86.2.2.1), (x86.2.1, (w64 (x86.2.2.1 - 1)))] : List (Int × Int)).length] (by kernel_rfl) (A1 (List.length_map _)) ?_))
   refine K_block (K_conv (σ' := ⟨[(9, (.one (.own 0 x32 x33))), (11, (Pt 1)), (12, (.one (.own 2 0 x86.1))), (13, (Pt 3)), (14, (I 4611686018427387904)), (88, (.one (.d (.list (([((w64 (x86.2.1 - 1)), (w64 (x86.2.2.1 - 1))), ((w64 (x86.2.1 - 1)), x86.2.2.1), (x86.2.1, (w64 (x86.2.2.1 - 1)))] : List (Int × Int)).map e_st0))))), (89, (I (([((w64 (x86.2.1 - 1)), (w64 (x86.2.2.1 - 1))), ((w64 (x86.2.1 - 1)), x86.2.2.1), (x86.2.1, (w64 (x86.2.2.1 - 1)))] : List (Int × Int)).length : Int))), (90, (I 0))], [.rows (.int .i64 0) (x35.map (List.map (D.int .i64))) [], .cells [cI x86.2.1, cI x86.2.2.1], .vals (.agg [(.int .i64 0), (.int .i64 0)]) (x86.2.2.2.map e_st0), .cells [cI x86.2.1, cI x86.2.2.1]]⟩) (by kernel_rfl) ?_)
   obtain ⟨x132, hx132, H⟩ := bind_some' H
   refine K_loop ⟨[(9, (.one (.own 0 x32 x33))), (11, (Pt 1)), (12, (.one (.own 2 0 x86.1))), (13, (Pt 3))], [.rows (.int .i64 0) (x35.map (List.map (D.int .i64))) [], .cells [cI x86.2.1, cI x86.2.2.1], .vals (.agg [(.int .i64 0), (.int .i64 0)]) (x86.2.2.2.map e_st0), .cells [cI x132.1, cI x132.2]]⟩ (loop_ok (fun (s : Int × Int × Int × Int) => ⟨[(9, (.one (.own 0 x32 x33))), (11, (Pt 1)), (12, (.one (.own 2 0 x86.1))), (13, (Pt 3)), (14, (I s.1)), (88, (.one (.d (.list (([((w64 (x86.2.1 - 1)), (w64 (x86.2.2.1 - 1))), ((w64 (x86.2.1 - 1)), x86.2.2.1), (x86.2.1, (w64 (x86.2.2.1 - 1)))] : List (Int × Int)).map e_st0))))), (89, (I (([((w64 (x86.2.1 - 1)), (w64 (x86.2.2.1 - 1))), ((w64 (x86.2.1 - 1)), x86.2.2.1), (x86.2.1, (w64 (x86.2.2.1 - 1)))] : List (Int × Int)).length : Int))), (90, (I s.2.1))], [.rows (.int .i64 0) (x35.map (List.map (D.int .i64))) [], .cells [cI x86.2.1, cI x86.2.2.1], .vals (.agg [(.int .i64 0), (.int .i64 0)]) (x86.2.2.2.map e_st0), .cells [cI s.2.2.1, cI s.2.2.2]]⟩) (fun (r : (Int × Int)) => (.exit 4, ⟨[(9, (.one (.own 0 x32 x33))), (11, (Pt 1)), (12, (.one (.own 2 0 x86.1))), (13, (Pt 3))], [.rows (.int .i64 0) (x35.map (List.map (D.int .i64))) [], .cells [cI x86.2.1, cI x86.2.2.1], .vals (.agg [(.int .i64 0), (.int .i64 0)]) (x86.2.2.2.map e_st0), .cells [cI r.1, cI r.2]]⟩)) (fun r h => by cases h) (T_warp_Path_l2_ok k x32 x33 x35 x86.1 ([((w64 (x86.2.1 - 1)), (w64 (x86.2.2.1 - 1))), ((w64 (x86.2.1 - 1)), x86.2.2.1), (x86.2.1, (w64 (x86.2.2.1 - 1)))] : List (Int × Int)) (([((w64 (x86.2.1 - 1)), (w64 (x86.2.2.1 - 1))), ((w64 (x86.2.1 - 1)), x86.2.2.1), (x86.2.1, (w64 (x86.2.2.1 - 1)))] : List (Int × Int)).length : Int) x86.2.1 x86.2.2.1 x86.2.2.2) k (4611686018427387904, 0, x86.2.1, x86.2.2.1) x132 hx132) rfl ?_
   refine K_seq (K_r [] [] (by kernel_rfl) trivial ?_)
   obtain ⟨hx133, H⟩ := guard_some H
   refine K_r [.n 1, .l (((x86.2.2.2.drop 0).take x86.1 ++ ([(x132.1, x132.2)] : List (Int × Int))).map e_st0)] [(List.all (([(x132.1, x132.2)] : List (Int × Int)).map e_st0) fun d => d.cells.length == (D.cells (.agg [(.int .i64 0), (.int .i64 0)])).length) = true, x86.1 + 1 ≤ LIM, (([(x132.1, x132.2)] : List (Int × Int)).map e_st0).length = 1, ((x86.2.2.2.map e_st0).drop 0).take x86.1 ++ (([(x132.1, x132.2)] : List (Int × Int)).map e_st0) = ((x86.2.2.2.drop 0).take x86.1 ++ ([(x132.1, x132.2)] : List (Int × Int))).map e_st0] (by kernel_rfl) (AC (all_ok e_st0 2 ([(x132.1, x132.2)] : List (Int × Int)) (fun _ => rfl)) (AC hx133 (AC (by simp) (A1 (ap_map e_st0 x86.2.2.2 ([(x132.1, x132.2)] : List (Int × Int)) 0 x86.1))))) ?_
   refine K_blk ?_
   cases H
   exact K_end (by kernel_rfl)
 · refine K_f (by kernel_rfl) (Bool.eq_false_iff.2 hx87) ?_
   refine K_g (by kernel_rfl) ?_
   cases H
   exact K_exit0 rfl (by kernel_rfl)
def T_warp_Path (k : Nat) (p1 : List Int) (p2 : List Int) (p3 : Int) : Option ((List (Int × Int)) × Int) := match k with
 | 0 => none
 | k + 1 => ((T_warp_check k p1 p2 p3).bind fun x1 => (if (!decide (x1 = 0)) = true then some ([], x1) else (if (0 : Int) ≤ (p2.length : Int) ∧ (p2.length : Int) ≤ (p2.length : Int) ∧ (p2.length : Int) ≤ (LIM : Int) then (loopT (T_warp_Path_l1 k p1 p2 p3 (p1.length : Int)) k (1, 0, (([[]] : List (List Int)).set 0 (List.replicate (p2.length : Int).toNat (0 : Int))))).bind fun x30 => (if (0 : Int) ≤ 1 ∧ 1 ≤ ((x30.1 : Nat) : Int) ∧ ((x30.1 : Nat) : Int) ≤ ((x30.1 : Nat) : Int) ∧ ((x30.1 : Nat) : Int) ≤ ((x30.1 : Nat) : Int) then (loopT (T_warp_Path_l3 k (0 + 1) (((x30.1 : Nat) : Int).toNat - 1) x30.2) k (1, (w64 ((p1.length : Int) - 1)), (w64 ((p2.length : Int) - 1)), [((w64 ((p1.length : Int) - 1)), (w64 ((p2.length : Int) - 1)))])).bind fun x134 => (T_slices_Reverse_3828 k x134.1 x134.2).bind fun x135 => some (((x135.drop 0).take x134.1), 0) else none) else none)))
abbrev C_T_warp_Path (k : Nat) (p1 : List Int) (p2 : List Int) (p3 : Int) (r : (List (Int × Int)) × Int) : Prop := evF X k n_warp_Path [(LI p1), (LI p2), (I p3)] [] = some ((.tup [(false, [.d (.list (r.1.map e_st0))]), (false, [cI r.2])]), [])
theorem T_warp_Path_ok (k : Nat) (p1 : List Int) (p2 : List Int) (p3 : Int) (r : (List (Int × Int)) × Int) : T_warp_Path k p1 p2 p3 = some r → C_T_warp_Path k p1 p2 p3 r := by
 intro H
 cases k with
 | zero => simp [T_warp_Path] at H
 | succ k =>
  simp only [T_warp_Path] at H
  refine F_in X_warp_Path rfl ?_
  refine K_seq (K_r [] [] (by kernel_rfl) trivial ?_)
  refine K_seq ?_
  refine K_seq ?_
  obtain ⟨x1, hx1, H⟩ := bind_some' H
  refine K_r [.r (I x1) []] [C_T_warp_check k p1 p2 p3 x1] (by kernel_rfl) (A1 (T_warp_check_ok k p1 p2 p3 x1 hx1)) ?_
  refine K_seq (K_r [] [] (by kernel_rfl) trivial ?_)
  rcases ite_some H with ⟨hx2, H⟩ | ⟨hx2, H⟩
  · refine K_t (by kernel_rfl) hx2 ?_
    refine K_seq (K_r [] [] (by kernel_rfl) trivial ?_)
    refine K_g (by kernel_rfl) ?_
    cases H
    refine K_ret ?_
    kernel_rfl
  · refine K_f (by kernel_rfl) (Bool.eq_false_iff.2 hx2) ?_
    refine K_g (by kernel_rfl) ?_
    refine K_skip ?_
    refine K_seq ?_
    obtain ⟨hx3, H⟩ := guard_some H
    refine K_r [.n p2.length, .l ((List.replicate (p2.length : Int).toNat (0 : Int)).map (D.int .i64)), .n 0, .n ((p2.length : Int).toNat), .ll ((([[]] : List (List Int)).set 0 (List.replicate (p2.length : Int).toNat (0 : Int))).map (List.map (D.int .i64))), .br []] [((p2.map (D.int .i64))).length = p2.length, (0 : Int) ≤ (p2.length : Int) ∧ (p2.length : Int) ≤ (p2.length : Int) ∧ (p2.length : Int) ≤ (LIM : Int), List.replicate (p2.length : Int).toNat (.int .i64 0) = (List.replicate (p2.length : Int).toNat (0 : Int)).map (D.int .i64), brHas 0 [(0, .own 0 0 ((p2.length : Int).toNat))] [(0, .own 0 0 ((p2.length : Int).toNat))] = some (0, (p2.length : Int).toNat), (([[]] : List (List Int)).map (List.map (D.int .i64))).set 0 (((List.replicate (p2.length : Int).toNat (0 : Int)).map (D.int .i64)).take ((p2.length : Int).toNat)) = (([[]] : List (List Int)).set 0 (List.replicate (p2.length : Int).toNat (0 : Int))).map (List.map (D.int .i64)), brDel [(0, .own 0 0 ((p2.length : Int).toNat))] 0 = []] (by kernel_rfl) (AC (List.length_map _) (AC hx3 (AC (rep_map (D.int .i64) _ (0 : Int)) (AC bh_1 (AC (bk_all (D.int .i64) ([[]] : List (List Int)) 0 (List.replicate (p2.length : Int).toNat (0 : Int)) ((p2.length : Int).toNat) (by simp)) (A1 bd_1)))))) ?_
    refine K_seq (K_seq (K_r [.n p1.length] [((p1.map (D.int .i64))).length = p1.length] (by kernel_rfl) (A1 (List.length_map _)) ?_))
    refine K_block (K_conv (σ' := ⟨[(0, (LI p1)), (1, (LI p2)), (2, (I p3)), (9, (.one (.own 0 0 1))), (29, (I (p1.length : Int))), (30, (I 0))], [.rows (.int .i64 0) ((([[]] : List (List Int)).set 0 (List.replicate (p2.length : Int).toNat (0 : Int))).map (List.map (D.int .i64))) []]⟩) (by kernel_rfl) ?_)
    obtain ⟨x30, hx30, H⟩ := bind_some' H
    refine K_loop ⟨[(0, (LI p1)), (1, (LI p2)), (9, (.one (.own 0 0 x30.1)))], [.rows (.int .i64 0) (x30.2.map (List.map (D.int .i64))) []]⟩ (loop_ok (fun (s : Nat × Int × (List (List Int))) => ⟨[(0, (LI p1)), (1, (LI p2)), (2, (I p3)), (9, (.one (.own 0 0 s.1))), (29, (I (p1.length : Int))), (30, (I s.2.1))], [.rows (.int .i64 0) (s.2.2.map (List.map (D.int .i64))) []]⟩) (fun (r : (Nat × (List (List Int)))) => (.exit 0, ⟨[(0, (LI p1)), (1, (LI p2)), (9, (.one (.own 0 0 r.1)))], [.rows (.int .i64 0) (r.2.map (List.map (D.int .i64))) []]⟩)) (fun r h => by cases h) (T_warp_Path_l1_ok k p1 p2 p3 (p1.length : Int)) k (1, 0, (([[]] : List (List Int)).set 0 (List.replicate (p2.length : Int).toNat (0 : Int)))) x30 hx30) rfl ?_
    refine K_seq ?_
    obtain ⟨hx31, H⟩ := guard_some H
    refine K_r [] [(0 : Int) ≤ 1 ∧ 1 ≤ ((x30.1 : Nat) : Int) ∧ ((x30.1 : Nat) : Int) ≤ ((x30.1 : Nat) : Int) ∧ ((x30.1 : Nat) : Int) ≤ ((x30.1 : Nat) : Int)] (by kernel_rfl) (A1 hx31) ?_
    refine K_seq (K_r [.n p1.length, .n p2.length] [((p1.map (D.int .i64))).length = p1.length, ((p2.map (D.int .i64))).length = p2.length] (by kernel_rfl) (AC (List.length_map _) (A1 (List.length_map _))) ?_)
    refine K_seq (K_r [] [] (by kernel_rfl) trivial ?_)
    refine K_seq (K_block (K_conv (σ' := ⟨[(9, (.one (.own 0 (0 + 1) (((x30.1 : Nat) : Int).toNat - 1)))), (11, (Pt 1)), (12, (.one (.own 2 0 1)))], [.rows (.int .i64 0) (x30.2.map (List.map (D.int .i64))) [], .cells [cI (w64 ((p1.length : Int) - 1)), cI (w64 ((p2.length : Int) - 1))], .vals (.agg [(.int .i64 0), (.int .i64 0)]) ([((w64 ((p1.length : Int) - 1)), (w64 ((p2.length : Int) - 1)))].map e_st0)]⟩) (by kernel_rfl) ?_))
    obtain ⟨x134, hx134, H⟩ := bind_some' H
    refine K_loop ⟨[(12, (.one (.own 0 0 x134.1)))], [.vals (.agg [(.int .i64 0), (.int .i64 0)]) (x134.2.map e_st0)]⟩ (loop_ok (fun (s : Nat × Int × Int × (List (Int × Int))) => ⟨[(9, (.one (.own 0 (0 + 1) (((x30.1 : Nat) : Int).toNat - 1)))), (11, (Pt 1)), (12, (.one (.own 2 0 s.1)))], [.rows (.int .i64 0) (x30.2.map (List.map (D.int .i64))) [], .cells [cI s.2.1, cI s.2.2.1], .vals (.agg [(.int .i64 0), (.int .i64 0)]) (s.2.2.2.map e_st0)]⟩) (fun (r : (Nat × (List (Int × Int)))) => (.exit 2, ⟨[(12, (.one (.own 0 0 r.1)))], [.vals (.agg [(.int .i64 0), (.int .i64 0)]) (r.2.map e_st0)]⟩)) (fun r h => by cases h) (T_warp_Path_l3_ok k (0 + 1) (((x30.1 : Nat) : Int).toNat - 1) x30.2) k (1, (w64 ((p1.length : Int) - 1)), (w64 ((p2.length : Int) - 1)), [((w64 ((p1.length : Int) - 1)), (w64 ((p2.length : Int) - 1)))]) x134 hx134) rfl ?_
    refine K_seq ?_
    obtain ⟨x135, hx135, H⟩ := bind_some' H
    refine K_r [.r (.tup []) [.vals (.agg [(.int .i64 0), (.int .i64 0)]) (x135.map e_st0)]] [C_T_slices_Reverse_3828 k x134.1 x134.2 x135] (by kernel_rfl) (A1 (T_slices_Reverse_3828_ok k x134.1 x134.2 x135 hx135)) ?_
    refine K_seq (K_r [] [] (by kernel_rfl) trivial ?_)
    refine K_g (by kernel_rfl) ?_
    cases H
    refine K_ret ?_
    exact Eq.trans (b := some ((.tup [(false, [.d (.list (((x135.map e_st0).drop 0).take x134.1))]), (false, [cI 0])]), [])) (by kernel_rfl) (by simp only [dt_map, rl_map, LI, VI])
def T_warp_follows (k : Nat) (p1 : Int) (p2 : Int) (p3 : Int) (p4 : Int) : Option Unit := match k with
 | 0 => none
 | k + 1 => some ()
abbrev C_T_warp_follows (k : Nat) (p1 : Int) (p2 : Int) (p3 : Int) (p4 : Int) (r : Unit) : Prop := evF X k n_warp_follows [(.agg [cI p1, cI p2]), (.agg [cI p3, cI p4])] [] = some ((B ((((decide (0 ≤ (w64 (p3 - p1))) && decide ((w64 (p3 - p1)) ≤ 1)) && decide (0 ≤ (w64 (p4 - p2)))) && decide ((w64 (p4 - p2)) ≤ 1)) && decide (0 < (w64 ((w64 (p3 - p1)) + (w64 (p4 - p2))))))), [])
theorem T_warp_follows_ok (k : Nat) (p1 : Int) (p2 : Int) (p3 : Int) (p4 : Int) (r : Unit) : T_warp_follows k p1 p2 p3 p4 = some r → C_T_warp_follows k p1 p2 p3 p4 r := by
 intro H
 cases k with
 | zero => simp [T_warp_follows] at H
 | succ k =>
  simp only [T_warp_follows] at H
  refine F_in X_warp_follows rfl ?_
  refine K_seq (K_r [] [] (by kernel_rfl) trivial ?_)
  refine K_seq (K_r [] [] (by kernel_rfl) trivial ?_)
  refine K_seq (K_r [.m, .m, .m, .m] [([] : Heap) = [], ([] : Heap) = [], ([] : Heap) = [], ([] : Heap) = []] (by kernel_rfl) (AC rfl (AC rfl (AC rfl (A1 rfl)))) ?_)
  refine K_g (by kernel_rfl) ?_
  cases H
  refine K_ret ?_
  kernel_rfl
end Go.Proofs.Ytnceoalphoodaaa.warpLeast
