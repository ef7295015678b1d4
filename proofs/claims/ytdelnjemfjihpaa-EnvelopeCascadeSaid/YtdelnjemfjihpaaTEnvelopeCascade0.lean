/- What the functions that the statement EnvelopeCascade reaches compute, told as functions of Lean, and that the theory's language computes the same: part 1 of 2. There are no conditions. -/
import Derived.Test.YtdelnjemfjihpaaMEnvelopeCascade
set_option maxRecDepth 100000
set_option linter.unusedVariables false
set_option linter.unusedSimpArgs false
namespace Go.Proofs.Ytdelnjemfjihpaa.envelopeCascade
open Go
def T_keep_New (k : Nat) (p1 : List Int) : Option Unit := match k with
 | 0 => none
 | k + 1 => (if (0 : Int) ≤ 0 ∧ 0 ≤ (imin (p1.length : Int) 2000) ∧ (imin (p1.length : Int) 2000) ≤ (p1.length : Int) ∧ (p1.length : Int) ≤ (p1.length : Int) then some () else none)
abbrev C_T_keep_New (k : Nat) (p1 : List Int) (r : Unit) : Prop := evF X k n_keep_New [(LI p1)] [] = some ((Pt 0), [.cells [cL ((p1.drop 0).take ((imin (p1.length : Int) 2000).toNat - 0)), cI 0]])
theorem T_keep_New_ok (k : Nat) (p1 : List Int) (r : Unit) : T_keep_New k p1 = some r → C_T_keep_New k p1 r := by
 intro H
 cases k with
 | zero => simp [T_keep_New] at H
 | succ k =>
  simp only [T_keep_New] at H
  refine F_in X_keep_New rfl ?_
  refine K_seq (K_r [] [] (by kernel_rfl) trivial ?_)
  refine K_seq ?_
  obtain ⟨hx1, H⟩ := guard_some H
  refine K_r [.n p1.length, .l (((p1.drop 0).take ((imin (p1.length : Int) 2000).toNat - 0)).map (D.int .i64))] [((p1.map (D.int .i64))).length = p1.length, ((p1.map (D.int .i64)).all fun d => d.cells.length == 1) = true, (0 : Int) ≤ 0 ∧ 0 ≤ (imin (p1.length : Int) 2000) ∧ (imin (p1.length : Int) 2000) ≤ (((p1.map (D.int .i64))).length : Int) ∧ (((p1.map (D.int .i64))).length : Int) ≤ (((p1.map (D.int .i64))).length : Int), ((p1.map (D.int .i64)).drop (0 : Int).toNat).take (((imin (p1.length : Int) 2000) : Int).toNat - (0 : Int).toNat) = ((p1.drop 0).take ((imin (p1.length : Int) 2000).toNat - 0)).map (D.int .i64)] (by kernel_rfl) (AC (List.length_map _) (AC (all_ok (D.int .i64) 1 p1 (fun _ => rfl)) (AC (by simpa using hx1) (A1 (dt_map _ _ _ _))))) ?_
  refine K_g (by kernel_rfl) ?_
  cases H
  refine K_ret ?_
  kernel_rfl
def T_keep_Src_Raw (k : Nat) (p1 : List Int) (p2 : Int) : Option (Int × Int) := match k with
 | 0 => none
 | k + 1 => (if (p1.length : Int) ≤ p2 then some (0, p2) else ((at? p1 (w64 ((w64 (p2 + 1)) - 1))).bind fun x2 => some (x2, (w64 (p2 + 1)))))
abbrev C_T_keep_Src_Raw (k : Nat) (p1 : List Int) (p2 : Int) (r : Int × Int) : Prop := evF X k n_keep_Src_Raw [(Pt 0)] [.cells [cL p1, cI p2]] = some ((I r.1), [.cells [cL p1, cI r.2]])
theorem T_keep_Src_Raw_ok (k : Nat) (p1 : List Int) (p2 : Int) (r : Int × Int) : T_keep_Src_Raw k p1 p2 = some r → C_T_keep_Src_Raw k p1 p2 r := by
 intro H
 cases k with
 | zero => simp [T_keep_Src_Raw] at H
 | succ k =>
  simp only [T_keep_Src_Raw] at H
  refine F_in X_keep_Src_Raw rfl ?_
  refine K_seq (K_r [] [] (by kernel_rfl) trivial ?_)
  refine K_seq (K_seq (K_r [.n p1.length] [((p1.map (D.int .i64))).length = p1.length] (by kernel_rfl) (A1 (List.length_map _)) ?_))
  rcases ite_some H with ⟨hx1, H⟩ | ⟨hx1, H⟩
  · refine K_t (by kernel_rfl) (decide_eq_true hx1) ?_
    refine K_seq (K_r [] [] (by kernel_rfl) trivial ?_)
    refine K_g (by kernel_rfl) ?_
    cases H
    refine K_ret ?_
    kernel_rfl
  · refine K_f (by kernel_rfl) (decide_eq_false hx1) ?_
    refine K_g (by kernel_rfl) ?_
    refine K_skip (K_seq (K_r [] [] (by kernel_rfl) trivial ?_))
    refine K_seq ?_
    obtain ⟨x2, hx2, H⟩ := bind_some' H
    refine K_r [.l [.int .i64 x2]] [(0 : Int) ≤ (w64 ((w64 (p2 + 1)) - 1)) ∧ (w64 ((w64 (p2 + 1)) - 1)) < (((p1.map (D.int .i64))).length : Int), ((p1.map (D.int .i64)).getD (w64 ((w64 (p2 + 1)) - 1)).toNat (.int .i64 0)).cells = [.int .i64 x2]] (by kernel_rfl) (AC (at_ok hx2 (D.int .i64) (.int .i64 0)).1 (A1 (at_ok hx2 (D.int .i64) (.int .i64 0)).2)) ?_
    refine K_g (by kernel_rfl) ?_
    cases H
    refine K_ret ?_
    kernel_rfl
def T_keep_Mod (k : Nat) (p1 : Int) (p2 : Int) : Option Int := match k with
 | 0 => none
 | k + 1 => (if p2 < 1 then some 0 else (if p2 ≠ 0 then ((if (p1.tmod p2) < 0 then some (w64 ((p1.tmod p2) + p2)) else some (p1.tmod p2))).bind fun x4 => some x4 else none))
abbrev C_T_keep_Mod (k : Nat) (p1 : Int) (p2 : Int) (r : Int) : Prop := evF X k n_keep_Mod [(I p1), (I p2)] [] = some ((I r), [])
theorem T_keep_Mod_ok (k : Nat) (p1 : Int) (p2 : Int) (r : Int) : T_keep_Mod k p1 p2 = some r → C_T_keep_Mod k p1 p2 r := by
 intro H
 cases k with
 | zero => simp [T_keep_Mod] at H
 | succ k =>
  simp only [T_keep_Mod] at H
  refine F_in X_keep_Mod rfl ?_
  refine K_seq (K_r [] [] (by kernel_rfl) trivial ?_)
  refine K_seq (K_seq (K_r [] [] (by kernel_rfl) trivial ?_))
  rcases ite_some H with ⟨hx1, H⟩ | ⟨hx1, H⟩
  · refine K_t (by kernel_rfl) (decide_eq_true hx1) ?_
    refine K_seq (K_r [] [] (by kernel_rfl) trivial ?_)
    refine K_g (by kernel_rfl) ?_
    cases H
    refine K_ret ?_
    kernel_rfl
  · refine K_f (by kernel_rfl) (decide_eq_false hx1) ?_
    refine K_g (by kernel_rfl) ?_
    refine K_skip ?_
    refine K_seq ?_
    obtain ⟨hx2, H⟩ := guard_some H
    refine K_r [] [p2 ≠ (0 : Int)] (by kernel_rfl) (A1 hx2) ?_
    refine K_seq (K_seq (K_r [] [] (by kernel_rfl) trivial ?_))
    obtain ⟨x4, hx4, H⟩ := bind_some' H
    refine K_of ⟨[(0, (I x4))], []⟩ ?_ ?_
    · clear H; have H := hx4; clear hx4; refine K_in ?_
      rcases ite_some H with ⟨hx3, H⟩ | ⟨hx3, H⟩
      · refine K_t (by kernel_rfl) (decide_eq_true hx3) ?_
        refine K_r [] [] (by kernel_rfl) trivial ?_
        cases H
        exact K_end (by kernel_rfl)
      · refine K_f (by kernel_rfl) (decide_eq_false hx3) ?_
        refine K_g (by kernel_rfl) ?_
        refine K_skip ?_
        cases H
        exact K_end (by kernel_rfl)
    refine K_seq (K_r [] [] (by kernel_rfl) trivial ?_)
    refine K_g (by kernel_rfl) ?_
    cases H
    refine K_ret ?_
    kernel_rfl
def T_keep_Src_N (k : Nat) (p1 : Int) (p2 : List Int) (p3 : Int) : Option (Int × Int) := match k with
 | 0 => none
 | k + 1 => ((T_keep_Src_Raw k p2 p3).bind fun x1 => (T_keep_Mod k x1.1 p1).bind fun x2 => some (x2, x1.2))
abbrev C_T_keep_Src_N (k : Nat) (p1 : Int) (p2 : List Int) (p3 : Int) (r : Int × Int) : Prop := evF X k n_keep_Src_N [(Pt 0), (I p1)] [.cells [cL p2, cI p3]] = some ((I r.1), [.cells [cL p2, cI r.2]])
theorem T_keep_Src_N_ok (k : Nat) (p1 : Int) (p2 : List Int) (p3 : Int) (r : Int × Int) : T_keep_Src_N k p1 p2 p3 = some r → C_T_keep_Src_N k p1 p2 p3 r := by
 intro H
 cases k with
 | zero => simp [T_keep_Src_N] at H
 | succ k =>
  simp only [T_keep_Src_N] at H
  refine F_in X_keep_Src_N rfl ?_
  refine K_seq (K_r [] [] (by kernel_rfl) trivial ?_)
  refine K_seq ?_
  obtain ⟨x1, hx1, H⟩ := bind_some' H
  obtain ⟨x2, hx2, H⟩ := bind_some' H
  refine K_r [.r (I x1.1) [.cells [cL p2, cI x1.2]], .r (I x2) []] [C_T_keep_Src_Raw k p2 p3 x1, C_T_keep_Mod k x1.1 p1 x2] (by kernel_rfl) (AC (T_keep_Src_Raw_ok k p2 p3 x1 hx1) (A1 (T_keep_Mod_ok k x1.1 p1 x2 hx2))) ?_
  refine K_g (by kernel_rfl) ?_
  cases H
  refine K_ret ?_
  kernel_rfl
def T_keep_Src_Range (k : Nat) (p1 : Int) (p2 : Int) (p3 : List Int) (p4 : Int) : Option (Int × Int) := match k with
 | 0 => none
 | k + 1 => ((T_keep_Src_N k (w64 ((w64 (p2 - p1)) + 1)) p3 p4).bind fun x1 => some ((w64 (p1 + x1.1)), x1.2))
abbrev C_T_keep_Src_Range (k : Nat) (p1 : Int) (p2 : Int) (p3 : List Int) (p4 : Int) (r : Int × Int) : Prop := evF X k n_keep_Src_Range [(Pt 0), (I p1), (I p2)] [.cells [cL p3, cI p4]] = some ((I r.1), [.cells [cL p3, cI r.2]])
theorem T_keep_Src_Range_ok (k : Nat) (p1 : Int) (p2 : Int) (p3 : List Int) (p4 : Int) (r : Int × Int) : T_keep_Src_Range k p1 p2 p3 p4 = some r → C_T_keep_Src_Range k p1 p2 p3 p4 r := by
 intro H
 cases k with
 | zero => simp [T_keep_Src_Range] at H
 | succ k =>
  simp only [T_keep_Src_Range] at H
  refine F_in X_keep_Src_Range rfl ?_
  refine K_seq (K_r [] [] (by kernel_rfl) trivial ?_)
  refine K_seq ?_
  obtain ⟨x1, hx1, H⟩ := bind_some' H
  refine K_r [.r (I x1.1) [.cells [cL p3, cI x1.2]]] [C_T_keep_Src_N k (w64 ((w64 (p2 - p1)) + 1)) p3 p4 x1] (by kernel_rfl) (A1 (T_keep_Src_N_ok k (w64 ((w64 (p2 - p1)) + 1)) p3 p4 x1 hx1)) ?_
  refine K_g (by kernel_rfl) ?_
  cases H
  refine K_ret ?_
  kernel_rfl
def T_keep_Src_Length (k : Nat) (p1 : List Int) (p2 : Int) : Option (Int × Int) := match k with
 | 0 => none
 | k + 1 => ((T_keep_Src_N k 8 p1 p2).bind fun x1 => (if x1.1 = 7 then ((T_keep_Src_Range k 13 32 p1 x1.2).bind fun x3 => some (x3.1, x3.2)) else ((T_keep_Src_Range k 2 12 p1 x1.2).bind fun x4 => some (x4.1, x4.2))))
abbrev C_T_keep_Src_Length (k : Nat) (p1 : List Int) (p2 : Int) (r : Int × Int) : Prop := evF X k n_keep_Src_Length [(Pt 0)] [.cells [cL p1, cI p2]] = some ((I r.1), [.cells [cL p1, cI r.2]])
theorem T_keep_Src_Length_ok (k : Nat) (p1 : List Int) (p2 : Int) (r : Int × Int) : T_keep_Src_Length k p1 p2 = some r → C_T_keep_Src_Length k p1 p2 r := by
 intro H
 cases k with
 | zero => simp [T_keep_Src_Length] at H
 | succ k =>
  simp only [T_keep_Src_Length] at H
  refine F_in X_keep_Src_Length rfl ?_
  refine K_seq (K_r [] [] (by kernel_rfl) trivial ?_)
  refine K_seq ?_
  refine K_seq ?_
  obtain ⟨x1, hx1, H⟩ := bind_some' H
  refine K_r [.r (I x1.1) [.cells [cL p1, cI x1.2]]] [C_T_keep_Src_N k 8 p1 p2 x1] (by kernel_rfl) (A1 (T_keep_Src_N_ok k 8 p1 p2 x1 hx1)) ?_
  rcases ite_some H with ⟨hx2, H⟩ | ⟨hx2, H⟩
  · refine K_t (by kernel_rfl) (decide_eq_true hx2) ?_
    refine K_seq ?_
    obtain ⟨x3, hx3, H⟩ := bind_some' H
    refine K_r [.r (I x3.1) [.cells [cL p1, cI x3.2]]] [C_T_keep_Src_Range k 13 32 p1 x1.2 x3] (by kernel_rfl) (A1 (T_keep_Src_Range_ok k 13 32 p1 x1.2 x3 hx3)) ?_
    refine K_g (by kernel_rfl) ?_
    cases H
    refine K_ret ?_
    kernel_rfl
  · refine K_f (by kernel_rfl) (decide_eq_false hx2) ?_
    refine K_g (by kernel_rfl) ?_
    refine K_skip ?_
    refine K_seq ?_
    obtain ⟨x4, hx4, H⟩ := bind_some' H
    refine K_r [.r (I x4.1) [.cells [cL p1, cI x4.2]]] [C_T_keep_Src_Range k 2 12 p1 x1.2 x4] (by kernel_rfl) (A1 (T_keep_Src_Range_ok k 2 12 p1 x1.2 x4 hx4)) ?_
    refine K_g (by kernel_rfl) ?_
    cases H
    refine K_ret ?_
    kernel_rfl
def T_keep_Src_Pick (k : Nat) (p1 : List Int) (p2 : List Int) (p3 : Int) : Option (Int × Int) := match k with
 | 0 => none
 | k + 1 => ((T_keep_Src_N k (p1.length : Int) p2 p3).bind fun x1 => (at? p1 x1.1).bind fun x2 => some (x2, x1.2))
abbrev C_T_keep_Src_Pick (k : Nat) (p1 : List Int) (p2 : List Int) (p3 : Int) (r : Int × Int) : Prop := evF X k n_keep_Src_Pick [(Pt 0), (LI p1)] [.cells [cL p2, cI p3]] = some ((I r.1), [.cells [cL p2, cI r.2]])
theorem T_keep_Src_Pick_ok (k : Nat) (p1 : List Int) (p2 : List Int) (p3 : Int) (r : Int × Int) : T_keep_Src_Pick k p1 p2 p3 = some r → C_T_keep_Src_Pick k p1 p2 p3 r := by
 intro H
 cases k with
 | zero => simp [T_keep_Src_Pick] at H
 | succ k =>
  simp only [T_keep_Src_Pick] at H
  refine F_in X_keep_Src_Pick rfl ?_
  refine K_seq (K_r [] [] (by kernel_rfl) trivial ?_)
  refine K_seq ?_
  obtain ⟨x1, hx1, H⟩ := bind_some' H
  obtain ⟨x2, hx2, H⟩ := bind_some' H
  refine K_r [.n p1.length, .r (I x1.1) [.cells [cL p2, cI x1.2]], .l [.int .i64 x2]] [((p1.map (D.int .i64))).length = p1.length, C_T_keep_Src_N k (p1.length : Int) p2 p3 x1, (0 : Int) ≤ x1.1 ∧ x1.1 < (((p1.map (D.int .i64))).length : Int), ((p1.map (D.int .i64)).getD x1.1.toNat (.int .i64 0)).cells = [.int .i64 x2]] (by kernel_rfl) (AC (List.length_map _) (AC (T_keep_Src_N_ok k (p1.length : Int) p2 p3 x1 hx1) (AC (at_ok hx2 (D.int .i64) (.int .i64 0)).1 (A1 (at_ok hx2 (D.int .i64) (.int .i64 0)).2)))) ?_
  refine K_g (by kernel_rfl) ?_
  cases H
  refine K_ret ?_
  kernel_rfl
def T_keep_clip (k : Nat) (p1 : Int) : Option Unit := match k with
 | 0 => none
 | k + 1 => some ()
abbrev C_T_keep_clip (k : Nat) (p1 : Int) (r : Unit) : Prop := evF X k n_keep_clip [(I p1)] [] = some ((I (imin (imax p1 (-1000)) 1000)), [])
theorem T_keep_clip_ok (k : Nat) (p1 : Int) (r : Unit) : T_keep_clip k p1 = some r → C_T_keep_clip k p1 r := by
 intro H
 cases k with
 | zero => simp [T_keep_clip] at H
 | succ k =>
  simp only [T_keep_clip] at H
  refine F_in X_keep_clip rfl ?_
  refine K_seq (K_r [] [] (by kernel_rfl) trivial ?_)
  refine K_seq (K_r [] [] (by kernel_rfl) trivial ?_)
  refine K_g (by kernel_rfl) ?_
  cases H
  refine K_ret ?_
  kernel_rfl
def T_keep_Src_List_l1 (k : Nat) (p1 : Int) (p2 : List Int) (x8 : Int) (x9 : Int) (x37 : Int × Nat × Int × Int × (List Int)) : Option ((Int × Nat × Int × Int × (List Int)) ⊕ ((Nat × Int × (List Int)))) :=
 (if x37.2.2.1 < p1 then (((if x8 = 0 then some (decide (x8 = 0)) else some (decide (x8 = 1)))).bind fun x40 => ((if x40 = true then (T_keep_Src_Range k (w64 (0 - x9)) x9 p2 x37.2.2.2.1).bind fun x42 => (if x37.2.1 + 1 ≤ LIM then some (x37.1, x42.2, ((x37.2.2.2.2.drop 0).take x37.2.1 ++ ([x42.1] : List Int))) else none) else (((if x8 = 2 then some (decide (x8 = 2)) else some (decide (x8 = 3)))).bind fun x45 => (if x45 = true then (T_keep_Src_Range k (w64 (0 - x9)) x9 p2 x37.2.2.2.1).bind fun x47 => (T_keep_clip k (w64 (x37.1 + x47.1))).bind fun x48 => (if x37.2.1 + 1 ≤ LIM then some ((imin (imax (w64 (x37.1 + x47.1)) (-1000)) 1000), x47.2, ((x37.2.2.2.2.drop 0).take x37.2.1 ++ ([(imin (imax (w64 (x37.1 + x47.1)) (-1000)) 1000)] : List Int))) else none) else (if x8 = 4 then (T_keep_Src_N k 4 p2 x37.2.2.2.1).bind fun x51 => ((if x51.1 = 0 then ((T_keep_Src_Range k (w64 (0 - x9)) x9 p2 x51.2).bind fun x53 => some (x53.1, x53.2)) else some (x37.1, x51.2))).bind fun x54 => (if x37.2.1 + 1 ≤ LIM then some (x54.1, x54.2, ((x37.2.2.2.2.drop 0).take x37.2.1 ++ ([x54.1] : List Int))) else none) else (T_keep_Src_Pick k ([(-1000), 1000, 1000, 0] : List Int) p2 x37.2.2.2.1).bind fun x56 => (if x37.2.1 + 1 ≤ LIM then some (x37.1, x56.2, ((x37.2.2.2.2.drop 0).take x37.2.1 ++ ([x56.1] : List Int))) else none)))))).bind fun x58 => some (.inl (x58.1, (x37.2.1 + 1), (w64 (x37.2.2.1 + 1)), x58.2.1, x58.2.2))) else some (.inr (x37.2.1, x37.2.2.2.1, x37.2.2.2.2)))
theorem T_keep_Src_List_l1_ok (k : Nat) (p1 : Int) (p2 : List Int) (x8 : Int) (x9 : Int) : ∀ (x37 : Int × Nat × Int × Int × (List Int)) (x : (Int × Nat × Int × Int × (List Int)) ⊕ ((Nat × Int × (List Int)))), T_keep_Src_List_l1 k p1 p2 x8 x9 x37 = some x → evC X (evF X k) k 1 l_keep_Src_List_1 ⟨[(0, (Pt 0)), (1, (I p1)), (5, (I x8)), (6, (I x9)), (7, (I x37.1)), (8, (.one (.own 1 0 x37.2.1))), (9, (I x37.2.2.1))], [.cells [cL p2, cI x37.2.2.2.1], VI x37.2.2.2.2]⟩ = some (outS (fun (s : Int × Nat × Int × Int × (List Int)) => ⟨[(0, (Pt 0)), (1, (I p1)), (5, (I x8)), (6, (I x9)), (7, (I s.1)), (8, (.one (.own 1 0 s.2.1))), (9, (I s.2.2.1))], [.cells [cL p2, cI s.2.2.2.1], VI s.2.2.2.2]⟩) (fun (r : (Nat × Int × (List Int))) => (.exit 0, ⟨[(8, (.one (.own 1 0 r.1)))], [.cells [cL p2, cI r.2.1], VI r.2.2]⟩)) x) := by
 intro x37 x H
 unfold T_keep_Src_List_l1 at H
 refine K_in ?_
 refine K_seq (K_seq (K_r [] [] (by kernel_rfl) trivial ?_))
 rcases ite_some H with ⟨hx38, H⟩ | ⟨hx38, H⟩
 · refine K_t (by kernel_rfl) (decide_eq_true hx38) ?_
   refine K_g (by kernel_rfl) ?_
   refine K_skip (K_seq (K_block (K_seq (K_r [] [] (by kernel_rfl) trivial ?_))))
   refine K_block (K_seq (K_seq (K_r [] [] (by kernel_rfl) trivial ?_)))
   obtain ⟨x40, hx40, H⟩ := bind_some' H
   refine K_of ⟨[(0, (Pt 0)), (1, (I p1)), (5, (I x8)), (6, (I x9)), (7, (I x37.1)), (8, (.one (.own 1 0 x37.2.1))), (9, (I x37.2.2.1)), (25, (I x8)), (32, (B x40))], [.cells [cL p2, cI x37.2.2.2.1], VI x37.2.2.2.2]⟩ ?_ ?_
   · clear H; have H := hx40; clear hx40; refine K_in ?_
     rcases ite_some H with ⟨hx39, H⟩ | ⟨hx39, H⟩
     · refine K_t (by kernel_rfl) (decide_eq_true hx39) ?_
       refine K_g (by kernel_rfl) ?_
       refine K_skip ?_
       cases H
       exact K_end (by kernel_rfl)
     · refine K_f (by kernel_rfl) (decide_eq_false hx39) ?_
       refine K_r [] [] (by kernel_rfl) trivial ?_
       cases H
       exact K_end (by kernel_rfl)
   obtain ⟨x58, hx58, H⟩ := bind_some' H
   refine K_of ⟨[(0, (Pt 0)), (1, (I p1)), (5, (I x8)), (6, (I x9)), (7, (I x58.1)), (8, (.one (.own 1 0 (x37.2.1 + 1)))), (9, (I x37.2.2.1))], [.cells [cL p2, cI x58.2.1], VI x58.2.2]⟩ ?_ ?_
   · clear H; have H := hx58; clear hx58; refine K_in ?_
     rcases ite_some H with ⟨hx41, H⟩ | ⟨hx41, H⟩
     · refine K_t (by kernel_rfl) hx41 ?_
       obtain ⟨x42, hx42, H⟩ := bind_some' H
       obtain ⟨hx43, H⟩ := guard_some H
       refine K_r [.r (I x42.1) [.cells [cL p2, cI x42.2]], .n 1, .l (((x37.2.2.2.2.drop 0).take x37.2.1 ++ ([x42.1] : List Int)).map (D.int .i64))] [C_T_keep_Src_Range k (w64 (0 - x9)) x9 p2 x37.2.2.2.1 x42, (List.all (([x42.1] : List Int).map (D.int .i64)) fun d => d.cells.length == (D.cells (.int .i64 0)).length) = true, x37.2.1 + 1 ≤ LIM, (([x42.1] : List Int).map (D.int .i64)).length = 1, ((x37.2.2.2.2.map (D.int .i64)).drop 0).take x37.2.1 ++ (([x42.1] : List Int).map (D.int .i64)) = ((x37.2.2.2.2.drop 0).take x37.2.1 ++ ([x42.1] : List Int)).map (D.int .i64)] (by kernel_rfl) (AC (T_keep_Src_Range_ok k (w64 (0 - x9)) x9 p2 x37.2.2.2.1 x42 hx42) (AC (all_ok (D.int .i64) 1 ([x42.1] : List Int) (fun _ => rfl)) (AC hx43 (AC (by simp) (A1 (ap_map (D.int .i64) x37.2.2.2.2 ([x42.1] : List Int) 0 x37.2.1)))))) ?_
       cases H
       exact K_end (by kernel_rfl)
     · refine K_f (by kernel_rfl) (Bool.eq_false_iff.2 hx41) ?_
       refine K_seq (K_seq (K_r [] [] (by kernel_rfl) trivial ?_))
       obtain ⟨x45, hx45, H⟩ := bind_some' H
       refine K_of ⟨[(0, (Pt 0)), (1, (I p1)), (5, (I x8)), (6, (I x9)), (7, (I x37.1)), (8, (.one (.own 1 0 x37.2.1))), (9, (I x37.2.2.1)), (25, (I x8)), (43, (B x45))], [.cells [cL p2, cI x37.2.2.2.1], VI x37.2.2.2.2]⟩ ?_ ?_
       · clear H; have H := hx45; clear hx45; refine K_in ?_
         rcases ite_some H with ⟨hx44, H⟩ | ⟨hx44, H⟩
         · refine K_t (by kernel_rfl) (decide_eq_true hx44) ?_
           refine K_g (by kernel_rfl) ?_
           refine K_skip ?_
           cases H
           exact K_end (by kernel_rfl)
         · refine K_f (by kernel_rfl) (decide_eq_false hx44) ?_
           refine K_r [] [] (by kernel_rfl) trivial ?_
           cases H
           exact K_end (by kernel_rfl)
       rcases ite_some H with ⟨hx46, H⟩ | ⟨hx46, H⟩
       · refine K_t (by kernel_rfl) hx46 ?_
         refine K_seq ?_
         obtain ⟨x47, hx47, H⟩ := bind_some' H
         obtain ⟨x48, hx48, H⟩ := bind_some' H
         refine K_r [.r (I x47.1) [.cells [cL p2, cI x47.2]], .r (I (imin (imax (w64 (x37.1 + x47.1)) (-1000)) 1000)) []] [C_T_keep_Src_Range k (w64 (0 - x9)) x9 p2 x37.2.2.2.1 x47, C_T_keep_clip k (w64 (x37.1 + x47.1)) x48] (by kernel_rfl) (AC (T_keep_Src_Range_ok k (w64 (0 - x9)) x9 p2 x37.2.2.2.1 x47 hx47) (A1 (T_keep_clip_ok k (w64 (x37.1 + x47.1)) x48 hx48))) ?_
         obtain ⟨hx49, H⟩ := guard_some H
         refine K_r [.n 1, .l (((x37.2.2.2.2.drop 0).take x37.2.1 ++ ([(imin (imax (w64 (x37.1 + x47.1)) (-1000)) 1000)] : List Int)).map (D.int .i64))] [(List.all (([(imin (imax (w64 (x37.1 + x47.1)) (-1000)) 1000)] : List Int).map (D.int .i64)) fun d => d.cells.length == (D.cells (.int .i64 0)).length) = true, x37.2.1 + 1 ≤ LIM, (([(imin (imax (w64 (x37.1 + x47.1)) (-1000)) 1000)] : List Int).map (D.int .i64)).length = 1, ((x37.2.2.2.2.map (D.int .i64)).drop 0).take x37.2.1 ++ (([(imin (imax (w64 (x37.1 + x47.1)) (-1000)) 1000)] : List Int).map (D.int .i64)) = ((x37.2.2.2.2.drop 0).take x37.2.1 ++ ([(imin (imax (w64 (x37.1 + x47.1)) (-1000)) 1000)] : List Int)).map (D.int .i64)] (by kernel_rfl) (AC (all_ok (D.int .i64) 1 ([(imin (imax (w64 (x37.1 + x47.1)) (-1000)) 1000)] : List Int) (fun _ => rfl)) (AC hx49 (AC (by simp) (A1 (ap_map (D.int .i64) x37.2.2.2.2 ([(imin (imax (w64 (x37.1 + x47.1)) (-1000)) 1000)] : List Int) 0 x37.2.1))))) ?_
         cases H
         exact K_end (by kernel_rfl)
       · refine K_f (by kernel_rfl) (Bool.eq_false_iff.2 hx46) ?_
         refine K_seq (K_r [] [] (by kernel_rfl) trivial ?_)
         rcases ite_some H with ⟨hx50, H⟩ | ⟨hx50, H⟩
         · refine K_t (by kernel_rfl) (decide_eq_true hx50) ?_
           refine K_seq ?_
           refine K_seq ?_
           obtain ⟨x51, hx51, H⟩ := bind_some' H
           refine K_r [.r (I x51.1) [.cells [cL p2, cI x51.2]]] [C_T_keep_Src_N k 4 p2 x37.2.2.2.1 x51] (by kernel_rfl) (A1 (T_keep_Src_N_ok k 4 p2 x37.2.2.2.1 x51 hx51)) ?_
           obtain ⟨x54, hx54, H⟩ := bind_some' H
           refine K_of ⟨[(0, (Pt 0)), (1, (I p1)), (5, (I x8)), (6, (I x9)), (7, (I x54.1)), (8, (.one (.own 1 0 x37.2.1))), (9, (I x37.2.2.1))], [.cells [cL p2, cI x54.2], VI x37.2.2.2.2]⟩ ?_ ?_
           · clear H; have H := hx54; clear hx54; refine K_in ?_
             rcases ite_some H with ⟨hx52, H⟩ | ⟨hx52, H⟩
             · refine K_t (by kernel_rfl) (decide_eq_true hx52) ?_
               obtain ⟨x53, hx53, H⟩ := bind_some' H
               refine K_r [.r (I x53.1) [.cells [cL p2, cI x53.2]]] [C_T_keep_Src_Range k (w64 (0 - x9)) x9 p2 x51.2 x53] (by kernel_rfl) (A1 (T_keep_Src_Range_ok k (w64 (0 - x9)) x9 p2 x51.2 x53 hx53)) ?_
               cases H
               exact K_end (by kernel_rfl)
             · refine K_f (by kernel_rfl) (decide_eq_false hx52) ?_
               refine K_g (by kernel_rfl) ?_
               refine K_skip ?_
               cases H
               exact K_end (by kernel_rfl)
           obtain ⟨hx55, H⟩ := guard_some H
           refine K_r [.n 1, .l (((x37.2.2.2.2.drop 0).take x37.2.1 ++ ([x54.1] : List Int)).map (D.int .i64))] [(List.all (([x54.1] : List Int).map (D.int .i64)) fun d => d.cells.length == (D.cells (.int .i64 0)).length) = true, x37.2.1 + 1 ≤ LIM, (([x54.1] : List Int).map (D.int .i64)).length = 1, ((x37.2.2.2.2.map (D.int .i64)).drop 0).take x37.2.1 ++ (([x54.1] : List Int).map (D.int .i64)) = ((x37.2.2.2.2.drop 0).take x37.2.1 ++ ([x54.1] : List Int)).map (D.int .i64)] (by kernel_rfl) (AC (all_ok (D.int .i64) 1 ([x54.1] : List Int) (fun _ => rfl)) (AC hx55 (AC (by simp) (A1 (ap_map (D.int .i64) x37.2.2.2.2 ([x54.1] : List Int) 0 x37.2.1))))) ?_
           cases H
           exact K_end (by kernel_rfl)
         · refine K_f (by kernel_rfl) (decide_eq_false hx50) ?_
           obtain ⟨x56, hx56, H⟩ := bind_some' H
           obtain ⟨hx57, H⟩ := guard_some H
           refine K_r [.r (I x56.1) [.cells [cL p2, cI x56.2]], .n 1, .l (((x37.2.2.2.2.drop 0).take x37.2.1 ++ ([x56.1] : List Int)).map (D.int .i64))] [C_T_keep_Src_Pick k ([(-1000), 1000, 1000, 0] : List Int) p2 x37.2.2.2.1 x56, (List.all (([x56.1] : List Int).map (D.int .i64)) fun d => d.cells.length == (D.cells (.int .i64 0)).length) = true, x37.2.1 + 1 ≤ LIM, (([x56.1] : List Int).map (D.int .i64)).length = 1, ((x37.2.2.2.2.map (D.int .i64)).drop 0).take x37.2.1 ++ (([x56.1] : List Int).map (D.int .i64)) = ((x37.2.2.2.2.drop 0).take x37.2.1 ++ ([x56.1] : List Int)).map (D.int .i64)] (by kernel_rfl) (AC (T_keep_Src_Pick_ok k ([(-1000), 1000, 1000, 0] : List Int) p2 x37.2.2.2.1 x56 hx56) (AC (all_ok (D.int .i64) 1 ([x56.1] : List Int) (fun _ => rfl)) (AC hx57 (AC (by simp) (A1 (ap_map (D.int .i64) x37.2.2.2.2 ([x56.1] : List Int) 0 x37.2.1)))))) ?_
           cases H
           exact K_end (by kernel_rfl)
   refine K_blk (K_blk (K_r [] [] (by kernel_rfl) trivial ?_))
   cases H
   exact K_end (by kernel_rfl)
 · refine K_f (by kernel_rfl) (decide_eq_false hx38) ?_
   refine K_g (by kernel_rfl) ?_
   cases H
   exact K_exit0 rfl (by kernel_rfl)
def T_keep_Src_List (k : Nat) (p1 : Int) (p2 : List Int) (p3 : Int) : Option ((List Int) × Int) := match k with
 | 0 => none
 | k + 1 => ((T_keep_Src_N k 6 p2 p3).bind fun x1 => (T_keep_Src_Pick k ([1, 3, 10, 100, 1000] : List Int) p2 x1.2).bind fun x2 => (T_keep_Src_N k 3 p2 x2.2).bind fun x3 => ((if x3.1 = 0 then ((T_keep_Src_Range k (-1000) 1000 p2 x3.2).bind fun x5 => some (x5.1, x5.2)) else some (0, x3.2))).bind fun x6 => (loopT (T_keep_Src_List_l1 k p1 p2 x1.1 x2.1) k (x6.1, 0, 0, x6.2, [])).bind fun x59 => some (((x59.2.2.drop 0).take x59.1), x59.2.1))
abbrev C_T_keep_Src_List (k : Nat) (p1 : Int) (p2 : List Int) (p3 : Int) (r : (List Int) × Int) : Prop := evF X k n_keep_Src_List [(Pt 0), (I p1)] [.cells [cL p2, cI p3]] = some ((LI r.1), [.cells [cL p2, cI r.2]])
theorem T_keep_Src_List_ok (k : Nat) (p1 : Int) (p2 : List Int) (p3 : Int) (r : (List Int) × Int) : T_keep_Src_List k p1 p2 p3 = some r → C_T_keep_Src_List k p1 p2 p3 r := by
 intro H
 cases k with
 | zero => simp [T_keep_Src_List] at H
 | succ k =>
  simp only [T_keep_Src_List] at H
  refine F_in X_keep_Src_List rfl ?_
  refine K_seq (K_r [] [] (by kernel_rfl) trivial ?_)
  refine K_seq ?_
  obtain ⟨x1, hx1, H⟩ := bind_some' H
  obtain ⟨x2, hx2, H⟩ := bind_some' H
  refine K_r [.r (I x1.1) [.cells [cL p2, cI x1.2]], .r (I x2.1) [.cells [cL p2, cI x2.2]]] [C_T_keep_Src_N k 6 p2 p3 x1, C_T_keep_Src_Pick k ([1, 3, 10, 100, 1000] : List Int) p2 x1.2 x2] (by kernel_rfl) (AC (T_keep_Src_N_ok k 6 p2 p3 x1 hx1) (A1 (T_keep_Src_Pick_ok k ([1, 3, 10, 100, 1000] : List Int) p2 x1.2 x2 hx2))) ?_
  refine K_seq ?_
  refine K_seq ?_
  obtain ⟨x3, hx3, H⟩ := bind_some' H
  refine K_r [.r (I x3.1) [.cells [cL p2, cI x3.2]]] [C_T_keep_Src_N k 3 p2 x2.2 x3] (by kernel_rfl) (A1 (T_keep_Src_N_ok k 3 p2 x2.2 x3 hx3)) ?_
  obtain ⟨x6, hx6, H⟩ := bind_some' H
  refine K_of ⟨[(0, (Pt 0)), (1, (I p1)), (5, (I x1.1)), (6, (I x2.1)), (7, (I x6.1))], [.cells [cL p2, cI x6.2]]⟩ ?_ ?_
  · clear H; have H := hx6; clear hx6; refine K_in ?_
    rcases ite_some H with ⟨hx4, H⟩ | ⟨hx4, H⟩
    · refine K_t (by kernel_rfl) (decide_eq_true hx4) ?_
      obtain ⟨x5, hx5, H⟩ := bind_some' H
      refine K_r [.r (I x5.1) [.cells [cL p2, cI x5.2]]] [C_T_keep_Src_Range k (-1000) 1000 p2 x3.2 x5] (by kernel_rfl) (A1 (T_keep_Src_Range_ok k (-1000) 1000 p2 x3.2 x5 hx5)) ?_
      cases H
      exact K_end (by kernel_rfl)
    · refine K_f (by kernel_rfl) (decide_eq_false hx4) ?_
      refine K_g (by kernel_rfl) ?_
      refine K_skip ?_
      cases H
      exact K_end (by kernel_rfl)
  refine K_seq (K_r [] [] (by kernel_rfl) trivial ?_)
  refine K_seq (K_seq (K_r [] [] (by kernel_rfl) trivial ?_))
  refine K_block (K_g (by kernel_rfl) ?_)
  refine K_conv (σ' := ⟨[(0, (Pt 0)), (1, (I p1)), (5, (I x1.1)), (6, (I x2.1)), (7, (I x6.1)), (8, (.one (.own 1 0 0))), (9, (I 0))], [.cells [cL p2, cI x6.2], VI []]⟩) (by kernel_rfl) ?_
  obtain ⟨x59, hx59, H⟩ := bind_some' H
  refine K_loop ⟨[(8, (.one (.own 1 0 x59.1)))], [.cells [cL p2, cI x59.2.1], VI x59.2.2]⟩ (loop_ok (fun (s : Int × Nat × Int × Int × (List Int)) => ⟨[(0, (Pt 0)), (1, (I p1)), (5, (I x1.1)), (6, (I x2.1)), (7, (I s.1)), (8, (.one (.own 1 0 s.2.1))), (9, (I s.2.2.1))], [.cells [cL p2, cI s.2.2.2.1], VI s.2.2.2.2]⟩) (fun (r : (Nat × Int × (List Int))) => (.exit 0, ⟨[(8, (.one (.own 1 0 r.1)))], [.cells [cL p2, cI r.2.1], VI r.2.2]⟩)) (fun r h => by cases h) (T_keep_Src_List_l1_ok k p1 p2 x1.1 x2.1) k (x6.1, 0, 0, x6.2, []) x59 hx59) rfl ?_
  refine K_seq (K_r [] [] (by kernel_rfl) trivial ?_)
  refine K_g (by kernel_rfl) ?_
  cases H
  refine K_ret ?_
  exact Eq.trans (b := some ((.one (.d (.list (((x59.2.2.map (D.int .i64)).drop 0).take x59.1)))), [.cells [cL p2, cI x59.2.1]])) (by kernel_rfl) (by simp only [dt_map, rl_map, LI, VI])
def T_keep_Src_Near_l1 (k : Nat) (p1 : List Int) (p2 : List Int) (x6 : Int) (x7 : Int) (x8 : Int) (x9 : Nat) (x10 : Int) (x42 : Int × Int × (List Int)) : Option ((Int × Int × (List Int)) ⊕ ((Int × (List Int)))) :=
 (if x42.1 < x10 then (((if x6 = 1 then (if (0 : Int) ≤ x42.1 ∧ x42.1 < ((x9 : Nat) : Int) then (x42.2.2[(0 + x42.1.toNat)]?).bind fun x46 => (T_keep_Src_Range k (-2) 2 p2 x42.2.1).bind fun x47 => (T_keep_clip k (w64 (x46 + x47.1))).bind fun x48 => some (x47.2, (x42.2.2.set (0 + x42.1.toNat) (imin (imax (w64 (x46 + x47.1)) (-1000)) 1000))) else none) else (if x6 = 2 then (if (0 : Int) ≤ x42.1 ∧ x42.1 < ((x9 : Nat) : Int) then (x42.2.2[(0 + x42.1.toNat)]?).bind fun x51 => (T_keep_clip k (w64 (x51 + x7))).bind fun x52 => some (x42.2.1, (x42.2.2.set (0 + x42.1.toNat) (imin (imax (w64 (x51 + x7)) (-1000)) 1000))) else none) else (if x6 = 3 then (if (0 : Int) ≤ x42.1 ∧ x42.1 < ((x9 : Nat) : Int) then (x42.2.2[(0 + x42.1.toNat)]?).bind fun x55 => (T_keep_clip k (w64 ((w64 (x55 * x8)) + x7))).bind fun x56 => some (x42.2.1, (x42.2.2.set (0 + x42.1.toNat) (imin (imax (w64 ((w64 (x55 * x8)) + x7)) (-1000)) 1000))) else none) else (if x6 = 4 then (at? p1 (w64 ((w64 ((p1.length : Int) - 1)) - x42.1))).bind fun x58 => (if (0 : Int) ≤ x42.1 ∧ x42.1 < ((x9 : Nat) : Int) then some (x42.2.1, (x42.2.2.set (0 + x42.1.toNat) x58)) else none) else (if x6 = 5 then (T_keep_Src_Range k (-1) 1 p2 x42.2.1).bind fun x61 => (T_keep_Mod k (w64 (x42.1 + x61.1)) (p1.length : Int)).bind fun x62 => (at? p1 x62).bind fun x63 => (if (0 : Int) ≤ x42.1 ∧ x42.1 < ((x9 : Nat) : Int) then some (x61.2, (x42.2.2.set (0 + x42.1.toNat) x63)) else none) else (if x6 = 6 then (if (0 : Int) ≤ x42.1 ∧ x42.1 < ((x9 : Nat) : Int) then (x42.2.2[(0 + x42.1.toNat)]?).bind fun x67 => (T_keep_clip k (w64 (x7 - (w64 (x67 * x8))))).bind fun x68 => some (x42.2.1, (x42.2.2.set (0 + x42.1.toNat) (imin (imax (w64 (x7 - (w64 (x67 * x8)))) (-1000)) 1000))) else none) else some (x42.2.1, x42.2.2)))))))).bind fun x69 => some (.inl ((w64 (x42.1 + 1)), x69.1, x69.2))) else some (.inr (x42.2.1, x42.2.2)))
theorem T_keep_Src_Near_l1_ok (k : Nat) (p1 : List Int) (p2 : List Int) (x6 : Int) (x7 : Int) (x8 : Int) (x9 : Nat) (x10 : Int) : ∀ (x42 : Int × Int × (List Int)) (x : (Int × Int × (List Int)) ⊕ ((Int × (List Int)))), T_keep_Src_Near_l1 k p1 p2 x6 x7 x8 x9 x10 x42 = some x → evC X (evF X k) k 1 l_keep_Src_Near_1 ⟨[(0, (Pt 0)), (1, (LI p1)), (5, (I x6)), (6, (I x7)), (7, (I x8)), (8, (.one (.own 1 0 x9))), (20, (I x10)), (21, (I x42.1))], [.cells [cL p2, cI x42.2.1], VI x42.2.2]⟩ = some (outS (fun (s : Int × Int × (List Int)) => ⟨[(0, (Pt 0)), (1, (LI p1)), (5, (I x6)), (6, (I x7)), (7, (I x8)), (8, (.one (.own 1 0 x9))), (20, (I x10)), (21, (I s.1))], [.cells [cL p2, cI s.2.1], VI s.2.2]⟩) (fun (r : (Int × (List Int))) => (.exit 0, ⟨[(8, (.one (.own 1 0 x9)))], [.cells [cL p2, cI r.1], VI r.2]⟩)) x) := by
 intro x42 x H
 unfold T_keep_Src_Near_l1 at H
 refine K_in ?_
 refine K_seq (K_r [] [] (by kernel_rfl) trivial ?_)
 refine K_seq ?_
 rcases ite_some H with ⟨hx43, H⟩ | ⟨hx43, H⟩
 · refine K_t (by kernel_rfl) (decide_eq_true hx43) ?_
   refine K_g (by kernel_rfl) ?_
   refine K_skip (K_seq (K_block (K_seq (K_r [] [] (by kernel_rfl) trivial ?_))))
   refine K_seq (K_r [] [] (by kernel_rfl) trivial ?_)
   refine K_block (K_seq (K_r [] [] (by kernel_rfl) trivial ?_))
   obtain ⟨x69, hx69, H⟩ := bind_some' H
   refine K_of ⟨[(0, (Pt 0)), (1, (LI p1)), (5, (I x6)), (6, (I x7)), (7, (I x8)), (8, (.one (.own 1 0 x9))), (20, (I x10)), (21, (I x42.1))], [.cells [cL p2, cI x69.1], VI x69.2]⟩ ?_ ?_
   · clear H; have H := hx69; clear hx69; refine K_in ?_
     rcases ite_some H with ⟨hx44, H⟩ | ⟨hx44, H⟩
     · refine K_t (by kernel_rfl) (decide_eq_true hx44) ?_
       obtain ⟨hx45, H⟩ := guard_some H
       obtain ⟨x46, hx46, H⟩ := bind_some' H
       obtain ⟨x47, hx47, H⟩ := bind_some' H
       obtain ⟨x48, hx48, H⟩ := bind_some' H
       refine K_rD [.l [.int .i64 x46], .r (I x47.1) [.cells [cL p2, cI x47.2]], .r (I (imin (imax (w64 (x46 + x47.1)) (-1000)) 1000)) [], .l ((x42.2.2.set (0 + x42.1.toNat) (imin (imax (w64 (x46 + x47.1)) (-1000)) 1000)).map (D.int .i64)), .r (I x47.1) [.cells [cL p2, cI x47.2]], .l [.int .i64 x46], .r (I (imin (imax (w64 (x46 + x47.1)) (-1000)) 1000)) [], .l ((x42.2.2.set (0 + x42.1.toNat) (imin (imax (w64 (x46 + x47.1)) (-1000)) 1000)).map (D.int .i64)), .r (I x47.1) [.cells [cL p2, cI x47.2]], .l [.int .i64 x46], .r (I (imin (imax (w64 (x46 + x47.1)) (-1000)) 1000)) [], .l ((x42.2.2.set (0 + x42.1.toNat) (imin (imax (w64 (x46 + x47.1)) (-1000)) 1000)).map (D.int .i64))] ((fun (z1 : St) => [(0 : Int) ≤ x42.1 ∧ x42.1 < ((x9 : Nat) : Int), ((x42.2.2.map (D.int .i64)).getD (0 + x42.1.toNat) (.int .i64 0)).cells = [.int .i64 x46], C_T_keep_Src_Range k (-2) 2 p2 x42.2.1 x47, C_T_keep_clip k (w64 (x46 + x47.1)) x48, (0 : Int) ≤ x42.1 ∧ x42.1 < ((x9 : Nat) : Int), (x42.2.2.map (D.int .i64)).set (0 + x42.1.toNat) (elemOf (.int .i64 0) (splice ((x42.2.2.map (D.int .i64)).getD (0 + x42.1.toNat) (.int .i64 0)).cells 0 [.int .i64 (imin (imax (w64 (x46 + x47.1)) (-1000)) 1000)])) = (x42.2.2.set (0 + x42.1.toNat) (imin (imax (w64 (x46 + x47.1)) (-1000)) 1000)).map (D.int .i64), C_T_keep_Src_Range k (-2) 2 p2 x42.2.1 x47, ((x42.2.2.map (D.int .i64)).getD (0 + x42.1.toNat) (.int .i64 0)).cells = [.int .i64 x46], C_T_keep_clip k (w64 (x46 + x47.1)) x48, (0 : Int) ≤ x42.1 ∧ x42.1 < ((x9 : Nat) : Int), (x42.2.2.map (D.int .i64)).set (0 + x42.1.toNat) (elemOf (.int .i64 0) (splice ((x42.2.2.map (D.int .i64)).getD (0 + x42.1.toNat) (.int .i64 0)).cells 0 [.int .i64 (imin (imax (w64 (x46 + x47.1)) (-1000)) 1000)])) = (x42.2.2.set (0 + x42.1.toNat) (imin (imax (w64 (x46 + x47.1)) (-1000)) 1000)).map (D.int .i64), z1 = z1, C_T_keep_Src_Range k (-2) 2 p2 x42.2.1 x47, (0 : Int) ≤ x42.1 ∧ x42.1 < ((x9 : Nat) : Int), ((x42.2.2.map (D.int .i64)).getD (0 + x42.1.toNat) (.int .i64 0)).cells = [.int .i64 x46], C_T_keep_clip k (w64 (x46 + x47.1)) x48, (0 : Int) ≤ x42.1 ∧ x42.1 < ((x9 : Nat) : Int), (x42.2.2.map (D.int .i64)).set (0 + x42.1.toNat) (elemOf (.int .i64 0) (splice ((x42.2.2.map (D.int .i64)).getD (0 + x42.1.toNat) (.int .i64 0)).cells 0 [.int .i64 (imin (imax (w64 (x46 + x47.1)) (-1000)) 1000)])) = (x42.2.2.set (0 + x42.1.toNat) (imin (imax (w64 (x46 + x47.1)) (-1000)) 1000)).map (D.int .i64), z1 = z1]) (⟨[(0, (Pt 0)), (1, (LI p1)), (5, (I x6)), (6, (I x7)), (7, (I x8)), (8, (.one (.own 1 0 x9))), (20, (I x10)), (21, (I x42.1))], [.cells [cL p2, cI x47.2], VI (x42.2.2.set (0 + x42.1.toNat) (imin (imax (w64 (x46 + x47.1)) (-1000)) 1000))]⟩)) (by kernel_rfl) (AC hx45 (AC (ld_ok hx46 (D.int .i64) (.int .i64 0)) (AC (T_keep_Src_Range_ok k (-2) 2 p2 x42.2.1 x47 hx47) (AC (T_keep_clip_ok k (w64 (x46 + x47.1)) x48 hx48) (AC hx45 (AC (st_one x42.2.2 (0 + x42.1.toNat) (imin (imax (w64 (x46 + x47.1)) (-1000)) 1000) (D.int .i64) (.int .i64 0) rfl (fun _ => rfl) rfl) (AC (T_keep_Src_Range_ok k (-2) 2 p2 x42.2.1 x47 hx47) (AC (ld_ok hx46 (D.int .i64) (.int .i64 0)) (AC (T_keep_clip_ok k (w64 (x46 + x47.1)) x48 hx48) (AC hx45 (AC (st_one x42.2.2 (0 + x42.1.toNat) (imin (imax (w64 (x46 + x47.1)) (-1000)) 1000) (D.int .i64) (.int .i64 0) rfl (fun _ => rfl) rfl) (AC rfl (AC (T_keep_Src_Range_ok k (-2) 2 p2 x42.2.1 x47 hx47) (AC hx45 (AC (ld_ok hx46 (D.int .i64) (.int .i64 0)) (AC (T_keep_clip_ok k (w64 (x46 + x47.1)) x48 hx48) (AC hx45 (AC (st_one x42.2.2 (0 + x42.1.toNat) (imin (imax (w64 (x46 + x47.1)) (-1000)) 1000) (D.int .i64) (.int .i64 0) rfl (fun _ => rfl) rfl) (A1 rfl))))))))))))))))))) ?_
       cases H
       exact K_end (by kernel_rfl)
     · refine K_f (by kernel_rfl) (decide_eq_false hx44) ?_
       refine K_seq (K_r [] [] (by kernel_rfl) trivial ?_)
       rcases ite_some H with ⟨hx49, H⟩ | ⟨hx49, H⟩
       · refine K_t (by kernel_rfl) (decide_eq_true hx49) ?_
         obtain ⟨hx50, H⟩ := guard_some H
         obtain ⟨x51, hx51, H⟩ := bind_some' H
         obtain ⟨x52, hx52, H⟩ := bind_some' H
         refine K_r [.l [.int .i64 x51], .r (I (imin (imax (w64 (x51 + x7)) (-1000)) 1000)) [], .l ((x42.2.2.set (0 + x42.1.toNat) (imin (imax (w64 (x51 + x7)) (-1000)) 1000)).map (D.int .i64))] [(0 : Int) ≤ x42.1 ∧ x42.1 < ((x9 : Nat) : Int), ((x42.2.2.map (D.int .i64)).getD (0 + x42.1.toNat) (.int .i64 0)).cells = [.int .i64 x51], C_T_keep_clip k (w64 (x51 + x7)) x52, (0 : Int) ≤ x42.1 ∧ x42.1 < ((x9 : Nat) : Int), (x42.2.2.map (D.int .i64)).set (0 + x42.1.toNat) (elemOf (.int .i64 0) (splice ((x42.2.2.map (D.int .i64)).getD (0 + x42.1.toNat) (.int .i64 0)).cells 0 [.int .i64 (imin (imax (w64 (x51 + x7)) (-1000)) 1000)])) = (x42.2.2.set (0 + x42.1.toNat) (imin (imax (w64 (x51 + x7)) (-1000)) 1000)).map (D.int .i64)] (by kernel_rfl) (AC hx50 (AC (ld_ok hx51 (D.int .i64) (.int .i64 0)) (AC (T_keep_clip_ok k (w64 (x51 + x7)) x52 hx52) (AC hx50 (A1 (st_one x42.2.2 (0 + x42.1.toNat) (imin (imax (w64 (x51 + x7)) (-1000)) 1000) (D.int .i64) (.int .i64 0) rfl (fun _ => rfl) rfl)))))) ?_
         cases H
         exact K_end (by kernel_rfl)
       · refine K_f (by kernel_rfl) (decide_eq_false hx49) ?_
         refine K_seq (K_r [] [] (by kernel_rfl) trivial ?_)
         rcases ite_some H with ⟨hx53, H⟩ | ⟨hx53, H⟩
         · refine K_t (by kernel_rfl) (decide_eq_true hx53) ?_
           obtain ⟨hx54, H⟩ := guard_some H
           obtain ⟨x55, hx55, H⟩ := bind_some' H
           obtain ⟨x56, hx56, H⟩ := bind_some' H
           refine K_r [.l [.int .i64 x55], .r (I (imin (imax (w64 ((w64 (x55 * x8)) + x7)) (-1000)) 1000)) [], .l ((x42.2.2.set (0 + x42.1.toNat) (imin (imax (w64 ((w64 (x55 * x8)) + x7)) (-1000)) 1000)).map (D.int .i64))] [(0 : Int) ≤ x42.1 ∧ x42.1 < ((x9 : Nat) : Int), ((x42.2.2.map (D.int .i64)).getD (0 + x42.1.toNat) (.int .i64 0)).cells = [.int .i64 x55], C_T_keep_clip k (w64 ((w64 (x55 * x8)) + x7)) x56, (0 : Int) ≤ x42.1 ∧ x42.1 < ((x9 : Nat) : Int), (x42.2.2.map (D.int .i64)).set (0 + x42.1.toNat) (elemOf (.int .i64 0) (splice ((x42.2.2.map (D.int .i64)).getD (0 + x42.1.toNat) (.int .i64 0)).cells 0 [.int .i64 (imin (imax (w64 ((w64 (x55 * x8)) + x7)) (-1000)) 1000)])) = (x42.2.2.set (0 + x42.1.toNat) (imin (imax (w64 ((w64 (x55 * x8)) + x7)) (-1000)) 1000)).map (D.int .i64)] (by kernel_rfl) (AC hx54 (AC (ld_ok hx55 (D.int .i64) (.int .i64 0)) (AC (T_keep_clip_ok k (w64 ((w64 (x55 * x8)) + x7)) x56 hx56) (AC hx54 (A1 (st_one x42.2.2 (0 + x42.1.toNat) (imin (imax (w64 ((w64 (x55 * x8)) + x7)) (-1000)) 1000) (D.int .i64) (.int .i64 0) rfl (fun _ => rfl) rfl)))))) ?_
           cases H
           exact K_end (by kernel_rfl)
         · refine K_f (by kernel_rfl) (decide_eq_false hx53) ?_
           refine K_seq (K_r [] [] (by kernel_rfl) trivial ?_)
           rcases ite_some H with ⟨hx57, H⟩ | ⟨hx57, H⟩
           · refine K_t (by kernel_rfl) (decide_eq_true hx57) ?_
             obtain ⟨x58, hx58, H⟩ := bind_some' H
             obtain ⟨hx59, H⟩ := guard_some H
             refine K_r [.n p1.length, .l [.int .i64 x58], .l ((x42.2.2.set (0 + x42.1.toNat) x58).map (D.int .i64))] [((p1.map (D.int .i64))).length = p1.length, (0 : Int) ≤ (w64 ((w64 ((p1.length : Int) - 1)) - x42.1)) ∧ (w64 ((w64 ((p1.length : Int) - 1)) - x42.1)) < (((p1.map (D.int .i64))).length : Int), ((p1.map (D.int .i64)).getD (w64 ((w64 ((p1.length : Int) - 1)) - x42.1)).toNat (.int .i64 0)).cells = [.int .i64 x58], (0 : Int) ≤ x42.1 ∧ x42.1 < ((x9 : Nat) : Int), (x42.2.2.map (D.int .i64)).set (0 + x42.1.toNat) (elemOf (.int .i64 0) (splice ((x42.2.2.map (D.int .i64)).getD (0 + x42.1.toNat) (.int .i64 0)).cells 0 [.int .i64 x58])) = (x42.2.2.set (0 + x42.1.toNat) x58).map (D.int .i64)] (by kernel_rfl) (AC (List.length_map _) (AC (at_ok hx58 (D.int .i64) (.int .i64 0)).1 (AC (at_ok hx58 (D.int .i64) (.int .i64 0)).2 (AC hx59 (A1 (st_one x42.2.2 (0 + x42.1.toNat) x58 (D.int .i64) (.int .i64 0) rfl (fun _ => rfl) rfl)))))) ?_
             cases H
             exact K_end (by kernel_rfl)
           · refine K_f (by kernel_rfl) (decide_eq_false hx57) ?_
             refine K_seq (K_r [] [] (by kernel_rfl) trivial ?_)
             rcases ite_some H with ⟨hx60, H⟩ | ⟨hx60, H⟩
             · refine K_t (by kernel_rfl) (decide_eq_true hx60) ?_
               obtain ⟨x61, hx61, H⟩ := bind_some' H
               obtain ⟨x62, hx62, H⟩ := bind_some' H
               obtain ⟨x63, hx63, H⟩ := bind_some' H
               obtain ⟨hx64, H⟩ := guard_some H
               refine K_r [.r (I x61.1) [.cells [cL p2, cI x61.2]], .n p1.length, .r (I x62) [], .l [.int .i64 x63], .l ((x42.2.2.set (0 + x42.1.toNat) x63).map (D.int .i64))] [C_T_keep_Src_Range k (-1) 1 p2 x42.2.1 x61, ((p1.map (D.int .i64))).length = p1.length, C_T_keep_Mod k (w64 (x42.1 + x61.1)) (p1.length : Int) x62, (0 : Int) ≤ x62 ∧ x62 < (((p1.map (D.int .i64))).length : Int), ((p1.map (D.int .i64)).getD x62.toNat (.int .i64 0)).cells = [.int .i64 x63], (0 : Int) ≤ x42.1 ∧ x42.1 < ((x9 : Nat) : Int), (x42.2.2.map (D.int .i64)).set (0 + x42.1.toNat) (elemOf (.int .i64 0) (splice ((x42.2.2.map (D.int .i64)).getD (0 + x42.1.toNat) (.int .i64 0)).cells 0 [.int .i64 x63])) = (x42.2.2.set (0 + x42.1.toNat) x63).map (D.int .i64)] (by kernel_rfl) (AC (T_keep_Src_Range_ok k (-1) 1 p2 x42.2.1 x61 hx61) (AC (List.length_map _) (AC (T_keep_Mod_ok k (w64 (x42.1 + x61.1)) (p1.length : Int) x62 hx62) (AC (at_ok hx63 (D.int .i64) (.int .i64 0)).1 (AC (at_ok hx63 (D.int .i64) (.int .i64 0)).2 (AC hx64 (A1 (st_one x42.2.2 (0 + x42.1.toNat) x63 (D.int .i64) (.int .i64 0) rfl (fun _ => rfl) rfl)))))))) ?_
               cases H
               exact K_end (by kernel_rfl)
             · refine K_f (by kernel_rfl) (decide_eq_false hx60) ?_
               refine K_seq (K_r [] [] (by kernel_rfl) trivial ?_)
               rcases ite_some H with ⟨hx65, H⟩ | ⟨hx65, H⟩
               · refine K_t (by kernel_rfl) (decide_eq_true hx65) ?_
                 obtain ⟨hx66, H⟩ := guard_some H
                 obtain ⟨x67, hx67, H⟩ := bind_some' H
                 obtain ⟨x68, hx68, H⟩ := bind_some' H
                 refine K_r [.l [.int .i64 x67], .r (I (imin (imax (w64 (x7 - (w64 (x67 * x8)))) (-1000)) 1000)) [], .l ((x42.2.2.set (0 + x42.1.toNat) (imin (imax (w64 (x7 - (w64 (x67 * x8)))) (-1000)) 1000)).map (D.int .i64))] [(0 : Int) ≤ x42.1 ∧ x42.1 < ((x9 : Nat) : Int), ((x42.2.2.map (D.int .i64)).getD (0 + x42.1.toNat) (.int .i64 0)).cells = [.int .i64 x67], C_T_keep_clip k (w64 (x7 - (w64 (x67 * x8)))) x68, (0 : Int) ≤ x42.1 ∧ x42.1 < ((x9 : Nat) : Int), (x42.2.2.map (D.int .i64)).set (0 + x42.1.toNat) (elemOf (.int .i64 0) (splice ((x42.2.2.map (D.int .i64)).getD (0 + x42.1.toNat) (.int .i64 0)).cells 0 [.int .i64 (imin (imax (w64 (x7 - (w64 (x67 * x8)))) (-1000)) 1000)])) = (x42.2.2.set (0 + x42.1.toNat) (imin (imax (w64 (x7 - (w64 (x67 * x8)))) (-1000)) 1000)).map (D.int .i64)] (by kernel_rfl) (AC hx66 (AC (ld_ok hx67 (D.int .i64) (.int .i64 0)) (AC (T_keep_clip_ok k (w64 (x7 - (w64 (x67 * x8)))) x68 hx68) (AC hx66 (A1 (st_one x42.2.2 (0 + x42.1.toNat) (imin (imax (w64 (x7 - (w64 (x67 * x8)))) (-1000)) 1000) (D.int .i64) (.int .i64 0) rfl (fun _ => rfl) rfl)))))) ?_
                 cases H
                 exact K_end (by kernel_rfl)
               · refine K_f (by kernel_rfl) (decide_eq_false hx65) ?_
                 refine K_g (by kernel_rfl) ?_
                 refine K_skip ?_
                 cases H
                 exact K_end (by kernel_rfl)
   refine K_blk (K_blk (K_r [] [] (by kernel_rfl) trivial ?_))
   cases H
   exact K_end (by kernel_rfl)
 · refine K_f (by kernel_rfl) (decide_eq_false hx43) ?_
   refine K_g (by kernel_rfl) ?_
   cases H
   exact K_exit0 rfl (by kernel_rfl)
def T_keep_Src_Near (k : Nat) (p1 : List Int) (p2 : List Int) (p3 : Int) : Option ((List Int) × Int) := match k with
 | 0 => none
 | k + 1 => (T_keep_Src_N k 7 p2 p3).bind fun x1 => (T_keep_Src_Range k (-20) 20 p2 x1.2).bind fun x2 => (T_keep_Src_Range k 1 3 p2 x2.2).bind fun x3 => (if 0 + p1.length ≤ LIM then (loopT (T_keep_Src_Near_l1 k p1 p2 x1.1 x2.1 x3.1 (0 + p1.length) (((0 + p1.length) : Nat) : Int)) k (0, x3.2, ((([] : List Int).drop 0).take 0 ++ p1))).bind fun x70 => some (((x70.2.drop 0).take (0 + p1.length)), x70.1) else none)
abbrev C_T_keep_Src_Near (k : Nat) (p1 : List Int) (p2 : List Int) (p3 : Int) (r : (List Int) × Int) : Prop := evF X k n_keep_Src_Near [(Pt 0), (LI p1)] [.cells [cL p2, cI p3]] = some ((LI r.1), [.cells [cL p2, cI r.2]])
theorem T_keep_Src_Near_ok (k : Nat) (p1 : List Int) (p2 : List Int) (p3 : Int) (r : (List Int) × Int) : T_keep_Src_Near k p1 p2 p3 = some r → C_T_keep_Src_Near k p1 p2 p3 r := by
 intro H
 cases k with
 | zero => simp [T_keep_Src_Near] at H
 | succ k =>
  simp only [T_keep_Src_Near] at H
  refine F_in X_keep_Src_Near rfl ?_
  refine K_seq (K_r [] [] (by kernel_rfl) trivial ?_)
  refine K_seq ?_
  obtain ⟨x1, hx1, H⟩ := bind_some' H
  obtain ⟨x2, hx2, H⟩ := bind_some' H
  obtain ⟨x3, hx3, H⟩ := bind_some' H
  refine K_r [.r (I x1.1) [.cells [cL p2, cI x1.2]], .r (I x2.1) [.cells [cL p2, cI x2.2]], .r (I x3.1) [.cells [cL p2, cI x3.2]]] [C_T_keep_Src_N k 7 p2 p3 x1, C_T_keep_Src_Range k (-20) 20 p2 x1.2 x2, C_T_keep_Src_Range k 1 3 p2 x2.2 x3] (by kernel_rfl) (AC (T_keep_Src_N_ok k 7 p2 p3 x1 hx1) (AC (T_keep_Src_Range_ok k (-20) 20 p2 x1.2 x2 hx2) (A1 (T_keep_Src_Range_ok k 1 3 p2 x2.2 x3 hx3)))) ?_
  refine K_seq ?_
  obtain ⟨hx4, H⟩ := guard_some H
  refine K_r [.n p1.length, .l (((([] : List Int).drop 0).take 0 ++ p1).map (D.int .i64))] [(List.all (p1.map (D.int .i64)) fun d => d.cells.length == (D.cells (.int .i64 0)).length) = true, 0 + p1.length ≤ LIM, (p1.map (D.int .i64)).length = p1.length, ((([] : List Int).map (D.int .i64)).drop 0).take 0 ++ (p1.map (D.int .i64)) = ((([] : List Int).drop 0).take 0 ++ p1).map (D.int .i64)] (by kernel_rfl) (AC (all_ok (D.int .i64) 1 p1 (fun _ => rfl)) (AC hx4 (AC (by simp) (A1 (ap_map (D.int .i64) ([] : List Int) p1 0 0))))) ?_
  refine K_seq (K_seq (K_r [] [] (by kernel_rfl) trivial ?_))
  refine K_block (K_conv (σ' := ⟨[(0, (Pt 0)), (1, (LI p1)), (5, (I x1.1)), (6, (I x2.1)), (7, (I x3.1)), (8, (.one (.own 1 0 (0 + p1.length)))), (20, (I (((0 + p1.length) : Nat) : Int))), (21, (I 0))], [.cells [cL p2, cI x3.2], VI ((([] : List Int).drop 0).take 0 ++ p1)]⟩) (by kernel_rfl) ?_)
  obtain ⟨x70, hx70, H⟩ := bind_some' H
  refine K_loop ⟨[(8, (.one (.own 1 0 (0 + p1.length))))], [.cells [cL p2, cI x70.1], VI x70.2]⟩ (loop_ok (fun (s : Int × Int × (List Int)) => ⟨[(0, (Pt 0)), (1, (LI p1)), (5, (I x1.1)), (6, (I x2.1)), (7, (I x3.1)), (8, (.one (.own 1 0 (0 + p1.length)))), (20, (I (((0 + p1.length) : Nat) : Int))), (21, (I s.1))], [.cells [cL p2, cI s.2.1], VI s.2.2]⟩) (fun (r : (Int × (List Int))) => (.exit 0, ⟨[(8, (.one (.own 1 0 (0 + p1.length))))], [.cells [cL p2, cI r.1], VI r.2]⟩)) (fun r h => by cases h) (T_keep_Src_Near_l1_ok k p1 p2 x1.1 x2.1 x3.1 (0 + p1.length) (((0 + p1.length) : Nat) : Int)) k (0, x3.2, ((([] : List Int).drop 0).take 0 ++ p1)) x70 hx70) rfl ?_
  refine K_seq (K_r [] [] (by kernel_rfl) trivial ?_)
  refine K_g (by kernel_rfl) ?_
  cases H
  refine K_ret ?_
  exact Eq.trans (b := some ((.one (.d (.list (((x70.2.map (D.int .i64)).drop 0).take (0 + p1.length))))), [.cells [cL p2, cI x70.1]])) (by kernel_rfl) (by simp only [dt_map, rl_map, LI, VI])
def T_keep_Src_Pair (k : Nat) (p1 : List Int) (p2 : Int) : Option ((List Int) × (List Int) × Int) := match k with
 | 0 => none
 | k + 1 => ((T_keep_Src_Length k p1 p2).bind fun x1 => (T_keep_Src_List k x1.1 p1 x1.2).bind fun x2 => (T_keep_Src_N k 3 p1 x2.2).bind fun x3 => (if x3.1 = 0 then ((T_keep_Src_List k (x2.1.length : Int) p1 x3.2).bind fun x5 => some (x2.1, x5.1, x5.2)) else ((T_keep_Src_Near k x2.1 p1 x3.2).bind fun x6 => some (x2.1, x6.1, x6.2))))
abbrev C_T_keep_Src_Pair (k : Nat) (p1 : List Int) (p2 : Int) (r : (List Int) × (List Int) × Int) : Prop := evF X k n_keep_Src_Pair [(Pt 0)] [.cells [cL p1, cI p2]] = some ((.tup [(false, [cL r.1]), (false, [cL r.2.1])]), [.cells [cL p1, cI r.2.2]])
theorem T_keep_Src_Pair_ok (k : Nat) (p1 : List Int) (p2 : Int) (r : (List Int) × (List Int) × Int) : T_keep_Src_Pair k p1 p2 = some r → C_T_keep_Src_Pair k p1 p2 r := by
 intro H
 cases k with
 | zero => simp [T_keep_Src_Pair] at H
 | succ k =>
  simp only [T_keep_Src_Pair] at H
  refine F_in X_keep_Src_Pair rfl ?_
  refine K_seq (K_r [] [] (by kernel_rfl) trivial ?_)
  refine K_seq ?_
  obtain ⟨x1, hx1, H⟩ := bind_some' H
  obtain ⟨x2, hx2, H⟩ := bind_some' H
  refine K_r [.r (I x1.1) [.cells [cL p1, cI x1.2]], .r (LI x2.1) [.cells [cL p1, cI x2.2]]] [C_T_keep_Src_Length k p1 p2 x1, C_T_keep_Src_List k x1.1 p1 x1.2 x2] (by kernel_rfl) (AC (T_keep_Src_Length_ok k p1 p2 x1 hx1) (A1 (T_keep_Src_List_ok k x1.1 p1 x1.2 x2 hx2))) ?_
  refine K_seq ?_
  refine K_seq ?_
  obtain ⟨x3, hx3, H⟩ := bind_some' H
  refine K_r [.r (I x3.1) [.cells [cL p1, cI x3.2]]] [C_T_keep_Src_N k 3 p1 x2.2 x3] (by kernel_rfl) (A1 (T_keep_Src_N_ok k 3 p1 x2.2 x3 hx3)) ?_
  rcases ite_some H with ⟨hx4, H⟩ | ⟨hx4, H⟩
  · refine K_t (by kernel_rfl) (decide_eq_true hx4) ?_
    refine K_seq ?_
    obtain ⟨x5, hx5, H⟩ := bind_some' H
    refine K_r [.n x2.1.length, .r (LI x5.1) [.cells [cL p1, cI x5.2]]] [((x2.1.map (D.int .i64))).length = x2.1.length, C_T_keep_Src_List k (x2.1.length : Int) p1 x3.2 x5] (by kernel_rfl) (AC (List.length_map _) (A1 (T_keep_Src_List_ok k (x2.1.length : Int) p1 x3.2 x5 hx5))) ?_
    refine K_g (by kernel_rfl) ?_
    cases H
    refine K_ret ?_
    kernel_rfl
  · refine K_f (by kernel_rfl) (decide_eq_false hx4) ?_
    refine K_g (by kernel_rfl) ?_
    refine K_skip ?_
    refine K_seq ?_
    obtain ⟨x6, hx6, H⟩ := bind_some' H
    refine K_r [.r (LI x6.1) [.cells [cL p1, cI x6.2]]] [C_T_keep_Src_Near k x2.1 p1 x3.2 x6] (by kernel_rfl) (A1 (T_keep_Src_Near_ok k x2.1 p1 x3.2 x6 hx6)) ?_
    refine K_g (by kernel_rfl) ?_
    cases H
    refine K_ret ?_
    kernel_rfl
def T_keep_Src_Uneven (k : Nat) (p1 : List Int) (p2 : Int) : Option ((List Int) × (List Int) × Int × Int) := match k with
 | 0 => none
 | k + 1 => ((T_keep_Src_Pair k p1 p2).bind fun x1 => (T_keep_Src_N k 2 p1 x1.2.2).bind fun x2 => ((if x2.1 = 0 then (T_keep_Src_Range k 2 (x1.2.1.length : Int) p1 x2.2).bind fun x4 => (if (0 : Int) ≤ 0 ∧ 0 ≤ x4.1 ∧ x4.1 ≤ (x1.2.1.length : Int) ∧ (x1.2.1.length : Int) ≤ (x1.2.1.length : Int) then some (((x1.2.1.drop 0).take (x4.1.toNat - 0)), x4.2) else none) else some (x1.2.1, x2.2))).bind fun x6 => (T_keep_Src_N k 4 p1 x6.2).bind fun x7 => (T_keep_Src_N k 5 p1 x7.2).bind fun x8 => ((if x8.1 = 0 then some 32 else some (imin 32 (w64 ((w64 ((x1.1.length : Int) - (x6.1.length : Int))) + x7.1))))).bind fun x10 => (T_keep_Src_N k 2 p1 x8.2).bind fun x11 => (if x11.1 = 0 then some (x6.1, x1.1, x10, x11.2) else some (x1.1, x6.1, x10, x11.2)))
abbrev C_T_keep_Src_Uneven (k : Nat) (p1 : List Int) (p2 : Int) (r : (List Int) × (List Int) × Int × Int) : Prop := evF X k n_keep_Src_Uneven [(Pt 0)] [.cells [cL p1, cI p2]] = some ((.tup [(false, [cL r.1]), (false, [cL r.2.1]), (false, [cI r.2.2.1])]), [.cells [cL p1, cI r.2.2.2]])
theorem T_keep_Src_Uneven_ok (k : Nat) (p1 : List Int) (p2 : Int) (r : (List Int) × (List Int) × Int × Int) : T_keep_Src_Uneven k p1 p2 = some r → C_T_keep_Src_Uneven k p1 p2 r := by
 intro H
 cases k with
 | zero => simp [T_keep_Src_Uneven] at H
 | succ k =>
  simp only [T_keep_Src_Uneven] at H
  refine F_in X_keep_Src_Uneven rfl ?_
  refine K_seq (K_r [] [] (by kernel_rfl) trivial ?_)
  refine K_seq ?_
  obtain ⟨x1, hx1, H⟩ := bind_some' H
  refine K_r [.r (.tup [(false, [cL x1.1]), (false, [cL x1.2.1])]) [.cells [cL p1, cI x1.2.2]]] [C_T_keep_Src_Pair k p1 p2 x1] (by kernel_rfl) (A1 (T_keep_Src_Pair_ok k p1 p2 x1 hx1)) ?_
  refine K_seq ?_
  refine K_seq ?_
  obtain ⟨x2, hx2, H⟩ := bind_some' H
  refine K_r [.r (I x2.1) [.cells [cL p1, cI x2.2]]] [C_T_keep_Src_N k 2 p1 x1.2.2 x2] (by kernel_rfl) (A1 (T_keep_Src_N_ok k 2 p1 x1.2.2 x2 hx2)) ?_
  obtain ⟨x6, hx6, H⟩ := bind_some' H
  refine K_of ⟨[(0, (Pt 0)), (5, (LI x1.1)), (6, (LI x6.1))], [.cells [cL p1, cI x6.2]]⟩ ?_ ?_
  · clear H; have H := hx6; clear hx6; refine K_in ?_
    rcases ite_some H with ⟨hx3, H⟩ | ⟨hx3, H⟩
    · refine K_t (by kernel_rfl) (decide_eq_true hx3) ?_
      obtain ⟨x4, hx4, H⟩ := bind_some' H
      obtain ⟨hx5, H⟩ := guard_some H
      refine K_r [.n x1.2.1.length, .r (I x4.1) [.cells [cL p1, cI x4.2]], .l (((x1.2.1.drop 0).take (x4.1.toNat - 0)).map (D.int .i64))] [((x1.2.1.map (D.int .i64))).length = x1.2.1.length, C_T_keep_Src_Range k 2 (x1.2.1.length : Int) p1 x2.2 x4, ((x1.2.1.map (D.int .i64)).all fun d => d.cells.length == 1) = true, (0 : Int) ≤ 0 ∧ 0 ≤ x4.1 ∧ x4.1 ≤ (((x1.2.1.map (D.int .i64))).length : Int) ∧ (((x1.2.1.map (D.int .i64))).length : Int) ≤ (((x1.2.1.map (D.int .i64))).length : Int), ((x1.2.1.map (D.int .i64)).drop (0 : Int).toNat).take ((x4.1 : Int).toNat - (0 : Int).toNat) = ((x1.2.1.drop 0).take (x4.1.toNat - 0)).map (D.int .i64)] (by kernel_rfl) (AC (List.length_map _) (AC (T_keep_Src_Range_ok k 2 (x1.2.1.length : Int) p1 x2.2 x4 hx4) (AC (all_ok (D.int .i64) 1 x1.2.1 (fun _ => rfl)) (AC (by simpa using hx5) (A1 (dt_map _ _ _ _)))))) ?_
      cases H
      exact K_end (by kernel_rfl)
    · refine K_f (by kernel_rfl) (decide_eq_false hx3) ?_
      refine K_g (by kernel_rfl) ?_
      refine K_skip ?_
      cases H
      exact K_end (by kernel_rfl)
  refine K_seq ?_
  obtain ⟨x7, hx7, H⟩ := bind_some' H
  refine K_r [.n x1.1.length, .n x6.1.length, .r (I x7.1) [.cells [cL p1, cI x7.2]]] [((x1.1.map (D.int .i64))).length = x1.1.length, ((x6.1.map (D.int .i64))).length = x6.1.length, C_T_keep_Src_N k 4 p1 x6.2 x7] (by kernel_rfl) (AC (List.length_map _) (AC (List.length_map _) (A1 (T_keep_Src_N_ok k 4 p1 x6.2 x7 hx7)))) ?_
  refine K_seq ?_
  refine K_seq ?_
  obtain ⟨x8, hx8, H⟩ := bind_some' H
  refine K_r [.r (I x8.1) [.cells [cL p1, cI x8.2]]] [C_T_keep_Src_N k 5 p1 x7.2 x8] (by kernel_rfl) (A1 (T_keep_Src_N_ok k 5 p1 x7.2 x8 hx8)) ?_
  obtain ⟨x10, hx10, H⟩ := bind_some' H
  refine K_of ⟨[(0, (Pt 0)), (5, (LI x1.1)), (6, (LI x6.1)), (7, (I x10))], [.cells [cL p1, cI x8.2]]⟩ ?_ ?_
  · clear H; have H := hx10; clear hx10; refine K_in ?_
    rcases ite_some H with ⟨hx9, H⟩ | ⟨hx9, H⟩
    · refine K_t (by kernel_rfl) (decide_eq_true hx9) ?_
      refine K_r [] [] (by kernel_rfl) trivial ?_
      cases H
      exact K_end (by kernel_rfl)
    · refine K_f (by kernel_rfl) (decide_eq_false hx9) ?_
      refine K_g (by kernel_rfl) ?_
      refine K_skip ?_
      cases H
      exact K_end (by kernel_rfl)
  refine K_seq ?_
  refine K_seq ?_
  obtain ⟨x11, hx11, H⟩ := bind_some' H
  refine K_r [.r (I x11.1) [.cells [cL p1, cI x11.2]]] [C_T_keep_Src_N k 2 p1 x8.2 x11] (by kernel_rfl) (A1 (T_keep_Src_N_ok k 2 p1 x8.2 x11 hx11)) ?_
  rcases ite_some H with ⟨hx12, H⟩ | ⟨hx12, H⟩
  · refine K_t (by kernel_rfl) (decide_eq_true hx12) ?_
    refine K_seq (K_r [] [] (by kernel_rfl) trivial ?_)
    refine K_g (by kernel_rfl) ?_
    cases H
    refine K_ret ?_
    kernel_rfl
  · refine K_f (by kernel_rfl) (decide_eq_false hx12) ?_
    refine K_g (by kernel_rfl) ?_
    refine K_skip (K_seq (K_r [] [] (by kernel_rfl) trivial ?_))
    refine K_g (by kernel_rfl) ?_
    cases H
    refine K_ret ?_
    kernel_rfl
def T_euclid_length (k : Nat) (p1 : List Int) : Option Unit := match k with
 | 0 => none
 | k + 1 => some ()
abbrev C_T_euclid_length (k : Nat) (p1 : List Int) (r : Unit) : Prop := evF X k n_euclid_length [(LI p1)] [] = some ((B (decide (2 ≤ (p1.length : Int)) && decide ((p1.length : Int) ≤ 32))), [])
theorem T_euclid_length_ok (k : Nat) (p1 : List Int) (r : Unit) : T_euclid_length k p1 = some r → C_T_euclid_length k p1 r := by
 intro H
 cases k with
 | zero => simp [T_euclid_length] at H
 | succ k =>
  simp only [T_euclid_length] at H
  refine F_in X_euclid_length rfl ?_
  refine K_seq (K_r [] [] (by kernel_rfl) trivial ?_)
  refine K_seq (K_r [.n p1.length, .m, .n p1.length] [((p1.map (D.int .i64))).length = p1.length, decide (2 ≤ (p1.length : Int)) = true → AllT [((p1.map (D.int .i64))).length = p1.length], ([] : Heap) = []] (by kernel_rfl) (AC (List.length_map _) (AC (fun _ => (A1 (List.length_map _))) (A1 rfl))) ?_)
  refine K_g (by kernel_rfl) ?_
  cases H
  refine K_ret ?_
  kernel_rfl
def T_euclid_samples_l1 (k : Nat) (p1 : List Int) (x2 : Int) (x7 : Int) : Option (Int ⊕ (Unit ⊕ Unit)) :=
 (if x7 < x2 then ((at? p1 x7).bind fun x9 => (if (decide (x9 < (-1000)) || decide (1000 < x9)) = true then some (.inr (.inr ())) else some (.inl (w64 (x7 + 1))))) else some (.inr (.inl ())))
theorem T_euclid_samples_l1_ok (k : Nat) (p1 : List Int) (x2 : Int) : ∀ (x7 : Int) (x : Int ⊕ (Unit ⊕ Unit)), T_euclid_samples_l1 k p1 x2 x7 = some x → evC X (evF X k) k 0 l_euclid_samples_1 ⟨[(5, (LI p1)), (6, (I x2)), (7, (I x7))], []⟩ = some (outS (fun (s : Int) => ⟨[(5, (LI p1)), (6, (I x2)), (7, (I s))], []⟩) (fun (r : Unit ⊕ Unit) => Sum.elim (fun y => (.exit 0, ⟨[], []⟩)) (fun y => (.ret, ⟨[(2, (B false))], []⟩)) r) x) := by
 intro x7 x H
 unfold T_euclid_samples_l1 at H
 refine K_in ?_
 refine K_seq (K_r [] [] (by kernel_rfl) trivial ?_)
 refine K_seq ?_
 rcases ite_some H with ⟨hx8, H⟩ | ⟨hx8, H⟩
 · refine K_t (by kernel_rfl) (decide_eq_true hx8) ?_
   refine K_g (by kernel_rfl) ?_
   refine K_skip ?_
   refine K_seq ?_
   refine K_block ?_
   refine K_seq ?_
   obtain ⟨x9, hx9, H⟩ := bind_some' H
   refine K_r [.l [.int .i64 x9]] [(0 : Int) ≤ x7 ∧ x7 < (((p1.map (D.int .i64))).length : Int), ((p1.map (D.int .i64)).getD x7.toNat (.int .i64 0)).cells = [.int .i64 x9]] (by kernel_rfl) (AC (at_ok hx9 (D.int .i64) (.int .i64 0)).1 (A1 (at_ok hx9 (D.int .i64) (.int .i64 0)).2)) ?_
   refine K_seq (K_r [.m] [([] : Heap) = []] (by kernel_rfl) (A1 rfl) ?_)
   rcases ite_some H with ⟨hx10, H⟩ | ⟨hx10, H⟩
   · refine K_t (by kernel_rfl) hx10 ?_
     refine K_seq (K_r [] [] (by kernel_rfl) trivial ?_)
     refine K_g (by kernel_rfl) ?_
     cases H
     exact K_ret (by kernel_rfl)
   · refine K_f (by kernel_rfl) (Bool.eq_false_iff.2 hx10) ?_
     refine K_g (by kernel_rfl) ?_
     refine K_skip (K_blk (K_r [] [] (by kernel_rfl) trivial ?_))
     cases H
     exact K_end (by kernel_rfl)
 · refine K_f (by kernel_rfl) (decide_eq_false hx8) ?_
   refine K_g (by kernel_rfl) ?_
   cases H
   exact K_exit0 rfl (by kernel_rfl)
def T_euclid_samples (k : Nat) (p1 : List Int) : Option Bool := match k with
 | 0 => none
 | k + 1 => ((loopT (T_euclid_samples_l1 k p1 (p1.length : Int)) k 0).bind fun x11 => (match x11 with | .inl x12 => some true | .inr x13 => some false))
abbrev C_T_euclid_samples (k : Nat) (p1 : List Int) (r : Bool) : Prop := evF X k n_euclid_samples [(LI p1)] [] = some ((B r), [])
theorem T_euclid_samples_ok (k : Nat) (p1 : List Int) (r : Bool) : T_euclid_samples k p1 = some r → C_T_euclid_samples k p1 r := by
 intro H
 cases k with
 | zero => simp [T_euclid_samples] at H
 | succ k =>
  simp only [T_euclid_samples] at H
  refine F_in X_euclid_samples rfl ?_
  refine K_seq (K_r [] [] (by kernel_rfl) trivial ?_)
  refine K_seq (K_seq (K_r [.n p1.length] [((p1.map (D.int .i64))).length = p1.length] (by kernel_rfl) (A1 (List.length_map _)) ?_))
  refine K_block (K_conv (σ' := ⟨[(5, (LI p1)), (6, (I (p1.length : Int))), (7, (I 0))], []⟩) (by kernel_rfl) ?_)
  obtain ⟨x11, hx11, H⟩ := bind_some' H
  cases x11 with
  | inl x12 =>
   dsimp only at H
   refine K_loop ⟨[], []⟩ (loop_ok (fun (s : Int) => ⟨[(5, (LI p1)), (6, (I (p1.length : Int))), (7, (I s))], []⟩) (fun (r : Unit ⊕ Unit) => Sum.elim (fun y => (.exit 0, ⟨[], []⟩)) (fun y => (.ret, ⟨[(2, (B false))], []⟩)) r) (fun r h => by cases r <;> cases h) (T_euclid_samples_l1_ok k p1 (p1.length : Int)) k 0 (.inl x12) hx11) rfl ?_
   refine K_seq (K_r [] [] (by kernel_rfl) trivial ?_)
   refine K_g (by kernel_rfl) ?_
   cases H
   refine K_ret ?_
   kernel_rfl
  | inr x13 =>
   dsimp only at H
   cases H
   refine K_loopr ⟨[(2, (B false))], []⟩ (loop_ok (fun (s : Int) => ⟨[(5, (LI p1)), (6, (I (p1.length : Int))), (7, (I s))], []⟩) (fun (r : Unit ⊕ Unit) => Sum.elim (fun y => (.exit 0, ⟨[], []⟩)) (fun y => (.ret, ⟨[(2, (B false))], []⟩)) r) (fun r h => by cases r <;> cases h) (T_euclid_samples_l1_ok k p1 (p1.length : Int)) k 0 (.inr x13) hx11) ?_
   kernel_rfl
def T_euclid_check (k : Nat) (p1 : List Int) (p2 : List Int) : Option Int := match k with
 | 0 => none
 | k + 1 => ((((T_euclid_length k p1).bind fun x1 => (if (!(decide (2 ≤ (p1.length : Int)) && decide ((p1.length : Int) ≤ 32))) = true then some true else ((T_euclid_length k p2).bind fun x4 => some (!(decide (2 ≤ (p2.length : Int)) && decide ((p2.length : Int) ≤ 32))))))).bind fun x5 => (if x5 = true then some 8 else ((((T_euclid_samples k p1).bind fun x7 => (if (!x7) = true then some true else ((T_euclid_samples k p2).bind fun x10 => some (!x10))))).bind fun x11 => (if x11 = true then some 12 else (if (!decide ((p1.length : Int) = (p2.length : Int))) = true then some 8 else some 0)))))
abbrev C_T_euclid_check (k : Nat) (p1 : List Int) (p2 : List Int) (r : Int) : Prop := evF X k n_euclid_check [(LI p1), (LI p2)] [] = some ((I r), [])
theorem T_euclid_check_ok (k : Nat) (p1 : List Int) (p2 : List Int) (r : Int) : T_euclid_check k p1 p2 = some r → C_T_euclid_check k p1 p2 r := by
 intro H
 cases k with
 | zero => simp [T_euclid_check] at H
 | succ k =>
  simp only [T_euclid_check] at H
  refine F_in X_euclid_check rfl ?_
  refine K_seq (K_r [] [] (by kernel_rfl) trivial ?_)
  refine K_seq ?_
  refine K_block ?_
  refine K_seq ?_
  obtain ⟨x5, hx5, H⟩ := bind_some' H
  refine K_of ⟨[(0, (LI p1)), (1, (LI p2)), (5, (B x5))], []⟩ ?_ ?_
  · clear H; have H := hx5; clear hx5; refine K_in ?_
    obtain ⟨x1, hx1, H⟩ := bind_some' H
    rcases ite_some H with ⟨hx3, H⟩ | ⟨hx3, H⟩
    · refine K_r [.r (B (decide (2 ≤ (p1.length : Int)) && decide ((p1.length : Int) ≤ 32))) [], .b true] [C_T_euclid_length k p1 x1, (!(decide (2 ≤ (p1.length : Int)) && decide ((p1.length : Int) ≤ 32))) = true] (by kernel_rfl) (AC (T_euclid_length_ok k p1 x1 hx1) (A1 hx3)) ?_
      cases H
      exact K_end (by kernel_rfl)
    · obtain ⟨x4, hx4, H⟩ := bind_some' H
      refine K_r [.r (B (decide (2 ≤ (p1.length : Int)) && decide ((p1.length : Int) ≤ 32))) [], .b false, .r (B (decide (2 ≤ (p2.length : Int)) && decide ((p2.length : Int) ≤ 32))) []] [C_T_euclid_length k p1 x1, (!(decide (2 ≤ (p1.length : Int)) && decide ((p1.length : Int) ≤ 32))) = false, C_T_euclid_length k p2 x4] (by kernel_rfl) (AC (T_euclid_length_ok k p1 x1 hx1) (AC (Bool.eq_false_iff.2 hx3) (A1 (T_euclid_length_ok k p2 x4 hx4)))) ?_
      cases H
      exact K_end (by kernel_rfl)
  rcases ite_some H with ⟨hx6, H⟩ | ⟨hx6, H⟩
  · refine K_t (by kernel_rfl) hx6 ?_
    refine K_seq (K_r [] [] (by kernel_rfl) trivial ?_)
    refine K_g (by kernel_rfl) ?_
    cases H
    refine K_ret ?_
    kernel_rfl
  · refine K_f (by kernel_rfl) (Bool.eq_false_iff.2 hx6) ?_
    refine K_seq ?_
    obtain ⟨x11, hx11, H⟩ := bind_some' H
    refine K_of ⟨[(0, (LI p1)), (1, (LI p2)), (14, (B x11))], []⟩ ?_ ?_
    · clear H; have H := hx11; clear hx11; refine K_in ?_
      obtain ⟨x7, hx7, H⟩ := bind_some' H
      rcases ite_some H with ⟨hx9, H⟩ | ⟨hx9, H⟩
      · refine K_r [.r (B x7) [], .b true] [C_T_euclid_samples k p1 x7, (!x7) = true] (by kernel_rfl) (AC (T_euclid_samples_ok k p1 x7 hx7) (A1 hx9)) ?_
        cases H
        exact K_end (by kernel_rfl)
      · obtain ⟨x10, hx10, H⟩ := bind_some' H
        refine K_r [.r (B x7) [], .b false, .r (B x10) []] [C_T_euclid_samples k p1 x7, (!x7) = false, C_T_euclid_samples k p2 x10] (by kernel_rfl) (AC (T_euclid_samples_ok k p1 x7 hx7) (AC (Bool.eq_false_iff.2 hx9) (A1 (T_euclid_samples_ok k p2 x10 hx10)))) ?_
        cases H
        exact K_end (by kernel_rfl)
    rcases ite_some H with ⟨hx12, H⟩ | ⟨hx12, H⟩
    · refine K_t (by kernel_rfl) hx12 ?_
      refine K_seq (K_r [] [] (by kernel_rfl) trivial ?_)
      refine K_g (by kernel_rfl) ?_
      cases H
      refine K_ret ?_
      kernel_rfl
    · refine K_f (by kernel_rfl) (Bool.eq_false_iff.2 hx12) ?_
      refine K_seq (K_r [.n p1.length, .n p2.length] [((p1.map (D.int .i64))).length = p1.length, ((p2.map (D.int .i64))).length = p2.length] (by kernel_rfl) (AC (List.length_map _) (A1 (List.length_map _))) ?_)
      rcases ite_some H with ⟨hx13, H⟩ | ⟨hx13, H⟩
      · refine K_t (by kernel_rfl) hx13 ?_
        refine K_seq (K_r [] [] (by kernel_rfl) trivial ?_)
        refine K_g (by kernel_rfl) ?_
        cases H
        refine K_ret ?_
        kernel_rfl
      · refine K_f (by kernel_rfl) (Bool.eq_false_iff.2 hx13) ?_
        refine K_g (by kernel_rfl) ?_
        refine K_skip (K_blk (K_seq (K_r [] [] (by kernel_rfl) trivial ?_)))
        refine K_g (by kernel_rfl) ?_
        cases H
        refine K_ret ?_
        kernel_rfl
def T_euclid_square_l1 (k : Nat) (p1 : List Int) (p2 : List Int) (x4 : Int) (x9 : Int × Int) : Option ((Int × Int) ⊕ Int) :=
 (if x9.2 < x4 then ((at? p1 x9.2).bind fun x11 => (at? p2 x9.2).bind fun x12 => some (.inl ((w64 (x9.1 + (w64 ((w64 (x11 - x12)) * (w64 (x11 - x12)))))), (w64 (x9.2 + 1))))) else some (.inr x9.1))
theorem T_euclid_square_l1_ok (k : Nat) (p1 : List Int) (p2 : List Int) (x4 : Int) : ∀ (x9 : Int × Int) (x : (Int × Int) ⊕ Int), T_euclid_square_l1 k p1 p2 x4 x9 = some x → evC X (evF X k) k 0 l_euclid_square_1 ⟨[(1, (LI p2)), (5, (I x9.1)), (8, (LI p1)), (9, (I x4)), (10, (I x9.2))], []⟩ = some (outS (fun (s : Int × Int) => ⟨[(1, (LI p2)), (5, (I s.1)), (8, (LI p1)), (9, (I x4)), (10, (I s.2))], []⟩) (fun (r : Int) => (.exit 0, ⟨[(5, (I r))], []⟩)) x) := by
 intro x9 x H
 unfold T_euclid_square_l1 at H
 refine K_in ?_
 refine K_seq (K_r [] [] (by kernel_rfl) trivial ?_)
 refine K_seq ?_
 rcases ite_some H with ⟨hx10, H⟩ | ⟨hx10, H⟩
 · refine K_t (by kernel_rfl) (decide_eq_true hx10) ?_
   refine K_g (by kernel_rfl) ?_
   refine K_skip ?_
   refine K_seq ?_
   refine K_block ?_
   refine K_seq ?_
   obtain ⟨x11, hx11, H⟩ := bind_some' H
   refine K_r [.l [.int .i64 x11]] [(0 : Int) ≤ x9.2 ∧ x9.2 < (((p1.map (D.int .i64))).length : Int), ((p1.map (D.int .i64)).getD x9.2.toNat (.int .i64 0)).cells = [.int .i64 x11]] (by kernel_rfl) (AC (at_ok hx11 (D.int .i64) (.int .i64 0)).1 (A1 (at_ok hx11 (D.int .i64) (.int .i64 0)).2)) ?_
   obtain ⟨x12, hx12, H⟩ := bind_some' H
   refine K_r [.l [.int .i64 x12], .l [.int .i64 x12]] [(0 : Int) ≤ x9.2 ∧ x9.2 < (((p2.map (D.int .i64))).length : Int), ((p2.map (D.int .i64)).getD x9.2.toNat (.int .i64 0)).cells = [.int .i64 x12], (0 : Int) ≤ x9.2 ∧ x9.2 < (((p2.map (D.int .i64))).length : Int), ((p2.map (D.int .i64)).getD x9.2.toNat (.int .i64 0)).cells = [.int .i64 x12]] (by kernel_rfl) (AC (at_ok hx12 (D.int .i64) (.int .i64 0)).1 (AC (at_ok hx12 (D.int .i64) (.int .i64 0)).2 (AC (at_ok hx12 (D.int .i64) (.int .i64 0)).1 (A1 (at_ok hx12 (D.int .i64) (.int .i64 0)).2)))) ?_
   refine K_blk (K_r [] [] (by kernel_rfl) trivial ?_)
   cases H
   exact K_end (by kernel_rfl)
 · refine K_f (by kernel_rfl) (decide_eq_false hx10) ?_
   refine K_g (by kernel_rfl) ?_
   cases H
   exact K_exit0 rfl (by kernel_rfl)
def T_euclid_square (k : Nat) (p1 : List Int) (p2 : List Int) : Option Int := match k with
 | 0 => none
 | k + 1 => ((loopT (T_euclid_square_l1 k p1 p2 (p1.length : Int)) k (0, 0)).bind fun x13 => some x13)
abbrev C_T_euclid_square (k : Nat) (p1 : List Int) (p2 : List Int) (r : Int) : Prop := evF X k n_euclid_square [(LI p1), (LI p2)] [] = some ((I r), [])
theorem T_euclid_square_ok (k : Nat) (p1 : List Int) (p2 : List Int) (r : Int) : T_euclid_square k p1 p2 = some r → C_T_euclid_square k p1 p2 r := by
 intro H
 cases k with
 | zero => simp [T_euclid_square] at H
 | succ k =>
  simp only [T_euclid_square] at H
  refine F_in X_euclid_square rfl ?_
  refine K_seq (K_r [] [] (by kernel_rfl) trivial ?_)
  refine K_seq (K_r [] [] (by kernel_rfl) trivial ?_)
  refine K_seq (K_seq (K_r [.n p1.length] [((p1.map (D.int .i64))).length = p1.length] (by kernel_rfl) (A1 (List.length_map _)) ?_))
  refine K_block (K_conv (σ' := ⟨[(1, (LI p2)), (5, (I 0)), (8, (LI p1)), (9, (I (p1.length : Int))), (10, (I 0))], []⟩) (by kernel_rfl) ?_)
  obtain ⟨x13, hx13, H⟩ := bind_some' H
  refine K_loop ⟨[(5, (I x13))], []⟩ (loop_ok (fun (s : Int × Int) => ⟨[(1, (LI p2)), (5, (I s.1)), (8, (LI p1)), (9, (I (p1.length : Int))), (10, (I s.2))], []⟩) (fun (r : Int) => (.exit 0, ⟨[(5, (I r))], []⟩)) (fun r h => by cases h) (T_euclid_square_l1_ok k p1 p2 (p1.length : Int)) k (0, 0) x13 hx13) rfl ?_
  refine K_seq (K_r [] [] (by kernel_rfl) trivial ?_)
  refine K_g (by kernel_rfl) ?_
  cases H
  refine K_ret ?_
  kernel_rfl
def T_euclid_Distance (k : Nat) (p1 : List Int) (p2 : List Int) : Option (Int × Int) := match k with
 | 0 => none
 | k + 1 => ((T_euclid_check k p1 p2).bind fun x1 => (if (!decide (x1 = 0)) = true then some (0, x1) else ((T_euclid_square k p1 p2).bind fun x3 => some (x3, 0))))
abbrev C_T_euclid_Distance (k : Nat) (p1 : List Int) (p2 : List Int) (r : Int × Int) : Prop := evF X k n_euclid_Distance [(LI p1), (LI p2)] [] = some ((.tup [(false, [cI r.1]), (false, [cI r.2])]), [])
theorem T_euclid_Distance_ok (k : Nat) (p1 : List Int) (p2 : List Int) (r : Int × Int) : T_euclid_Distance k p1 p2 = some r → C_T_euclid_Distance k p1 p2 r := by
 intro H
 cases k with
 | zero => simp [T_euclid_Distance] at H
 | succ k =>
  simp only [T_euclid_Distance] at H
  refine F_in X_euclid_Distance rfl ?_
  refine K_seq (K_r [] [] (by kernel_rfl) trivial ?_)
  refine K_seq ?_
  refine K_seq ?_
  obtain ⟨x1, hx1, H⟩ := bind_some' H
  refine K_r [.r (I x1) []] [C_T_euclid_check k p1 p2 x1] (by kernel_rfl) (A1 (T_euclid_check_ok k p1 p2 x1 hx1)) ?_
  refine K_seq (K_r [] [] (by kernel_rfl) trivial ?_)
  rcases ite_some H with ⟨hx2, H⟩ | ⟨hx2, H⟩
  · refine K_t (by kernel_rfl) hx2 ?_
    refine K_seq (K_r [] [] (by kernel_rfl) trivial ?_)
    refine K_g (by kernel_rfl) ?_
    cases H
    refine K_ret ?_
    kernel_rfl
  · refine K_f (by kernel_rfl) (Bool.eq_false_iff.2 hx2) ?_
    refine K_g (by kernel_rfl) ?_
    refine K_skip ?_
    refine K_seq ?_
    obtain ⟨x3, hx3, H⟩ := bind_some' H
    refine K_r [.r (I x3) []] [C_T_euclid_square k p1 p2 x3] (by kernel_rfl) (A1 (T_euclid_square_ok k p1 p2 x3 hx3)) ?_
    refine K_g (by kernel_rfl) ?_
    cases H
    refine K_ret ?_
    kernel_rfl
def T_warp_check (k : Nat) (p1 : List Int) (p2 : List Int) (p3 : Int) : Option Int := match k with
 | 0 => none
 | k + 1 => (if (decide (p3 < 0) || decide (32 < p3)) = true then some 1 else ((T_euclid_Distance k p1 p1).bind fun x2 => (T_euclid_Distance k p2 p2).bind fun x3 => (if (decide (x2.2 = 8) || decide (x3.2 = 8)) = true then some 8 else (if (!decide (x2.2 = 0)) = true then some x2.2 else (if (!decide (x3.2 = 0)) = true then some x3.2 else (if (decide (p3 < (w64 ((p1.length : Int) - (p2.length : Int)))) || decide (p3 < (w64 ((p2.length : Int) - (p1.length : Int))))) = true then some 8 else some 0))))))
abbrev C_T_warp_check (k : Nat) (p1 : List Int) (p2 : List Int) (p3 : Int) (r : Int) : Prop := evF X k n_warp_check [(LI p1), (LI p2), (I p3)] [] = some ((I r), [])
theorem T_warp_check_ok (k : Nat) (p1 : List Int) (p2 : List Int) (p3 : Int) (r : Int) : T_warp_check k p1 p2 p3 = some r → C_T_warp_check k p1 p2 p3 r := by
 intro H
 cases k with
 | zero => simp [T_warp_check] at H
 | succ k =>
  simp only [T_warp_check] at H
  refine F_in X_warp_check rfl ?_
  refine K_seq (K_r [] [] (by kernel_rfl) trivial ?_)
  refine K_seq (K_seq (K_r [.m] [([] : Heap) = []] (by kernel_rfl) (A1 rfl) ?_))
  rcases ite_some H with ⟨hx1, H⟩ | ⟨hx1, H⟩
  · refine K_t (by kernel_rfl) hx1 ?_
    refine K_seq (K_r [] [] (by kernel_rfl) trivial ?_)
    refine K_g (by kernel_rfl) ?_
    cases H
    refine K_ret ?_
    kernel_rfl
  · refine K_f (by kernel_rfl) (Bool.eq_false_iff.2 hx1) ?_
    refine K_g (by kernel_rfl) ?_
    refine K_skip ?_
    refine K_seq ?_
    obtain ⟨x2, hx2, H⟩ := bind_some' H
    refine K_r [.r (.tup [(false, [cI x2.1]), (false, [cI x2.2])]) []] [C_T_euclid_Distance k p1 p1 x2] (by kernel_rfl) (A1 (T_euclid_Distance_ok k p1 p1 x2 hx2)) ?_
    refine K_seq ?_
    obtain ⟨x3, hx3, H⟩ := bind_some' H
    refine K_r [.r (.tup [(false, [cI x3.1]), (false, [cI x3.2])]) []] [C_T_euclid_Distance k p2 p2 x3] (by kernel_rfl) (A1 (T_euclid_Distance_ok k p2 p2 x3 hx3)) ?_
    refine K_seq (K_block (K_seq (K_r [.m] [([] : Heap) = []] (by kernel_rfl) (A1 rfl) ?_)))
    rcases ite_some H with ⟨hx4, H⟩ | ⟨hx4, H⟩
    · refine K_t (by kernel_rfl) hx4 ?_
      refine K_seq (K_r [] [] (by kernel_rfl) trivial ?_)
      refine K_g (by kernel_rfl) ?_
      cases H
      refine K_ret ?_
      kernel_rfl
    · refine K_f (by kernel_rfl) (Bool.eq_false_iff.2 hx4) ?_
      refine K_seq (K_r [] [] (by kernel_rfl) trivial ?_)
      rcases ite_some H with ⟨hx5, H⟩ | ⟨hx5, H⟩
      · refine K_t (by kernel_rfl) hx5 ?_
        refine K_seq (K_r [] [] (by kernel_rfl) trivial ?_)
        refine K_g (by kernel_rfl) ?_
        cases H
        refine K_ret ?_
        kernel_rfl
      · refine K_f (by kernel_rfl) (Bool.eq_false_iff.2 hx5) ?_
        refine K_seq (K_r [] [] (by kernel_rfl) trivial ?_)
        rcases ite_some H with ⟨hx6, H⟩ | ⟨hx6, H⟩
        · refine K_t (by kernel_rfl) hx6 ?_
          refine K_seq (K_r [] [] (by kernel_rfl) trivial ?_)
          refine K_g (by kernel_rfl) ?_
          cases H
          refine K_ret ?_
          kernel_rfl
        · refine K_f (by kernel_rfl) (Bool.eq_false_iff.2 hx6) ?_
          refine K_seq (K_r [.n p1.length, .n p2.length, .m, .n p2.length, .n p1.length] [((p1.map (D.int .i64))).length = p1.length, ((p2.map (D.int .i64))).length = p2.length, decide (p3 < (w64 ((p1.length : Int) - (p2.length : Int)))) = false → AllT [((p2.map (D.int .i64))).length = p2.length, ((p1.map (D.int .i64))).length = p1.length], ([] : Heap) = []] (by kernel_rfl) (AC (List.length_map _) (AC (List.length_map _) (AC (fun _ => (AC (List.length_map _) (A1 (List.length_map _)))) (A1 rfl)))) ?_)
          rcases ite_some H with ⟨hx7, H⟩ | ⟨hx7, H⟩
          · refine K_t (by kernel_rfl) hx7 ?_
            refine K_seq (K_r [] [] (by kernel_rfl) trivial ?_)
            refine K_g (by kernel_rfl) ?_
            cases H
            refine K_ret ?_
            kernel_rfl
          · refine K_f (by kernel_rfl) (Bool.eq_false_iff.2 hx7) ?_
            refine K_g (by kernel_rfl) ?_
            refine K_skip (K_blk (K_seq (K_r [] [] (by kernel_rfl) trivial ?_)))
            refine K_g (by kernel_rfl) ?_
            cases H
            refine K_ret ?_
            kernel_rfl
def T_warp_near (k : Nat) (p1 : Int) (p2 : Int) (p3 : Int) : Option Unit := match k with
 | 0 => none
 | k + 1 => some ()
abbrev C_T_warp_near (k : Nat) (p1 : Int) (p2 : Int) (p3 : Int) (r : Unit) : Prop := evF X k n_warp_near [(I p1), (I p2), (I p3)] [] = some ((B (decide ((w64 (p1 - p2)) ≤ p3) && decide ((w64 (p2 - p1)) ≤ p3))), [])
theorem T_warp_near_ok (k : Nat) (p1 : Int) (p2 : Int) (p3 : Int) (r : Unit) : T_warp_near k p1 p2 p3 = some r → C_T_warp_near k p1 p2 p3 r := by
 intro H
 cases k with
 | zero => simp [T_warp_near] at H
 | succ k =>
  simp only [T_warp_near] at H
  refine F_in X_warp_near rfl ?_
  refine K_seq (K_r [] [] (by kernel_rfl) trivial ?_)
  refine K_seq (K_r [.m] [([] : Heap) = []] (by kernel_rfl) (A1 rfl) ?_)
  refine K_g (by kernel_rfl) ?_
  cases H
  refine K_ret ?_
  kernel_rfl
def T_warp_fill_l1 (k : Nat) (p1 : Nat) (p2 : Nat) (p3 : List Int) (p4 : List Int) (p5 : Int) (p6 : Int) (x7 : Int) (p8 : List Int) (x34 : Int × (List Int)) : Option ((Int × (List Int)) ⊕ (((List Int)))) :=
 (if x34.1 < x7 then (if (0 : Int) ≤ x34.1 ∧ x34.1 < ((p1 : Nat) : Int) then (T_warp_near k p6 x34.1 p5).bind fun x37 => (if (!(decide ((w64 (p6 - x34.1)) ≤ p5) && decide ((w64 (x34.1 - p6)) ≤ p5))) = true then some (.inl ((w64 (x34.1 + 1)), (x34.2.set (0 + x34.1.toNat) 4611686018427387904))) else ((if (decide (p6 = 0) && decide (x34.1 = 0)) = true then some 0 else some 4611686018427387904)).bind fun x40 => ((if 0 < x34.1 then (if (0 : Int) ≤ (w64 (x34.1 - 1)) ∧ (w64 (x34.1 - 1)) < ((p1 : Nat) : Int) then ((x34.2.set (0 + x34.1.toNat) 4611686018427387904)[(0 + (w64 (x34.1 - 1)).toNat)]?).bind fun x43 => some (imin x40 x43) else none) else some x40)).bind fun x44 => ((if 0 < p6 then (if (0 : Int) ≤ x34.1 ∧ x34.1 < ((p2 : Nat) : Int) then (p8[(0 + x34.1.toNat)]?).bind fun x47 => some (imin x44 x47) else none) else some x44)).bind fun x48 => ((if (decide (0 < p6) && decide (0 < x34.1)) = true then (if (0 : Int) ≤ x34.1 ∧ x34.1 < ((p2 : Nat) : Int) then (p8[(0 + x34.1.toNat)]?).bind fun x51 => (if (0 : Int) ≤ (w64 (x34.1 - 1)) ∧ (w64 (x34.1 - 1)) < ((p2 : Nat) : Int) then (p8[(0 + (w64 (x34.1 - 1)).toNat)]?).bind fun x53 => some (imin (imin x48 x51) x53) else none) else none) else some x48)).bind fun x54 => (at? p3 p6).bind fun x55 => (at? p4 x34.1).bind fun x56 => (if (0 : Int) ≤ x34.1 ∧ x34.1 < ((p1 : Nat) : Int) then some (.inl ((w64 (x34.1 + 1)), ((x34.2.set (0 + x34.1.toNat) 4611686018427387904).set (0 + x34.1.toNat) (imin 4611686018427387904 (w64 (x54 + (w64 ((w64 (x55 - x56)) * (w64 (x55 - x56)))))))))) else none)) else none) else some (.inr x34.2))
theorem T_warp_fill_l1_ok (k : Nat) (p1 : Nat) (p2 : Nat) (p3 : List Int) (p4 : List Int) (p5 : Int) (p6 : Int) (x7 : Int) (p8 : List Int) : ∀ (x34 : Int × (List Int)) (x : (Int × (List Int)) ⊕ (((List Int)))), T_warp_fill_l1 k p1 p2 p3 p4 p5 p6 x7 p8 x34 = some x → evC X (evF X k) k 2 l_warp_fill_1 ⟨[(0, (.one (.own 0 0 p1))), (1, (.one (.own 1 0 p2))), (2, (LI p3)), (3, (LI p4)), (4, (I p5)), (5, (I p6)), (15, (I x7)), (16, (I x34.1))], [VI x34.2, VI p8]⟩ = some (outS (fun (s : Int × (List Int)) => ⟨[(0, (.one (.own 0 0 p1))), (1, (.one (.own 1 0 p2))), (2, (LI p3)), (3, (LI p4)), (4, (I p5)), (5, (I p6)), (15, (I x7)), (16, (I s.1))], [VI s.2, VI p8]⟩) (fun (r : ((List Int))) => (.exit 0, ⟨[], [VI r, VI p8]⟩)) x) := by
 intro x34 x H
 unfold T_warp_fill_l1 at H
 refine K_in ?_
 refine K_seq (K_r [] [] (by kernel_rfl) trivial ?_)
 refine K_seq ?_
 rcases ite_some H with ⟨hx35, H⟩ | ⟨hx35, H⟩
 · refine K_t (by kernel_rfl) (decide_eq_true hx35) ?_
   refine K_g (by kernel_rfl) ?_
   refine K_skip (K_seq (K_block (K_seq (K_r [] [] (by kernel_rfl) trivial ?_))))
   refine K_seq ?_
   obtain ⟨hx36, H⟩ := guard_some H
   refine K_r [.l ((x34.2.set (0 + x34.1.toNat) 4611686018427387904).map (D.int .i64))] [(0 : Int) ≤ x34.1 ∧ x34.1 < ((p1 : Nat) : Int), (x34.2.map (D.int .i64)).set (0 + x34.1.toNat) (elemOf (.int .i64 0) (splice ((x34.2.map (D.int .i64)).getD (0 + x34.1.toNat) (.int .i64 0)).cells 0 [.int .i64 4611686018427387904])) = (x34.2.set (0 + x34.1.toNat) 4611686018427387904).map (D.int .i64)] (by kernel_rfl) (AC hx36 (A1 (st_one x34.2 (0 + x34.1.toNat) 4611686018427387904 (D.int .i64) (.int .i64 0) rfl (fun _ => rfl) rfl))) ?_
   refine K_seq ?_
   refine K_seq ?_
   obtain ⟨x37, hx37, H⟩ := bind_some' H
   refine K_r [.r (B (decide ((w64 (p6 - x34.1)) ≤ p5) && decide ((w64 (x34.1 - p6)) ≤ p5))) []] [C_T_warp_near k p6 x34.1 p5 x37] (by kernel_rfl) (A1 (T_warp_near_ok k p6 x34.1 p5 x37 hx37)) ?_
   rcases ite_some H with ⟨hx38, H⟩ | ⟨hx38, H⟩
   · refine K_t (by kernel_rfl) hx38 ?_
     refine K_g (by kernel_rfl) ?_
     refine K_exit rfl ?_
     refine K_r [] [] (by kernel_rfl) trivial ?_
     cases H
     exact K_end (by kernel_rfl)
   · refine K_f (by kernel_rfl) (Bool.eq_false_iff.2 hx38) ?_
     refine K_g (by kernel_rfl) ?_
     refine K_skip (K_seq (K_r [] [] (by kernel_rfl) trivial ?_))
     refine K_seq (K_seq (K_r [.m] ((fun (z1 : Heap) => [z1 = z1]) [VI (x34.2.set (0 + x34.1.toNat) 4611686018427387904), VI p8]) (by kernel_rfl) (A1 rfl) ?_))
     obtain ⟨x40, hx40, H⟩ := bind_some' H
     refine K_of ⟨[(0, (.one (.own 0 0 p1))), (1, (.one (.own 1 0 p2))), (2, (LI p3)), (3, (LI p4)), (4, (I p5)), (5, (I p6)), (12, (I x34.1)), (13, (I x40)), (15, (I x7)), (16, (I x34.1))], [VI (x34.2.set (0 + x34.1.toNat) 4611686018427387904), VI p8]⟩ ?_ ?_
     · clear H; have H := hx40; clear hx40; refine K_in ?_
       rcases ite_some H with ⟨hx39, H⟩ | ⟨hx39, H⟩
       · refine K_t (by kernel_rfl) hx39 ?_
         refine K_r [] [] (by kernel_rfl) trivial ?_
         cases H
         exact K_end (by kernel_rfl)
       · refine K_f (by kernel_rfl) (Bool.eq_false_iff.2 hx39) ?_
         refine K_g (by kernel_rfl) ?_
         refine K_skip ?_
         cases H
         exact K_end (by kernel_rfl)
     refine K_seq (K_seq (K_r [] [] (by kernel_rfl) trivial ?_))
     obtain ⟨x44, hx44, H⟩ := bind_some' H
     refine K_of ⟨[(0, (.one (.own 0 0 p1))), (1, (.one (.own 1 0 p2))), (2, (LI p3)), (3, (LI p4)), (4, (I p5)), (5, (I p6)), (12, (I x34.1)), (13, (I x44)), (15, (I x7)), (16, (I x34.1))], [VI (x34.2.set (0 + x34.1.toNat) 4611686018427387904), VI p8]⟩ ?_ ?_
     · clear H; have H := hx44; clear hx44; refine K_in ?_
       rcases ite_some H with ⟨hx41, H⟩ | ⟨hx41, H⟩
       · refine K_t (by kernel_rfl) (decide_eq_true hx41) ?_
         obtain ⟨hx42, H⟩ := guard_some H
         obtain ⟨x43, hx43, H⟩ := bind_some' H
         refine K_r [.l [.int .i64 x43]] [(0 : Int) ≤ (w64 (x34.1 - 1)) ∧ (w64 (x34.1 - 1)) < ((p1 : Nat) : Int), (((x34.2.set (0 + x34.1.toNat) 4611686018427387904).map (D.int .i64)).getD (0 + (w64 (x34.1 - 1)).toNat) (.int .i64 0)).cells = [.int .i64 x43]] (by kernel_rfl) (AC hx42 (A1 (ld_ok hx43 (D.int .i64) (.int .i64 0)))) ?_
         cases H
         exact K_end (by kernel_rfl)
       · refine K_f (by kernel_rfl) (decide_eq_false hx41) ?_
         refine K_g (by kernel_rfl) ?_
         refine K_skip ?_
         cases H
         exact K_end (by kernel_rfl)
     refine K_seq (K_seq (K_r [] [] (by kernel_rfl) trivial ?_))
     obtain ⟨x48, hx48, H⟩ := bind_some' H
     refine K_of ⟨[(0, (.one (.own 0 0 p1))), (1, (.one (.own 1 0 p2))), (2, (LI p3)), (3, (LI p4)), (4, (I p5)), (5, (I p6)), (12, (I x34.1)), (13, (I x48)), (15, (I x7)), (16, (I x34.1))], [VI (x34.2.set (0 + x34.1.toNat) 4611686018427387904), VI p8]⟩ ?_ ?_
     · clear H; have H := hx48; clear hx48; refine K_in ?_
       rcases ite_some H with ⟨hx45, H⟩ | ⟨hx45, H⟩
       · refine K_t (by kernel_rfl) (decide_eq_true hx45) ?_
         obtain ⟨hx46, H⟩ := guard_some H
         obtain ⟨x47, hx47, H⟩ := bind_some' H
         refine K_r [.l [.int .i64 x47]] [(0 : Int) ≤ x34.1 ∧ x34.1 < ((p2 : Nat) : Int), ((p8.map (D.int .i64)).getD (0 + x34.1.toNat) (.int .i64 0)).cells = [.int .i64 x47]] (by kernel_rfl) (AC hx46 (A1 (ld_ok hx47 (D.int .i64) (.int .i64 0)))) ?_
         cases H
         exact K_end (by kernel_rfl)
       · refine K_f (by kernel_rfl) (decide_eq_false hx45) ?_
         refine K_g (by kernel_rfl) ?_
         refine K_skip ?_
         cases H
         exact K_end (by kernel_rfl)
     refine K_seq (K_seq (K_r [.m] ((fun (z1 : Heap) => [z1 = z1]) [VI (x34.2.set (0 + x34.1.toNat) 4611686018427387904), VI p8]) (by kernel_rfl) (A1 rfl) ?_))
     obtain ⟨x54, hx54, H⟩ := bind_some' H
     refine K_of ⟨[(0, (.one (.own 0 0 p1))), (1, (.one (.own 1 0 p2))), (2, (LI p3)), (3, (LI p4)), (4, (I p5)), (5, (I p6)), (12, (I x34.1)), (13, (I x54)), (15, (I x7)), (16, (I x34.1))], [VI (x34.2.set (0 + x34.1.toNat) 4611686018427387904), VI p8]⟩ ?_ ?_
     · clear H; have H := hx54; clear hx54; refine K_in ?_
       rcases ite_some H with ⟨hx49, H⟩ | ⟨hx49, H⟩
       · refine K_t (by kernel_rfl) hx49 ?_
         obtain ⟨hx50, H⟩ := guard_some H
         obtain ⟨x51, hx51, H⟩ := bind_some' H
         obtain ⟨hx52, H⟩ := guard_some H
         obtain ⟨x53, hx53, H⟩ := bind_some' H
         refine K_r [.l [.int .i64 x51], .l [.int .i64 x53]] [(0 : Int) ≤ x34.1 ∧ x34.1 < ((p2 : Nat) : Int), ((p8.map (D.int .i64)).getD (0 + x34.1.toNat) (.int .i64 0)).cells = [.int .i64 x51], (0 : Int) ≤ (w64 (x34.1 - 1)) ∧ (w64 (x34.1 - 1)) < ((p2 : Nat) : Int), ((p8.map (D.int .i64)).getD (0 + (w64 (x34.1 - 1)).toNat) (.int .i64 0)).cells = [.int .i64 x53]] (by kernel_rfl) (AC hx50 (AC (ld_ok hx51 (D.int .i64) (.int .i64 0)) (AC hx52 (A1 (ld_ok hx53 (D.int .i64) (.int .i64 0)))))) ?_
         cases H
         exact K_end (by kernel_rfl)
       · refine K_f (by kernel_rfl) (Bool.eq_false_iff.2 hx49) ?_
         refine K_g (by kernel_rfl) ?_
         refine K_skip ?_
         cases H
         exact K_end (by kernel_rfl)
     obtain ⟨x55, hx55, H⟩ := bind_some' H
     obtain ⟨x56, hx56, H⟩ := bind_some' H
     obtain ⟨hx57, H⟩ := guard_some H
     refine K_r [.l [.int .i64 x55], .l [.int .i64 x56], .l [.int .i64 x55], .l [.int .i64 x56], .l (((x34.2.set (0 + x34.1.toNat) 4611686018427387904).set (0 + x34.1.toNat) (imin 4611686018427387904 (w64 (x54 + (w64 ((w64 (x55 - x56)) * (w64 (x55 - x56)))))))).map (D.int .i64))] [(0 : Int) ≤ p6 ∧ p6 < (((p3.map (D.int .i64))).length : Int), ((p3.map (D.int .i64)).getD p6.toNat (.int .i64 0)).cells = [.int .i64 x55], (0 : Int) ≤ x34.1 ∧ x34.1 < (((p4.map (D.int .i64))).length : Int), ((p4.map (D.int .i64)).getD x34.1.toNat (.int .i64 0)).cells = [.int .i64 x56], (0 : Int) ≤ p6 ∧ p6 < (((p3.map (D.int .i64))).length : Int), ((p3.map (D.int .i64)).getD p6.toNat (.int .i64 0)).cells = [.int .i64 x55], (0 : Int) ≤ x34.1 ∧ x34.1 < (((p4.map (D.int .i64))).length : Int), ((p4.map (D.int .i64)).getD x34.1.toNat (.int .i64 0)).cells = [.int .i64 x56], (0 : Int) ≤ x34.1 ∧ x34.1 < ((p1 : Nat) : Int), ((x34.2.set (0 + x34.1.toNat) 4611686018427387904).map (D.int .i64)).set (0 + x34.1.toNat) (elemOf (.int .i64 0) (splice (((x34.2.set (0 + x34.1.toNat) 4611686018427387904).map (D.int .i64)).getD (0 + x34.1.toNat) (.int .i64 0)).cells 0 [.int .i64 (imin 4611686018427387904 (w64 (x54 + (w64 ((w64 (x55 - x56)) * (w64 (x55 - x56)))))))])) = ((x34.2.set (0 + x34.1.toNat) 4611686018427387904).set (0 + x34.1.toNat) (imin 4611686018427387904 (w64 (x54 + (w64 ((w64 (x55 - x56)) * (w64 (x55 - x56)))))))).map (D.int .i64)] (by kernel_rfl) (AC (at_ok hx55 (D.int .i64) (.int .i64 0)).1 (AC (at_ok hx55 (D.int .i64) (.int .i64 0)).2 (AC (at_ok hx56 (D.int .i64) (.int .i64 0)).1 (AC (at_ok hx56 (D.int .i64) (.int .i64 0)).2 (AC (at_ok hx55 (D.int .i64) (.int .i64 0)).1 (AC (at_ok hx55 (D.int .i64) (.int .i64 0)).2 (AC (at_ok hx56 (D.int .i64) (.int .i64 0)).1 (AC (at_ok hx56 (D.int .i64) (.int .i64 0)).2 (AC hx57 (A1 (st_one (x34.2.set (0 + x34.1.toNat) 4611686018427387904) (0 + x34.1.toNat) (imin 4611686018427387904 (w64 (x54 + (w64 ((w64 (x55 - x56)) * (w64 (x55 - x56))))))) (D.int .i64) (.int .i64 0) rfl (fun _ => rfl) rfl))))))))))) ?_
     refine K_blk (K_r [] [] (by kernel_rfl) trivial ?_)
     cases H
     exact K_end (by kernel_rfl)
 · refine K_f (by kernel_rfl) (decide_eq_false hx35) ?_
   refine K_g (by kernel_rfl) ?_
   cases H
   exact K_exit0 rfl (by kernel_rfl)
def T_warp_fill (k : Nat) (p1 : Nat) (p2 : Nat) (p3 : List Int) (p4 : List Int) (p5 : Int) (p6 : Int) (p7 : List Int) (p8 : List Int) : Option ((List Int)) := match k with
 | 0 => none
 | k + 1 => ((loopT (T_warp_fill_l1 k p1 p2 p3 p4 p5 p6 (p4.length : Int) p8) k (0, p7)).bind fun x58 => some x58)
abbrev C_T_warp_fill (k : Nat) (p1 : Nat) (p2 : Nat) (p3 : List Int) (p4 : List Int) (p5 : Int) (p6 : Int) (p7 : List Int) (p8 : List Int) (r : (List Int)) : Prop := evF X k n_warp_fill [(.one (.own 0 0 p1)), (.one (.own 1 0 p2)), (LI p3), (LI p4), (I p5), (I p6)] [VI p7, VI p8] = some ((.tup []), [VI r, VI p8])
theorem T_warp_fill_ok (k : Nat) (p1 : Nat) (p2 : Nat) (p3 : List Int) (p4 : List Int) (p5 : Int) (p6 : Int) (p7 : List Int) (p8 : List Int) (r : (List Int)) : T_warp_fill k p1 p2 p3 p4 p5 p6 p7 p8 = some r → C_T_warp_fill k p1 p2 p3 p4 p5 p6 p7 p8 r := by
 intro H
 cases k with
 | zero => simp [T_warp_fill] at H
 | succ k =>
  simp only [T_warp_fill] at H
  refine F_in X_warp_fill rfl ?_
  refine K_seq (K_r [.n p4.length] [((p4.map (D.int .i64))).length = p4.length] (by kernel_rfl) (A1 (List.length_map _)) ?_)
  refine K_block (K_conv (σ' := ⟨[(0, (.one (.own 0 0 p1))), (1, (.one (.own 1 0 p2))), (2, (LI p3)), (3, (LI p4)), (4, (I p5)), (5, (I p6)), (15, (I (p4.length : Int))), (16, (I 0))], [VI p7, VI p8]⟩) (by kernel_rfl) ?_)
  obtain ⟨x58, hx58, H⟩ := bind_some' H
  refine K_loop ⟨[], [VI x58, VI p8]⟩ (loop_ok (fun (s : Int × (List Int)) => ⟨[(0, (.one (.own 0 0 p1))), (1, (.one (.own 1 0 p2))), (2, (LI p3)), (3, (LI p4)), (4, (I p5)), (5, (I p6)), (15, (I (p4.length : Int))), (16, (I s.1))], [VI s.2, VI p8]⟩) (fun (r : ((List Int))) => (.exit 0, ⟨[], [VI r, VI p8]⟩)) (fun r h => by cases h) (T_warp_fill_l1_ok k p1 p2 p3 p4 p5 p6 (p4.length : Int) p8) k (0, p7) x58 hx58) rfl ?_
  cases H
  refine K_end ?_
  kernel_rfl
def T_slices_Min_b354_l1 (k : Nat) (p1 : Nat) (p2 : List Int) (x11 : Int × Int) : Option ((Int × Int) ⊕ Int) :=
 (if x11.2 < ((p1 : Nat) : Int) then (if (0 : Int) ≤ x11.2 ∧ x11.2 < ((p1 : Nat) : Int) then (p2[(0 + x11.2.toNat)]?).bind fun x14 => some (.inl ((imin x11.1 x14), (w64 (x11.2 + 1)))) else none) else some (.inr x11.1))
theorem T_slices_Min_b354_l1_ok (k : Nat) (p1 : Nat) (p2 : List Int) : ∀ (x11 : Int × Int) (x : (Int × Int) ⊕ Int), T_slices_Min_b354_l1 k p1 p2 x11 = some x → evC X (evF X k) k 1 l_slices_Min_b354_1 ⟨[(0, (.one (.own 0 0 p1))), (3, (I x11.1)), (4, (I x11.2))], [VI p2]⟩ = some (outS (fun (s : Int × Int) => ⟨[(0, (.one (.own 0 0 p1))), (3, (I s.1)), (4, (I s.2))], [VI p2]⟩) (fun (r : Int) => (.exit 0, ⟨[(3, (I r))], [VI p2]⟩)) x) := by
 intro x11 x H
 unfold T_slices_Min_b354_l1 at H
 refine K_in ?_
 refine K_seq (K_seq (K_r [] [] (by kernel_rfl) trivial ?_))
 rcases ite_some H with ⟨hx12, H⟩ | ⟨hx12, H⟩
 · refine K_t (by kernel_rfl) (decide_eq_true hx12) ?_
   refine K_g (by kernel_rfl) ?_
   refine K_skip ?_
   refine K_seq ?_
   refine K_block ?_
   obtain ⟨hx13, H⟩ := guard_some H
   obtain ⟨x14, hx14, H⟩ := bind_some' H
   refine K_r [.l [.int .i64 x14]] [(0 : Int) ≤ x11.2 ∧ x11.2 < ((p1 : Nat) : Int), ((p2.map (D.int .i64)).getD (0 + x11.2.toNat) (.int .i64 0)).cells = [.int .i64 x14]] (by kernel_rfl) (AC hx13 (A1 (ld_ok hx14 (D.int .i64) (.int .i64 0)))) ?_
   refine K_blk (K_r [] [] (by kernel_rfl) trivial ?_)
   cases H
   exact K_end (by kernel_rfl)
 · refine K_f (by kernel_rfl) (decide_eq_false hx12) ?_
   refine K_g (by kernel_rfl) ?_
   cases H
   exact K_exit0 rfl (by kernel_rfl)
def T_slices_Min_b354 (k : Nat) (p1 : Nat) (p2 : List Int) : Option Int := match k with
 | 0 => none
 | k + 1 => (if ((p1 : Nat) : Int) < 1 then none else (if (0 : Int) ≤ 0 ∧ 0 < ((p1 : Nat) : Int) then (p2[(0 + 0)]?).bind fun x3 => (loopT (T_slices_Min_b354_l1 k p1 p2) k (x3, 1)).bind fun x15 => some x15 else none))
abbrev C_T_slices_Min_b354 (k : Nat) (p1 : Nat) (p2 : List Int) (r : Int) : Prop := evF X k n_slices_Min_b354 [(.one (.own 0 0 p1))] [VI p2] = some ((I r), [VI p2])
theorem T_slices_Min_b354_ok (k : Nat) (p1 : Nat) (p2 : List Int) (r : Int) : T_slices_Min_b354 k p1 p2 = some r → C_T_slices_Min_b354 k p1 p2 r := by
 intro H
 cases k with
 | zero => simp [T_slices_Min_b354] at H
 | succ k =>
  simp only [T_slices_Min_b354] at H
  refine F_in X_slices_Min_b354 rfl ?_
  refine K_seq (K_r [] [] (by kernel_rfl) trivial ?_)
  refine K_seq (K_seq (K_r [] [] (by kernel_rfl) trivial ?_))
  rcases ite_some H with ⟨hx1, H⟩ | ⟨hx1, H⟩
  · refine K_t (by kernel_rfl) (decide_eq_true hx1) ?_
    cases H
  · refine K_f (by kernel_rfl) (decide_eq_false hx1) ?_
    refine K_g (by kernel_rfl) ?_
    refine K_skip ?_
    refine K_seq ?_
    obtain ⟨hx2, H⟩ := guard_some H
    obtain ⟨x3, hx3, H⟩ := bind_some' H
    refine K_r [.l [.int .i64 x3]] [(0 : Int) ≤ 0 ∧ 0 < ((p1 : Nat) : Int), ((p2.map (D.int .i64)).getD (0 + 0) (.int .i64 0)).cells = [.int .i64 x3]] (by kernel_rfl) (AC hx2 (A1 (ld_ok hx3 (D.int .i64) (.int .i64 0)))) ?_
    refine K_seq (K_seq (K_r [] [] (by kernel_rfl) trivial ?_))
    refine K_block (K_conv (σ' := ⟨[(0, (.one (.own 0 0 p1))), (3, (I x3)), (4, (I 1))], [VI p2]⟩) (by kernel_rfl) ?_)
    obtain ⟨x15, hx15, H⟩ := bind_some' H
    refine K_loop ⟨[(3, (I x15))], [VI p2]⟩ (loop_ok (fun (s : Int × Int) => ⟨[(0, (.one (.own 0 0 p1))), (3, (I s.1)), (4, (I s.2))], [VI p2]⟩) (fun (r : Int) => (.exit 0, ⟨[(3, (I r))], [VI p2]⟩)) (fun r h => by cases h) (T_slices_Min_b354_l1_ok k p1 p2) k (x3, 1) x15 hx15) rfl ?_
    refine K_seq (K_r [] [] (by kernel_rfl) trivial ?_)
    refine K_g (by kernel_rfl) ?_
    cases H
    refine K_ret ?_
    kernel_rfl
def T_warp_distance_l1 (k : Nat) (p1 : List Int) (p2 : List Int) (p3 : Int) (p4 : Int) (x8 : Int) (x16 : Nat × Nat × Int × (List Int) × (List Int)) : Option ((Nat × Nat × Int × (List Int) × (List Int)) ⊕ ((Nat × (List Int)) ⊕ Unit)) :=
 (if x16.2.2.1 < x8 then ((T_warp_fill k x16.1 x16.2.1 p1 p2 p3 x16.2.2.1 x16.2.2.2.1 x16.2.2.2.2).bind fun x18 => (T_slices_Min_b354 k x16.1 x18).bind fun x19 => (if p4 < x19 then some (.inr (.inr ())) else some (.inl (x16.2.1, x16.1, (w64 (x16.2.2.1 + 1)), x16.2.2.2.2, x18)))) else some (.inr (.inl (x16.2.1, x16.2.2.2.2))))
theorem T_warp_distance_l1_ok (k : Nat) (p1 : List Int) (p2 : List Int) (p3 : Int) (p4 : Int) (x8 : Int) : ∀ (x16 : Nat × Nat × Int × (List Int) × (List Int)) (x : (Nat × Nat × Int × (List Int) × (List Int)) ⊕ ((Nat × (List Int)) ⊕ Unit)), T_warp_distance_l1 k p1 p2 p3 p4 x8 x16 = some x → evC X (evF X k) k 0 l_warp_distance_1 ⟨[(0, (LI p1)), (1, (LI p2)), (2, (I p3)), (3, (I p4)), (9, (.one (.own 0 0 x16.1))), (10, (.one (.own 1 0 x16.2.1))), (19, (I x8)), (20, (I x16.2.2.1))], [VI x16.2.2.2.1, VI x16.2.2.2.2]⟩ = some (outS (fun (s : Nat × Nat × Int × (List Int) × (List Int)) => ⟨[(0, (LI p1)), (1, (LI p2)), (2, (I p3)), (3, (I p4)), (9, (.one (.own 0 0 s.1))), (10, (.one (.own 1 0 s.2.1))), (19, (I x8)), (20, (I s.2.2.1))], [VI s.2.2.2.1, VI s.2.2.2.2]⟩) (fun (r : (Nat × (List Int)) ⊕ Unit) => Sum.elim (fun y => (.exit 0, ⟨[(1, (LI p2)), (10, (.one (.own 0 0 y.1)))], [VI y.2]⟩)) (fun y => (.ret, ⟨[(8, (I 4611686018427387904))], []⟩)) r) x) := by
 intro x16 x H
 unfold T_warp_distance_l1 at H
 refine K_in ?_
 refine K_seq (K_r [] [] (by kernel_rfl) trivial ?_)
 refine K_seq ?_
 rcases ite_some H with ⟨hx17, H⟩ | ⟨hx17, H⟩
 · refine K_t (by kernel_rfl) (decide_eq_true hx17) ?_
   refine K_g (by kernel_rfl) ?_
   refine K_skip (K_seq (K_block (K_seq (K_r [] [] (by kernel_rfl) trivial ?_))))
   refine K_seq (K_r [] [] (by kernel_rfl) trivial ?_)
   refine K_seq ?_
   obtain ⟨x18, hx18, H⟩ := bind_some' H
   refine K_r [.r (.tup []) [VI x18, VI x16.2.2.2.2]] [C_T_warp_fill k x16.1 x16.2.1 p1 p2 p3 x16.2.2.1 x16.2.2.2.1 x16.2.2.2.2 x18] (by kernel_rfl) (A1 (T_warp_fill_ok k x16.1 x16.2.1 p1 p2 p3 x16.2.2.1 x16.2.2.2.1 x16.2.2.2.2 x18 hx18)) ?_
   refine K_seq ?_
   obtain ⟨x19, hx19, H⟩ := bind_some' H
   refine K_r [.r (I x19) [VI x18]] [C_T_slices_Min_b354 k x16.1 x18 x19] (by kernel_rfl) (A1 (T_slices_Min_b354_ok k x16.1 x18 x19 hx19)) ?_
   rcases ite_some H with ⟨hx20, H⟩ | ⟨hx20, H⟩
   · refine K_t (by kernel_rfl) (decide_eq_true hx20) ?_
     refine K_seq (K_r [] [] (by kernel_rfl) trivial ?_)
     refine K_g (by kernel_rfl) ?_
     cases H
     exact K_ret (by kernel_rfl)
   · refine K_f (by kernel_rfl) (decide_eq_false hx20) ?_
     refine K_g (by kernel_rfl) ?_
     refine K_skip (K_blk (K_r [] [] (by kernel_rfl) trivial ?_))
     cases H
     exact K_end (by kernel_rfl)
 · refine K_f (by kernel_rfl) (decide_eq_false hx17) ?_
   refine K_g (by kernel_rfl) ?_
   cases H
   exact K_exit0 rfl (by kernel_rfl)
def T_warp_distance (k : Nat) (p1 : List Int) (p2 : List Int) (p3 : Int) (p4 : Int) : Option Int := match k with
 | 0 => none
 | k + 1 => (if (0 : Int) ≤ (p2.length : Int) ∧ (p2.length : Int) ≤ (p2.length : Int) ∧ (p2.length : Int) ≤ (LIM : Int) then (loopT (T_warp_distance_l1 k p1 p2 p3 p4 (p1.length : Int)) k ((p2.length : Int).toNat, (p2.length : Int).toNat, 0, (List.replicate (p2.length : Int).toNat (0 : Int)), (List.replicate (p2.length : Int).toNat (0 : Int)))).bind fun x21 => (match x21 with | .inl x22 => (if (0 : Int) ≤ (w64 ((p2.length : Int) - 1)) ∧ (w64 ((p2.length : Int) - 1)) < ((x22.1 : Nat) : Int) then (x22.2[(0 + (w64 ((p2.length : Int) - 1)).toNat)]?).bind fun x24 => some x24 else none) | .inr x25 => some 4611686018427387904) else none)
abbrev C_T_warp_distance (k : Nat) (p1 : List Int) (p2 : List Int) (p3 : Int) (p4 : Int) (r : Int) : Prop := evF X k n_warp_distance [(LI p1), (LI p2), (I p3), (I p4)] [] = some ((I r), [])
theorem T_warp_distance_ok (k : Nat) (p1 : List Int) (p2 : List Int) (p3 : Int) (p4 : Int) (r : Int) : T_warp_distance k p1 p2 p3 p4 = some r → C_T_warp_distance k p1 p2 p3 p4 r := by
 intro H
 cases k with
 | zero => simp [T_warp_distance] at H
 | succ k =>
  simp only [T_warp_distance] at H
  refine F_in X_warp_distance rfl ?_
  refine K_seq (K_r [] [] (by kernel_rfl) trivial ?_)
  refine K_seq ?_
  obtain ⟨hx1, H⟩ := guard_some H
  refine K_rD [.n p2.length, .n p2.length, .l ((List.replicate (p2.length : Int).toNat (0 : Int)).map (D.int .i64)), .l ((List.replicate (p2.length : Int).toNat (0 : Int)).map (D.int .i64)), .l ((List.replicate (p2.length : Int).toNat (0 : Int)).map (D.int .i64)), .l ((List.replicate (p2.length : Int).toNat (0 : Int)).map (D.int .i64))] ((fun (z1 : St) => [((p2.map (D.int .i64))).length = p2.length, ((p2.map (D.int .i64))).length = p2.length, (0 : Int) ≤ (p2.length : Int) ∧ (p2.length : Int) ≤ (p2.length : Int) ∧ (p2.length : Int) ≤ (LIM : Int), List.replicate (p2.length : Int).toNat (.int .i64 0) = (List.replicate (p2.length : Int).toNat (0 : Int)).map (D.int .i64), (0 : Int) ≤ (p2.length : Int) ∧ (p2.length : Int) ≤ (p2.length : Int) ∧ (p2.length : Int) ≤ (LIM : Int), List.replicate (p2.length : Int).toNat (.int .i64 0) = (List.replicate (p2.length : Int).toNat (0 : Int)).map (D.int .i64), (0 : Int) ≤ (p2.length : Int) ∧ (p2.length : Int) ≤ (p2.length : Int) ∧ (p2.length : Int) ≤ (LIM : Int), List.replicate (p2.length : Int).toNat (.int .i64 0) = (List.replicate (p2.length : Int).toNat (0 : Int)).map (D.int .i64), (0 : Int) ≤ (p2.length : Int) ∧ (p2.length : Int) ≤ (p2.length : Int) ∧ (p2.length : Int) ≤ (LIM : Int), List.replicate (p2.length : Int).toNat (.int .i64 0) = (List.replicate (p2.length : Int).toNat (0 : Int)).map (D.int .i64), z1 = z1]) (⟨[(0, (LI p1)), (1, (LI p2)), (2, (I p3)), (3, (I p4)), (9, (.one (.own 0 0 ((p2.length : Int).toNat)))), (10, (.one (.own 1 0 ((p2.length : Int).toNat))))], [VI (List.replicate (p2.length : Int).toNat (0 : Int)), VI (List.replicate (p2.length : Int).toNat (0 : Int))]⟩)) (by kernel_rfl) (AC (List.length_map _) (AC (List.length_map _) (AC hx1 (AC (rep_map (D.int .i64) _ (0 : Int)) (AC hx1 (AC (rep_map (D.int .i64) _ (0 : Int)) (AC hx1 (AC (rep_map (D.int .i64) _ (0 : Int)) (AC hx1 (AC (rep_map (D.int .i64) _ (0 : Int)) (A1 rfl))))))))))) ?_
  refine K_seq (K_seq (K_r [.n p1.length] [((p1.map (D.int .i64))).length = p1.length] (by kernel_rfl) (A1 (List.length_map _)) ?_))
  refine K_block (K_conv (σ' := ⟨[(0, (LI p1)), (1, (LI p2)), (2, (I p3)), (3, (I p4)), (9, (.one (.own 0 0 ((p2.length : Int).toNat)))), (10, (.one (.own 1 0 ((p2.length : Int).toNat)))), (19, (I (p1.length : Int))), (20, (I 0))], [VI (List.replicate (p2.length : Int).toNat (0 : Int)), VI (List.replicate (p2.length : Int).toNat (0 : Int))]⟩) (by kernel_rfl) ?_)
  obtain ⟨x21, hx21, H⟩ := bind_some' H
  cases x21 with
  | inl x22 =>
   dsimp only at H
   refine K_loop ⟨[(1, (LI p2)), (10, (.one (.own 0 0 x22.1)))], [VI x22.2]⟩ (loop_ok (fun (s : Nat × Nat × Int × (List Int) × (List Int)) => ⟨[(0, (LI p1)), (1, (LI p2)), (2, (I p3)), (3, (I p4)), (9, (.one (.own 0 0 s.1))), (10, (.one (.own 1 0 s.2.1))), (19, (I (p1.length : Int))), (20, (I s.2.2.1))], [VI s.2.2.2.1, VI s.2.2.2.2]⟩) (fun (r : (Nat × (List Int)) ⊕ Unit) => Sum.elim (fun y => (.exit 0, ⟨[(1, (LI p2)), (10, (.one (.own 0 0 y.1)))], [VI y.2]⟩)) (fun y => (.ret, ⟨[(8, (I 4611686018427387904))], []⟩)) r) (fun r h => by cases r <;> cases h) (T_warp_distance_l1_ok k p1 p2 p3 p4 (p1.length : Int)) k ((p2.length : Int).toNat, (p2.length : Int).toNat, 0, (List.replicate (p2.length : Int).toNat (0 : Int)), (List.replicate (p2.length : Int).toNat (0 : Int))) (.inl x22) hx21) rfl ?_
   refine K_seq ?_
   obtain ⟨hx23, H⟩ := guard_some H
   obtain ⟨x24, hx24, H⟩ := bind_some' H
   refine K_r [.n p2.length, .l [.int .i64 x24]] [((p2.map (D.int .i64))).length = p2.length, (0 : Int) ≤ (w64 ((p2.length : Int) - 1)) ∧ (w64 ((p2.length : Int) - 1)) < ((x22.1 : Nat) : Int), ((x22.2.map (D.int .i64)).getD (0 + (w64 ((p2.length : Int) - 1)).toNat) (.int .i64 0)).cells = [.int .i64 x24]] (by kernel_rfl) (AC (List.length_map _) (AC hx23 (A1 (ld_ok hx24 (D.int .i64) (.int .i64 0))))) ?_
   refine K_g (by kernel_rfl) ?_
   cases H
   refine K_ret ?_
   kernel_rfl
  | inr x25 =>
   dsimp only at H
   cases H
   refine K_loopr ⟨[(8, (I 4611686018427387904))], []⟩ (loop_ok (fun (s : Nat × Nat × Int × (List Int) × (List Int)) => ⟨[(0, (LI p1)), (1, (LI p2)), (2, (I p3)), (3, (I p4)), (9, (.one (.own 0 0 s.1))), (10, (.one (.own 1 0 s.2.1))), (19, (I (p1.length : Int))), (20, (I s.2.2.1))], [VI s.2.2.2.1, VI s.2.2.2.2]⟩) (fun (r : (Nat × (List Int)) ⊕ Unit) => Sum.elim (fun y => (.exit 0, ⟨[(1, (LI p2)), (10, (.one (.own 0 0 y.1)))], [VI y.2]⟩)) (fun y => (.ret, ⟨[(8, (I 4611686018427387904))], []⟩)) r) (fun r h => by cases r <;> cases h) (T_warp_distance_l1_ok k p1 p2 p3 p4 (p1.length : Int)) k ((p2.length : Int).toNat, (p2.length : Int).toNat, 0, (List.replicate (p2.length : Int).toNat (0 : Int)), (List.replicate (p2.length : Int).toNat (0 : Int))) (.inr x25) hx21) ?_
   kernel_rfl
def T_warp_Distance (k : Nat) (p1 : List Int) (p2 : List Int) (p3 : Int) : Option (Int × Int) := match k with
 | 0 => none
 | k + 1 => ((T_warp_check k p1 p2 p3).bind fun x1 => (if (!decide (x1 = 0)) = true then some (0, x1) else ((T_warp_distance k p1 p2 p3 4611686018427387904).bind fun x3 => some (x3, 0))))
abbrev C_T_warp_Distance (k : Nat) (p1 : List Int) (p2 : List Int) (p3 : Int) (r : Int × Int) : Prop := evF X k n_warp_Distance [(LI p1), (LI p2), (I p3)] [] = some ((.tup [(false, [cI r.1]), (false, [cI r.2])]), [])
theorem T_warp_Distance_ok (k : Nat) (p1 : List Int) (p2 : List Int) (p3 : Int) (r : Int × Int) : T_warp_Distance k p1 p2 p3 = some r → C_T_warp_Distance k p1 p2 p3 r := by
 intro H
 cases k with
 | zero => simp [T_warp_Distance] at H
 | succ k =>
  simp only [T_warp_Distance] at H
  refine F_in X_warp_Distance rfl ?_
  refine K_seq (K_r [] [] (by kernel_rfl) trivial ?_)
  refine K_seq ?_
  refine K_seq ?_
  obtain ⟨x1, hx1, H⟩ := bind_some' H
  refine K_r [.r (I x1) []] [C_T_warp_check k p1 p2 p3 x1] (by kernel_rfl) (A1 (T_warp_check_ok k p1 p2 p3 x1 hx1)) ?_
  refine K_seq (K_r [] [] (by kernel_rfl) trivial ?_)
  rcases ite_some H with ⟨hx2, H⟩ | ⟨hx2, H⟩
  · refine K_t (by kernel_rfl) hx2 ?_
    refine K_seq (K_r [] [] (by kernel_rfl) trivial ?_)
    refine K_g (by kernel_rfl) ?_
    cases H
    refine K_ret ?_
    kernel_rfl
  · refine K_f (by kernel_rfl) (Bool.eq_false_iff.2 hx2) ?_
    refine K_g (by kernel_rfl) ?_
    refine K_skip ?_
    refine K_seq ?_
    obtain ⟨x3, hx3, H⟩ := bind_some' H
    refine K_r [.r (I x3) []] [C_T_warp_distance k p1 p2 p3 4611686018427387904 x3] (by kernel_rfl) (A1 (T_warp_distance_ok k p1 p2 p3 4611686018427387904 x3 hx3)) ?_
    refine K_g (by kernel_rfl) ?_
    cases H
    refine K_ret ?_
    kernel_rfl
def T_pieces_number (k : Nat) (p1 : Int) (p2 : Int) : Option Unit := match k with
 | 0 => none
 | k + 1 => some ()
abbrev C_T_pieces_number (k : Nat) (p1 : Int) (p2 : Int) (r : Unit) : Prop := evF X k n_pieces_number [(I p1), (I p2)] [] = some ((B ((decide (1 ≤ p2) && decide (p2 ≤ 8)) && decide (p2 ≤ p1))), [])
theorem T_pieces_number_ok (k : Nat) (p1 : Int) (p2 : Int) (r : Unit) : T_pieces_number k p1 p2 = some r → C_T_pieces_number k p1 p2 r := by
 intro H
 cases k with
 | zero => simp [T_pieces_number] at H
 | succ k =>
  simp only [T_pieces_number] at H
  refine F_in X_pieces_number rfl ?_
  refine K_seq (K_r [] [] (by kernel_rfl) trivial ?_)
  refine K_seq (K_r [.m, .m] [([] : Heap) = [], ([] : Heap) = []] (by kernel_rfl) (AC rfl (A1 rfl)) ?_)
  refine K_g (by kernel_rfl) ?_
  cases H
  refine K_ret ?_
  kernel_rfl
def T_pieces_check (k : Nat) (p1 : List Int) (p2 : Int) : Option Int := match k with
 | 0 => none
 | k + 1 => ((T_euclid_Distance k p1 p1).bind fun x1 => (if (!decide (x1.2 = 0)) = true then some x1.2 else ((T_pieces_number k (p1.length : Int) p2).bind fun x3 => (if (!((decide (1 ≤ p2) && decide (p2 ≤ 8)) && decide (p2 ≤ (p1.length : Int)))) = true then some 1 else some 0))))
abbrev C_T_pieces_check (k : Nat) (p1 : List Int) (p2 : Int) (r : Int) : Prop := evF X k n_pieces_check [(LI p1), (I p2)] [] = some ((I r), [])
theorem T_pieces_check_ok (k : Nat) (p1 : List Int) (p2 : Int) (r : Int) : T_pieces_check k p1 p2 = some r → C_T_pieces_check k p1 p2 r := by
 intro H
 cases k with
 | zero => simp [T_pieces_check] at H
 | succ k =>
  simp only [T_pieces_check] at H
  refine F_in X_pieces_check rfl ?_
  refine K_seq (K_r [] [] (by kernel_rfl) trivial ?_)
  refine K_seq ?_
  refine K_seq ?_
  obtain ⟨x1, hx1, H⟩ := bind_some' H
  refine K_r [.r (.tup [(false, [cI x1.1]), (false, [cI x1.2])]) []] [C_T_euclid_Distance k p1 p1 x1] (by kernel_rfl) (A1 (T_euclid_Distance_ok k p1 p1 x1 hx1)) ?_
  refine K_seq (K_r [] [] (by kernel_rfl) trivial ?_)
  rcases ite_some H with ⟨hx2, H⟩ | ⟨hx2, H⟩
  · refine K_t (by kernel_rfl) hx2 ?_
    refine K_seq (K_r [] [] (by kernel_rfl) trivial ?_)
    refine K_g (by kernel_rfl) ?_
    cases H
    refine K_ret ?_
    kernel_rfl
  · refine K_f (by kernel_rfl) (Bool.eq_false_iff.2 hx2) ?_
    refine K_g (by kernel_rfl) ?_
    refine K_skip ?_
    refine K_seq ?_
    refine K_seq ?_
    obtain ⟨x3, hx3, H⟩ := bind_some' H
    refine K_r [.n p1.length, .r (B ((decide (1 ≤ p2) && decide (p2 ≤ 8)) && decide (p2 ≤ (p1.length : Int)))) []] [((p1.map (D.int .i64))).length = p1.length, C_T_pieces_number k (p1.length : Int) p2 x3] (by kernel_rfl) (AC (List.length_map _) (A1 (T_pieces_number_ok k (p1.length : Int) p2 x3 hx3))) ?_
    rcases ite_some H with ⟨hx4, H⟩ | ⟨hx4, H⟩
    · refine K_t (by kernel_rfl) hx4 ?_
      refine K_seq (K_r [] [] (by kernel_rfl) trivial ?_)
      refine K_g (by kernel_rfl) ?_
      cases H
      refine K_ret ?_
      kernel_rfl
    · refine K_f (by kernel_rfl) (Bool.eq_false_iff.2 hx4) ?_
      refine K_g (by kernel_rfl) ?_
      refine K_skip (K_seq (K_r [] [] (by kernel_rfl) trivial ?_))
      refine K_g (by kernel_rfl) ?_
      cases H
      refine K_ret ?_
      kernel_rfl
def T_pieces_all (k : Nat) (p1 : Int) (p2 : Int) : Option Unit := match k with
 | 0 => none
 | k + 1 => some ()
abbrev C_T_pieces_all (k : Nat) (p1 : Int) (p2 : Int) (r : Unit) : Prop := evF X k n_pieces_all [(I p1), (I p2)] [] = some ((.one (.d (.fn (.func n_pieces_all_1) [.ref [.int .i64 p2], .ref [.int .i64 p1]]))), [])
theorem T_pieces_all_ok (k : Nat) (p1 : Int) (p2 : Int) (r : Unit) : T_pieces_all k p1 p2 = some r → C_T_pieces_all k p1 p2 r := by
 intro H
 cases k with
 | zero => simp [T_pieces_all] at H
 | succ k =>
  simp only [T_pieces_all] at H
  refine F_in X_pieces_all rfl ?_
  refine K_seq (K_r [] [] (by kernel_rfl) trivial ?_)
  refine K_seq (K_r [] [] (by kernel_rfl) trivial ?_)
  refine K_g (by kernel_rfl) ?_
  cases H
  refine K_ret ?_
  kernel_rfl
def T_pieces_total_l1 (k : Nat) (p1 : List Int) (x3 : Int) (x7 : Int × Int) : Option ((Int × Int) ⊕ Int) :=
 (if x7.2 < x3 then ((at? p1 x7.2).bind fun x9 => some (.inl ((w64 (x7.1 + x9)), (w64 (x7.2 + 1))))) else some (.inr x7.1))
theorem T_pieces_total_l1_ok (k : Nat) (p1 : List Int) (x3 : Int) : ∀ (x7 : Int × Int) (x : (Int × Int) ⊕ Int), T_pieces_total_l1 k p1 x3 x7 = some x → evC X (evF X k) k 0 l_pieces_total_1 ⟨[(3, (I x7.1)), (6, (LI p1)), (7, (I x3)), (8, (I x7.2))], []⟩ = some (outS (fun (s : Int × Int) => ⟨[(3, (I s.1)), (6, (LI p1)), (7, (I x3)), (8, (I s.2))], []⟩) (fun (r : Int) => (.exit 0, ⟨[(3, (I r))], []⟩)) x) := by
 intro x7 x H
 unfold T_pieces_total_l1 at H
 refine K_in ?_
 refine K_seq (K_r [] [] (by kernel_rfl) trivial ?_)
 refine K_seq ?_
 rcases ite_some H with ⟨hx8, H⟩ | ⟨hx8, H⟩
 · refine K_t (by kernel_rfl) (decide_eq_true hx8) ?_
   refine K_g (by kernel_rfl) ?_
   refine K_skip ?_
   refine K_seq ?_
   refine K_block ?_
   refine K_seq ?_
   obtain ⟨x9, hx9, H⟩ := bind_some' H
   refine K_r [.l [.int .i64 x9]] [(0 : Int) ≤ x7.2 ∧ x7.2 < (((p1.map (D.int .i64))).length : Int), ((p1.map (D.int .i64)).getD x7.2.toNat (.int .i64 0)).cells = [.int .i64 x9]] (by kernel_rfl) (AC (at_ok hx9 (D.int .i64) (.int .i64 0)).1 (A1 (at_ok hx9 (D.int .i64) (.int .i64 0)).2)) ?_
   refine K_r [] [] (by kernel_rfl) trivial ?_
   refine K_blk (K_r [] [] (by kernel_rfl) trivial ?_)
   cases H
   exact K_end (by kernel_rfl)
 · refine K_f (by kernel_rfl) (decide_eq_false hx8) ?_
   refine K_g (by kernel_rfl) ?_
   cases H
   exact K_exit0 rfl (by kernel_rfl)
def T_pieces_total (k : Nat) (p1 : List Int) : Option Int := match k with
 | 0 => none
 | k + 1 => ((loopT (T_pieces_total_l1 k p1 (p1.length : Int)) k (0, 0)).bind fun x10 => some x10)
abbrev C_T_pieces_total (k : Nat) (p1 : List Int) (r : Int) : Prop := evF X k n_pieces_total [(LI p1)] [] = some ((I r), [])
theorem T_pieces_total_ok (k : Nat) (p1 : List Int) (r : Int) : T_pieces_total k p1 = some r → C_T_pieces_total k p1 r := by
 intro H
 cases k with
 | zero => simp [T_pieces_total] at H
 | succ k =>
  simp only [T_pieces_total] at H
  refine F_in X_pieces_total rfl ?_
  refine K_seq (K_r [] [] (by kernel_rfl) trivial ?_)
  refine K_seq (K_r [] [] (by kernel_rfl) trivial ?_)
  refine K_seq (K_seq (K_r [.n p1.length] [((p1.map (D.int .i64))).length = p1.length] (by kernel_rfl) (A1 (List.length_map _)) ?_))
  refine K_block (K_conv (σ' := ⟨[(3, (I 0)), (6, (LI p1)), (7, (I (p1.length : Int))), (8, (I 0))], []⟩) (by kernel_rfl) ?_)
  obtain ⟨x10, hx10, H⟩ := bind_some' H
  refine K_loop ⟨[(3, (I x10))], []⟩ (loop_ok (fun (s : Int × Int) => ⟨[(3, (I s.1)), (6, (LI p1)), (7, (I (p1.length : Int))), (8, (I s.2))], []⟩) (fun (r : Int) => (.exit 0, ⟨[(3, (I r))], []⟩)) (fun r h => by cases h) (T_pieces_total_l1_ok k p1 (p1.length : Int)) k (0, 0) x10 hx10) rfl ?_
  refine K_seq (K_r [] [] (by kernel_rfl) trivial ?_)
  refine K_g (by kernel_rfl) ?_
  cases H
  refine K_ret ?_
  kernel_rfl
def T_pieces_Sums_r1 (k : Nat) (p1 : List Int) (p2 : Int) (x7 : Int) (x9 : Nat) (x11 x12 x13 : Int) (x17 : (List Int)) : Option (((List Int)) ⊕ Unit) :=
 (if (0 : Int) ≤ x12 ∧ x12 ≤ x13 ∧ x13 ≤ (p1.length : Int) ∧ (p1.length : Int) ≤ (p1.length : Int) then (T_pieces_total k ((p1.drop x12.toNat).take (x13.toNat - x12.toNat))).bind fun x19 => (if (0 : Int) ≤ x11 ∧ x11 < ((x9 : Nat) : Int) then some (.inl (x17.set (0 + x11.toNat) x19)) else none) else none)
theorem T_pieces_Sums_r1_ok (k : Nat) (p1 : List Int) (p2 : Int) (x7 : Int) (x9 : Nat) : ∀ (x11 x12 x13 : Int) (x17 : (List Int)) (x : ((List Int)) ⊕ Unit), T_pieces_Sums_r1 k p1 p2 x7 x9 x11 x12 x13 x17 = some x → roundM (fun b' => evC X (evF X k) k b' l_pieces_Sums_r1a) (fun b' => evC X (evF X k) k b' l_pieces_Sums_r1b) 0 [22, 23] [.gc] [I x11, .agg [.d (.int .i64 x12), .d (.int .i64 x13)]] (.normal, ⟨[(2, (Pt 0)), (4, (.one (.nil))), (5, (I 0)), (7, (Pt 1)), (21, (.one (.d (.fn (.func n_pieces_all_1) [.ref [.int .i64 p2], .ref [.int .i64 x7]]))))], [.cells [cL p1], .cells [.own 2 0 x9], VI x17]⟩) = some (Sum.elim (fun (s : (List Int)) => (true, (.normal, ⟨[(2, (Pt 0)), (4, (.one (.nil))), (5, (I 0)), (7, (Pt 1)), (21, (.one (.d (.fn (.func n_pieces_all_1) [.ref [.int .i64 p2], .ref [.int .i64 x7]]))))], [.cells [cL p1], .cells [.own 2 0 x9], VI s]⟩))) (fun (r : Unit) => (false, (.ret, ⟨[], []⟩))) x) := by
 intro x11 x12 x13 x17 x H
 unfold T_pieces_Sums_r1 at H
 refine R_as rfl ?_
 refine K_seq (K_r [] [] (by kernel_rfl) trivial ?_)
 refine K_r [] [] (by kernel_rfl) trivial ?_
 refine K_end (R_body ?_)
 refine K_block ?_
 obtain ⟨hx18, H⟩ := guard_some H
 obtain ⟨x19, hx19, H⟩ := bind_some' H
 obtain ⟨hx20, H⟩ := guard_some H
 refine K_r [.l (((p1.drop x12.toNat).take (x13.toNat - x12.toNat)).map (D.int .i64)), .r (I x19) [], .l ((x17.set (0 + x11.toNat) x19).map (D.int .i64))] [((p1.map (D.int .i64)).all fun d => d.cells.length == 1) = true, (0 : Int) ≤ x12 ∧ x12 ≤ x13 ∧ x13 ≤ (((p1.map (D.int .i64))).length : Int) ∧ (((p1.map (D.int .i64))).length : Int) ≤ (((p1.map (D.int .i64))).length : Int), ((p1.map (D.int .i64)).drop (x12 : Int).toNat).take ((x13 : Int).toNat - (x12 : Int).toNat) = ((p1.drop x12.toNat).take (x13.toNat - x12.toNat)).map (D.int .i64), C_T_pieces_total k ((p1.drop x12.toNat).take (x13.toNat - x12.toNat)) x19, (0 : Int) ≤ x11 ∧ x11 < ((x9 : Nat) : Int), (x17.map (D.int .i64)).set (0 + x11.toNat) (elemOf (.int .i64 0) (splice ((x17.map (D.int .i64)).getD (0 + x11.toNat) (.int .i64 0)).cells 0 [.int .i64 x19])) = (x17.set (0 + x11.toNat) x19).map (D.int .i64)] (by kernel_rfl) (AC (all_ok (D.int .i64) 1 p1 (fun _ => rfl)) (AC (by simpa using hx18) (AC (dt_map _ _ _ _) (AC (T_pieces_total_ok k ((p1.drop x12.toNat).take (x13.toNat - x12.toNat)) x19 hx19) (AC hx20 (A1 (st_one x17 (0 + x11.toNat) x19 (D.int .i64) (.int .i64 0) rfl (fun _ => rfl) rfl))))))) ?_
 refine K_blk ?_
 cases H
 exact K_end (R_end ⟨[(2, (Pt 0)), (4, (.one (.nil))), (5, (I 0)), (7, (Pt 1)), (21, (.one (.d (.fn (.func n_pieces_all_1) [.ref [.int .i64 p2], .ref [.int .i64 x7]]))))], [.cells [cL p1], .cells [.own 2 0 x9], VI (x17.set (0 + x11.toNat) x19)]⟩ (by kernel_rfl) rfl)
def T_pieces_Sums (k : Nat) (p1 : List Int) (p2 : Int) : Option ((List Int) × Int) := match k with
 | 0 => none
 | k + 1 => ((T_pieces_check k p1 p2).bind fun x1 => (if (!decide (x1 = 0)) = true then some ([], x1) else (if (0 : Int) ≤ p2 ∧ p2 ≤ p2 ∧ p2 ≤ (LIM : Int) then (T_pieces_all k (p1.length : Int) p2).bind fun x4 => (allT (T_pieces_Sums_r1 k p1 p2 (p1.length : Int) p2.toNat) (p1.length : Int) p2 k 0 (List.replicate p2.toNat (0 : Int))).bind fun x21 => (match x21 with | .inl x22 => some (((x22.drop 0).take p2.toNat), 0) | .inr _ => none) else none)))
abbrev C_T_pieces_Sums (k : Nat) (p1 : List Int) (p2 : Int) (r : (List Int) × Int) : Prop := evF X k n_pieces_Sums [(LI p1), (I p2)] [] = some ((.tup [(false, [cL r.1]), (false, [cI r.2])]), [])
theorem T_pieces_Sums_ok (k : Nat) (p1 : List Int) (p2 : Int) (r : (List Int) × Int) : T_pieces_Sums k p1 p2 = some r → C_T_pieces_Sums k p1 p2 r := by
 intro H
 cases k with
 | zero => simp [T_pieces_Sums] at H
 | succ k =>
  simp only [T_pieces_Sums] at H
  refine F_in X_pieces_Sums rfl ?_
  refine K_seq (K_r [] [] (by kernel_rfl) trivial ?_)
  refine K_seq ?_
  refine K_seq ?_
  obtain ⟨x1, hx1, H⟩ := bind_some' H
  refine K_r [.r (I x1) []] [C_T_pieces_check k p1 p2 x1] (by kernel_rfl) (A1 (T_pieces_check_ok k p1 p2 x1 hx1)) ?_
  refine K_seq (K_r [] [] (by kernel_rfl) trivial ?_)
  rcases ite_some H with ⟨hx2, H⟩ | ⟨hx2, H⟩
  · refine K_t (by kernel_rfl) hx2 ?_
    refine K_seq (K_r [] [] (by kernel_rfl) trivial ?_)
    refine K_g (by kernel_rfl) ?_
    cases H
    refine K_ret ?_
    kernel_rfl
  · refine K_f (by kernel_rfl) (Bool.eq_false_iff.2 hx2) ?_
    refine K_g (by kernel_rfl) ?_
    refine K_skip ?_
    refine K_seq ?_
    obtain ⟨hx3, H⟩ := guard_some H
    refine K_r [.l ((List.replicate p2.toNat (0 : Int)).map (D.int .i64))] [(0 : Int) ≤ p2 ∧ p2 ≤ p2 ∧ p2 ≤ (LIM : Int), List.replicate p2.toNat (.int .i64 0) = (List.replicate p2.toNat (0 : Int)).map (D.int .i64)] (by kernel_rfl) (AC hx3 (A1 (rep_map (D.int .i64) _ (0 : Int)))) ?_
    refine K_seq ?_
    refine K_seq ?_
    obtain ⟨x4, hx4, H⟩ := bind_some' H
    refine K_r [.n p1.length, .r (.one (.d (.fn (.func n_pieces_all_1) [.ref [.int .i64 p2], .ref [.int .i64 (p1.length : Int)]]))) []] [((p1.map (D.int .i64))).length = p1.length, C_T_pieces_all k (p1.length : Int) p2 x4] (by kernel_rfl) (AC (List.length_map _) (A1 (T_pieces_all_ok k (p1.length : Int) p2 x4 hx4))) ?_
    refine K_block (K_conv (σ' := ⟨[(2, (Pt 0)), (4, (.one (.nil))), (5, (I 0)), (7, (Pt 1)), (21, (.one (.d (.fn (.func n_pieces_all_1) [.ref [.int .i64 p2], .ref [.int .i64 (p1.length : Int)]]))))], [.cells [cL p1], .cells [.own 2 0 p2.toNat], VI (List.replicate p2.toNat (0 : Int))]⟩) (by kernel_rfl) ?_)
    obtain ⟨x21, hx21, H⟩ := bind_some' H
    cases x21 with
    | inl x22 =>
     dsimp only at H
     refine K_of ⟨[(2, (Pt 0)), (4, (.one (.nil))), (5, (I 0)), (7, (Pt 1)), (21, (.one (.d (.fn (.func n_pieces_all_1) [.ref [.int .i64 p2], .ref [.int .i64 (p1.length : Int)]]))))], [.cells [cL p1], .cells [.own 2 0 p2.toNat], VI x22]⟩ (range_ok (fun (s : (List Int)) => ⟨[(2, (Pt 0)), (4, (.one (.nil))), (5, (I 0)), (7, (Pt 1)), (21, (.one (.d (.fn (.func n_pieces_all_1) [.ref [.int .i64 p2], .ref [.int .i64 (p1.length : Int)]]))))], [.cells [cL p1], .cells [.own 2 0 p2.toNat], VI s]⟩) (fun (r : Unit) => (.ret, ⟨[], []⟩)) (s := (List.replicate p2.toNat (0 : Int))) (y := (.inl x22)) rfl (X_pieces_all_1 : X n_pieces_all_1 = some allM) (T_pieces_Sums_r1_ok k p1 p2 (p1.length : Int) p2.toNat) hx21) ?_
     refine K_blk (K_seq (K_r [] [] (by kernel_rfl) trivial ?_))
     refine K_g (by kernel_rfl) ?_
     cases H
     refine K_ret ?_
     exact Eq.trans (b := some ((.tup [(false, [.d (.list (((x22.map (D.int .i64)).drop 0).take p2.toNat))]), (false, [cI 0])]), [])) (by kernel_rfl) (by simp only [dt_map, rl_map, LI, VI])
    | inr _ =>
     dsimp only at H
     cases H
def T_pieces_Starts_r1 (k : Nat) (p1 : Int) (p2 : Int) (x10 x11 x12 : Int) (x14 : Nat × (List Int)) : Option ((Nat × (List Int)) ⊕ Unit) :=
 (if x14.1 + 1 ≤ LIM then some (.inl ((x14.1 + 1), ((x14.2.drop 0).take x14.1 ++ ([x12] : List Int)))) else none)
theorem T_pieces_Starts_r1_ok (k : Nat) (p1 : Int) (p2 : Int) : ∀ (x10 x11 x12 : Int) (x14 : Nat × (List Int)) (x : (Nat × (List Int)) ⊕ Unit), T_pieces_Starts_r1 k p1 p2 x10 x11 x12 x14 = some x → roundM (fun b' => evC X (evF X k) k b' l_pieces_Starts_r1a) (fun b' => evC X (evF X k) k b' l_pieces_Starts_r1b) 0 [23, 24] [.gc] [I x10, .agg [.d (.int .i64 x11), .d (.int .i64 x12)]] (.normal, ⟨[(4, (.one (.nil))), (5, (I 0)), (6, (Pt 0)), (22, (.one (.d (.fn (.func n_pieces_all_1) [.ref [.int .i64 p2], .ref [.int .i64 p1]]))))], [.cells [.own 1 0 x14.1], VI x14.2]⟩) = some (Sum.elim (fun (s : Nat × (List Int)) => (true, (.normal, ⟨[(4, (.one (.nil))), (5, (I 0)), (6, (Pt 0)), (22, (.one (.d (.fn (.func n_pieces_all_1) [.ref [.int .i64 p2], .ref [.int .i64 p1]]))))], [.cells [.own 1 0 s.1], VI s.2]⟩))) (fun (r : Unit) => (false, (.ret, ⟨[], []⟩))) x) := by
 intro x10 x11 x12 x14 x H
 unfold T_pieces_Starts_r1 at H
 refine R_as rfl ?_
 refine K_r [] [] (by kernel_rfl) trivial ?_
 refine K_end (R_body ?_)
 refine K_block ?_
 obtain ⟨hx15, H⟩ := guard_some H
 refine K_r [.n 1, .l (((x14.2.drop 0).take x14.1 ++ ([x12] : List Int)).map (D.int .i64))] [(List.all (([x12] : List Int).map (D.int .i64)) fun d => d.cells.length == (D.cells (.int .i64 0)).length) = true, x14.1 + 1 ≤ LIM, (([x12] : List Int).map (D.int .i64)).length = 1, ((x14.2.map (D.int .i64)).drop 0).take x14.1 ++ (([x12] : List Int).map (D.int .i64)) = ((x14.2.drop 0).take x14.1 ++ ([x12] : List Int)).map (D.int .i64)] (by kernel_rfl) (AC (all_ok (D.int .i64) 1 ([x12] : List Int) (fun _ => rfl)) (AC hx15 (AC (by simp) (A1 (ap_map (D.int .i64) x14.2 ([x12] : List Int) 0 x14.1))))) ?_
 refine K_blk ?_
 cases H
 exact K_end (R_end ⟨[(4, (.one (.nil))), (5, (I 0)), (6, (Pt 0)), (22, (.one (.d (.fn (.func n_pieces_all_1) [.ref [.int .i64 p2], .ref [.int .i64 p1]]))))], [.cells [.own 1 0 (x14.1 + 1)], VI ((x14.2.drop 0).take x14.1 ++ ([x12] : List Int))]⟩ (by kernel_rfl) rfl)
def T_pieces_Starts (k : Nat) (p1 : Int) (p2 : Int) : Option ((List Int) × Int) := match k with
 | 0 => none
 | k + 1 => (if (decide (p1 < 2) || decide (32 < p1)) = true then some ([], 8) else ((T_pieces_number k p1 p2).bind fun x2 => (if (!((decide (1 ≤ p2) && decide (p2 ≤ 8)) && decide (p2 ≤ p1))) = true then some ([], 1) else ((T_pieces_all k p1 p2).bind fun x4 => (allT (T_pieces_Starts_r1 k p1 p2) p1 p2 k 0 (1, [0])).bind fun x16 => (match x16 with | .inl x17 => some (((x17.2.drop 0).take x17.1), 0) | .inr _ => none)))))
abbrev C_T_pieces_Starts (k : Nat) (p1 : Int) (p2 : Int) (r : (List Int) × Int) : Prop := evF X k n_pieces_Starts [(I p1), (I p2)] [] = some ((.tup [(false, [cL r.1]), (false, [cI r.2])]), [])
theorem T_pieces_Starts_ok (k : Nat) (p1 : Int) (p2 : Int) (r : (List Int) × Int) : T_pieces_Starts k p1 p2 = some r → C_T_pieces_Starts k p1 p2 r := by
 intro H
 cases k with
 | zero => simp [T_pieces_Starts] at H
 | succ k =>
  simp only [T_pieces_Starts] at H
  refine F_in X_pieces_Starts rfl ?_
  refine K_seq (K_r [] [] (by kernel_rfl) trivial ?_)
  refine K_seq (K_seq (K_r [.m] [([] : Heap) = []] (by kernel_rfl) (A1 rfl) ?_))
  rcases ite_some H with ⟨hx1, H⟩ | ⟨hx1, H⟩
  · refine K_t (by kernel_rfl) hx1 ?_
    refine K_seq (K_r [] [] (by kernel_rfl) trivial ?_)
    refine K_g (by kernel_rfl) ?_
    cases H
    refine K_ret ?_
    kernel_rfl
  · refine K_f (by kernel_rfl) (Bool.eq_false_iff.2 hx1) ?_
    refine K_g (by kernel_rfl) ?_
    refine K_skip ?_
    refine K_seq ?_
    refine K_seq ?_
    obtain ⟨x2, hx2, H⟩ := bind_some' H
    refine K_r [.r (B ((decide (1 ≤ p2) && decide (p2 ≤ 8)) && decide (p2 ≤ p1))) []] [C_T_pieces_number k p1 p2 x2] (by kernel_rfl) (A1 (T_pieces_number_ok k p1 p2 x2 hx2)) ?_
    rcases ite_some H with ⟨hx3, H⟩ | ⟨hx3, H⟩
    · refine K_t (by kernel_rfl) hx3 ?_
      refine K_seq (K_r [] [] (by kernel_rfl) trivial ?_)
      refine K_g (by kernel_rfl) ?_
      cases H
      refine K_ret ?_
      kernel_rfl
    · refine K_f (by kernel_rfl) (Bool.eq_false_iff.2 hx3) ?_
      refine K_g (by kernel_rfl) ?_
      refine K_skip (K_seq (K_r [] [] (by kernel_rfl) trivial ?_))
      refine K_seq ?_
      refine K_seq ?_
      obtain ⟨x4, hx4, H⟩ := bind_some' H
      refine K_r [.r (.one (.d (.fn (.func n_pieces_all_1) [.ref [.int .i64 p2], .ref [.int .i64 p1]]))) []] [C_T_pieces_all k p1 p2 x4] (by kernel_rfl) (A1 (T_pieces_all_ok k p1 p2 x4 hx4)) ?_
      refine K_block (K_conv (σ' := ⟨[(4, (.one (.nil))), (5, (I 0)), (6, (Pt 0)), (22, (.one (.d (.fn (.func n_pieces_all_1) [.ref [.int .i64 p2], .ref [.int .i64 p1]]))))], [.cells [.own 1 0 1], VI [0]]⟩) (by kernel_rfl) ?_)
      obtain ⟨x16, hx16, H⟩ := bind_some' H
      cases x16 with
      | inl x17 =>
       dsimp only at H
       refine K_of ⟨[(4, (.one (.nil))), (5, (I 0)), (6, (Pt 0)), (22, (.one (.d (.fn (.func n_pieces_all_1) [.ref [.int .i64 p2], .ref [.int .i64 p1]]))))], [.cells [.own 1 0 x17.1], VI x17.2]⟩ (range_ok (fun (s : Nat × (List Int)) => ⟨[(4, (.one (.nil))), (5, (I 0)), (6, (Pt 0)), (22, (.one (.d (.fn (.func n_pieces_all_1) [.ref [.int .i64 p2], .ref [.int .i64 p1]]))))], [.cells [.own 1 0 s.1], VI s.2]⟩) (fun (r : Unit) => (.ret, ⟨[], []⟩)) (s := (1, [0])) (y := (.inl x17)) rfl (X_pieces_all_1 : X n_pieces_all_1 = some allM) (T_pieces_Starts_r1_ok k p1 p2) hx16) ?_
       refine K_blk (K_seq (K_r [] [] (by kernel_rfl) trivial ?_))
       refine K_g (by kernel_rfl) ?_
       cases H
       refine K_ret ?_
       exact Eq.trans (b := some ((.tup [(false, [.d (.list (((x17.2.map (D.int .i64)).drop 0).take x17.1))]), (false, [cI 0])]), [])) (by kernel_rfl) (by simp only [dt_map, rl_map, LI, VI])
      | inr _ =>
       dsimp only at H
       cases H
def T_envelope_of_1 (k : Nat) (p1 : Int) (p2 : Int) : Option Unit := match k with
 | 0 => none
 | k + 1 => some ()
abbrev C_T_envelope_of_1 (k : Nat) (p1 : Int) (p2 : Int) (r : Unit) : Prop := evF X k n_envelope_of_1 [(I p1), (I p2)] [] = some ((B (decide (p2 < p1))), [])
theorem T_envelope_of_1_ok (k : Nat) (p1 : Int) (p2 : Int) (r : Unit) : T_envelope_of_1 k p1 p2 = some r → C_T_envelope_of_1 k p1 p2 r := by
 intro H
 cases k with
 | zero => simp [T_envelope_of_1] at H
 | succ k =>
  simp only [T_envelope_of_1] at H
  refine F_in X_envelope_of_1 rfl ?_
  refine K_seq (K_r [] [] (by kernel_rfl) trivial ?_)
  refine K_seq (K_r [] [] (by kernel_rfl) trivial ?_)
  refine K_g (by kernel_rfl) ?_
  cases H
  refine K_ret ?_
  kernel_rfl
def T_envelope_extremes_l1 (k : Nat) (p1 : List Int) (p2 : Int) (x152 : Nat) (x153 : Int) (x290 : Int) (x292 : Int) (x294 : List Int) (x342 : Nat) (x343 : Nat) (x344 : Int) (x350 : List Int) (x365 : Int) : Option (Int ⊕ Int) :=
 (((if 0 < x365 then (if (0 : Int) ≤ (w64 (x365 - 1)) ∧ (w64 (x365 - 1)) < ((x343 : Nat) : Int) then (x350[(x342 + (w64 (x365 - 1)).toNat)]?).bind fun x373 => (at? p1 x373).bind fun x374 => (at? p1 x344).bind fun x375 => (T_envelope_of_1 k x374 x375).bind fun x376 => some (!decide (x375 < x374)) else none) else some false)).bind fun x377 => (if x377 = true then some (.inl (w64 (x365 - 1))) else some (.inr x365)))
theorem T_envelope_extremes_l1_ok (k : Nat) (p1 : List Int) (p2 : Int) (x152 : Nat) (x153 : Int) (x290 : Int) (x292 : Int) (x294 : List Int) (x342 : Nat) (x343 : Nat) (x344 : Int) (x350 : List Int) : ∀ (x365 : Int) (x : Int ⊕ Int), T_envelope_extremes_l1 k p1 p2 x152 x153 x290 x292 x294 x342 x343 x344 x350 x365 = some x → evC X (evF X k) k 0 l_envelope_extremes_1 ⟨[(0, (LI p1)), (1, (I p2)), (3, (.one (.fn (.func n_envelope_of_1) []))), (9, (.one (.own 0 x342 x343))), (10, (I x344)), (11, (.one (.own 1 0 x152))), (12, (I x290)), (13, (I x365)), (17, (I x153)), (18, (I x292))], [VI x350, VI x294]⟩ = some (outS (fun (s : Int) => ⟨[(0, (LI p1)), (1, (I p2)), (3, (.one (.fn (.func n_envelope_of_1) []))), (9, (.one (.own 0 x342 x343))), (10, (I x344)), (11, (.one (.own 1 0 x152))), (12, (I x290)), (13, (I s)), (17, (I x153)), (18, (I x292))], [VI x350, VI x294]⟩) (fun (r : Int) => (.exit 4, ⟨[(0, (LI p1)), (1, (I p2)), (3, (.one (.fn (.func n_envelope_of_1) []))), (9, (.one (.own 0 x342 x343))), (10, (I x344)), (11, (.one (.own 1 0 x152))), (12, (I x290)), (13, (I r)), (17, (I x153)), (18, (I x292))], [VI x350, VI x294]⟩)) x) := by
 intro x365 x H
 unfold T_envelope_extremes_l1 at H
 refine K_in ?_
 refine K_seq ?_
 refine K_seq ?_
 obtain ⟨x377, hx377, H⟩ := bind_some' H
 refine K_of ⟨[(0, (LI p1)), (1, (I p2)), (3, (.one (.fn (.func n_envelope_of_1) []))), (9, (.one (.own 0 x342 x343))), (10, (I x344)), (11, (.one (.own 1 0 x152))), (12, (I x290)), (13, (I x365)), (17, (I x153)), (18, (I x292)), (54, (B x377))], [VI x350, VI x294]⟩ ?_ ?_
 · clear H; have H := hx377; clear hx377; refine K_in ?_
   rcases ite_some H with ⟨hx371, H⟩ | ⟨hx371, H⟩
   · obtain ⟨hx372, H⟩ := guard_some H
     obtain ⟨x373, hx373, H⟩ := bind_some' H
     obtain ⟨x374, hx374, H⟩ := bind_some' H
     obtain ⟨x375, hx375, H⟩ := bind_some' H
     obtain ⟨x376, hx376, H⟩ := bind_some' H
     refine K_r [.b true, .l [.int .i64 x373], .l [.int .i64 x374], .l [.int .i64 x375], .r (B (decide (x375 < x374))) []] [decide (0 < x365) = true, (0 : Int) ≤ (w64 (x365 - 1)) ∧ (w64 (x365 - 1)) < ((x343 : Nat) : Int), ((x350.map (D.int .i64)).getD (x342 + (w64 (x365 - 1)).toNat) (.int .i64 0)).cells = [.int .i64 x373], (0 : Int) ≤ x373 ∧ x373 < (((p1.map (D.int .i64))).length : Int), ((p1.map (D.int .i64)).getD x373.toNat (.int .i64 0)).cells = [.int .i64 x374], (0 : Int) ≤ x344 ∧ x344 < (((p1.map (D.int .i64))).length : Int), ((p1.map (D.int .i64)).getD x344.toNat (.int .i64 0)).cells = [.int .i64 x375], C_T_envelope_of_1 k x374 x375 x376] (by kernel_rfl) (AC (decide_eq_true hx371) (AC hx372 (AC (ld_ok hx373 (D.int .i64) (.int .i64 0)) (AC (at_ok hx374 (D.int .i64) (.int .i64 0)).1 (AC (at_ok hx374 (D.int .i64) (.int .i64 0)).2 (AC (at_ok hx375 (D.int .i64) (.int .i64 0)).1 (AC (at_ok hx375 (D.int .i64) (.int .i64 0)).2 (A1 (T_envelope_of_1_ok k x374 x375 x376 hx376))))))))) ?_
     cases H
     exact K_end (by kernel_rfl)
   · refine K_r [.b false] [decide (0 < x365) = false] (by kernel_rfl) (A1 (decide_eq_false hx371)) ?_
     cases H
     exact K_end (by kernel_rfl)
 rcases ite_some H with ⟨hx378, H⟩ | ⟨hx378, H⟩
 · refine K_t (by kernel_rfl) hx378 ?_
   refine K_g (by kernel_rfl) ?_
   refine K_skip (K_block (K_r [] [] (by kernel_rfl) trivial ?_))
   refine K_blk ?_
   cases H
   exact K_end (by kernel_rfl)
 · refine K_f (by kernel_rfl) (Bool.eq_false_iff.2 hx378) ?_
   refine K_g (by kernel_rfl) ?_
   cases H
   exact K_exit0 rfl (by kernel_rfl)
def T_envelope_extremes_l2 (k : Nat) (p1 : List Int) (p2 : Int) (x152 : Nat) (x153 : Int) (x290 : Int) (x292 : Int) (x294 : List Int) (x338 : Nat × Nat × Int × (List Int)) : Option ((Nat × Nat × Int × (List Int)) ⊕ ((Nat × Nat × Int × (List Int)))) :=
 (if (decide (x338.2.2.1 < (p1.length : Int)) && decide (x338.2.2.1 ≤ (w64 (x290 + p2)))) = true then (loopT (T_envelope_extremes_l1 k p1 p2 x152 x153 x290 x292 x294 x338.1 x338.2.1 x338.2.2.1 x338.2.2.2) k ((x338.2.1 : Nat) : Int)).bind fun x379 => (if (0 : Int) ≤ 0 ∧ 0 ≤ x379 ∧ x379 ≤ x379 ∧ x379 ≤ ((x338.2.1 : Nat) : Int) then (if (x379.toNat - 0) + 1 ≤ LIM then some (.inl (0, ((x379.toNat - 0) + 1), (w64 (x338.2.2.1 + 1)), ((x338.2.2.2.drop (x338.1 + 0)).take (x379.toNat - 0) ++ ([x338.2.2.1] : List Int)))) else none) else none) else some (.inr (x338.1, x338.2.1, x338.2.2.1, x338.2.2.2)))
theorem T_envelope_extremes_l2_ok (k : Nat) (p1 : List Int) (p2 : Int) (x152 : Nat) (x153 : Int) (x290 : Int) (x292 : Int) (x294 : List Int) : ∀ (x338 : Nat × Nat × Int × (List Int)) (x : (Nat × Nat × Int × (List Int)) ⊕ ((Nat × Nat × Int × (List Int)))), T_envelope_extremes_l2 k p1 p2 x152 x153 x290 x292 x294 x338 = some x → evC X (evF X k) k 0 l_envelope_extremes_2 ⟨[(0, (LI p1)), (1, (I p2)), (3, (.one (.fn (.func n_envelope_of_1) []))), (9, (.one (.own 0 x338.1 x338.2.1))), (10, (I x338.2.2.1)), (11, (.one (.own 1 0 x152))), (12, (I x290)), (17, (I x153)), (18, (I x292))], [VI x338.2.2.2, VI x294]⟩ = some (outS (fun (s : Nat × Nat × Int × (List Int)) => ⟨[(0, (LI p1)), (1, (I p2)), (3, (.one (.fn (.func n_envelope_of_1) []))), (9, (.one (.own 0 s.1 s.2.1))), (10, (I s.2.2.1)), (11, (.one (.own 1 0 x152))), (12, (I x290)), (17, (I x153)), (18, (I x292))], [VI s.2.2.2, VI x294]⟩) (fun (r : (Nat × Nat × Int × (List Int))) => (.exit 2, ⟨[(0, (LI p1)), (1, (I p2)), (3, (.one (.fn (.func n_envelope_of_1) []))), (9, (.one (.own 0 r.1 r.2.1))), (10, (I r.2.2.1)), (11, (.one (.own 1 0 x152))), (12, (I x290)), (17, (I x153)), (18, (I x292))], [VI r.2.2.2, VI x294]⟩)) x) := by
 intro x338 x H
 unfold T_envelope_extremes_l2 at H
 refine K_in ?_
 refine K_seq (K_seq (K_r [.n p1.length, .m] [((p1.map (D.int .i64))).length = p1.length, ([VI x338.2.2.2, VI x294] : Heap) = [VI x338.2.2.2, VI x294]] (by kernel_rfl) (AC (List.length_map _) (A1 rfl)) ?_))
 rcases ite_some H with ⟨hx339, H⟩ | ⟨hx339, H⟩
 · refine K_t (by kernel_rfl) hx339 ?_
   refine K_g (by kernel_rfl) ?_
   refine K_skip (K_seq (K_block (K_seq (K_r [] [] (by kernel_rfl) trivial ?_))))
   refine K_seq (K_block (K_conv (σ' := ⟨[(0, (LI p1)), (1, (I p2)), (3, (.one (.fn (.func n_envelope_of_1) []))), (9, (.one (.own 0 x338.1 x338.2.1))), (10, (I x338.2.2.1)), (11, (.one (.own 1 0 x152))), (12, (I x290)), (13, (I ((x338.2.1 : Nat) : Int))), (17, (I x153)), (18, (I x292))], [VI x338.2.2.2, VI x294]⟩) (by kernel_rfl) ?_))
   obtain ⟨x379, hx379, H⟩ := bind_some' H
   refine K_loop ⟨[(0, (LI p1)), (1, (I p2)), (3, (.one (.fn (.func n_envelope_of_1) []))), (9, (.one (.own 0 x338.1 x338.2.1))), (10, (I x338.2.2.1)), (11, (.one (.own 1 0 x152))), (12, (I x290)), (13, (I x379)), (17, (I x153)), (18, (I x292))], [VI x338.2.2.2, VI x294]⟩ (loop_ok (fun (s : Int) => ⟨[(0, (LI p1)), (1, (I p2)), (3, (.one (.fn (.func n_envelope_of_1) []))), (9, (.one (.own 0 x338.1 x338.2.1))), (10, (I x338.2.2.1)), (11, (.one (.own 1 0 x152))), (12, (I x290)), (13, (I s)), (17, (I x153)), (18, (I x292))], [VI x338.2.2.2, VI x294]⟩) (fun (r : Int) => (.exit 4, ⟨[(0, (LI p1)), (1, (I p2)), (3, (.one (.fn (.func n_envelope_of_1) []))), (9, (.one (.own 0 x338.1 x338.2.1))), (10, (I x338.2.2.1)), (11, (.one (.own 1 0 x152))), (12, (I x290)), (13, (I r)), (17, (I x153)), (18, (I x292))], [VI x338.2.2.2, VI x294]⟩)) (fun r h => by cases h) (T_envelope_extremes_l1_ok k p1 p2 x152 x153 x290 x292 x294 x338.1 x338.2.1 x338.2.2.1 x338.2.2.2) k ((x338.2.1 : Nat) : Int) x379 hx379) rfl ?_
   obtain ⟨hx380, H⟩ := guard_some H
   obtain ⟨hx381, H⟩ := guard_some H
   refine K_r [.n 1, .l (((x338.2.2.2.drop (x338.1 + 0)).take (x379.toNat - 0) ++ ([x338.2.2.1] : List Int)).map (D.int .i64))] [(0 : Int) ≤ 0 ∧ 0 ≤ x379 ∧ x379 ≤ x379 ∧ x379 ≤ ((x338.2.1 : Nat) : Int), (List.all (([x338.2.2.1] : List Int).map (D.int .i64)) fun d => d.cells.length == (D.cells (.int .i64 0)).length) = true, (x379.toNat - 0) + 1 ≤ LIM, (([x338.2.2.1] : List Int).map (D.int .i64)).length = 1, ((x338.2.2.2.map (D.int .i64)).drop (x338.1 + 0)).take (x379.toNat - 0) ++ (([x338.2.2.1] : List Int).map (D.int .i64)) = ((x338.2.2.2.drop (x338.1 + 0)).take (x379.toNat - 0) ++ ([x338.2.2.1] : List Int)).map (D.int .i64)] (by kernel_rfl) (AC hx380 (AC (all_ok (D.int .i64) 1 ([x338.2.2.1] : List Int) (fun _ => rfl)) (AC hx381 (AC (by simp) (A1 (ap_map (D.int .i64) x338.2.2.2 ([x338.2.2.1] : List Int) (x338.1 + 0) (x379.toNat - 0))))))) ?_
   refine K_blk (K_r [] [] (by kernel_rfl) trivial ?_)
   cases H
   exact K_end (by kernel_rfl)
 · refine K_f (by kernel_rfl) (Bool.eq_false_iff.2 hx339) ?_
   refine K_g (by kernel_rfl) ?_
   cases H
   exact K_exit0 rfl (by kernel_rfl)
def T_envelope_extremes_l3 (k : Nat) (p1 : List Int) (p2 : Int) (x152 : Nat) (x153 : Int) (x387 : Int) (x389 : Int) (x391 : Int) (x392 : List Int) (x393 : List Int) (x398 : Nat × Nat) : Option ((Nat × Nat) ⊕ ((Nat × Nat))) :=
 (if (0 : Int) ≤ 0 ∧ 0 < ((x398.2 : Nat) : Int) then (x392[(x398.1 + 0)]?).bind fun x400 => (if x400 < (w64 (x389 - p2)) then (if (0 : Int) ≤ 1 ∧ 1 ≤ ((x398.2 : Nat) : Int) ∧ ((x398.2 : Nat) : Int) ≤ ((x398.2 : Nat) : Int) ∧ ((x398.2 : Nat) : Int) ≤ ((x398.2 : Nat) : Int) then some (.inl ((x398.1 + 1), (((x398.2 : Nat) : Int).toNat - 1))) else none) else some (.inr (x398.1, x398.2))) else none)
theorem T_envelope_extremes_l3_ok (k : Nat) (p1 : List Int) (p2 : Int) (x152 : Nat) (x153 : Int) (x387 : Int) (x389 : Int) (x391 : Int) (x392 : List Int) (x393 : List Int) : ∀ (x398 : Nat × Nat) (x : (Nat × Nat) ⊕ ((Nat × Nat))), T_envelope_extremes_l3 k p1 p2 x152 x153 x387 x389 x391 x392 x393 x398 = some x → evC X (evF X k) k 0 l_envelope_extremes_3 ⟨[(0, (LI p1)), (1, (I p2)), (3, (.one (.fn (.func n_envelope_of_1) []))), (9, (.one (.own 0 x398.1 x398.2))), (10, (I x387)), (11, (.one (.own 1 0 x152))), (12, (I x389)), (17, (I x153)), (18, (I x391))], [VI x392, VI x393]⟩ = some (outS (fun (s : Nat × Nat) => ⟨[(0, (LI p1)), (1, (I p2)), (3, (.one (.fn (.func n_envelope_of_1) []))), (9, (.one (.own 0 s.1 s.2))), (10, (I x387)), (11, (.one (.own 1 0 x152))), (12, (I x389)), (17, (I x153)), (18, (I x391))], [VI x392, VI x393]⟩) (fun (r : (Nat × Nat)) => (.exit 6, ⟨[(0, (LI p1)), (1, (I p2)), (3, (.one (.fn (.func n_envelope_of_1) []))), (9, (.one (.own 0 r.1 r.2))), (10, (I x387)), (11, (.one (.own 1 0 x152))), (12, (I x389)), (17, (I x153)), (18, (I x391))], [VI x392, VI x393]⟩)) x) := by
 intro x398 x H
 unfold T_envelope_extremes_l3 at H
 refine K_in ?_
 refine K_seq ?_
 refine K_seq ?_
 obtain ⟨hx399, H⟩ := guard_some H
 obtain ⟨x400, hx400, H⟩ := bind_some' H
 refine K_r [.l [.int .i64 x400]] [(0 : Int) ≤ 0 ∧ 0 < ((x398.2 : Nat) : Int), ((x392.map (D.int .i64)).getD (x398.1 + 0) (.int .i64 0)).cells = [.int .i64 x400]] (by kernel_rfl) (AC hx399 (A1 (ld_ok hx400 (D.int .i64) (.int .i64 0)))) ?_
 rcases ite_some H with ⟨hx401, H⟩ | ⟨hx401, H⟩
 · refine K_t (by kernel_rfl) (decide_eq_true hx401) ?_
   refine K_g (by kernel_rfl) ?_
   refine K_skip ?_
   refine K_block ?_
   obtain ⟨hx402, H⟩ := guard_some H
   refine K_r [] [(0 : Int) ≤ 1 ∧ 1 ≤ ((x398.2 : Nat) : Int) ∧ ((x398.2 : Nat) : Int) ≤ ((x398.2 : Nat) : Int) ∧ ((x398.2 : Nat) : Int) ≤ ((x398.2 : Nat) : Int)] (by kernel_rfl) (A1 hx402) ?_
   refine K_blk ?_
   cases H
   exact K_end (by kernel_rfl)
 · refine K_f (by kernel_rfl) (decide_eq_false hx401) ?_
   refine K_g (by kernel_rfl) ?_
   cases H
   exact K_exit0 rfl (by kernel_rfl)
def T_envelope_extremes_l4 (k : Nat) (p1 : List Int) (p2 : Int) (x152 : Nat) (x153 : Int) (x282 : Nat × Nat × Int × Int × (List Int) × (List Int)) : Option ((Nat × Nat × Int × Int × (List Int) × (List Int)) ⊕ (((List Int)))) :=
 (if x282.2.2.2.1 < x153 then (loopT (T_envelope_extremes_l2 k p1 p2 x152 x153 x282.2.2.2.1 x282.2.2.2.1 x282.2.2.2.2.2) k (x282.1, x282.2.1, x282.2.2.1, x282.2.2.2.2.1)).bind fun x382 => (loopT (T_envelope_extremes_l3 k p1 p2 x152 x153 x382.2.2.1 x282.2.2.2.1 x282.2.2.2.1 x382.2.2.2 x282.2.2.2.2.2) k (x382.1, x382.2.1)).bind fun x403 => (if (0 : Int) ≤ 0 ∧ 0 < ((x403.2 : Nat) : Int) then (x382.2.2.2[(x403.1 + 0)]?).bind fun x405 => (at? p1 x405).bind fun x406 => (if (0 : Int) ≤ x282.2.2.2.1 ∧ x282.2.2.2.1 < ((x152 : Nat) : Int) then some (.inl (x403.1, x403.2, x382.2.2.1, (w64 (x282.2.2.2.1 + 1)), x382.2.2.2, (x282.2.2.2.2.2.set (0 + x282.2.2.2.1.toNat) x406))) else none) else none) else some (.inr x282.2.2.2.2.2))
theorem T_envelope_extremes_l4_ok (k : Nat) (p1 : List Int) (p2 : Int) (x152 : Nat) (x153 : Int) : ∀ (x282 : Nat × Nat × Int × Int × (List Int) × (List Int)) (x : (Nat × Nat × Int × Int × (List Int) × (List Int)) ⊕ (((List Int)))), T_envelope_extremes_l4 k p1 p2 x152 x153 x282 = some x → evC X (evF X k) k 0 l_envelope_extremes_4 ⟨[(0, (LI p1)), (1, (I p2)), (3, (.one (.fn (.func n_envelope_of_1) []))), (9, (.one (.own 0 x282.1 x282.2.1))), (10, (I x282.2.2.1)), (11, (.one (.own 1 0 x152))), (17, (I x153)), (18, (I x282.2.2.2.1))], [VI x282.2.2.2.2.1, VI x282.2.2.2.2.2]⟩ = some (outS (fun (s : Nat × Nat × Int × Int × (List Int) × (List Int)) => ⟨[(0, (LI p1)), (1, (I p2)), (3, (.one (.fn (.func n_envelope_of_1) []))), (9, (.one (.own 0 s.1 s.2.1))), (10, (I s.2.2.1)), (11, (.one (.own 1 0 x152))), (17, (I x153)), (18, (I s.2.2.2.1))], [VI s.2.2.2.2.1, VI s.2.2.2.2.2]⟩) (fun (r : ((List Int))) => (.exit 0, ⟨[(11, (.one (.own 0 0 x152)))], [VI r]⟩)) x) := by
 intro x282 x H
 unfold T_envelope_extremes_l4 at H
 refine K_in ?_
 refine K_seq (K_r [] [] (by kernel_rfl) trivial ?_)
 refine K_seq ?_
 rcases ite_some H with ⟨hx283, H⟩ | ⟨hx283, H⟩
 · refine K_t (by kernel_rfl) (decide_eq_true hx283) ?_
   refine K_g (by kernel_rfl) ?_
   refine K_skip (K_seq (K_block (K_seq (K_r [] [] (by kernel_rfl) trivial ?_))))
   refine K_seq (K_block (K_conv (σ' := ⟨[(0, (LI p1)), (1, (I p2)), (3, (.one (.fn (.func n_envelope_of_1) []))), (9, (.one (.own 0 x282.1 x282.2.1))), (10, (I x282.2.2.1)), (11, (.one (.own 1 0 x152))), (12, (I x282.2.2.2.1)), (17, (I x153)), (18, (I x282.2.2.2.1))], [VI x282.2.2.2.2.1, VI x282.2.2.2.2.2]⟩) (by kernel_rfl) ?_))
   obtain ⟨x382, hx382, H⟩ := bind_some' H
   refine K_loop ⟨[(0, (LI p1)), (1, (I p2)), (3, (.one (.fn (.func n_envelope_of_1) []))), (9, (.one (.own 0 x382.1 x382.2.1))), (10, (I x382.2.2.1)), (11, (.one (.own 1 0 x152))), (12, (I x282.2.2.2.1)), (17, (I x153)), (18, (I x282.2.2.2.1))], [VI x382.2.2.2, VI x282.2.2.2.2.2]⟩ (loop_ok (fun (s : Nat × Nat × Int × (List Int)) => ⟨[(0, (LI p1)), (1, (I p2)), (3, (.one (.fn (.func n_envelope_of_1) []))), (9, (.one (.own 0 s.1 s.2.1))), (10, (I s.2.2.1)), (11, (.one (.own 1 0 x152))), (12, (I x282.2.2.2.1)), (17, (I x153)), (18, (I x282.2.2.2.1))], [VI s.2.2.2, VI x282.2.2.2.2.2]⟩) (fun (r : (Nat × Nat × Int × (List Int))) => (.exit 2, ⟨[(0, (LI p1)), (1, (I p2)), (3, (.one (.fn (.func n_envelope_of_1) []))), (9, (.one (.own 0 r.1 r.2.1))), (10, (I r.2.2.1)), (11, (.one (.own 1 0 x152))), (12, (I x282.2.2.2.1)), (17, (I x153)), (18, (I x282.2.2.2.1))], [VI r.2.2.2, VI x282.2.2.2.2.2]⟩)) (fun r h => by cases h) (T_envelope_extremes_l2_ok k p1 p2 x152 x153 x282.2.2.2.1 x282.2.2.2.1 x282.2.2.2.2.2) k (x282.1, x282.2.1, x282.2.2.1, x282.2.2.2.2.1) x382 hx382) rfl ?_
   refine K_seq ?_
   refine K_block ?_
   obtain ⟨x403, hx403, H⟩ := bind_some' H
   refine K_loop ⟨[(0, (LI p1)), (1, (I p2)), (3, (.one (.fn (.func n_envelope_of_1) []))), (9, (.one (.own 0 x403.1 x403.2))), (10, (I x382.2.2.1)), (11, (.one (.own 1 0 x152))), (12, (I x282.2.2.2.1)), (17, (I x153)), (18, (I x282.2.2.2.1))], [VI x382.2.2.2, VI x282.2.2.2.2.2]⟩ (loop_ok (fun (s : Nat × Nat) => ⟨[(0, (LI p1)), (1, (I p2)), (3, (.one (.fn (.func n_envelope_of_1) []))), (9, (.one (.own 0 s.1 s.2))), (10, (I x382.2.2.1)), (11, (.one (.own 1 0 x152))), (12, (I x282.2.2.2.1)), (17, (I x153)), (18, (I x282.2.2.2.1))], [VI x382.2.2.2, VI x282.2.2.2.2.2]⟩) (fun (r : (Nat × Nat)) => (.exit 6, ⟨[(0, (LI p1)), (1, (I p2)), (3, (.one (.fn (.func n_envelope_of_1) []))), (9, (.one (.own 0 r.1 r.2))), (10, (I x382.2.2.1)), (11, (.one (.own 1 0 x152))), (12, (I x282.2.2.2.1)), (17, (I x153)), (18, (I x282.2.2.2.1))], [VI x382.2.2.2, VI x282.2.2.2.2.2]⟩)) (fun r h => by cases h) (T_envelope_extremes_l3_ok k p1 p2 x152 x153 x382.2.2.1 x282.2.2.2.1 x282.2.2.2.1 x382.2.2.2 x282.2.2.2.2.2) k (x382.1, x382.2.1) x403 hx403) rfl ?_
   obtain ⟨hx404, H⟩ := guard_some H
   obtain ⟨x405, hx405, H⟩ := bind_some' H
   obtain ⟨x406, hx406, H⟩ := bind_some' H
   obtain ⟨hx407, H⟩ := guard_some H
   refine K_r [.l [.int .i64 x405], .l [.int .i64 x406], .l ((x282.2.2.2.2.2.set (0 + x282.2.2.2.1.toNat) x406).map (D.int .i64))] [(0 : Int) ≤ 0 ∧ 0 < ((x403.2 : Nat) : Int), ((x382.2.2.2.map (D.int .i64)).getD (x403.1 + 0) (.int .i64 0)).cells = [.int .i64 x405], (0 : Int) ≤ x405 ∧ x405 < (((p1.map (D.int .i64))).length : Int), ((p1.map (D.int .i64)).getD x405.toNat (.int .i64 0)).cells = [.int .i64 x406], (0 : Int) ≤ x282.2.2.2.1 ∧ x282.2.2.2.1 < ((x152 : Nat) : Int), (x282.2.2.2.2.2.map (D.int .i64)).set (0 + x282.2.2.2.1.toNat) (elemOf (.int .i64 0) (splice ((x282.2.2.2.2.2.map (D.int .i64)).getD (0 + x282.2.2.2.1.toNat) (.int .i64 0)).cells 0 [.int .i64 x406])) = (x282.2.2.2.2.2.set (0 + x282.2.2.2.1.toNat) x406).map (D.int .i64)] (by kernel_rfl) (AC hx404 (AC (ld_ok hx405 (D.int .i64) (.int .i64 0)) (AC (at_ok hx406 (D.int .i64) (.int .i64 0)).1 (AC (at_ok hx406 (D.int .i64) (.int .i64 0)).2 (AC hx407 (A1 (st_one x282.2.2.2.2.2 (0 + x282.2.2.2.1.toNat) x406 (D.int .i64) (.int .i64 0) rfl (fun _ => rfl) rfl))))))) ?_
   refine K_blk (K_r [] [] (by kernel_rfl) trivial ?_)
   cases H
   exact K_end (by kernel_rfl)
 · refine K_f (by kernel_rfl) (decide_eq_false hx283) ?_
   refine K_g (by kernel_rfl) ?_
   cases H
   exact K_exit0 rfl (by kernel_rfl)
def T_envelope_extremes (k : Nat) (p1 : List Int) (p2 : Int) (p3 : Int) : Option ((List Int)) := match k with
 | 0 => none
 | k + 1 => (if (0 : Int) ≤ p3 ∧ p3 ≤ p3 ∧ p3 ≤ (LIM : Int) then (loopT (T_envelope_extremes_l4 k p1 p2 p3.toNat ((p3.toNat : Nat) : Int)) k (0, 0, 0, 0, [], (List.replicate p3.toNat (0 : Int)))).bind fun x408 => some ((x408.drop 0).take p3.toNat) else none)
abbrev C_T_envelope_extremes (k : Nat) (p1 : List Int) (p2 : Int) (p3 : Int) (r : (List Int)) : Prop := evF X k n_envelope_extremes [(LI p1), (I p2), (I p3), (.one (.fn (.func n_envelope_of_1) []))] [] = some ((LI r), [])
theorem T_envelope_extremes_ok (k : Nat) (p1 : List Int) (p2 : Int) (p3 : Int) (r : (List Int)) : T_envelope_extremes k p1 p2 p3 = some r → C_T_envelope_extremes k p1 p2 p3 r := by
 intro H
 cases k with
 | zero => simp [T_envelope_extremes] at H
 | succ k =>
  simp only [T_envelope_extremes] at H
  refine F_in X_envelope_extremes rfl ?_
  refine K_seq (K_r [] [] (by kernel_rfl) trivial ?_)
  refine K_seq (K_r [] [] (by kernel_rfl) trivial ?_)
  refine K_seq (K_r [] [] (by kernel_rfl) trivial ?_)
  refine K_seq ?_
  obtain ⟨hx1, H⟩ := guard_some H
  refine K_r [.l ((List.replicate p3.toNat (0 : Int)).map (D.int .i64))] [(0 : Int) ≤ p3 ∧ p3 ≤ p3 ∧ p3 ≤ (LIM : Int), List.replicate p3.toNat (.int .i64 0) = (List.replicate p3.toNat (0 : Int)).map (D.int .i64)] (by kernel_rfl) (AC hx1 (A1 (rep_map (D.int .i64) _ (0 : Int)))) ?_
  refine K_seq (K_seq (K_r [] [] (by kernel_rfl) trivial ?_))
  refine K_block (K_g (by kernel_rfl) ?_)
  refine K_conv (σ' := ⟨[(0, (LI p1)), (1, (I p2)), (3, (.one (.fn (.func n_envelope_of_1) []))), (9, (.one (.own 0 0 0))), (10, (I 0)), (11, (.one (.own 1 0 p3.toNat))), (17, (I ((p3.toNat : Nat) : Int))), (18, (I 0))], [VI [], VI (List.replicate p3.toNat (0 : Int))]⟩) (by kernel_rfl) ?_
  obtain ⟨x408, hx408, H⟩ := bind_some' H
  refine K_loop ⟨[(11, (.one (.own 0 0 p3.toNat)))], [VI x408]⟩ (loop_ok (fun (s : Nat × Nat × Int × Int × (List Int) × (List Int)) => ⟨[(0, (LI p1)), (1, (I p2)), (3, (.one (.fn (.func n_envelope_of_1) []))), (9, (.one (.own 0 s.1 s.2.1))), (10, (I s.2.2.1)), (11, (.one (.own 1 0 p3.toNat))), (17, (I ((p3.toNat : Nat) : Int))), (18, (I s.2.2.2.1))], [VI s.2.2.2.2.1, VI s.2.2.2.2.2]⟩) (fun (r : ((List Int))) => (.exit 0, ⟨[(11, (.one (.own 0 0 p3.toNat)))], [VI r]⟩)) (fun r h => by cases h) (T_envelope_extremes_l4_ok k p1 p2 p3.toNat ((p3.toNat : Nat) : Int)) k (0, 0, 0, 0, [], (List.replicate p3.toNat (0 : Int))) x408 hx408) rfl ?_
  refine K_seq (K_r [] [] (by kernel_rfl) trivial ?_)
  refine K_g (by kernel_rfl) ?_
  cases H
  refine K_ret ?_
  exact Eq.trans (b := some ((.one (.d (.list (((x408.map (D.int .i64)).drop 0).take p3.toNat)))), [])) (by kernel_rfl) (by simp only [dt_map, rl_map, LI, VI])
def T_envelope_of_2 (k : Nat) (p1 : Int) (p2 : Int) : Option Unit := match k with
 | 0 => none
 | k + 1 => some ()
abbrev C_T_envelope_of_2 (k : Nat) (p1 : Int) (p2 : Int) (r : Unit) : Prop := evF X k n_envelope_of_2 [(I p1), (I p2)] [] = some ((B (decide (p1 < p2))), [])
theorem T_envelope_of_2_ok (k : Nat) (p1 : Int) (p2 : Int) (r : Unit) : T_envelope_of_2 k p1 p2 = some r → C_T_envelope_of_2 k p1 p2 r := by
 intro H
 cases k with
 | zero => simp [T_envelope_of_2] at H
 | succ k =>
  simp only [T_envelope_of_2] at H
  refine F_in X_envelope_of_2 rfl ?_
  refine K_seq (K_r [] [] (by kernel_rfl) trivial ?_)
  refine K_seq (K_r [] [] (by kernel_rfl) trivial ?_)
  refine K_g (by kernel_rfl) ?_
  cases H
  refine K_ret ?_
  kernel_rfl
def T_envelope_extremes_v2_l1 (k : Nat) (p1 : List Int) (p2 : Int) (x152 : Nat) (x153 : Int) (x290 : Int) (x292 : Int) (x294 : List Int) (x342 : Nat) (x343 : Nat) (x344 : Int) (x350 : List Int) (x365 : Int) : Option (Int ⊕ Int) :=
 (((if 0 < x365 then (if (0 : Int) ≤ (w64 (x365 - 1)) ∧ (w64 (x365 - 1)) < ((x343 : Nat) : Int) then (x350[(x342 + (w64 (x365 - 1)).toNat)]?).bind fun x373 => (at? p1 x373).bind fun x374 => (at? p1 x344).bind fun x375 => (T_envelope_of_2 k x374 x375).bind fun x376 => some (!decide (x374 < x375)) else none) else some false)).bind fun x377 => (if x377 = true then some (.inl (w64 (x365 - 1))) else some (.inr x365)))
theorem T_envelope_extremes_v2_l1_ok (k : Nat) (p1 : List Int) (p2 : Int) (x152 : Nat) (x153 : Int) (x290 : Int) (x292 : Int) (x294 : List Int) (x342 : Nat) (x343 : Nat) (x344 : Int) (x350 : List Int) : ∀ (x365 : Int) (x : Int ⊕ Int), T_envelope_extremes_v2_l1 k p1 p2 x152 x153 x290 x292 x294 x342 x343 x344 x350 x365 = some x → evC X (evF X k) k 0 l_envelope_extremes_1 ⟨[(0, (LI p1)), (1, (I p2)), (3, (.one (.fn (.func n_envelope_of_2) []))), (9, (.one (.own 0 x342 x343))), (10, (I x344)), (11, (.one (.own 1 0 x152))), (12, (I x290)), (13, (I x365)), (17, (I x153)), (18, (I x292))], [VI x350, VI x294]⟩ = some (outS (fun (s : Int) => ⟨[(0, (LI p1)), (1, (I p2)), (3, (.one (.fn (.func n_envelope_of_2) []))), (9, (.one (.own 0 x342 x343))), (10, (I x344)), (11, (.one (.own 1 0 x152))), (12, (I x290)), (13, (I s)), (17, (I x153)), (18, (I x292))], [VI x350, VI x294]⟩) (fun (r : Int) => (.exit 4, ⟨[(0, (LI p1)), (1, (I p2)), (3, (.one (.fn (.func n_envelope_of_2) []))), (9, (.one (.own 0 x342 x343))), (10, (I x344)), (11, (.one (.own 1 0 x152))), (12, (I x290)), (13, (I r)), (17, (I x153)), (18, (I x292))], [VI x350, VI x294]⟩)) x) := by
 intro x365 x H
 unfold T_envelope_extremes_v2_l1 at H
 refine K_in ?_
 refine K_seq ?_
 refine K_seq ?_
 obtain ⟨x377, hx377, H⟩ := bind_some' H
 refine K_of ⟨[(0, (LI p1)), (1, (I p2)), (3, (.one (.fn (.func n_envelope_of_2) []))), (9, (.one (.own 0 x342 x343))), (10, (I x344)), (11, (.one (.own 1 0 x152))), (12, (I x290)), (13, (I x365)), (17, (I x153)), (18, (I x292)), (54, (B x377))], [VI x350, VI x294]⟩ ?_ ?_
 · clear H; have H := hx377; clear hx377; refine K_in ?_
   rcases ite_some H with ⟨hx371, H⟩ | ⟨hx371, H⟩
   · obtain ⟨hx372, H⟩ := guard_some H
     obtain ⟨x373, hx373, H⟩ := bind_some' H
     obtain ⟨x374, hx374, H⟩ := bind_some' H
     obtain ⟨x375, hx375, H⟩ := bind_some' H
     obtain ⟨x376, hx376, H⟩ := bind_some' H
     refine K_r [.b true, .l [.int .i64 x373], .l [.int .i64 x374], .l [.int .i64 x375], .r (B (decide (x374 < x375))) []] [decide (0 < x365) = true, (0 : Int) ≤ (w64 (x365 - 1)) ∧ (w64 (x365 - 1)) < ((x343 : Nat) : Int), ((x350.map (D.int .i64)).getD (x342 + (w64 (x365 - 1)).toNat) (.int .i64 0)).cells = [.int .i64 x373], (0 : Int) ≤ x373 ∧ x373 < (((p1.map (D.int .i64))).length : Int), ((p1.map (D.int .i64)).getD x373.toNat (.int .i64 0)).cells = [.int .i64 x374], (0 : Int) ≤ x344 ∧ x344 < (((p1.map (D.int .i64))).length : Int), ((p1.map (D.int .i64)).getD x344.toNat (.int .i64 0)).cells = [.int .i64 x375], C_T_envelope_of_2 k x374 x375 x376] (by kernel_rfl) (AC (decide_eq_true hx371) (AC hx372 (AC (ld_ok hx373 (D.int .i64) (.int .i64 0)) (AC (at_ok hx374 (D.int .i64) (.int .i64 0)).1 (AC (at_ok hx374 (D.int .i64) (.int .i64 0)).2 (AC (at_ok hx375 (D.int .i64) (.int .i64 0)).1 (AC (at_ok hx375 (D.int .i64) (.int .i64 0)).2 (A1 (T_envelope_of_2_ok k x374 x375 x376 hx376))))))))) ?_
     cases H
     exact K_end (by kernel_rfl)
   · refine K_r [.b false] [decide (0 < x365) = false] (by kernel_rfl) (A1 (decide_eq_false hx371)) ?_
     cases H
     exact K_end (by kernel_rfl)
 rcases ite_some H with ⟨hx378, H⟩ | ⟨hx378, H⟩
 · refine K_t (by kernel_rfl) hx378 ?_
   refine K_g (by kernel_rfl) ?_
   refine K_skip (K_block (K_r [] [] (by kernel_rfl) trivial ?_))
   refine K_blk ?_
   cases H
   exact K_end (by kernel_rfl)
 · refine K_f (by kernel_rfl) (Bool.eq_false_iff.2 hx378) ?_
   refine K_g (by kernel_rfl) ?_
   cases H
   exact K_exit0 rfl (by kernel_rfl)
def T_envelope_extremes_v2_l2 (k : Nat) (p1 : List Int) (p2 : Int) (x152 : Nat) (x153 : Int) (x290 : Int) (x292 : Int) (x294 : List Int) (x338 : Nat × Nat × Int × (List Int)) : Option ((Nat × Nat × Int × (List Int)) ⊕ ((Nat × Nat × Int × (List Int)))) :=
 (if (decide (x338.2.2.1 < (p1.length : Int)) && decide (x338.2.2.1 ≤ (w64 (x290 + p2)))) = true then (loopT (T_envelope_extremes_v2_l1 k p1 p2 x152 x153 x290 x292 x294 x338.1 x338.2.1 x338.2.2.1 x338.2.2.2) k ((x338.2.1 : Nat) : Int)).bind fun x379 => (if (0 : Int) ≤ 0 ∧ 0 ≤ x379 ∧ x379 ≤ x379 ∧ x379 ≤ ((x338.2.1 : Nat) : Int) then (if (x379.toNat - 0) + 1 ≤ LIM then some (.inl (0, ((x379.toNat - 0) + 1), (w64 (x338.2.2.1 + 1)), ((x338.2.2.2.drop (x338.1 + 0)).take (x379.toNat - 0) ++ ([x338.2.2.1] : List Int)))) else none) else none) else some (.inr (x338.1, x338.2.1, x338.2.2.1, x338.2.2.2)))
theorem T_envelope_extremes_v2_l2_ok (k : Nat) (p1 : List Int) (p2 : Int) (x152 : Nat) (x153 : Int) (x290 : Int) (x292 : Int) (x294 : List Int) : ∀ (x338 : Nat × Nat × Int × (List Int)) (x : (Nat × Nat × Int × (List Int)) ⊕ ((Nat × Nat × Int × (List Int)))), T_envelope_extremes_v2_l2 k p1 p2 x152 x153 x290 x292 x294 x338 = some x → evC X (evF X k) k 0 l_envelope_extremes_2 ⟨[(0, (LI p1)), (1, (I p2)), (3, (.one (.fn (.func n_envelope_of_2) []))), (9, (.one (.own 0 x338.1 x338.2.1))), (10, (I x338.2.2.1)), (11, (.one (.own 1 0 x152))), (12, (I x290)), (17, (I x153)), (18, (I x292))], [VI x338.2.2.2, VI x294]⟩ = some (outS (fun (s : Nat × Nat × Int × (List Int)) => ⟨[(0, (LI p1)), (1, (I p2)), (3, (.one (.fn (.func n_envelope_of_2) []))), (9, (.one (.own 0 s.1 s.2.1))), (10, (I s.2.2.1)), (11, (.one (.own 1 0 x152))), (12, (I x290)), (17, (I x153)), (18, (I x292))], [VI s.2.2.2, VI x294]⟩) (fun (r : (Nat × Nat × Int × (List Int))) => (.exit 2, ⟨[(0, (LI p1)), (1, (I p2)), (3, (.one (.fn (.func n_envelope_of_2) []))), (9, (.one (.own 0 r.1 r.2.1))), (10, (I r.2.2.1)), (11, (.one (.own 1 0 x152))), (12, (I x290)), (17, (I x153)), (18, (I x292))], [VI r.2.2.2, VI x294]⟩)) x) := by
 intro x338 x H
 unfold T_envelope_extremes_v2_l2 at H
 refine K_in ?_
 refine K_seq (K_seq (K_r [.n p1.length, .m] [((p1.map (D.int .i64))).length = p1.length, ([VI x338.2.2.2, VI x294] : Heap) = [VI x338.2.2.2, VI x294]] (by kernel_rfl) (AC (List.length_map _) (A1 rfl)) ?_))
 rcases ite_some H with ⟨hx339, H⟩ | ⟨hx339, H⟩
 · refine K_t (by kernel_rfl) hx339 ?_
   refine K_g (by kernel_rfl) ?_
   refine K_skip (K_seq (K_block (K_seq (K_r [] [] (by kernel_rfl) trivial ?_))))
   refine K_seq (K_block (K_conv (σ' := ⟨[(0, (LI p1)), (1, (I p2)), (3, (.one (.fn (.func n_envelope_of_2) []))), (9, (.one (.own 0 x338.1 x338.2.1))), (10, (I x338.2.2.1)), (11, (.one (.own 1 0 x152))), (12, (I x290)), (13, (I ((x338.2.1 : Nat) : Int))), (17, (I x153)), (18, (I x292))], [VI x338.2.2.2, VI x294]⟩) (by kernel_rfl) ?_))
   obtain ⟨x379, hx379, H⟩ := bind_some' H
   refine K_loop ⟨[(0, (LI p1)), (1, (I p2)), (3, (.one (.fn (.func n_envelope_of_2) []))), (9, (.one (.own 0 x338.1 x338.2.1))), (10, (I x338.2.2.1)), (11, (.one (.own 1 0 x152))), (12, (I x290)), (13, (I x379)), (17, (I x153)), (18, (I x292))], [VI x338.2.2.2, VI x294]⟩ (loop_ok (fun (s : Int) => ⟨[(0, (LI p1)), (1, (I p2)), (3, (.one (.fn (.func n_envelope_of_2) []))), (9, (.one (.own 0 x338.1 x338.2.1))), (10, (I x338.2.2.1)), (11, (.one (.own 1 0 x152))), (12, (I x290)), (13, (I s)), (17, (I x153)), (18, (I x292))], [VI x338.2.2.2, VI x294]⟩) (fun (r : Int) => (.exit 4, ⟨[(0, (LI p1)), (1, (I p2)), (3, (.one (.fn (.func n_envelope_of_2) []))), (9, (.one (.own 0 x338.1 x338.2.1))), (10, (I x338.2.2.1)), (11, (.one (.own 1 0 x152))), (12, (I x290)), (13, (I r)), (17, (I x153)), (18, (I x292))], [VI x338.2.2.2, VI x294]⟩)) (fun r h => by cases h) (T_envelope_extremes_v2_l1_ok k p1 p2 x152 x153 x290 x292 x294 x338.1 x338.2.1 x338.2.2.1 x338.2.2.2) k ((x338.2.1 : Nat) : Int) x379 hx379) rfl ?_
   obtain ⟨hx380, H⟩ := guard_some H
   obtain ⟨hx381, H⟩ := guard_some H
   refine K_r [.n 1, .l (((x338.2.2.2.drop (x338.1 + 0)).take (x379.toNat - 0) ++ ([x338.2.2.1] : List Int)).map (D.int .i64))] [(0 : Int) ≤ 0 ∧ 0 ≤ x379 ∧ x379 ≤ x379 ∧ x379 ≤ ((x338.2.1 : Nat) : Int), (List.all (([x338.2.2.1] : List Int).map (D.int .i64)) fun d => d.cells.length == (D.cells (.int .i64 0)).length) = true, (x379.toNat - 0) + 1 ≤ LIM, (([x338.2.2.1] : List Int).map (D.int .i64)).length = 1, ((x338.2.2.2.map (D.int .i64)).drop (x338.1 + 0)).take (x379.toNat - 0) ++ (([x338.2.2.1] : List Int).map (D.int .i64)) = ((x338.2.2.2.drop (x338.1 + 0)).take (x379.toNat - 0) ++ ([x338.2.2.1] : List Int)).map (D.int .i64)] (by kernel_rfl) (AC hx380 (AC (all_ok (D.int .i64) 1 ([x338.2.2.1] : List Int) (fun _ => rfl)) (AC hx381 (AC (by simp) (A1 (ap_map (D.int .i64) x338.2.2.2 ([x338.2.2.1] : List Int) (x338.1 + 0) (x379.toNat - 0))))))) ?_
   refine K_blk (K_r [] [] (by kernel_rfl) trivial ?_)
   cases H
   exact K_end (by kernel_rfl)
 · refine K_f (by kernel_rfl) (Bool.eq_false_iff.2 hx339) ?_
   refine K_g (by kernel_rfl) ?_
   cases H
   exact K_exit0 rfl (by kernel_rfl)
def T_envelope_extremes_v2_l3 (k : Nat) (p1 : List Int) (p2 : Int) (x152 : Nat) (x153 : Int) (x387 : Int) (x389 : Int) (x391 : Int) (x392 : List Int) (x393 : List Int) (x398 : Nat × Nat) : Option ((Nat × Nat) ⊕ ((Nat × Nat))) :=
 (if (0 : Int) ≤ 0 ∧ 0 < ((x398.2 : Nat) : Int) then (x392[(x398.1 + 0)]?).bind fun x400 => (if x400 < (w64 (x389 - p2)) then (if (0 : Int) ≤ 1 ∧ 1 ≤ ((x398.2 : Nat) : Int) ∧ ((x398.2 : Nat) : Int) ≤ ((x398.2 : Nat) : Int) ∧ ((x398.2 : Nat) : Int) ≤ ((x398.2 : Nat) : Int) then some (.inl ((x398.1 + 1), (((x398.2 : Nat) : Int).toNat - 1))) else none) else some (.inr (x398.1, x398.2))) else none)
theorem T_envelope_extremes_v2_l3_ok (k : Nat) (p1 : List Int) (p2 : Int) (x152 : Nat) (x153 : Int) (x387 : Int) (x389 : Int) (x391 : Int) (x392 : List Int) (x393 : List Int) : ∀ (x398 : Nat × Nat) (x : (Nat × Nat) ⊕ ((Nat × Nat))), T_envelope_extremes_v2_l3 k p1 p2 x152 x153 x387 x389 x391 x392 x393 x398 = some x → evC X (evF X k) k 0 l_envelope_extremes_3 ⟨[(0, (LI p1)), (1, (I p2)), (3, (.one (.fn (.func n_envelope_of_2) []))), (9, (.one (.own 0 x398.1 x398.2))), (10, (I x387)), (11, (.one (.own 1 0 x152))), (12, (I x389)), (17, (I x153)), (18, (I x391))], [VI x392, VI x393]⟩ = some (outS (fun (s : Nat × Nat) => ⟨[(0, (LI p1)), (1, (I p2)), (3, (.one (.fn (.func n_envelope_of_2) []))), (9, (.one (.own 0 s.1 s.2))), (10, (I x387)), (11, (.one (.own 1 0 x152))), (12, (I x389)), (17, (I x153)), (18, (I x391))], [VI x392, VI x393]⟩) (fun (r : (Nat × Nat)) => (.exit 6, ⟨[(0, (LI p1)), (1, (I p2)), (3, (.one (.fn (.func n_envelope_of_2) []))), (9, (.one (.own 0 r.1 r.2))), (10, (I x387)), (11, (.one (.own 1 0 x152))), (12, (I x389)), (17, (I x153)), (18, (I x391))], [VI x392, VI x393]⟩)) x) := by
 intro x398 x H
 unfold T_envelope_extremes_v2_l3 at H
 refine K_in ?_
 refine K_seq ?_
 refine K_seq ?_
 obtain ⟨hx399, H⟩ := guard_some H
 obtain ⟨x400, hx400, H⟩ := bind_some' H
 refine K_r [.l [.int .i64 x400]] [(0 : Int) ≤ 0 ∧ 0 < ((x398.2 : Nat) : Int), ((x392.map (D.int .i64)).getD (x398.1 + 0) (.int .i64 0)).cells = [.int .i64 x400]] (by kernel_rfl) (AC hx399 (A1 (ld_ok hx400 (D.int .i64) (.int .i64 0)))) ?_
 rcases ite_some H with ⟨hx401, H⟩ | ⟨hx401, H⟩
 · refine K_t (by kernel_rfl) (decide_eq_true hx401) ?_
   refine K_g (by kernel_rfl) ?_
   refine K_skip ?_
   refine K_block ?_
   obtain ⟨hx402, H⟩ := guard_some H
   refine K_r [] [(0 : Int) ≤ 1 ∧ 1 ≤ ((x398.2 : Nat) : Int) ∧ ((x398.2 : Nat) : Int) ≤ ((x398.2 : Nat) : Int) ∧ ((x398.2 : Nat) : Int) ≤ ((x398.2 : Nat) : Int)] (by kernel_rfl) (A1 hx402) ?_
   refine K_blk ?_
   cases H
   exact K_end (by kernel_rfl)
 · refine K_f (by kernel_rfl) (decide_eq_false hx401) ?_
   refine K_g (by kernel_rfl) ?_
   cases H
   exact K_exit0 rfl (by kernel_rfl)
def T_envelope_extremes_v2_l4 (k : Nat) (p1 : List Int) (p2 : Int) (x152 : Nat) (x153 : Int) (x282 : Nat × Nat × Int × Int × (List Int) × (List Int)) : Option ((Nat × Nat × Int × Int × (List Int) × (List Int)) ⊕ (((List Int)))) :=
 (if x282.2.2.2.1 < x153 then (loopT (T_envelope_extremes_v2_l2 k p1 p2 x152 x153 x282.2.2.2.1 x282.2.2.2.1 x282.2.2.2.2.2) k (x282.1, x282.2.1, x282.2.2.1, x282.2.2.2.2.1)).bind fun x382 => (loopT (T_envelope_extremes_v2_l3 k p1 p2 x152 x153 x382.2.2.1 x282.2.2.2.1 x282.2.2.2.1 x382.2.2.2 x282.2.2.2.2.2) k (x382.1, x382.2.1)).bind fun x403 => (if (0 : Int) ≤ 0 ∧ 0 < ((x403.2 : Nat) : Int) then (x382.2.2.2[(x403.1 + 0)]?).bind fun x405 => (at? p1 x405).bind fun x406 => (if (0 : Int) ≤ x282.2.2.2.1 ∧ x282.2.2.2.1 < ((x152 : Nat) : Int) then some (.inl (x403.1, x403.2, x382.2.2.1, (w64 (x282.2.2.2.1 + 1)), x382.2.2.2, (x282.2.2.2.2.2.set (0 + x282.2.2.2.1.toNat) x406))) else none) else none) else some (.inr x282.2.2.2.2.2))
theorem T_envelope_extremes_v2_l4_ok (k : Nat) (p1 : List Int) (p2 : Int) (x152 : Nat) (x153 : Int) : ∀ (x282 : Nat × Nat × Int × Int × (List Int) × (List Int)) (x : (Nat × Nat × Int × Int × (List Int) × (List Int)) ⊕ (((List Int)))), T_envelope_extremes_v2_l4 k p1 p2 x152 x153 x282 = some x → evC X (evF X k) k 0 l_envelope_extremes_4 ⟨[(0, (LI p1)), (1, (I p2)), (3, (.one (.fn (.func n_envelope_of_2) []))), (9, (.one (.own 0 x282.1 x282.2.1))), (10, (I x282.2.2.1)), (11, (.one (.own 1 0 x152))), (17, (I x153)), (18, (I x282.2.2.2.1))], [VI x282.2.2.2.2.1, VI x282.2.2.2.2.2]⟩ = some (outS (fun (s : Nat × Nat × Int × Int × (List Int) × (List Int)) => ⟨[(0, (LI p1)), (1, (I p2)), (3, (.one (.fn (.func n_envelope_of_2) []))), (9, (.one (.own 0 s.1 s.2.1))), (10, (I s.2.2.1)), (11, (.one (.own 1 0 x152))), (17, (I x153)), (18, (I s.2.2.2.1))], [VI s.2.2.2.2.1, VI s.2.2.2.2.2]⟩) (fun (r : ((List Int))) => (.exit 0, ⟨[(11, (.one (.own 0 0 x152)))], [VI r]⟩)) x) := by
 intro x282 x H
 unfold T_envelope_extremes_v2_l4 at H
 refine K_in ?_
 refine K_seq (K_r [] [] (by kernel_rfl) trivial ?_)
 refine K_seq ?_
 rcases ite_some H with ⟨hx283, H⟩ | ⟨hx283, H⟩
 · refine K_t (by kernel_rfl) (decide_eq_true hx283) ?_
   refine K_g (by kernel_rfl) ?_
   refine K_skip (K_seq (K_block (K_seq (K_r [] [] (by kernel_rfl) trivial ?_))))
   refine K_seq (K_block (K_conv (σ' := ⟨[(0, (LI p1)), (1, (I p2)), (3, (.one (.fn (.func n_envelope_of_2) []))), (9, (.one (.own 0 x282.1 x282.2.1))), (10, (I x282.2.2.1)), (11, (.one (.own 1 0 x152))), (12, (I x282.2.2.2.1)), (17, (I x153)), (18, (I x282.2.2.2.1))], [VI x282.2.2.2.2.1, VI x282.2.2.2.2.2]⟩) (by kernel_rfl) ?_))
   obtain ⟨x382, hx382, H⟩ := bind_some' H
   refine K_loop ⟨[(0, (LI p1)), (1, (I p2)), (3, (.one (.fn (.func n_envelope_of_2) []))), (9, (.one (.own 0 x382.1 x382.2.1))), (10, (I x382.2.2.1)), (11, (.one (.own 1 0 x152))), (12, (I x282.2.2.2.1)), (17, (I x153)), (18, (I x282.2.2.2.1))], [VI x382.2.2.2, VI x282.2.2.2.2.2]⟩ (loop_ok (fun (s : Nat × Nat × Int × (List Int)) => ⟨[(0, (LI p1)), (1, (I p2)), (3, (.one (.fn (.func n_envelope_of_2) []))), (9, (.one (.own 0 s.1 s.2.1))), (10, (I s.2.2.1)), (11, (.one (.own 1 0 x152))), (12, (I x282.2.2.2.1)), (17, (I x153)), (18, (I x282.2.2.2.1))], [VI s.2.2.2, VI x282.2.2.2.2.2]⟩) (fun (r : (Nat × Nat × Int × (List Int))) => (.exit 2, ⟨[(0, (LI p1)), (1, (I p2)), (3, (.one (.fn (.func n_envelope_of_2) []))), (9, (.one (.own 0 r.1 r.2.1))), (10, (I r.2.2.1)), (11, (.one (.own 1 0 x152))), (12, (I x282.2.2.2.1)), (17, (I x153)), (18, (I x282.2.2.2.1))], [VI r.2.2.2, VI x282.2.2.2.2.2]⟩)) (fun r h => by cases h) (T_envelope_extremes_v2_l2_ok k p1 p2 x152 x153 x282.2.2.2.1 x282.2.2.2.1 x282.2.2.2.2.2) k (x282.1, x282.2.1, x282.2.2.1, x282.2.2.2.2.1) x382 hx382) rfl ?_
   refine K_seq ?_
   refine K_block ?_
   obtain ⟨x403, hx403, H⟩ := bind_some' H
   refine K_loop ⟨[(0, (LI p1)), (1, (I p2)), (3, (.one (.fn (.func n_envelope_of_2) []))), (9, (.one (.own 0 x403.1 x403.2))), (10, (I x382.2.2.1)), (11, (.one (.own 1 0 x152))), (12, (I x282.2.2.2.1)), (17, (I x153)), (18, (I x282.2.2.2.1))], [VI x382.2.2.2, VI x282.2.2.2.2.2]⟩ (loop_ok (fun (s : Nat × Nat) => ⟨[(0, (LI p1)), (1, (I p2)), (3, (.one (.fn (.func n_envelope_of_2) []))), (9, (.one (.own 0 s.1 s.2))), (10, (I x382.2.2.1)), (11, (.one (.own 1 0 x152))), (12, (I x282.2.2.2.1)), (17, (I x153)), (18, (I x282.2.2.2.1))], [VI x382.2.2.2, VI x282.2.2.2.2.2]⟩) (fun (r : (Nat × Nat)) => (.exit 6, ⟨[(0, (LI p1)), (1, (I p2)), (3, (.one (.fn (.func n_envelope_of_2) []))), (9, (.one (.own 0 r.1 r.2))), (10, (I x382.2.2.1)), (11, (.one (.own 1 0 x152))), (12, (I x282.2.2.2.1)), (17, (I x153)), (18, (I x282.2.2.2.1))], [VI x382.2.2.2, VI x282.2.2.2.2.2]⟩)) (fun r h => by cases h) (T_envelope_extremes_v2_l3_ok k p1 p2 x152 x153 x382.2.2.1 x282.2.2.2.1 x282.2.2.2.1 x382.2.2.2 x282.2.2.2.2.2) k (x382.1, x382.2.1) x403 hx403) rfl ?_
   obtain ⟨hx404, H⟩ := guard_some H
   obtain ⟨x405, hx405, H⟩ := bind_some' H
   obtain ⟨x406, hx406, H⟩ := bind_some' H
   obtain ⟨hx407, H⟩ := guard_some H
   refine K_r [.l [.int .i64 x405], .l [.int .i64 x406], .l ((x282.2.2.2.2.2.set (0 + x282.2.2.2.1.toNat) x406).map (D.int .i64))] [(0 : Int) ≤ 0 ∧ 0 < ((x403.2 : Nat) : Int), ((x382.2.2.2.map (D.int .i64)).getD (x403.1 + 0) (.int .i64 0)).cells = [.int .i64 x405], (0 : Int) ≤ x405 ∧ x405 < (((p1.map (D.int .i64))).length : Int), ((p1.map (D.int .i64)).getD x405.toNat (.int .i64 0)).cells = [.int .i64 x406], (0 : Int) ≤ x282.2.2.2.1 ∧ x282.2.2.2.1 < ((x152 : Nat) : Int), (x282.2.2.2.2.2.map (D.int .i64)).set (0 + x282.2.2.2.1.toNat) (elemOf (.int .i64 0) (splice ((x282.2.2.2.2.2.map (D.int .i64)).getD (0 + x282.2.2.2.1.toNat) (.int .i64 0)).cells 0 [.int .i64 x406])) = (x282.2.2.2.2.2.set (0 + x282.2.2.2.1.toNat) x406).map (D.int .i64)] (by kernel_rfl) (AC hx404 (AC (ld_ok hx405 (D.int .i64) (.int .i64 0)) (AC (at_ok hx406 (D.int .i64) (.int .i64 0)).1 (AC (at_ok hx406 (D.int .i64) (.int .i64 0)).2 (AC hx407 (A1 (st_one x282.2.2.2.2.2 (0 + x282.2.2.2.1.toNat) x406 (D.int .i64) (.int .i64 0) rfl (fun _ => rfl) rfl))))))) ?_
   refine K_blk (K_r [] [] (by kernel_rfl) trivial ?_)
   cases H
   exact K_end (by kernel_rfl)
 · refine K_f (by kernel_rfl) (decide_eq_false hx283) ?_
   refine K_g (by kernel_rfl) ?_
   cases H
   exact K_exit0 rfl (by kernel_rfl)
def T_envelope_extremes_v2 (k : Nat) (p1 : List Int) (p2 : Int) (p3 : Int) : Option ((List Int)) := match k with
 | 0 => none
 | k + 1 => (if (0 : Int) ≤ p3 ∧ p3 ≤ p3 ∧ p3 ≤ (LIM : Int) then (loopT (T_envelope_extremes_v2_l4 k p1 p2 p3.toNat ((p3.toNat : Nat) : Int)) k (0, 0, 0, 0, [], (List.replicate p3.toNat (0 : Int)))).bind fun x408 => some ((x408.drop 0).take p3.toNat) else none)
abbrev C_T_envelope_extremes_v2 (k : Nat) (p1 : List Int) (p2 : Int) (p3 : Int) (r : (List Int)) : Prop := evF X k n_envelope_extremes [(LI p1), (I p2), (I p3), (.one (.fn (.func n_envelope_of_2) []))] [] = some ((LI r), [])
theorem T_envelope_extremes_v2_ok (k : Nat) (p1 : List Int) (p2 : Int) (p3 : Int) (r : (List Int)) : T_envelope_extremes_v2 k p1 p2 p3 = some r → C_T_envelope_extremes_v2 k p1 p2 p3 r := by
 intro H
 cases k with
 | zero => simp [T_envelope_extremes_v2] at H
 | succ k =>
  simp only [T_envelope_extremes_v2] at H
  refine F_in X_envelope_extremes rfl ?_
  refine K_seq (K_r [] [] (by kernel_rfl) trivial ?_)
  refine K_seq (K_r [] [] (by kernel_rfl) trivial ?_)
  refine K_seq (K_r [] [] (by kernel_rfl) trivial ?_)
  refine K_seq ?_
  obtain ⟨hx1, H⟩ := guard_some H
  refine K_r [.l ((List.replicate p3.toNat (0 : Int)).map (D.int .i64))] [(0 : Int) ≤ p3 ∧ p3 ≤ p3 ∧ p3 ≤ (LIM : Int), List.replicate p3.toNat (.int .i64 0) = (List.replicate p3.toNat (0 : Int)).map (D.int .i64)] (by kernel_rfl) (AC hx1 (A1 (rep_map (D.int .i64) _ (0 : Int)))) ?_
  refine K_seq (K_seq (K_r [] [] (by kernel_rfl) trivial ?_))
  refine K_block (K_g (by kernel_rfl) ?_)
  refine K_conv (σ' := ⟨[(0, (LI p1)), (1, (I p2)), (3, (.one (.fn (.func n_envelope_of_2) []))), (9, (.one (.own 0 0 0))), (10, (I 0)), (11, (.one (.own 1 0 p3.toNat))), (17, (I ((p3.toNat : Nat) : Int))), (18, (I 0))], [VI [], VI (List.replicate p3.toNat (0 : Int))]⟩) (by kernel_rfl) ?_
  obtain ⟨x408, hx408, H⟩ := bind_some' H
  refine K_loop ⟨[(11, (.one (.own 0 0 p3.toNat)))], [VI x408]⟩ (loop_ok (fun (s : Nat × Nat × Int × Int × (List Int) × (List Int)) => ⟨[(0, (LI p1)), (1, (I p2)), (3, (.one (.fn (.func n_envelope_of_2) []))), (9, (.one (.own 0 s.1 s.2.1))), (10, (I s.2.2.1)), (11, (.one (.own 1 0 p3.toNat))), (17, (I ((p3.toNat : Nat) : Int))), (18, (I s.2.2.2.1))], [VI s.2.2.2.2.1, VI s.2.2.2.2.2]⟩) (fun (r : ((List Int))) => (.exit 0, ⟨[(11, (.one (.own 0 0 p3.toNat)))], [VI r]⟩)) (fun r h => by cases h) (T_envelope_extremes_v2_l4_ok k p1 p2 p3.toNat ((p3.toNat : Nat) : Int)) k (0, 0, 0, 0, [], (List.replicate p3.toNat (0 : Int))) x408 hx408) rfl ?_
  refine K_seq (K_r [] [] (by kernel_rfl) trivial ?_)
  refine K_g (by kernel_rfl) ?_
  cases H
  refine K_ret ?_
  exact Eq.trans (b := some ((.one (.d (.list (((x408.map (D.int .i64)).drop 0).take p3.toNat)))), [])) (by kernel_rfl) (by simp only [dt_map, rl_map, LI, VI])
def T_envelope_of (k : Nat) (p1 : List Int) (p2 : Int) (p3 : Int) : Option ((List Int) × (List Int)) := match k with
 | 0 => none
 | k + 1 => ((T_envelope_extremes k p1 p2 p3).bind fun x1 => (T_envelope_extremes_v2 k p1 p2 p3).bind fun x2 => some (x1, x2))
abbrev C_T_envelope_of (k : Nat) (p1 : List Int) (p2 : Int) (p3 : Int) (r : (List Int) × (List Int)) : Prop := evF X k n_envelope_of [(LI p1), (I p2), (I p3)] [] = some ((.agg [cL r.1, cL r.2]), [])
theorem T_envelope_of_ok (k : Nat) (p1 : List Int) (p2 : Int) (p3 : Int) (r : (List Int) × (List Int)) : T_envelope_of k p1 p2 p3 = some r → C_T_envelope_of k p1 p2 p3 r := by
 intro H
 cases k with
 | zero => simp [T_envelope_of] at H
 | succ k =>
  simp only [T_envelope_of] at H
  refine F_in X_envelope_of rfl ?_
  refine K_seq (K_r [] [] (by kernel_rfl) trivial ?_)
  refine K_seq ?_
  obtain ⟨x1, hx1, H⟩ := bind_some' H
  obtain ⟨x2, hx2, H⟩ := bind_some' H
  refine K_r [.r (LI x1) [], .r (LI x2) []] [C_T_envelope_extremes k p1 p2 p3 x1, C_T_envelope_extremes_v2 k p1 p2 p3 x2] (by kernel_rfl) (AC (T_envelope_extremes_ok k p1 p2 p3 x1 hx1) (A1 (T_envelope_extremes_v2_ok k p1 p2 p3 x2 hx2))) ?_
  refine K_g (by kernel_rfl) ?_
  cases H
  refine K_ret ?_
  kernel_rfl
def T_envelope_passes (k : Nat) (p1 : Int) (p2 : Int) (p3 : Int) : Option Unit := match k with
 | 0 => none
 | k + 1 => some ()
abbrev C_T_envelope_passes (k : Nat) (p1 : Int) (p2 : Int) (p3 : Int) (r : Unit) : Prop := evF X k n_envelope_passes [(I p1), (I p2), (I p3)] [] = some ((I (imax (imax 0 (w64 (p1 - p3))) (w64 (p2 - p1)))), [])
theorem T_envelope_passes_ok (k : Nat) (p1 : Int) (p2 : Int) (p3 : Int) (r : Unit) : T_envelope_passes k p1 p2 p3 = some r → C_T_envelope_passes k p1 p2 p3 r := by
 intro H
 cases k with
 | zero => simp [T_envelope_passes] at H
 | succ k =>
  simp only [T_envelope_passes] at H
  refine F_in X_envelope_passes rfl ?_
  refine K_seq (K_r [] [] (by kernel_rfl) trivial ?_)
  refine K_seq (K_r [] [] (by kernel_rfl) trivial ?_)
  refine K_g (by kernel_rfl) ?_
  cases H
  refine K_ret ?_
  kernel_rfl
def T_ratio_divisor_l1 (k : Nat) (x5 : Int × Int) : Option ((Int × Int) ⊕ Int) :=
 (if (!decide (x5.2 = 0)) = true then (if x5.2 ≠ 0 then some (.inl (x5.2, (x5.1.tmod x5.2))) else none) else some (.inr x5.1))
theorem T_ratio_divisor_l1_ok (k : Nat) : ∀ (x5 : Int × Int) (x : (Int × Int) ⊕ Int), T_ratio_divisor_l1 k x5 = some x → evC X (evF X k) k 0 l_ratio_divisor_1 ⟨[(0, (I x5.1)), (1, (I x5.2))], []⟩ = some (outS (fun (s : Int × Int) => ⟨[(0, (I s.1)), (1, (I s.2))], []⟩) (fun (r : Int) => (.exit 0, ⟨[(0, (I r))], []⟩)) x) := by
 intro x5 x H
 unfold T_ratio_divisor_l1 at H
 refine K_in ?_
 refine K_seq (K_seq (K_r [] [] (by kernel_rfl) trivial ?_))
 rcases ite_some H with ⟨hx6, H⟩ | ⟨hx6, H⟩
 · refine K_t (by kernel_rfl) hx6 ?_
   refine K_g (by kernel_rfl) ?_
   refine K_skip ?_
   refine K_block ?_
   obtain ⟨hx7, H⟩ := guard_some H
   refine K_r [] [x5.2 ≠ (0 : Int)] (by kernel_rfl) (A1 hx7) ?_
   refine K_blk ?_
   cases H
   exact K_end (by kernel_rfl)
 · refine K_f (by kernel_rfl) (Bool.eq_false_iff.2 hx6) ?_
   refine K_g (by kernel_rfl) ?_
   cases H
   exact K_exit0 rfl (by kernel_rfl)
def T_ratio_divisor (k : Nat) (p1 : Int) (p2 : Int) : Option Int := match k with
 | 0 => none
 | k + 1 => ((loopT (T_ratio_divisor_l1 k) k (p1, p2)).bind fun x8 => some x8)
abbrev C_T_ratio_divisor (k : Nat) (p1 : Int) (p2 : Int) (r : Int) : Prop := evF X k n_ratio_divisor [(I p1), (I p2)] [] = some ((I r), [])
theorem T_ratio_divisor_ok (k : Nat) (p1 : Int) (p2 : Int) (r : Int) : T_ratio_divisor k p1 p2 = some r → C_T_ratio_divisor k p1 p2 r := by
 intro H
 cases k with
 | zero => simp [T_ratio_divisor] at H
 | succ k =>
  simp only [T_ratio_divisor] at H
  refine F_in X_ratio_divisor rfl ?_
  refine K_seq (K_r [] [] (by kernel_rfl) trivial ?_)
  refine K_seq (K_block (K_conv (σ' := ⟨[(0, (I p1)), (1, (I p2))], []⟩) (by kernel_rfl) ?_))
  obtain ⟨x8, hx8, H⟩ := bind_some' H
  refine K_loop ⟨[(0, (I x8))], []⟩ (loop_ok (fun (s : Int × Int) => ⟨[(0, (I s.1)), (1, (I s.2))], []⟩) (fun (r : Int) => (.exit 0, ⟨[(0, (I r))], []⟩)) (fun r h => by cases h) (T_ratio_divisor_l1_ok k) k (p1, p2) x8 hx8) rfl ?_
  refine K_seq (K_r [] [] (by kernel_rfl) trivial ?_)
  refine K_g (by kernel_rfl) ?_
  cases H
  refine K_ret ?_
  kernel_rfl
def T_ratio_within (k : Nat) (p1 : Int) (p2 : Int) : Option Unit := match k with
 | 0 => none
 | k + 1 => some ()
abbrev C_T_ratio_within (k : Nat) (p1 : Int) (p2 : Int) (r : Unit) : Prop := evF X k n_ratio_within [(.agg [cI p1, cI p2])] [] = some ((B (((decide (0 ≤ p1) && decide (p1 ≤ 2305843009213693952)) && decide (1 ≤ p2)) && decide (p2 ≤ 1152921504606846976))), [])
theorem T_ratio_within_ok (k : Nat) (p1 : Int) (p2 : Int) (r : Unit) : T_ratio_within k p1 p2 = some r → C_T_ratio_within k p1 p2 r := by
 intro H
 cases k with
 | zero => simp [T_ratio_within] at H
 | succ k =>
  simp only [T_ratio_within] at H
  refine F_in X_ratio_within rfl ?_
  refine K_seq (K_r [] [] (by kernel_rfl) trivial ?_)
  refine K_seq (K_r [.m, .m, .m] ((fun (z1 : Heap) => [z1 = z1, z1 = z1, z1 = z1]) [.cells [cI p1, cI p2]]) (by kernel_rfl) (AC rfl (AC rfl (A1 rfl))) ?_)
  refine K_g (by kernel_rfl) ?_
  cases H
  refine K_ret ?_
  kernel_rfl
def T_ratio_Make (k : Nat) (p1 : Int) (p2 : Int) : Option (Int × Int × Int) := match k with
 | 0 => none
 | k + 1 => (if (decide (p1 < 0) || decide (p2 < 1)) = true then some (0, 0, 1) else (T_ratio_divisor k p1 p2).bind fun x2 => (if x2 ≠ 0 then (T_ratio_within k (w64 (p1.tdiv x2)) (w64 (p2.tdiv x2))).bind fun x4 => (if (!(((decide (0 ≤ (w64 (p1.tdiv x2))) && decide ((w64 (p1.tdiv x2)) ≤ 2305843009213693952)) && decide (1 ≤ (w64 (p2.tdiv x2)))) && decide ((w64 (p2.tdiv x2)) ≤ 1152921504606846976))) = true then some (0, 0, 1) else some ((w64 (p1.tdiv x2)), (w64 (p2.tdiv x2)), 0)) else none))
abbrev C_T_ratio_Make (k : Nat) (p1 : Int) (p2 : Int) (r : Int × Int × Int) : Prop := evF X k n_ratio_Make [(I p1), (I p2)] [] = some ((.tup [(true, [cI r.1, cI r.2.1]), (false, [cI r.2.2])]), [])
theorem T_ratio_Make_ok (k : Nat) (p1 : Int) (p2 : Int) (r : Int × Int × Int) : T_ratio_Make k p1 p2 = some r → C_T_ratio_Make k p1 p2 r := by
 intro H
 cases k with
 | zero => simp [T_ratio_Make] at H
 | succ k =>
  simp only [T_ratio_Make] at H
  refine F_in X_ratio_Make rfl ?_
  refine K_seq (K_r [] [] (by kernel_rfl) trivial ?_)
  refine K_seq (K_seq (K_r [.m] [([.cells [cI 0, cI 0]] : Heap) = [.cells [cI 0, cI 0]]] (by kernel_rfl) (A1 rfl) ?_))
  rcases ite_some H with ⟨hx1, H⟩ | ⟨hx1, H⟩
  · refine K_t (by kernel_rfl) hx1 ?_
    refine K_seq (K_r [] [] (by kernel_rfl) trivial ?_)
    refine K_g (by kernel_rfl) ?_
    cases H
    refine K_ret ?_
    kernel_rfl
  · refine K_f (by kernel_rfl) (Bool.eq_false_iff.2 hx1) ?_
    refine K_g (by kernel_rfl) ?_
    refine K_skip ?_
    refine K_seq ?_
    obtain ⟨x2, hx2, H⟩ := bind_some' H
    refine K_r [.r (I x2) []] [C_T_ratio_divisor k p1 p2 x2] (by kernel_rfl) (A1 (T_ratio_divisor_ok k p1 p2 x2 hx2)) ?_
    refine K_seq ?_
    obtain ⟨hx3, H⟩ := guard_some H
    refine K_r [] [x2 ≠ (0 : Int), x2 ≠ (0 : Int)] (by kernel_rfl) (AC hx3 (A1 hx3)) ?_
    refine K_seq ?_
    refine K_seq ?_
    obtain ⟨x4, hx4, H⟩ := bind_some' H
    refine K_r [.r (B (((decide (0 ≤ (w64 (p1.tdiv x2))) && decide ((w64 (p1.tdiv x2)) ≤ 2305843009213693952)) && decide (1 ≤ (w64 (p2.tdiv x2)))) && decide ((w64 (p2.tdiv x2)) ≤ 1152921504606846976))) []] [C_T_ratio_within k (w64 (p1.tdiv x2)) (w64 (p2.tdiv x2)) x4] (by kernel_rfl) (A1 (T_ratio_within_ok k (w64 (p1.tdiv x2)) (w64 (p2.tdiv x2)) x4 hx4)) ?_
    rcases ite_some H with ⟨hx5, H⟩ | ⟨hx5, H⟩
    · refine K_t (by kernel_rfl) hx5 ?_
      refine K_seq (K_r [] [] (by kernel_rfl) trivial ?_)
      refine K_g (by kernel_rfl) ?_
      cases H
      refine K_ret ?_
      kernel_rfl
    · refine K_f (by kernel_rfl) (Bool.eq_false_iff.2 hx5) ?_
      refine K_g (by kernel_rfl) ?_
      refine K_skip (K_seq (K_r [] [] (by kernel_rfl) trivial ?_))
      refine K_g (by kernel_rfl) ?_
      cases H
      refine K_ret ?_
      kernel_rfl
def T_ratio_Valid (k : Nat) (p1 : Int) (p2 : Int) : Option Bool := match k with
 | 0 => none
 | k + 1 => ((((T_ratio_within k p1 p2).bind fun x1 => (if (((decide (0 ≤ p1) && decide (p1 ≤ 2305843009213693952)) && decide (1 ≤ p2)) && decide (p2 ≤ 1152921504606846976)) = true then ((T_ratio_divisor k p1 p2).bind fun x4 => some (decide (x4 = 1))) else some false))).bind fun x5 => some x5)
abbrev C_T_ratio_Valid (k : Nat) (p1 : Int) (p2 : Int) (r : Bool) : Prop := evF X k n_ratio_Valid [(.agg [cI p1, cI p2])] [] = some ((B r), [])
theorem T_ratio_Valid_ok (k : Nat) (p1 : Int) (p2 : Int) (r : Bool) : T_ratio_Valid k p1 p2 = some r → C_T_ratio_Valid k p1 p2 r := by
 intro H
 cases k with
 | zero => simp [T_ratio_Valid] at H
 | succ k =>
  simp only [T_ratio_Valid] at H
  refine F_in X_ratio_Valid rfl ?_
  refine K_seq (K_r [] [] (by kernel_rfl) trivial ?_)
  refine K_seq ?_
  obtain ⟨x5, hx5, H⟩ := bind_some' H
  refine K_of ⟨[(2, (B x5))], []⟩ ?_ ?_
  · clear H; have H := hx5; clear hx5; refine K_in ?_
    obtain ⟨x1, hx1, H⟩ := bind_some' H
    rcases ite_some H with ⟨hx3, H⟩ | ⟨hx3, H⟩
    · obtain ⟨x4, hx4, H⟩ := bind_some' H
      refine K_r [.r (B (((decide (0 ≤ p1) && decide (p1 ≤ 2305843009213693952)) && decide (1 ≤ p2)) && decide (p2 ≤ 1152921504606846976))) [], .b true, .r (I x4) []] [C_T_ratio_within k p1 p2 x1, (((decide (0 ≤ p1) && decide (p1 ≤ 2305843009213693952)) && decide (1 ≤ p2)) && decide (p2 ≤ 1152921504606846976)) = true, C_T_ratio_divisor k p1 p2 x4] (by kernel_rfl) (AC (T_ratio_within_ok k p1 p2 x1 hx1) (AC hx3 (A1 (T_ratio_divisor_ok k p1 p2 x4 hx4)))) ?_
      cases H
      exact K_end (by kernel_rfl)
    · refine K_r [.r (B (((decide (0 ≤ p1) && decide (p1 ≤ 2305843009213693952)) && decide (1 ≤ p2)) && decide (p2 ≤ 1152921504606846976))) [], .b false] [C_T_ratio_within k p1 p2 x1, (((decide (0 ≤ p1) && decide (p1 ≤ 2305843009213693952)) && decide (1 ≤ p2)) && decide (p2 ≤ 1152921504606846976)) = false] (by kernel_rfl) (AC (T_ratio_within_ok k p1 p2 x1 hx1) (A1 (Bool.eq_false_iff.2 hx3))) ?_
      cases H
      exact K_end (by kernel_rfl)
  refine K_g (by kernel_rfl) ?_
  cases H
  refine K_ret ?_
  kernel_rfl
def T_math_bits_Mul64 (k : Nat) (p1 : Int) (p2 : Int) : Option Unit := match k with
 | 0 => none
 | k + 1 => some ()
abbrev C_T_math_bits_Mul64 (k : Nat) (p1 : Int) (p2 : Int) (r : Unit) : Prop := evF X k n_math_bits_Mul64 [(.one (.d (.int .u64 p1))), (.one (.d (.int .u64 p2)))] [] = some ((.tup [(false, [.d (.int .u64 (IntKind.wrap .u64 ((IntKind.wrap .u64 ((IntKind.wrap .u64 ((p1.fdiv (2 ^ 32)) * (p2.fdiv (2 ^ 32)))) + ((IntKind.wrap .u64 ((IntKind.wrap .u64 ((p1.fdiv (2 ^ 32)) * (bAnd .u64 p2 4294967295))) + ((IntKind.wrap .u64 ((bAnd .u64 p1 4294967295) * (bAnd .u64 p2 4294967295))).fdiv (2 ^ 32)))).fdiv (2 ^ 32)))) + ((IntKind.wrap .u64 ((bAnd .u64 (IntKind.wrap .u64 ((IntKind.wrap .u64 ((p1.fdiv (2 ^ 32)) * (bAnd .u64 p2 4294967295))) + ((IntKind.wrap .u64 ((bAnd .u64 p1 4294967295) * (bAnd .u64 p2 4294967295))).fdiv (2 ^ 32)))) 4294967295) + (IntKind.wrap .u64 ((bAnd .u64 p1 4294967295) * (p2.fdiv (2 ^ 32)))))).fdiv (2 ^ 32)))))]), (false, [.d (.int .u64 (IntKind.wrap .u64 (p1 * p2)))])]), [])
theorem T_math_bits_Mul64_ok (k : Nat) (p1 : Int) (p2 : Int) (r : Unit) : T_math_bits_Mul64 k p1 p2 = some r → C_T_math_bits_Mul64 k p1 p2 r := by
 intro H
 cases k with
 | zero => simp [T_math_bits_Mul64] at H
 | succ k =>
  simp only [T_math_bits_Mul64] at H
  refine F_in X_math_bits_Mul64 rfl ?_
  refine K_seq (K_r [] [] (by kernel_rfl) trivial ?_)
  refine K_seq (K_r [] [] (by kernel_rfl) trivial ?_)
  refine K_seq (K_r [] [(0 : Int) ≤ 32] (by kernel_rfl) (A1 (by decide)) ?_)
  refine K_seq (K_r [] [] (by kernel_rfl) trivial ?_)
  refine K_seq (K_r [] [(0 : Int) ≤ 32] (by kernel_rfl) (A1 (by decide)) ?_)
  refine K_seq (K_r [] [] (by kernel_rfl) trivial ?_)
  refine K_seq (K_r [] [(0 : Int) ≤ 32] (by kernel_rfl) (A1 (by decide)) ?_)
  refine K_seq (K_r [] [] (by kernel_rfl) trivial ?_)
  refine K_seq (K_r [] [(0 : Int) ≤ 32] (by kernel_rfl) (A1 (by decide)) ?_)
  refine K_seq (K_r [] [] (by kernel_rfl) trivial ?_)
  refine K_seq (K_r [] [(0 : Int) ≤ 32] (by kernel_rfl) (A1 (by decide)) ?_)
  refine K_seq (K_r [] [] (by kernel_rfl) trivial ?_)
  refine K_g (by kernel_rfl) ?_
  cases H
  refine K_ret ?_
  kernel_rfl

def T_math_bits_Div64 (k : Nat) (p1 : Int) (p2 : Int) (p3 : Int) : Option Unit := match k with
 | 0 => none
 | k + 1 => (if p3 = 0 then none else (if p3 ≤ p1 then none else (if p1 = 0 then (if p3 ≠ 0 then some () else none) else none)))
abbrev C_T_math_bits_Div64 (k : Nat) (p1 : Int) (p2 : Int) (p3 : Int) (r : Unit) : Prop := evF X k n_math_bits_Div64 [(.one (.d (.int .u64 p1))), (.one (.d (.int .u64 p2))), (.one (.d (.int .u64 p3)))] [] = some ((.tup [(false, [.d (.int .u64 (IntKind.wrap .u64 (p2.tdiv p3)))]), (false, [.d (.int .u64 (p2.tmod p3))])]), [])
theorem T_math_bits_Div64_ok (k : Nat) (p1 : Int) (p2 : Int) (p3 : Int) (r : Unit) : T_math_bits_Div64 k p1 p2 p3 = some r → C_T_math_bits_Div64 k p1 p2 p3 r := by
 intro H
 cases k with
 | zero => simp [T_math_bits_Div64] at H
 | succ k =>
  simp only [T_math_bits_Div64] at H
  refine F_in X_math_bits_Div64 rfl ?_
  refine K_seq (K_r [] [] (by kernel_rfl) trivial ?_)
  refine K_seq (K_seq (K_r [] [] (by kernel_rfl) trivial ?_))
  rcases ite_some H with ⟨hx1, H⟩ | ⟨hx1, H⟩
  · refine K_t (by kernel_rfl) (decide_eq_true hx1) ?_
    cases H
  · refine K_f (by kernel_rfl) (decide_eq_false hx1) ?_
    refine K_g (by kernel_rfl) ?_
    refine K_skip (K_seq (K_seq (K_r [] [] (by kernel_rfl) trivial ?_)))
    rcases ite_some H with ⟨hx2, H⟩ | ⟨hx2, H⟩
    · refine K_t (by kernel_rfl) (decide_eq_true hx2) ?_
      cases H
    · refine K_f (by kernel_rfl) (decide_eq_false hx2) ?_
      refine K_g (by kernel_rfl) ?_
      refine K_skip (K_seq (K_seq (K_r [] [] (by kernel_rfl) trivial ?_)))
      rcases ite_some H with ⟨hx3, H⟩ | ⟨hx3, H⟩
      · refine K_t (by kernel_rfl) (decide_eq_true hx3) ?_
        refine K_seq ?_
        obtain ⟨hx4, H⟩ := guard_some H
        refine K_r [] [p3 ≠ (0 : Int), p3 ≠ (0 : Int)] (by kernel_rfl) (AC hx4 (A1 hx4)) ?_
        refine K_g (by kernel_rfl) ?_
        cases H
        refine K_ret ?_
        kernel_rfl
      · refine K_f (by kernel_rfl) (decide_eq_false hx3) ?_
        refine K_g (by kernel_rfl) ?_
        refine K_skip ?_
        refine K_seq ?_
        cases H
def T_ratio_Add (k : Nat) (p1 : Int) (p2 : Int) (p3 : Int) (p4 : Int) : Option (Int × Int × Int) := match k with
 | 0 => none
 | k + 1 => ((((T_ratio_Valid k p1 p2).bind fun x1 => (if (!x1) = true then some true else ((T_ratio_Valid k p3 p4).bind fun x4 => some (!x4))))).bind fun x5 => (if x5 = true then some (0, 0, 1) else (T_ratio_divisor k p2 p4).bind fun x7 => (if x7 ≠ 0 then (T_math_bits_Mul64 k (IntKind.wrap .u64 (p1)) (IntKind.wrap .u64 ((w64 (p4.tdiv x7))))).bind fun x9 => (if x7 ≠ 0 then (T_math_bits_Mul64 k (IntKind.wrap .u64 (p3)) (IntKind.wrap .u64 ((w64 (p2.tdiv x7))))).bind fun x11 => (addT k (IntKind.wrap .u64 ((IntKind.wrap .u64 (p1)) * (IntKind.wrap .u64 ((w64 (p4.tdiv x7)))))) (IntKind.wrap .u64 ((IntKind.wrap .u64 (p3)) * (IntKind.wrap .u64 ((w64 (p2.tdiv x7)))))) 0).bind fun x12 => (addT k (IntKind.wrap .u64 ((IntKind.wrap .u64 ((IntKind.wrap .u64 (((IntKind.wrap .u64 (p1)).fdiv (2 ^ 32)) * ((IntKind.wrap .u64 ((w64 (p4.tdiv x7)))).fdiv (2 ^ 32)))) + ((IntKind.wrap .u64 ((IntKind.wrap .u64 (((IntKind.wrap .u64 (p1)).fdiv (2 ^ 32)) * (bAnd .u64 (IntKind.wrap .u64 ((w64 (p4.tdiv x7)))) 4294967295))) + ((IntKind.wrap .u64 ((bAnd .u64 (IntKind.wrap .u64 (p1)) 4294967295) * (bAnd .u64 (IntKind.wrap .u64 ((w64 (p4.tdiv x7)))) 4294967295))).fdiv (2 ^ 32)))).fdiv (2 ^ 32)))) + ((IntKind.wrap .u64 ((bAnd .u64 (IntKind.wrap .u64 ((IntKind.wrap .u64 (((IntKind.wrap .u64 (p1)).fdiv (2 ^ 32)) * (bAnd .u64 (IntKind.wrap .u64 ((w64 (p4.tdiv x7)))) 4294967295))) + ((IntKind.wrap .u64 ((bAnd .u64 (IntKind.wrap .u64 (p1)) 4294967295) * (bAnd .u64 (IntKind.wrap .u64 ((w64 (p4.tdiv x7)))) 4294967295))).fdiv (2 ^ 32)))) 4294967295) + (IntKind.wrap .u64 ((bAnd .u64 (IntKind.wrap .u64 (p1)) 4294967295) * ((IntKind.wrap .u64 ((w64 (p4.tdiv x7)))).fdiv (2 ^ 32)))))).fdiv (2 ^ 32)))) (IntKind.wrap .u64 ((IntKind.wrap .u64 ((IntKind.wrap .u64 (((IntKind.wrap .u64 (p3)).fdiv (2 ^ 32)) * ((IntKind.wrap .u64 ((w64 (p2.tdiv x7)))).fdiv (2 ^ 32)))) + ((IntKind.wrap .u64 ((IntKind.wrap .u64 (((IntKind.wrap .u64 (p3)).fdiv (2 ^ 32)) * (bAnd .u64 (IntKind.wrap .u64 ((w64 (p2.tdiv x7)))) 4294967295))) + ((IntKind.wrap .u64 ((bAnd .u64 (IntKind.wrap .u64 (p3)) 4294967295) * (bAnd .u64 (IntKind.wrap .u64 ((w64 (p2.tdiv x7)))) 4294967295))).fdiv (2 ^ 32)))).fdiv (2 ^ 32)))) + ((IntKind.wrap .u64 ((bAnd .u64 (IntKind.wrap .u64 ((IntKind.wrap .u64 (((IntKind.wrap .u64 (p3)).fdiv (2 ^ 32)) * (bAnd .u64 (IntKind.wrap .u64 ((w64 (p2.tdiv x7)))) 4294967295))) + ((IntKind.wrap .u64 ((bAnd .u64 (IntKind.wrap .u64 (p3)) 4294967295) * (bAnd .u64 (IntKind.wrap .u64 ((w64 (p2.tdiv x7)))) 4294967295))).fdiv (2 ^ 32)))) 4294967295) + (IntKind.wrap .u64 ((bAnd .u64 (IntKind.wrap .u64 (p3)) 4294967295) * ((IntKind.wrap .u64 ((w64 (p2.tdiv x7)))).fdiv (2 ^ 32)))))).fdiv (2 ^ 32)))) x12.2).bind fun x13 => (if (IntKind.wrap .u64 (x7)) ≠ 0 then (T_math_bits_Div64 k (x13.1.tmod (IntKind.wrap .u64 (x7))) x12.1 (IntKind.wrap .u64 (x7))).bind fun x15 => (T_ratio_divisor k (w64 ((x12.1.tmod (IntKind.wrap .u64 (x7))))) x7).bind fun x16 => (if (IntKind.wrap .u64 (x16)) ≤ x13.1 then some (0, 0, 4) else (T_math_bits_Div64 k x13.1 x12.1 (IntKind.wrap .u64 (x16))).bind fun x18 => (if x7 ≠ 0 then (if (IntKind.wrap .u64 (x16)) ≠ 0 then (T_math_bits_Mul64 k (IntKind.wrap .u64 ((w64 (p2.tdiv x7)))) (IntKind.wrap .u64 ((IntKind.wrap .u64 (p4)).tdiv (IntKind.wrap .u64 (x16))))).bind fun x21 => (if ((decide (2305843009213693952 < (IntKind.wrap .u64 (x12.1.tdiv (IntKind.wrap .u64 (x16))))) || decide (0 < (IntKind.wrap .u64 ((IntKind.wrap .u64 ((IntKind.wrap .u64 (((IntKind.wrap .u64 ((w64 (p2.tdiv x7)))).fdiv (2 ^ 32)) * ((IntKind.wrap .u64 ((IntKind.wrap .u64 (p4)).tdiv (IntKind.wrap .u64 (x16)))).fdiv (2 ^ 32)))) + ((IntKind.wrap .u64 ((IntKind.wrap .u64 (((IntKind.wrap .u64 ((w64 (p2.tdiv x7)))).fdiv (2 ^ 32)) * (bAnd .u64 (IntKind.wrap .u64 ((IntKind.wrap .u64 (p4)).tdiv (IntKind.wrap .u64 (x16)))) 4294967295))) + ((IntKind.wrap .u64 ((bAnd .u64 (IntKind.wrap .u64 ((w64 (p2.tdiv x7)))) 4294967295) * (bAnd .u64 (IntKind.wrap .u64 ((IntKind.wrap .u64 (p4)).tdiv (IntKind.wrap .u64 (x16)))) 4294967295))).fdiv (2 ^ 32)))).fdiv (2 ^ 32)))) + ((IntKind.wrap .u64 ((bAnd .u64 (IntKind.wrap .u64 ((IntKind.wrap .u64 (((IntKind.wrap .u64 ((w64 (p2.tdiv x7)))).fdiv (2 ^ 32)) * (bAnd .u64 (IntKind.wrap .u64 ((IntKind.wrap .u64 (p4)).tdiv (IntKind.wrap .u64 (x16)))) 4294967295))) + ((IntKind.wrap .u64 ((bAnd .u64 (IntKind.wrap .u64 ((w64 (p2.tdiv x7)))) 4294967295) * (bAnd .u64 (IntKind.wrap .u64 ((IntKind.wrap .u64 (p4)).tdiv (IntKind.wrap .u64 (x16)))) 4294967295))).fdiv (2 ^ 32)))) 4294967295) + (IntKind.wrap .u64 ((bAnd .u64 (IntKind.wrap .u64 ((w64 (p2.tdiv x7)))) 4294967295) * ((IntKind.wrap .u64 ((IntKind.wrap .u64 (p4)).tdiv (IntKind.wrap .u64 (x16)))).fdiv (2 ^ 32)))))).fdiv (2 ^ 32)))))) || decide (1152921504606846976 < (IntKind.wrap .u64 ((IntKind.wrap .u64 ((w64 (p2.tdiv x7)))) * (IntKind.wrap .u64 ((IntKind.wrap .u64 (p4)).tdiv (IntKind.wrap .u64 (x16)))))))) = true then some (0, 0, 4) else some ((w64 ((IntKind.wrap .u64 (x12.1.tdiv (IntKind.wrap .u64 (x16)))))), (w64 ((IntKind.wrap .u64 ((IntKind.wrap .u64 ((w64 (p2.tdiv x7)))) * (IntKind.wrap .u64 ((IntKind.wrap .u64 (p4)).tdiv (IntKind.wrap .u64 (x16)))))))), 0)) else none) else none)) else none) else none) else none)))
abbrev C_T_ratio_Add (k : Nat) (p1 : Int) (p2 : Int) (p3 : Int) (p4 : Int) (r : Int × Int × Int) : Prop := evF X k n_ratio_Add [(.agg [cI p1, cI p2]), (.agg [cI p3, cI p4])] [] = some ((.tup [(true, [cI r.1, cI r.2.1]), (false, [cI r.2.2])]), [])
theorem T_ratio_Add_ok (k : Nat) (p1 : Int) (p2 : Int) (p3 : Int) (p4 : Int) (r : Int × Int × Int) : T_ratio_Add k p1 p2 p3 p4 = some r → C_T_ratio_Add k p1 p2 p3 p4 r := by
 intro H
 cases k with
 | zero => simp [T_ratio_Add] at H
 | succ k =>
  simp only [T_ratio_Add] at H
  refine F_in X_ratio_Add rfl ?_
  refine K_seq (K_r [] [] (by kernel_rfl) trivial ?_)
  refine K_seq ?_
  refine K_seq ?_
  obtain ⟨x5, hx5, H⟩ := bind_some' H
  refine K_of ⟨[(2, (Pt 0)), (3, (Pt 1)), (4, (Pt 2)), (26, (B x5))], [.cells [cI p1, cI p2], .cells [cI p3, cI p4], .cells [cI 0, cI 0]]⟩ ?_ ?_
  · clear H; have H := hx5; clear hx5; refine K_in ?_
    obtain ⟨x1, hx1, H⟩ := bind_some' H
    rcases ite_some H with ⟨hx3, H⟩ | ⟨hx3, H⟩
    · refine K_r [.r (B x1) [], .b true] [C_T_ratio_Valid k p1 p2 x1, (!x1) = true] (by kernel_rfl) (AC (T_ratio_Valid_ok k p1 p2 x1 hx1) (A1 hx3)) ?_
      cases H
      exact K_end (by kernel_rfl)
    · obtain ⟨x4, hx4, H⟩ := bind_some' H
      refine K_r [.r (B x1) [], .b false, .r (B x4) []] [C_T_ratio_Valid k p1 p2 x1, (!x1) = false, C_T_ratio_Valid k p3 p4 x4] (by kernel_rfl) (AC (T_ratio_Valid_ok k p1 p2 x1 hx1) (AC (Bool.eq_false_iff.2 hx3) (A1 (T_ratio_Valid_ok k p3 p4 x4 hx4)))) ?_
      cases H
      exact K_end (by kernel_rfl)
  rcases ite_some H with ⟨hx6, H⟩ | ⟨hx6, H⟩
  · refine K_t (by kernel_rfl) hx6 ?_
    refine K_seq (K_r [] [] (by kernel_rfl) trivial ?_)
    refine K_g (by kernel_rfl) ?_
    cases H
    refine K_ret ?_
    kernel_rfl
  · refine K_f (by kernel_rfl) (Bool.eq_false_iff.2 hx6) ?_
    refine K_g (by kernel_rfl) ?_
    refine K_skip ?_
    refine K_seq ?_
    obtain ⟨x7, hx7, H⟩ := bind_some' H
    refine K_r [.r (I x7) []] [C_T_ratio_divisor k p2 p4 x7] (by kernel_rfl) (A1 (T_ratio_divisor_ok k p2 p4 x7 hx7)) ?_
    refine K_seq ?_
    obtain ⟨hx8, H⟩ := guard_some H
    obtain ⟨x9, hx9, H⟩ := bind_some' H
    refine K_r [.r (.tup [(false, [.d (.int .u64 (IntKind.wrap .u64 ((IntKind.wrap .u64 ((IntKind.wrap .u64 (((IntKind.wrap .u64 (p1)).fdiv (2 ^ 32)) * ((IntKind.wrap .u64 ((w64 (p4.tdiv x7)))).fdiv (2 ^ 32)))) + ((IntKind.wrap .u64 ((IntKind.wrap .u64 (((IntKind.wrap .u64 (p1)).fdiv (2 ^ 32)) * (bAnd .u64 (IntKind.wrap .u64 ((w64 (p4.tdiv x7)))) 4294967295))) + ((IntKind.wrap .u64 ((bAnd .u64 (IntKind.wrap .u64 (p1)) 4294967295) * (bAnd .u64 (IntKind.wrap .u64 ((w64 (p4.tdiv x7)))) 4294967295))).fdiv (2 ^ 32)))).fdiv (2 ^ 32)))) + ((IntKind.wrap .u64 ((bAnd .u64 (IntKind.wrap .u64 ((IntKind.wrap .u64 (((IntKind.wrap .u64 (p1)).fdiv (2 ^ 32)) * (bAnd .u64 (IntKind.wrap .u64 ((w64 (p4.tdiv x7)))) 4294967295))) + ((IntKind.wrap .u64 ((bAnd .u64 (IntKind.wrap .u64 (p1)) 4294967295) * (bAnd .u64 (IntKind.wrap .u64 ((w64 (p4.tdiv x7)))) 4294967295))).fdiv (2 ^ 32)))) 4294967295) + (IntKind.wrap .u64 ((bAnd .u64 (IntKind.wrap .u64 (p1)) 4294967295) * ((IntKind.wrap .u64 ((w64 (p4.tdiv x7)))).fdiv (2 ^ 32)))))).fdiv (2 ^ 32)))))]), (false, [.d (.int .u64 (IntKind.wrap .u64 ((IntKind.wrap .u64 (p1)) * (IntKind.wrap .u64 ((w64 (p4.tdiv x7)))))))])]) []] [x7 ≠ (0 : Int), C_T_math_bits_Mul64 k (IntKind.wrap .u64 (p1)) (IntKind.wrap .u64 ((w64 (p4.tdiv x7)))) x9] (by kernel_rfl) (AC hx8 (A1 (T_math_bits_Mul64_ok k (IntKind.wrap .u64 (p1)) (IntKind.wrap .u64 ((w64 (p4.tdiv x7)))) x9 hx9))) ?_
    refine K_seq ?_
    obtain ⟨hx10, H⟩ := guard_some H
    obtain ⟨x11, hx11, H⟩ := bind_some' H
    refine K_r [.r (.tup [(false, [.d (.int .u64 (IntKind.wrap .u64 ((IntKind.wrap .u64 ((IntKind.wrap .u64 (((IntKind.wrap .u64 (p3)).fdiv (2 ^ 32)) * ((IntKind.wrap .u64 ((w64 (p2.tdiv x7)))).fdiv (2 ^ 32)))) + ((IntKind.wrap .u64 ((IntKind.wrap .u64 (((IntKind.wrap .u64 (p3)).fdiv (2 ^ 32)) * (bAnd .u64 (IntKind.wrap .u64 ((w64 (p2.tdiv x7)))) 4294967295))) + ((IntKind.wrap .u64 ((bAnd .u64 (IntKind.wrap .u64 (p3)) 4294967295) * (bAnd .u64 (IntKind.wrap .u64 ((w64 (p2.tdiv x7)))) 4294967295))).fdiv (2 ^ 32)))).fdiv (2 ^ 32)))) + ((IntKind.wrap .u64 ((bAnd .u64 (IntKind.wrap .u64 ((IntKind.wrap .u64 (((IntKind.wrap .u64 (p3)).fdiv (2 ^ 32)) * (bAnd .u64 (IntKind.wrap .u64 ((w64 (p2.tdiv x7)))) 4294967295))) + ((IntKind.wrap .u64 ((bAnd .u64 (IntKind.wrap .u64 (p3)) 4294967295) * (bAnd .u64 (IntKind.wrap .u64 ((w64 (p2.tdiv x7)))) 4294967295))).fdiv (2 ^ 32)))) 4294967295) + (IntKind.wrap .u64 ((bAnd .u64 (IntKind.wrap .u64 (p3)) 4294967295) * ((IntKind.wrap .u64 ((w64 (p2.tdiv x7)))).fdiv (2 ^ 32)))))).fdiv (2 ^ 32)))))]), (false, [.d (.int .u64 (IntKind.wrap .u64 ((IntKind.wrap .u64 (p3)) * (IntKind.wrap .u64 ((w64 (p2.tdiv x7)))))))])]) []] [x7 ≠ (0 : Int), C_T_math_bits_Mul64 k (IntKind.wrap .u64 (p3)) (IntKind.wrap .u64 ((w64 (p2.tdiv x7)))) x11] (by kernel_rfl) (AC hx10 (A1 (T_math_bits_Mul64_ok k (IntKind.wrap .u64 (p3)) (IntKind.wrap .u64 ((w64 (p2.tdiv x7)))) x11 hx11))) ?_
    refine K_seq ?_
    obtain ⟨x12, hx12, H⟩ := bind_some' H
    refine K_r [.r (.tup [(false, [.d (.int .u64 x12.1)]), (false, [.d (.int .u64 x12.2)])]) []] [evF X k n_math_bits_Add64 [(.one (.d (.int .u64 (IntKind.wrap .u64 ((IntKind.wrap .u64 (p1)) * (IntKind.wrap .u64 ((w64 (p4.tdiv x7))))))))), (.one (.d (.int .u64 (IntKind.wrap .u64 ((IntKind.wrap .u64 (p3)) * (IntKind.wrap .u64 ((w64 (p2.tdiv x7))))))))), (.one (.d (.int .u64 0)))] [] = some ((.tup [(false, [.d (.int .u64 x12.1)]), (false, [.d (.int .u64 x12.2)])]), [])] (by kernel_rfl) (A1 ((addT_ok X_math_bits_Add64) k (IntKind.wrap .u64 ((IntKind.wrap .u64 (p1)) * (IntKind.wrap .u64 ((w64 (p4.tdiv x7)))))) (IntKind.wrap .u64 ((IntKind.wrap .u64 (p3)) * (IntKind.wrap .u64 ((w64 (p2.tdiv x7)))))) 0 x12 hx12)) ?_
    refine K_seq ?_
    obtain ⟨x13, hx13, H⟩ := bind_some' H
    refine K_r [.r (.tup [(false, [.d (.int .u64 x13.1)]), (false, [.d (.int .u64 x13.2)])]) []] [evF X k n_math_bits_Add64 [(.one (.d (.int .u64 (IntKind.wrap .u64 ((IntKind.wrap .u64 ((IntKind.wrap .u64 (((IntKind.wrap .u64 (p1)).fdiv (2 ^ 32)) * ((IntKind.wrap .u64 ((w64 (p4.tdiv x7)))).fdiv (2 ^ 32)))) + ((IntKind.wrap .u64 ((IntKind.wrap .u64 (((IntKind.wrap .u64 (p1)).fdiv (2 ^ 32)) * (bAnd .u64 (IntKind.wrap .u64 ((w64 (p4.tdiv x7)))) 4294967295))) + ((IntKind.wrap .u64 ((bAnd .u64 (IntKind.wrap .u64 (p1)) 4294967295) * (bAnd .u64 (IntKind.wrap .u64 ((w64 (p4.tdiv x7)))) 4294967295))).fdiv (2 ^ 32)))).fdiv (2 ^ 32)))) + ((IntKind.wrap .u64 ((bAnd .u64 (IntKind.wrap .u64 ((IntKind.wrap .u64 (((IntKind.wrap .u64 (p1)).fdiv (2 ^ 32)) * (bAnd .u64 (IntKind.wrap .u64 ((w64 (p4.tdiv x7)))) 4294967295))) + ((IntKind.wrap .u64 ((bAnd .u64 (IntKind.wrap .u64 (p1)) 4294967295) * (bAnd .u64 (IntKind.wrap .u64 ((w64 (p4.tdiv x7)))) 4294967295))).fdiv (2 ^ 32)))) 4294967295) + (IntKind.wrap .u64 ((bAnd .u64 (IntKind.wrap .u64 (p1)) 4294967295) * ((IntKind.wrap .u64 ((w64 (p4.tdiv x7)))).fdiv (2 ^ 32)))))).fdiv (2 ^ 32))))))), (.one (.d (.int .u64 (IntKind.wrap .u64 ((IntKind.wrap .u64 ((IntKind.wrap .u64 (((IntKind.wrap .u64 (p3)).fdiv (2 ^ 32)) * ((IntKind.wrap .u64 ((w64 (p2.tdiv x7)))).fdiv (2 ^ 32)))) + ((IntKind.wrap .u64 ((IntKind.wrap .u64 (((IntKind.wrap .u64 (p3)).fdiv (2 ^ 32)) * (bAnd .u64 (IntKind.wrap .u64 ((w64 (p2.tdiv x7)))) 4294967295))) + ((IntKind.wrap .u64 ((bAnd .u64 (IntKind.wrap .u64 (p3)) 4294967295) * (bAnd .u64 (IntKind.wrap .u64 ((w64 (p2.tdiv x7)))) 4294967295))).fdiv (2 ^ 32)))).fdiv (2 ^ 32)))) + ((IntKind.wrap .u64 ((bAnd .u64 (IntKind.wrap .u64 ((IntKind.wrap .u64 (((IntKind.wrap .u64 (p3)).fdiv (2 ^ 32)) * (bAnd .u64 (IntKind.wrap .u64 ((w64 (p2.tdiv x7)))) 4294967295))) + ((IntKind.wrap .u64 ((bAnd .u64 (IntKind.wrap .u64 (p3)) 4294967295) * (bAnd .u64 (IntKind.wrap .u64 ((w64 (p2.tdiv x7)))) 4294967295))).fdiv (2 ^ 32)))) 4294967295) + (IntKind.wrap .u64 ((bAnd .u64 (IntKind.wrap .u64 (p3)) 4294967295) * ((IntKind.wrap .u64 ((w64 (p2.tdiv x7)))).fdiv (2 ^ 32)))))).fdiv (2 ^ 32))))))), (.one (.d (.int .u64 x12.2)))] [] = some ((.tup [(false, [.d (.int .u64 x13.1)]), (false, [.d (.int .u64 x13.2)])]), [])] (by kernel_rfl) (A1 ((addT_ok X_math_bits_Add64) k (IntKind.wrap .u64 ((IntKind.wrap .u64 ((IntKind.wrap .u64 (((IntKind.wrap .u64 (p1)).fdiv (2 ^ 32)) * ((IntKind.wrap .u64 ((w64 (p4.tdiv x7)))).fdiv (2 ^ 32)))) + ((IntKind.wrap .u64 ((IntKind.wrap .u64 (((IntKind.wrap .u64 (p1)).fdiv (2 ^ 32)) * (bAnd .u64 (IntKind.wrap .u64 ((w64 (p4.tdiv x7)))) 4294967295))) + ((IntKind.wrap .u64 ((bAnd .u64 (IntKind.wrap .u64 (p1)) 4294967295) * (bAnd .u64 (IntKind.wrap .u64 ((w64 (p4.tdiv x7)))) 4294967295))).fdiv (2 ^ 32)))).fdiv (2 ^ 32)))) + ((IntKind.wrap .u64 ((bAnd .u64 (IntKind.wrap .u64 ((IntKind.wrap .u64 (((IntKind.wrap .u64 (p1)).fdiv (2 ^ 32)) * (bAnd .u64 (IntKind.wrap .u64 ((w64 (p4.tdiv x7)))) 4294967295))) + ((IntKind.wrap .u64 ((bAnd .u64 (IntKind.wrap .u64 (p1)) 4294967295) * (bAnd .u64 (IntKind.wrap .u64 ((w64 (p4.tdiv x7)))) 4294967295))).fdiv (2 ^ 32)))) 4294967295) + (IntKind.wrap .u64 ((bAnd .u64 (IntKind.wrap .u64 (p1)) 4294967295) * ((IntKind.wrap .u64 ((w64 (p4.tdiv x7)))).fdiv (2 ^ 32)))))).fdiv (2 ^ 32)))) (IntKind.wrap .u64 ((IntKind.wrap .u64 ((IntKind.wrap .u64 (((IntKind.wrap .u64 (p3)).fdiv (2 ^ 32)) * ((IntKind.wrap .u64 ((w64 (p2.tdiv x7)))).fdiv (2 ^ 32)))) + ((IntKind.wrap .u64 ((IntKind.wrap .u64 (((IntKind.wrap .u64 (p3)).fdiv (2 ^ 32)) * (bAnd .u64 (IntKind.wrap .u64 ((w64 (p2.tdiv x7)))) 4294967295))) + ((IntKind.wrap .u64 ((bAnd .u64 (IntKind.wrap .u64 (p3)) 4294967295) * (bAnd .u64 (IntKind.wrap .u64 ((w64 (p2.tdiv x7)))) 4294967295))).fdiv (2 ^ 32)))).fdiv (2 ^ 32)))) + ((IntKind.wrap .u64 ((bAnd .u64 (IntKind.wrap .u64 ((IntKind.wrap .u64 (((IntKind.wrap .u64 (p3)).fdiv (2 ^ 32)) * (bAnd .u64 (IntKind.wrap .u64 ((w64 (p2.tdiv x7)))) 4294967295))) + ((IntKind.wrap .u64 ((bAnd .u64 (IntKind.wrap .u64 (p3)) 4294967295) * (bAnd .u64 (IntKind.wrap .u64 ((w64 (p2.tdiv x7)))) 4294967295))).fdiv (2 ^ 32)))) 4294967295) + (IntKind.wrap .u64 ((bAnd .u64 (IntKind.wrap .u64 (p3)) 4294967295) * ((IntKind.wrap .u64 ((w64 (p2.tdiv x7)))).fdiv (2 ^ 32)))))).fdiv (2 ^ 32)))) x12.2 x13 hx13)) ?_
    refine K_seq ?_
    obtain ⟨hx14, H⟩ := guard_some H
    obtain ⟨x15, hx15, H⟩ := bind_some' H
    refine K_r [.r (.tup [(false, [.d (.int .u64 (IntKind.wrap .u64 (x12.1.tdiv (IntKind.wrap .u64 (x7)))))]), (false, [.d (.int .u64 (x12.1.tmod (IntKind.wrap .u64 (x7))))])]) []] [(IntKind.wrap .u64 (x7)) ≠ (0 : Int), C_T_math_bits_Div64 k (x13.1.tmod (IntKind.wrap .u64 (x7))) x12.1 (IntKind.wrap .u64 (x7)) x15] (by kernel_rfl) (AC hx14 (A1 (T_math_bits_Div64_ok k (x13.1.tmod (IntKind.wrap .u64 (x7))) x12.1 (IntKind.wrap .u64 (x7)) x15 hx15))) ?_
    refine K_seq ?_
    obtain ⟨x16, hx16, H⟩ := bind_some' H
    refine K_r [.r (I x16) []] [C_T_ratio_divisor k (w64 ((x12.1.tmod (IntKind.wrap .u64 (x7))))) x7 x16] (by kernel_rfl) (A1 (T_ratio_divisor_ok k (w64 ((x12.1.tmod (IntKind.wrap .u64 (x7))))) x7 x16 hx16)) ?_
    refine K_seq (K_seq (K_r [] [] (by kernel_rfl) trivial ?_))
    rcases ite_some H with ⟨hx17, H⟩ | ⟨hx17, H⟩
    · refine K_t (by kernel_rfl) (decide_eq_true hx17) ?_
      refine K_seq (K_r [] [] (by kernel_rfl) trivial ?_)
      refine K_g (by kernel_rfl) ?_
      cases H
      refine K_ret ?_
      kernel_rfl
    · refine K_f (by kernel_rfl) (decide_eq_false hx17) ?_
      refine K_g (by kernel_rfl) ?_
      refine K_skip ?_
      refine K_seq ?_
      obtain ⟨x18, hx18, H⟩ := bind_some' H
      refine K_r [.r (.tup [(false, [.d (.int .u64 (IntKind.wrap .u64 (x12.1.tdiv (IntKind.wrap .u64 (x16)))))]), (false, [.d (.int .u64 (x12.1.tmod (IntKind.wrap .u64 (x16))))])]) []] [C_T_math_bits_Div64 k x13.1 x12.1 (IntKind.wrap .u64 (x16)) x18] (by kernel_rfl) (A1 (T_math_bits_Div64_ok k x13.1 x12.1 (IntKind.wrap .u64 (x16)) x18 hx18)) ?_
      refine K_seq ?_
      obtain ⟨hx19, H⟩ := guard_some H
      obtain ⟨hx20, H⟩ := guard_some H
      obtain ⟨x21, hx21, H⟩ := bind_some' H
      refine K_r [.r (.tup [(false, [.d (.int .u64 (IntKind.wrap .u64 ((IntKind.wrap .u64 ((IntKind.wrap .u64 (((IntKind.wrap .u64 ((w64 (p2.tdiv x7)))).fdiv (2 ^ 32)) * ((IntKind.wrap .u64 ((IntKind.wrap .u64 (p4)).tdiv (IntKind.wrap .u64 (x16)))).fdiv (2 ^ 32)))) + ((IntKind.wrap .u64 ((IntKind.wrap .u64 (((IntKind.wrap .u64 ((w64 (p2.tdiv x7)))).fdiv (2 ^ 32)) * (bAnd .u64 (IntKind.wrap .u64 ((IntKind.wrap .u64 (p4)).tdiv (IntKind.wrap .u64 (x16)))) 4294967295))) + ((IntKind.wrap .u64 ((bAnd .u64 (IntKind.wrap .u64 ((w64 (p2.tdiv x7)))) 4294967295) * (bAnd .u64 (IntKind.wrap .u64 ((IntKind.wrap .u64 (p4)).tdiv (IntKind.wrap .u64 (x16)))) 4294967295))).fdiv (2 ^ 32)))).fdiv (2 ^ 32)))) + ((IntKind.wrap .u64 ((bAnd .u64 (IntKind.wrap .u64 ((IntKind.wrap .u64 (((IntKind.wrap .u64 ((w64 (p2.tdiv x7)))).fdiv (2 ^ 32)) * (bAnd .u64 (IntKind.wrap .u64 ((IntKind.wrap .u64 (p4)).tdiv (IntKind.wrap .u64 (x16)))) 4294967295))) + ((IntKind.wrap .u64 ((bAnd .u64 (IntKind.wrap .u64 ((w64 (p2.tdiv x7)))) 4294967295) * (bAnd .u64 (IntKind.wrap .u64 ((IntKind.wrap .u64 (p4)).tdiv (IntKind.wrap .u64 (x16)))) 4294967295))).fdiv (2 ^ 32)))) 4294967295) + (IntKind.wrap .u64 ((bAnd .u64 (IntKind.wrap .u64 ((w64 (p2.tdiv x7)))) 4294967295) * ((IntKind.wrap .u64 ((IntKind.wrap .u64 (p4)).tdiv (IntKind.wrap .u64 (x16)))).fdiv (2 ^ 32)))))).fdiv (2 ^ 32)))))]), (false, [.d (.int .u64 (IntKind.wrap .u64 ((IntKind.wrap .u64 ((w64 (p2.tdiv x7)))) * (IntKind.wrap .u64 ((IntKind.wrap .u64 (p4)).tdiv (IntKind.wrap .u64 (x16)))))))])]) []] [x7 ≠ (0 : Int), (IntKind.wrap .u64 (x16)) ≠ (0 : Int), C_T_math_bits_Mul64 k (IntKind.wrap .u64 ((w64 (p2.tdiv x7)))) (IntKind.wrap .u64 ((IntKind.wrap .u64 (p4)).tdiv (IntKind.wrap .u64 (x16)))) x21] (by kernel_rfl) (AC hx19 (AC hx20 (A1 (T_math_bits_Mul64_ok k (IntKind.wrap .u64 ((w64 (p2.tdiv x7)))) (IntKind.wrap .u64 ((IntKind.wrap .u64 (p4)).tdiv (IntKind.wrap .u64 (x16)))) x21 hx21)))) ?_
      refine K_seq (K_seq (K_r [.m, .m] ((fun (z1 : Heap) => [z1 = z1, z1 = z1]) [.cells [cI 0, cI 0]]) (by kernel_rfl) (AC rfl (A1 rfl)) ?_))
      rcases ite_some H with ⟨hx22, H⟩ | ⟨hx22, H⟩
      · refine K_t (by kernel_rfl) hx22 ?_
        refine K_seq (K_r [] [] (by kernel_rfl) trivial ?_)
        refine K_g (by kernel_rfl) ?_
        cases H
        refine K_ret ?_
        kernel_rfl
      · refine K_f (by kernel_rfl) (Bool.eq_false_iff.2 hx22) ?_
        refine K_g (by kernel_rfl) ?_
        refine K_skip (K_seq (K_r [] [] (by kernel_rfl) trivial ?_))
        refine K_g (by kernel_rfl) ?_
        cases H
        refine K_ret ?_
        kernel_rfl
def T_envelope_Pieces_l1 (k : Nat) (x7 : List Int) (x8 : List Int) (x9 : Int) (x13 : List Int) (x14 : List Int) (x53 : Int) (x56 : Int) (x63 : Int) (x68 : Int) (x69 : Int) (x74 : Int × Int × Int) : Option ((Int × Int × Int) ⊕ ((Int × Int))) :=
 ((at? x7 (w64 (x56 + 1))).bind fun x75 => (if x74.2.2 < x75 then ((at? x14 x74.2.2).bind fun x77 => (at? x13 x74.2.2).bind fun x78 => some (.inl ((w64 (x74.1 + x77)), (w64 (x74.2.1 + x78)), (w64 (x74.2.2 + 1))))) else some (.inr (x74.1, x74.2.1))))
theorem T_envelope_Pieces_l1_ok (k : Nat) (x7 : List Int) (x8 : List Int) (x9 : Int) (x13 : List Int) (x14 : List Int) (x53 : Int) (x56 : Int) (x63 : Int) (x68 : Int) (x69 : Int) : ∀ (x74 : Int × Int × Int) (x : (Int × Int × Int) ⊕ ((Int × Int))), T_envelope_Pieces_l1 k x7 x8 x9 x13 x14 x53 x56 x63 x68 x69 x74 = some x → evC X (evF X k) k 0 l_envelope_Pieces_1 ⟨[(8, (Pt 0)), (14, (LI x7)), (16, (Pt 1)), (17, (Pt 2)), (18, (I x56)), (19, (I x53)), (20, (I x74.1)), (21, (I x74.2.1)), (22, (I x74.2.2)), (60, (LI x8)), (61, (I x9)), (62, (I x63))], [.cells [cI 0, cI 0], .cells [cL x13, cL x14], .cells [cI x68, cI x69]]⟩ = some (outS (fun (s : Int × Int × Int) => ⟨[(8, (Pt 0)), (14, (LI x7)), (16, (Pt 1)), (17, (Pt 2)), (18, (I x56)), (19, (I x53)), (20, (I s.1)), (21, (I s.2.1)), (22, (I s.2.2)), (60, (LI x8)), (61, (I x9)), (62, (I x63))], [.cells [cI 0, cI 0], .cells [cL x13, cL x14], .cells [cI x68, cI x69]]⟩) (fun (r : (Int × Int)) => (.exit 2, ⟨[(8, (Pt 0)), (14, (LI x7)), (16, (Pt 1)), (17, (Pt 2)), (18, (I x56)), (19, (I x53)), (20, (I r.1)), (21, (I r.2)), (60, (LI x8)), (61, (I x9)), (62, (I x63))], [.cells [cI 0, cI 0], .cells [cL x13, cL x14], .cells [cI x68, cI x69]]⟩)) x) := by
 intro x74 x H
 unfold T_envelope_Pieces_l1 at H
 refine K_in ?_
 refine K_seq ?_
 refine K_seq ?_
 obtain ⟨x75, hx75, H⟩ := bind_some' H
 refine K_r [.l [.int .i64 x75]] [(0 : Int) ≤ (w64 (x56 + 1)) ∧ (w64 (x56 + 1)) < (((x7.map (D.int .i64))).length : Int), ((x7.map (D.int .i64)).getD (w64 (x56 + 1)).toNat (.int .i64 0)).cells = [.int .i64 x75]] (by kernel_rfl) (AC (at_ok hx75 (D.int .i64) (.int .i64 0)).1 (A1 (at_ok hx75 (D.int .i64) (.int .i64 0)).2)) ?_
 rcases ite_some H with ⟨hx76, H⟩ | ⟨hx76, H⟩
 · refine K_t (by kernel_rfl) (decide_eq_true hx76) ?_
   refine K_g (by kernel_rfl) ?_
   refine K_skip ?_
   refine K_seq ?_
   refine K_block ?_
   obtain ⟨x77, hx77, H⟩ := bind_some' H
   obtain ⟨x78, hx78, H⟩ := bind_some' H
   refine K_r [.l [.int .i64 x77], .l [.int .i64 x78]] [(0 : Int) ≤ x74.2.2 ∧ x74.2.2 < (((x14.map (D.int .i64))).length : Int), ((x14.map (D.int .i64)).getD x74.2.2.toNat (.int .i64 0)).cells = [.int .i64 x77], (0 : Int) ≤ x74.2.2 ∧ x74.2.2 < (((x13.map (D.int .i64))).length : Int), ((x13.map (D.int .i64)).getD x74.2.2.toNat (.int .i64 0)).cells = [.int .i64 x78]] (by kernel_rfl) (AC (at_ok hx77 (D.int .i64) (.int .i64 0)).1 (AC (at_ok hx77 (D.int .i64) (.int .i64 0)).2 (AC (at_ok hx78 (D.int .i64) (.int .i64 0)).1 (A1 (at_ok hx78 (D.int .i64) (.int .i64 0)).2)))) ?_
   refine K_blk (K_r [] [] (by kernel_rfl) trivial ?_)
   cases H
   exact K_end (by kernel_rfl)
 · refine K_f (by kernel_rfl) (decide_eq_false hx76) ?_
   refine K_g (by kernel_rfl) ?_
   cases H
   exact K_exit0 rfl (by kernel_rfl)
def T_envelope_Pieces_l2 (k : Nat) (x7 : List Int) (x8 : List Int) (x9 : Int) (x13 : List Int) (x14 : List Int) (x51 : Int × Int × Int) : Option ((Int × Int × Int) ⊕ ((Int × Int) ⊕ Int)) :=
 (if x51.1 < x9 then ((at? x8 x51.1).bind fun x53 => (at? x7 x51.1).bind fun x54 => (loopT (T_envelope_Pieces_l1 k x7 x8 x9 x13 x14 x53 x51.1 x51.1 x51.2.1 x51.2.2) k (0, 0, x54)).bind fun x79 => (T_envelope_passes k x53 x79.1 x79.2).bind fun x80 => (at? x7 (w64 (x51.1 + 1))).bind fun x81 => (at? x7 x51.1).bind fun x82 => (T_ratio_Make k (w64 ((imax (imax 0 (w64 (x53 - x79.2))) (w64 (x79.1 - x53))) * (imax (imax 0 (w64 (x53 - x79.2))) (w64 (x79.1 - x53))))) (w64 (x81 - x82))).bind fun x83 => (T_ratio_Add k x51.2.1 x51.2.2 x83.1 x83.2.1).bind fun x84 => (if (!decide (x84.2.2 = 0)) = true then some (.inr (.inr x84.2.2)) else some (.inl ((w64 (x51.1 + 1)), x84.1, x84.2.1)))) else some (.inr (.inl (x51.2.1, x51.2.2))))
theorem T_envelope_Pieces_l2_ok (k : Nat) (x7 : List Int) (x8 : List Int) (x9 : Int) (x13 : List Int) (x14 : List Int) : ∀ (x51 : Int × Int × Int) (x : (Int × Int × Int) ⊕ ((Int × Int) ⊕ Int)), T_envelope_Pieces_l2 k x7 x8 x9 x13 x14 x51 = some x → evC X (evF X k) k 0 l_envelope_Pieces_2 ⟨[(8, (Pt 0)), (14, (LI x7)), (16, (Pt 1)), (17, (Pt 2)), (60, (LI x8)), (61, (I x9)), (62, (I x51.1))], [.cells [cI 0, cI 0], .cells [cL x13, cL x14], .cells [cI x51.2.1, cI x51.2.2]]⟩ = some (outS (fun (s : Int × Int × Int) => ⟨[(8, (Pt 0)), (14, (LI x7)), (16, (Pt 1)), (17, (Pt 2)), (60, (LI x8)), (61, (I x9)), (62, (I s.1))], [.cells [cI 0, cI 0], .cells [cL x13, cL x14], .cells [cI s.2.1, cI s.2.2]]⟩) (fun (r : (Int × Int) ⊕ Int) => Sum.elim (fun y => (.exit 0, ⟨[(8, (Pt 0)), (17, (Pt 1))], [.cells [cI 0, cI 0], .cells [cI y.1, cI y.2]]⟩)) (fun y => (.ret, ⟨[(8, (Pt 0)), (9, (I y))], [.cells [cI 0, cI 0]]⟩)) r) x) := by
 intro x51 x H
 unfold T_envelope_Pieces_l2 at H
 refine K_in ?_
 refine K_seq (K_r [] [] (by kernel_rfl) trivial ?_)
 refine K_seq ?_
 rcases ite_some H with ⟨hx52, H⟩ | ⟨hx52, H⟩
 · refine K_t (by kernel_rfl) (decide_eq_true hx52) ?_
   refine K_g (by kernel_rfl) ?_
   refine K_skip ?_
   refine K_seq ?_
   refine K_block ?_
   refine K_seq ?_
   obtain ⟨x53, hx53, H⟩ := bind_some' H
   refine K_r [.l [.int .i64 x53]] [(0 : Int) ≤ x51.1 ∧ x51.1 < (((x8.map (D.int .i64))).length : Int), ((x8.map (D.int .i64)).getD x51.1.toNat (.int .i64 0)).cells = [.int .i64 x53]] (by kernel_rfl) (AC (at_ok hx53 (D.int .i64) (.int .i64 0)).1 (A1 (at_ok hx53 (D.int .i64) (.int .i64 0)).2)) ?_
   refine K_seq (K_r [] [] (by kernel_rfl) trivial ?_)
   refine K_seq ?_
   refine K_seq ?_
   obtain ⟨x54, hx54, H⟩ := bind_some' H
   refine K_r [.l [.int .i64 x54]] [(0 : Int) ≤ x51.1 ∧ x51.1 < (((x7.map (D.int .i64))).length : Int), ((x7.map (D.int .i64)).getD x51.1.toNat (.int .i64 0)).cells = [.int .i64 x54]] (by kernel_rfl) (AC (at_ok hx54 (D.int .i64) (.int .i64 0)).1 (A1 (at_ok hx54 (D.int .i64) (.int .i64 0)).2)) ?_
   refine K_block (K_conv (σ' := ⟨[(8, (Pt 0)), (14, (LI x7)), (16, (Pt 1)), (17, (Pt 2)), (18, (I x51.1)), (19, (I x53)), (20, (I 0)), (21, (I 0)), (22, (I x54)), (60, (LI x8)), (61, (I x9)), (62, (I x51.1))], [.cells [cI 0, cI 0], .cells [cL x13, cL x14], .cells [cI x51.2.1, cI x51.2.2]]⟩) (by kernel_rfl) ?_)
   obtain ⟨x79, hx79, H⟩ := bind_some' H
   refine K_loop ⟨[(8, (Pt 0)), (14, (LI x7)), (16, (Pt 1)), (17, (Pt 2)), (18, (I x51.1)), (19, (I x53)), (20, (I x79.1)), (21, (I x79.2)), (60, (LI x8)), (61, (I x9)), (62, (I x51.1))], [.cells [cI 0, cI 0], .cells [cL x13, cL x14], .cells [cI x51.2.1, cI x51.2.2]]⟩ (loop_ok (fun (s : Int × Int × Int) => ⟨[(8, (Pt 0)), (14, (LI x7)), (16, (Pt 1)), (17, (Pt 2)), (18, (I x51.1)), (19, (I x53)), (20, (I s.1)), (21, (I s.2.1)), (22, (I s.2.2)), (60, (LI x8)), (61, (I x9)), (62, (I x51.1))], [.cells [cI 0, cI 0], .cells [cL x13, cL x14], .cells [cI x51.2.1, cI x51.2.2]]⟩) (fun (r : (Int × Int)) => (.exit 2, ⟨[(8, (Pt 0)), (14, (LI x7)), (16, (Pt 1)), (17, (Pt 2)), (18, (I x51.1)), (19, (I x53)), (20, (I r.1)), (21, (I r.2)), (60, (LI x8)), (61, (I x9)), (62, (I x51.1))], [.cells [cI 0, cI 0], .cells [cL x13, cL x14], .cells [cI x51.2.1, cI x51.2.2]]⟩)) (fun r h => by cases h) (T_envelope_Pieces_l1_ok k x7 x8 x9 x13 x14 x53 x51.1 x51.1 x51.2.1 x51.2.2) k (0, 0, x54) x79 hx79) rfl ?_
   refine K_seq ?_
   obtain ⟨x80, hx80, H⟩ := bind_some' H
   refine K_r [.r (I (imax (imax 0 (w64 (x53 - x79.2))) (w64 (x79.1 - x53)))) []] [C_T_envelope_passes k x53 x79.1 x79.2 x80] (by kernel_rfl) (A1 (T_envelope_passes_ok k x53 x79.1 x79.2 x80 hx80)) ?_
   refine K_seq ?_
   obtain ⟨x81, hx81, H⟩ := bind_some' H
   obtain ⟨x82, hx82, H⟩ := bind_some' H
   obtain ⟨x83, hx83, H⟩ := bind_some' H
   refine K_rD [.l [.int .i64 x81], .l [.int .i64 x82], .r (.tup [(true, [cI x83.1, cI x83.2.1]), (false, [cI x83.2.2])]) []] [(0 : Int) ≤ (w64 (x51.1 + 1)) ∧ (w64 (x51.1 + 1)) < (((x7.map (D.int .i64))).length : Int), ((x7.map (D.int .i64)).getD (w64 (x51.1 + 1)).toNat (.int .i64 0)).cells = [.int .i64 x81], (0 : Int) ≤ x51.1 ∧ x51.1 < (((x7.map (D.int .i64))).length : Int), ((x7.map (D.int .i64)).getD x51.1.toNat (.int .i64 0)).cells = [.int .i64 x82], C_T_ratio_Make k (w64 ((imax (imax 0 (w64 (x53 - x79.2))) (w64 (x79.1 - x53))) * (imax (imax 0 (w64 (x53 - x79.2))) (w64 (x79.1 - x53))))) (w64 (x81 - x82)) x83] (by kernel_rfl) (AC (at_ok hx81 (D.int .i64) (.int .i64 0)).1 (AC (at_ok hx81 (D.int .i64) (.int .i64 0)).2 (AC (at_ok hx82 (D.int .i64) (.int .i64 0)).1 (AC (at_ok hx82 (D.int .i64) (.int .i64 0)).2 (A1 (T_ratio_Make_ok k (w64 ((imax (imax 0 (w64 (x53 - x79.2))) (w64 (x79.1 - x53))) * (imax (imax 0 (w64 (x53 - x79.2))) (w64 (x79.1 - x53))))) (w64 (x81 - x82)) x83 hx83)))))) ?_
   refine K_seq ?_
   obtain ⟨x84, hx84, H⟩ := bind_some' H
   refine K_r [.r (.tup [(true, [cI x84.1, cI x84.2.1]), (false, [cI x84.2.2])]) []] [C_T_ratio_Add k x51.2.1 x51.2.2 x83.1 x83.2.1 x84] (by kernel_rfl) (A1 (T_ratio_Add_ok k x51.2.1 x51.2.2 x83.1 x83.2.1 x84 hx84)) ?_
   refine K_seq (K_r [] [] (by kernel_rfl) trivial ?_)
   rcases ite_some H with ⟨hx85, H⟩ | ⟨hx85, H⟩
   · refine K_t (by kernel_rfl) hx85 ?_
     refine K_seq (K_r [] [] (by kernel_rfl) trivial ?_)
     refine K_g (by kernel_rfl) ?_
     cases H
     exact K_ret (by kernel_rfl)
   · refine K_f (by kernel_rfl) (Bool.eq_false_iff.2 hx85) ?_
     refine K_g (by kernel_rfl) ?_
     refine K_skip (K_blk (K_r [] [] (by kernel_rfl) trivial ?_))
     cases H
     exact K_end (by kernel_rfl)
 · refine K_f (by kernel_rfl) (decide_eq_false hx52) ?_
   refine K_g (by kernel_rfl) ?_
   cases H
   exact K_exit0 rfl (by kernel_rfl)
def T_envelope_Pieces (k : Nat) (p1 : List Int) (p2 : List Int) (p3 : Int) (p4 : Int) : Option (Int × Int × Int) := match k with
 | 0 => none
 | k + 1 => ((T_warp_Distance k p1 p2 p3).bind fun x1 => (if (!decide (x1.2 = 0)) = true then some (0, 0, x1.2) else ((T_pieces_Sums k p2 p4).bind fun x3 => (if (!decide (x3.2 = 0)) = true then some (0, 0, x3.2) else ((T_pieces_Starts k (p2.length : Int) p4).bind fun x5 => (T_envelope_of k p1 p3 (p2.length : Int)).bind fun x6 => (loopT (T_envelope_Pieces_l2 k x5.1 x3.1 (x3.1.length : Int) x6.1 x6.2) k (0, 0, 1)).bind fun x86 => (match x86 with | .inl x87 => some (x87.1, x87.2, 0) | .inr x88 => some (0, 0, x88)))))))
abbrev C_T_envelope_Pieces (k : Nat) (p1 : List Int) (p2 : List Int) (p3 : Int) (p4 : Int) (r : Int × Int × Int) : Prop := evF X k n_envelope_Pieces [(LI p1), (LI p2), (I p3), (I p4)] [] = some ((.tup [(true, [cI r.1, cI r.2.1]), (false, [cI r.2.2])]), [])
theorem T_envelope_Pieces_ok (k : Nat) (p1 : List Int) (p2 : List Int) (p3 : Int) (p4 : Int) (r : Int × Int × Int) : T_envelope_Pieces k p1 p2 p3 p4 = some r → C_T_envelope_Pieces k p1 p2 p3 p4 r := by
 intro H
 cases k with
 | zero => simp [T_envelope_Pieces] at H
 | succ k =>
  simp only [T_envelope_Pieces] at H
  refine F_in X_envelope_Pieces rfl ?_
  refine K_seq (K_r [] [] (by kernel_rfl) trivial ?_)
  refine K_seq ?_
  refine K_seq ?_
  obtain ⟨x1, hx1, H⟩ := bind_some' H
  refine K_r [.r (.tup [(false, [cI x1.1]), (false, [cI x1.2])]) []] [C_T_warp_Distance k p1 p2 p3 x1] (by kernel_rfl) (A1 (T_warp_Distance_ok k p1 p2 p3 x1 hx1)) ?_
  refine K_seq (K_r [] [] (by kernel_rfl) trivial ?_)
  rcases ite_some H with ⟨hx2, H⟩ | ⟨hx2, H⟩
  · refine K_t (by kernel_rfl) hx2 ?_
    refine K_seq (K_r [] [] (by kernel_rfl) trivial ?_)
    refine K_g (by kernel_rfl) ?_
    cases H
    refine K_ret ?_
    kernel_rfl
  · refine K_f (by kernel_rfl) (Bool.eq_false_iff.2 hx2) ?_
    refine K_g (by kernel_rfl) ?_
    refine K_skip ?_
    refine K_seq ?_
    obtain ⟨x3, hx3, H⟩ := bind_some' H
    refine K_r [.r (.tup [(false, [cL x3.1]), (false, [cI x3.2])]) []] [C_T_pieces_Sums k p2 p4 x3] (by kernel_rfl) (A1 (T_pieces_Sums_ok k p2 p4 x3 hx3)) ?_
    refine K_seq (K_seq (K_r [] [] (by kernel_rfl) trivial ?_))
    rcases ite_some H with ⟨hx4, H⟩ | ⟨hx4, H⟩
    · refine K_t (by kernel_rfl) hx4 ?_
      refine K_seq (K_r [] [] (by kernel_rfl) trivial ?_)
      refine K_g (by kernel_rfl) ?_
      cases H
      refine K_ret ?_
      kernel_rfl
    · refine K_f (by kernel_rfl) (Bool.eq_false_iff.2 hx4) ?_
      refine K_g (by kernel_rfl) ?_
      refine K_skip ?_
      refine K_seq ?_
      obtain ⟨x5, hx5, H⟩ := bind_some' H
      refine K_r [.n p2.length, .r (.tup [(false, [cL x5.1]), (false, [cI x5.2])]) []] [((p2.map (D.int .i64))).length = p2.length, C_T_pieces_Starts k (p2.length : Int) p4 x5] (by kernel_rfl) (AC (List.length_map _) (A1 (T_pieces_Starts_ok k (p2.length : Int) p4 x5 hx5))) ?_
      refine K_seq ?_
      obtain ⟨x6, hx6, H⟩ := bind_some' H
      refine K_r [.n p2.length, .r (.agg [cL x6.1, cL x6.2]) []] [((p2.map (D.int .i64))).length = p2.length, C_T_envelope_of k p1 p3 (p2.length : Int) x6] (by kernel_rfl) (AC (List.length_map _) (A1 (T_envelope_of_ok k p1 p3 (p2.length : Int) x6 hx6))) ?_
      refine K_seq (K_r [] [] (by kernel_rfl) trivial ?_)
      refine K_seq (K_seq (K_r [.n x3.1.length] [((x3.1.map (D.int .i64))).length = x3.1.length] (by kernel_rfl) (A1 (List.length_map _)) ?_))
      refine K_block (K_conv (σ' := ⟨[(8, (Pt 0)), (14, (LI x5.1)), (16, (Pt 1)), (17, (Pt 2)), (60, (LI x3.1)), (61, (I (x3.1.length : Int))), (62, (I 0))], [.cells [cI 0, cI 0], .cells [cL x6.1, cL x6.2], .cells [cI 0, cI 1]]⟩) (by kernel_rfl) ?_)
      obtain ⟨x86, hx86, H⟩ := bind_some' H
      cases x86 with
      | inl x87 =>
       dsimp only at H
       refine K_loop ⟨[(8, (Pt 0)), (17, (Pt 1))], [.cells [cI 0, cI 0], .cells [cI x87.1, cI x87.2]]⟩ (loop_ok (fun (s : Int × Int × Int) => ⟨[(8, (Pt 0)), (14, (LI x5.1)), (16, (Pt 1)), (17, (Pt 2)), (60, (LI x3.1)), (61, (I (x3.1.length : Int))), (62, (I s.1))], [.cells [cI 0, cI 0], .cells [cL x6.1, cL x6.2], .cells [cI s.2.1, cI s.2.2]]⟩) (fun (r : (Int × Int) ⊕ Int) => Sum.elim (fun y => (.exit 0, ⟨[(8, (Pt 0)), (17, (Pt 1))], [.cells [cI 0, cI 0], .cells [cI y.1, cI y.2]]⟩)) (fun y => (.ret, ⟨[(8, (Pt 0)), (9, (I y))], [.cells [cI 0, cI 0]]⟩)) r) (fun r h => by cases r <;> cases h) (T_envelope_Pieces_l2_ok k x5.1 x3.1 (x3.1.length : Int) x6.1 x6.2) k (0, 0, 1) (.inl x87) hx86) rfl ?_
       refine K_seq (K_r [] [] (by kernel_rfl) trivial ?_)
       refine K_g (by kernel_rfl) ?_
       cases H
       refine K_ret ?_
       kernel_rfl
      | inr x88 =>
       dsimp only at H
       cases H
       refine K_loopr ⟨[(8, (Pt 0)), (9, (I x88))], [.cells [cI 0, cI 0]]⟩ (loop_ok (fun (s : Int × Int × Int) => ⟨[(8, (Pt 0)), (14, (LI x5.1)), (16, (Pt 1)), (17, (Pt 2)), (60, (LI x3.1)), (61, (I (x3.1.length : Int))), (62, (I s.1))], [.cells [cI 0, cI 0], .cells [cL x6.1, cL x6.2], .cells [cI s.2.1, cI s.2.2]]⟩) (fun (r : (Int × Int) ⊕ Int) => Sum.elim (fun y => (.exit 0, ⟨[(8, (Pt 0)), (17, (Pt 1))], [.cells [cI 0, cI 0], .cells [cI y.1, cI y.2]]⟩)) (fun y => (.ret, ⟨[(8, (Pt 0)), (9, (I y))], [.cells [cI 0, cI 0]]⟩)) r) (fun r h => by cases r <;> cases h) (T_envelope_Pieces_l2_ok k x5.1 x3.1 (x3.1.length : Int) x6.1 x6.2) k (0, 0, 1) (.inr x88) hx86) ?_
       kernel_rfl
def T_envelope_squares_l1 (k : Nat) (p1 : List Int) (p2 : List Int) (p3 : List Int) (x3 : Int) (x12 : Int × Int) : Option ((Int × Int) ⊕ Int) :=
 (if x12.2 < x3 then ((at? p1 x12.2).bind fun x14 => (at? p3 x12.2).bind fun x15 => (at? p2 x12.2).bind fun x16 => (T_envelope_passes k x14 x15 x16).bind fun x17 => some (.inl ((w64 (x12.1 + (w64 ((imax (imax 0 (w64 (x14 - x16))) (w64 (x15 - x14))) * (imax (imax 0 (w64 (x14 - x16))) (w64 (x15 - x14))))))), (w64 (x12.2 + 1))))) else some (.inr x12.1))
theorem T_envelope_squares_l1_ok (k : Nat) (p1 : List Int) (p2 : List Int) (p3 : List Int) (x3 : Int) : ∀ (x12 : Int × Int) (x : (Int × Int) ⊕ Int), T_envelope_squares_l1 k p1 p2 p3 x3 x12 = some x → evC X (evF X k) k 0 l_envelope_squares_1 ⟨[(3, (Pt 0)), (5, (I x12.1)), (9, (LI p1)), (10, (I x3)), (11, (I x12.2))], [.cells [cL p2, cL p3]]⟩ = some (outS (fun (s : Int × Int) => ⟨[(3, (Pt 0)), (5, (I s.1)), (9, (LI p1)), (10, (I x3)), (11, (I s.2))], [.cells [cL p2, cL p3]]⟩) (fun (r : Int) => (.exit 0, ⟨[(5, (I r))], []⟩)) x) := by
 intro x12 x H
 unfold T_envelope_squares_l1 at H
 refine K_in ?_
 refine K_seq (K_r [] [] (by kernel_rfl) trivial ?_)
 refine K_seq ?_
 rcases ite_some H with ⟨hx13, H⟩ | ⟨hx13, H⟩
 · refine K_t (by kernel_rfl) (decide_eq_true hx13) ?_
   refine K_g (by kernel_rfl) ?_
   refine K_skip ?_
   refine K_seq ?_
   refine K_block ?_
   refine K_seq ?_
   obtain ⟨x14, hx14, H⟩ := bind_some' H
   refine K_r [.l [.int .i64 x14]] [(0 : Int) ≤ x12.2 ∧ x12.2 < (((p1.map (D.int .i64))).length : Int), ((p1.map (D.int .i64)).getD x12.2.toNat (.int .i64 0)).cells = [.int .i64 x14]] (by kernel_rfl) (AC (at_ok hx14 (D.int .i64) (.int .i64 0)).1 (A1 (at_ok hx14 (D.int .i64) (.int .i64 0)).2)) ?_
   refine K_seq ?_
   obtain ⟨x15, hx15, H⟩ := bind_some' H
   obtain ⟨x16, hx16, H⟩ := bind_some' H
   obtain ⟨x17, hx17, H⟩ := bind_some' H
   refine K_r [.l [.int .i64 x15], .l [.int .i64 x16], .r (I (imax (imax 0 (w64 (x14 - x16))) (w64 (x15 - x14)))) []] [(0 : Int) ≤ x12.2 ∧ x12.2 < (((p3.map (D.int .i64))).length : Int), ((p3.map (D.int .i64)).getD x12.2.toNat (.int .i64 0)).cells = [.int .i64 x15], (0 : Int) ≤ x12.2 ∧ x12.2 < (((p2.map (D.int .i64))).length : Int), ((p2.map (D.int .i64)).getD x12.2.toNat (.int .i64 0)).cells = [.int .i64 x16], C_T_envelope_passes k x14 x15 x16 x17] (by kernel_rfl) (AC (at_ok hx15 (D.int .i64) (.int .i64 0)).1 (AC (at_ok hx15 (D.int .i64) (.int .i64 0)).2 (AC (at_ok hx16 (D.int .i64) (.int .i64 0)).1 (AC (at_ok hx16 (D.int .i64) (.int .i64 0)).2 (A1 (T_envelope_passes_ok k x14 x15 x16 x17 hx17)))))) ?_
   refine K_r [] [] (by kernel_rfl) trivial ?_
   refine K_blk (K_r [] [] (by kernel_rfl) trivial ?_)
   cases H
   exact K_end (by kernel_rfl)
 · refine K_f (by kernel_rfl) (decide_eq_false hx13) ?_
   refine K_g (by kernel_rfl) ?_
   cases H
   exact K_exit0 rfl (by kernel_rfl)
def T_envelope_squares (k : Nat) (p1 : List Int) (p2 : List Int) (p3 : List Int) : Option Int := match k with
 | 0 => none
 | k + 1 => ((loopT (T_envelope_squares_l1 k p1 p2 p3 (p1.length : Int)) k (0, 0)).bind fun x18 => some x18)
abbrev C_T_envelope_squares (k : Nat) (p1 : List Int) (p2 : List Int) (p3 : List Int) (r : Int) : Prop := evF X k n_envelope_squares [(LI p1), (.agg [cL p2, cL p3])] [] = some ((I r), [])
theorem T_envelope_squares_ok (k : Nat) (p1 : List Int) (p2 : List Int) (p3 : List Int) (r : Int) : T_envelope_squares k p1 p2 p3 = some r → C_T_envelope_squares k p1 p2 p3 r := by
 intro H
 cases k with
 | zero => simp [T_envelope_squares] at H
 | succ k =>
  simp only [T_envelope_squares] at H
  refine F_in X_envelope_squares rfl ?_
  refine K_seq (K_r [] [] (by kernel_rfl) trivial ?_)
  refine K_seq (K_r [] [] (by kernel_rfl) trivial ?_)
  refine K_seq (K_seq (K_r [.n p1.length] [((p1.map (D.int .i64))).length = p1.length] (by kernel_rfl) (A1 (List.length_map _)) ?_))
  refine K_block (K_conv (σ' := ⟨[(3, (Pt 0)), (5, (I 0)), (9, (LI p1)), (10, (I (p1.length : Int))), (11, (I 0))], [.cells [cL p2, cL p3]]⟩) (by kernel_rfl) ?_)
  obtain ⟨x18, hx18, H⟩ := bind_some' H
  refine K_loop ⟨[(5, (I x18))], []⟩ (loop_ok (fun (s : Int × Int) => ⟨[(3, (Pt 0)), (5, (I s.1)), (9, (LI p1)), (10, (I (p1.length : Int))), (11, (I s.2))], [.cells [cL p2, cL p3]]⟩) (fun (r : Int) => (.exit 0, ⟨[(5, (I r))], []⟩)) (fun r h => by cases h) (T_envelope_squares_l1_ok k p1 p2 p3 (p1.length : Int)) k (0, 0) x18 hx18) rfl ?_
  refine K_seq (K_r [] [] (by kernel_rfl) trivial ?_)
  refine K_g (by kernel_rfl) ?_
  cases H
  refine K_ret ?_
  kernel_rfl
def T_envelope_Keogh (k : Nat) (p1 : List Int) (p2 : List Int) (p3 : Int) : Option (Int × Int) := match k with
 | 0 => none
 | k + 1 => ((T_warp_Distance k p1 p2 p3).bind fun x1 => (if (!decide (x1.2 = 0)) = true then some (0, x1.2) else ((T_envelope_of k p1 p3 (p2.length : Int)).bind fun x3 => (T_envelope_squares k p2 x3.1 x3.2).bind fun x4 => some (x4, 0))))
abbrev C_T_envelope_Keogh (k : Nat) (p1 : List Int) (p2 : List Int) (p3 : Int) (r : Int × Int) : Prop := evF X k n_envelope_Keogh [(LI p1), (LI p2), (I p3)] [] = some ((.tup [(false, [cI r.1]), (false, [cI r.2])]), [])
theorem T_envelope_Keogh_ok (k : Nat) (p1 : List Int) (p2 : List Int) (p3 : Int) (r : Int × Int) : T_envelope_Keogh k p1 p2 p3 = some r → C_T_envelope_Keogh k p1 p2 p3 r := by
 intro H
 cases k with
 | zero => simp [T_envelope_Keogh] at H
 | succ k =>
  simp only [T_envelope_Keogh] at H
  refine F_in X_envelope_Keogh rfl ?_
  refine K_seq (K_r [] [] (by kernel_rfl) trivial ?_)
  refine K_seq ?_
  refine K_seq ?_
  obtain ⟨x1, hx1, H⟩ := bind_some' H
  refine K_r [.r (.tup [(false, [cI x1.1]), (false, [cI x1.2])]) []] [C_T_warp_Distance k p1 p2 p3 x1] (by kernel_rfl) (A1 (T_warp_Distance_ok k p1 p2 p3 x1 hx1)) ?_
  refine K_seq (K_r [] [] (by kernel_rfl) trivial ?_)
  rcases ite_some H with ⟨hx2, H⟩ | ⟨hx2, H⟩
  · refine K_t (by kernel_rfl) hx2 ?_
    refine K_seq (K_r [] [] (by kernel_rfl) trivial ?_)
    refine K_g (by kernel_rfl) ?_
    cases H
    refine K_ret ?_
    kernel_rfl
  · refine K_f (by kernel_rfl) (Bool.eq_false_iff.2 hx2) ?_
    refine K_g (by kernel_rfl) ?_
    refine K_skip ?_
    refine K_seq ?_
    obtain ⟨x3, hx3, H⟩ := bind_some' H
    obtain ⟨x4, hx4, H⟩ := bind_some' H
    refine K_r [.n p2.length, .r (.agg [cL x3.1, cL x3.2]) [], .r (I x4) []] [((p2.map (D.int .i64))).length = p2.length, C_T_envelope_of k p1 p3 (p2.length : Int) x3, C_T_envelope_squares k p2 x3.1 x3.2 x4] (by kernel_rfl) (AC (List.length_map _) (AC (T_envelope_of_ok k p1 p3 (p2.length : Int) x3 hx3) (A1 (T_envelope_squares_ok k p2 x3.1 x3.2 x4 hx4)))) ?_
    refine K_g (by kernel_rfl) ?_
    cases H
    refine K_ret ?_
    kernel_rfl
def T_envelope_Improved_l1 (k : Nat) (p1 : List Int) (p2 : List Int) (p3 : Int) (x8 : Nat) (x10 : Int) (x12 : List Int) (x13 : List Int) (x20 : Int × (List Int)) : Option ((Int × (List Int)) ⊕ (((List Int)))) :=
 (if x20.1 < x10 then (at? p2 x20.1).bind fun x22 => (at? x13 x20.1).bind fun x23 => (at? x12 x20.1).bind fun x24 => (if (0 : Int) ≤ x20.1 ∧ x20.1 < ((x8 : Nat) : Int) then some (.inl ((w64 (x20.1 + 1)), (x20.2.set (0 + x20.1.toNat) (imin (imax x22 x23) x24)))) else none) else some (.inr x20.2))
theorem T_envelope_Improved_l1_ok (k : Nat) (p1 : List Int) (p2 : List Int) (p3 : Int) (x8 : Nat) (x10 : Int) (x12 : List Int) (x13 : List Int) : ∀ (x20 : Int × (List Int)) (x : (Int × (List Int)) ⊕ (((List Int)))), T_envelope_Improved_l1 k p1 p2 p3 x8 x10 x12 x13 x20 = some x → evC X (evF X k) k 0 l_envelope_Improved_1 ⟨[(0, (LI p1)), (1, (LI p2)), (2, (I p3)), (10, (Pt 0)), (11, (.one (.own 1 0 x8))), (32, (LI p2)), (33, (I x10)), (34, (I x20.1))], [.cells [cL x12, cL x13], VI x20.2]⟩ = some (outS (fun (s : Int × (List Int)) => ⟨[(0, (LI p1)), (1, (LI p2)), (2, (I p3)), (10, (Pt 0)), (11, (.one (.own 1 0 x8))), (32, (LI p2)), (33, (I x10)), (34, (I s.1))], [.cells [cL x12, cL x13], VI s.2]⟩) (fun (r : ((List Int))) => (.exit 0, ⟨[(0, (LI p1)), (1, (LI p2)), (2, (I p3)), (10, (Pt 0)), (11, (.one (.own 1 0 x8)))], [.cells [cL x12, cL x13], VI r]⟩)) x) := by
 intro x20 x H
 unfold T_envelope_Improved_l1 at H
 refine K_in ?_
 refine K_seq (K_r [] [] (by kernel_rfl) trivial ?_)
 refine K_seq ?_
 rcases ite_some H with ⟨hx21, H⟩ | ⟨hx21, H⟩
 · refine K_t (by kernel_rfl) (decide_eq_true hx21) ?_
   refine K_g (by kernel_rfl) ?_
   refine K_skip ?_
   refine K_seq ?_
   refine K_block ?_
   refine K_seq ?_
   obtain ⟨x22, hx22, H⟩ := bind_some' H
   refine K_r [.l [.int .i64 x22]] [(0 : Int) ≤ x20.1 ∧ x20.1 < (((p2.map (D.int .i64))).length : Int), ((p2.map (D.int .i64)).getD x20.1.toNat (.int .i64 0)).cells = [.int .i64 x22]] (by kernel_rfl) (AC (at_ok hx22 (D.int .i64) (.int .i64 0)).1 (A1 (at_ok hx22 (D.int .i64) (.int .i64 0)).2)) ?_
   obtain ⟨x23, hx23, H⟩ := bind_some' H
   obtain ⟨x24, hx24, H⟩ := bind_some' H
   obtain ⟨hx25, H⟩ := guard_some H
   refine K_r [.l [.int .i64 x23], .l [.int .i64 x24], .l ((x20.2.set (0 + x20.1.toNat) (imin (imax x22 x23) x24)).map (D.int .i64))] [(0 : Int) ≤ x20.1 ∧ x20.1 < (((x13.map (D.int .i64))).length : Int), ((x13.map (D.int .i64)).getD x20.1.toNat (.int .i64 0)).cells = [.int .i64 x23], (0 : Int) ≤ x20.1 ∧ x20.1 < (((x12.map (D.int .i64))).length : Int), ((x12.map (D.int .i64)).getD x20.1.toNat (.int .i64 0)).cells = [.int .i64 x24], (0 : Int) ≤ x20.1 ∧ x20.1 < ((x8 : Nat) : Int), (x20.2.map (D.int .i64)).set (0 + x20.1.toNat) (elemOf (.int .i64 0) (splice ((x20.2.map (D.int .i64)).getD (0 + x20.1.toNat) (.int .i64 0)).cells 0 [.int .i64 (imin (imax x22 x23) x24)])) = (x20.2.set (0 + x20.1.toNat) (imin (imax x22 x23) x24)).map (D.int .i64)] (by kernel_rfl) (AC (at_ok hx23 (D.int .i64) (.int .i64 0)).1 (AC (at_ok hx23 (D.int .i64) (.int .i64 0)).2 (AC (at_ok hx24 (D.int .i64) (.int .i64 0)).1 (AC (at_ok hx24 (D.int .i64) (.int .i64 0)).2 (AC hx25 (A1 (st_one x20.2 (0 + x20.1.toNat) (imin (imax x22 x23) x24) (D.int .i64) (.int .i64 0) rfl (fun _ => rfl) rfl))))))) ?_
   refine K_blk (K_r [] [] (by kernel_rfl) trivial ?_)
   cases H
   exact K_end (by kernel_rfl)
 · refine K_f (by kernel_rfl) (decide_eq_false hx21) ?_
   refine K_g (by kernel_rfl) ?_
   cases H
   exact K_exit0 rfl (by kernel_rfl)
def T_envelope_Improved (k : Nat) (p1 : List Int) (p2 : List Int) (p3 : Int) : Option (Int × Int) := match k with
 | 0 => none
 | k + 1 => ((T_warp_Distance k p1 p2 p3).bind fun x1 => (if (!decide (x1.2 = 0)) = true then some (0, x1.2) else (T_envelope_of k p1 p3 (p2.length : Int)).bind fun x3 => (if (0 : Int) ≤ (p2.length : Int) ∧ (p2.length : Int) ≤ (p2.length : Int) ∧ (p2.length : Int) ≤ (LIM : Int) then (loopT (T_envelope_Improved_l1 k p1 p2 p3 ((p2.length : Int).toNat) (p2.length : Int) x3.1 x3.2) k (0, (List.replicate (p2.length : Int).toNat (0 : Int)))).bind fun x26 => (T_envelope_squares k p2 x3.1 x3.2).bind fun x27 => (T_envelope_of k ((x26.drop 0).take ((p2.length : Int).toNat)) p3 (p1.length : Int)).bind fun x28 => (T_envelope_squares k p1 x28.1 x28.2).bind fun x29 => some ((w64 (x27 + x29)), 0) else none)))
abbrev C_T_envelope_Improved (k : Nat) (p1 : List Int) (p2 : List Int) (p3 : Int) (r : Int × Int) : Prop := evF X k n_envelope_Improved [(LI p1), (LI p2), (I p3)] [] = some ((.tup [(false, [cI r.1]), (false, [cI r.2])]), [])
theorem T_envelope_Improved_ok (k : Nat) (p1 : List Int) (p2 : List Int) (p3 : Int) (r : Int × Int) : T_envelope_Improved k p1 p2 p3 = some r → C_T_envelope_Improved k p1 p2 p3 r := by
 intro H
 cases k with
 | zero => simp [T_envelope_Improved] at H
 | succ k =>
  simp only [T_envelope_Improved] at H
  refine F_in X_envelope_Improved rfl ?_
  refine K_seq (K_r [] [] (by kernel_rfl) trivial ?_)
  refine K_seq ?_
  refine K_seq ?_
  obtain ⟨x1, hx1, H⟩ := bind_some' H
  refine K_r [.r (.tup [(false, [cI x1.1]), (false, [cI x1.2])]) []] [C_T_warp_Distance k p1 p2 p3 x1] (by kernel_rfl) (A1 (T_warp_Distance_ok k p1 p2 p3 x1 hx1)) ?_
  refine K_seq (K_r [] [] (by kernel_rfl) trivial ?_)
  rcases ite_some H with ⟨hx2, H⟩ | ⟨hx2, H⟩
  · refine K_t (by kernel_rfl) hx2 ?_
    refine K_seq (K_r [] [] (by kernel_rfl) trivial ?_)
    refine K_g (by kernel_rfl) ?_
    cases H
    refine K_ret ?_
    kernel_rfl
  · refine K_f (by kernel_rfl) (Bool.eq_false_iff.2 hx2) ?_
    refine K_g (by kernel_rfl) ?_
    refine K_skip ?_
    refine K_seq ?_
    obtain ⟨x3, hx3, H⟩ := bind_some' H
    refine K_r [.n p2.length, .r (.agg [cL x3.1, cL x3.2]) []] [((p2.map (D.int .i64))).length = p2.length, C_T_envelope_of k p1 p3 (p2.length : Int) x3] (by kernel_rfl) (AC (List.length_map _) (A1 (T_envelope_of_ok k p1 p3 (p2.length : Int) x3 hx3))) ?_
    refine K_seq ?_
    obtain ⟨hx4, H⟩ := guard_some H
    refine K_r [.n p2.length, .l ((List.replicate (p2.length : Int).toNat (0 : Int)).map (D.int .i64))] [((p2.map (D.int .i64))).length = p2.length, (0 : Int) ≤ (p2.length : Int) ∧ (p2.length : Int) ≤ (p2.length : Int) ∧ (p2.length : Int) ≤ (LIM : Int), List.replicate (p2.length : Int).toNat (.int .i64 0) = (List.replicate (p2.length : Int).toNat (0 : Int)).map (D.int .i64)] (by kernel_rfl) (AC (List.length_map _) (AC hx4 (A1 (rep_map (D.int .i64) _ (0 : Int))))) ?_
    refine K_seq (K_seq (K_r [.n p2.length] [((p2.map (D.int .i64))).length = p2.length] (by kernel_rfl) (A1 (List.length_map _)) ?_))
    refine K_block (K_conv (σ' := ⟨[(0, (LI p1)), (1, (LI p2)), (2, (I p3)), (10, (Pt 0)), (11, (.one (.own 1 0 ((p2.length : Int).toNat)))), (32, (LI p2)), (33, (I (p2.length : Int))), (34, (I 0))], [.cells [cL x3.1, cL x3.2], VI (List.replicate (p2.length : Int).toNat (0 : Int))]⟩) (by kernel_rfl) ?_)
    obtain ⟨x26, hx26, H⟩ := bind_some' H
    refine K_loop ⟨[(0, (LI p1)), (1, (LI p2)), (2, (I p3)), (10, (Pt 0)), (11, (.one (.own 1 0 ((p2.length : Int).toNat))))], [.cells [cL x3.1, cL x3.2], VI x26]⟩ (loop_ok (fun (s : Int × (List Int)) => ⟨[(0, (LI p1)), (1, (LI p2)), (2, (I p3)), (10, (Pt 0)), (11, (.one (.own 1 0 ((p2.length : Int).toNat)))), (32, (LI p2)), (33, (I (p2.length : Int))), (34, (I s.1))], [.cells [cL x3.1, cL x3.2], VI s.2]⟩) (fun (r : ((List Int))) => (.exit 0, ⟨[(0, (LI p1)), (1, (LI p2)), (2, (I p3)), (10, (Pt 0)), (11, (.one (.own 1 0 ((p2.length : Int).toNat))))], [.cells [cL x3.1, cL x3.2], VI r]⟩)) (fun r h => by cases h) (T_envelope_Improved_l1_ok k p1 p2 p3 ((p2.length : Int).toNat) (p2.length : Int) x3.1 x3.2) k (0, (List.replicate (p2.length : Int).toNat (0 : Int))) x26 hx26) rfl ?_
    refine K_seq (K_gh ⟨[(0, (LI p1)), (1, (LI p2)), (2, (I p3)), (10, (Pt 0)), (11, (.one (.d (.list (((x26.map (D.int .i64)).drop 0).take ((p2.length : Int).toNat))))))], [.cells [cL x3.1, cL x3.2]]⟩ (by kernel_rfl) ?_)
    refine K_conv (σ' := ⟨[(0, (LI p1)), (1, (LI p2)), (2, (I p3)), (10, (Pt 0)), (11, (LI ((x26.drop 0).take ((p2.length : Int).toNat))))], [.cells [cL x3.1, cL x3.2]]⟩) (by simp only [dt_map, rl_map, LI, VI]) ?_
    obtain ⟨x27, hx27, H⟩ := bind_some' H
    obtain ⟨x28, hx28, H⟩ := bind_some' H
    obtain ⟨x29, hx29, H⟩ := bind_some' H
    refine K_r [.r (I x27) [], .n p1.length, .r (.agg [cL x28.1, cL x28.2]) [], .r (I x29) []] [C_T_envelope_squares k p2 x3.1 x3.2 x27, ((p1.map (D.int .i64))).length = p1.length, C_T_envelope_of k ((x26.drop 0).take ((p2.length : Int).toNat)) p3 (p1.length : Int) x28, C_T_envelope_squares k p1 x28.1 x28.2 x29] (by kernel_rfl) (AC (T_envelope_squares_ok k p2 x3.1 x3.2 x27 hx27) (AC (List.length_map _) (AC (T_envelope_of_ok k ((x26.drop 0).take ((p2.length : Int).toNat)) p3 (p1.length : Int) x28 hx28) (A1 (T_envelope_squares_ok k p1 x28.1 x28.2 x29 hx29))))) ?_
    refine K_g (by kernel_rfl) ?_
    cases H
    refine K_ret ?_
    kernel_rfl
def T_ref04_Sample (k : Nat) (p1 : Int) : Option Unit := match k with
 | 0 => none
 | k + 1 => some ()
abbrev C_T_ref04_Sample (k : Nat) (p1 : Int) (r : Unit) : Prop := evF X k n_ref04_Sample [(I p1)] [] = some ((B (decide ((-1000) ≤ p1) && decide (p1 ≤ 1000))), [])
theorem T_ref04_Sample_ok (k : Nat) (p1 : Int) (r : Unit) : T_ref04_Sample k p1 = some r → C_T_ref04_Sample k p1 r := by
 intro H
 cases k with
 | zero => simp [T_ref04_Sample] at H
 | succ k =>
  simp only [T_ref04_Sample] at H
  refine F_in X_ref04_Sample rfl ?_
  refine K_seq (K_r [] [] (by kernel_rfl) trivial ?_)
  refine K_seq (K_r [.m] [([] : Heap) = []] (by kernel_rfl) (A1 rfl) ?_)
  refine K_g (by kernel_rfl) ?_
  cases H
  refine K_ret ?_
  kernel_rfl
def T_ref12_Samples_l1 (k : Nat) (p1 : List Int) (x2 : Int) (x8 : Int) : Option (Int ⊕ (Unit ⊕ Unit)) :=
 (if x8 < x2 then ((at? p1 x8).bind fun x10 => (T_ref04_Sample k x10).bind fun x11 => (if (!(decide ((-1000) ≤ x10) && decide (x10 ≤ 1000))) = true then some (.inr (.inr ())) else some (.inl (w64 (x8 + 1))))) else some (.inr (.inl ())))
theorem T_ref12_Samples_l1_ok (k : Nat) (p1 : List Int) (x2 : Int) : ∀ (x8 : Int) (x : Int ⊕ (Unit ⊕ Unit)), T_ref12_Samples_l1 k p1 x2 x8 = some x → evC X (evF X k) k 0 l_ref12_Samples_1 ⟨[(0, (LI p1)), (5, (I x2)), (6, (I x8))], []⟩ = some (outS (fun (s : Int) => ⟨[(0, (LI p1)), (5, (I x2)), (6, (I s))], []⟩) (fun (r : Unit ⊕ Unit) => Sum.elim (fun y => (.exit 0, ⟨[], []⟩)) (fun y => (.ret, ⟨[(2, (I 12))], []⟩)) r) x) := by
 intro x8 x H
 unfold T_ref12_Samples_l1 at H
 refine K_in ?_
 refine K_seq (K_r [] [] (by kernel_rfl) trivial ?_)
 refine K_seq ?_
 rcases ite_some H with ⟨hx9, H⟩ | ⟨hx9, H⟩
 · refine K_t (by kernel_rfl) (decide_eq_true hx9) ?_
   refine K_g (by kernel_rfl) ?_
   refine K_skip (K_seq (K_block (K_seq (K_r [] [] (by kernel_rfl) trivial ?_))))
   refine K_seq ?_
   obtain ⟨x10, hx10, H⟩ := bind_some' H
   obtain ⟨x11, hx11, H⟩ := bind_some' H
   refine K_r [.l [.int .i64 x10], .r (B (decide ((-1000) ≤ x10) && decide (x10 ≤ 1000))) []] [(0 : Int) ≤ x8 ∧ x8 < (((p1.map (D.int .i64))).length : Int), ((p1.map (D.int .i64)).getD x8.toNat (.int .i64 0)).cells = [.int .i64 x10], C_T_ref04_Sample k x10 x11] (by kernel_rfl) (AC (at_ok hx10 (D.int .i64) (.int .i64 0)).1 (AC (at_ok hx10 (D.int .i64) (.int .i64 0)).2 (A1 (T_ref04_Sample_ok k x10 x11 hx11)))) ?_
   rcases ite_some H with ⟨hx12, H⟩ | ⟨hx12, H⟩
   · refine K_t (by kernel_rfl) hx12 ?_
     refine K_seq (K_r [] [] (by kernel_rfl) trivial ?_)
     refine K_g (by kernel_rfl) ?_
     cases H
     exact K_ret (by kernel_rfl)
   · refine K_f (by kernel_rfl) (Bool.eq_false_iff.2 hx12) ?_
     refine K_g (by kernel_rfl) ?_
     refine K_skip (K_blk (K_r [] [] (by kernel_rfl) trivial ?_))
     cases H
     exact K_end (by kernel_rfl)
 · refine K_f (by kernel_rfl) (decide_eq_false hx9) ?_
   refine K_g (by kernel_rfl) ?_
   cases H
   exact K_exit0 rfl (by kernel_rfl)
def T_ref12_Samples (k : Nat) (p1 : List Int) : Option Int := match k with
 | 0 => none
 | k + 1 => ((loopT (T_ref12_Samples_l1 k p1 (p1.length : Int)) k 0).bind fun x13 => (match x13 with | .inl x14 => some 0 | .inr x15 => some 12))
abbrev C_T_ref12_Samples (k : Nat) (p1 : List Int) (r : Int) : Prop := evF X k n_ref12_Samples [(LI p1)] [] = some ((I r), [])
theorem T_ref12_Samples_ok (k : Nat) (p1 : List Int) (r : Int) : T_ref12_Samples k p1 = some r → C_T_ref12_Samples k p1 r := by
 intro H
 cases k with
 | zero => simp [T_ref12_Samples] at H
 | succ k =>
  simp only [T_ref12_Samples] at H
  refine F_in X_ref12_Samples rfl ?_
  refine K_seq (K_r [] [] (by kernel_rfl) trivial ?_)
  refine K_seq (K_seq (K_r [.n p1.length] [((p1.map (D.int .i64))).length = p1.length] (by kernel_rfl) (A1 (List.length_map _)) ?_))
  refine K_block (K_conv (σ' := ⟨[(0, (LI p1)), (5, (I (p1.length : Int))), (6, (I 0))], []⟩) (by kernel_rfl) ?_)
  obtain ⟨x13, hx13, H⟩ := bind_some' H
  cases x13 with
  | inl x14 =>
   dsimp only at H
   refine K_loop ⟨[], []⟩ (loop_ok (fun (s : Int) => ⟨[(0, (LI p1)), (5, (I (p1.length : Int))), (6, (I s))], []⟩) (fun (r : Unit ⊕ Unit) => Sum.elim (fun y => (.exit 0, ⟨[], []⟩)) (fun y => (.ret, ⟨[(2, (I 12))], []⟩)) r) (fun r h => by cases r <;> cases h) (T_ref12_Samples_l1_ok k p1 (p1.length : Int)) k 0 (.inl x14) hx13) rfl ?_
   refine K_seq (K_r [] [] (by kernel_rfl) trivial ?_)
   refine K_g (by kernel_rfl) ?_
   cases H
   refine K_ret ?_
   kernel_rfl
  | inr x15 =>
   dsimp only at H
   cases H
   refine K_loopr ⟨[(2, (I 12))], []⟩ (loop_ok (fun (s : Int) => ⟨[(0, (LI p1)), (5, (I (p1.length : Int))), (6, (I s))], []⟩) (fun (r : Unit ⊕ Unit) => Sum.elim (fun y => (.exit 0, ⟨[], []⟩)) (fun y => (.ret, ⟨[(2, (I 12))], []⟩)) r) (fun r h => by cases r <;> cases h) (T_ref12_Samples_l1_ok k p1 (p1.length : Int)) k 0 (.inr x15) hx13) ?_
   kernel_rfl
def T_ref12_Two (k : Nat) (p1 : List Int) (p2 : List Int) (p3 : Int) : Option Int := match k with
 | 0 => none
 | k + 1 => (if (((decide ((p1.length : Int) < 2) || decide (32 < (p1.length : Int))) || decide ((p2.length : Int) < 2)) || decide (32 < (p2.length : Int))) = true then some 8 else ((((T_ref12_Samples k p1).bind fun x2 => (if (!decide (x2 = 0)) = true then some true else ((T_ref12_Samples k p2).bind fun x5 => some (!decide (x5 = 0)))))).bind fun x6 => (if x6 = true then some 12 else (if (decide (p3 < (w64 ((p1.length : Int) - (p2.length : Int)))) || decide (p3 < (w64 ((p2.length : Int) - (p1.length : Int))))) = true then some 8 else some 0))))
abbrev C_T_ref12_Two (k : Nat) (p1 : List Int) (p2 : List Int) (p3 : Int) (r : Int) : Prop := evF X k n_ref12_Two [(LI p1), (LI p2), (I p3)] [] = some ((I r), [])
theorem T_ref12_Two_ok (k : Nat) (p1 : List Int) (p2 : List Int) (p3 : Int) (r : Int) : T_ref12_Two k p1 p2 p3 = some r → C_T_ref12_Two k p1 p2 p3 r := by
 intro H
 cases k with
 | zero => simp [T_ref12_Two] at H
 | succ k =>
  simp only [T_ref12_Two] at H
  refine F_in X_ref12_Two rfl ?_
  refine K_seq (K_r [] [] (by kernel_rfl) trivial ?_)
  refine K_seq (K_seq (K_r [.n p1.length, .m, .n p1.length, .m, .n p2.length, .m, .n p2.length] [((p1.map (D.int .i64))).length = p1.length, decide ((p1.length : Int) < 2) = false → AllT [((p1.map (D.int .i64))).length = p1.length], ([] : Heap) = [], (decide ((p1.length : Int) < 2) || decide (32 < (p1.length : Int))) = false → AllT [((p2.map (D.int .i64))).length = p2.length], ([] : Heap) = [], ((decide ((p1.length : Int) < 2) || decide (32 < (p1.length : Int))) || decide ((p2.length : Int) < 2)) = false → AllT [((p2.map (D.int .i64))).length = p2.length], ([] : Heap) = []] (by kernel_rfl) (AC (List.length_map _) (AC (fun _ => (A1 (List.length_map _))) (AC rfl (AC (fun _ => (A1 (List.length_map _))) (AC rfl (AC (fun _ => (A1 (List.length_map _))) (A1 rfl))))))) ?_))
  rcases ite_some H with ⟨hx1, H⟩ | ⟨hx1, H⟩
  · refine K_t (by kernel_rfl) hx1 ?_
    refine K_seq (K_r [] [] (by kernel_rfl) trivial ?_)
    refine K_g (by kernel_rfl) ?_
    cases H
    refine K_ret ?_
    kernel_rfl
  · refine K_f (by kernel_rfl) (Bool.eq_false_iff.2 hx1) ?_
    refine K_g (by kernel_rfl) ?_
    refine K_skip ?_
    refine K_seq ?_
    refine K_seq ?_
    obtain ⟨x6, hx6, H⟩ := bind_some' H
    refine K_of ⟨[(0, (LI p1)), (1, (LI p2)), (2, (I p3)), (32, (B x6))], []⟩ ?_ ?_
    · clear H; have H := hx6; clear hx6; refine K_in ?_
      obtain ⟨x2, hx2, H⟩ := bind_some' H
      rcases ite_some H with ⟨hx4, H⟩ | ⟨hx4, H⟩
      · refine K_r [.r (I x2) [], .b true] [C_T_ref12_Samples k p1 x2, (!decide (x2 = 0)) = true] (by kernel_rfl) (AC (T_ref12_Samples_ok k p1 x2 hx2) (A1 hx4)) ?_
        cases H
        exact K_end (by kernel_rfl)
      · obtain ⟨x5, hx5, H⟩ := bind_some' H
        refine K_r [.r (I x2) [], .b false, .r (I x5) []] [C_T_ref12_Samples k p1 x2, (!decide (x2 = 0)) = false, C_T_ref12_Samples k p2 x5] (by kernel_rfl) (AC (T_ref12_Samples_ok k p1 x2 hx2) (AC (Bool.eq_false_iff.2 hx4) (A1 (T_ref12_Samples_ok k p2 x5 hx5)))) ?_
        cases H
        exact K_end (by kernel_rfl)
    rcases ite_some H with ⟨hx7, H⟩ | ⟨hx7, H⟩
    · refine K_t (by kernel_rfl) hx7 ?_
      refine K_seq (K_r [] [] (by kernel_rfl) trivial ?_)
      refine K_g (by kernel_rfl) ?_
      cases H
      refine K_ret ?_
      kernel_rfl
    · refine K_f (by kernel_rfl) (Bool.eq_false_iff.2 hx7) ?_
      refine K_g (by kernel_rfl) ?_
      refine K_skip (K_seq (K_seq (K_r [.n p1.length, .n p2.length, .m, .n p2.length, .n p1.length] [((p1.map (D.int .i64))).length = p1.length, ((p2.map (D.int .i64))).length = p2.length, decide (p3 < (w64 ((p1.length : Int) - (p2.length : Int)))) = false → AllT [((p2.map (D.int .i64))).length = p2.length, ((p1.map (D.int .i64))).length = p1.length], ([] : Heap) = []] (by kernel_rfl) (AC (List.length_map _) (AC (List.length_map _) (AC (fun _ => (AC (List.length_map _) (A1 (List.length_map _)))) (A1 rfl)))) ?_)))
      rcases ite_some H with ⟨hx8, H⟩ | ⟨hx8, H⟩
      · refine K_t (by kernel_rfl) hx8 ?_
        refine K_seq (K_r [] [] (by kernel_rfl) trivial ?_)
        refine K_g (by kernel_rfl) ?_
        cases H
        refine K_ret ?_
        kernel_rfl
      · refine K_f (by kernel_rfl) (Bool.eq_false_iff.2 hx8) ?_
        refine K_g (by kernel_rfl) ?_
        refine K_skip (K_seq (K_r [] [] (by kernel_rfl) trivial ?_))
        refine K_g (by kernel_rfl) ?_
        cases H
        refine K_ret ?_
        kernel_rfl
def T_ref14_Check (k : Nat) (p1 : List Int) (p2 : List Int) (p3 : Int) : Option Int := match k with
 | 0 => none
 | k + 1 => (if (decide (p3 < 0) || decide (32 < p3)) = true then some 1 else ((T_ref12_Two k p1 p2 p3).bind fun x2 => some x2))
abbrev C_T_ref14_Check (k : Nat) (p1 : List Int) (p2 : List Int) (p3 : Int) (r : Int) : Prop := evF X k n_ref14_Check [(LI p1), (LI p2), (I p3)] [] = some ((I r), [])
theorem T_ref14_Check_ok (k : Nat) (p1 : List Int) (p2 : List Int) (p3 : Int) (r : Int) : T_ref14_Check k p1 p2 p3 = some r → C_T_ref14_Check k p1 p2 p3 r := by
 intro H
 cases k with
 | zero => simp [T_ref14_Check] at H
 | succ k =>
  simp only [T_ref14_Check] at H
  refine F_in X_ref14_Check rfl ?_
  refine K_seq (K_r [] [] (by kernel_rfl) trivial ?_)
  refine K_seq (K_seq (K_r [.m] [([] : Heap) = []] (by kernel_rfl) (A1 rfl) ?_))
  rcases ite_some H with ⟨hx1, H⟩ | ⟨hx1, H⟩
  · refine K_t (by kernel_rfl) hx1 ?_
    refine K_seq (K_r [] [] (by kernel_rfl) trivial ?_)
    refine K_g (by kernel_rfl) ?_
    cases H
    refine K_ret ?_
    kernel_rfl
  · refine K_f (by kernel_rfl) (Bool.eq_false_iff.2 hx1) ?_
    refine K_g (by kernel_rfl) ?_
    refine K_skip ?_
    refine K_seq ?_
    obtain ⟨x2, hx2, H⟩ := bind_some' H
    refine K_r [.r (I x2) []] [C_T_ref12_Two k p1 p2 p3 x2] (by kernel_rfl) (A1 (T_ref12_Two_ok k p1 p2 p3 x2 hx2)) ?_
    refine K_g (by kernel_rfl) ?_
    cases H
    refine K_ret ?_
    kernel_rfl
def T_ref14_Costs_l1 (k : Nat) (p1 : List Int) (p2 : List Int) (x4 : Nat) (x5 : Int) (x37 : Int) (x39 : Int) (x40 : Int) (x49 : Int × (List (List Int))) : Option ((Int × (List (List Int))) ⊕ (((List (List Int))))) :=
 (if x49.1 < x40 then (at? p1 x37).bind fun x51 => (at? p2 x49.1).bind fun x52 => (if (0 : Int) ≤ x37 ∧ x37 < ((x4 : Nat) : Int) then (x49.2[(0 + x37.toNat)]?).bind fun x54 => (if x54.length + 1 ≤ LIM then some (.inl ((w64 (x49.1 + 1)), (x49.2.set (0 + x37.toNat) (((x54.drop 0).take x54.length ++ ([(w64 ((w64 (x51 - x52)) * (w64 (x51 - x52))))] : List Int)).take (x54.length + 1))))) else none) else none) else some (.inr x49.2))
theorem T_ref14_Costs_l1_ok (k : Nat) (p1 : List Int) (p2 : List Int) (x4 : Nat) (x5 : Int) (x37 : Int) (x39 : Int) (x40 : Int) : ∀ (x49 : Int × (List (List Int))) (x : (Int × (List (List Int))) ⊕ (((List (List Int))))), T_ref14_Costs_l1 k p1 p2 x4 x5 x37 x39 x40 x49 = some x → evC X (evF X k) k 0 l_ref14_Costs_1 ⟨[(0, (LI p1)), (1, (LI p2)), (5, (.one (.own 0 0 x4))), (6, (I x37)), (12, (I x5)), (13, (I x39)), (17, (I x40)), (18, (I x49.1))], [.rows (.int .i64 0) (x49.2.map (List.map (D.int .i64))) []]⟩ = some (outS (fun (s : Int × (List (List Int))) => ⟨[(0, (LI p1)), (1, (LI p2)), (5, (.one (.own 0 0 x4))), (6, (I x37)), (12, (I x5)), (13, (I x39)), (17, (I x40)), (18, (I s.1))], [.rows (.int .i64 0) (s.2.map (List.map (D.int .i64))) []]⟩) (fun (r : ((List (List Int)))) => (.exit 2, ⟨[(0, (LI p1)), (1, (LI p2)), (5, (.one (.own 0 0 x4))), (12, (I x5)), (13, (I x39))], [.rows (.int .i64 0) (r.map (List.map (D.int .i64))) []]⟩)) x) := by
 intro x49 x H
 unfold T_ref14_Costs_l1 at H
 refine K_in ?_
 refine K_seq (K_r [] [] (by kernel_rfl) trivial ?_)
 refine K_seq ?_
 rcases ite_some H with ⟨hx50, H⟩ | ⟨hx50, H⟩
 · refine K_t (by kernel_rfl) (decide_eq_true hx50) ?_
   refine K_g (by kernel_rfl) ?_
   refine K_skip (K_seq (K_block (K_seq (K_r [] [] (by kernel_rfl) trivial ?_))))
   obtain ⟨x51, hx51, H⟩ := bind_some' H
   obtain ⟨x52, hx52, H⟩ := bind_some' H
   obtain ⟨hx53, H⟩ := guard_some H
   obtain ⟨x54, hx54, H⟩ := bind_some' H
   obtain ⟨hx55, H⟩ := guard_some H
   refine K_rD [.l [.int .i64 x51], .l [.int .i64 x52], .l [.int .i64 x51], .l [.int .i64 x52], .n 0, .l (x54.map (D.int .i64)), .n x54.length, .n 1, .l (((x54.drop 0).take x54.length ++ ([(w64 ((w64 (x51 - x52)) * (w64 (x51 - x52))))] : List Int)).map (D.int .i64)), .n (0 + x37.toNat), .n (x54.length + 1), .ll ((x49.2.set (0 + x37.toNat) (((x54.drop 0).take x54.length ++ ([(w64 ((w64 (x51 - x52)) * (w64 (x51 - x52))))] : List Int)).take (x54.length + 1))).map (List.map (D.int .i64))), .br []] [(0 : Int) ≤ x37 ∧ x37 < (((p1.map (D.int .i64))).length : Int), ((p1.map (D.int .i64)).getD x37.toNat (.int .i64 0)).cells = [.int .i64 x51], (0 : Int) ≤ x49.1 ∧ x49.1 < (((p2.map (D.int .i64))).length : Int), ((p2.map (D.int .i64)).getD x49.1.toNat (.int .i64 0)).cells = [.int .i64 x52], (0 : Int) ≤ x37 ∧ x37 < (((p1.map (D.int .i64))).length : Int), ((p1.map (D.int .i64)).getD x37.toNat (.int .i64 0)).cells = [.int .i64 x51], (0 : Int) ≤ x49.1 ∧ x49.1 < (((p2.map (D.int .i64))).length : Int), ((p2.map (D.int .i64)).getD x49.1.toNat (.int .i64 0)).cells = [.int .i64 x52], (0 : Int) ≤ x37 ∧ x37 < ((x4 : Nat) : Int), (x49.2.map (List.map (D.int .i64))).getD (0 + x37.toNat) [] = x54.map (D.int .i64), (x54.map (D.int .i64)).length = x54.length, (List.all (([(w64 ((w64 (x51 - x52)) * (w64 (x51 - x52))))] : List Int).map (D.int .i64)) fun d => d.cells.length == (D.cells (.int .i64 0)).length) = true, x54.length + 1 ≤ LIM, (([(w64 ((w64 (x51 - x52)) * (w64 (x51 - x52))))] : List Int).map (D.int .i64)).length = 1, ((x54.map (D.int .i64)).drop 0).take x54.length ++ (([(w64 ((w64 (x51 - x52)) * (w64 (x51 - x52))))] : List Int).map (D.int .i64)) = ((x54.drop 0).take x54.length ++ ([(w64 ((w64 (x51 - x52)) * (w64 (x51 - x52))))] : List Int)).map (D.int .i64), (0 : Int) ≤ x37 ∧ x37 < ((x4 : Nat) : Int), brHas 2 [((0 + x37.toNat), .own 2 0 (x54.length + 1)), ((0 + x37.toNat), .own 1 0 x54.length)] [((0 + x37.toNat), .own 2 0 (x54.length + 1)), ((0 + x37.toNat), .own 1 0 x54.length)] = some ((0 + x37.toNat), (x54.length + 1)), (x49.2.map (List.map (D.int .i64))).set (0 + x37.toNat) ((((x54.drop 0).take x54.length ++ ([(w64 ((w64 (x51 - x52)) * (w64 (x51 - x52))))] : List Int)).map (D.int .i64)).take (x54.length + 1)) = (x49.2.set (0 + x37.toNat) (((x54.drop 0).take x54.length ++ ([(w64 ((w64 (x51 - x52)) * (w64 (x51 - x52))))] : List Int)).take (x54.length + 1))).map (List.map (D.int .i64)), brDel [((0 + x37.toNat), .own 2 0 (x54.length + 1)), ((0 + x37.toNat), .own 1 0 x54.length)] (0 + x37.toNat) = []] (by kernel_rfl) (AC (at_ok hx51 (D.int .i64) (.int .i64 0)).1 (AC (at_ok hx51 (D.int .i64) (.int .i64 0)).2 (AC (at_ok hx52 (D.int .i64) (.int .i64 0)).1 (AC (at_ok hx52 (D.int .i64) (.int .i64 0)).2 (AC (at_ok hx51 (D.int .i64) (.int .i64 0)).1 (AC (at_ok hx51 (D.int .i64) (.int .i64 0)).2 (AC (at_ok hx52 (D.int .i64) (.int .i64 0)).1 (AC (at_ok hx52 (D.int .i64) (.int .i64 0)).2 (AC hx53 (AC (rg_ok hx54 (D.int .i64)) (AC (List.length_map _) (AC (all_ok (D.int .i64) 1 ([(w64 ((w64 (x51 - x52)) * (w64 (x51 - x52))))] : List Int) (fun _ => rfl)) (AC hx55 (AC (by simp) (AC (ap_map (D.int .i64) x54 ([(w64 ((w64 (x51 - x52)) * (w64 (x51 - x52))))] : List Int) 0 x54.length) (AC hx53 (AC bh_1 (AC (bk_map (D.int .i64) x49.2 (0 + x37.toNat) ((x54.drop 0).take x54.length ++ ([(w64 ((w64 (x51 - x52)) * (w64 (x51 - x52))))] : List Int)) (x54.length + 1)) (A1 bd_s))))))))))))))))))) ?_
   refine K_blk (K_r [] [] (by kernel_rfl) trivial ?_)
   cases H
   exact K_end (by kernel_rfl)
 · refine K_f (by kernel_rfl) (decide_eq_false hx50) ?_
   refine K_g (by kernel_rfl) ?_
   cases H
   exact K_exit0 rfl (by kernel_rfl)
def T_ref14_Costs_l2 (k : Nat) (p1 : List Int) (p2 : List Int) (x4 : Nat) (x5 : Int) (x32 : Int × (List (List Int))) : Option ((Int × (List (List Int))) ⊕ (((List (List Int))))) :=
 (if x32.1 < x5 then ((loopT (T_ref14_Costs_l1 k p1 p2 x4 x5 x32.1 x32.1 (p2.length : Int)) k (0, x32.2)).bind fun x56 => some (.inl ((w64 (x32.1 + 1)), x56))) else some (.inr x32.2))
theorem T_ref14_Costs_l2_ok (k : Nat) (p1 : List Int) (p2 : List Int) (x4 : Nat) (x5 : Int) : ∀ (x32 : Int × (List (List Int))) (x : (Int × (List (List Int))) ⊕ (((List (List Int))))), T_ref14_Costs_l2 k p1 p2 x4 x5 x32 = some x → evC X (evF X k) k 0 l_ref14_Costs_2 ⟨[(0, (LI p1)), (1, (LI p2)), (5, (.one (.own 0 0 x4))), (12, (I x5)), (13, (I x32.1))], [.rows (.int .i64 0) (x32.2.map (List.map (D.int .i64))) []]⟩ = some (outS (fun (s : Int × (List (List Int))) => ⟨[(0, (LI p1)), (1, (LI p2)), (5, (.one (.own 0 0 x4))), (12, (I x5)), (13, (I s.1))], [.rows (.int .i64 0) (s.2.map (List.map (D.int .i64))) []]⟩) (fun (r : ((List (List Int)))) => (.exit 0, ⟨[(5, (.one (.own 0 0 x4)))], [.rows (.int .i64 0) (r.map (List.map (D.int .i64))) []]⟩)) x) := by
 intro x32 x H
 unfold T_ref14_Costs_l2 at H
 refine K_in ?_
 refine K_seq (K_r [] [] (by kernel_rfl) trivial ?_)
 refine K_seq ?_
 rcases ite_some H with ⟨hx33, H⟩ | ⟨hx33, H⟩
 · refine K_t (by kernel_rfl) (decide_eq_true hx33) ?_
   refine K_g (by kernel_rfl) ?_
   refine K_skip (K_seq (K_block (K_seq (K_r [] [] (by kernel_rfl) trivial ?_))))
   refine K_seq (K_r [.n p2.length] [((p2.map (D.int .i64))).length = p2.length] (by kernel_rfl) (A1 (List.length_map _)) ?_)
   refine K_block (K_conv (σ' := ⟨[(0, (LI p1)), (1, (LI p2)), (5, (.one (.own 0 0 x4))), (6, (I x32.1)), (12, (I x5)), (13, (I x32.1)), (17, (I (p2.length : Int))), (18, (I 0))], [.rows (.int .i64 0) (x32.2.map (List.map (D.int .i64))) []]⟩) (by kernel_rfl) ?_)
   obtain ⟨x56, hx56, H⟩ := bind_some' H
   refine K_loop ⟨[(0, (LI p1)), (1, (LI p2)), (5, (.one (.own 0 0 x4))), (12, (I x5)), (13, (I x32.1))], [.rows (.int .i64 0) (x56.map (List.map (D.int .i64))) []]⟩ (loop_ok (fun (s : Int × (List (List Int))) => ⟨[(0, (LI p1)), (1, (LI p2)), (5, (.one (.own 0 0 x4))), (6, (I x32.1)), (12, (I x5)), (13, (I x32.1)), (17, (I (p2.length : Int))), (18, (I s.1))], [.rows (.int .i64 0) (s.2.map (List.map (D.int .i64))) []]⟩) (fun (r : ((List (List Int)))) => (.exit 2, ⟨[(0, (LI p1)), (1, (LI p2)), (5, (.one (.own 0 0 x4))), (12, (I x5)), (13, (I x32.1))], [.rows (.int .i64 0) (r.map (List.map (D.int .i64))) []]⟩)) (fun r h => by cases h) (T_ref14_Costs_l1_ok k p1 p2 x4 x5 x32.1 x32.1 (p2.length : Int)) k (0, x32.2) x56 hx56) rfl ?_
   refine K_blk (K_r [] [] (by kernel_rfl) trivial ?_)
   cases H
   exact K_end (by kernel_rfl)
 · refine K_f (by kernel_rfl) (decide_eq_false hx33) ?_
   refine K_g (by kernel_rfl) ?_
   cases H
   exact K_exit0 rfl (by kernel_rfl)
def T_ref14_Costs (k : Nat) (p1 : List Int) (p2 : List Int) : Option ((List (List Int))) := match k with
 | 0 => none
 | k + 1 => (if (0 : Int) ≤ (p1.length : Int) ∧ (p1.length : Int) ≤ (p1.length : Int) ∧ (p1.length : Int) ≤ (LIM : Int) then (loopT (T_ref14_Costs_l2 k p1 p2 ((p1.length : Int).toNat) (p1.length : Int)) k (0, (List.replicate (p1.length : Int).toNat ([] : List Int)))).bind fun x57 => some ((x57.drop 0).take ((p1.length : Int).toNat)) else none)
abbrev C_T_ref14_Costs (k : Nat) (p1 : List Int) (p2 : List Int) (r : (List (List Int))) : Prop := evF X k n_ref14_Costs [(LI p1), (LI p2)] [] = some ((.one (.d (.list (r.map (el (D.int .i64)))))), [])
theorem T_ref14_Costs_ok (k : Nat) (p1 : List Int) (p2 : List Int) (r : (List (List Int))) : T_ref14_Costs k p1 p2 = some r → C_T_ref14_Costs k p1 p2 r := by
 intro H
 cases k with
 | zero => simp [T_ref14_Costs] at H
 | succ k =>
  simp only [T_ref14_Costs] at H
  refine F_in X_ref14_Costs rfl ?_
  refine K_seq (K_r [] [] (by kernel_rfl) trivial ?_)
  refine K_seq ?_
  obtain ⟨hx1, H⟩ := guard_some H
  refine K_r [.n p1.length, .ll ((List.replicate (p1.length : Int).toNat ([] : List Int)).map (List.map (D.int .i64)))] [((p1.map (D.int .i64))).length = p1.length, (0 : Int) ≤ (p1.length : Int) ∧ (p1.length : Int) ≤ (p1.length : Int) ∧ (p1.length : Int) ≤ (LIM : Int), List.replicate (p1.length : Int).toNat ([] : List D) = (List.replicate (p1.length : Int).toNat ([] : List Int)).map (List.map (D.int .i64))] (by kernel_rfl) (AC (List.length_map _) (AC hx1 (A1 (rr_map (D.int .i64) _)))) ?_
  refine K_seq (K_seq (K_r [.n p1.length] [((p1.map (D.int .i64))).length = p1.length] (by kernel_rfl) (A1 (List.length_map _)) ?_))
  refine K_block (K_conv (σ' := ⟨[(0, (LI p1)), (1, (LI p2)), (5, (.one (.own 0 0 ((p1.length : Int).toNat)))), (12, (I (p1.length : Int))), (13, (I 0))], [.rows (.int .i64 0) ((List.replicate (p1.length : Int).toNat ([] : List Int)).map (List.map (D.int .i64))) []]⟩) (by kernel_rfl) ?_)
  obtain ⟨x57, hx57, H⟩ := bind_some' H
  refine K_loop ⟨[(5, (.one (.own 0 0 ((p1.length : Int).toNat))))], [.rows (.int .i64 0) (x57.map (List.map (D.int .i64))) []]⟩ (loop_ok (fun (s : Int × (List (List Int))) => ⟨[(0, (LI p1)), (1, (LI p2)), (5, (.one (.own 0 0 ((p1.length : Int).toNat)))), (12, (I (p1.length : Int))), (13, (I s.1))], [.rows (.int .i64 0) (s.2.map (List.map (D.int .i64))) []]⟩) (fun (r : ((List (List Int)))) => (.exit 0, ⟨[(5, (.one (.own 0 0 ((p1.length : Int).toNat))))], [.rows (.int .i64 0) (r.map (List.map (D.int .i64))) []]⟩)) (fun r h => by cases h) (T_ref14_Costs_l2_ok k p1 p2 ((p1.length : Int).toNat) (p1.length : Int)) k (0, (List.replicate (p1.length : Int).toNat ([] : List Int))) x57 hx57) rfl ?_
  refine K_seq (K_r [] [] (by kernel_rfl) trivial ?_)
  refine K_g (by kernel_rfl) ?_
  cases H
  refine K_ret ?_
  exact Eq.trans (b := some ((.one (.d (.list ((((x57.map (List.map (D.int .i64))).drop 0).take ((p1.length : Int).toNat)).map D.list)))), [])) (by kernel_rfl) (by simp only [dt_map, rl_map, LI, VI])
def T_ref14_out (k : Nat) (p1 : Int) (p2 : Int) (p3 : Int) (p4 : Int) (p5 : Int) : Option Unit := match k with
 | 0 => none
 | k + 1 => some ()
abbrev C_T_ref14_out (k : Nat) (p1 : Int) (p2 : Int) (p3 : Int) (p4 : Int) (p5 : Int) (r : Unit) : Prop := evF X k n_ref14_out [(I p1), (I p2), (I p3), (I p4), (I p5)] [] = some ((B (((((decide (p4 < 0) || decide (p5 < 0)) || decide (p1 ≤ p4)) || decide (p2 ≤ p5)) || decide (p3 < (w64 (p4 - p5)))) || decide (p3 < (w64 (p5 - p4))))), [])
theorem T_ref14_out_ok (k : Nat) (p1 : Int) (p2 : Int) (p3 : Int) (p4 : Int) (p5 : Int) (r : Unit) : T_ref14_out k p1 p2 p3 p4 p5 = some r → C_T_ref14_out k p1 p2 p3 p4 p5 r := by
 intro H
 cases k with
 | zero => simp [T_ref14_out] at H
 | succ k =>
  simp only [T_ref14_out] at H
  refine F_in X_ref14_out rfl ?_
  refine K_seq (K_r [] [] (by kernel_rfl) trivial ?_)
  refine K_seq (K_r [.m, .m, .m, .m, .m] [([] : Heap) = [], ([] : Heap) = [], ([] : Heap) = [], ([] : Heap) = [], ([] : Heap) = []] (by kernel_rfl) (AC rfl (AC rfl (AC rfl (AC rfl (A1 rfl))))) ?_)
  refine K_g (by kernel_rfl) ?_
  cases H
  refine K_ret ?_
  kernel_rfl
def T_ref14_At (k : Nat) (p1 : List (List Int)) (p2 : Int) (p3 : Int) (p4 : Int) : Option Int := match k with
 | 0 => none
 | k + 1 => (((if (p1.length : Int) = 0 then some true else ((at? p1 0).bind fun x4 => (T_ref14_out k (p1.length : Int) (x4.length : Int) p2 p3 p4).bind fun x5 => some (((((decide (p3 < 0) || decide (p4 < 0)) || decide ((p1.length : Int) ≤ p3)) || decide ((x4.length : Int) ≤ p4)) || decide (p2 < (w64 (p3 - p4)))) || decide (p2 < (w64 (p4 - p3))))))).bind fun x6 => (if x6 = true then some 4611686018427387904 else ((at? p1 p3).bind fun x8 => (at? x8 p4).bind fun x9 => some x9)))
abbrev C_T_ref14_At (k : Nat) (p1 : List (List Int)) (p2 : Int) (p3 : Int) (p4 : Int) (r : Int) : Prop := evF X k n_ref14_At [(.one (.d (.list (p1.map (el (D.int .i64)))))), (I p2), (I p3), (I p4)] [] = some ((I r), [])
theorem T_ref14_At_ok (k : Nat) (p1 : List (List Int)) (p2 : Int) (p3 : Int) (p4 : Int) (r : Int) : T_ref14_At k p1 p2 p3 p4 = some r → C_T_ref14_At k p1 p2 p3 p4 r := by
 intro H
 cases k with
 | zero => simp [T_ref14_At] at H
 | succ k =>
  simp only [T_ref14_At] at H
  refine F_in X_ref14_At rfl ?_
  refine K_seq (K_r [] [] (by kernel_rfl) trivial ?_)
  refine K_seq ?_
  refine K_seq ?_
  obtain ⟨x6, hx6, H⟩ := bind_some' H
  refine K_of ⟨[(0, (.one (.d (.list (p1.map (el (D.int .i64))))))), (2, (I p3)), (3, (I p4)), (23, (B x6))], []⟩ ?_ ?_
  · clear H; have H := hx6; clear hx6; refine K_in ?_
    rcases ite_some H with ⟨hx3, H⟩ | ⟨hx3, H⟩
    · refine K_r [.n p1.length, .b true] [((p1.map (el (D.int .i64)))).length = p1.length, decide ((p1.length : Int) = 0) = true] (by kernel_rfl) (AC (List.length_map _) (A1 (decide_eq_true hx3))) ?_
      cases H
      exact K_end (by kernel_rfl)
    · obtain ⟨x4, hx4, H⟩ := bind_some' H
      obtain ⟨x5, hx5, H⟩ := bind_some' H
      refine K_r [.n p1.length, .b false, .n p1.length, .l [.list (x4.map (D.int .i64))], .n x4.length, .r (B (((((decide (p3 < 0) || decide (p4 < 0)) || decide ((p1.length : Int) ≤ p3)) || decide ((x4.length : Int) ≤ p4)) || decide (p2 < (w64 (p3 - p4)))) || decide (p2 < (w64 (p4 - p3))))) []] [((p1.map (el (D.int .i64)))).length = p1.length, decide ((p1.length : Int) = 0) = false, ((p1.map (el (D.int .i64)))).length = p1.length, (0 : Int) ≤ 0 ∧ 0 < (((p1.map (el (D.int .i64)))).length : Int), ((p1.map (el (D.int .i64))).getD 0 (.list [])).cells = [.list (x4.map (D.int .i64))], ((x4.map (D.int .i64))).length = x4.length, C_T_ref14_out k (p1.length : Int) (x4.length : Int) p2 p3 p4 x5] (by kernel_rfl) (AC (List.length_map _) (AC (decide_eq_false hx3) (AC (List.length_map _) (AC (at_ok hx4 (el (D.int .i64)) (.list [])).1 (AC (at_ok hx4 (el (D.int .i64)) (.list [])).2 (AC (List.length_map _) (A1 (T_ref14_out_ok k (p1.length : Int) (x4.length : Int) p2 p3 p4 x5 hx5)))))))) ?_
      cases H
      exact K_end (by kernel_rfl)
  rcases ite_some H with ⟨hx7, H⟩ | ⟨hx7, H⟩
  · refine K_t (by kernel_rfl) hx7 ?_
    refine K_seq (K_r [] [] (by kernel_rfl) trivial ?_)
    refine K_g (by kernel_rfl) ?_
    cases H
    refine K_ret ?_
    kernel_rfl
  · refine K_f (by kernel_rfl) (Bool.eq_false_iff.2 hx7) ?_
    refine K_g (by kernel_rfl) ?_
    refine K_skip ?_
    refine K_seq ?_
    obtain ⟨x8, hx8, H⟩ := bind_some' H
    obtain ⟨x9, hx9, H⟩ := bind_some' H
    refine K_r [.l [.list (x8.map (D.int .i64))], .l [.int .i64 x9]] [(0 : Int) ≤ p3 ∧ p3 < (((p1.map (el (D.int .i64)))).length : Int), ((p1.map (el (D.int .i64))).getD p3.toNat (.list [])).cells = [.list (x8.map (D.int .i64))], (0 : Int) ≤ p4 ∧ p4 < (((x8.map (D.int .i64))).length : Int), ((x8.map (D.int .i64)).getD p4.toNat (.int .i64 0)).cells = [.int .i64 x9]] (by kernel_rfl) (AC (at_ok hx8 (el (D.int .i64)) (.list [])).1 (AC (at_ok hx8 (el (D.int .i64)) (.list [])).2 (AC (at_ok hx9 (D.int .i64) (.int .i64 0)).1 (A1 (at_ok hx9 (D.int .i64) (.int .i64 0)).2)))) ?_
    refine K_g (by kernel_rfl) ?_
    cases H
    refine K_ret ?_
    kernel_rfl
def T_ref14_Before_l1 (k : Nat) (p1 : List (List Int)) (p2 : Int) (p3 : Int) (x3 : Int) (p4 : Int) (x6 : Int) (x18 : Int × Int × Int) : Option ((Int × Int × Int) ⊕ ((Int × Int))) :=
 (if x18.1 < 2 then ((at? ([(x3, p4), (p3, x6)] : List (Int × Int)) x18.1).bind fun x20 => (T_ref14_At k p1 p2 x20.1 x20.2).bind fun x21 => (T_ref14_At k p1 p2 x18.2.1 x18.2.2).bind fun x22 => ((if x21 < x22 then some (x20.1, x20.2) else some (x18.2.1, x18.2.2))).bind fun x24 => some (.inl ((w64 (x18.1 + 1)), x24.1, x24.2))) else some (.inr (x18.2.1, x18.2.2)))
theorem T_ref14_Before_l1_ok (k : Nat) (p1 : List (List Int)) (p2 : Int) (p3 : Int) (x3 : Int) (p4 : Int) (x6 : Int) : ∀ (x18 : Int × Int × Int) (x : (Int × Int × Int) ⊕ ((Int × Int))), T_ref14_Before_l1 k p1 p2 p3 x3 p4 x6 x18 = some x → evC X (evF X k) k 0 l_ref14_Before_1 ⟨[(0, (.one (.d (.list (p1.map (el (D.int .i64))))))), (1, (I p2)), (8, (Pt 0)), (9, (Pt 1)), (25, (.agg [cI x3, cI p4, cI p3, cI x6])), (26, (I x18.1))], [.cells [cI 0, cI 0], .cells [cI x18.2.1, cI x18.2.2]]⟩ = some (outS (fun (s : Int × Int × Int) => ⟨[(0, (.one (.d (.list (p1.map (el (D.int .i64))))))), (1, (I p2)), (8, (Pt 0)), (9, (Pt 1)), (25, (.agg [cI x3, cI p4, cI p3, cI x6])), (26, (I s.1))], [.cells [cI 0, cI 0], .cells [cI s.2.1, cI s.2.2]]⟩) (fun (r : (Int × Int)) => (.exit 0, ⟨[(8, (Pt 0)), (9, (Pt 1))], [.cells [cI 0, cI 0], .cells [cI r.1, cI r.2]]⟩)) x) := by
 intro x18 x H
 unfold T_ref14_Before_l1 at H
 refine K_in ?_
 refine K_seq (K_r [] [] (by kernel_rfl) trivial ?_)
 refine K_seq ?_
 rcases ite_some H with ⟨hx19, H⟩ | ⟨hx19, H⟩
 · refine K_t (by kernel_rfl) (decide_eq_true hx19) ?_
   refine K_g (by kernel_rfl) ?_
   refine K_skip ?_
   refine K_seq ?_
   refine K_block ?_
   refine K_seq ?_
   obtain ⟨x20, hx20, H⟩ := bind_some' H
   refine K_r [.l [.int .i64 x20.1, .int .i64 x20.2]] [(0 : Int) ≤ x18.1 ∧ x18.1 < ((2 : Nat) : Int), (List.drop (x18.1.toNat * 2) [cI x3, cI p4, cI p3, cI x6]).take 2 = [cI x20.1, cI x20.2]] (by kernel_rfl) (AC (vx_in hx20 2 rfl) (A1 (vx_ok hx20 (fun p : Int × Int => [cI p.1, cI p.2]) 2 (fun _ => rfl)))) ?_
   refine K_seq ?_
   obtain ⟨x21, hx21, H⟩ := bind_some' H
   obtain ⟨x22, hx22, H⟩ := bind_some' H
   refine K_r [.r (I x21) [], .r (I x22) []] [C_T_ref14_At k p1 p2 x20.1 x20.2 x21, C_T_ref14_At k p1 p2 x18.2.1 x18.2.2 x22] (by kernel_rfl) (AC (T_ref14_At_ok k p1 p2 x20.1 x20.2 x21 hx21) (A1 (T_ref14_At_ok k p1 p2 x18.2.1 x18.2.2 x22 hx22))) ?_
   obtain ⟨x24, hx24, H⟩ := bind_some' H
   refine K_of ⟨[(0, (.one (.d (.list (p1.map (el (D.int .i64))))))), (1, (I p2)), (8, (Pt 0)), (9, (Pt 1)), (25, (.agg [cI x3, cI p4, cI p3, cI x6])), (26, (I x18.1))], [.cells [cI 0, cI 0], .cells [cI x24.1, cI x24.2]]⟩ ?_ ?_
   · clear H; have H := hx24; clear hx24; refine K_in ?_
     rcases ite_some H with ⟨hx23, H⟩ | ⟨hx23, H⟩
     · refine K_t (by kernel_rfl) (decide_eq_true hx23) ?_
       refine K_r [] [] (by kernel_rfl) trivial ?_
       cases H
       exact K_end (by kernel_rfl)
     · refine K_f (by kernel_rfl) (decide_eq_false hx23) ?_
       refine K_g (by kernel_rfl) ?_
       refine K_skip ?_
       cases H
       exact K_end (by kernel_rfl)
   refine K_blk (K_r [] [] (by kernel_rfl) trivial ?_)
   cases H
   exact K_end (by kernel_rfl)
 · refine K_f (by kernel_rfl) (decide_eq_false hx19) ?_
   refine K_g (by kernel_rfl) ?_
   cases H
   exact K_exit0 rfl (by kernel_rfl)
def T_ref14_Before (k : Nat) (p1 : List (List Int)) (p2 : Int) (p3 : Int) (p4 : Int) : Option (Int × Int) := match k with
 | 0 => none
 | k + 1 => ((loopT (T_ref14_Before_l1 k p1 p2 p3 (w64 (p3 - 1)) p4 (w64 (p4 - 1))) k (0, (w64 (p3 - 1)), (w64 (p4 - 1)))).bind fun x25 => some (x25.1, x25.2))
abbrev C_T_ref14_Before (k : Nat) (p1 : List (List Int)) (p2 : Int) (p3 : Int) (p4 : Int) (r : Int × Int) : Prop := evF X k n_ref14_Before [(.one (.d (.list (p1.map (el (D.int .i64)))))), (I p2), (I p3), (I p4)] [] = some ((.agg [cI r.1, cI r.2]), [])
theorem T_ref14_Before_ok (k : Nat) (p1 : List (List Int)) (p2 : Int) (p3 : Int) (p4 : Int) (r : Int × Int) : T_ref14_Before k p1 p2 p3 p4 = some r → C_T_ref14_Before k p1 p2 p3 p4 r := by
 intro H
 cases k with
 | zero => simp [T_ref14_Before] at H
 | succ k =>
  simp only [T_ref14_Before] at H
  refine F_in X_ref14_Before rfl ?_
  refine K_seq (K_r [] [] (by kernel_rfl) trivial ?_)
  refine K_seq (K_r [] [] (by kernel_rfl) trivial ?_)
  refine K_seq (K_seq (K_r [] [] (by kernel_rfl) trivial ?_))
  refine K_block (K_conv (σ' := ⟨[(0, (.one (.d (.list (p1.map (el (D.int .i64))))))), (1, (I p2)), (8, (Pt 0)), (9, (Pt 1)), (25, (.agg [cI (w64 (p3 - 1)), cI p4, cI p3, cI (w64 (p4 - 1))])), (26, (I 0))], [.cells [cI 0, cI 0], .cells [cI (w64 (p3 - 1)), cI (w64 (p4 - 1))]]⟩) (by kernel_rfl) ?_)
  obtain ⟨x25, hx25, H⟩ := bind_some' H
  refine K_loop ⟨[(8, (Pt 0)), (9, (Pt 1))], [.cells [cI 0, cI 0], .cells [cI x25.1, cI x25.2]]⟩ (loop_ok (fun (s : Int × Int × Int) => ⟨[(0, (.one (.d (.list (p1.map (el (D.int .i64))))))), (1, (I p2)), (8, (Pt 0)), (9, (Pt 1)), (25, (.agg [cI (w64 (p3 - 1)), cI p4, cI p3, cI (w64 (p4 - 1))])), (26, (I s.1))], [.cells [cI 0, cI 0], .cells [cI s.2.1, cI s.2.2]]⟩) (fun (r : (Int × Int)) => (.exit 0, ⟨[(8, (Pt 0)), (9, (Pt 1))], [.cells [cI 0, cI 0], .cells [cI r.1, cI r.2]]⟩)) (fun r h => by cases h) (T_ref14_Before_l1_ok k p1 p2 p3 (w64 (p3 - 1)) p4 (w64 (p4 - 1))) k (0, (w64 (p3 - 1)), (w64 (p4 - 1))) x25 hx25) rfl ?_
  refine K_seq (K_r [] [] (by kernel_rfl) trivial ?_)
  refine K_g (by kernel_rfl) ?_
  cases H
  refine K_ret ?_
  kernel_rfl
end Go.Proofs.Ytdelnjemfjihpaa.envelopeCascade
