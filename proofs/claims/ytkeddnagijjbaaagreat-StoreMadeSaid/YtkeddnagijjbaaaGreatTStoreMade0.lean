/- What the functions that the statement StoreMade reaches compute, told as functions of Lean, and that the theory's language computes the same: part 1 of 1. There are no conditions. -/
import Derived.Test.YtkeddnagijjbaaaGreatMStoreMade
set_option maxRecDepth 100000
set_option linter.unusedVariables false
set_option linter.unusedSimpArgs false
namespace Go.Proofs.YtkeddnagijjbaaaGreat.storeMade
open Go
abbrev e_st0 (p : Int × Int) : D := .agg [.int .i64 p.1, .int .i64 p.2]
def T_shapesearchsecond_Few (k : Nat) (p1 : List Int) : Option Unit := match k with
 | 0 => none
 | k + 1 => some ()
abbrev C_T_shapesearchsecond_Few (k : Nat) (p1 : List Int) (r : Unit) : Prop := evF X k n_shapesearchsecond_Few [(LI p1)] [] = some ((B (decide ((p1.length : Int) ≤ 400))), [])
theorem T_shapesearchsecond_Few_ok (k : Nat) (p1 : List Int) (r : Unit) : T_shapesearchsecond_Few k p1 = some r → C_T_shapesearchsecond_Few k p1 r := by
 intro H
 cases k with
 | zero => simp [T_shapesearchsecond_Few] at H
 | succ k =>
  simp only [T_shapesearchsecond_Few] at H
  refine F_in X_shapesearchsecond_Few rfl ?_
  refine K_seq (K_r [] [] (by kernel_rfl) trivial ?_)
  refine K_seq (K_r [.n p1.length] [((p1.map (D.int .i64))).length = p1.length] (by kernel_rfl) (A1 (List.length_map _)) ?_)
  refine K_g (by kernel_rfl) ?_
  cases H
  refine K_ret ?_
  kernel_rfl
def T_law23_awake (k : Nat) : Option Bool := if 1000 ≤ k then some true else none
theorem T_law23_awake_run (k : Nat) : evF X (k + 1000) n_law23_awake [] [] = some (B true, []) := by kernel_rfl
abbrev C_T_law23_awake (k : Nat) (r : Bool) : Prop := evF X k n_law23_awake [] [] = some (B r, [])
theorem T_law23_awake_ok (k : Nat) (r : Bool) : T_law23_awake k = some r → evF X k n_law23_awake [] [] = some (B r, []) := by
 intro H
 unfold T_law23_awake at H
 split at H
 · rename_i h
   obtain ⟨j, rfl⟩ := Nat.exists_eq_add_of_le' h
   cases H
   exact T_law23_awake_run j
 · cases H
def T_shapesearchsecond_New (k : Nat) (p1 : List Int) : Option Unit := match k with
 | 0 => none
 | k + 1 => some ()
abbrev C_T_shapesearchsecond_New (k : Nat) (p1 : List Int) (r : Unit) : Prop := evF X k n_shapesearchsecond_New [(LI p1)] [] = some ((Pt 0), [.cells [cL p1, cI 0]])
theorem T_shapesearchsecond_New_ok (k : Nat) (p1 : List Int) (r : Unit) : T_shapesearchsecond_New k p1 = some r → C_T_shapesearchsecond_New k p1 r := by
 intro H
 cases k with
 | zero => simp [T_shapesearchsecond_New] at H
 | succ k =>
  simp only [T_shapesearchsecond_New] at H
  refine F_in X_shapesearchsecond_New rfl ?_
  refine K_seq (K_r [] [] (by kernel_rfl) trivial ?_)
  refine K_seq (K_r [] [] (by kernel_rfl) trivial ?_)
  refine K_g (by kernel_rfl) ?_
  cases H
  refine K_ret ?_
  kernel_rfl
def T_shapesearchsecond_Mod (k : Nat) (p1 : Int) (p2 : Int) : Option Unit := match k with
 | 0 => none
 | k + 1 => (if p2 ≠ 0 then some () else none)
abbrev C_T_shapesearchsecond_Mod (k : Nat) (p1 : Int) (p2 : Int) (r : Unit) : Prop := evF X k n_shapesearchsecond_Mod [(I p1), (I p2)] [] = some ((I ((w64 ((p1.tmod p2) + p2)).tmod p2)), [])
theorem T_shapesearchsecond_Mod_ok (k : Nat) (p1 : Int) (p2 : Int) (r : Unit) : T_shapesearchsecond_Mod k p1 p2 = some r → C_T_shapesearchsecond_Mod k p1 p2 r := by
 intro H
 cases k with
 | zero => simp [T_shapesearchsecond_Mod] at H
 | succ k =>
  simp only [T_shapesearchsecond_Mod] at H
  refine F_in X_shapesearchsecond_Mod rfl ?_
  refine K_seq (K_r [] [] (by kernel_rfl) trivial ?_)
  refine K_seq ?_
  obtain ⟨hx1, H⟩ := guard_some H
  refine K_r [] [p2 ≠ (0 : Int), p2 ≠ (0 : Int)] (by kernel_rfl) (AC hx1 (A1 hx1)) ?_
  refine K_g (by kernel_rfl) ?_
  cases H
  refine K_ret ?_
  kernel_rfl
def T_shapesearchsecond_Deck_Next (k : Nat) (p1 : Int) (p2 : List Int) (p3 : Int) : Option (Int × Int) := match k with
 | 0 => none
 | k + 1 => (if (decide ((p2.length : Int) ≤ p3) || decide (p1 ≤ 1)) = true then some (0, p3) else ((at? p2 (w64 ((w64 (p3 + 1)) - 1))).bind fun x2 => (T_shapesearchsecond_Mod k x2 p1).bind fun x3 => some (((w64 ((x2.tmod p1) + p1)).tmod p1), (w64 (p3 + 1)))))
abbrev C_T_shapesearchsecond_Deck_Next (k : Nat) (p1 : Int) (p2 : List Int) (p3 : Int) (r : Int × Int) : Prop := evF X k n_shapesearchsecond_Deck_Next [(Pt 0), (I p1)] [.cells [cL p2, cI p3]] = some ((I r.1), [.cells [cL p2, cI r.2]])
theorem T_shapesearchsecond_Deck_Next_ok (k : Nat) (p1 : Int) (p2 : List Int) (p3 : Int) (r : Int × Int) : T_shapesearchsecond_Deck_Next k p1 p2 p3 = some r → C_T_shapesearchsecond_Deck_Next k p1 p2 p3 r := by
 intro H
 cases k with
 | zero => simp [T_shapesearchsecond_Deck_Next] at H
 | succ k =>
  simp only [T_shapesearchsecond_Deck_Next] at H
  refine F_in X_shapesearchsecond_Deck_Next rfl ?_
  refine K_seq (K_r [] [] (by kernel_rfl) trivial ?_)
  refine K_seq (K_seq (K_r [.n p2.length, .m] [((p2.map (D.int .i64))).length = p2.length, ([.cells [cL p2, cI p3]] : Heap) = [.cells [cL p2, cI p3]]] (by kernel_rfl) (AC (List.length_map _) (A1 rfl)) ?_))
  rcases ite_some H with ⟨hx1, H⟩ | ⟨hx1, H⟩
  · refine K_t (by kernel_rfl) hx1 ?_
    refine K_seq (K_r [] [] (by kernel_rfl) trivial ?_)
    refine K_g (by kernel_rfl) ?_
    cases H
    refine K_ret ?_
    kernel_rfl
  · refine K_f (by kernel_rfl) (Bool.eq_false_iff.2 hx1) ?_
    refine K_g (by kernel_rfl) ?_
    refine K_skip (K_seq (K_r [] [] (by kernel_rfl) trivial ?_))
    refine K_seq ?_
    obtain ⟨x2, hx2, H⟩ := bind_some' H
    obtain ⟨x3, hx3, H⟩ := bind_some' H
    refine K_r [.l [.int .i64 x2], .r (I ((w64 ((x2.tmod p1) + p1)).tmod p1)) []] [(0 : Int) ≤ (w64 ((w64 (p3 + 1)) - 1)) ∧ (w64 ((w64 (p3 + 1)) - 1)) < (((p2.map (D.int .i64))).length : Int), ((p2.map (D.int .i64)).getD (w64 ((w64 (p3 + 1)) - 1)).toNat (.int .i64 0)).cells = [.int .i64 x2], C_T_shapesearchsecond_Mod k x2 p1 x3] (by kernel_rfl) (AC (at_ok hx2 (D.int .i64) (.int .i64 0)).1 (AC (at_ok hx2 (D.int .i64) (.int .i64 0)).2 (A1 (T_shapesearchsecond_Mod_ok k x2 p1 x3 hx3)))) ?_
    refine K_g (by kernel_rfl) ?_
    cases H
    refine K_ret ?_
    kernel_rfl
def T_shapesearchsecond_Deck_Sample (k : Nat) (p1 : List Int) (p2 : Int) : Option (Int × Int) := match k with
 | 0 => none
 | k + 1 => ((T_shapesearchsecond_Deck_Next k 12 p1 p2).bind fun x1 => (if x1.1 = 0 then ((T_shapesearchsecond_Deck_Next k 2001 p1 x1.2).bind fun x3 => some ((w64 (x3.1 - 1000)), x3.2)) else (if x1.1 = 1 then ((T_shapesearchsecond_Deck_Next k 2 p1 x1.2).bind fun x5 => (at? ([1000, (-1000)] : List Int) x5.1).bind fun x6 => some (x6, x5.2)) else ((T_shapesearchsecond_Deck_Next k 13 p1 x1.2).bind fun x7 => some ((w64 (x7.1 - 4)), x7.2)))))
abbrev C_T_shapesearchsecond_Deck_Sample (k : Nat) (p1 : List Int) (p2 : Int) (r : Int × Int) : Prop := evF X k n_shapesearchsecond_Deck_Sample [(Pt 0)] [.cells [cL p1, cI p2]] = some ((I r.1), [.cells [cL p1, cI r.2]])
theorem T_shapesearchsecond_Deck_Sample_ok (k : Nat) (p1 : List Int) (p2 : Int) (r : Int × Int) : T_shapesearchsecond_Deck_Sample k p1 p2 = some r → C_T_shapesearchsecond_Deck_Sample k p1 p2 r := by
 intro H
 cases k with
 | zero => simp [T_shapesearchsecond_Deck_Sample] at H
 | succ k =>
  simp only [T_shapesearchsecond_Deck_Sample] at H
  refine F_in X_shapesearchsecond_Deck_Sample rfl ?_
  refine K_seq (K_r [] [] (by kernel_rfl) trivial ?_)
  refine K_seq ?_
  refine K_seq ?_
  obtain ⟨x1, hx1, H⟩ := bind_some' H
  refine K_r [.r (I x1.1) [.cells [cL p1, cI x1.2]]] [C_T_shapesearchsecond_Deck_Next k 12 p1 p2 x1] (by kernel_rfl) (A1 (T_shapesearchsecond_Deck_Next_ok k 12 p1 p2 x1 hx1)) ?_
  refine K_block (K_seq (K_r [] [] (by kernel_rfl) trivial ?_))
  rcases ite_some H with ⟨hx2, H⟩ | ⟨hx2, H⟩
  · refine K_t (by kernel_rfl) (decide_eq_true hx2) ?_
    refine K_seq ?_
    obtain ⟨x3, hx3, H⟩ := bind_some' H
    refine K_r [.r (I x3.1) [.cells [cL p1, cI x3.2]]] [C_T_shapesearchsecond_Deck_Next k 2001 p1 x1.2 x3] (by kernel_rfl) (A1 (T_shapesearchsecond_Deck_Next_ok k 2001 p1 x1.2 x3 hx3)) ?_
    refine K_g (by kernel_rfl) ?_
    cases H
    refine K_ret ?_
    kernel_rfl
  · refine K_f (by kernel_rfl) (decide_eq_false hx2) ?_
    refine K_seq (K_r [] [] (by kernel_rfl) trivial ?_)
    rcases ite_some H with ⟨hx4, H⟩ | ⟨hx4, H⟩
    · refine K_t (by kernel_rfl) (decide_eq_true hx4) ?_
      refine K_seq ?_
      obtain ⟨x5, hx5, H⟩ := bind_some' H
      obtain ⟨x6, hx6, H⟩ := bind_some' H
      refine K_r [.r (I x5.1) [.cells [cL p1, cI x5.2]], .l [.int .i64 x6]] [C_T_shapesearchsecond_Deck_Next k 2 p1 x1.2 x5, (0 : Int) ≤ x5.1 ∧ x5.1 < (((([1000, (-1000)] : List Int).map (D.int .i64))).length : Int), ((([1000, (-1000)] : List Int).map (D.int .i64)).getD x5.1.toNat (.int .i64 0)).cells = [.int .i64 x6]] (by kernel_rfl) (AC (T_shapesearchsecond_Deck_Next_ok k 2 p1 x1.2 x5 hx5) (AC (at_ok hx6 (D.int .i64) (.int .i64 0)).1 (A1 (at_ok hx6 (D.int .i64) (.int .i64 0)).2))) ?_
      refine K_g (by kernel_rfl) ?_
      cases H
      refine K_ret ?_
      kernel_rfl
    · refine K_f (by kernel_rfl) (decide_eq_false hx4) ?_
      refine K_g (by kernel_rfl) ?_
      refine K_skip ?_
      refine K_blk ?_
      refine K_seq ?_
      obtain ⟨x7, hx7, H⟩ := bind_some' H
      refine K_r [.r (I x7.1) [.cells [cL p1, cI x7.2]]] [C_T_shapesearchsecond_Deck_Next k 13 p1 x1.2 x7] (by kernel_rfl) (A1 (T_shapesearchsecond_Deck_Next_ok k 13 p1 x1.2 x7 hx7)) ?_
      refine K_g (by kernel_rfl) ?_
      cases H
      refine K_ret ?_
      kernel_rfl
def T_shapesearchsecond_Deck_Values_l1 (k : Nat) (p1 : Int) (p2 : List Int) (x5 : Int) (x6 : Int) (x25 : Nat × Int × Int × (List Int)) : Option ((Nat × Int × Int × (List Int)) ⊕ ((Nat × Int × (List Int)))) :=
 (if x25.2.1 < p1 then (T_shapesearchsecond_Deck_Sample k p2 x25.2.2.1).bind fun x27 => ((if x5 = 0 then (if x6 ≠ 0 then some ((w64 ((x25.2.1.tmod x6) * 3)), x27.2) else none) else (if x5 = 1 then (if x6 ≠ 0 then (T_shapesearchsecond_Deck_Next k 2 p2 x27.2).bind fun x32 => some ((w64 ((w64 ((x25.2.1.tmod x6) * 4)) + x32.1)), x32.2) else none) else (if x5 = 2 then (if x6 ≠ 0 then some ((w64 ((w64 (x25.2.1.tdiv x6)) * 2)), x27.2) else none) else some (x27.1, x27.2))))).bind fun x35 => (T_shapesearchsecond_Deck_Next k 30 p2 x35.2).bind fun x36 => ((if x36.1 = 29 then some 1073741824 else some x35.1)).bind fun x38 => (if x25.1 + 1 ≤ LIM then some (.inl ((x25.1 + 1), (w64 (x25.2.1 + 1)), x36.2, ((x25.2.2.2.drop 0).take x25.1 ++ ([x38] : List Int)))) else none) else some (.inr (x25.1, x25.2.2.1, x25.2.2.2)))
theorem T_shapesearchsecond_Deck_Values_l1_ok (k : Nat) (p1 : Int) (p2 : List Int) (x5 : Int) (x6 : Int) : ∀ (x25 : Nat × Int × Int × (List Int)) (x : (Nat × Int × Int × (List Int)) ⊕ ((Nat × Int × (List Int)))), T_shapesearchsecond_Deck_Values_l1 k p1 p2 x5 x6 x25 = some x → evC X (evF X k) k 1 l_shapesearchsecond_Deck_Values_1 ⟨[(0, (Pt 0)), (1, (I p1)), (5, (.one (.own 1 0 x25.1))), (6, (I x5)), (7, (I x6)), (8, (I x25.2.1))], [.cells [cL p2, cI x25.2.2.1], VI x25.2.2.2]⟩ = some (outS (fun (s : Nat × Int × Int × (List Int)) => ⟨[(0, (Pt 0)), (1, (I p1)), (5, (.one (.own 1 0 s.1))), (6, (I x5)), (7, (I x6)), (8, (I s.2.1))], [.cells [cL p2, cI s.2.2.1], VI s.2.2.2]⟩) (fun (r : (Nat × Int × (List Int))) => (.exit 0, ⟨[(5, (.one (.own 1 0 r.1)))], [.cells [cL p2, cI r.2.1], VI r.2.2]⟩)) x) := by
 intro x25 x H
 unfold T_shapesearchsecond_Deck_Values_l1 at H
 refine K_in ?_
 refine K_seq (K_seq (K_r [] [] (by kernel_rfl) trivial ?_))
 rcases ite_some H with ⟨hx26, H⟩ | ⟨hx26, H⟩
 · refine K_t (by kernel_rfl) (decide_eq_true hx26) ?_
   refine K_g (by kernel_rfl) ?_
   refine K_skip ?_
   refine K_seq ?_
   refine K_block ?_
   refine K_seq ?_
   obtain ⟨x27, hx27, H⟩ := bind_some' H
   refine K_r [.r (I x27.1) [.cells [cL p2, cI x27.2]]] [C_T_shapesearchsecond_Deck_Sample k p2 x25.2.2.1 x27] (by kernel_rfl) (A1 (T_shapesearchsecond_Deck_Sample_ok k p2 x25.2.2.1 x27 hx27)) ?_
   refine K_seq (K_seq (K_r [] [] (by kernel_rfl) trivial ?_))
   refine K_block (K_seq (K_r [] [] (by kernel_rfl) trivial ?_))
   obtain ⟨x35, hx35, H⟩ := bind_some' H
   refine K_of ⟨[(0, (Pt 0)), (1, (I p1)), (5, (.one (.own 1 0 x25.1))), (6, (I x5)), (7, (I x6)), (8, (I x25.2.1)), (9, (I x35.1))], [.cells [cL p2, cI x35.2], VI x25.2.2.2]⟩ ?_ ?_
   · clear H; have H := hx35; clear hx35; refine K_in ?_
     rcases ite_some H with ⟨hx28, H⟩ | ⟨hx28, H⟩
     · refine K_t (by kernel_rfl) (decide_eq_true hx28) ?_
       obtain ⟨hx29, H⟩ := guard_some H
       refine K_r [] [x6 ≠ (0 : Int)] (by kernel_rfl) (A1 hx29) ?_
       cases H
       exact K_end (by kernel_rfl)
     · refine K_f (by kernel_rfl) (decide_eq_false hx28) ?_
       refine K_seq (K_r [] [] (by kernel_rfl) trivial ?_)
       rcases ite_some H with ⟨hx30, H⟩ | ⟨hx30, H⟩
       · refine K_t (by kernel_rfl) (decide_eq_true hx30) ?_
         obtain ⟨hx31, H⟩ := guard_some H
         obtain ⟨x32, hx32, H⟩ := bind_some' H
         refine K_r [.r (I x32.1) [.cells [cL p2, cI x32.2]]] [x6 ≠ (0 : Int), C_T_shapesearchsecond_Deck_Next k 2 p2 x27.2 x32] (by kernel_rfl) (AC hx31 (A1 (T_shapesearchsecond_Deck_Next_ok k 2 p2 x27.2 x32 hx32))) ?_
         cases H
         exact K_end (by kernel_rfl)
       · refine K_f (by kernel_rfl) (decide_eq_false hx30) ?_
         refine K_seq (K_r [] [] (by kernel_rfl) trivial ?_)
         rcases ite_some H with ⟨hx33, H⟩ | ⟨hx33, H⟩
         · refine K_t (by kernel_rfl) (decide_eq_true hx33) ?_
           obtain ⟨hx34, H⟩ := guard_some H
           refine K_r [] [x6 ≠ (0 : Int)] (by kernel_rfl) (A1 hx34) ?_
           cases H
           exact K_end (by kernel_rfl)
         · refine K_f (by kernel_rfl) (decide_eq_false hx33) ?_
           refine K_g (by kernel_rfl) ?_
           refine K_skip ?_
           cases H
           exact K_end (by kernel_rfl)
   refine K_blk ?_
   refine K_seq ?_
   refine K_seq ?_
   obtain ⟨x36, hx36, H⟩ := bind_some' H
   refine K_r [.r (I x36.1) [.cells [cL p2, cI x36.2]]] [C_T_shapesearchsecond_Deck_Next k 30 p2 x35.2 x36] (by kernel_rfl) (A1 (T_shapesearchsecond_Deck_Next_ok k 30 p2 x35.2 x36 hx36)) ?_
   obtain ⟨x38, hx38, H⟩ := bind_some' H
   refine K_of ⟨[(0, (Pt 0)), (1, (I p1)), (5, (.one (.own 1 0 x25.1))), (6, (I x5)), (7, (I x6)), (8, (I x25.2.1)), (9, (I x38))], [.cells [cL p2, cI x36.2], VI x25.2.2.2]⟩ ?_ ?_
   · clear H; have H := hx38; clear hx38; refine K_in ?_
     rcases ite_some H with ⟨hx37, H⟩ | ⟨hx37, H⟩
     · refine K_t (by kernel_rfl) (decide_eq_true hx37) ?_
       refine K_r [] [] (by kernel_rfl) trivial ?_
       cases H
       exact K_end (by kernel_rfl)
     · refine K_f (by kernel_rfl) (decide_eq_false hx37) ?_
       refine K_g (by kernel_rfl) ?_
       refine K_skip ?_
       cases H
       exact K_end (by kernel_rfl)
   obtain ⟨hx39, H⟩ := guard_some H
   refine K_r [.n 1, .l (((x25.2.2.2.drop 0).take x25.1 ++ ([x38] : List Int)).map (D.int .i64))] [(List.all (([x38] : List Int).map (D.int .i64)) fun d => d.cells.length == (D.cells (.int .i64 0)).length) = true, x25.1 + 1 ≤ LIM, (([x38] : List Int).map (D.int .i64)).length = 1, ((x25.2.2.2.map (D.int .i64)).drop 0).take x25.1 ++ (([x38] : List Int).map (D.int .i64)) = ((x25.2.2.2.drop 0).take x25.1 ++ ([x38] : List Int)).map (D.int .i64)] (by kernel_rfl) (AC (all_ok (D.int .i64) 1 ([x38] : List Int) (fun _ => rfl)) (AC hx39 (AC (by simp) (A1 (ap_map (D.int .i64) x25.2.2.2 ([x38] : List Int) 0 x25.1))))) ?_
   refine K_blk (K_r [] [] (by kernel_rfl) trivial ?_)
   cases H
   exact K_end (by kernel_rfl)
 · refine K_f (by kernel_rfl) (decide_eq_false hx26) ?_
   refine K_g (by kernel_rfl) ?_
   cases H
   exact K_exit0 rfl (by kernel_rfl)
def T_shapesearchsecond_Deck_Values (k : Nat) (p1 : Int) (p2 : List Int) (p3 : Int) : Option (Nat × Int × (List Int)) := match k with
 | 0 => none
 | k + 1 => ((T_shapesearchsecond_Deck_Next k 5 p2 p3).bind fun x1 => (T_shapesearchsecond_Deck_Next k 4 p2 x1.2).bind fun x2 => (loopT (T_shapesearchsecond_Deck_Values_l1 k p1 p2 x1.1 (w64 (2 + x2.1))) k (0, 0, x2.2, [])).bind fun x40 => some (x40.1, x40.2.1, x40.2.2))
abbrev C_T_shapesearchsecond_Deck_Values (k : Nat) (p1 : Int) (p2 : List Int) (p3 : Int) (r : Nat × Int × (List Int)) : Prop := evF X k n_shapesearchsecond_Deck_Values [(Pt 0), (I p1)] [.cells [cL p2, cI p3]] = some ((.one (.own 1 0 r.1)), [.cells [cL p2, cI r.2.1], VI r.2.2])
theorem T_shapesearchsecond_Deck_Values_ok (k : Nat) (p1 : Int) (p2 : List Int) (p3 : Int) (r : Nat × Int × (List Int)) : T_shapesearchsecond_Deck_Values k p1 p2 p3 = some r → C_T_shapesearchsecond_Deck_Values k p1 p2 p3 r := by
 intro H
 cases k with
 | zero => simp [T_shapesearchsecond_Deck_Values] at H
 | succ k =>
  simp only [T_shapesearchsecond_Deck_Values] at H
  refine F_in X_shapesearchsecond_Deck_Values rfl ?_
  refine K_seq (K_r [] [] (by kernel_rfl) trivial ?_)
  refine K_seq (K_r [] [] (by kernel_rfl) trivial ?_)
  refine K_seq ?_
  obtain ⟨x1, hx1, H⟩ := bind_some' H
  refine K_r [.r (I x1.1) [.cells [cL p2, cI x1.2]]] [C_T_shapesearchsecond_Deck_Next k 5 p2 p3 x1] (by kernel_rfl) (A1 (T_shapesearchsecond_Deck_Next_ok k 5 p2 p3 x1 hx1)) ?_
  refine K_seq ?_
  obtain ⟨x2, hx2, H⟩ := bind_some' H
  refine K_r [.r (I x2.1) [.cells [cL p2, cI x2.2]]] [C_T_shapesearchsecond_Deck_Next k 4 p2 x1.2 x2] (by kernel_rfl) (A1 (T_shapesearchsecond_Deck_Next_ok k 4 p2 x1.2 x2 hx2)) ?_
  refine K_seq (K_seq (K_r [] [] (by kernel_rfl) trivial ?_))
  refine K_block (K_g (by kernel_rfl) ?_)
  refine K_conv (σ' := ⟨[(0, (Pt 0)), (1, (I p1)), (5, (.one (.own 1 0 0))), (6, (I x1.1)), (7, (I (w64 (2 + x2.1)))), (8, (I 0))], [.cells [cL p2, cI x2.2], VI []]⟩) (by kernel_rfl) ?_
  obtain ⟨x40, hx40, H⟩ := bind_some' H
  refine K_loop ⟨[(5, (.one (.own 1 0 x40.1)))], [.cells [cL p2, cI x40.2.1], VI x40.2.2]⟩ (loop_ok (fun (s : Nat × Int × Int × (List Int)) => ⟨[(0, (Pt 0)), (1, (I p1)), (5, (.one (.own 1 0 s.1))), (6, (I x1.1)), (7, (I (w64 (2 + x2.1)))), (8, (I s.2.1))], [.cells [cL p2, cI s.2.2.1], VI s.2.2.2]⟩) (fun (r : (Nat × Int × (List Int))) => (.exit 0, ⟨[(5, (.one (.own 1 0 r.1)))], [.cells [cL p2, cI r.2.1], VI r.2.2]⟩)) (fun r h => by cases h) (T_shapesearchsecond_Deck_Values_l1_ok k p1 p2 x1.1 (w64 (2 + x2.1))) k (0, 0, x2.2, []) x40 hx40) rfl ?_
  refine K_seq (K_r [] [] (by kernel_rfl) trivial ?_)
  refine K_g (by kernel_rfl) ?_
  cases H
  refine K_ret ?_
  kernel_rfl
def T_shapesearchsecond_Deck_Store_l1 (k : Nat) (p1 : Int) (p2 : List Int) (x23 : Int × Int × Nat × (List (List Int))) : Option ((Int × Int × Nat × (List (List Int))) ⊕ ((Int × Nat × (List (List Int))))) :=
 (if 0 ≤ x23.1 then (T_shapesearchsecond_Deck_Next k (w64 (p1 + 1)) p2 x23.2.1).bind fun x25 => (T_shapesearchsecond_Deck_Values k x25.1 p2 x25.2).bind fun x26 => (if x23.2.2.1 + 1 ≤ LIM then some (.inl ((w64 (x23.1 - 1)), x26.2.1, (x23.2.2.1 + 1), ((x23.2.2.2.take x23.2.2.1 ++ [[]]).set x23.2.2.1 (x26.2.2.take x26.1)))) else none) else some (.inr (x23.2.1, x23.2.2.1, x23.2.2.2)))
theorem T_shapesearchsecond_Deck_Store_l1_ok (k : Nat) (p1 : Int) (p2 : List Int) : ∀ (x23 : Int × Int × Nat × (List (List Int))) (x : (Int × Int × Nat × (List (List Int))) ⊕ ((Int × Nat × (List (List Int))))), T_shapesearchsecond_Deck_Store_l1 k p1 p2 x23 = some x → evC X (evF X k) k 1 l_shapesearchsecond_Deck_Store_1 ⟨[(0, (Pt 0)), (1, (I p1)), (4, (Pt 1)), (5, (Pt 2)), (6, (I x23.1))], [.cells [cL p2, cI x23.2.1], .cells [.nil], .cells [.own 3 0 x23.2.2.1], .rows (.int .i64 0) (x23.2.2.2.map (List.map (D.int .i64))) []]⟩ = some (outS (fun (s : Int × Int × Nat × (List (List Int))) => ⟨[(0, (Pt 0)), (1, (I p1)), (4, (Pt 1)), (5, (Pt 2)), (6, (I s.1))], [.cells [cL p2, cI s.2.1], .cells [.nil], .cells [.own 3 0 s.2.2.1], .rows (.int .i64 0) (s.2.2.2.map (List.map (D.int .i64))) []]⟩) (fun (r : (Int × Nat × (List (List Int)))) => (.exit 0, ⟨[(4, (Pt 1)), (5, (Pt 2))], [.cells [cL p2, cI r.1], .cells [.nil], .cells [.own 3 0 r.2.1], .rows (.int .i64 0) (r.2.2.map (List.map (D.int .i64))) []]⟩)) x) := by
 intro x23 x H
 unfold T_shapesearchsecond_Deck_Store_l1 at H
 refine K_in ?_
 refine K_seq (K_seq (K_r [] [] (by kernel_rfl) trivial ?_))
 rcases ite_some H with ⟨hx24, H⟩ | ⟨hx24, H⟩
 · refine K_t (by kernel_rfl) (decide_eq_true hx24) ?_
   refine K_g (by kernel_rfl) ?_
   refine K_skip ?_
   refine K_seq ?_
   refine K_block ?_
   obtain ⟨x25, hx25, H⟩ := bind_some' H
   obtain ⟨x26, hx26, H⟩ := bind_some' H
   obtain ⟨hx27, H⟩ := guard_some H
   refine K_rI [.r (I x25.1) [.cells [cL p2, cI x25.2]], .r (.one (.own 1 0 x26.1)) [.cells [cL p2, cI x26.2.1], VI x26.2.2], .ll ((x23.2.2.2.take x23.2.2.1 ++ [[]]).map (List.map (D.int .i64))), .n x23.2.2.1, .n x26.1, .ll (((x23.2.2.2.take x23.2.2.1 ++ [[]]).set x23.2.2.1 (x26.2.2.take x26.1)).map (List.map (D.int .i64))), .br []] [0, 1, 2, 3, 4, 5, 6, 0, 1, 2, 3, 4, 5, 6, 1, 2, 3, 4, 5, 6, 2, 3, 4, 5, 6] ((fun (z1 : St) => [C_T_shapesearchsecond_Deck_Next k (w64 (p1 + 1)) p2 x23.2.1 x25, C_T_shapesearchsecond_Deck_Values k x25.1 p2 x25.2 x26, x23.2.2.1 + 1 ≤ LIM, (x23.2.2.2.map (List.map (D.int .i64))).take x23.2.2.1 ++ [[]] = (x23.2.2.2.take x23.2.2.1 ++ [[]]).map (List.map (D.int .i64)), brHas 4 [(x23.2.2.1, .own 4 0 x26.1)] [(x23.2.2.1, .own 4 0 x26.1)] = some (x23.2.2.1, x26.1), ((x23.2.2.2.take x23.2.2.1 ++ [[]]).map (List.map (D.int .i64))).set x23.2.2.1 ((x26.2.2.map (D.int .i64)).take x26.1) = ((x23.2.2.2.take x23.2.2.1 ++ [[]]).set x23.2.2.1 (x26.2.2.take x26.1)).map (List.map (D.int .i64)), brDel [(x23.2.2.1, .own 4 0 x26.1)] x23.2.2.1 = [], z1 = z1]) (⟨[(0, (Pt 0)), (1, (I p1)), (4, (Pt 1)), (5, (Pt 2)), (6, (I x23.1))], [.cells [cL p2, cI x26.2.1], .cells [.nil], .cells [.own 3 0 (x23.2.2.1 + 1)], .rows (.int .i64 0) (((x23.2.2.2.take x23.2.2.1 ++ [[]]).set x23.2.2.1 (x26.2.2.take x26.1)).map (List.map (D.int .i64))) []]⟩)) [0, 1, 2, 3, 4, 5, 6, 0, 1, 2, 3, 4, 5, 6, 1, 2, 3, 4, 5, 6, 2, 3, 4, 5, 6, 7, 7, 7] (by kernel_rfl) (AC (T_shapesearchsecond_Deck_Next_ok k (w64 (p1 + 1)) p2 x23.2.1 x25 hx25) (AC (T_shapesearchsecond_Deck_Values_ok k x25.1 p2 x25.2 x26 hx26) (AC hx27 (AC (ra_map (D.int .i64) _ _) (AC bh_1 (AC (bk_map (D.int .i64) (x23.2.2.2.take x23.2.2.1 ++ [[]]) x23.2.2.1 x26.2.2 x26.1) (AC bd_1 (A1 rfl)))))))) ?_
   refine K_blk (K_r [] [] (by kernel_rfl) trivial ?_)
   cases H
   exact K_end (by kernel_rfl)
 · refine K_f (by kernel_rfl) (decide_eq_false hx24) ?_
   refine K_g (by kernel_rfl) ?_
   cases H
   exact K_exit0 rfl (by kernel_rfl)
def T_shapesearchsecond_Deck_Store (k : Nat) (p1 : Int) (p2 : List Int) (p3 : Int) : Option (Nat × Int × (List (List Int))) := match k with
 | 0 => none
 | k + 1 => ((T_shapesearchsecond_Deck_Next k 4 p2 p3).bind fun x1 => ((if 0 ≤ x1.1 then ((T_shapesearchsecond_Deck_Next k (w64 (p1 + 1)) p2 x1.2).bind fun x10 => (T_shapesearchsecond_Deck_Values k x10.1 p2 x10.2).bind fun x11 => some (x11.2.1, (([[]] : List (List Int)).set 0 (x11.2.2.take x11.1)))) else none)).bind fun x12 => (loopT (T_shapesearchsecond_Deck_Store_l1 k p1 p2) (k - 1) ((w64 (x1.1 - 1)), x12.1, 1, x12.2)).bind fun x28 => some (x28.2.1, x28.1, x28.2.2))
abbrev C_T_shapesearchsecond_Deck_Store (k : Nat) (p1 : Int) (p2 : List Int) (p3 : Int) (r : Nat × Int × (List (List Int))) : Prop := evF X k n_shapesearchsecond_Deck_Store [(Pt 0), (I p1)] [.cells [cL p2, cI p3]] = some ((.agg [.own 1 0 r.1]), [.cells [cL p2, cI r.2.1], .rows (.int .i64 0) (r.2.2.map (List.map (D.int .i64))) []])
theorem T_shapesearchsecond_Deck_Store_ok (k : Nat) (p1 : Int) (p2 : List Int) (p3 : Int) (r : Nat × Int × (List (List Int))) : T_shapesearchsecond_Deck_Store k p1 p2 p3 = some r → C_T_shapesearchsecond_Deck_Store k p1 p2 p3 r := by
 intro H
 cases k with
 | zero => simp [T_shapesearchsecond_Deck_Store] at H
 | succ k =>
  simp only [T_shapesearchsecond_Deck_Store] at H
  refine F_in X_shapesearchsecond_Deck_Store rfl ?_
  refine K_seq (K_r [] [] (by kernel_rfl) trivial ?_)
  refine K_seq (K_r [] [] (by kernel_rfl) trivial ?_)
  refine K_seq ?_
  refine K_seq ?_
  obtain ⟨x1, hx1, H⟩ := bind_some' H
  refine K_r [.r (I x1.1) [.cells [cL p2, cI x1.2]]] [C_T_shapesearchsecond_Deck_Next k 4 p2 p3 x1] (by kernel_rfl) (A1 (T_shapesearchsecond_Deck_Next_ok k 4 p2 p3 x1 hx1)) ?_
  refine K_block (K_conv (σ' := ⟨[(0, (Pt 0)), (1, (I p1)), (4, (Pt 1)), (5, (Pt 2)), (6, (I x1.1))], [.cells [cL p2, cI x1.2], .cells [.nil], .cells [.nil]]⟩) (by kernel_rfl) ?_)
  obtain ⟨x12, hx12, H⟩ := bind_some' H
  have px12 : evC X (evF X k) k 1 l_shapesearchsecond_Deck_Store_1 ⟨[(0, (Pt 0)), (1, (I p1)), (4, (Pt 1)), (5, (Pt 2)), (6, (I x1.1))], [.cells [cL p2, cI x1.2], .cells [.nil], .cells [.nil]]⟩ = some (.normal, ⟨[(0, (Pt 0)), (1, (I p1)), (4, (Pt 1)), (5, (Pt 2)), (6, (I (w64 (x1.1 - 1))))], [.cells [cL p2, cI x12.1], .cells [.nil], .cells [.own 3 0 1], .rows (.int .i64 0) (x12.2.map (List.map (D.int .i64))) []]⟩) := by
   clear H; have H := hx12; clear hx12; refine K_in ?_
   refine K_seq (K_seq (K_r [] [] (by kernel_rfl) trivial ?_))
   rcases ite_some H with ⟨hx9, H⟩ | ⟨hx9, H⟩
   · refine K_t (by kernel_rfl) (decide_eq_true hx9) ?_
     refine K_g (by kernel_rfl) ?_
     refine K_skip ?_
     refine K_seq ?_
     refine K_block ?_
     obtain ⟨x10, hx10, H⟩ := bind_some' H
     obtain ⟨x11, hx11, H⟩ := bind_some' H
     refine K_rI [.r (I x10.1) [.cells [cL p2, cI x10.2]], .r (.one (.own 1 0 x11.1)) [.cells [cL p2, cI x11.2.1], VI x11.2.2], .n 0, .n x11.1, .ll ((([[]] : List (List Int)).set 0 (x11.2.2.take x11.1)).map (List.map (D.int .i64))), .br []] [0, 1, 2, 3, 4, 5, 0, 1, 2, 3, 4, 5, 1, 2, 3, 4, 5, 2, 3, 4, 5] ((fun (z1 : St) => [C_T_shapesearchsecond_Deck_Next k (w64 (p1 + 1)) p2 x1.2 x10, C_T_shapesearchsecond_Deck_Values k x10.1 p2 x10.2 x11, brHas 3 [(0, .own 3 0 x11.1)] [(0, .own 3 0 x11.1)] = some (0, x11.1), (([[]] : List (List Int)).map (List.map (D.int .i64))).set 0 ((x11.2.2.map (D.int .i64)).take x11.1) = (([[]] : List (List Int)).set 0 (x11.2.2.take x11.1)).map (List.map (D.int .i64)), brDel [(0, .own 3 0 x11.1)] 0 = [], z1 = z1]) (⟨[(0, (Pt 0)), (1, (I p1)), (4, (Pt 1)), (5, (Pt 2)), (6, (I x1.1))], [.cells [cL p2, cI x11.2.1], .cells [.nil], .cells [.own 3 0 1], .rows (.int .i64 0) ((([[]] : List (List Int)).set 0 (x11.2.2.take x11.1)).map (List.map (D.int .i64))) []]⟩)) [0, 1, 2, 3, 4, 0, 1, 2, 3, 4, 1, 2, 3, 4, 2, 3, 4, 5, 5, 5] (by kernel_rfl) (AC (T_shapesearchsecond_Deck_Next_ok k (w64 (p1 + 1)) p2 x1.2 x10 hx10) (AC (T_shapesearchsecond_Deck_Values_ok k x10.1 p2 x10.2 x11 hx11) (AC bh_1 (AC (bk_map (D.int .i64) ([[]] : List (List Int)) 0 x11.2.2 x11.1) (AC bd_1 (A1 rfl)))))) ?_
     refine K_blk (K_r [] [] (by kernel_rfl) trivial ?_)
     cases H
     exact K_end (by kernel_rfl)
   · refine K_f (by kernel_rfl) (decide_eq_false hx9) ?_
     refine K_g (by kernel_rfl) ?_
     cases H
  obtain ⟨x28, hx28, H⟩ := bind_some' H
  refine K_loop ⟨[(4, (Pt 1)), (5, (Pt 2))], [.cells [cL p2, cI x28.1], .cells [.nil], .cells [.own 3 0 x28.2.1], .rows (.int .i64 0) (x28.2.2.map (List.map (D.int .i64))) []]⟩ (peel_ok px12 (loop_ok (fun (s : Int × Int × Nat × (List (List Int))) => ⟨[(0, (Pt 0)), (1, (I p1)), (4, (Pt 1)), (5, (Pt 2)), (6, (I s.1))], [.cells [cL p2, cI s.2.1], .cells [.nil], .cells [.own 3 0 s.2.2.1], .rows (.int .i64 0) (s.2.2.2.map (List.map (D.int .i64))) []]⟩) (fun (r : (Int × Nat × (List (List Int)))) => (.exit 0, ⟨[(4, (Pt 1)), (5, (Pt 2))], [.cells [cL p2, cI r.1], .cells [.nil], .cells [.own 3 0 r.2.1], .rows (.int .i64 0) (r.2.2.map (List.map (D.int .i64))) []]⟩)) (fun r h => by cases h) (T_shapesearchsecond_Deck_Store_l1_ok k p1 p2) (k - 1) ((w64 (x1.1 - 1)), x12.1, 1, x12.2) x28 hx28)) rfl ?_
  refine K_seq (K_r [] [] (by kernel_rfl) trivial ?_)
  refine K_g (by kernel_rfl) ?_
  cases H
  refine K_ret ?_
  kernel_rfl
def T_ref01_common_l1 (k : Nat) (x5 : Int × Int) : Option ((Int × Int) ⊕ Int) :=
 (if 0 < x5.2 then (if x5.2 ≠ 0 then some (.inl (x5.2, (x5.1.tmod x5.2))) else none) else some (.inr x5.1))
theorem T_ref01_common_l1_ok (k : Nat) : ∀ (x5 : Int × Int) (x : (Int × Int) ⊕ Int), T_ref01_common_l1 k x5 = some x → evC X (evF X k) k 0 l_ref01_common_1 ⟨[(0, (I x5.1)), (1, (I x5.2))], []⟩ = some (outS (fun (s : Int × Int) => ⟨[(0, (I s.1)), (1, (I s.2))], []⟩) (fun (r : Int) => (.exit 0, ⟨[(0, (I r))], []⟩)) x) := by
 intro x5 x H
 unfold T_ref01_common_l1 at H
 refine K_in ?_
 refine K_seq (K_seq (K_r [] [] (by kernel_rfl) trivial ?_))
 rcases ite_some H with ⟨hx6, H⟩ | ⟨hx6, H⟩
 · refine K_t (by kernel_rfl) (decide_eq_true hx6) ?_
   refine K_g (by kernel_rfl) ?_
   refine K_skip ?_
   refine K_block ?_
   obtain ⟨hx7, H⟩ := guard_some H
   refine K_r [] [x5.2 ≠ (0 : Int)] (by kernel_rfl) (A1 hx7) ?_
   refine K_blk ?_
   cases H
   exact K_end (by kernel_rfl)
 · refine K_f (by kernel_rfl) (decide_eq_false hx6) ?_
   refine K_g (by kernel_rfl) ?_
   cases H
   exact K_exit0 rfl (by kernel_rfl)
def T_ref01_common (k : Nat) (p1 : Int) (p2 : Int) : Option Int := match k with
 | 0 => none
 | k + 1 => ((loopT (T_ref01_common_l1 k) k (p1, p2)).bind fun x8 => some x8)
abbrev C_T_ref01_common (k : Nat) (p1 : Int) (p2 : Int) (r : Int) : Prop := evF X k n_ref01_common [(I p1), (I p2)] [] = some ((I r), [])
theorem T_ref01_common_ok (k : Nat) (p1 : Int) (p2 : Int) (r : Int) : T_ref01_common k p1 p2 = some r → C_T_ref01_common k p1 p2 r := by
 intro H
 cases k with
 | zero => simp [T_ref01_common] at H
 | succ k =>
  simp only [T_ref01_common] at H
  refine F_in X_ref01_common rfl ?_
  refine K_seq (K_r [] [] (by kernel_rfl) trivial ?_)
  refine K_seq (K_block (K_conv (σ' := ⟨[(0, (I p1)), (1, (I p2))], []⟩) (by kernel_rfl) ?_))
  obtain ⟨x8, hx8, H⟩ := bind_some' H
  refine K_loop ⟨[(0, (I x8))], []⟩ (loop_ok (fun (s : Int × Int) => ⟨[(0, (I s.1)), (1, (I s.2))], []⟩) (fun (r : Int) => (.exit 0, ⟨[(0, (I r))], []⟩)) (fun r h => by cases h) (T_ref01_common_l1_ok k) k (p1, p2) x8 hx8) rfl ?_
  refine K_seq (K_r [] [] (by kernel_rfl) trivial ?_)
  refine K_g (by kernel_rfl) ?_
  cases H
  refine K_ret ?_
  kernel_rfl
def T_ref01_Valid (k : Nat) (p1 : Int) (p2 : Int) : Option Bool := match k with
 | 0 => none
 | k + 1 => (((if (((decide (0 ≤ p1) && decide (p1 ≤ 2305843009213693952)) && decide (1 ≤ p2)) && decide (p2 ≤ 1152921504606846976)) = true then ((T_ref01_common k p1 p2).bind fun x3 => some (decide (x3 = 1))) else some false)).bind fun x4 => some x4)
abbrev C_T_ref01_Valid (k : Nat) (p1 : Int) (p2 : Int) (r : Bool) : Prop := evF X k n_ref01_Valid [(.agg [cI p1, cI p2])] [] = some ((B r), [])
theorem T_ref01_Valid_ok (k : Nat) (p1 : Int) (p2 : Int) (r : Bool) : T_ref01_Valid k p1 p2 = some r → C_T_ref01_Valid k p1 p2 r := by
 intro H
 cases k with
 | zero => simp [T_ref01_Valid] at H
 | succ k =>
  simp only [T_ref01_Valid] at H
  refine F_in X_ref01_Valid rfl ?_
  refine K_seq (K_r [] [] (by kernel_rfl) trivial ?_)
  refine K_seq ?_
  obtain ⟨x4, hx4, H⟩ := bind_some' H
  refine K_of ⟨[(2, (B x4))], []⟩ ?_ ?_
  · clear H; have H := hx4; clear hx4; refine K_in ?_
    rcases ite_some H with ⟨hx2, H⟩ | ⟨hx2, H⟩
    · obtain ⟨x3, hx3, H⟩ := bind_some' H
      refine K_r [.m, .m, .m, .b true, .r (I x3) []] ((fun (z1 : Heap) => [z1 = z1, z1 = z1, z1 = z1, (((decide (0 ≤ p1) && decide (p1 ≤ 2305843009213693952)) && decide (1 ≤ p2)) && decide (p2 ≤ 1152921504606846976)) = true, C_T_ref01_common k p1 p2 x3]) [.cells [cI p1, cI p2]]) (by kernel_rfl) (AC rfl (AC rfl (AC rfl (AC hx2 (A1 (T_ref01_common_ok k p1 p2 x3 hx3)))))) ?_
      cases H
      exact K_end (by kernel_rfl)
    · refine K_r [.m, .m, .m, .b false] ((fun (z1 : Heap) => [z1 = z1, z1 = z1, z1 = z1, (((decide (0 ≤ p1) && decide (p1 ≤ 2305843009213693952)) && decide (1 ≤ p2)) && decide (p2 ≤ 1152921504606846976)) = false]) [.cells [cI p1, cI p2]]) (by kernel_rfl) (AC rfl (AC rfl (AC rfl (A1 (Bool.eq_false_iff.2 hx2))))) ?_
      cases H
      exact K_end (by kernel_rfl)
  refine K_g (by kernel_rfl) ?_
  cases H
  refine K_ret ?_
  kernel_rfl
def T_ref01_Make (k : Nat) (p1 : Int) (p2 : Int) : Option (Int × Int × Int) := match k with
 | 0 => none
 | k + 1 => (if (decide (p1 < 0) || decide (p2 < 1)) = true then some (0, 0, 1) else (T_ref01_common k p1 p2).bind fun x2 => (if x2 ≠ 0 then (T_ref01_Valid k (w64 (p1.tdiv x2)) (w64 (p2.tdiv x2))).bind fun x4 => (if (!x4) = true then some (0, 0, 1) else some ((w64 (p1.tdiv x2)), (w64 (p2.tdiv x2)), 0)) else none))
abbrev C_T_ref01_Make (k : Nat) (p1 : Int) (p2 : Int) (r : Int × Int × Int) : Prop := evF X k n_ref01_Make [(I p1), (I p2)] [] = some ((.tup [(true, [cI r.1, cI r.2.1]), (false, [cI r.2.2])]), [])
theorem T_ref01_Make_ok (k : Nat) (p1 : Int) (p2 : Int) (r : Int × Int × Int) : T_ref01_Make k p1 p2 = some r → C_T_ref01_Make k p1 p2 r := by
 intro H
 cases k with
 | zero => simp [T_ref01_Make] at H
 | succ k =>
  simp only [T_ref01_Make] at H
  refine F_in X_ref01_Make rfl ?_
  refine K_seq (K_r [] [] (by kernel_rfl) trivial ?_)
  refine K_seq (K_seq (K_r [.m] [([.cells [cI 0, cI 0]] : Heap) = [.cells [cI 0, cI 0]]] (by kernel_rfl) (A1 rfl) ?_))
  rcases ite_some H with ⟨hx1, H⟩ | ⟨hx1, H⟩
  · refine K_t (by kernel_rfl) hx1 ?_
    refine K_seq (K_r [] [] (by kernel_rfl) trivial ?_)
    refine K_g (by kernel_rfl) ?_
    cases H
    refine K_ret ?_
    kernel_rfl
  · refine K_f (by kernel_rfl) (Bool.eq_false_iff.2 hx1) ?_
    refine K_g (by kernel_rfl) ?_
    refine K_skip ?_
    refine K_seq ?_
    obtain ⟨x2, hx2, H⟩ := bind_some' H
    refine K_r [.r (I x2) []] [C_T_ref01_common k p1 p2 x2] (by kernel_rfl) (A1 (T_ref01_common_ok k p1 p2 x2 hx2)) ?_
    refine K_seq ?_
    obtain ⟨hx3, H⟩ := guard_some H
    refine K_r [] [x2 ≠ (0 : Int), x2 ≠ (0 : Int)] (by kernel_rfl) (AC hx3 (A1 hx3)) ?_
    refine K_seq ?_
    refine K_seq ?_
    obtain ⟨x4, hx4, H⟩ := bind_some' H
    refine K_r [.r (B x4) []] [C_T_ref01_Valid k (w64 (p1.tdiv x2)) (w64 (p2.tdiv x2)) x4] (by kernel_rfl) (A1 (T_ref01_Valid_ok k (w64 (p1.tdiv x2)) (w64 (p2.tdiv x2)) x4 hx4)) ?_
    rcases ite_some H with ⟨hx5, H⟩ | ⟨hx5, H⟩
    · refine K_t (by kernel_rfl) hx5 ?_
      refine K_seq (K_r [] [] (by kernel_rfl) trivial ?_)
      refine K_g (by kernel_rfl) ?_
      cases H
      refine K_ret ?_
      kernel_rfl
    · refine K_f (by kernel_rfl) (Bool.eq_false_iff.2 hx5) ?_
      refine K_g (by kernel_rfl) ?_
      refine K_skip (K_seq (K_r [] [] (by kernel_rfl) trivial ?_))
      refine K_g (by kernel_rfl) ?_
      cases H
      refine K_ret ?_
      kernel_rfl
def T_store_sample (k : Nat) (p1 : Int) : Option Unit := match k with
 | 0 => none
 | k + 1 => some ()
abbrev C_T_store_sample (k : Nat) (p1 : Int) (r : Unit) : Prop := evF X k n_store_sample [(I p1)] [] = some ((B (decide ((-1000) ≤ p1) && decide (p1 ≤ 1000))), [])
theorem T_store_sample_ok (k : Nat) (p1 : Int) (r : Unit) : T_store_sample k p1 = some r → C_T_store_sample k p1 r := by
 intro H
 cases k with
 | zero => simp [T_store_sample] at H
 | succ k =>
  simp only [T_store_sample] at H
  refine F_in X_store_sample rfl ?_
  refine K_seq (K_r [] [] (by kernel_rfl) trivial ?_)
  refine K_seq (K_r [.m] [([] : Heap) = []] (by kernel_rfl) (A1 rfl) ?_)
  refine K_g (by kernel_rfl) ?_
  cases H
  refine K_ret ?_
  kernel_rfl
def T_store_Check_1 (k : Nat) (p1 : Int) : Option Bool := match k with
 | 0 => none
 | k + 1 => (((if (!decide (p1 = 1073741824)) = true then ((T_store_sample k p1).bind fun x3 => some (!(decide ((-1000) ≤ p1) && decide (p1 ≤ 1000)))) else some false)).bind fun x4 => some x4)
abbrev C_T_store_Check_1 (k : Nat) (p1 : Int) (r : Bool) : Prop := evF X k n_store_Check_1 [(I p1)] [] = some ((B r), [])
theorem T_store_Check_1_ok (k : Nat) (p1 : Int) (r : Bool) : T_store_Check_1 k p1 = some r → C_T_store_Check_1 k p1 r := by
 intro H
 cases k with
 | zero => simp [T_store_Check_1] at H
 | succ k =>
  simp only [T_store_Check_1] at H
  refine F_in X_store_Check_1 rfl ?_
  refine K_seq (K_r [] [] (by kernel_rfl) trivial ?_)
  refine K_seq ?_
  obtain ⟨x4, hx4, H⟩ := bind_some' H
  refine K_of ⟨[(2, (B x4))], []⟩ ?_ ?_
  · clear H; have H := hx4; clear hx4; refine K_in ?_
    rcases ite_some H with ⟨hx2, H⟩ | ⟨hx2, H⟩
    · obtain ⟨x3, hx3, H⟩ := bind_some' H
      refine K_r [.b true, .r (B (decide ((-1000) ≤ p1) && decide (p1 ≤ 1000))) []] [(!decide (p1 = 1073741824)) = true, C_T_store_sample k p1 x3] (by kernel_rfl) (AC hx2 (A1 (T_store_sample_ok k p1 x3 hx3))) ?_
      cases H
      exact K_end (by kernel_rfl)
    · refine K_r [.b false] [(!decide (p1 = 1073741824)) = false] (by kernel_rfl) (A1 (Bool.eq_false_iff.2 hx2)) ?_
      cases H
      exact K_end (by kernel_rfl)
  refine K_g (by kernel_rfl) ?_
  cases H
  refine K_ret ?_
  kernel_rfl
def T_slices_IndexFunc_b354_l1 (k : Nat) (p1 : List Int) (x2 : Int) (x8 : Int) : Option (Int ⊕ (Unit ⊕ Int)) :=
 (if x8 < x2 then ((at? p1 x8).bind fun x10 => (T_store_Check_1 k x10).bind fun x11 => (if x11 = true then some (.inr (.inr x8)) else some (.inl (w64 (x8 + 1))))) else some (.inr (.inl ())))
theorem T_slices_IndexFunc_b354_l1_ok (k : Nat) (p1 : List Int) (x2 : Int) : ∀ (x8 : Int) (x : Int ⊕ (Unit ⊕ Int)), T_slices_IndexFunc_b354_l1 k p1 x2 x8 = some x → evC X (evF X k) k 0 l_slices_IndexFunc_b354_1 ⟨[(0, (LI p1)), (1, (.one (.fn (.func n_store_Check_1) []))), (7, (I x2)), (8, (I x8))], []⟩ = some (outS (fun (s : Int) => ⟨[(0, (LI p1)), (1, (.one (.fn (.func n_store_Check_1) []))), (7, (I x2)), (8, (I s))], []⟩) (fun (r : Unit ⊕ Int) => Sum.elim (fun y => (.exit 0, ⟨[], []⟩)) (fun y => (.ret, ⟨[(4, (I y))], []⟩)) r) x) := by
 intro x8 x H
 unfold T_slices_IndexFunc_b354_l1 at H
 refine K_in ?_
 refine K_seq (K_r [] [] (by kernel_rfl) trivial ?_)
 refine K_seq ?_
 rcases ite_some H with ⟨hx9, H⟩ | ⟨hx9, H⟩
 · refine K_t (by kernel_rfl) (decide_eq_true hx9) ?_
   refine K_g (by kernel_rfl) ?_
   refine K_skip (K_seq (K_block (K_seq (K_r [] [] (by kernel_rfl) trivial ?_))))
   refine K_seq ?_
   obtain ⟨x10, hx10, H⟩ := bind_some' H
   obtain ⟨x11, hx11, H⟩ := bind_some' H
   refine K_r [.l [.int .i64 x10], .r (B x11) []] [(0 : Int) ≤ x8 ∧ x8 < (((p1.map (D.int .i64))).length : Int), ((p1.map (D.int .i64)).getD x8.toNat (.int .i64 0)).cells = [.int .i64 x10], C_T_store_Check_1 k x10 x11] (by kernel_rfl) (AC (at_ok hx10 (D.int .i64) (.int .i64 0)).1 (AC (at_ok hx10 (D.int .i64) (.int .i64 0)).2 (A1 (T_store_Check_1_ok k x10 x11 hx11)))) ?_
   rcases ite_some H with ⟨hx12, H⟩ | ⟨hx12, H⟩
   · refine K_t (by kernel_rfl) hx12 ?_
     refine K_seq (K_r [] [] (by kernel_rfl) trivial ?_)
     refine K_g (by kernel_rfl) ?_
     cases H
     exact K_ret (by kernel_rfl)
   · refine K_f (by kernel_rfl) (Bool.eq_false_iff.2 hx12) ?_
     refine K_g (by kernel_rfl) ?_
     refine K_skip (K_blk (K_r [] [] (by kernel_rfl) trivial ?_))
     cases H
     exact K_end (by kernel_rfl)
 · refine K_f (by kernel_rfl) (decide_eq_false hx9) ?_
   refine K_g (by kernel_rfl) ?_
   cases H
   exact K_exit0 rfl (by kernel_rfl)
def T_slices_IndexFunc_b354 (k : Nat) (p1 : List Int) : Option Int := match k with
 | 0 => none
 | k + 1 => ((loopT (T_slices_IndexFunc_b354_l1 k p1 (p1.length : Int)) k 0).bind fun x13 => (match x13 with | .inl x14 => some (-1) | .inr x15 => some x15))
abbrev C_T_slices_IndexFunc_b354 (k : Nat) (p1 : List Int) (r : Int) : Prop := evF X k n_slices_IndexFunc_b354 [(LI p1), (.one (.fn (.func n_store_Check_1) []))] [] = some ((I r), [])
theorem T_slices_IndexFunc_b354_ok (k : Nat) (p1 : List Int) (r : Int) : T_slices_IndexFunc_b354 k p1 = some r → C_T_slices_IndexFunc_b354 k p1 r := by
 intro H
 cases k with
 | zero => simp [T_slices_IndexFunc_b354] at H
 | succ k =>
  simp only [T_slices_IndexFunc_b354] at H
  refine F_in X_slices_IndexFunc_b354 rfl ?_
  refine K_seq (K_r [] [] (by kernel_rfl) trivial ?_)
  refine K_seq (K_seq (K_r [.n p1.length] [((p1.map (D.int .i64))).length = p1.length] (by kernel_rfl) (A1 (List.length_map _)) ?_))
  refine K_block (K_conv (σ' := ⟨[(0, (LI p1)), (1, (.one (.fn (.func n_store_Check_1) []))), (7, (I (p1.length : Int))), (8, (I 0))], []⟩) (by kernel_rfl) ?_)
  obtain ⟨x13, hx13, H⟩ := bind_some' H
  cases x13 with
  | inl x14 =>
   dsimp only at H
   refine K_loop ⟨[], []⟩ (loop_ok (fun (s : Int) => ⟨[(0, (LI p1)), (1, (.one (.fn (.func n_store_Check_1) []))), (7, (I (p1.length : Int))), (8, (I s))], []⟩) (fun (r : Unit ⊕ Int) => Sum.elim (fun y => (.exit 0, ⟨[], []⟩)) (fun y => (.ret, ⟨[(4, (I y))], []⟩)) r) (fun r h => by cases r <;> cases h) (T_slices_IndexFunc_b354_l1_ok k p1 (p1.length : Int)) k 0 (.inl x14) hx13) rfl ?_
   refine K_seq (K_r [] [] (by kernel_rfl) trivial ?_)
   refine K_g (by kernel_rfl) ?_
   cases H
   refine K_ret ?_
   kernel_rfl
  | inr x15 =>
   dsimp only at H
   have H := Option.some.inj H; subst H
   refine K_loopr ⟨[(4, (I x15))], []⟩ (loop_ok (fun (s : Int) => ⟨[(0, (LI p1)), (1, (.one (.fn (.func n_store_Check_1) []))), (7, (I (p1.length : Int))), (8, (I s))], []⟩) (fun (r : Unit ⊕ Int) => Sum.elim (fun y => (.exit 0, ⟨[], []⟩)) (fun y => (.ret, ⟨[(4, (I y))], []⟩)) r) (fun r h => by cases r <;> cases h) (T_slices_IndexFunc_b354_l1_ok k p1 (p1.length : Int)) k 0 (.inr x15) hx13) ?_
   kernel_rfl
def T_slices_ContainsFunc_b354 (k : Nat) (p1 : List Int) : Option Bool := match k with
 | 0 => none
 | k + 1 => ((T_slices_IndexFunc_b354 k p1).bind fun x1 => some (decide (0 ≤ x1)))
abbrev C_T_slices_ContainsFunc_b354 (k : Nat) (p1 : List Int) (r : Bool) : Prop := evF X k n_slices_ContainsFunc_b354 [(LI p1), (.one (.fn (.func n_store_Check_1) []))] [] = some ((B r), [])
theorem T_slices_ContainsFunc_b354_ok (k : Nat) (p1 : List Int) (r : Bool) : T_slices_ContainsFunc_b354 k p1 = some r → C_T_slices_ContainsFunc_b354 k p1 r := by
 intro H
 cases k with
 | zero => simp [T_slices_ContainsFunc_b354] at H
 | succ k =>
  simp only [T_slices_ContainsFunc_b354] at H
  refine F_in X_slices_ContainsFunc_b354 rfl ?_
  refine K_seq (K_r [] [] (by kernel_rfl) trivial ?_)
  refine K_seq ?_
  obtain ⟨x1, hx1, H⟩ := bind_some' H
  refine K_r [.r (I x1) []] [C_T_slices_IndexFunc_b354 k p1 x1] (by kernel_rfl) (A1 (T_slices_IndexFunc_b354_ok k p1 x1 hx1)) ?_
  refine K_g (by kernel_rfl) ?_
  cases H
  refine K_ret ?_
  kernel_rfl
def T_store_Check_l1 (k : Nat) (p1 : List (List Int)) (x3 : Int) (x8 : Int × Int) : Option ((Int × Int) ⊕ Int) :=
 (if x8.2 < x3 then ((at? p1 x8.2).bind fun x10 => some (.inl ((w64 (x8.1 + (x10.length : Int))), (w64 (x8.2 + 1))))) else some (.inr x8.1))
theorem T_store_Check_l1_ok (k : Nat) (p1 : List (List Int)) (x3 : Int) : ∀ (x8 : Int × Int) (x : (Int × Int) ⊕ Int), T_store_Check_l1 k p1 x3 x8 = some x → evC X (evF X k) k 0 l_store_Check_1 ⟨[(1, (Pt 0)), (3, (I x8.1)), (9, (.one (.d (.list (p1.map (el (D.int .i64))))))), (10, (I x3)), (11, (I x8.2))], [.cells [.d (.list (p1.map (el (D.int .i64))))]]⟩ = some (outS (fun (s : Int × Int) => ⟨[(1, (Pt 0)), (3, (I s.1)), (9, (.one (.d (.list (p1.map (el (D.int .i64))))))), (10, (I x3)), (11, (I s.2))], [.cells [.d (.list (p1.map (el (D.int .i64))))]]⟩) (fun (r : Int) => (.exit 0, ⟨[(1, (Pt 0)), (3, (I r))], [.cells [.d (.list (p1.map (el (D.int .i64))))]]⟩)) x) := by
 intro x8 x H
 unfold T_store_Check_l1 at H
 refine K_in ?_
 refine K_seq (K_r [] [] (by kernel_rfl) trivial ?_)
 refine K_seq ?_
 rcases ite_some H with ⟨hx9, H⟩ | ⟨hx9, H⟩
 · refine K_t (by kernel_rfl) (decide_eq_true hx9) ?_
   refine K_g (by kernel_rfl) ?_
   refine K_skip ?_
   refine K_seq ?_
   refine K_block ?_
   refine K_seq ?_
   obtain ⟨x10, hx10, H⟩ := bind_some' H
   refine K_r [.l [.list (x10.map (D.int .i64))]] [(0 : Int) ≤ x8.2 ∧ x8.2 < (((p1.map (el (D.int .i64)))).length : Int), ((p1.map (el (D.int .i64))).getD x8.2.toNat (.list [])).cells = [.list (x10.map (D.int .i64))]] (by kernel_rfl) (AC (at_ok hx10 (el (D.int .i64)) (.list [])).1 (A1 (at_ok hx10 (el (D.int .i64)) (.list [])).2)) ?_
   refine K_r [.n x10.length] [((x10.map (D.int .i64))).length = x10.length] (by kernel_rfl) (A1 (List.length_map _)) ?_
   refine K_blk (K_r [] [] (by kernel_rfl) trivial ?_)
   cases H
   exact K_end (by kernel_rfl)
 · refine K_f (by kernel_rfl) (decide_eq_false hx9) ?_
   refine K_g (by kernel_rfl) ?_
   cases H
   exact K_exit0 rfl (by kernel_rfl)
def T_store_Check_l2 (k : Nat) (p1 : List (List Int)) (x14 : Int) (x20 : Int) : Option (Int ⊕ (Unit ⊕ Unit)) :=
 (if x20 < x14 then ((at? p1 x20).bind fun x22 => (T_slices_ContainsFunc_b354 k x22).bind fun x23 => (if x23 = true then some (.inr (.inr ())) else some (.inl (w64 (x20 + 1))))) else some (.inr (.inl ())))
theorem T_store_Check_l2_ok (k : Nat) (p1 : List (List Int)) (x14 : Int) : ∀ (x20 : Int) (x : Int ⊕ (Unit ⊕ Unit)), T_store_Check_l2 k p1 x14 x20 = some x → evC X (evF X k) k 0 l_store_Check_2 ⟨[(29, (.one (.d (.list (p1.map (el (D.int .i64))))))), (30, (I x14)), (31, (I x20))], []⟩ = some (outS (fun (s : Int) => ⟨[(29, (.one (.d (.list (p1.map (el (D.int .i64))))))), (30, (I x14)), (31, (I s))], []⟩) (fun (r : Unit ⊕ Unit) => Sum.elim (fun y => (.exit 2, ⟨[], []⟩)) (fun y => (.ret, ⟨[(2, (I 12))], []⟩)) r) x) := by
 intro x20 x H
 unfold T_store_Check_l2 at H
 refine K_in ?_
 refine K_seq (K_r [] [] (by kernel_rfl) trivial ?_)
 refine K_seq ?_
 rcases ite_some H with ⟨hx21, H⟩ | ⟨hx21, H⟩
 · refine K_t (by kernel_rfl) (decide_eq_true hx21) ?_
   refine K_g (by kernel_rfl) ?_
   refine K_skip ?_
   refine K_seq ?_
   refine K_block ?_
   refine K_seq ?_
   obtain ⟨x22, hx22, H⟩ := bind_some' H
   refine K_r [.l [.list (x22.map (D.int .i64))]] [(0 : Int) ≤ x20 ∧ x20 < (((p1.map (el (D.int .i64)))).length : Int), ((p1.map (el (D.int .i64))).getD x20.toNat (.list [])).cells = [.list (x22.map (D.int .i64))]] (by kernel_rfl) (AC (at_ok hx22 (el (D.int .i64)) (.list [])).1 (A1 (at_ok hx22 (el (D.int .i64)) (.list [])).2)) ?_
   refine K_seq ?_
   obtain ⟨x23, hx23, H⟩ := bind_some' H
   refine K_r [.r (B x23) []] [C_T_slices_ContainsFunc_b354 k x22 x23] (by kernel_rfl) (A1 (T_slices_ContainsFunc_b354_ok k x22 x23 hx23)) ?_
   rcases ite_some H with ⟨hx24, H⟩ | ⟨hx24, H⟩
   · refine K_t (by kernel_rfl) hx24 ?_
     refine K_seq (K_r [] [] (by kernel_rfl) trivial ?_)
     refine K_g (by kernel_rfl) ?_
     cases H
     exact K_ret (by kernel_rfl)
   · refine K_f (by kernel_rfl) (Bool.eq_false_iff.2 hx24) ?_
     refine K_g (by kernel_rfl) ?_
     refine K_skip (K_blk (K_r [] [] (by kernel_rfl) trivial ?_))
     cases H
     exact K_end (by kernel_rfl)
 · refine K_f (by kernel_rfl) (decide_eq_false hx21) ?_
   refine K_g (by kernel_rfl) ?_
   cases H
   exact K_exit0 rfl (by kernel_rfl)
def T_store_Check (k : Nat) (p1 : List (List Int)) : Option Int := match k with
 | 0 => none
 | k + 1 => ((loopT (T_store_Check_l1 k p1 (p1.length : Int)) k (0, 0)).bind fun x11 => (if (decide (16 < (p1.length : Int)) || decide (2000 < x11)) = true then some 20 else ((loopT (T_store_Check_l2 k p1 (p1.length : Int)) k 0).bind fun x25 => (match x25 with | .inl x26 => some 0 | .inr x27 => some 12))))
abbrev C_T_store_Check (k : Nat) (p1 : List (List Int)) (r : Int) : Prop := evF X k n_store_Check [(.agg [.d (.list (p1.map (el (D.int .i64))))])] [] = some ((I r), [])
theorem T_store_Check_ok (k : Nat) (p1 : List (List Int)) (r : Int) : T_store_Check k p1 = some r → C_T_store_Check k p1 r := by
 intro H
 cases k with
 | zero => simp [T_store_Check] at H
 | succ k =>
  simp only [T_store_Check] at H
  refine F_in X_store_Check rfl ?_
  refine K_seq (K_r [] [] (by kernel_rfl) trivial ?_)
  refine K_seq (K_r [] [] (by kernel_rfl) trivial ?_)
  refine K_seq (K_seq (K_r [.n p1.length] [((p1.map (el (D.int .i64)))).length = p1.length] (by kernel_rfl) (A1 (List.length_map _)) ?_))
  refine K_block (K_conv (σ' := ⟨[(1, (Pt 0)), (3, (I 0)), (9, (.one (.d (.list (p1.map (el (D.int .i64))))))), (10, (I (p1.length : Int))), (11, (I 0))], [.cells [.d (.list (p1.map (el (D.int .i64))))]]⟩) (by kernel_rfl) ?_)
  obtain ⟨x11, hx11, H⟩ := bind_some' H
  refine K_loop ⟨[(1, (Pt 0)), (3, (I x11))], [.cells [.d (.list (p1.map (el (D.int .i64))))]]⟩ (loop_ok (fun (s : Int × Int) => ⟨[(1, (Pt 0)), (3, (I s.1)), (9, (.one (.d (.list (p1.map (el (D.int .i64))))))), (10, (I (p1.length : Int))), (11, (I s.2))], [.cells [.d (.list (p1.map (el (D.int .i64))))]]⟩) (fun (r : Int) => (.exit 0, ⟨[(1, (Pt 0)), (3, (I r))], [.cells [.d (.list (p1.map (el (D.int .i64))))]]⟩)) (fun r h => by cases h) (T_store_Check_l1_ok k p1 (p1.length : Int)) k (0, 0) x11 hx11) rfl ?_
  refine K_seq (K_seq (K_r [.n p1.length, .m] ((fun (z1 : Heap) => [((p1.map (el (D.int .i64)))).length = p1.length, z1 = z1]) [.cells [.d (.list (p1.map (el (D.int .i64))))]]) (by kernel_rfl) (AC (List.length_map _) (A1 rfl)) ?_))
  rcases ite_some H with ⟨hx12, H⟩ | ⟨hx12, H⟩
  · refine K_t (by kernel_rfl) hx12 ?_
    refine K_seq (K_r [] [] (by kernel_rfl) trivial ?_)
    refine K_g (by kernel_rfl) ?_
    cases H
    refine K_ret ?_
    kernel_rfl
  · refine K_f (by kernel_rfl) (Bool.eq_false_iff.2 hx12) ?_
    refine K_g (by kernel_rfl) ?_
    refine K_skip (K_seq (K_seq (K_r [.n p1.length] [((p1.map (el (D.int .i64)))).length = p1.length] (by kernel_rfl) (A1 (List.length_map _)) ?_)))
    refine K_block (K_conv (σ' := ⟨[(29, (.one (.d (.list (p1.map (el (D.int .i64))))))), (30, (I (p1.length : Int))), (31, (I 0))], []⟩) (by kernel_rfl) ?_)
    obtain ⟨x25, hx25, H⟩ := bind_some' H
    cases x25 with
    | inl x26 =>
     dsimp only at H
     refine K_loop ⟨[], []⟩ (loop_ok (fun (s : Int) => ⟨[(29, (.one (.d (.list (p1.map (el (D.int .i64))))))), (30, (I (p1.length : Int))), (31, (I s))], []⟩) (fun (r : Unit ⊕ Unit) => Sum.elim (fun y => (.exit 2, ⟨[], []⟩)) (fun y => (.ret, ⟨[(2, (I 12))], []⟩)) r) (fun r h => by cases r <;> cases h) (T_store_Check_l2_ok k p1 (p1.length : Int)) k 0 (.inl x26) hx25) rfl ?_
     refine K_seq (K_r [] [] (by kernel_rfl) trivial ?_)
     refine K_g (by kernel_rfl) ?_
     cases H
     refine K_ret ?_
     kernel_rfl
    | inr x27 =>
     dsimp only at H
     cases H
     refine K_loopr ⟨[(2, (I 12))], []⟩ (loop_ok (fun (s : Int) => ⟨[(29, (.one (.d (.list (p1.map (el (D.int .i64))))))), (30, (I (p1.length : Int))), (31, (I s))], []⟩) (fun (r : Unit ⊕ Unit) => Sum.elim (fun y => (.exit 2, ⟨[], []⟩)) (fun y => (.ret, ⟨[(2, (I 12))], []⟩)) r) (fun r h => by cases r <;> cases h) (T_store_Check_l2_ok k p1 (p1.length : Int)) k 0 (.inr x27) hx25) ?_
     kernel_rfl
def T_store_length (k : Nat) (p1 : Int) : Option Unit := match k with
 | 0 => none
 | k + 1 => some ()
abbrev C_T_store_length (k : Nat) (p1 : Int) (r : Unit) : Prop := evF X k n_store_length [(I p1)] [] = some ((B (decide (2 ≤ p1) && decide (p1 ≤ 32))), [])
theorem T_store_length_ok (k : Nat) (p1 : Int) (r : Unit) : T_store_length k p1 = some r → C_T_store_length k p1 r := by
 intro H
 cases k with
 | zero => simp [T_store_length] at H
 | succ k =>
  simp only [T_store_length] at H
  refine F_in X_store_length rfl ?_
  refine K_seq (K_r [] [] (by kernel_rfl) trivial ?_)
  refine K_seq (K_r [.m] [([] : Heap) = []] (by kernel_rfl) (A1 rfl) ?_)
  refine K_g (by kernel_rfl) ?_
  cases H
  refine K_ret ?_
  kernel_rfl
def T_store_check (k : Nat) (p1 : List (List Int)) (p2 : Int) : Option Int := match k with
 | 0 => none
 | k + 1 => ((T_store_Check k p1).bind fun x1 => (if (!decide (x1 = 0)) = true then some x1 else ((T_store_length k p2).bind fun x3 => (if (!(decide (2 ≤ p2) && decide (p2 ≤ 32))) = true then some 8 else some 0))))
abbrev C_T_store_check (k : Nat) (p1 : List (List Int)) (p2 : Int) (r : Int) : Prop := evF X k n_store_check [(.agg [.d (.list (p1.map (el (D.int .i64))))]), (I p2)] [] = some ((I r), [])
theorem T_store_check_ok (k : Nat) (p1 : List (List Int)) (p2 : Int) (r : Int) : T_store_check k p1 p2 = some r → C_T_store_check k p1 p2 r := by
 intro H
 cases k with
 | zero => simp [T_store_check] at H
 | succ k =>
  simp only [T_store_check] at H
  refine F_in X_store_check rfl ?_
  refine K_seq (K_r [] [] (by kernel_rfl) trivial ?_)
  refine K_seq ?_
  refine K_seq ?_
  obtain ⟨x1, hx1, H⟩ := bind_some' H
  refine K_r [.r (I x1) []] [C_T_store_Check k p1 x1] (by kernel_rfl) (A1 (T_store_Check_ok k p1 x1 hx1)) ?_
  refine K_seq (K_r [] [] (by kernel_rfl) trivial ?_)
  rcases ite_some H with ⟨hx2, H⟩ | ⟨hx2, H⟩
  · refine K_t (by kernel_rfl) hx2 ?_
    refine K_seq (K_r [] [] (by kernel_rfl) trivial ?_)
    refine K_g (by kernel_rfl) ?_
    cases H
    refine K_ret ?_
    kernel_rfl
  · refine K_f (by kernel_rfl) (Bool.eq_false_iff.2 hx2) ?_
    refine K_g (by kernel_rfl) ?_
    refine K_skip ?_
    refine K_seq ?_
    refine K_seq ?_
    obtain ⟨x3, hx3, H⟩ := bind_some' H
    refine K_r [.r (B (decide (2 ≤ p2) && decide (p2 ≤ 32))) []] [C_T_store_length k p2 x3] (by kernel_rfl) (A1 (T_store_length_ok k p2 x3 hx3)) ?_
    rcases ite_some H with ⟨hx4, H⟩ | ⟨hx4, H⟩
    · refine K_t (by kernel_rfl) hx4 ?_
      refine K_seq (K_r [] [] (by kernel_rfl) trivial ?_)
      refine K_g (by kernel_rfl) ?_
      cases H
      refine K_ret ?_
      kernel_rfl
    · refine K_f (by kernel_rfl) (Bool.eq_false_iff.2 hx4) ?_
      refine K_g (by kernel_rfl) ?_
      refine K_skip (K_seq (K_r [] [] (by kernel_rfl) trivial ?_))
      refine K_g (by kernel_rfl) ?_
      cases H
      refine K_ret ?_
      kernel_rfl
def T_store_Starts_l1 (k : Nat) (p1 : List Int) (p2 : Int) (x5 : Int) (x15 : Nat × Int × Int × (List Int)) : Option ((Nat × Int × Int × (List Int)) ⊕ ((Nat × (List Int)))) :=
 (if x15.2.2.1 < x5 then ((at? p1 x15.2.2.1).bind fun x17 => ((if x17 = 1073741824 then some (w64 (x15.2.2.1 + 1)) else some x15.2.1)).bind fun x19 => ((if x19 ≤ (w64 ((w64 (x15.2.2.1 + 1)) - p2)) then (if x15.1 + 1 ≤ LIM then some ((x15.1 + 1), ((x15.2.2.2.drop 0).take x15.1 ++ ([(w64 ((w64 (x15.2.2.1 + 1)) - p2))] : List Int))) else none) else some (x15.1, x15.2.2.2))).bind fun x22 => some (.inl (x22.1, x19, (w64 (x15.2.2.1 + 1)), x22.2))) else some (.inr (x15.1, x15.2.2.2)))
theorem T_store_Starts_l1_ok (k : Nat) (p1 : List Int) (p2 : Int) (x5 : Int) : ∀ (x15 : Nat × Int × Int × (List Int)) (x : (Nat × Int × Int × (List Int)) ⊕ ((Nat × (List Int)))), T_store_Starts_l1 k p1 p2 x5 x15 = some x → evC X (evF X k) k 0 l_store_Starts_1 ⟨[(1, (I p2)), (5, (.one (.own 0 0 x15.1))), (6, (I x15.2.1)), (10, (LI p1)), (11, (I x5)), (12, (I x15.2.2.1))], [VI x15.2.2.2]⟩ = some (outS (fun (s : Nat × Int × Int × (List Int)) => ⟨[(1, (I p2)), (5, (.one (.own 0 0 s.1))), (6, (I s.2.1)), (10, (LI p1)), (11, (I x5)), (12, (I s.2.2.1))], [VI s.2.2.2]⟩) (fun (r : (Nat × (List Int))) => (.exit 0, ⟨[(5, (.one (.own 0 0 r.1)))], [VI r.2]⟩)) x) := by
 intro x15 x H
 unfold T_store_Starts_l1 at H
 refine K_in ?_
 refine K_seq (K_r [] [] (by kernel_rfl) trivial ?_)
 refine K_seq ?_
 rcases ite_some H with ⟨hx16, H⟩ | ⟨hx16, H⟩
 · refine K_t (by kernel_rfl) (decide_eq_true hx16) ?_
   refine K_g (by kernel_rfl) ?_
   refine K_skip ?_
   refine K_seq ?_
   refine K_block ?_
   refine K_seq ?_
   obtain ⟨x17, hx17, H⟩ := bind_some' H
   refine K_r [.l [.int .i64 x17]] [(0 : Int) ≤ x15.2.2.1 ∧ x15.2.2.1 < (((p1.map (D.int .i64))).length : Int), ((p1.map (D.int .i64)).getD x15.2.2.1.toNat (.int .i64 0)).cells = [.int .i64 x17]] (by kernel_rfl) (AC (at_ok hx17 (D.int .i64) (.int .i64 0)).1 (A1 (at_ok hx17 (D.int .i64) (.int .i64 0)).2)) ?_
   refine K_seq (K_seq (K_r [] [] (by kernel_rfl) trivial ?_))
   obtain ⟨x19, hx19, H⟩ := bind_some' H
   refine K_of ⟨[(1, (I p2)), (5, (.one (.own 0 0 x15.1))), (6, (I x19)), (7, (I x15.2.2.1)), (10, (LI p1)), (11, (I x5)), (12, (I x15.2.2.1))], [VI x15.2.2.2]⟩ ?_ ?_
   · clear H; have H := hx19; clear hx19; refine K_in ?_
     rcases ite_some H with ⟨hx18, H⟩ | ⟨hx18, H⟩
     · refine K_t (by kernel_rfl) (decide_eq_true hx18) ?_
       refine K_r [] [] (by kernel_rfl) trivial ?_
       cases H
       exact K_end (by kernel_rfl)
     · refine K_f (by kernel_rfl) (decide_eq_false hx18) ?_
       refine K_g (by kernel_rfl) ?_
       refine K_skip ?_
       cases H
       exact K_end (by kernel_rfl)
   refine K_seq (K_r [] [] (by kernel_rfl) trivial ?_)
   refine K_seq (K_r [] [] (by kernel_rfl) trivial ?_)
   obtain ⟨x22, hx22, H⟩ := bind_some' H
   refine K_of ⟨[(1, (I p2)), (5, (.one (.own 0 0 x22.1))), (6, (I x19)), (10, (LI p1)), (11, (I x5)), (12, (I x15.2.2.1))], [VI x22.2]⟩ ?_ ?_
   · clear H; have H := hx22; clear hx22; refine K_in ?_
     rcases ite_some H with ⟨hx20, H⟩ | ⟨hx20, H⟩
     · refine K_t (by kernel_rfl) (decide_eq_true hx20) ?_
       obtain ⟨hx21, H⟩ := guard_some H
       refine K_r [.n 1, .l (((x15.2.2.2.drop 0).take x15.1 ++ ([(w64 ((w64 (x15.2.2.1 + 1)) - p2))] : List Int)).map (D.int .i64))] [(List.all (([(w64 ((w64 (x15.2.2.1 + 1)) - p2))] : List Int).map (D.int .i64)) fun d => d.cells.length == (D.cells (.int .i64 0)).length) = true, x15.1 + 1 ≤ LIM, (([(w64 ((w64 (x15.2.2.1 + 1)) - p2))] : List Int).map (D.int .i64)).length = 1, ((x15.2.2.2.map (D.int .i64)).drop 0).take x15.1 ++ (([(w64 ((w64 (x15.2.2.1 + 1)) - p2))] : List Int).map (D.int .i64)) = ((x15.2.2.2.drop 0).take x15.1 ++ ([(w64 ((w64 (x15.2.2.1 + 1)) - p2))] : List Int)).map (D.int .i64)] (by kernel_rfl) (AC (all_ok (D.int .i64) 1 ([(w64 ((w64 (x15.2.2.1 + 1)) - p2))] : List Int) (fun _ => rfl)) (AC hx21 (AC (by simp) (A1 (ap_map (D.int .i64) x15.2.2.2 ([(w64 ((w64 (x15.2.2.1 + 1)) - p2))] : List Int) 0 x15.1))))) ?_
       cases H
       exact K_end (by kernel_rfl)
     · refine K_f (by kernel_rfl) (decide_eq_false hx20) ?_
       refine K_g (by kernel_rfl) ?_
       refine K_skip ?_
       cases H
       exact K_end (by kernel_rfl)
   refine K_blk (K_r [] [] (by kernel_rfl) trivial ?_)
   cases H
   exact K_end (by kernel_rfl)
 · refine K_f (by kernel_rfl) (decide_eq_false hx16) ?_
   refine K_g (by kernel_rfl) ?_
   cases H
   exact K_exit0 rfl (by kernel_rfl)
def T_store_Starts (k : Nat) (p1 : List Int) (p2 : Int) : Option ((List Int)) := match k with
 | 0 => none
 | k + 1 => ((loopT (T_store_Starts_l1 k p1 p2 (p1.length : Int)) k (0, 0, 0, [])).bind fun x23 => some ((x23.2.drop 0).take x23.1))
abbrev C_T_store_Starts (k : Nat) (p1 : List Int) (p2 : Int) (r : (List Int)) : Prop := evF X k n_store_Starts [(LI p1), (I p2)] [] = some ((LI r), [])
theorem T_store_Starts_ok (k : Nat) (p1 : List Int) (p2 : Int) (r : (List Int)) : T_store_Starts k p1 p2 = some r → C_T_store_Starts k p1 p2 r := by
 intro H
 cases k with
 | zero => simp [T_store_Starts] at H
 | succ k =>
  simp only [T_store_Starts] at H
  refine F_in X_store_Starts rfl ?_
  refine K_seq (K_r [] [] (by kernel_rfl) trivial ?_)
  refine K_seq (K_r [] [] (by kernel_rfl) trivial ?_)
  refine K_seq (K_r [] [] (by kernel_rfl) trivial ?_)
  refine K_seq (K_seq (K_r [.n p1.length] [((p1.map (D.int .i64))).length = p1.length] (by kernel_rfl) (A1 (List.length_map _)) ?_))
  refine K_block (K_g (by kernel_rfl) ?_)
  refine K_conv (σ' := ⟨[(1, (I p2)), (5, (.one (.own 0 0 0))), (6, (I 0)), (10, (LI p1)), (11, (I (p1.length : Int))), (12, (I 0))], [VI []]⟩) (by kernel_rfl) ?_
  obtain ⟨x23, hx23, H⟩ := bind_some' H
  refine K_loop ⟨[(5, (.one (.own 0 0 x23.1)))], [VI x23.2]⟩ (loop_ok (fun (s : Nat × Int × Int × (List Int)) => ⟨[(1, (I p2)), (5, (.one (.own 0 0 s.1))), (6, (I s.2.1)), (10, (LI p1)), (11, (I (p1.length : Int))), (12, (I s.2.2.1))], [VI s.2.2.2]⟩) (fun (r : (Nat × (List Int))) => (.exit 0, ⟨[(5, (.one (.own 0 0 r.1)))], [VI r.2]⟩)) (fun r h => by cases h) (T_store_Starts_l1_ok k p1 p2 (p1.length : Int)) k (0, 0, 0, []) x23 hx23) rfl ?_
  refine K_seq (K_r [] [] (by kernel_rfl) trivial ?_)
  refine K_g (by kernel_rfl) ?_
  cases H
  refine K_ret ?_
  exact Eq.trans (b := some ((.one (.d (.list (((x23.2.map (D.int .i64)).drop 0).take x23.1)))), [])) (by kernel_rfl) (by simp only [dt_map, rl_map, LI, VI])
def T_store_Places_l1 (k : Nat) (p1 : List (List Int)) (p2 : Int) (x6 : Int) (x33 : (List Int)) (x36 : Int) (x39 : Int) (x41 : Int) (x47 : Nat × Int × (List (Int × Int))) : Option ((Nat × Int × (List (Int × Int))) ⊕ ((Nat × (List (Int × Int))))) :=
 (if x47.2.1 < x41 then (at? x33 x47.2.1).bind fun x49 => (if x47.1 + 1 ≤ LIM then some (.inl ((x47.1 + 1), (w64 (x47.2.1 + 1)), ((x47.2.2.drop 0).take x47.1 ++ ([(x36, x49)] : List (Int × Int))))) else none) else some (.inr (x47.1, x47.2.2)))
theorem T_store_Places_l1_ok (k : Nat) (p1 : List (List Int)) (p2 : Int) (x6 : Int) (x33 : (List Int)) (x36 : Int) (x39 : Int) (x41 : Int) : ∀ (x47 : Nat × Int × (List (Int × Int))) (x : (Nat × Int × (List (Int × Int))) ⊕ ((Nat × (List (Int × Int))))), T_store_Places_l1 k p1 p2 x6 x33 x36 x39 x41 x47 = some x → evC X (evF X k) k 0 l_store_Places_1 ⟨[(1, (I p2)), (7, (.one (.own 0 0 x47.1))), (8, (I x36)), (19, (.one (.d (.list (p1.map (el (D.int .i64))))))), (20, (I x6)), (21, (I x39)), (28, (LI x33)), (29, (I x41)), (30, (I x47.2.1))], [.vals (.agg [(.int .i64 0), (.int .i64 0)]) (x47.2.2.map e_st0)]⟩ = some (outS (fun (s : Nat × Int × (List (Int × Int))) => ⟨[(1, (I p2)), (7, (.one (.own 0 0 s.1))), (8, (I x36)), (19, (.one (.d (.list (p1.map (el (D.int .i64))))))), (20, (I x6)), (21, (I x39)), (28, (LI x33)), (29, (I x41)), (30, (I s.2.1))], [.vals (.agg [(.int .i64 0), (.int .i64 0)]) (s.2.2.map e_st0)]⟩) (fun (r : (Nat × (List (Int × Int)))) => (.exit 2, ⟨[(1, (I p2)), (7, (.one (.own 0 0 r.1))), (19, (.one (.d (.list (p1.map (el (D.int .i64))))))), (20, (I x6)), (21, (I x39))], [.vals (.agg [(.int .i64 0), (.int .i64 0)]) (r.2.map e_st0)]⟩)) x) := by
 intro x47 x H
 unfold T_store_Places_l1 at H
 refine K_in ?_
 refine K_seq (K_r [] [] (by kernel_rfl) trivial ?_)
 refine K_seq ?_
 rcases ite_some H with ⟨hx48, H⟩ | ⟨hx48, H⟩
 · refine K_t (by kernel_rfl) (decide_eq_true hx48) ?_
   refine K_g (by kernel_rfl) ?_
   refine K_skip ?_
   refine K_seq ?_
   refine K_block ?_
   refine K_seq ?_
   obtain ⟨x49, hx49, H⟩ := bind_some' H
   refine K_r [.l [.int .i64 x49]] [(0 : Int) ≤ x47.2.1 ∧ x47.2.1 < (((x33.map (D.int .i64))).length : Int), ((x33.map (D.int .i64)).getD x47.2.1.toNat (.int .i64 0)).cells = [.int .i64 x49]] (by kernel_rfl) (AC (at_ok hx49 (D.int .i64) (.int .i64 0)).1 (A1 (at_ok hx49 (D.int .i64) (.int .i64 0)).2)) ?_
   obtain ⟨hx50, H⟩ := guard_some H
   refine K_r [.n 1, .l (((x47.2.2.drop 0).take x47.1 ++ ([(x36, x49)] : List (Int × Int))).map e_st0)] [(List.all (([(x36, x49)] : List (Int × Int)).map e_st0) fun d => d.cells.length == (D.cells (.agg [(.int .i64 0), (.int .i64 0)])).length) = true, x47.1 + 1 ≤ LIM, (([(x36, x49)] : List (Int × Int)).map e_st0).length = 1, ((x47.2.2.map e_st0).drop 0).take x47.1 ++ (([(x36, x49)] : List (Int × Int)).map e_st0) = ((x47.2.2.drop 0).take x47.1 ++ ([(x36, x49)] : List (Int × Int))).map e_st0] (by kernel_rfl) (AC (all_ok e_st0 2 ([(x36, x49)] : List (Int × Int)) (fun _ => rfl)) (AC hx50 (AC (by simp) (A1 (ap_map e_st0 x47.2.2 ([(x36, x49)] : List (Int × Int)) 0 x47.1))))) ?_
   refine K_blk (K_r [] [] (by kernel_rfl) trivial ?_)
   cases H
   exact K_end (by kernel_rfl)
 · refine K_f (by kernel_rfl) (decide_eq_false hx48) ?_
   refine K_g (by kernel_rfl) ?_
   cases H
   exact K_exit0 rfl (by kernel_rfl)
def T_store_Places_l2 (k : Nat) (p1 : List (List Int)) (p2 : Int) (x6 : Int) (x30 : Nat × Int × (List (Int × Int))) : Option ((Nat × Int × (List (Int × Int))) ⊕ ((Nat × (List (Int × Int))))) :=
 (if x30.2.1 < x6 then ((at? p1 x30.2.1).bind fun x32 => (T_store_Starts k x32 p2).bind fun x33 => (loopT (T_store_Places_l1 k p1 p2 x6 x33 x30.2.1 x30.2.1 (x33.length : Int)) k (x30.1, 0, x30.2.2)).bind fun x51 => some (.inl (x51.1, (w64 (x30.2.1 + 1)), x51.2))) else some (.inr (x30.1, x30.2.2)))
theorem T_store_Places_l2_ok (k : Nat) (p1 : List (List Int)) (p2 : Int) (x6 : Int) : ∀ (x30 : Nat × Int × (List (Int × Int))) (x : (Nat × Int × (List (Int × Int))) ⊕ ((Nat × (List (Int × Int))))), T_store_Places_l2 k p1 p2 x6 x30 = some x → evC X (evF X k) k 0 l_store_Places_2 ⟨[(1, (I p2)), (7, (.one (.own 0 0 x30.1))), (19, (.one (.d (.list (p1.map (el (D.int .i64))))))), (20, (I x6)), (21, (I x30.2.1))], [.vals (.agg [(.int .i64 0), (.int .i64 0)]) (x30.2.2.map e_st0)]⟩ = some (outS (fun (s : Nat × Int × (List (Int × Int))) => ⟨[(1, (I p2)), (7, (.one (.own 0 0 s.1))), (19, (.one (.d (.list (p1.map (el (D.int .i64))))))), (20, (I x6)), (21, (I s.2.1))], [.vals (.agg [(.int .i64 0), (.int .i64 0)]) (s.2.2.map e_st0)]⟩) (fun (r : (Nat × (List (Int × Int)))) => (.exit 0, ⟨[(7, (.one (.own 0 0 r.1)))], [.vals (.agg [(.int .i64 0), (.int .i64 0)]) (r.2.map e_st0)]⟩)) x) := by
 intro x30 x H
 unfold T_store_Places_l2 at H
 refine K_in ?_
 refine K_seq (K_r [] [] (by kernel_rfl) trivial ?_)
 refine K_seq ?_
 rcases ite_some H with ⟨hx31, H⟩ | ⟨hx31, H⟩
 · refine K_t (by kernel_rfl) (decide_eq_true hx31) ?_
   refine K_g (by kernel_rfl) ?_
   refine K_skip ?_
   refine K_seq ?_
   refine K_block ?_
   refine K_seq ?_
   obtain ⟨x32, hx32, H⟩ := bind_some' H
   refine K_r [.l [.list (x32.map (D.int .i64))]] [(0 : Int) ≤ x30.2.1 ∧ x30.2.1 < (((p1.map (el (D.int .i64)))).length : Int), ((p1.map (el (D.int .i64))).getD x30.2.1.toNat (.list [])).cells = [.list (x32.map (D.int .i64))]] (by kernel_rfl) (AC (at_ok hx32 (el (D.int .i64)) (.list [])).1 (A1 (at_ok hx32 (el (D.int .i64)) (.list [])).2)) ?_
   refine K_seq ?_
   obtain ⟨x33, hx33, H⟩ := bind_some' H
   refine K_r [.r (LI x33) [], .n x33.length] [C_T_store_Starts k x32 p2 x33, ((x33.map (D.int .i64))).length = x33.length] (by kernel_rfl) (AC (T_store_Starts_ok k x32 p2 x33 hx33) (A1 (List.length_map _))) ?_
   refine K_block (K_conv (σ' := ⟨[(1, (I p2)), (7, (.one (.own 0 0 x30.1))), (8, (I x30.2.1)), (19, (.one (.d (.list (p1.map (el (D.int .i64))))))), (20, (I x6)), (21, (I x30.2.1)), (28, (LI x33)), (29, (I (x33.length : Int))), (30, (I 0))], [.vals (.agg [(.int .i64 0), (.int .i64 0)]) (x30.2.2.map e_st0)]⟩) (by kernel_rfl) ?_)
   obtain ⟨x51, hx51, H⟩ := bind_some' H
   refine K_loop ⟨[(1, (I p2)), (7, (.one (.own 0 0 x51.1))), (19, (.one (.d (.list (p1.map (el (D.int .i64))))))), (20, (I x6)), (21, (I x30.2.1))], [.vals (.agg [(.int .i64 0), (.int .i64 0)]) (x51.2.map e_st0)]⟩ (loop_ok (fun (s : Nat × Int × (List (Int × Int))) => ⟨[(1, (I p2)), (7, (.one (.own 0 0 s.1))), (8, (I x30.2.1)), (19, (.one (.d (.list (p1.map (el (D.int .i64))))))), (20, (I x6)), (21, (I x30.2.1)), (28, (LI x33)), (29, (I (x33.length : Int))), (30, (I s.2.1))], [.vals (.agg [(.int .i64 0), (.int .i64 0)]) (s.2.2.map e_st0)]⟩) (fun (r : (Nat × (List (Int × Int)))) => (.exit 2, ⟨[(1, (I p2)), (7, (.one (.own 0 0 r.1))), (19, (.one (.d (.list (p1.map (el (D.int .i64))))))), (20, (I x6)), (21, (I x30.2.1))], [.vals (.agg [(.int .i64 0), (.int .i64 0)]) (r.2.map e_st0)]⟩)) (fun r h => by cases h) (T_store_Places_l1_ok k p1 p2 x6 x33 x30.2.1 x30.2.1 (x33.length : Int)) k (x30.1, 0, x30.2.2) x51 hx51) rfl ?_
   refine K_blk (K_r [] [] (by kernel_rfl) trivial ?_)
   cases H
   exact K_end (by kernel_rfl)
 · refine K_f (by kernel_rfl) (decide_eq_false hx31) ?_
   refine K_g (by kernel_rfl) ?_
   cases H
   exact K_exit0 rfl (by kernel_rfl)
def T_store_Places (k : Nat) (p1 : List (List Int)) (p2 : Int) : Option ((List (Int × Int)) × Int) := match k with
 | 0 => none
 | k + 1 => ((T_store_check k p1 p2).bind fun x1 => (if (!decide (x1 = 0)) = true then some ([], x1) else ((loopT (T_store_Places_l2 k p1 p2 (p1.length : Int)) k (0, 0, [])).bind fun x52 => some (((x52.2.drop 0).take x52.1), 0))))
abbrev C_T_store_Places (k : Nat) (p1 : List (List Int)) (p2 : Int) (r : (List (Int × Int)) × Int) : Prop := evF X k n_store_Places [(.agg [.d (.list (p1.map (el (D.int .i64))))]), (I p2)] [] = some ((.tup [(false, [.d (.list (r.1.map e_st0))]), (false, [cI r.2])]), [])
theorem T_store_Places_ok (k : Nat) (p1 : List (List Int)) (p2 : Int) (r : (List (Int × Int)) × Int) : T_store_Places k p1 p2 = some r → C_T_store_Places k p1 p2 r := by
 intro H
 cases k with
 | zero => simp [T_store_Places] at H
 | succ k =>
  simp only [T_store_Places] at H
  refine F_in X_store_Places rfl ?_
  refine K_seq (K_r [] [] (by kernel_rfl) trivial ?_)
  refine K_seq ?_
  refine K_seq ?_
  obtain ⟨x1, hx1, H⟩ := bind_some' H
  refine K_r [.r (I x1) []] [C_T_store_check k p1 p2 x1] (by kernel_rfl) (A1 (T_store_check_ok k p1 p2 x1 hx1)) ?_
  refine K_seq (K_r [] [] (by kernel_rfl) trivial ?_)
  rcases ite_some H with ⟨hx2, H⟩ | ⟨hx2, H⟩
  · refine K_t (by kernel_rfl) hx2 ?_
    refine K_seq (K_r [] [] (by kernel_rfl) trivial ?_)
    refine K_g (by kernel_rfl) ?_
    cases H
    refine K_ret ?_
    kernel_rfl
  · refine K_f (by kernel_rfl) (Bool.eq_false_iff.2 hx2) ?_
    refine K_g (by kernel_rfl) ?_
    refine K_skip (K_seq (K_r [] [] (by kernel_rfl) trivial ?_))
    refine K_seq (K_seq (K_r [.n p1.length] [((p1.map (el (D.int .i64)))).length = p1.length] (by kernel_rfl) (A1 (List.length_map _)) ?_))
    refine K_block (K_g (by kernel_rfl) ?_)
    refine K_conv (σ' := ⟨[(1, (I p2)), (7, (.one (.own 0 0 0))), (19, (.one (.d (.list (p1.map (el (D.int .i64))))))), (20, (I (p1.length : Int))), (21, (I 0))], [.vals (.agg [(.int .i64 0), (.int .i64 0)]) ([].map e_st0)]⟩) (by kernel_rfl) ?_
    obtain ⟨x52, hx52, H⟩ := bind_some' H
    refine K_loop ⟨[(7, (.one (.own 0 0 x52.1)))], [.vals (.agg [(.int .i64 0), (.int .i64 0)]) (x52.2.map e_st0)]⟩ (loop_ok (fun (s : Nat × Int × (List (Int × Int))) => ⟨[(1, (I p2)), (7, (.one (.own 0 0 s.1))), (19, (.one (.d (.list (p1.map (el (D.int .i64))))))), (20, (I (p1.length : Int))), (21, (I s.2.1))], [.vals (.agg [(.int .i64 0), (.int .i64 0)]) (s.2.2.map e_st0)]⟩) (fun (r : (Nat × (List (Int × Int)))) => (.exit 0, ⟨[(7, (.one (.own 0 0 r.1)))], [.vals (.agg [(.int .i64 0), (.int .i64 0)]) (r.2.map e_st0)]⟩)) (fun r h => by cases h) (T_store_Places_l2_ok k p1 p2 (p1.length : Int)) k (0, 0, []) x52 hx52) rfl ?_
    refine K_seq (K_r [] [] (by kernel_rfl) trivial ?_)
    refine K_g (by kernel_rfl) ?_
    cases H
    refine K_ret ?_
    exact Eq.trans (b := some ((.tup [(false, [.d (.list (((x52.2.map e_st0).drop 0).take x52.1))]), (false, [cI 0])]), [])) (by kernel_rfl) (by simp only [dt_map, rl_map, LI, VI])
def T_ref23_Sample (k : Nat) (p1 : Int) : Option Unit := match k with
 | 0 => none
 | k + 1 => some ()
abbrev C_T_ref23_Sample (k : Nat) (p1 : Int) (r : Unit) : Prop := evF X k n_ref23_Sample [(I p1)] [] = some ((B (decide ((-1000) ≤ p1) && decide (p1 ≤ 1000))), [])
theorem T_ref23_Sample_ok (k : Nat) (p1 : Int) (r : Unit) : T_ref23_Sample k p1 = some r → C_T_ref23_Sample k p1 r := by
 intro H
 cases k with
 | zero => simp [T_ref23_Sample] at H
 | succ k =>
  simp only [T_ref23_Sample] at H
  refine F_in X_ref23_Sample rfl ?_
  refine K_seq (K_r [] [] (by kernel_rfl) trivial ?_)
  refine K_seq (K_r [.m] [([] : Heap) = []] (by kernel_rfl) (A1 rfl) ?_)
  refine K_g (by kernel_rfl) ?_
  cases H
  refine K_ret ?_
  kernel_rfl
def T_ref23_Check_l1 (k : Nat) (p1 : List (List Int)) (x8 : Int × Int) : Option ((Int × Int) ⊕ (Unit ⊕ Unit)) :=
 (if x8.2 < (p1.length : Int) then ((at? p1 x8.2).bind fun x10 => (if 2000 < (w64 (x8.1 + (x10.length : Int))) then some (.inr (.inr ())) else some (.inl ((w64 (x8.1 + (x10.length : Int))), (w64 (x8.2 + 1)))))) else some (.inr (.inl ())))
theorem T_ref23_Check_l1_ok (k : Nat) (p1 : List (List Int)) : ∀ (x8 : Int × Int) (x : (Int × Int) ⊕ (Unit ⊕ Unit)), T_ref23_Check_l1 k p1 x8 = some x → evC X (evF X k) k 0 l_ref23_Check_1 ⟨[(1, (Pt 0)), (3, (I x8.1)), (4, (I x8.2))], [.cells [.d (.list (p1.map (el (D.int .i64))))]]⟩ = some (outS (fun (s : Int × Int) => ⟨[(1, (Pt 0)), (3, (I s.1)), (4, (I s.2))], [.cells [.d (.list (p1.map (el (D.int .i64))))]]⟩) (fun (r : Unit ⊕ Unit) => Sum.elim (fun y => (.exit 0, ⟨[(1, (Pt 0))], [.cells [.d (.list (p1.map (el (D.int .i64))))]]⟩)) (fun y => (.ret, ⟨[(2, (I 20))], []⟩)) r) x) := by
 intro x8 x H
 unfold T_ref23_Check_l1 at H
 refine K_in ?_
 refine K_seq (K_seq (K_r [.n p1.length] [((p1.map (el (D.int .i64)))).length = p1.length] (by kernel_rfl) (A1 (List.length_map _)) ?_))
 rcases ite_some H with ⟨hx9, H⟩ | ⟨hx9, H⟩
 · refine K_t (by kernel_rfl) (decide_eq_true hx9) ?_
   refine K_g (by kernel_rfl) ?_
   refine K_skip ?_
   refine K_seq ?_
   refine K_block ?_
   refine K_seq ?_
   obtain ⟨x10, hx10, H⟩ := bind_some' H
   refine K_r [.l [.list (x10.map (D.int .i64))], .n x10.length] [(0 : Int) ≤ x8.2 ∧ x8.2 < (((p1.map (el (D.int .i64)))).length : Int), ((p1.map (el (D.int .i64))).getD x8.2.toNat (.list [])).cells = [.list (x10.map (D.int .i64))], ((x10.map (D.int .i64))).length = x10.length] (by kernel_rfl) (AC (at_ok hx10 (el (D.int .i64)) (.list [])).1 (AC (at_ok hx10 (el (D.int .i64)) (.list [])).2 (A1 (List.length_map _)))) ?_
   refine K_seq (K_r [] [] (by kernel_rfl) trivial ?_)
   rcases ite_some H with ⟨hx11, H⟩ | ⟨hx11, H⟩
   · refine K_t (by kernel_rfl) (decide_eq_true hx11) ?_
     refine K_seq (K_r [] [] (by kernel_rfl) trivial ?_)
     refine K_g (by kernel_rfl) ?_
     cases H
     exact K_ret (by kernel_rfl)
   · refine K_f (by kernel_rfl) (decide_eq_false hx11) ?_
     refine K_g (by kernel_rfl) ?_
     refine K_skip (K_blk (K_r [] [] (by kernel_rfl) trivial ?_))
     cases H
     exact K_end (by kernel_rfl)
 · refine K_f (by kernel_rfl) (decide_eq_false hx9) ?_
   refine K_g (by kernel_rfl) ?_
   cases H
   exact K_exit0 rfl (by kernel_rfl)
def T_ref23_Check_l2 (k : Nat) (p1 : List (List Int)) (x42 : Int) (x56 : Int) : Option (Int ⊕ (Unit ⊕ Unit)) :=
 ((at? p1 x42).bind fun x57 => (if x56 < (x57.length : Int) then ((at? p1 x42).bind fun x59 => (at? x59 x56).bind fun x60 => ((if (!decide (x60 = 1073741824)) = true then ((T_ref23_Sample k x60).bind fun x63 => some (!(decide ((-1000) ≤ x60) && decide (x60 ≤ 1000)))) else some false)).bind fun x64 => (if x64 = true then some (.inr (.inr ())) else some (.inl (w64 (x56 + 1))))) else some (.inr (.inl ()))))
theorem T_ref23_Check_l2_ok (k : Nat) (p1 : List (List Int)) (x42 : Int) : ∀ (x56 : Int) (x : Int ⊕ (Unit ⊕ Unit)), T_ref23_Check_l2 k p1 x42 x56 = some x → evC X (evF X k) k 0 l_ref23_Check_2 ⟨[(1, (Pt 0)), (5, (I x42)), (6, (I x56))], [.cells [.d (.list (p1.map (el (D.int .i64))))]]⟩ = some (outS (fun (s : Int) => ⟨[(1, (Pt 0)), (5, (I x42)), (6, (I s))], [.cells [.d (.list (p1.map (el (D.int .i64))))]]⟩) (fun (r : Unit ⊕ Unit) => Sum.elim (fun y => (.exit 4, ⟨[(1, (Pt 0)), (5, (I x42))], [.cells [.d (.list (p1.map (el (D.int .i64))))]]⟩)) (fun y => (.ret, ⟨[(2, (I 12))], []⟩)) r) x) := by
 intro x56 x H
 unfold T_ref23_Check_l2 at H
 refine K_in ?_
 refine K_seq ?_
 refine K_seq ?_
 obtain ⟨x57, hx57, H⟩ := bind_some' H
 refine K_r [.l [.list (x57.map (D.int .i64))], .n x57.length] [(0 : Int) ≤ x42 ∧ x42 < (((p1.map (el (D.int .i64)))).length : Int), ((p1.map (el (D.int .i64))).getD x42.toNat (.list [])).cells = [.list (x57.map (D.int .i64))], ((x57.map (D.int .i64))).length = x57.length] (by kernel_rfl) (AC (at_ok hx57 (el (D.int .i64)) (.list [])).1 (AC (at_ok hx57 (el (D.int .i64)) (.list [])).2 (A1 (List.length_map _)))) ?_
 rcases ite_some H with ⟨hx58, H⟩ | ⟨hx58, H⟩
 · refine K_t (by kernel_rfl) (decide_eq_true hx58) ?_
   refine K_g (by kernel_rfl) ?_
   refine K_skip ?_
   refine K_seq ?_
   refine K_block ?_
   refine K_seq ?_
   obtain ⟨x59, hx59, H⟩ := bind_some' H
   obtain ⟨x60, hx60, H⟩ := bind_some' H
   refine K_r [.l [.list (x59.map (D.int .i64))], .l [.int .i64 x60]] [(0 : Int) ≤ x42 ∧ x42 < (((p1.map (el (D.int .i64)))).length : Int), ((p1.map (el (D.int .i64))).getD x42.toNat (.list [])).cells = [.list (x59.map (D.int .i64))], (0 : Int) ≤ x56 ∧ x56 < (((x59.map (D.int .i64))).length : Int), ((x59.map (D.int .i64)).getD x56.toNat (.int .i64 0)).cells = [.int .i64 x60]] (by kernel_rfl) (AC (at_ok hx59 (el (D.int .i64)) (.list [])).1 (AC (at_ok hx59 (el (D.int .i64)) (.list [])).2 (AC (at_ok hx60 (D.int .i64) (.int .i64 0)).1 (A1 (at_ok hx60 (D.int .i64) (.int .i64 0)).2)))) ?_
   refine K_seq ?_
   obtain ⟨x64, hx64, H⟩ := bind_some' H
   refine K_of ⟨[(1, (Pt 0)), (5, (I x42)), (6, (I x56)), (60, (B x64))], [.cells [.d (.list (p1.map (el (D.int .i64))))]]⟩ ?_ ?_
   · clear H; have H := hx64; clear hx64; refine K_in ?_
     rcases ite_some H with ⟨hx62, H⟩ | ⟨hx62, H⟩
     · obtain ⟨x63, hx63, H⟩ := bind_some' H
       refine K_r [.b true, .r (B (decide ((-1000) ≤ x60) && decide (x60 ≤ 1000))) []] [(!decide (x60 = 1073741824)) = true, C_T_ref23_Sample k x60 x63] (by kernel_rfl) (AC hx62 (A1 (T_ref23_Sample_ok k x60 x63 hx63))) ?_
       cases H
       exact K_end (by kernel_rfl)
     · refine K_r [.b false] [(!decide (x60 = 1073741824)) = false] (by kernel_rfl) (A1 (Bool.eq_false_iff.2 hx62)) ?_
       cases H
       exact K_end (by kernel_rfl)
   rcases ite_some H with ⟨hx65, H⟩ | ⟨hx65, H⟩
   · refine K_t (by kernel_rfl) hx65 ?_
     refine K_seq (K_r [] [] (by kernel_rfl) trivial ?_)
     refine K_g (by kernel_rfl) ?_
     cases H
     exact K_ret (by kernel_rfl)
   · refine K_f (by kernel_rfl) (Bool.eq_false_iff.2 hx65) ?_
     refine K_g (by kernel_rfl) ?_
     refine K_skip (K_blk (K_r [] [] (by kernel_rfl) trivial ?_))
     cases H
     exact K_end (by kernel_rfl)
 · refine K_f (by kernel_rfl) (decide_eq_false hx58) ?_
   refine K_g (by kernel_rfl) ?_
   cases H
   exact K_exit0 rfl (by kernel_rfl)
def T_ref23_Check_l3 (k : Nat) (p1 : List (List Int)) (x42 : Int) : Option (Int ⊕ (Unit ⊕ Unit)) :=
 (if x42 < (p1.length : Int) then ((loopT (T_ref23_Check_l2 k p1 x42) k 0).bind fun x66 => (match x66 with | .inl x67 => some (.inl (w64 (x42 + 1))) | .inr x68 => some (.inr (.inr ())))) else some (.inr (.inl ())))
theorem T_ref23_Check_l3_ok (k : Nat) (p1 : List (List Int)) : ∀ (x42 : Int) (x : Int ⊕ (Unit ⊕ Unit)), T_ref23_Check_l3 k p1 x42 = some x → evC X (evF X k) k 0 l_ref23_Check_3 ⟨[(1, (Pt 0)), (5, (I x42))], [.cells [.d (.list (p1.map (el (D.int .i64))))]]⟩ = some (outS (fun (s : Int) => ⟨[(1, (Pt 0)), (5, (I s))], [.cells [.d (.list (p1.map (el (D.int .i64))))]]⟩) (fun (r : Unit ⊕ Unit) => Sum.elim (fun y => (.exit 2, ⟨[], []⟩)) (fun y => (.ret, ⟨[(2, (I 12))], []⟩)) r) x) := by
 intro x42 x H
 unfold T_ref23_Check_l3 at H
 refine K_in ?_
 refine K_seq (K_seq (K_r [.n p1.length] [((p1.map (el (D.int .i64)))).length = p1.length] (by kernel_rfl) (A1 (List.length_map _)) ?_))
 rcases ite_some H with ⟨hx43, H⟩ | ⟨hx43, H⟩
 · refine K_t (by kernel_rfl) (decide_eq_true hx43) ?_
   refine K_g (by kernel_rfl) ?_
   refine K_skip (K_seq (K_block (K_seq (K_r [] [] (by kernel_rfl) trivial ?_))))
   refine K_block (K_conv (σ' := ⟨[(1, (Pt 0)), (5, (I x42)), (6, (I 0))], [.cells [.d (.list (p1.map (el (D.int .i64))))]]⟩) (by kernel_rfl) ?_)
   obtain ⟨x66, hx66, H⟩ := bind_some' H
   cases x66 with
   | inl x67 =>
    dsimp only at H
    refine K_loop ⟨[(1, (Pt 0)), (5, (I x42))], [.cells [.d (.list (p1.map (el (D.int .i64))))]]⟩ (loop_ok (fun (s : Int) => ⟨[(1, (Pt 0)), (5, (I x42)), (6, (I s))], [.cells [.d (.list (p1.map (el (D.int .i64))))]]⟩) (fun (r : Unit ⊕ Unit) => Sum.elim (fun y => (.exit 4, ⟨[(1, (Pt 0)), (5, (I x42))], [.cells [.d (.list (p1.map (el (D.int .i64))))]]⟩)) (fun y => (.ret, ⟨[(2, (I 12))], []⟩)) r) (fun r h => by cases r <;> cases h) (T_ref23_Check_l2_ok k p1 x42) k 0 (.inl x67) hx66) rfl ?_
    refine K_blk (K_r [] [] (by kernel_rfl) trivial ?_)
    cases H
    exact K_end (by kernel_rfl)
   | inr x68 =>
    dsimp only at H
    cases H
    exact K_loopr ⟨[(2, (I 12))], []⟩ (loop_ok (fun (s : Int) => ⟨[(1, (Pt 0)), (5, (I x42)), (6, (I s))], [.cells [.d (.list (p1.map (el (D.int .i64))))]]⟩) (fun (r : Unit ⊕ Unit) => Sum.elim (fun y => (.exit 4, ⟨[(1, (Pt 0)), (5, (I x42))], [.cells [.d (.list (p1.map (el (D.int .i64))))]]⟩)) (fun y => (.ret, ⟨[(2, (I 12))], []⟩)) r) (fun r h => by cases r <;> cases h) (T_ref23_Check_l2_ok k p1 x42) k 0 (.inr x68) hx66) (by kernel_rfl)
 · refine K_f (by kernel_rfl) (decide_eq_false hx43) ?_
   refine K_g (by kernel_rfl) ?_
   cases H
   exact K_exit0 rfl (by kernel_rfl)
def T_ref23_Check (k : Nat) (p1 : List (List Int)) : Option Int := match k with
 | 0 => none
 | k + 1 => (if 16 < (p1.length : Int) then some 20 else ((loopT (T_ref23_Check_l1 k p1) k (0, 0)).bind fun x12 => (match x12 with | .inl x13 => ((loopT (T_ref23_Check_l3 k p1) k 0).bind fun x69 => (match x69 with | .inl x70 => some 0 | .inr x71 => some 12)) | .inr x72 => some 20)))
abbrev C_T_ref23_Check (k : Nat) (p1 : List (List Int)) (r : Int) : Prop := evF X k n_ref23_Check [(.agg [.d (.list (p1.map (el (D.int .i64))))])] [] = some ((I r), [])
theorem T_ref23_Check_ok (k : Nat) (p1 : List (List Int)) (r : Int) : T_ref23_Check k p1 = some r → C_T_ref23_Check k p1 r := by
 intro H
 cases k with
 | zero => simp [T_ref23_Check] at H
 | succ k =>
  simp only [T_ref23_Check] at H
  refine F_in X_ref23_Check rfl ?_
  refine K_seq (K_r [] [] (by kernel_rfl) trivial ?_)
  refine K_seq (K_seq (K_r [.n p1.length] [((p1.map (el (D.int .i64)))).length = p1.length] (by kernel_rfl) (A1 (List.length_map _)) ?_))
  rcases ite_some H with ⟨hx1, H⟩ | ⟨hx1, H⟩
  · refine K_t (by kernel_rfl) (decide_eq_true hx1) ?_
    refine K_seq (K_r [] [] (by kernel_rfl) trivial ?_)
    refine K_g (by kernel_rfl) ?_
    cases H
    refine K_ret ?_
    kernel_rfl
  · refine K_f (by kernel_rfl) (decide_eq_false hx1) ?_
    refine K_g (by kernel_rfl) ?_
    refine K_skip (K_seq (K_r [] [] (by kernel_rfl) trivial ?_))
    refine K_seq (K_seq (K_r [] [] (by kernel_rfl) trivial ?_))
    refine K_block (K_conv (σ' := ⟨[(1, (Pt 0)), (3, (I 0)), (4, (I 0))], [.cells [.d (.list (p1.map (el (D.int .i64))))]]⟩) (by kernel_rfl) ?_)
    obtain ⟨x12, hx12, H⟩ := bind_some' H
    cases x12 with
    | inl x13 =>
     dsimp only at H
     refine K_loop ⟨[(1, (Pt 0))], [.cells [.d (.list (p1.map (el (D.int .i64))))]]⟩ (loop_ok (fun (s : Int × Int) => ⟨[(1, (Pt 0)), (3, (I s.1)), (4, (I s.2))], [.cells [.d (.list (p1.map (el (D.int .i64))))]]⟩) (fun (r : Unit ⊕ Unit) => Sum.elim (fun y => (.exit 0, ⟨[(1, (Pt 0))], [.cells [.d (.list (p1.map (el (D.int .i64))))]]⟩)) (fun y => (.ret, ⟨[(2, (I 20))], []⟩)) r) (fun r h => by cases r <;> cases h) (T_ref23_Check_l1_ok k p1) k (0, 0) (.inl x13) hx12) rfl ?_
     refine K_seq (K_seq (K_r [] [] (by kernel_rfl) trivial ?_))
     refine K_block (K_conv (σ' := ⟨[(1, (Pt 0)), (5, (I 0))], [.cells [.d (.list (p1.map (el (D.int .i64))))]]⟩) (by kernel_rfl) ?_)
     obtain ⟨x69, hx69, H⟩ := bind_some' H
     cases x69 with
     | inl x70 =>
      dsimp only at H
      refine K_loop ⟨[], []⟩ (loop_ok (fun (s : Int) => ⟨[(1, (Pt 0)), (5, (I s))], [.cells [.d (.list (p1.map (el (D.int .i64))))]]⟩) (fun (r : Unit ⊕ Unit) => Sum.elim (fun y => (.exit 2, ⟨[], []⟩)) (fun y => (.ret, ⟨[(2, (I 12))], []⟩)) r) (fun r h => by cases r <;> cases h) (T_ref23_Check_l3_ok k p1) k 0 (.inl x70) hx69) rfl ?_
      refine K_seq (K_r [] [] (by kernel_rfl) trivial ?_)
      refine K_g (by kernel_rfl) ?_
      cases H
      refine K_ret ?_
      kernel_rfl
     | inr x71 =>
      dsimp only at H
      cases H
      refine K_loopr ⟨[(2, (I 12))], []⟩ (loop_ok (fun (s : Int) => ⟨[(1, (Pt 0)), (5, (I s))], [.cells [.d (.list (p1.map (el (D.int .i64))))]]⟩) (fun (r : Unit ⊕ Unit) => Sum.elim (fun y => (.exit 2, ⟨[], []⟩)) (fun y => (.ret, ⟨[(2, (I 12))], []⟩)) r) (fun r h => by cases r <;> cases h) (T_ref23_Check_l3_ok k p1) k 0 (.inr x71) hx69) ?_
      kernel_rfl
    | inr x72 =>
     dsimp only at H
     cases H
     refine K_loopr ⟨[(2, (I 20))], []⟩ (loop_ok (fun (s : Int × Int) => ⟨[(1, (Pt 0)), (3, (I s.1)), (4, (I s.2))], [.cells [.d (.list (p1.map (el (D.int .i64))))]]⟩) (fun (r : Unit ⊕ Unit) => Sum.elim (fun y => (.exit 0, ⟨[(1, (Pt 0))], [.cells [.d (.list (p1.map (el (D.int .i64))))]]⟩)) (fun y => (.ret, ⟨[(2, (I 20))], []⟩)) r) (fun r h => by cases r <;> cases h) (T_ref23_Check_l1_ok k p1) k (0, 0) (.inr x72) hx12) ?_
     kernel_rfl
def T_ref23_whole_l1 (k : Nat) (p1 : List Int) (p2 : Int) (p3 : Int) (x9 : Int) : Option (Int ⊕ (Unit ⊕ Unit)) :=
 (if x9 < p3 then ((at? p1 (w64 (p2 + x9))).bind fun x11 => (if x11 = 1073741824 then some (.inr (.inr ())) else some (.inl (w64 (x9 + 1))))) else some (.inr (.inl ())))
theorem T_ref23_whole_l1_ok (k : Nat) (p1 : List Int) (p2 : Int) (p3 : Int) : ∀ (x9 : Int) (x : Int ⊕ (Unit ⊕ Unit)), T_ref23_whole_l1 k p1 p2 p3 x9 = some x → evC X (evF X k) k 0 l_ref23_whole_1 ⟨[(0, (LI p1)), (1, (I p2)), (2, (I p3)), (7, (I x9))], []⟩ = some (outS (fun (s : Int) => ⟨[(0, (LI p1)), (1, (I p2)), (2, (I p3)), (7, (I s))], []⟩) (fun (r : Unit ⊕ Unit) => Sum.elim (fun y => (.exit 0, ⟨[], []⟩)) (fun y => (.ret, ⟨[(6, (B false))], []⟩)) r) x) := by
 intro x9 x H
 unfold T_ref23_whole_l1 at H
 refine K_in ?_
 refine K_seq (K_seq (K_r [] [] (by kernel_rfl) trivial ?_))
 rcases ite_some H with ⟨hx10, H⟩ | ⟨hx10, H⟩
 · refine K_t (by kernel_rfl) (decide_eq_true hx10) ?_
   refine K_g (by kernel_rfl) ?_
   refine K_skip ?_
   refine K_seq ?_
   refine K_block ?_
   refine K_seq ?_
   obtain ⟨x11, hx11, H⟩ := bind_some' H
   refine K_r [.l [.int .i64 x11]] [(0 : Int) ≤ (w64 (p2 + x9)) ∧ (w64 (p2 + x9)) < (((p1.map (D.int .i64))).length : Int), ((p1.map (D.int .i64)).getD (w64 (p2 + x9)).toNat (.int .i64 0)).cells = [.int .i64 x11]] (by kernel_rfl) (AC (at_ok hx11 (D.int .i64) (.int .i64 0)).1 (A1 (at_ok hx11 (D.int .i64) (.int .i64 0)).2)) ?_
   rcases ite_some H with ⟨hx12, H⟩ | ⟨hx12, H⟩
   · refine K_t (by kernel_rfl) (decide_eq_true hx12) ?_
     refine K_seq (K_r [] [] (by kernel_rfl) trivial ?_)
     refine K_g (by kernel_rfl) ?_
     cases H
     exact K_ret (by kernel_rfl)
   · refine K_f (by kernel_rfl) (decide_eq_false hx12) ?_
     refine K_g (by kernel_rfl) ?_
     refine K_skip (K_blk (K_r [] [] (by kernel_rfl) trivial ?_))
     cases H
     exact K_end (by kernel_rfl)
 · refine K_f (by kernel_rfl) (decide_eq_false hx10) ?_
   refine K_g (by kernel_rfl) ?_
   cases H
   exact K_exit0 rfl (by kernel_rfl)
def T_ref23_whole (k : Nat) (p1 : List Int) (p2 : Int) (p3 : Int) : Option Bool := match k with
 | 0 => none
 | k + 1 => (if (decide (p2 < 0) || decide ((w64 ((p1.length : Int) - p3)) < p2)) = true then some false else ((loopT (T_ref23_whole_l1 k p1 p2 p3) k 0).bind fun x13 => (match x13 with | .inl x14 => some true | .inr x15 => some false)))
abbrev C_T_ref23_whole (k : Nat) (p1 : List Int) (p2 : Int) (p3 : Int) (r : Bool) : Prop := evF X k n_ref23_whole [(LI p1), (I p2), (I p3)] [] = some ((B r), [])
theorem T_ref23_whole_ok (k : Nat) (p1 : List Int) (p2 : Int) (p3 : Int) (r : Bool) : T_ref23_whole k p1 p2 p3 = some r → C_T_ref23_whole k p1 p2 p3 r := by
 intro H
 cases k with
 | zero => simp [T_ref23_whole] at H
 | succ k =>
  simp only [T_ref23_whole] at H
  refine F_in X_ref23_whole rfl ?_
  refine K_seq (K_r [] [] (by kernel_rfl) trivial ?_)
  refine K_seq (K_seq (K_r [.m, .n p1.length] [decide (p2 < 0) = false → AllT [((p1.map (D.int .i64))).length = p1.length], ([] : Heap) = []] (by kernel_rfl) (AC (fun _ => (A1 (List.length_map _))) (A1 rfl)) ?_))
  rcases ite_some H with ⟨hx1, H⟩ | ⟨hx1, H⟩
  · refine K_t (by kernel_rfl) hx1 ?_
    refine K_seq (K_r [] [] (by kernel_rfl) trivial ?_)
    refine K_g (by kernel_rfl) ?_
    cases H
    refine K_ret ?_
    kernel_rfl
  · refine K_f (by kernel_rfl) (Bool.eq_false_iff.2 hx1) ?_
    refine K_g (by kernel_rfl) ?_
    refine K_skip (K_seq (K_seq (K_r [] [] (by kernel_rfl) trivial ?_)))
    refine K_block (K_conv (σ' := ⟨[(0, (LI p1)), (1, (I p2)), (2, (I p3)), (7, (I 0))], []⟩) (by kernel_rfl) ?_)
    obtain ⟨x13, hx13, H⟩ := bind_some' H
    cases x13 with
    | inl x14 =>
     dsimp only at H
     refine K_loop ⟨[], []⟩ (loop_ok (fun (s : Int) => ⟨[(0, (LI p1)), (1, (I p2)), (2, (I p3)), (7, (I s))], []⟩) (fun (r : Unit ⊕ Unit) => Sum.elim (fun y => (.exit 0, ⟨[], []⟩)) (fun y => (.ret, ⟨[(6, (B false))], []⟩)) r) (fun r h => by cases r <;> cases h) (T_ref23_whole_l1_ok k p1 p2 p3) k 0 (.inl x14) hx13) rfl ?_
     refine K_seq (K_r [] [] (by kernel_rfl) trivial ?_)
     refine K_g (by kernel_rfl) ?_
     cases H
     refine K_ret ?_
     kernel_rfl
    | inr x15 =>
     dsimp only at H
     cases H
     refine K_loopr ⟨[(6, (B false))], []⟩ (loop_ok (fun (s : Int) => ⟨[(0, (LI p1)), (1, (I p2)), (2, (I p3)), (7, (I s))], []⟩) (fun (r : Unit ⊕ Unit) => Sum.elim (fun y => (.exit 0, ⟨[], []⟩)) (fun y => (.ret, ⟨[(6, (B false))], []⟩)) r) (fun r h => by cases r <;> cases h) (T_ref23_whole_l1_ok k p1 p2 p3) k 0 (.inr x15) hx13) ?_
     kernel_rfl
def T_ref23_Places_l1 (k : Nat) (p1 : List (List Int)) (p2 : Int) (x36 : Int) (x47 : Nat × Int × (List (Int × Int))) : Option ((Nat × Int × (List (Int × Int))) ⊕ ((Nat × (List (Int × Int))))) :=
 ((at? p1 x36).bind fun x48 => (if x47.2.1 < (x48.length : Int) then ((at? p1 x36).bind fun x50 => (T_ref23_whole k x50 x47.2.1 p2).bind fun x51 => ((if x51 = true then (if x47.1 + 1 ≤ LIM then some ((x47.1 + 1), ((x47.2.2.drop 0).take x47.1 ++ ([(x36, x47.2.1)] : List (Int × Int)))) else none) else some (x47.1, x47.2.2))).bind fun x54 => some (.inl (x54.1, (w64 (x47.2.1 + 1)), x54.2))) else some (.inr (x47.1, x47.2.2))))
theorem T_ref23_Places_l1_ok (k : Nat) (p1 : List (List Int)) (p2 : Int) (x36 : Int) : ∀ (x47 : Nat × Int × (List (Int × Int))) (x : (Nat × Int × (List (Int × Int))) ⊕ ((Nat × (List (Int × Int))))), T_ref23_Places_l1 k p1 p2 x36 x47 = some x → evC X (evF X k) k 0 l_ref23_Places_1 ⟨[(1, (I p2)), (2, (Pt 0)), (7, (.one (.own 1 0 x47.1))), (8, (I x36)), (9, (I x47.2.1))], [.cells [.d (.list (p1.map (el (D.int .i64))))], .vals (.agg [(.int .i64 0), (.int .i64 0)]) (x47.2.2.map e_st0)]⟩ = some (outS (fun (s : Nat × Int × (List (Int × Int))) => ⟨[(1, (I p2)), (2, (Pt 0)), (7, (.one (.own 1 0 s.1))), (8, (I x36)), (9, (I s.2.1))], [.cells [.d (.list (p1.map (el (D.int .i64))))], .vals (.agg [(.int .i64 0), (.int .i64 0)]) (s.2.2.map e_st0)]⟩) (fun (r : (Nat × (List (Int × Int)))) => (.exit 2, ⟨[(1, (I p2)), (2, (Pt 0)), (7, (.one (.own 1 0 r.1))), (8, (I x36))], [.cells [.d (.list (p1.map (el (D.int .i64))))], .vals (.agg [(.int .i64 0), (.int .i64 0)]) (r.2.map e_st0)]⟩)) x) := by
 intro x47 x H
 unfold T_ref23_Places_l1 at H
 refine K_in ?_
 refine K_seq ?_
 refine K_seq ?_
 obtain ⟨x48, hx48, H⟩ := bind_some' H
 refine K_r [.l [.list (x48.map (D.int .i64))], .n x48.length] [(0 : Int) ≤ x36 ∧ x36 < (((p1.map (el (D.int .i64)))).length : Int), ((p1.map (el (D.int .i64))).getD x36.toNat (.list [])).cells = [.list (x48.map (D.int .i64))], ((x48.map (D.int .i64))).length = x48.length] (by kernel_rfl) (AC (at_ok hx48 (el (D.int .i64)) (.list [])).1 (AC (at_ok hx48 (el (D.int .i64)) (.list [])).2 (A1 (List.length_map _)))) ?_
 rcases ite_some H with ⟨hx49, H⟩ | ⟨hx49, H⟩
 · refine K_t (by kernel_rfl) (decide_eq_true hx49) ?_
   refine K_g (by kernel_rfl) ?_
   refine K_skip ?_
   refine K_seq ?_
   refine K_block ?_
   refine K_seq ?_
   obtain ⟨x50, hx50, H⟩ := bind_some' H
   obtain ⟨x51, hx51, H⟩ := bind_some' H
   refine K_r [.l [.list (x50.map (D.int .i64))], .r (B x51) []] [(0 : Int) ≤ x36 ∧ x36 < (((p1.map (el (D.int .i64)))).length : Int), ((p1.map (el (D.int .i64))).getD x36.toNat (.list [])).cells = [.list (x50.map (D.int .i64))], C_T_ref23_whole k x50 x47.2.1 p2 x51] (by kernel_rfl) (AC (at_ok hx50 (el (D.int .i64)) (.list [])).1 (AC (at_ok hx50 (el (D.int .i64)) (.list [])).2 (A1 (T_ref23_whole_ok k x50 x47.2.1 p2 x51 hx51)))) ?_
   obtain ⟨x54, hx54, H⟩ := bind_some' H
   refine K_of ⟨[(1, (I p2)), (2, (Pt 0)), (7, (.one (.own 1 0 x54.1))), (8, (I x36)), (9, (I x47.2.1))], [.cells [.d (.list (p1.map (el (D.int .i64))))], .vals (.agg [(.int .i64 0), (.int .i64 0)]) (x54.2.map e_st0)]⟩ ?_ ?_
   · clear H; have H := hx54; clear hx54; refine K_in ?_
     rcases ite_some H with ⟨hx52, H⟩ | ⟨hx52, H⟩
     · refine K_t (by kernel_rfl) hx52 ?_
       obtain ⟨hx53, H⟩ := guard_some H
       refine K_r [.n 1, .l (((x47.2.2.drop 0).take x47.1 ++ ([(x36, x47.2.1)] : List (Int × Int))).map e_st0)] [(List.all (([(x36, x47.2.1)] : List (Int × Int)).map e_st0) fun d => d.cells.length == (D.cells (.agg [(.int .i64 0), (.int .i64 0)])).length) = true, x47.1 + 1 ≤ LIM, (([(x36, x47.2.1)] : List (Int × Int)).map e_st0).length = 1, ((x47.2.2.map e_st0).drop 0).take x47.1 ++ (([(x36, x47.2.1)] : List (Int × Int)).map e_st0) = ((x47.2.2.drop 0).take x47.1 ++ ([(x36, x47.2.1)] : List (Int × Int))).map e_st0] (by kernel_rfl) (AC (all_ok e_st0 2 ([(x36, x47.2.1)] : List (Int × Int)) (fun _ => rfl)) (AC hx53 (AC (by simp) (A1 (ap_map e_st0 x47.2.2 ([(x36, x47.2.1)] : List (Int × Int)) 0 x47.1))))) ?_
       cases H
       exact K_end (by kernel_rfl)
     · refine K_f (by kernel_rfl) (Bool.eq_false_iff.2 hx52) ?_
       refine K_g (by kernel_rfl) ?_
       refine K_skip ?_
       cases H
       exact K_end (by kernel_rfl)
   refine K_blk (K_r [] [] (by kernel_rfl) trivial ?_)
   cases H
   exact K_end (by kernel_rfl)
 · refine K_f (by kernel_rfl) (decide_eq_false hx49) ?_
   refine K_g (by kernel_rfl) ?_
   cases H
   exact K_exit0 rfl (by kernel_rfl)
def T_ref23_Places_l2 (k : Nat) (p1 : List (List Int)) (p2 : Int) (x32 : Nat × Int × (List (Int × Int))) : Option ((Nat × Int × (List (Int × Int))) ⊕ ((Nat × (List (Int × Int))))) :=
 (if x32.2.1 < (p1.length : Int) then ((loopT (T_ref23_Places_l1 k p1 p2 x32.2.1) k (x32.1, 0, x32.2.2)).bind fun x55 => some (.inl (x55.1, (w64 (x32.2.1 + 1)), x55.2))) else some (.inr (x32.1, x32.2.2)))
theorem T_ref23_Places_l2_ok (k : Nat) (p1 : List (List Int)) (p2 : Int) : ∀ (x32 : Nat × Int × (List (Int × Int))) (x : (Nat × Int × (List (Int × Int))) ⊕ ((Nat × (List (Int × Int))))), T_ref23_Places_l2 k p1 p2 x32 = some x → evC X (evF X k) k 0 l_ref23_Places_2 ⟨[(1, (I p2)), (2, (Pt 0)), (7, (.one (.own 1 0 x32.1))), (8, (I x32.2.1))], [.cells [.d (.list (p1.map (el (D.int .i64))))], .vals (.agg [(.int .i64 0), (.int .i64 0)]) (x32.2.2.map e_st0)]⟩ = some (outS (fun (s : Nat × Int × (List (Int × Int))) => ⟨[(1, (I p2)), (2, (Pt 0)), (7, (.one (.own 1 0 s.1))), (8, (I s.2.1))], [.cells [.d (.list (p1.map (el (D.int .i64))))], .vals (.agg [(.int .i64 0), (.int .i64 0)]) (s.2.2.map e_st0)]⟩) (fun (r : (Nat × (List (Int × Int)))) => (.exit 0, ⟨[(7, (.one (.own 0 0 r.1)))], [.vals (.agg [(.int .i64 0), (.int .i64 0)]) (r.2.map e_st0)]⟩)) x) := by
 intro x32 x H
 unfold T_ref23_Places_l2 at H
 refine K_in ?_
 refine K_seq (K_seq (K_r [.n p1.length] [((p1.map (el (D.int .i64)))).length = p1.length] (by kernel_rfl) (A1 (List.length_map _)) ?_))
 rcases ite_some H with ⟨hx33, H⟩ | ⟨hx33, H⟩
 · refine K_t (by kernel_rfl) (decide_eq_true hx33) ?_
   refine K_g (by kernel_rfl) ?_
   refine K_skip (K_seq (K_block (K_seq (K_r [] [] (by kernel_rfl) trivial ?_))))
   refine K_block (K_conv (σ' := ⟨[(1, (I p2)), (2, (Pt 0)), (7, (.one (.own 1 0 x32.1))), (8, (I x32.2.1)), (9, (I 0))], [.cells [.d (.list (p1.map (el (D.int .i64))))], .vals (.agg [(.int .i64 0), (.int .i64 0)]) (x32.2.2.map e_st0)]⟩) (by kernel_rfl) ?_)
   obtain ⟨x55, hx55, H⟩ := bind_some' H
   refine K_loop ⟨[(1, (I p2)), (2, (Pt 0)), (7, (.one (.own 1 0 x55.1))), (8, (I x32.2.1))], [.cells [.d (.list (p1.map (el (D.int .i64))))], .vals (.agg [(.int .i64 0), (.int .i64 0)]) (x55.2.map e_st0)]⟩ (loop_ok (fun (s : Nat × Int × (List (Int × Int))) => ⟨[(1, (I p2)), (2, (Pt 0)), (7, (.one (.own 1 0 s.1))), (8, (I x32.2.1)), (9, (I s.2.1))], [.cells [.d (.list (p1.map (el (D.int .i64))))], .vals (.agg [(.int .i64 0), (.int .i64 0)]) (s.2.2.map e_st0)]⟩) (fun (r : (Nat × (List (Int × Int)))) => (.exit 2, ⟨[(1, (I p2)), (2, (Pt 0)), (7, (.one (.own 1 0 r.1))), (8, (I x32.2.1))], [.cells [.d (.list (p1.map (el (D.int .i64))))], .vals (.agg [(.int .i64 0), (.int .i64 0)]) (r.2.map e_st0)]⟩)) (fun r h => by cases h) (T_ref23_Places_l1_ok k p1 p2 x32.2.1) k (x32.1, 0, x32.2.2) x55 hx55) rfl ?_
   refine K_blk (K_r [] [] (by kernel_rfl) trivial ?_)
   cases H
   exact K_end (by kernel_rfl)
 · refine K_f (by kernel_rfl) (decide_eq_false hx33) ?_
   refine K_g (by kernel_rfl) ?_
   cases H
   exact K_exit0 rfl (by kernel_rfl)
def T_ref23_Places (k : Nat) (p1 : List (List Int)) (p2 : Int) : Option ((List (Int × Int)) × Int) := match k with
 | 0 => none
 | k + 1 => ((T_ref23_Check k p1).bind fun x1 => (if (!decide (x1 = 0)) = true then some ([], x1) else (if (decide (p2 < 2) || decide (32 < p2)) = true then some ([], 8) else ((loopT (T_ref23_Places_l2 k p1 p2) k (0, 0, [])).bind fun x56 => some (((x56.2.drop 0).take x56.1), 0)))))
abbrev C_T_ref23_Places (k : Nat) (p1 : List (List Int)) (p2 : Int) (r : (List (Int × Int)) × Int) : Prop := evF X k n_ref23_Places [(.agg [.d (.list (p1.map (el (D.int .i64))))]), (I p2)] [] = some ((.tup [(false, [.d (.list (r.1.map e_st0))]), (false, [cI r.2])]), [])
theorem T_ref23_Places_ok (k : Nat) (p1 : List (List Int)) (p2 : Int) (r : (List (Int × Int)) × Int) : T_ref23_Places k p1 p2 = some r → C_T_ref23_Places k p1 p2 r := by
 intro H
 cases k with
 | zero => simp [T_ref23_Places] at H
 | succ k =>
  simp only [T_ref23_Places] at H
  refine F_in X_ref23_Places rfl ?_
  refine K_seq (K_r [] [] (by kernel_rfl) trivial ?_)
  refine K_seq ?_
  refine K_seq ?_
  obtain ⟨x1, hx1, H⟩ := bind_some' H
  refine K_r [.r (I x1) []] [C_T_ref23_Check k p1 x1] (by kernel_rfl) (A1 (T_ref23_Check_ok k p1 x1 hx1)) ?_
  refine K_seq (K_r [] [] (by kernel_rfl) trivial ?_)
  rcases ite_some H with ⟨hx2, H⟩ | ⟨hx2, H⟩
  · refine K_t (by kernel_rfl) hx2 ?_
    refine K_seq (K_r [] [] (by kernel_rfl) trivial ?_)
    refine K_g (by kernel_rfl) ?_
    cases H
    refine K_ret ?_
    kernel_rfl
  · refine K_f (by kernel_rfl) (Bool.eq_false_iff.2 hx2) ?_
    refine K_g (by kernel_rfl) ?_
    refine K_skip (K_seq (K_seq (K_r [.m] ((fun (z1 : Heap) => [z1 = z1]) [.cells [.d (.list (p1.map (el (D.int .i64))))]]) (by kernel_rfl) (A1 rfl) ?_)))
    rcases ite_some H with ⟨hx3, H⟩ | ⟨hx3, H⟩
    · refine K_t (by kernel_rfl) hx3 ?_
      refine K_seq (K_r [] [] (by kernel_rfl) trivial ?_)
      refine K_g (by kernel_rfl) ?_
      cases H
      refine K_ret ?_
      kernel_rfl
    · refine K_f (by kernel_rfl) (Bool.eq_false_iff.2 hx3) ?_
      refine K_g (by kernel_rfl) ?_
      refine K_skip (K_seq (K_r [] [] (by kernel_rfl) trivial ?_))
      refine K_seq (K_seq (K_r [] [] (by kernel_rfl) trivial ?_))
      refine K_block (K_g (by kernel_rfl) ?_)
      refine K_conv (σ' := ⟨[(1, (I p2)), (2, (Pt 0)), (7, (.one (.own 1 0 0))), (8, (I 0))], [.cells [.d (.list (p1.map (el (D.int .i64))))], .vals (.agg [(.int .i64 0), (.int .i64 0)]) ([].map e_st0)]⟩) (by kernel_rfl) ?_
      obtain ⟨x56, hx56, H⟩ := bind_some' H
      refine K_loop ⟨[(7, (.one (.own 0 0 x56.1)))], [.vals (.agg [(.int .i64 0), (.int .i64 0)]) (x56.2.map e_st0)]⟩ (loop_ok (fun (s : Nat × Int × (List (Int × Int))) => ⟨[(1, (I p2)), (2, (Pt 0)), (7, (.one (.own 1 0 s.1))), (8, (I s.2.1))], [.cells [.d (.list (p1.map (el (D.int .i64))))], .vals (.agg [(.int .i64 0), (.int .i64 0)]) (s.2.2.map e_st0)]⟩) (fun (r : (Nat × (List (Int × Int)))) => (.exit 0, ⟨[(7, (.one (.own 0 0 r.1)))], [.vals (.agg [(.int .i64 0), (.int .i64 0)]) (r.2.map e_st0)]⟩)) (fun r h => by cases h) (T_ref23_Places_l2_ok k p1 p2) k (0, 0, []) x56 hx56) rfl ?_
      refine K_seq (K_r [] [] (by kernel_rfl) trivial ?_)
      refine K_g (by kernel_rfl) ?_
      cases H
      refine K_ret ?_
      exact Eq.trans (b := some ((.tup [(false, [.d (.list (((x56.2.map e_st0).drop 0).take x56.1))]), (false, [cI 0])]), [])) (by kernel_rfl) (by simp only [dt_map, rl_map, LI, VI])
def T_slices_Clone_b354 (k : Nat) (p1 : List Int) : Option Unit := match k with
 | 0 => none
 | k + 1 => (if 0 < p1.length then (if 0 + p1.length ≤ LIM then some () else none) else none)
abbrev C_T_slices_Clone_b354 (k : Nat) (p1 : List Int) (r : Unit) : Prop := evF X k n_slices_Clone_b354 [(LI p1)] [] = some ((LI ((((([] : List Int).drop 0).take 0 ++ p1).drop 0).take (0 + p1.length))), [])
theorem T_slices_Clone_b354_ok (k : Nat) (p1 : List Int) (r : Unit) : T_slices_Clone_b354 k p1 = some r → C_T_slices_Clone_b354 k p1 r := by
 intro H
 cases k with
 | zero => simp [T_slices_Clone_b354] at H
 | succ k =>
  simp only [T_slices_Clone_b354] at H
  refine F_in X_slices_Clone_b354 rfl ?_
  refine K_seq (K_r [] [] (by kernel_rfl) trivial ?_)
  refine K_seq ?_
  refine K_seq ?_
  obtain ⟨hx1, H⟩ := guard_some H
  refine K_r [] [0 < ((p1.map (D.int .i64))).length] (by kernel_rfl) (A1 (by simpa using hx1)) ?_
  refine K_f (by kernel_rfl) rfl ?_
  refine K_g (by kernel_rfl) ?_
  refine K_skip ?_
  refine K_seq ?_
  obtain ⟨hx2, H⟩ := guard_some H
  refine K_r [.n p1.length, .l (((([] : List Int).drop 0).take 0 ++ p1).map (D.int .i64))] [(List.all (p1.map (D.int .i64)) fun d => d.cells.length == (D.cells (.int .i64 0)).length) = true, 0 + p1.length ≤ LIM, (p1.map (D.int .i64)).length = p1.length, ((([] : List Int).map (D.int .i64)).drop 0).take 0 ++ (p1.map (D.int .i64)) = ((([] : List Int).drop 0).take 0 ++ p1).map (D.int .i64)] (by kernel_rfl) (AC (all_ok (D.int .i64) 1 p1 (fun _ => rfl)) (AC hx2 (AC (by simp) (A1 (ap_map (D.int .i64) ([] : List Int) p1 0 0))))) ?_
  refine K_g (by kernel_rfl) ?_
  cases H
  refine K_ret ?_
  exact Eq.trans (b := some ((.one (.d (.list (((((([] : List Int).drop 0).take 0 ++ p1).map (D.int .i64)).drop 0).take (0 + p1.length))))), [])) (by kernel_rfl) (by simp only [dt_map, rl_map, LI, VI])
def T_slices_Index_b354_l1 (k : Nat) (p1 : List Int) (p2 : Int) (x3 : Int) (x8 : Int) : Option (Int ⊕ (Unit ⊕ Int)) :=
 (if x8 < x3 then ((at? p1 x8).bind fun x10 => (if p2 = x10 then some (.inr (.inr x8)) else some (.inl (w64 (x8 + 1))))) else some (.inr (.inl ())))
theorem T_slices_Index_b354_l1_ok (k : Nat) (p1 : List Int) (p2 : Int) (x3 : Int) : ∀ (x8 : Int) (x : Int ⊕ (Unit ⊕ Int)), T_slices_Index_b354_l1 k p1 p2 x3 x8 = some x → evC X (evF X k) k 0 l_slices_Index_b354_1 ⟨[(0, (LI p1)), (1, (I p2)), (7, (I x3)), (8, (I x8))], []⟩ = some (outS (fun (s : Int) => ⟨[(0, (LI p1)), (1, (I p2)), (7, (I x3)), (8, (I s))], []⟩) (fun (r : Unit ⊕ Int) => Sum.elim (fun y => (.exit 0, ⟨[], []⟩)) (fun y => (.ret, ⟨[(4, (I y))], []⟩)) r) x) := by
 intro x8 x H
 unfold T_slices_Index_b354_l1 at H
 refine K_in ?_
 refine K_seq (K_r [] [] (by kernel_rfl) trivial ?_)
 refine K_seq ?_
 rcases ite_some H with ⟨hx9, H⟩ | ⟨hx9, H⟩
 · refine K_t (by kernel_rfl) (decide_eq_true hx9) ?_
   refine K_g (by kernel_rfl) ?_
   refine K_skip (K_seq (K_block (K_seq (K_r [] [] (by kernel_rfl) trivial ?_))))
   refine K_seq ?_
   obtain ⟨x10, hx10, H⟩ := bind_some' H
   refine K_r [.l [.int .i64 x10]] [(0 : Int) ≤ x8 ∧ x8 < (((p1.map (D.int .i64))).length : Int), ((p1.map (D.int .i64)).getD x8.toNat (.int .i64 0)).cells = [.int .i64 x10]] (by kernel_rfl) (AC (at_ok hx10 (D.int .i64) (.int .i64 0)).1 (A1 (at_ok hx10 (D.int .i64) (.int .i64 0)).2)) ?_
   rcases ite_some H with ⟨hx11, H⟩ | ⟨hx11, H⟩
   · refine K_t (by kernel_rfl) (decide_eq_true hx11) ?_
     refine K_seq (K_r [] [] (by kernel_rfl) trivial ?_)
     refine K_g (by kernel_rfl) ?_
     cases H
     exact K_ret (by kernel_rfl)
   · refine K_f (by kernel_rfl) (decide_eq_false hx11) ?_
     refine K_g (by kernel_rfl) ?_
     refine K_skip (K_blk (K_r [] [] (by kernel_rfl) trivial ?_))
     cases H
     exact K_end (by kernel_rfl)
 · refine K_f (by kernel_rfl) (decide_eq_false hx9) ?_
   refine K_g (by kernel_rfl) ?_
   cases H
   exact K_exit0 rfl (by kernel_rfl)
def T_slices_Index_b354 (k : Nat) (p1 : List Int) (p2 : Int) : Option Int := match k with
 | 0 => none
 | k + 1 => ((loopT (T_slices_Index_b354_l1 k p1 p2 (p1.length : Int)) k 0).bind fun x12 => (match x12 with | .inl x13 => some (-1) | .inr x14 => some x14))
abbrev C_T_slices_Index_b354 (k : Nat) (p1 : List Int) (p2 : Int) (r : Int) : Prop := evF X k n_slices_Index_b354 [(LI p1), (I p2)] [] = some ((I r), [])
theorem T_slices_Index_b354_ok (k : Nat) (p1 : List Int) (p2 : Int) (r : Int) : T_slices_Index_b354 k p1 p2 = some r → C_T_slices_Index_b354 k p1 p2 r := by
 intro H
 cases k with
 | zero => simp [T_slices_Index_b354] at H
 | succ k =>
  simp only [T_slices_Index_b354] at H
  refine F_in X_slices_Index_b354 rfl ?_
  refine K_seq (K_r [] [] (by kernel_rfl) trivial ?_)
  refine K_seq (K_seq (K_r [.n p1.length] [((p1.map (D.int .i64))).length = p1.length] (by kernel_rfl) (A1 (List.length_map _)) ?_))
  refine K_block (K_conv (σ' := ⟨[(0, (LI p1)), (1, (I p2)), (7, (I (p1.length : Int))), (8, (I 0))], []⟩) (by kernel_rfl) ?_)
  obtain ⟨x12, hx12, H⟩ := bind_some' H
  cases x12 with
  | inl x13 =>
   dsimp only at H
   refine K_loop ⟨[], []⟩ (loop_ok (fun (s : Int) => ⟨[(0, (LI p1)), (1, (I p2)), (7, (I (p1.length : Int))), (8, (I s))], []⟩) (fun (r : Unit ⊕ Int) => Sum.elim (fun y => (.exit 0, ⟨[], []⟩)) (fun y => (.ret, ⟨[(4, (I y))], []⟩)) r) (fun r h => by cases r <;> cases h) (T_slices_Index_b354_l1_ok k p1 p2 (p1.length : Int)) k 0 (.inl x13) hx12) rfl ?_
   refine K_seq (K_r [] [] (by kernel_rfl) trivial ?_)
   refine K_g (by kernel_rfl) ?_
   cases H
   refine K_ret ?_
   kernel_rfl
  | inr x14 =>
   dsimp only at H
   have H := Option.some.inj H; subst H
   refine K_loopr ⟨[(4, (I x14))], []⟩ (loop_ok (fun (s : Int) => ⟨[(0, (LI p1)), (1, (I p2)), (7, (I (p1.length : Int))), (8, (I s))], []⟩) (fun (r : Unit ⊕ Int) => Sum.elim (fun y => (.exit 0, ⟨[], []⟩)) (fun y => (.ret, ⟨[(4, (I y))], []⟩)) r) (fun r h => by cases r <;> cases h) (T_slices_Index_b354_l1_ok k p1 p2 (p1.length : Int)) k 0 (.inr x14) hx12) ?_
   kernel_rfl
def T_slices_Contains_b354 (k : Nat) (p1 : List Int) (p2 : Int) : Option Bool := match k with
 | 0 => none
 | k + 1 => ((T_slices_Index_b354 k p1 p2).bind fun x1 => some (decide (0 ≤ x1)))
abbrev C_T_slices_Contains_b354 (k : Nat) (p1 : List Int) (p2 : Int) (r : Bool) : Prop := evF X k n_slices_Contains_b354 [(LI p1), (I p2)] [] = some ((B r), [])
theorem T_slices_Contains_b354_ok (k : Nat) (p1 : List Int) (p2 : Int) (r : Bool) : T_slices_Contains_b354 k p1 p2 = some r → C_T_slices_Contains_b354 k p1 p2 r := by
 intro H
 cases k with
 | zero => simp [T_slices_Contains_b354] at H
 | succ k =>
  simp only [T_slices_Contains_b354] at H
  refine F_in X_slices_Contains_b354 rfl ?_
  refine K_seq (K_r [] [] (by kernel_rfl) trivial ?_)
  refine K_seq ?_
  obtain ⟨x1, hx1, H⟩ := bind_some' H
  refine K_r [.r (I x1) []] [C_T_slices_Index_b354 k p1 p2 x1] (by kernel_rfl) (A1 (T_slices_Index_b354_ok k p1 p2 x1 hx1)) ?_
  refine K_g (by kernel_rfl) ?_
  cases H
  refine K_ret ?_
  kernel_rfl
def T_store_Window (k : Nat) (p1 : List (List Int)) (p2 : Int) (p3 : Int) (p4 : Int) : Option ((List Int) × Int) := match k with
 | 0 => none
 | k + 1 => ((T_store_check k p1 p4).bind fun x1 => (if (!decide (x1 = 0)) = true then some ([], x1) else (((if ((decide (p2 < 0) || decide ((p1.length : Int) ≤ p2)) || decide (p3 < 0)) = true then some true else ((at? p1 p2).bind fun x5 => some (decide ((w64 ((x5.length : Int) - p4)) < p3))))).bind fun x6 => (if x6 = true then some ([], 21) else (at? p1 p2).bind fun x8 => (if (0 : Int) ≤ p3 ∧ p3 ≤ (w64 (p3 + p4)) ∧ (w64 (p3 + p4)) ≤ (x8.length : Int) ∧ (x8.length : Int) ≤ (x8.length : Int) then (T_slices_Clone_b354 k ((x8.drop p3.toNat).take ((w64 (p3 + p4)).toNat - p3.toNat))).bind fun x10 => (T_slices_Contains_b354 k ((((([] : List Int).drop 0).take 0 ++ ((x8.drop p3.toNat).take ((w64 (p3 + p4)).toNat - p3.toNat))).drop 0).take (0 + ((x8.drop p3.toNat).take ((w64 (p3 + p4)).toNat - p3.toNat)).length)) 1073741824).bind fun x11 => (if x11 = true then some ([], 13) else some (((((([] : List Int).drop 0).take 0 ++ ((x8.drop p3.toNat).take ((w64 (p3 + p4)).toNat - p3.toNat))).drop 0).take (0 + ((x8.drop p3.toNat).take ((w64 (p3 + p4)).toNat - p3.toNat)).length)), 0)) else none)))))
abbrev C_T_store_Window (k : Nat) (p1 : List (List Int)) (p2 : Int) (p3 : Int) (p4 : Int) (r : (List Int) × Int) : Prop := evF X k n_store_Window [(.agg [.d (.list (p1.map (el (D.int .i64))))]), (.agg [cI p2, cI p3]), (I p4)] [] = some ((.tup [(false, [cL r.1]), (false, [cI r.2])]), [])
theorem T_store_Window_ok (k : Nat) (p1 : List (List Int)) (p2 : Int) (p3 : Int) (p4 : Int) (r : (List Int) × Int) : T_store_Window k p1 p2 p3 p4 = some r → C_T_store_Window k p1 p2 p3 p4 r := by
 intro H
 cases k with
 | zero => simp [T_store_Window] at H
 | succ k =>
  simp only [T_store_Window] at H
  refine F_in X_store_Window rfl ?_
  refine K_seq (K_r [] [] (by kernel_rfl) trivial ?_)
  refine K_seq ?_
  refine K_seq ?_
  obtain ⟨x1, hx1, H⟩ := bind_some' H
  refine K_r [.r (I x1) []] [C_T_store_check k p1 p4 x1] (by kernel_rfl) (A1 (T_store_check_ok k p1 p4 x1 hx1)) ?_
  refine K_seq (K_r [] [] (by kernel_rfl) trivial ?_)
  rcases ite_some H with ⟨hx2, H⟩ | ⟨hx2, H⟩
  · refine K_t (by kernel_rfl) hx2 ?_
    refine K_seq (K_r [] [] (by kernel_rfl) trivial ?_)
    refine K_g (by kernel_rfl) ?_
    cases H
    refine K_ret ?_
    kernel_rfl
  · refine K_f (by kernel_rfl) (Bool.eq_false_iff.2 hx2) ?_
    refine K_g (by kernel_rfl) ?_
    refine K_skip ?_
    refine K_seq ?_
    refine K_seq ?_
    obtain ⟨x6, hx6, H⟩ := bind_some' H
    refine K_of ⟨[(2, (I p4)), (3, (Pt 0)), (4, (Pt 1)), (45, (B x6))], [.cells [.d (.list (p1.map (el (D.int .i64))))], .cells [cI p2, cI p3]]⟩ ?_ ?_
    · clear H; have H := hx6; clear hx6; refine K_in ?_
      rcases ite_some H with ⟨hx4, H⟩ | ⟨hx4, H⟩
      · refine K_r [.m, .n p1.length, .m, .b true] ((fun (z1 : Heap) => [decide (p2 < 0) = false → AllT [((p1.map (el (D.int .i64)))).length = p1.length], z1 = z1, z1 = z1, ((decide (p2 < 0) || decide ((p1.length : Int) ≤ p2)) || decide (p3 < 0)) = true]) [.cells [.d (.list (p1.map (el (D.int .i64))))], .cells [cI p2, cI p3]]) (by kernel_rfl) (AC (fun _ => (A1 (List.length_map _))) (AC rfl (AC rfl (A1 hx4)))) ?_
        cases H
        exact K_end (by kernel_rfl)
      · obtain ⟨x5, hx5, H⟩ := bind_some' H
        refine K_r [.m, .n p1.length, .m, .b false, .l [.list (x5.map (D.int .i64))], .n x5.length] ((fun (z1 : Heap) => [decide (p2 < 0) = false → AllT [((p1.map (el (D.int .i64)))).length = p1.length], z1 = z1, z1 = z1, ((decide (p2 < 0) || decide ((p1.length : Int) ≤ p2)) || decide (p3 < 0)) = false, (0 : Int) ≤ p2 ∧ p2 < (((p1.map (el (D.int .i64)))).length : Int), ((p1.map (el (D.int .i64))).getD p2.toNat (.list [])).cells = [.list (x5.map (D.int .i64))], ((x5.map (D.int .i64))).length = x5.length]) [.cells [.d (.list (p1.map (el (D.int .i64))))], .cells [cI p2, cI p3]]) (by kernel_rfl) (AC (fun _ => (A1 (List.length_map _))) (AC rfl (AC rfl (AC (Bool.eq_false_iff.2 hx4) (AC (at_ok hx5 (el (D.int .i64)) (.list [])).1 (AC (at_ok hx5 (el (D.int .i64)) (.list [])).2 (A1 (List.length_map _)))))))) ?_
        cases H
        exact K_end (by kernel_rfl)
    rcases ite_some H with ⟨hx7, H⟩ | ⟨hx7, H⟩
    · refine K_t (by kernel_rfl) hx7 ?_
      refine K_seq (K_r [] [] (by kernel_rfl) trivial ?_)
      refine K_g (by kernel_rfl) ?_
      cases H
      refine K_ret ?_
      kernel_rfl
    · refine K_f (by kernel_rfl) (Bool.eq_false_iff.2 hx7) ?_
      refine K_g (by kernel_rfl) ?_
      refine K_skip ?_
      refine K_seq ?_
      obtain ⟨x8, hx8, H⟩ := bind_some' H
      obtain ⟨hx9, H⟩ := guard_some H
      obtain ⟨x10, hx10, H⟩ := bind_some' H
      refine K_r [.l [.list (x8.map (D.int .i64))], .l (((x8.drop p3.toNat).take ((w64 (p3 + p4)).toNat - p3.toNat)).map (D.int .i64)), .r (LI ((((([] : List Int).drop 0).take 0 ++ ((x8.drop p3.toNat).take ((w64 (p3 + p4)).toNat - p3.toNat))).drop 0).take (0 + ((x8.drop p3.toNat).take ((w64 (p3 + p4)).toNat - p3.toNat)).length))) []] [(0 : Int) ≤ p2 ∧ p2 < (((p1.map (el (D.int .i64)))).length : Int), ((p1.map (el (D.int .i64))).getD p2.toNat (.list [])).cells = [.list (x8.map (D.int .i64))], ((x8.map (D.int .i64)).all fun d => d.cells.length == 1) = true, (0 : Int) ≤ p3 ∧ p3 ≤ (w64 (p3 + p4)) ∧ (w64 (p3 + p4)) ≤ (((x8.map (D.int .i64))).length : Int) ∧ (((x8.map (D.int .i64))).length : Int) ≤ (((x8.map (D.int .i64))).length : Int), ((x8.map (D.int .i64)).drop (p3 : Int).toNat).take (((w64 (p3 + p4)) : Int).toNat - (p3 : Int).toNat) = ((x8.drop p3.toNat).take ((w64 (p3 + p4)).toNat - p3.toNat)).map (D.int .i64), C_T_slices_Clone_b354 k ((x8.drop p3.toNat).take ((w64 (p3 + p4)).toNat - p3.toNat)) x10] (by kernel_rfl) (AC (at_ok hx8 (el (D.int .i64)) (.list [])).1 (AC (at_ok hx8 (el (D.int .i64)) (.list [])).2 (AC (all_ok (D.int .i64) 1 x8 (fun _ => rfl)) (AC (by simpa using hx9) (AC (dt_map _ _ _ _) (A1 (T_slices_Clone_b354_ok k ((x8.drop p3.toNat).take ((w64 (p3 + p4)).toNat - p3.toNat)) x10 hx10))))))) ?_
      refine K_seq ?_
      refine K_seq ?_
      obtain ⟨x11, hx11, H⟩ := bind_some' H
      refine K_r [.r (B x11) []] [C_T_slices_Contains_b354 k ((((([] : List Int).drop 0).take 0 ++ ((x8.drop p3.toNat).take ((w64 (p3 + p4)).toNat - p3.toNat))).drop 0).take (0 + ((x8.drop p3.toNat).take ((w64 (p3 + p4)).toNat - p3.toNat)).length)) 1073741824 x11] (by kernel_rfl) (A1 (T_slices_Contains_b354_ok k ((((([] : List Int).drop 0).take 0 ++ ((x8.drop p3.toNat).take ((w64 (p3 + p4)).toNat - p3.toNat))).drop 0).take (0 + ((x8.drop p3.toNat).take ((w64 (p3 + p4)).toNat - p3.toNat)).length)) 1073741824 x11 hx11)) ?_
      rcases ite_some H with ⟨hx12, H⟩ | ⟨hx12, H⟩
      · refine K_t (by kernel_rfl) hx12 ?_
        refine K_seq (K_r [] [] (by kernel_rfl) trivial ?_)
        refine K_g (by kernel_rfl) ?_
        cases H
        refine K_ret ?_
        kernel_rfl
      · refine K_f (by kernel_rfl) (Bool.eq_false_iff.2 hx12) ?_
        refine K_g (by kernel_rfl) ?_
        refine K_skip (K_seq (K_r [] [] (by kernel_rfl) trivial ?_))
        refine K_g (by kernel_rfl) ?_
        cases H
        refine K_ret ?_
        kernel_rfl
def T_ref23_Window (k : Nat) (p1 : List (List Int)) (p2 : Int) (p3 : Int) (p4 : Int) : Option ((List Int) × Int) := match k with
 | 0 => none
 | k + 1 => ((T_ref23_Check k p1).bind fun x1 => (if (!decide (x1 = 0)) = true then some ([], x1) else (if (decide (p4 < 2) || decide (32 < p4)) = true then some ([], 8) else (((if ((decide (p2 < 0) || decide ((p1.length : Int) ≤ p2)) || decide (p3 < 0)) = true then some true else ((at? p1 p2).bind fun x6 => some (decide ((w64 ((x6.length : Int) - p4)) < p3))))).bind fun x7 => (if x7 = true then some ([], 21) else ((at? p1 p2).bind fun x9 => (T_ref23_whole k x9 p3 p4).bind fun x10 => (if (!x10) = true then some ([], 13) else (at? p1 p2).bind fun x12 => (if (0 : Int) ≤ p3 ∧ p3 ≤ (w64 (p3 + p4)) ∧ (w64 (p3 + p4)) ≤ (x12.length : Int) ∧ (x12.length : Int) ≤ (x12.length : Int) then (if 0 + ((x12.drop p3.toNat).take ((w64 (p3 + p4)).toNat - p3.toNat)).length ≤ LIM then some (((((([] : List Int).drop 0).take 0 ++ ((x12.drop p3.toNat).take ((w64 (p3 + p4)).toNat - p3.toNat))).drop 0).take (0 + ((x12.drop p3.toNat).take ((w64 (p3 + p4)).toNat - p3.toNat)).length)), 0) else none) else none))))))))
abbrev C_T_ref23_Window (k : Nat) (p1 : List (List Int)) (p2 : Int) (p3 : Int) (p4 : Int) (r : (List Int) × Int) : Prop := evF X k n_ref23_Window [(.agg [.d (.list (p1.map (el (D.int .i64))))]), (.agg [cI p2, cI p3]), (I p4)] [] = some ((.tup [(false, [cL r.1]), (false, [cI r.2])]), [])
theorem T_ref23_Window_ok (k : Nat) (p1 : List (List Int)) (p2 : Int) (p3 : Int) (p4 : Int) (r : (List Int) × Int) : T_ref23_Window k p1 p2 p3 p4 = some r → C_T_ref23_Window k p1 p2 p3 p4 r := by
 intro H
 cases k with
 | zero => simp [T_ref23_Window] at H
 | succ k =>
  simp only [T_ref23_Window] at H
  refine F_in X_ref23_Window rfl ?_
  refine K_seq (K_r [] [] (by kernel_rfl) trivial ?_)
  refine K_seq ?_
  refine K_seq ?_
  obtain ⟨x1, hx1, H⟩ := bind_some' H
  refine K_r [.r (I x1) []] [C_T_ref23_Check k p1 x1] (by kernel_rfl) (A1 (T_ref23_Check_ok k p1 x1 hx1)) ?_
  refine K_seq (K_r [] [] (by kernel_rfl) trivial ?_)
  rcases ite_some H with ⟨hx2, H⟩ | ⟨hx2, H⟩
  · refine K_t (by kernel_rfl) hx2 ?_
    refine K_seq (K_r [] [] (by kernel_rfl) trivial ?_)
    refine K_g (by kernel_rfl) ?_
    cases H
    refine K_ret ?_
    kernel_rfl
  · refine K_f (by kernel_rfl) (Bool.eq_false_iff.2 hx2) ?_
    refine K_g (by kernel_rfl) ?_
    refine K_skip (K_seq (K_seq (K_r [.m] ((fun (z1 : Heap) => [z1 = z1]) [.cells [.d (.list (p1.map (el (D.int .i64))))], .cells [cI p2, cI p3]]) (by kernel_rfl) (A1 rfl) ?_)))
    rcases ite_some H with ⟨hx3, H⟩ | ⟨hx3, H⟩
    · refine K_t (by kernel_rfl) hx3 ?_
      refine K_seq (K_r [] [] (by kernel_rfl) trivial ?_)
      refine K_g (by kernel_rfl) ?_
      cases H
      refine K_ret ?_
      kernel_rfl
    · refine K_f (by kernel_rfl) (Bool.eq_false_iff.2 hx3) ?_
      refine K_g (by kernel_rfl) ?_
      refine K_skip ?_
      refine K_seq ?_
      refine K_seq ?_
      obtain ⟨x7, hx7, H⟩ := bind_some' H
      refine K_of ⟨[(2, (I p4)), (3, (Pt 0)), (4, (Pt 1)), (49, (B x7))], [.cells [.d (.list (p1.map (el (D.int .i64))))], .cells [cI p2, cI p3]]⟩ ?_ ?_
      · clear H; have H := hx7; clear hx7; refine K_in ?_
        rcases ite_some H with ⟨hx5, H⟩ | ⟨hx5, H⟩
        · refine K_r [.m, .n p1.length, .m, .b true] ((fun (z1 : Heap) => [decide (p2 < 0) = false → AllT [((p1.map (el (D.int .i64)))).length = p1.length], z1 = z1, z1 = z1, ((decide (p2 < 0) || decide ((p1.length : Int) ≤ p2)) || decide (p3 < 0)) = true]) [.cells [.d (.list (p1.map (el (D.int .i64))))], .cells [cI p2, cI p3]]) (by kernel_rfl) (AC (fun _ => (A1 (List.length_map _))) (AC rfl (AC rfl (A1 hx5)))) ?_
          cases H
          exact K_end (by kernel_rfl)
        · obtain ⟨x6, hx6, H⟩ := bind_some' H
          refine K_r [.m, .n p1.length, .m, .b false, .l [.list (x6.map (D.int .i64))], .n x6.length] ((fun (z1 : Heap) => [decide (p2 < 0) = false → AllT [((p1.map (el (D.int .i64)))).length = p1.length], z1 = z1, z1 = z1, ((decide (p2 < 0) || decide ((p1.length : Int) ≤ p2)) || decide (p3 < 0)) = false, (0 : Int) ≤ p2 ∧ p2 < (((p1.map (el (D.int .i64)))).length : Int), ((p1.map (el (D.int .i64))).getD p2.toNat (.list [])).cells = [.list (x6.map (D.int .i64))], ((x6.map (D.int .i64))).length = x6.length]) [.cells [.d (.list (p1.map (el (D.int .i64))))], .cells [cI p2, cI p3]]) (by kernel_rfl) (AC (fun _ => (A1 (List.length_map _))) (AC rfl (AC rfl (AC (Bool.eq_false_iff.2 hx5) (AC (at_ok hx6 (el (D.int .i64)) (.list [])).1 (AC (at_ok hx6 (el (D.int .i64)) (.list [])).2 (A1 (List.length_map _)))))))) ?_
          cases H
          exact K_end (by kernel_rfl)
      rcases ite_some H with ⟨hx8, H⟩ | ⟨hx8, H⟩
      · refine K_t (by kernel_rfl) hx8 ?_
        refine K_seq (K_r [] [] (by kernel_rfl) trivial ?_)
        refine K_g (by kernel_rfl) ?_
        cases H
        refine K_ret ?_
        kernel_rfl
      · refine K_f (by kernel_rfl) (Bool.eq_false_iff.2 hx8) ?_
        refine K_g (by kernel_rfl) ?_
        refine K_skip ?_
        refine K_seq ?_
        refine K_seq ?_
        obtain ⟨x9, hx9, H⟩ := bind_some' H
        obtain ⟨x10, hx10, H⟩ := bind_some' H
        refine K_r [.l [.list (x9.map (D.int .i64))], .r (B x10) []] [(0 : Int) ≤ p2 ∧ p2 < (((p1.map (el (D.int .i64)))).length : Int), ((p1.map (el (D.int .i64))).getD p2.toNat (.list [])).cells = [.list (x9.map (D.int .i64))], C_T_ref23_whole k x9 p3 p4 x10] (by kernel_rfl) (AC (at_ok hx9 (el (D.int .i64)) (.list [])).1 (AC (at_ok hx9 (el (D.int .i64)) (.list [])).2 (A1 (T_ref23_whole_ok k x9 p3 p4 x10 hx10)))) ?_
        rcases ite_some H with ⟨hx11, H⟩ | ⟨hx11, H⟩
        · refine K_t (by kernel_rfl) hx11 ?_
          refine K_seq (K_r [] [] (by kernel_rfl) trivial ?_)
          refine K_g (by kernel_rfl) ?_
          cases H
          refine K_ret ?_
          kernel_rfl
        · refine K_f (by kernel_rfl) (Bool.eq_false_iff.2 hx11) ?_
          refine K_g (by kernel_rfl) ?_
          refine K_skip ?_
          refine K_seq ?_
          obtain ⟨x12, hx12, H⟩ := bind_some' H
          obtain ⟨hx13, H⟩ := guard_some H
          obtain ⟨hx14, H⟩ := guard_some H
          refine K_rI [.l [.list (x12.map (D.int .i64))], .l (((x12.drop p3.toNat).take ((w64 (p3 + p4)).toNat - p3.toNat)).map (D.int .i64)), .n (((x12.drop p3.toNat).take ((w64 (p3 + p4)).toNat - p3.toNat)).length), .l (((([] : List Int).drop 0).take 0 ++ ((x12.drop p3.toNat).take ((w64 (p3 + p4)).toNat - p3.toNat))).map (D.int .i64))] [0, 1, 2, 3, 1, 2, 3, 0, 1, 2, 3, 0, 1, 2, 3, 0, 1, 2, 3, 0, 1, 2, 3, 0, 1, 2, 3, 1, 2, 3, 0, 1, 2, 3, 0, 1, 2, 3, 0, 1, 2, 3, 0, 1, 2, 3, 0, 1, 2, 3, 0, 1, 2, 3, 0, 1, 2, 3, 0, 1, 2, 3, 0, 1, 2, 3, 0, 1, 2, 3, 0, 1, 2, 3, 0, 1, 2, 3, 0, 1, 2, 3, 0, 1, 2, 3, 0, 1, 2, 3, 0, 1, 2, 3, 0, 1, 2, 3, 1, 2, 3, 0, 1, 2, 3, 0, 1, 2, 3, 0, 1, 2, 3, 0, 1, 2, 3, 0, 1, 2, 3, 1, 2, 3, 1, 2, 3, 1, 2, 3, 1, 2, 3, 1, 2, 3, 0, 1, 2, 3, 0, 1, 2, 3, 0, 1, 2, 3, 1, 2, 3, 0, 1, 2, 3, 0, 1, 2, 3, 0, 1, 2, 3, 0, 1, 2, 3, 0, 1, 2, 3, 1, 2, 3, 0, 1, 2, 3, 0, 1, 2, 3, 0, 1, 2, 3, 1, 2, 3, 0, 1, 2, 3, 0, 1, 2, 3, 0, 1, 2, 3, 0, 1, 2, 3, 0, 1, 2, 3, 1, 2, 3, 1, 2, 3, 1, 2, 3, 1, 2, 3, 1, 2, 3, 0, 1, 2, 3, 0, 1, 2, 3, 0, 1, 2, 3, 1, 2, 3, 0, 1, 2, 3, 0, 1, 2, 3, 0, 1, 2, 3, 0, 1, 2, 3, 0, 1, 2, 3, 1, 2, 3, 0, 1, 2, 3, 0, 1, 2, 3, 0, 1, 2, 3, 0, 1, 2, 3, 0, 1, 2, 3, 0, 1, 2, 3, 0, 1, 2, 3, 0, 1, 2, 3, 0, 1, 2, 3, 0, 1, 2, 3, 0, 1, 2, 3, 1, 2, 3, 0, 1, 2, 3, 0, 1, 2, 3, 0, 1, 2, 3, 0, 1, 2, 3, 0, 1, 2, 3, 1, 2, 3, 0, 1, 2, 3, 0, 1, 2, 3, 0, 1, 2, 3, 0, 1, 2, 3, 0, 1, 2, 3, 0, 1, 2, 3, 0, 1, 2, 3, 0, 1, 2, 3, 0, 1, 2, 3, 0, 1, 2, 3, 0, 1, 2, 3, 0, 1, 2, 3, 0, 1, 2, 3, 0, 1, 2, 3, 0, 1, 2, 3, 0, 1, 2, 3, 0, 1, 2, 3, 1, 2, 3, 0, 1, 2, 3, 0, 1, 2, 3, 0, 1, 2, 3, 0, 1, 2, 3, 0, 1, 2, 3, 1, 2, 3, 0, 1, 2, 3, 0, 1, 2, 3, 0, 1, 2, 3, 0, 1, 2, 3, 0, 1, 2, 3, 0, 1, 2, 3, 0, 1, 2, 3, 0, 1, 2, 3] ((fun (z1 : St) => [(0 : Int) ≤ p2 ∧ p2 < (((p1.map (el (D.int .i64)))).length : Int), ((p1.map (el (D.int .i64))).getD p2.toNat (.list [])).cells = [.list (x12.map (D.int .i64))], ((x12.map (D.int .i64)).all fun d => d.cells.length == 1) = true, (0 : Int) ≤ p3 ∧ p3 ≤ (w64 (p3 + p4)) ∧ (w64 (p3 + p4)) ≤ (((x12.map (D.int .i64))).length : Int) ∧ (((x12.map (D.int .i64))).length : Int) ≤ (((x12.map (D.int .i64))).length : Int), ((x12.map (D.int .i64)).drop (p3 : Int).toNat).take (((w64 (p3 + p4)) : Int).toNat - (p3 : Int).toNat) = ((x12.drop p3.toNat).take ((w64 (p3 + p4)).toNat - p3.toNat)).map (D.int .i64), (List.all (((x12.drop p3.toNat).take ((w64 (p3 + p4)).toNat - p3.toNat)).map (D.int .i64)) fun d => d.cells.length == (D.cells (.int .i64 0)).length) = true, 0 + ((x12.drop p3.toNat).take ((w64 (p3 + p4)).toNat - p3.toNat)).length ≤ LIM, (((x12.drop p3.toNat).take ((w64 (p3 + p4)).toNat - p3.toNat)).map (D.int .i64)).length = ((x12.drop p3.toNat).take ((w64 (p3 + p4)).toNat - p3.toNat)).length, ((([] : List Int).map (D.int .i64)).drop 0).take 0 ++ (((x12.drop p3.toNat).take ((w64 (p3 + p4)).toNat - p3.toNat)).map (D.int .i64)) = ((([] : List Int).drop 0).take 0 ++ ((x12.drop p3.toNat).take ((w64 (p3 + p4)).toNat - p3.toNat))).map (D.int .i64), z1 = z1]) (⟨[(6, (.one (.own 0 0 (0 + ((x12.drop p3.toNat).take ((w64 (p3 + p4)).toNat - p3.toNat)).length)))), (7, (I 0))], [VI ((([] : List Int).drop 0).take 0 ++ ((x12.drop p3.toNat).take ((w64 (p3 + p4)).toNat - p3.toNat)))]⟩)) [0, 1, 2, 3, 4, 5, 6, 7, 8, 2, 3, 4, 5, 6, 7, 8, 9, 0, 1, 2, 3, 4, 5, 6, 7, 8, 0, 1, 2, 3, 4, 5, 6, 7, 8, 9, 9, 0, 1, 2, 3, 4, 5, 6, 7, 8, 0, 1, 2, 3, 4, 5, 6, 7, 8, 9, 9, 0, 1, 2, 3, 4, 5, 6, 7, 8, 2, 3, 4, 5, 6, 7, 8, 9, 0, 1, 2, 3, 4, 5, 6, 7, 8, 0, 1, 2, 3, 4, 5, 6, 7, 8, 9, 9, 0, 1, 2, 3, 4, 5, 6, 7, 8, 0, 1, 2, 3, 4, 5, 6, 7, 8, 9, 9, 9, 0, 1, 2, 3, 4, 5, 6, 7, 8, 0, 1, 2, 3, 4, 5, 6, 7, 8, 9, 0, 1, 2, 3, 4, 5, 6, 7, 8, 0, 1, 2, 3, 4, 5, 6, 7, 8, 9, 9, 0, 1, 2, 3, 4, 5, 6, 7, 8, 0, 1, 2, 3, 4, 5, 6, 7, 8, 9, 9, 9, 0, 1, 2, 3, 4, 5, 6, 7, 8, 0, 1, 2, 3, 4, 5, 6, 7, 8, 9, 0, 1, 2, 3, 4, 5, 6, 7, 8, 0, 1, 2, 3, 4, 5, 6, 7, 8, 9, 9, 0, 1, 2, 3, 4, 5, 6, 7, 8, 0, 1, 2, 3, 4, 5, 6, 7, 8, 9, 9, 9, 0, 1, 2, 3, 4, 5, 6, 7, 8, 2, 3, 4, 5, 6, 7, 8, 9, 0, 1, 2, 3, 4, 5, 6, 7, 8, 0, 1, 2, 3, 4, 5, 6, 7, 8, 9, 9, 0, 1, 2, 3, 4, 5, 6, 7, 8, 0, 1, 2, 3, 4, 5, 6, 7, 8, 9, 9, 0, 1, 2, 3, 4, 5, 6, 7, 8, 2, 3, 4, 5, 6, 7, 8, 9, 2, 3, 4, 5, 6, 7, 8, 2, 3, 4, 5, 6, 7, 8, 9, 9, 2, 3, 4, 5, 6, 7, 8, 2, 3, 4, 5, 6, 7, 8, 9, 9, 9, 0, 1, 2, 3, 4, 5, 6, 7, 8, 0, 1, 2, 3, 4, 5, 6, 7, 8, 9, 0, 1, 2, 3, 4, 5, 6, 7, 8, 2, 3, 4, 5, 6, 7, 8, 9, 9, 0, 1, 2, 3, 4, 5, 6, 7, 8, 0, 1, 2, 3, 4, 5, 6, 7, 8, 9, 9, 9, 0, 1, 2, 3, 4, 5, 6, 7, 8, 0, 1, 2, 3, 4, 5, 6, 7, 8, 9, 0, 1, 2, 3, 4, 5, 6, 7, 8, 2, 3, 4, 5, 6, 7, 8, 9, 9, 0, 1, 2, 3, 4, 5, 6, 7, 8, 0, 1, 2, 3, 4, 5, 6, 7, 8, 9, 9, 9, 9, 0, 1, 2, 3, 4, 5, 6, 7, 8, 2, 3, 4, 5, 6, 7, 8, 9, 0, 1, 2, 3, 4, 5, 6, 7, 8, 0, 1, 2, 3, 4, 5, 6, 7, 8, 9, 9, 0, 1, 2, 3, 4, 5, 6, 7, 8, 0, 1, 2, 3, 4, 5, 6, 7, 8, 9, 9, 0, 1, 2, 3, 4, 5, 6, 7, 8, 2, 3, 4, 5, 6, 7, 8, 9, 2, 3, 4, 5, 6, 7, 8, 2, 3, 4, 5, 6, 7, 8, 9, 9, 2, 3, 4, 5, 6, 7, 8, 2, 3, 4, 5, 6, 7, 8, 9, 9, 9, 0, 1, 2, 3, 4, 5, 6, 7, 8, 0, 1, 2, 3, 4, 5, 6, 7, 8, 9, 0, 1, 2, 3, 4, 5, 6, 7, 8, 2, 3, 4, 5, 6, 7, 8, 9, 9, 0, 1, 2, 3, 4, 5, 6, 7, 8, 0, 1, 2, 3, 4, 5, 6, 7, 8, 9, 9, 9, 0, 1, 2, 3, 4, 5, 6, 7, 8, 0, 1, 2, 3, 4, 5, 6, 7, 8, 9, 0, 1, 2, 3, 4, 5, 6, 7, 8, 2, 3, 4, 5, 6, 7, 8, 9, 9, 0, 1, 2, 3, 4, 5, 6, 7, 8, 0, 1, 2, 3, 4, 5, 6, 7, 8, 9, 9, 9, 9, 0, 1, 2, 3, 4, 5, 6, 7, 8, 0, 1, 2, 3, 4, 5, 6, 7, 8, 9, 0, 1, 2, 3, 4, 5, 6, 7, 8, 0, 1, 2, 3, 4, 5, 6, 7, 8, 9, 9, 0, 1, 2, 3, 4, 5, 6, 7, 8, 0, 1, 2, 3, 4, 5, 6, 7, 8, 9, 9, 0, 1, 2, 3, 4, 5, 6, 7, 8, 0, 1, 2, 3, 4, 5, 6, 7, 8, 9, 0, 1, 2, 3, 4, 5, 6, 7, 8, 2, 3, 4, 5, 6, 7, 8, 9, 9, 0, 1, 2, 3, 4, 5, 6, 7, 8, 0, 1, 2, 3, 4, 5, 6, 7, 8, 9, 9, 9, 0, 1, 2, 3, 4, 5, 6, 7, 8, 0, 1, 2, 3, 4, 5, 6, 7, 8, 9, 0, 1, 2, 3, 4, 5, 6, 7, 8, 2, 3, 4, 5, 6, 7, 8, 9, 9, 0, 1, 2, 3, 4, 5, 6, 7, 8, 0, 1, 2, 3, 4, 5, 6, 7, 8, 9, 9, 9, 0, 1, 2, 3, 4, 5, 6, 7, 8, 0, 1, 2, 3, 4, 5, 6, 7, 8, 9, 0, 1, 2, 3, 4, 5, 6, 7, 8, 0, 1, 2, 3, 4, 5, 6, 7, 8, 9, 9, 0, 1, 2, 3, 4, 5, 6, 7, 8, 0, 1, 2, 3, 4, 5, 6, 7, 8, 9, 9, 9, 9, 0, 1, 2, 3, 4, 5, 6, 7, 8, 0, 1, 2, 3, 4, 5, 6, 7, 8, 9, 0, 1, 2, 3, 4, 5, 6, 7, 8, 0, 1, 2, 3, 4, 5, 6, 7, 8, 9, 9, 0, 1, 2, 3, 4, 5, 6, 7, 8, 0, 1, 2, 3, 4, 5, 6, 7, 8, 9, 9, 0, 1, 2, 3, 4, 5, 6, 7, 8, 0, 1, 2, 3, 4, 5, 6, 7, 8, 9, 0, 1, 2, 3, 4, 5, 6, 7, 8, 2, 3, 4, 5, 6, 7, 8, 9, 9, 0, 1, 2, 3, 4, 5, 6, 7, 8, 0, 1, 2, 3, 4, 5, 6, 7, 8, 9, 9, 9, 0, 1, 2, 3, 4, 5, 6, 7, 8, 0, 1, 2, 3, 4, 5, 6, 7, 8, 9, 0, 1, 2, 3, 4, 5, 6, 7, 8, 2, 3, 4, 5, 6, 7, 8, 9, 9, 0, 1, 2, 3, 4, 5, 6, 7, 8, 0, 1, 2, 3, 4, 5, 6, 7, 8, 9, 9, 9, 0, 1, 2, 3, 4, 5, 6, 7, 8, 0, 1, 2, 3, 4, 5, 6, 7, 8, 9, 0, 1, 2, 3, 4, 5, 6, 7, 8, 0, 1, 2, 3, 4, 5, 6, 7, 8, 9, 9, 0, 1, 2, 3, 4, 5, 6, 7, 8, 0, 1, 2, 3, 4, 5, 6, 7, 8, 9, 9, 9, 9] (by kernel_rfl) (AC (at_ok hx12 (el (D.int .i64)) (.list [])).1 (AC (at_ok hx12 (el (D.int .i64)) (.list [])).2 (AC (all_ok (D.int .i64) 1 x12 (fun _ => rfl)) (AC (by simpa using hx13) (AC (dt_map _ _ _ _) (AC (all_ok (D.int .i64) 1 ((x12.drop p3.toNat).take ((w64 (p3 + p4)).toNat - p3.toNat)) (fun _ => rfl)) (AC hx14 (AC (by simp) (AC (ap_map (D.int .i64) ([] : List Int) ((x12.drop p3.toNat).take ((w64 (p3 + p4)).toNat - p3.toNat)) 0 0) (A1 rfl)))))))))) ?_
          refine K_g (by kernel_rfl) ?_
          cases H
          refine K_ret ?_
          exact Eq.trans (b := some ((.tup [(false, [.d (.list (((((([] : List Int).drop 0).take 0 ++ ((x12.drop p3.toNat).take ((w64 (p3 + p4)).toNat - p3.toNat))).map (D.int .i64)).drop 0).take (0 + ((x12.drop p3.toNat).take ((w64 (p3 + p4)).toNat - p3.toNat)).length)))]), (false, [cI 0])]), [])) (by kernel_rfl) (by simp only [dt_map, rl_map, LI, VI])
def T_ref23_SamePlaces_l1 (k : Nat) (p1 : List (Int × Int)) (p2 : List (Int × Int)) (x9 : Int) : Option (Int ⊕ (Unit ⊕ Unit)) :=
 (if x9 < (p1.length : Int) then ((at? p1 x9).bind fun x11 => (at? p2 x9).bind fun x12 => (if (!(decide (x11.1 = x12.1) && (decide (x11.2 = x12.2) && true))) = true then some (.inr (.inr ())) else some (.inl (w64 (x9 + 1))))) else some (.inr (.inl ())))
theorem T_ref23_SamePlaces_l1_ok (k : Nat) (p1 : List (Int × Int)) (p2 : List (Int × Int)) : ∀ (x9 : Int) (x : Int ⊕ (Unit ⊕ Unit)), T_ref23_SamePlaces_l1 k p1 p2 x9 = some x → evC X (evF X k) k 0 l_ref23_SamePlaces_1 ⟨[(0, (.one (.d (.list (p1.map e_st0))))), (1, (.one (.d (.list (p2.map e_st0))))), (5, (I x9))], []⟩ = some (outS (fun (s : Int) => ⟨[(0, (.one (.d (.list (p1.map e_st0))))), (1, (.one (.d (.list (p2.map e_st0))))), (5, (I s))], []⟩) (fun (r : Unit ⊕ Unit) => Sum.elim (fun y => (.exit 0, ⟨[], []⟩)) (fun y => (.ret, ⟨[(4, (B false))], []⟩)) r) x) := by
 intro x9 x H
 unfold T_ref23_SamePlaces_l1 at H
 refine K_in ?_
 refine K_seq (K_seq (K_r [.n p1.length] [((p1.map e_st0)).length = p1.length] (by kernel_rfl) (A1 (List.length_map _)) ?_))
 rcases ite_some H with ⟨hx10, H⟩ | ⟨hx10, H⟩
 · refine K_t (by kernel_rfl) (decide_eq_true hx10) ?_
   refine K_g (by kernel_rfl) ?_
   refine K_skip ?_
   refine K_seq ?_
   refine K_block ?_
   refine K_seq ?_
   obtain ⟨x11, hx11, H⟩ := bind_some' H
   obtain ⟨x12, hx12, H⟩ := bind_some' H
   refine K_r [.l [.int .i64 x11.1, .int .i64 x11.2], .l [.int .i64 x12.1, .int .i64 x12.2]] [(0 : Int) ≤ x9 ∧ x9 < (((p1.map e_st0)).length : Int), ((p1.map e_st0).getD x9.toNat (.agg [(.int .i64 0), (.int .i64 0)])).cells = [.int .i64 x11.1, .int .i64 x11.2], (0 : Int) ≤ x9 ∧ x9 < (((p2.map e_st0)).length : Int), ((p2.map e_st0).getD x9.toNat (.agg [(.int .i64 0), (.int .i64 0)])).cells = [.int .i64 x12.1, .int .i64 x12.2]] (by kernel_rfl) (AC (at_ok hx11 e_st0 (.agg [(.int .i64 0), (.int .i64 0)])).1 (AC (at_ok hx11 e_st0 (.agg [(.int .i64 0), (.int .i64 0)])).2 (AC (at_ok hx12 e_st0 (.agg [(.int .i64 0), (.int .i64 0)])).1 (A1 (at_ok hx12 e_st0 (.agg [(.int .i64 0), (.int .i64 0)])).2)))) ?_
   rcases ite_some H with ⟨hx13, H⟩ | ⟨hx13, H⟩
   · refine K_t (by kernel_rfl) hx13 ?_
     refine K_seq (K_r [] [] (by kernel_rfl) trivial ?_)
     refine K_g (by kernel_rfl) ?_
     cases H
     exact K_ret (by kernel_rfl)
   · refine K_f (by kernel_rfl) (Bool.eq_false_iff.2 hx13) ?_
     refine K_g (by kernel_rfl) ?_
     refine K_skip (K_blk (K_r [] [] (by kernel_rfl) trivial ?_))
     cases H
     exact K_end (by kernel_rfl)
 · refine K_f (by kernel_rfl) (decide_eq_false hx10) ?_
   refine K_g (by kernel_rfl) ?_
   cases H
   exact K_exit0 rfl (by kernel_rfl)
def T_ref23_SamePlaces (k : Nat) (p1 : List (Int × Int)) (p2 : List (Int × Int)) : Option Bool := match k with
 | 0 => none
 | k + 1 => (if (!decide ((p1.length : Int) = (p2.length : Int))) = true then some false else ((loopT (T_ref23_SamePlaces_l1 k p1 p2) k 0).bind fun x14 => (match x14 with | .inl x15 => some true | .inr x16 => some false)))
abbrev C_T_ref23_SamePlaces (k : Nat) (p1 : List (Int × Int)) (p2 : List (Int × Int)) (r : Bool) : Prop := evF X k n_ref23_SamePlaces [(.one (.d (.list (p1.map e_st0)))), (.one (.d (.list (p2.map e_st0))))] [] = some ((B r), [])
theorem T_ref23_SamePlaces_ok (k : Nat) (p1 : List (Int × Int)) (p2 : List (Int × Int)) (r : Bool) : T_ref23_SamePlaces k p1 p2 = some r → C_T_ref23_SamePlaces k p1 p2 r := by
 intro H
 cases k with
 | zero => simp [T_ref23_SamePlaces] at H
 | succ k =>
  simp only [T_ref23_SamePlaces] at H
  refine F_in X_ref23_SamePlaces rfl ?_
  refine K_seq (K_r [] [] (by kernel_rfl) trivial ?_)
  refine K_seq (K_seq (K_r [.n p1.length, .n p2.length] [((p1.map e_st0)).length = p1.length, ((p2.map e_st0)).length = p2.length] (by kernel_rfl) (AC (List.length_map _) (A1 (List.length_map _))) ?_))
  rcases ite_some H with ⟨hx1, H⟩ | ⟨hx1, H⟩
  · refine K_t (by kernel_rfl) hx1 ?_
    refine K_seq (K_r [] [] (by kernel_rfl) trivial ?_)
    refine K_g (by kernel_rfl) ?_
    cases H
    refine K_ret ?_
    kernel_rfl
  · refine K_f (by kernel_rfl) (Bool.eq_false_iff.2 hx1) ?_
    refine K_g (by kernel_rfl) ?_
    refine K_skip (K_seq (K_seq (K_r [] [] (by kernel_rfl) trivial ?_)))
    refine K_block (K_conv (σ' := ⟨[(0, (.one (.d (.list (p1.map e_st0))))), (1, (.one (.d (.list (p2.map e_st0))))), (5, (I 0))], []⟩) (by kernel_rfl) ?_)
    obtain ⟨x14, hx14, H⟩ := bind_some' H
    cases x14 with
    | inl x15 =>
     dsimp only at H
     refine K_loop ⟨[], []⟩ (loop_ok (fun (s : Int) => ⟨[(0, (.one (.d (.list (p1.map e_st0))))), (1, (.one (.d (.list (p2.map e_st0))))), (5, (I s))], []⟩) (fun (r : Unit ⊕ Unit) => Sum.elim (fun y => (.exit 0, ⟨[], []⟩)) (fun y => (.ret, ⟨[(4, (B false))], []⟩)) r) (fun r h => by cases r <;> cases h) (T_ref23_SamePlaces_l1_ok k p1 p2) k 0 (.inl x15) hx14) rfl ?_
     refine K_seq (K_r [] [] (by kernel_rfl) trivial ?_)
     refine K_g (by kernel_rfl) ?_
     cases H
     refine K_ret ?_
     kernel_rfl
    | inr x16 =>
     dsimp only at H
     cases H
     refine K_loopr ⟨[(4, (B false))], []⟩ (loop_ok (fun (s : Int) => ⟨[(0, (.one (.d (.list (p1.map e_st0))))), (1, (.one (.d (.list (p2.map e_st0))))), (5, (I s))], []⟩) (fun (r : Unit ⊕ Unit) => Sum.elim (fun y => (.exit 0, ⟨[], []⟩)) (fun y => (.ret, ⟨[(4, (B false))], []⟩)) r) (fun r h => by cases r <;> cases h) (T_ref23_SamePlaces_l1_ok k p1 p2) k 0 (.inr x16) hx14) ?_
     kernel_rfl
def T_ref23_SameInts_l1 (k : Nat) (p1 : List Int) (p2 : List Int) (x9 : Int) : Option (Int ⊕ (Unit ⊕ Unit)) :=
 (if x9 < (p1.length : Int) then ((at? p1 x9).bind fun x11 => (at? p2 x9).bind fun x12 => (if (!decide (x11 = x12)) = true then some (.inr (.inr ())) else some (.inl (w64 (x9 + 1))))) else some (.inr (.inl ())))
theorem T_ref23_SameInts_l1_ok (k : Nat) (p1 : List Int) (p2 : List Int) : ∀ (x9 : Int) (x : Int ⊕ (Unit ⊕ Unit)), T_ref23_SameInts_l1 k p1 p2 x9 = some x → evC X (evF X k) k 0 l_ref23_SameInts_1 ⟨[(0, (LI p1)), (1, (LI p2)), (5, (I x9))], []⟩ = some (outS (fun (s : Int) => ⟨[(0, (LI p1)), (1, (LI p2)), (5, (I s))], []⟩) (fun (r : Unit ⊕ Unit) => Sum.elim (fun y => (.exit 0, ⟨[], []⟩)) (fun y => (.ret, ⟨[(4, (B false))], []⟩)) r) x) := by
 intro x9 x H
 unfold T_ref23_SameInts_l1 at H
 refine K_in ?_
 refine K_seq (K_seq (K_r [.n p1.length] [((p1.map (D.int .i64))).length = p1.length] (by kernel_rfl) (A1 (List.length_map _)) ?_))
 rcases ite_some H with ⟨hx10, H⟩ | ⟨hx10, H⟩
 · refine K_t (by kernel_rfl) (decide_eq_true hx10) ?_
   refine K_g (by kernel_rfl) ?_
   refine K_skip ?_
   refine K_seq ?_
   refine K_block ?_
   refine K_seq ?_
   obtain ⟨x11, hx11, H⟩ := bind_some' H
   obtain ⟨x12, hx12, H⟩ := bind_some' H
   refine K_r [.l [.int .i64 x11], .l [.int .i64 x12]] [(0 : Int) ≤ x9 ∧ x9 < (((p1.map (D.int .i64))).length : Int), ((p1.map (D.int .i64)).getD x9.toNat (.int .i64 0)).cells = [.int .i64 x11], (0 : Int) ≤ x9 ∧ x9 < (((p2.map (D.int .i64))).length : Int), ((p2.map (D.int .i64)).getD x9.toNat (.int .i64 0)).cells = [.int .i64 x12]] (by kernel_rfl) (AC (at_ok hx11 (D.int .i64) (.int .i64 0)).1 (AC (at_ok hx11 (D.int .i64) (.int .i64 0)).2 (AC (at_ok hx12 (D.int .i64) (.int .i64 0)).1 (A1 (at_ok hx12 (D.int .i64) (.int .i64 0)).2)))) ?_
   rcases ite_some H with ⟨hx13, H⟩ | ⟨hx13, H⟩
   · refine K_t (by kernel_rfl) hx13 ?_
     refine K_seq (K_r [] [] (by kernel_rfl) trivial ?_)
     refine K_g (by kernel_rfl) ?_
     cases H
     exact K_ret (by kernel_rfl)
   · refine K_f (by kernel_rfl) (Bool.eq_false_iff.2 hx13) ?_
     refine K_g (by kernel_rfl) ?_
     refine K_skip (K_blk (K_r [] [] (by kernel_rfl) trivial ?_))
     cases H
     exact K_end (by kernel_rfl)
 · refine K_f (by kernel_rfl) (decide_eq_false hx10) ?_
   refine K_g (by kernel_rfl) ?_
   cases H
   exact K_exit0 rfl (by kernel_rfl)
def T_ref23_SameInts (k : Nat) (p1 : List Int) (p2 : List Int) : Option Bool := match k with
 | 0 => none
 | k + 1 => (if (!decide ((p1.length : Int) = (p2.length : Int))) = true then some false else ((loopT (T_ref23_SameInts_l1 k p1 p2) k 0).bind fun x14 => (match x14 with | .inl x15 => some true | .inr x16 => some false)))
abbrev C_T_ref23_SameInts (k : Nat) (p1 : List Int) (p2 : List Int) (r : Bool) : Prop := evF X k n_ref23_SameInts [(LI p1), (LI p2)] [] = some ((B r), [])
theorem T_ref23_SameInts_ok (k : Nat) (p1 : List Int) (p2 : List Int) (r : Bool) : T_ref23_SameInts k p1 p2 = some r → C_T_ref23_SameInts k p1 p2 r := by
 intro H
 cases k with
 | zero => simp [T_ref23_SameInts] at H
 | succ k =>
  simp only [T_ref23_SameInts] at H
  refine F_in X_ref23_SameInts rfl ?_
  refine K_seq (K_r [] [] (by kernel_rfl) trivial ?_)
  refine K_seq (K_seq (K_r [.n p1.length, .n p2.length] [((p1.map (D.int .i64))).length = p1.length, ((p2.map (D.int .i64))).length = p2.length] (by kernel_rfl) (AC (List.length_map _) (A1 (List.length_map _))) ?_))
  rcases ite_some H with ⟨hx1, H⟩ | ⟨hx1, H⟩
  · refine K_t (by kernel_rfl) hx1 ?_
    refine K_seq (K_r [] [] (by kernel_rfl) trivial ?_)
    refine K_g (by kernel_rfl) ?_
    cases H
    refine K_ret ?_
    kernel_rfl
  · refine K_f (by kernel_rfl) (Bool.eq_false_iff.2 hx1) ?_
    refine K_g (by kernel_rfl) ?_
    refine K_skip (K_seq (K_seq (K_r [] [] (by kernel_rfl) trivial ?_)))
    refine K_block (K_conv (σ' := ⟨[(0, (LI p1)), (1, (LI p2)), (5, (I 0))], []⟩) (by kernel_rfl) ?_)
    obtain ⟨x14, hx14, H⟩ := bind_some' H
    cases x14 with
    | inl x15 =>
     dsimp only at H
     refine K_loop ⟨[], []⟩ (loop_ok (fun (s : Int) => ⟨[(0, (LI p1)), (1, (LI p2)), (5, (I s))], []⟩) (fun (r : Unit ⊕ Unit) => Sum.elim (fun y => (.exit 0, ⟨[], []⟩)) (fun y => (.ret, ⟨[(4, (B false))], []⟩)) r) (fun r h => by cases r <;> cases h) (T_ref23_SameInts_l1_ok k p1 p2) k 0 (.inl x15) hx14) rfl ?_
     refine K_seq (K_r [] [] (by kernel_rfl) trivial ?_)
     refine K_g (by kernel_rfl) ?_
     cases H
     refine K_ret ?_
     kernel_rfl
    | inr x16 =>
     dsimp only at H
     cases H
     refine K_loopr ⟨[(4, (B false))], []⟩ (loop_ok (fun (s : Int) => ⟨[(0, (LI p1)), (1, (LI p2)), (5, (I s))], []⟩) (fun (r : Unit ⊕ Unit) => Sum.elim (fun y => (.exit 0, ⟨[], []⟩)) (fun y => (.ret, ⟨[(4, (B false))], []⟩)) r) (fun r h => by cases r <;> cases h) (T_ref23_SameInts_l1_ok k p1 p2) k 0 (.inr x16) hx14) ?_
     kernel_rfl
def T_ratio_within (k : Nat) (p1 : Int) (p2 : Int) : Option Unit := match k with
 | 0 => none
 | k + 1 => some ()
abbrev C_T_ratio_within (k : Nat) (p1 : Int) (p2 : Int) (r : Unit) : Prop := evF X k n_ratio_within [(.agg [cI p1, cI p2])] [] = some ((B (((decide (0 ≤ p1) && decide (p1 ≤ 2305843009213693952)) && decide (1 ≤ p2)) && decide (p2 ≤ 1152921504606846976))), [])
theorem T_ratio_within_ok (k : Nat) (p1 : Int) (p2 : Int) (r : Unit) : T_ratio_within k p1 p2 = some r → C_T_ratio_within k p1 p2 r := by
 intro H
 cases k with
 | zero => simp [T_ratio_within] at H
 | succ k =>
  simp only [T_ratio_within] at H
  refine F_in X_ratio_within rfl ?_
  refine K_seq (K_r [] [] (by kernel_rfl) trivial ?_)
  refine K_seq (K_r [.m, .m, .m] ((fun (z1 : Heap) => [z1 = z1, z1 = z1, z1 = z1]) [.cells [cI p1, cI p2]]) (by kernel_rfl) (AC rfl (AC rfl (A1 rfl))) ?_)
  refine K_g (by kernel_rfl) ?_
  cases H
  refine K_ret ?_
  kernel_rfl
def T_ratio_divisor_l1 (k : Nat) (x5 : Int × Int) : Option ((Int × Int) ⊕ Int) :=
 (if (!decide (x5.2 = 0)) = true then (if x5.2 ≠ 0 then some (.inl (x5.2, (x5.1.tmod x5.2))) else none) else some (.inr x5.1))
theorem T_ratio_divisor_l1_ok (k : Nat) : ∀ (x5 : Int × Int) (x : (Int × Int) ⊕ Int), T_ratio_divisor_l1 k x5 = some x → evC X (evF X k) k 0 l_ratio_divisor_1 ⟨[(0, (I x5.1)), (1, (I x5.2))], []⟩ = some (outS (fun (s : Int × Int) => ⟨[(0, (I s.1)), (1, (I s.2))], []⟩) (fun (r : Int) => (.exit 0, ⟨[(0, (I r))], []⟩)) x) := by
 intro x5 x H
 unfold T_ratio_divisor_l1 at H
 refine K_in ?_
 refine K_seq (K_seq (K_r [] [] (by kernel_rfl) trivial ?_))
 rcases ite_some H with ⟨hx6, H⟩ | ⟨hx6, H⟩
 · refine K_t (by kernel_rfl) hx6 ?_
   refine K_g (by kernel_rfl) ?_
   refine K_skip ?_
   refine K_block ?_
   obtain ⟨hx7, H⟩ := guard_some H
   refine K_r [] [x5.2 ≠ (0 : Int)] (by kernel_rfl) (A1 hx7) ?_
   refine K_blk ?_
   cases H
   exact K_end (by kernel_rfl)
 · refine K_f (by kernel_rfl) (Bool.eq_false_iff.2 hx6) ?_
   refine K_g (by kernel_rfl) ?_
   cases H
   exact K_exit0 rfl (by kernel_rfl)
def T_ratio_divisor (k : Nat) (p1 : Int) (p2 : Int) : Option Int := match k with
 | 0 => none
 | k + 1 => ((loopT (T_ratio_divisor_l1 k) k (p1, p2)).bind fun x8 => some x8)
abbrev C_T_ratio_divisor (k : Nat) (p1 : Int) (p2 : Int) (r : Int) : Prop := evF X k n_ratio_divisor [(I p1), (I p2)] [] = some ((I r), [])
theorem T_ratio_divisor_ok (k : Nat) (p1 : Int) (p2 : Int) (r : Int) : T_ratio_divisor k p1 p2 = some r → C_T_ratio_divisor k p1 p2 r := by
 intro H
 cases k with
 | zero => simp [T_ratio_divisor] at H
 | succ k =>
  simp only [T_ratio_divisor] at H
  refine F_in X_ratio_divisor rfl ?_
  refine K_seq (K_r [] [] (by kernel_rfl) trivial ?_)
  refine K_seq (K_block (K_conv (σ' := ⟨[(0, (I p1)), (1, (I p2))], []⟩) (by kernel_rfl) ?_))
  obtain ⟨x8, hx8, H⟩ := bind_some' H
  refine K_loop ⟨[(0, (I x8))], []⟩ (loop_ok (fun (s : Int × Int) => ⟨[(0, (I s.1)), (1, (I s.2))], []⟩) (fun (r : Int) => (.exit 0, ⟨[(0, (I r))], []⟩)) (fun r h => by cases h) (T_ratio_divisor_l1_ok k) k (p1, p2) x8 hx8) rfl ?_
  refine K_seq (K_r [] [] (by kernel_rfl) trivial ?_)
  refine K_g (by kernel_rfl) ?_
  cases H
  refine K_ret ?_
  kernel_rfl
def T_ratio_Valid (k : Nat) (p1 : Int) (p2 : Int) : Option Bool := match k with
 | 0 => none
 | k + 1 => ((((T_ratio_within k p1 p2).bind fun x1 => (if (((decide (0 ≤ p1) && decide (p1 ≤ 2305843009213693952)) && decide (1 ≤ p2)) && decide (p2 ≤ 1152921504606846976)) = true then ((T_ratio_divisor k p1 p2).bind fun x4 => some (decide (x4 = 1))) else some false))).bind fun x5 => some x5)
abbrev C_T_ratio_Valid (k : Nat) (p1 : Int) (p2 : Int) (r : Bool) : Prop := evF X k n_ratio_Valid [(.agg [cI p1, cI p2])] [] = some ((B r), [])
theorem T_ratio_Valid_ok (k : Nat) (p1 : Int) (p2 : Int) (r : Bool) : T_ratio_Valid k p1 p2 = some r → C_T_ratio_Valid k p1 p2 r := by
 intro H
 cases k with
 | zero => simp [T_ratio_Valid] at H
 | succ k =>
  simp only [T_ratio_Valid] at H
  refine F_in X_ratio_Valid rfl ?_
  refine K_seq (K_r [] [] (by kernel_rfl) trivial ?_)
  refine K_seq ?_
  obtain ⟨x5, hx5, H⟩ := bind_some' H
  refine K_of ⟨[(2, (B x5))], []⟩ ?_ ?_
  · clear H; have H := hx5; clear hx5; refine K_in ?_
    obtain ⟨x1, hx1, H⟩ := bind_some' H
    rcases ite_some H with ⟨hx3, H⟩ | ⟨hx3, H⟩
    · obtain ⟨x4, hx4, H⟩ := bind_some' H
      refine K_r [.r (B (((decide (0 ≤ p1) && decide (p1 ≤ 2305843009213693952)) && decide (1 ≤ p2)) && decide (p2 ≤ 1152921504606846976))) [], .b true, .r (I x4) []] [C_T_ratio_within k p1 p2 x1, (((decide (0 ≤ p1) && decide (p1 ≤ 2305843009213693952)) && decide (1 ≤ p2)) && decide (p2 ≤ 1152921504606846976)) = true, C_T_ratio_divisor k p1 p2 x4] (by kernel_rfl) (AC (T_ratio_within_ok k p1 p2 x1 hx1) (AC hx3 (A1 (T_ratio_divisor_ok k p1 p2 x4 hx4)))) ?_
      cases H
      exact K_end (by kernel_rfl)
    · refine K_r [.r (B (((decide (0 ≤ p1) && decide (p1 ≤ 2305843009213693952)) && decide (1 ≤ p2)) && decide (p2 ≤ 1152921504606846976))) [], .b false] [C_T_ratio_within k p1 p2 x1, (((decide (0 ≤ p1) && decide (p1 ≤ 2305843009213693952)) && decide (1 ≤ p2)) && decide (p2 ≤ 1152921504606846976)) = false] (by kernel_rfl) (AC (T_ratio_within_ok k p1 p2 x1 hx1) (A1 (Bool.eq_false_iff.2 hx3))) ?_
      cases H
      exact K_end (by kernel_rfl)
  refine K_g (by kernel_rfl) ?_
  cases H
  refine K_ret ?_
  kernel_rfl
def T_math_bits_Mul64 (k : Nat) (p1 : Int) (p2 : Int) : Option Unit := match k with
 | 0 => none
 | k + 1 => some ()
abbrev C_T_math_bits_Mul64 (k : Nat) (p1 : Int) (p2 : Int) (r : Unit) : Prop := evF X k n_math_bits_Mul64 [(.one (.d (.int .u64 p1))), (.one (.d (.int .u64 p2)))] [] = some ((.tup [(false, [.d (.int .u64 (IntKind.wrap .u64 ((IntKind.wrap .u64 ((IntKind.wrap .u64 ((p1.fdiv (2 ^ 32)) * (p2.fdiv (2 ^ 32)))) + ((IntKind.wrap .u64 ((IntKind.wrap .u64 ((p1.fdiv (2 ^ 32)) * (bAnd .u64 p2 4294967295))) + ((IntKind.wrap .u64 ((bAnd .u64 p1 4294967295) * (bAnd .u64 p2 4294967295))).fdiv (2 ^ 32)))).fdiv (2 ^ 32)))) + ((IntKind.wrap .u64 ((bAnd .u64 (IntKind.wrap .u64 ((IntKind.wrap .u64 ((p1.fdiv (2 ^ 32)) * (bAnd .u64 p2 4294967295))) + ((IntKind.wrap .u64 ((bAnd .u64 p1 4294967295) * (bAnd .u64 p2 4294967295))).fdiv (2 ^ 32)))) 4294967295) + (IntKind.wrap .u64 ((bAnd .u64 p1 4294967295) * (p2.fdiv (2 ^ 32)))))).fdiv (2 ^ 32)))))]), (false, [.d (.int .u64 (IntKind.wrap .u64 (p1 * p2)))])]), [])
theorem T_math_bits_Mul64_ok (k : Nat) (p1 : Int) (p2 : Int) (r : Unit) : T_math_bits_Mul64 k p1 p2 = some r → C_T_math_bits_Mul64 k p1 p2 r := by
 intro H
 cases k with
 | zero => simp [T_math_bits_Mul64] at H
 | succ k =>
  simp only [T_math_bits_Mul64] at H
  refine F_in X_math_bits_Mul64 rfl ?_
  refine K_seq (K_r [] [] (by kernel_rfl) trivial ?_)
  refine K_seq (K_r [] [] (by kernel_rfl) trivial ?_)
  refine K_seq (K_r [] [(0 : Int) ≤ 32] (by kernel_rfl) (A1 (by decide)) ?_)
  refine K_seq (K_r [] [] (by kernel_rfl) trivial ?_)
  refine K_seq (K_r [] [(0 : Int) ≤ 32] (by kernel_rfl) (A1 (by decide)) ?_)
  refine K_seq (K_r [] [] (by kernel_rfl) trivial ?_)
  refine K_seq (K_r [] [(0 : Int) ≤ 32] (by kernel_rfl) (A1 (by decide)) ?_)
  refine K_seq (K_r [] [] (by kernel_rfl) trivial ?_)
  refine K_seq (K_r [] [(0 : Int) ≤ 32] (by kernel_rfl) (A1 (by decide)) ?_)
  refine K_seq (K_r [] [] (by kernel_rfl) trivial ?_)
  refine K_seq (K_r [] [(0 : Int) ≤ 32] (by kernel_rfl) (A1 (by decide)) ?_)
  refine K_seq (K_r [] [] (by kernel_rfl) trivial ?_)
  refine K_g (by kernel_rfl) ?_
  cases H
  refine K_ret ?_
  kernel_rfl
def T_ratio_Cmp (k : Nat) (p1 : Int) (p2 : Int) (p3 : Int) (p4 : Int) : Option Int := match k with
 | 0 => none
 | k + 1 => ((((T_ratio_Valid k p1 p2).bind fun x1 => (if (!x1) = true then some true else ((T_ratio_Valid k p3 p4).bind fun x4 => some (!x4))))).bind fun x5 => (if x5 = true then some 0 else ((T_math_bits_Mul64 k (IntKind.wrap .u64 (p1)) (IntKind.wrap .u64 (p4))).bind fun x7 => (T_math_bits_Mul64 k (IntKind.wrap .u64 (p3)) (IntKind.wrap .u64 (p2))).bind fun x8 => (if (decide ((IntKind.wrap .u64 ((IntKind.wrap .u64 ((IntKind.wrap .u64 (((IntKind.wrap .u64 (p1)).fdiv (2 ^ 32)) * ((IntKind.wrap .u64 (p4)).fdiv (2 ^ 32)))) + ((IntKind.wrap .u64 ((IntKind.wrap .u64 (((IntKind.wrap .u64 (p1)).fdiv (2 ^ 32)) * (bAnd .u64 (IntKind.wrap .u64 (p4)) 4294967295))) + ((IntKind.wrap .u64 ((bAnd .u64 (IntKind.wrap .u64 (p1)) 4294967295) * (bAnd .u64 (IntKind.wrap .u64 (p4)) 4294967295))).fdiv (2 ^ 32)))).fdiv (2 ^ 32)))) + ((IntKind.wrap .u64 ((bAnd .u64 (IntKind.wrap .u64 ((IntKind.wrap .u64 (((IntKind.wrap .u64 (p1)).fdiv (2 ^ 32)) * (bAnd .u64 (IntKind.wrap .u64 (p4)) 4294967295))) + ((IntKind.wrap .u64 ((bAnd .u64 (IntKind.wrap .u64 (p1)) 4294967295) * (bAnd .u64 (IntKind.wrap .u64 (p4)) 4294967295))).fdiv (2 ^ 32)))) 4294967295) + (IntKind.wrap .u64 ((bAnd .u64 (IntKind.wrap .u64 (p1)) 4294967295) * ((IntKind.wrap .u64 (p4)).fdiv (2 ^ 32)))))).fdiv (2 ^ 32)))) < (IntKind.wrap .u64 ((IntKind.wrap .u64 ((IntKind.wrap .u64 (((IntKind.wrap .u64 (p3)).fdiv (2 ^ 32)) * ((IntKind.wrap .u64 (p2)).fdiv (2 ^ 32)))) + ((IntKind.wrap .u64 ((IntKind.wrap .u64 (((IntKind.wrap .u64 (p3)).fdiv (2 ^ 32)) * (bAnd .u64 (IntKind.wrap .u64 (p2)) 4294967295))) + ((IntKind.wrap .u64 ((bAnd .u64 (IntKind.wrap .u64 (p3)) 4294967295) * (bAnd .u64 (IntKind.wrap .u64 (p2)) 4294967295))).fdiv (2 ^ 32)))).fdiv (2 ^ 32)))) + ((IntKind.wrap .u64 ((bAnd .u64 (IntKind.wrap .u64 ((IntKind.wrap .u64 (((IntKind.wrap .u64 (p3)).fdiv (2 ^ 32)) * (bAnd .u64 (IntKind.wrap .u64 (p2)) 4294967295))) + ((IntKind.wrap .u64 ((bAnd .u64 (IntKind.wrap .u64 (p3)) 4294967295) * (bAnd .u64 (IntKind.wrap .u64 (p2)) 4294967295))).fdiv (2 ^ 32)))) 4294967295) + (IntKind.wrap .u64 ((bAnd .u64 (IntKind.wrap .u64 (p3)) 4294967295) * ((IntKind.wrap .u64 (p2)).fdiv (2 ^ 32)))))).fdiv (2 ^ 32))))) || (decide ((IntKind.wrap .u64 ((IntKind.wrap .u64 ((IntKind.wrap .u64 (((IntKind.wrap .u64 (p1)).fdiv (2 ^ 32)) * ((IntKind.wrap .u64 (p4)).fdiv (2 ^ 32)))) + ((IntKind.wrap .u64 ((IntKind.wrap .u64 (((IntKind.wrap .u64 (p1)).fdiv (2 ^ 32)) * (bAnd .u64 (IntKind.wrap .u64 (p4)) 4294967295))) + ((IntKind.wrap .u64 ((bAnd .u64 (IntKind.wrap .u64 (p1)) 4294967295) * (bAnd .u64 (IntKind.wrap .u64 (p4)) 4294967295))).fdiv (2 ^ 32)))).fdiv (2 ^ 32)))) + ((IntKind.wrap .u64 ((bAnd .u64 (IntKind.wrap .u64 ((IntKind.wrap .u64 (((IntKind.wrap .u64 (p1)).fdiv (2 ^ 32)) * (bAnd .u64 (IntKind.wrap .u64 (p4)) 4294967295))) + ((IntKind.wrap .u64 ((bAnd .u64 (IntKind.wrap .u64 (p1)) 4294967295) * (bAnd .u64 (IntKind.wrap .u64 (p4)) 4294967295))).fdiv (2 ^ 32)))) 4294967295) + (IntKind.wrap .u64 ((bAnd .u64 (IntKind.wrap .u64 (p1)) 4294967295) * ((IntKind.wrap .u64 (p4)).fdiv (2 ^ 32)))))).fdiv (2 ^ 32)))) = (IntKind.wrap .u64 ((IntKind.wrap .u64 ((IntKind.wrap .u64 (((IntKind.wrap .u64 (p3)).fdiv (2 ^ 32)) * ((IntKind.wrap .u64 (p2)).fdiv (2 ^ 32)))) + ((IntKind.wrap .u64 ((IntKind.wrap .u64 (((IntKind.wrap .u64 (p3)).fdiv (2 ^ 32)) * (bAnd .u64 (IntKind.wrap .u64 (p2)) 4294967295))) + ((IntKind.wrap .u64 ((bAnd .u64 (IntKind.wrap .u64 (p3)) 4294967295) * (bAnd .u64 (IntKind.wrap .u64 (p2)) 4294967295))).fdiv (2 ^ 32)))).fdiv (2 ^ 32)))) + ((IntKind.wrap .u64 ((bAnd .u64 (IntKind.wrap .u64 ((IntKind.wrap .u64 (((IntKind.wrap .u64 (p3)).fdiv (2 ^ 32)) * (bAnd .u64 (IntKind.wrap .u64 (p2)) 4294967295))) + ((IntKind.wrap .u64 ((bAnd .u64 (IntKind.wrap .u64 (p3)) 4294967295) * (bAnd .u64 (IntKind.wrap .u64 (p2)) 4294967295))).fdiv (2 ^ 32)))) 4294967295) + (IntKind.wrap .u64 ((bAnd .u64 (IntKind.wrap .u64 (p3)) 4294967295) * ((IntKind.wrap .u64 (p2)).fdiv (2 ^ 32)))))).fdiv (2 ^ 32))))) && decide ((IntKind.wrap .u64 ((IntKind.wrap .u64 (p1)) * (IntKind.wrap .u64 (p4)))) < (IntKind.wrap .u64 ((IntKind.wrap .u64 (p3)) * (IntKind.wrap .u64 (p2))))))) = true then some (-1) else (if (decide ((IntKind.wrap .u64 ((IntKind.wrap .u64 ((IntKind.wrap .u64 (((IntKind.wrap .u64 (p1)).fdiv (2 ^ 32)) * ((IntKind.wrap .u64 (p4)).fdiv (2 ^ 32)))) + ((IntKind.wrap .u64 ((IntKind.wrap .u64 (((IntKind.wrap .u64 (p1)).fdiv (2 ^ 32)) * (bAnd .u64 (IntKind.wrap .u64 (p4)) 4294967295))) + ((IntKind.wrap .u64 ((bAnd .u64 (IntKind.wrap .u64 (p1)) 4294967295) * (bAnd .u64 (IntKind.wrap .u64 (p4)) 4294967295))).fdiv (2 ^ 32)))).fdiv (2 ^ 32)))) + ((IntKind.wrap .u64 ((bAnd .u64 (IntKind.wrap .u64 ((IntKind.wrap .u64 (((IntKind.wrap .u64 (p1)).fdiv (2 ^ 32)) * (bAnd .u64 (IntKind.wrap .u64 (p4)) 4294967295))) + ((IntKind.wrap .u64 ((bAnd .u64 (IntKind.wrap .u64 (p1)) 4294967295) * (bAnd .u64 (IntKind.wrap .u64 (p4)) 4294967295))).fdiv (2 ^ 32)))) 4294967295) + (IntKind.wrap .u64 ((bAnd .u64 (IntKind.wrap .u64 (p1)) 4294967295) * ((IntKind.wrap .u64 (p4)).fdiv (2 ^ 32)))))).fdiv (2 ^ 32)))) = (IntKind.wrap .u64 ((IntKind.wrap .u64 ((IntKind.wrap .u64 (((IntKind.wrap .u64 (p3)).fdiv (2 ^ 32)) * ((IntKind.wrap .u64 (p2)).fdiv (2 ^ 32)))) + ((IntKind.wrap .u64 ((IntKind.wrap .u64 (((IntKind.wrap .u64 (p3)).fdiv (2 ^ 32)) * (bAnd .u64 (IntKind.wrap .u64 (p2)) 4294967295))) + ((IntKind.wrap .u64 ((bAnd .u64 (IntKind.wrap .u64 (p3)) 4294967295) * (bAnd .u64 (IntKind.wrap .u64 (p2)) 4294967295))).fdiv (2 ^ 32)))).fdiv (2 ^ 32)))) + ((IntKind.wrap .u64 ((bAnd .u64 (IntKind.wrap .u64 ((IntKind.wrap .u64 (((IntKind.wrap .u64 (p3)).fdiv (2 ^ 32)) * (bAnd .u64 (IntKind.wrap .u64 (p2)) 4294967295))) + ((IntKind.wrap .u64 ((bAnd .u64 (IntKind.wrap .u64 (p3)) 4294967295) * (bAnd .u64 (IntKind.wrap .u64 (p2)) 4294967295))).fdiv (2 ^ 32)))) 4294967295) + (IntKind.wrap .u64 ((bAnd .u64 (IntKind.wrap .u64 (p3)) 4294967295) * ((IntKind.wrap .u64 (p2)).fdiv (2 ^ 32)))))).fdiv (2 ^ 32))))) && decide ((IntKind.wrap .u64 ((IntKind.wrap .u64 (p1)) * (IntKind.wrap .u64 (p4)))) = (IntKind.wrap .u64 ((IntKind.wrap .u64 (p3)) * (IntKind.wrap .u64 (p2)))))) = true then some 0 else some 1)))))
abbrev C_T_ratio_Cmp (k : Nat) (p1 : Int) (p2 : Int) (p3 : Int) (p4 : Int) (r : Int) : Prop := evF X k n_ratio_Cmp [(.agg [cI p1, cI p2]), (.agg [cI p3, cI p4])] [] = some ((I r), [])
theorem T_ratio_Cmp_ok (k : Nat) (p1 : Int) (p2 : Int) (p3 : Int) (p4 : Int) (r : Int) : T_ratio_Cmp k p1 p2 p3 p4 = some r → C_T_ratio_Cmp k p1 p2 p3 p4 r := by
 intro H
 cases k with
 | zero => simp [T_ratio_Cmp] at H
 | succ k =>
  simp only [T_ratio_Cmp] at H
  refine F_in X_ratio_Cmp rfl ?_
  refine K_seq (K_r [] [] (by kernel_rfl) trivial ?_)
  refine K_seq ?_
  refine K_seq ?_
  obtain ⟨x5, hx5, H⟩ := bind_some' H
  refine K_of ⟨[(2, (Pt 0)), (3, (Pt 1)), (16, (B x5))], [.cells [cI p1, cI p2], .cells [cI p3, cI p4]]⟩ ?_ ?_
  · clear H; have H := hx5; clear hx5; refine K_in ?_
    obtain ⟨x1, hx1, H⟩ := bind_some' H
    rcases ite_some H with ⟨hx3, H⟩ | ⟨hx3, H⟩
    · refine K_r [.r (B x1) [], .b true] [C_T_ratio_Valid k p1 p2 x1, (!x1) = true] (by kernel_rfl) (AC (T_ratio_Valid_ok k p1 p2 x1 hx1) (A1 hx3)) ?_
      cases H
      exact K_end (by kernel_rfl)
    · obtain ⟨x4, hx4, H⟩ := bind_some' H
      refine K_r [.r (B x1) [], .b false, .r (B x4) []] [C_T_ratio_Valid k p1 p2 x1, (!x1) = false, C_T_ratio_Valid k p3 p4 x4] (by kernel_rfl) (AC (T_ratio_Valid_ok k p1 p2 x1 hx1) (AC (Bool.eq_false_iff.2 hx3) (A1 (T_ratio_Valid_ok k p3 p4 x4 hx4)))) ?_
      cases H
      exact K_end (by kernel_rfl)
  rcases ite_some H with ⟨hx6, H⟩ | ⟨hx6, H⟩
  · refine K_t (by kernel_rfl) hx6 ?_
    refine K_seq (K_r [] [] (by kernel_rfl) trivial ?_)
    refine K_g (by kernel_rfl) ?_
    cases H
    refine K_ret ?_
    kernel_rfl
  · refine K_f (by kernel_rfl) (Bool.eq_false_iff.2 hx6) ?_
    refine K_g (by kernel_rfl) ?_
    refine K_skip ?_
    refine K_seq ?_
    obtain ⟨x7, hx7, H⟩ := bind_some' H
    refine K_r [.r (.tup [(false, [.d (.int .u64 (IntKind.wrap .u64 ((IntKind.wrap .u64 ((IntKind.wrap .u64 (((IntKind.wrap .u64 (p1)).fdiv (2 ^ 32)) * ((IntKind.wrap .u64 (p4)).fdiv (2 ^ 32)))) + ((IntKind.wrap .u64 ((IntKind.wrap .u64 (((IntKind.wrap .u64 (p1)).fdiv (2 ^ 32)) * (bAnd .u64 (IntKind.wrap .u64 (p4)) 4294967295))) + ((IntKind.wrap .u64 ((bAnd .u64 (IntKind.wrap .u64 (p1)) 4294967295) * (bAnd .u64 (IntKind.wrap .u64 (p4)) 4294967295))).fdiv (2 ^ 32)))).fdiv (2 ^ 32)))) + ((IntKind.wrap .u64 ((bAnd .u64 (IntKind.wrap .u64 ((IntKind.wrap .u64 (((IntKind.wrap .u64 (p1)).fdiv (2 ^ 32)) * (bAnd .u64 (IntKind.wrap .u64 (p4)) 4294967295))) + ((IntKind.wrap .u64 ((bAnd .u64 (IntKind.wrap .u64 (p1)) 4294967295) * (bAnd .u64 (IntKind.wrap .u64 (p4)) 4294967295))).fdiv (2 ^ 32)))) 4294967295) + (IntKind.wrap .u64 ((bAnd .u64 (IntKind.wrap .u64 (p1)) 4294967295) * ((IntKind.wrap .u64 (p4)).fdiv (2 ^ 32)))))).fdiv (2 ^ 32)))))]), (false, [.d (.int .u64 (IntKind.wrap .u64 ((IntKind.wrap .u64 (p1)) * (IntKind.wrap .u64 (p4)))))])]) []] [C_T_math_bits_Mul64 k (IntKind.wrap .u64 (p1)) (IntKind.wrap .u64 (p4)) x7] (by kernel_rfl) (A1 (T_math_bits_Mul64_ok k (IntKind.wrap .u64 (p1)) (IntKind.wrap .u64 (p4)) x7 hx7)) ?_
    refine K_seq ?_
    obtain ⟨x8, hx8, H⟩ := bind_some' H
    refine K_r [.r (.tup [(false, [.d (.int .u64 (IntKind.wrap .u64 ((IntKind.wrap .u64 ((IntKind.wrap .u64 (((IntKind.wrap .u64 (p3)).fdiv (2 ^ 32)) * ((IntKind.wrap .u64 (p2)).fdiv (2 ^ 32)))) + ((IntKind.wrap .u64 ((IntKind.wrap .u64 (((IntKind.wrap .u64 (p3)).fdiv (2 ^ 32)) * (bAnd .u64 (IntKind.wrap .u64 (p2)) 4294967295))) + ((IntKind.wrap .u64 ((bAnd .u64 (IntKind.wrap .u64 (p3)) 4294967295) * (bAnd .u64 (IntKind.wrap .u64 (p2)) 4294967295))).fdiv (2 ^ 32)))).fdiv (2 ^ 32)))) + ((IntKind.wrap .u64 ((bAnd .u64 (IntKind.wrap .u64 ((IntKind.wrap .u64 (((IntKind.wrap .u64 (p3)).fdiv (2 ^ 32)) * (bAnd .u64 (IntKind.wrap .u64 (p2)) 4294967295))) + ((IntKind.wrap .u64 ((bAnd .u64 (IntKind.wrap .u64 (p3)) 4294967295) * (bAnd .u64 (IntKind.wrap .u64 (p2)) 4294967295))).fdiv (2 ^ 32)))) 4294967295) + (IntKind.wrap .u64 ((bAnd .u64 (IntKind.wrap .u64 (p3)) 4294967295) * ((IntKind.wrap .u64 (p2)).fdiv (2 ^ 32)))))).fdiv (2 ^ 32)))))]), (false, [.d (.int .u64 (IntKind.wrap .u64 ((IntKind.wrap .u64 (p3)) * (IntKind.wrap .u64 (p2)))))])]) []] [C_T_math_bits_Mul64 k (IntKind.wrap .u64 (p3)) (IntKind.wrap .u64 (p2)) x8] (by kernel_rfl) (A1 (T_math_bits_Mul64_ok k (IntKind.wrap .u64 (p3)) (IntKind.wrap .u64 (p2)) x8 hx8)) ?_
    refine K_seq (K_block (K_seq (K_r [.m, .m] [decide ((IntKind.wrap .u64 ((IntKind.wrap .u64 ((IntKind.wrap .u64 (((IntKind.wrap .u64 (p1)).fdiv (2 ^ 32)) * ((IntKind.wrap .u64 (p4)).fdiv (2 ^ 32)))) + ((IntKind.wrap .u64 ((IntKind.wrap .u64 (((IntKind.wrap .u64 (p1)).fdiv (2 ^ 32)) * (bAnd .u64 (IntKind.wrap .u64 (p4)) 4294967295))) + ((IntKind.wrap .u64 ((bAnd .u64 (IntKind.wrap .u64 (p1)) 4294967295) * (bAnd .u64 (IntKind.wrap .u64 (p4)) 4294967295))).fdiv (2 ^ 32)))).fdiv (2 ^ 32)))) + ((IntKind.wrap .u64 ((bAnd .u64 (IntKind.wrap .u64 ((IntKind.wrap .u64 (((IntKind.wrap .u64 (p1)).fdiv (2 ^ 32)) * (bAnd .u64 (IntKind.wrap .u64 (p4)) 4294967295))) + ((IntKind.wrap .u64 ((bAnd .u64 (IntKind.wrap .u64 (p1)) 4294967295) * (bAnd .u64 (IntKind.wrap .u64 (p4)) 4294967295))).fdiv (2 ^ 32)))) 4294967295) + (IntKind.wrap .u64 ((bAnd .u64 (IntKind.wrap .u64 (p1)) 4294967295) * ((IntKind.wrap .u64 (p4)).fdiv (2 ^ 32)))))).fdiv (2 ^ 32)))) < (IntKind.wrap .u64 ((IntKind.wrap .u64 ((IntKind.wrap .u64 (((IntKind.wrap .u64 (p3)).fdiv (2 ^ 32)) * ((IntKind.wrap .u64 (p2)).fdiv (2 ^ 32)))) + ((IntKind.wrap .u64 ((IntKind.wrap .u64 (((IntKind.wrap .u64 (p3)).fdiv (2 ^ 32)) * (bAnd .u64 (IntKind.wrap .u64 (p2)) 4294967295))) + ((IntKind.wrap .u64 ((bAnd .u64 (IntKind.wrap .u64 (p3)) 4294967295) * (bAnd .u64 (IntKind.wrap .u64 (p2)) 4294967295))).fdiv (2 ^ 32)))).fdiv (2 ^ 32)))) + ((IntKind.wrap .u64 ((bAnd .u64 (IntKind.wrap .u64 ((IntKind.wrap .u64 (((IntKind.wrap .u64 (p3)).fdiv (2 ^ 32)) * (bAnd .u64 (IntKind.wrap .u64 (p2)) 4294967295))) + ((IntKind.wrap .u64 ((bAnd .u64 (IntKind.wrap .u64 (p3)) 4294967295) * (bAnd .u64 (IntKind.wrap .u64 (p2)) 4294967295))).fdiv (2 ^ 32)))) 4294967295) + (IntKind.wrap .u64 ((bAnd .u64 (IntKind.wrap .u64 (p3)) 4294967295) * ((IntKind.wrap .u64 (p2)).fdiv (2 ^ 32)))))).fdiv (2 ^ 32))))) = false → AllT [([] : Heap) = []], ([] : Heap) = []] (by kernel_rfl) (AC (fun _ => (A1 rfl)) (A1 rfl)) ?_)))
    rcases ite_some H with ⟨hx9, H⟩ | ⟨hx9, H⟩
    · refine K_t (by kernel_rfl) hx9 ?_
      refine K_seq (K_r [] [] (by kernel_rfl) trivial ?_)
      refine K_g (by kernel_rfl) ?_
      cases H
      refine K_ret ?_
      kernel_rfl
    · refine K_f (by kernel_rfl) (Bool.eq_false_iff.2 hx9) ?_
      refine K_seq (K_r [.m] [([] : Heap) = []] (by kernel_rfl) (A1 rfl) ?_)
      rcases ite_some H with ⟨hx10, H⟩ | ⟨hx10, H⟩
      · refine K_t (by kernel_rfl) hx10 ?_
        refine K_seq (K_r [] [] (by kernel_rfl) trivial ?_)
        refine K_g (by kernel_rfl) ?_
        cases H
        refine K_ret ?_
        kernel_rfl
      · refine K_f (by kernel_rfl) (Bool.eq_false_iff.2 hx10) ?_
        refine K_g (by kernel_rfl) ?_
        refine K_skip (K_blk (K_seq (K_r [] [] (by kernel_rfl) trivial ?_)))
        refine K_g (by kernel_rfl) ?_
        cases H
        refine K_ret ?_
        kernel_rfl
def T_ratio_Less (k : Nat) (p1 : Int) (p2 : Int) (p3 : Int) (p4 : Int) : Option Bool := match k with
 | 0 => none
 | k + 1 => ((T_ratio_Cmp k p1 p2 p3 p4).bind fun x1 => some (decide (x1 < 0)))
abbrev C_T_ratio_Less (k : Nat) (p1 : Int) (p2 : Int) (p3 : Int) (p4 : Int) (r : Bool) : Prop := evF X k n_ratio_Less [(.agg [cI p1, cI p2]), (.agg [cI p3, cI p4])] [] = some ((B r), [])
theorem T_ratio_Less_ok (k : Nat) (p1 : Int) (p2 : Int) (p3 : Int) (p4 : Int) (r : Bool) : T_ratio_Less k p1 p2 p3 p4 = some r → C_T_ratio_Less k p1 p2 p3 p4 r := by
 intro H
 cases k with
 | zero => simp [T_ratio_Less] at H
 | succ k =>
  simp only [T_ratio_Less] at H
  refine F_in X_ratio_Less rfl ?_
  refine K_seq (K_r [] [] (by kernel_rfl) trivial ?_)
  refine K_seq ?_
  obtain ⟨x1, hx1, H⟩ := bind_some' H
  refine K_r [.r (I x1) []] [C_T_ratio_Cmp k p1 p2 p3 p4 x1] (by kernel_rfl) (A1 (T_ratio_Cmp_ok k p1 p2 p3 p4 x1 hx1)) ?_
  refine K_g (by kernel_rfl) ?_
  cases H
  refine K_ret ?_
  kernel_rfl
def T_cmp_isNaN_557a (k : Nat) (p1 : Int) : Option Unit := match k with
 | 0 => none
 | k + 1 => some ()
abbrev C_T_cmp_isNaN_557a (k : Nat) (p1 : Int) (r : Unit) : Prop := evF X k n_cmp_isNaN_557a [(I p1)] [] = some ((B (!decide (p1 = p1))), [])
theorem T_cmp_isNaN_557a_ok (k : Nat) (p1 : Int) (r : Unit) : T_cmp_isNaN_557a k p1 = some r → C_T_cmp_isNaN_557a k p1 r := by
 intro H
 cases k with
 | zero => simp [T_cmp_isNaN_557a] at H
 | succ k =>
  simp only [T_cmp_isNaN_557a] at H
  refine F_in X_cmp_isNaN_557a rfl ?_
  refine K_seq (K_r [] [] (by kernel_rfl) trivial ?_)
  refine K_seq (K_r [] [] (by kernel_rfl) trivial ?_)
  refine K_g (by kernel_rfl) ?_
  cases H
  refine K_ret ?_
  kernel_rfl
def T_cmp_Compare_557a (k : Nat) (p1 : Int) (p2 : Int) : Option Int := match k with
 | 0 => none
 | k + 1 => ((T_cmp_isNaN_557a k p1).bind fun x1 => (T_cmp_isNaN_557a k p2).bind fun x2 => (if (!decide (p1 = p1)) = true then (if (!decide (p2 = p2)) = true then some 0 else some (-1)) else (if (!decide (p2 = p2)) = true then some 1 else (if p1 < p2 then some (-1) else (if p2 < p1 then some 1 else some 0)))))
abbrev C_T_cmp_Compare_557a (k : Nat) (p1 : Int) (p2 : Int) (r : Int) : Prop := evF X k n_cmp_Compare_557a [(I p1), (I p2)] [] = some ((I r), [])
theorem T_cmp_Compare_557a_ok (k : Nat) (p1 : Int) (p2 : Int) (r : Int) : T_cmp_Compare_557a k p1 p2 = some r → C_T_cmp_Compare_557a k p1 p2 r := by
 intro H
 cases k with
 | zero => simp [T_cmp_Compare_557a] at H
 | succ k =>
  rw [T_cmp_Compare_557a] at H
  refine F_in X_cmp_Compare_557a rfl ?_
  refine K_seq (K_r [] [] (by kernel_rfl) trivial ?_)
  refine K_seq ?_
  obtain ⟨x1, hx1, H⟩ := bind_some' H
  refine K_r [.r (B (!decide (p1 = p1))) []] [C_T_cmp_isNaN_557a k p1 x1] (by kernel_rfl) (A1 (T_cmp_isNaN_557a_ok k p1 x1 hx1)) ?_
  refine K_seq ?_
  obtain ⟨x2, hx2, H⟩ := bind_some' H
  refine K_r [.r (B (!decide (p2 = p2))) []] [C_T_cmp_isNaN_557a k p2 x2] (by kernel_rfl) (A1 (T_cmp_isNaN_557a_ok k p2 x2 hx2)) ?_
  refine K_seq (K_seq (K_r [] [] (by kernel_rfl) trivial ?_))
  rcases ite_some H with ⟨hx3, H⟩ | ⟨hx3, H⟩
  · refine K_t (by kernel_rfl) hx3 ?_
    refine K_seq (K_seq (K_r [] [] (by kernel_rfl) trivial ?_))
    rcases ite_some H with ⟨hx4, H⟩ | ⟨hx4, H⟩
    · refine K_t (by kernel_rfl) hx4 ?_
      refine K_seq (K_r [] [] (by kernel_rfl) trivial ?_)
      refine K_g (by kernel_rfl) ?_
      cases H
      refine K_ret ?_
      kernel_rfl
    · refine K_f (by kernel_rfl) (Bool.eq_false_iff.2 hx4) ?_
      refine K_g (by kernel_rfl) ?_
      refine K_skip (K_seq (K_r [] [] (by kernel_rfl) trivial ?_))
      refine K_g (by kernel_rfl) ?_
      cases H
      refine K_ret ?_
      kernel_rfl
  · refine K_f (by kernel_rfl) (Bool.eq_false_iff.2 hx3) ?_
    refine K_g (by kernel_rfl) ?_
    refine K_skip (K_seq (K_seq (K_r [] [] (by kernel_rfl) trivial ?_)))
    rcases ite_some H with ⟨hx5, H⟩ | ⟨hx5, H⟩
    · refine K_t (by kernel_rfl) hx5 ?_
      refine K_seq (K_r [] [] (by kernel_rfl) trivial ?_)
      refine K_g (by kernel_rfl) ?_
      cases H
      refine K_ret ?_
      kernel_rfl
    · refine K_f (by kernel_rfl) (Bool.eq_false_iff.2 hx5) ?_
      refine K_g (by kernel_rfl) ?_
      refine K_skip (K_seq (K_seq (K_r [] [] (by kernel_rfl) trivial ?_)))
      rcases ite_some H with ⟨hx6, H⟩ | ⟨hx6, H⟩
      · refine K_t (by kernel_rfl) (decide_eq_true hx6) ?_
        refine K_seq (K_r [] [] (by kernel_rfl) trivial ?_)
        refine K_g (by kernel_rfl) ?_
        cases H
        refine K_ret ?_
        kernel_rfl
      · refine K_f (by kernel_rfl) (decide_eq_false hx6) ?_
        refine K_g (by kernel_rfl) ?_
        refine K_skip (K_seq (K_seq (K_r [] [] (by kernel_rfl) trivial ?_)))
        rcases ite_some H with ⟨hx7, H⟩ | ⟨hx7, H⟩
        · refine K_t (by kernel_rfl) (decide_eq_true hx7) ?_
          refine K_seq (K_r [] [] (by kernel_rfl) trivial ?_)
          refine K_g (by kernel_rfl) ?_
          cases H
          refine K_ret ?_
          kernel_rfl
        · refine K_f (by kernel_rfl) (decide_eq_false hx7) ?_
          refine K_g (by kernel_rfl) ?_
          refine K_skip (K_seq (K_r [] [] (by kernel_rfl) trivial ?_))
          refine K_g (by kernel_rfl) ?_
          cases H
          refine K_ret ?_
          kernel_rfl
def T_cmp_Or_557a_l1 (k : Nat) (p1 : List Int) (x3 : Int) (x8 : Int) : Option (Int ⊕ (Unit ⊕ Int)) :=
 (if x8 < x3 then ((at? p1 x8).bind fun x10 => (if (!decide (x10 = 0)) = true then some (.inr (.inr x10)) else some (.inl (w64 (x8 + 1))))) else some (.inr (.inl ())))
theorem T_cmp_Or_557a_l1_ok (k : Nat) (p1 : List Int) (x3 : Int) : ∀ (x8 : Int) (x : Int ⊕ (Unit ⊕ Int)), T_cmp_Or_557a_l1 k p1 x3 x8 = some x → evC X (evF X k) k 0 l_cmp_Or_557a_1 ⟨[(3, (I 0)), (6, (LI p1)), (7, (I x3)), (8, (I x8))], []⟩ = some (outS (fun (s : Int) => ⟨[(3, (I 0)), (6, (LI p1)), (7, (I x3)), (8, (I s))], []⟩) (fun (r : Unit ⊕ Int) => Sum.elim (fun y => (.exit 0, ⟨[(3, (I 0))], []⟩)) (fun y => (.ret, ⟨[(2, (I y))], []⟩)) r) x) := by
 intro x8 x H
 unfold T_cmp_Or_557a_l1 at H
 refine K_in ?_
 refine K_seq (K_r [] [] (by kernel_rfl) trivial ?_)
 refine K_seq ?_
 rcases ite_some H with ⟨hx9, H⟩ | ⟨hx9, H⟩
 · refine K_t (by kernel_rfl) (decide_eq_true hx9) ?_
   refine K_g (by kernel_rfl) ?_
   refine K_skip ?_
   refine K_seq ?_
   refine K_block ?_
   refine K_seq ?_
   obtain ⟨x10, hx10, H⟩ := bind_some' H
   refine K_r [.l [.int .i64 x10]] [(0 : Int) ≤ x8 ∧ x8 < (((p1.map (D.int .i64))).length : Int), ((p1.map (D.int .i64)).getD x8.toNat (.int .i64 0)).cells = [.int .i64 x10]] (by kernel_rfl) (AC (at_ok hx10 (D.int .i64) (.int .i64 0)).1 (A1 (at_ok hx10 (D.int .i64) (.int .i64 0)).2)) ?_
   refine K_seq (K_r [] [] (by kernel_rfl) trivial ?_)
   rcases ite_some H with ⟨hx11, H⟩ | ⟨hx11, H⟩
   · refine K_t (by kernel_rfl) hx11 ?_
     refine K_seq (K_r [] [] (by kernel_rfl) trivial ?_)
     refine K_g (by kernel_rfl) ?_
     cases H
     exact K_ret (by kernel_rfl)
   · refine K_f (by kernel_rfl) (Bool.eq_false_iff.2 hx11) ?_
     refine K_g (by kernel_rfl) ?_
     refine K_skip (K_blk (K_r [] [] (by kernel_rfl) trivial ?_))
     cases H
     exact K_end (by kernel_rfl)
 · refine K_f (by kernel_rfl) (decide_eq_false hx9) ?_
   refine K_g (by kernel_rfl) ?_
   cases H
   exact K_exit0 rfl (by kernel_rfl)
def T_cmp_Or_557a (k : Nat) (p1 : List Int) : Option Int := match k with
 | 0 => none
 | k + 1 => ((loopT (T_cmp_Or_557a_l1 k p1 (p1.length : Int)) k 0).bind fun x12 => (match x12 with | .inl x13 => some 0 | .inr x14 => some x14))
abbrev C_T_cmp_Or_557a (k : Nat) (p1 : List Int) (r : Int) : Prop := evF X k n_cmp_Or_557a [(LI p1)] [] = some ((I r), [])
theorem T_cmp_Or_557a_ok (k : Nat) (p1 : List Int) (r : Int) : T_cmp_Or_557a k p1 = some r → C_T_cmp_Or_557a k p1 r := by
 intro H
 cases k with
 | zero => simp [T_cmp_Or_557a] at H
 | succ k =>
  simp only [T_cmp_Or_557a] at H
  refine F_in X_cmp_Or_557a rfl ?_
  refine K_seq (K_r [] [] (by kernel_rfl) trivial ?_)
  refine K_seq (K_r [] [] (by kernel_rfl) trivial ?_)
  refine K_seq (K_seq (K_r [.n p1.length] [((p1.map (D.int .i64))).length = p1.length] (by kernel_rfl) (A1 (List.length_map _)) ?_))
  refine K_block (K_conv (σ' := ⟨[(3, (I 0)), (6, (LI p1)), (7, (I (p1.length : Int))), (8, (I 0))], []⟩) (by kernel_rfl) ?_)
  obtain ⟨x12, hx12, H⟩ := bind_some' H
  cases x12 with
  | inl x13 =>
   dsimp only at H
   refine K_loop ⟨[(3, (I 0))], []⟩ (loop_ok (fun (s : Int) => ⟨[(3, (I 0)), (6, (LI p1)), (7, (I (p1.length : Int))), (8, (I s))], []⟩) (fun (r : Unit ⊕ Int) => Sum.elim (fun y => (.exit 0, ⟨[(3, (I 0))], []⟩)) (fun y => (.ret, ⟨[(2, (I y))], []⟩)) r) (fun r h => by cases r <;> cases h) (T_cmp_Or_557a_l1_ok k p1 (p1.length : Int)) k 0 (.inl x13) hx12) rfl ?_
   refine K_seq (K_r [] [] (by kernel_rfl) trivial ?_)
   refine K_g (by kernel_rfl) ?_
   cases H
   refine K_ret ?_
   kernel_rfl
  | inr x14 =>
   dsimp only at H
   have H := Option.some.inj H; subst H
   refine K_loopr ⟨[(2, (I x14))], []⟩ (loop_ok (fun (s : Int) => ⟨[(3, (I 0)), (6, (LI p1)), (7, (I (p1.length : Int))), (8, (I s))], []⟩) (fun (r : Unit ⊕ Int) => Sum.elim (fun y => (.exit 0, ⟨[(3, (I 0))], []⟩)) (fun y => (.ret, ⟨[(2, (I y))], []⟩)) r) (fun r h => by cases r <;> cases h) (T_cmp_Or_557a_l1_ok k p1 (p1.length : Int)) k 0 (.inr x14) hx12) ?_
   kernel_rfl
def T_store_Compare (k : Nat) (p1 : Int) (p2 : Int) (p3 : Int) (p4 : Int) : Option Int := match k with
 | 0 => none
 | k + 1 => ((T_cmp_Compare_557a k p1 p3).bind fun x1 => (T_cmp_Compare_557a k p2 p4).bind fun x2 => (T_cmp_Or_557a k ([x1, x2] : List Int)).bind fun x3 => some x3)
abbrev C_T_store_Compare (k : Nat) (p1 : Int) (p2 : Int) (p3 : Int) (p4 : Int) (r : Int) : Prop := evF X k n_store_Compare [(.agg [cI p1, cI p2]), (.agg [cI p3, cI p4])] [] = some ((I r), [])
theorem T_store_Compare_ok (k : Nat) (p1 : Int) (p2 : Int) (p3 : Int) (p4 : Int) (r : Int) : T_store_Compare k p1 p2 p3 p4 = some r → C_T_store_Compare k p1 p2 p3 p4 r := by
 intro H
 cases k with
 | zero => simp [T_store_Compare] at H
 | succ k =>
  simp only [T_store_Compare] at H
  refine F_in X_store_Compare rfl ?_
  refine K_seq (K_r [] [] (by kernel_rfl) trivial ?_)
  refine K_seq ?_
  obtain ⟨x1, hx1, H⟩ := bind_some' H
  obtain ⟨x2, hx2, H⟩ := bind_some' H
  obtain ⟨x3, hx3, H⟩ := bind_some' H
  refine K_r [.r (I x1) [], .r (I x2) [], .r (I x3) []] [C_T_cmp_Compare_557a k p1 p3 x1, C_T_cmp_Compare_557a k p2 p4 x2, C_T_cmp_Or_557a k ([x1, x2] : List Int) x3] (by kernel_rfl) (AC (T_cmp_Compare_557a_ok k p1 p3 x1 hx1) (AC (T_cmp_Compare_557a_ok k p2 p4 x2 hx2) (A1 (T_cmp_Or_557a_ok k ([x1, x2] : List Int) x3 hx3)))) ?_
  refine K_g (by kernel_rfl) ?_
  cases H
  refine K_ret ?_
  kernel_rfl
def T_store_Before (k : Nat) (p1 : Int) (p2 : Int) (p3 : Int) (p4 : Int) (p5 : Int) (p6 : Int) (p7 : Int) (p8 : Int) : Option Bool := match k with
 | 0 => none
 | k + 1 => ((T_ratio_Less k p1 p2 p5 p6).bind fun x1 => (if x1 = true then some true else ((T_ratio_Less k p5 p6 p1 p2).bind fun x3 => (if x3 = true then some false else ((T_store_Compare k p3 p4 p7 p8).bind fun x5 => some (decide (x5 < 0)))))))
abbrev C_T_store_Before (k : Nat) (p1 : Int) (p2 : Int) (p3 : Int) (p4 : Int) (p5 : Int) (p6 : Int) (p7 : Int) (p8 : Int) (r : Bool) : Prop := evF X k n_store_Before [(.agg [cI p1, cI p2, cI p3, cI p4]), (.agg [cI p5, cI p6, cI p7, cI p8])] [] = some ((B r), [])
theorem T_store_Before_ok (k : Nat) (p1 : Int) (p2 : Int) (p3 : Int) (p4 : Int) (p5 : Int) (p6 : Int) (p7 : Int) (p8 : Int) (r : Bool) : T_store_Before k p1 p2 p3 p4 p5 p6 p7 p8 = some r → C_T_store_Before k p1 p2 p3 p4 p5 p6 p7 p8 r := by
 intro H
 cases k with
 | zero => simp [T_store_Before] at H
 | succ k =>
  simp only [T_store_Before] at H
  refine F_in X_store_Before rfl ?_
  refine K_seq (K_r [] [] (by kernel_rfl) trivial ?_)
  refine K_seq ?_
  refine K_block ?_
  refine K_seq ?_
  obtain ⟨x1, hx1, H⟩ := bind_some' H
  refine K_r [.r (B x1) []] [C_T_ratio_Less k p1 p2 p5 p6 x1] (by kernel_rfl) (A1 (T_ratio_Less_ok k p1 p2 p5 p6 x1 hx1)) ?_
  rcases ite_some H with ⟨hx2, H⟩ | ⟨hx2, H⟩
  · refine K_t (by kernel_rfl) hx2 ?_
    refine K_seq (K_r [] [] (by kernel_rfl) trivial ?_)
    refine K_g (by kernel_rfl) ?_
    cases H
    refine K_ret ?_
    kernel_rfl
  · refine K_f (by kernel_rfl) (Bool.eq_false_iff.2 hx2) ?_
    refine K_seq ?_
    obtain ⟨x3, hx3, H⟩ := bind_some' H
    refine K_r [.r (B x3) []] [C_T_ratio_Less k p5 p6 p1 p2 x3] (by kernel_rfl) (A1 (T_ratio_Less_ok k p5 p6 p1 p2 x3 hx3)) ?_
    rcases ite_some H with ⟨hx4, H⟩ | ⟨hx4, H⟩
    · refine K_t (by kernel_rfl) hx4 ?_
      refine K_seq (K_r [] [] (by kernel_rfl) trivial ?_)
      refine K_g (by kernel_rfl) ?_
      cases H
      refine K_ret ?_
      kernel_rfl
    · refine K_f (by kernel_rfl) (Bool.eq_false_iff.2 hx4) ?_
      refine K_g (by kernel_rfl) ?_
      refine K_skip ?_
      refine K_blk ?_
      refine K_seq ?_
      obtain ⟨x5, hx5, H⟩ := bind_some' H
      refine K_r [.r (I x5) []] [C_T_store_Compare k p3 p4 p7 p8 x5] (by kernel_rfl) (A1 (T_store_Compare_ok k p3 p4 p7 p8 x5 hx5)) ?_
      refine K_g (by kernel_rfl) ?_
      cases H
      refine K_ret ?_
      kernel_rfl
def T_ref01_order (k : Nat) (p1 : Int) (p2 : Int) (p3 : Int) (p4 : Int) : Option Int := match k with
 | 0 => none
 | k + 1 => (if p2 ≠ 0 then (if p4 ≠ 0 then (if (!decide ((w64 (p1.tdiv p2)) = (w64 (p3.tdiv p4)))) = true then (if (w64 (p1.tdiv p2)) < (w64 (p3.tdiv p4)) then some (-1) else some 1) else (if p2 ≠ 0 then (if p4 ≠ 0 then (if (decide ((p1.tmod p2) = 0) && decide ((p3.tmod p4) = 0)) = true then some 0 else (if (p1.tmod p2) = 0 then some (-1) else (if (p3.tmod p4) = 0 then some 1 else ((T_ref01_order k p4 (p3.tmod p4) p2 (p1.tmod p2)).bind fun x10 => some x10)))) else none) else none)) else none) else none)
abbrev C_T_ref01_order (k : Nat) (p1 : Int) (p2 : Int) (p3 : Int) (p4 : Int) (r : Int) : Prop := evF X k n_ref01_order [(I p1), (I p2), (I p3), (I p4)] [] = some ((I r), [])
theorem T_ref01_order_ok (k : Nat) (p1 : Int) (p2 : Int) (p3 : Int) (p4 : Int) (r : Int) : T_ref01_order k p1 p2 p3 p4 = some r → C_T_ref01_order k p1 p2 p3 p4 r := by
 intro H
 cases k with
 | zero => simp [T_ref01_order] at H
 | succ k =>
  simp only [T_ref01_order] at H
  refine F_in X_ref01_order rfl ?_
  refine K_seq (K_r [] [] (by kernel_rfl) trivial ?_)
  refine K_seq ?_
  obtain ⟨hx1, H⟩ := guard_some H
  obtain ⟨hx2, H⟩ := guard_some H
  refine K_r [] [p2 ≠ (0 : Int), p4 ≠ (0 : Int)] (by kernel_rfl) (AC hx1 (A1 hx2)) ?_
  refine K_seq (K_seq (K_r [] [] (by kernel_rfl) trivial ?_))
  rcases ite_some H with ⟨hx3, H⟩ | ⟨hx3, H⟩
  · refine K_t (by kernel_rfl) hx3 ?_
    refine K_seq (K_seq (K_r [] [] (by kernel_rfl) trivial ?_))
    rcases ite_some H with ⟨hx4, H⟩ | ⟨hx4, H⟩
    · refine K_t (by kernel_rfl) (decide_eq_true hx4) ?_
      refine K_seq (K_r [] [] (by kernel_rfl) trivial ?_)
      refine K_g (by kernel_rfl) ?_
      cases H
      refine K_ret ?_
      kernel_rfl
    · refine K_f (by kernel_rfl) (decide_eq_false hx4) ?_
      refine K_g (by kernel_rfl) ?_
      refine K_skip (K_seq (K_r [] [] (by kernel_rfl) trivial ?_))
      refine K_g (by kernel_rfl) ?_
      cases H
      refine K_ret ?_
      kernel_rfl
  · refine K_f (by kernel_rfl) (Bool.eq_false_iff.2 hx3) ?_
    refine K_g (by kernel_rfl) ?_
    refine K_skip ?_
    refine K_seq ?_
    obtain ⟨hx5, H⟩ := guard_some H
    obtain ⟨hx6, H⟩ := guard_some H
    refine K_r [] [p2 ≠ (0 : Int), p4 ≠ (0 : Int)] (by kernel_rfl) (AC hx5 (A1 hx6)) ?_
    refine K_seq (K_block (K_seq (K_r [.m] [([] : Heap) = []] (by kernel_rfl) (A1 rfl) ?_)))
    rcases ite_some H with ⟨hx7, H⟩ | ⟨hx7, H⟩
    · refine K_t (by kernel_rfl) hx7 ?_
      refine K_seq (K_r [] [] (by kernel_rfl) trivial ?_)
      refine K_g (by kernel_rfl) ?_
      cases H
      refine K_ret ?_
      kernel_rfl
    · refine K_f (by kernel_rfl) (Bool.eq_false_iff.2 hx7) ?_
      refine K_seq (K_r [] [] (by kernel_rfl) trivial ?_)
      rcases ite_some H with ⟨hx8, H⟩ | ⟨hx8, H⟩
      · refine K_t (by kernel_rfl) (decide_eq_true hx8) ?_
        refine K_seq (K_r [] [] (by kernel_rfl) trivial ?_)
        refine K_g (by kernel_rfl) ?_
        cases H
        refine K_ret ?_
        kernel_rfl
      · refine K_f (by kernel_rfl) (decide_eq_false hx8) ?_
        refine K_seq (K_r [] [] (by kernel_rfl) trivial ?_)
        rcases ite_some H with ⟨hx9, H⟩ | ⟨hx9, H⟩
        · refine K_t (by kernel_rfl) (decide_eq_true hx9) ?_
          refine K_seq (K_r [] [] (by kernel_rfl) trivial ?_)
          refine K_g (by kernel_rfl) ?_
          cases H
          refine K_ret ?_
          kernel_rfl
        · refine K_f (by kernel_rfl) (decide_eq_false hx9) ?_
          refine K_g (by kernel_rfl) ?_
          refine K_skip ?_
          refine K_blk ?_
          refine K_seq ?_
          obtain ⟨x10, hx10, H⟩ := bind_some' H
          refine K_r [.r (I x10) []] [C_T_ref01_order k p4 (p3.tmod p4) p2 (p1.tmod p2) x10] (by kernel_rfl) (A1 (T_ref01_order_ok k p4 (p3.tmod p4) p2 (p1.tmod p2) x10 hx10)) ?_
          refine K_g (by kernel_rfl) ?_
          cases H
          refine K_ret ?_
          kernel_rfl
def T_ref01_Cmp (k : Nat) (p1 : Int) (p2 : Int) (p3 : Int) (p4 : Int) : Option Int := match k with
 | 0 => none
 | k + 1 => ((((T_ref01_Valid k p1 p2).bind fun x1 => (if (!x1) = true then some true else ((T_ref01_Valid k p3 p4).bind fun x4 => some (!x4))))).bind fun x5 => (if x5 = true then some 0 else ((T_ref01_order k p1 p2 p3 p4).bind fun x7 => some x7)))
abbrev C_T_ref01_Cmp (k : Nat) (p1 : Int) (p2 : Int) (p3 : Int) (p4 : Int) (r : Int) : Prop := evF X k n_ref01_Cmp [(.agg [cI p1, cI p2]), (.agg [cI p3, cI p4])] [] = some ((I r), [])
theorem T_ref01_Cmp_ok (k : Nat) (p1 : Int) (p2 : Int) (p3 : Int) (p4 : Int) (r : Int) : T_ref01_Cmp k p1 p2 p3 p4 = some r → C_T_ref01_Cmp k p1 p2 p3 p4 r := by
 intro H
 cases k with
 | zero => simp [T_ref01_Cmp] at H
 | succ k =>
  simp only [T_ref01_Cmp] at H
  refine F_in X_ref01_Cmp rfl ?_
  refine K_seq (K_r [] [] (by kernel_rfl) trivial ?_)
  refine K_seq ?_
  refine K_seq ?_
  obtain ⟨x5, hx5, H⟩ := bind_some' H
  refine K_of ⟨[(2, (Pt 0)), (3, (Pt 1)), (12, (B x5))], [.cells [cI p1, cI p2], .cells [cI p3, cI p4]]⟩ ?_ ?_
  · clear H; have H := hx5; clear hx5; refine K_in ?_
    obtain ⟨x1, hx1, H⟩ := bind_some' H
    rcases ite_some H with ⟨hx3, H⟩ | ⟨hx3, H⟩
    · refine K_r [.r (B x1) [], .b true] [C_T_ref01_Valid k p1 p2 x1, (!x1) = true] (by kernel_rfl) (AC (T_ref01_Valid_ok k p1 p2 x1 hx1) (A1 hx3)) ?_
      cases H
      exact K_end (by kernel_rfl)
    · obtain ⟨x4, hx4, H⟩ := bind_some' H
      refine K_r [.r (B x1) [], .b false, .r (B x4) []] [C_T_ref01_Valid k p1 p2 x1, (!x1) = false, C_T_ref01_Valid k p3 p4 x4] (by kernel_rfl) (AC (T_ref01_Valid_ok k p1 p2 x1 hx1) (AC (Bool.eq_false_iff.2 hx3) (A1 (T_ref01_Valid_ok k p3 p4 x4 hx4)))) ?_
      cases H
      exact K_end (by kernel_rfl)
  rcases ite_some H with ⟨hx6, H⟩ | ⟨hx6, H⟩
  · refine K_t (by kernel_rfl) hx6 ?_
    refine K_seq (K_r [] [] (by kernel_rfl) trivial ?_)
    refine K_g (by kernel_rfl) ?_
    cases H
    refine K_ret ?_
    kernel_rfl
  · refine K_f (by kernel_rfl) (Bool.eq_false_iff.2 hx6) ?_
    refine K_g (by kernel_rfl) ?_
    refine K_skip ?_
    refine K_seq ?_
    obtain ⟨x7, hx7, H⟩ := bind_some' H
    refine K_r [.r (I x7) []] [C_T_ref01_order k p1 p2 p3 p4 x7] (by kernel_rfl) (A1 (T_ref01_order_ok k p1 p2 p3 p4 x7 hx7)) ?_
    refine K_g (by kernel_rfl) ?_
    cases H
    refine K_ret ?_
    kernel_rfl
def T_ref01_Less (k : Nat) (p1 : Int) (p2 : Int) (p3 : Int) (p4 : Int) : Option Bool := match k with
 | 0 => none
 | k + 1 => ((T_ref01_Cmp k p1 p2 p3 p4).bind fun x1 => some (decide (x1 < 0)))
abbrev C_T_ref01_Less (k : Nat) (p1 : Int) (p2 : Int) (p3 : Int) (p4 : Int) (r : Bool) : Prop := evF X k n_ref01_Less [(.agg [cI p1, cI p2]), (.agg [cI p3, cI p4])] [] = some ((B r), [])
theorem T_ref01_Less_ok (k : Nat) (p1 : Int) (p2 : Int) (p3 : Int) (p4 : Int) (r : Bool) : T_ref01_Less k p1 p2 p3 p4 = some r → C_T_ref01_Less k p1 p2 p3 p4 r := by
 intro H
 cases k with
 | zero => simp [T_ref01_Less] at H
 | succ k =>
  simp only [T_ref01_Less] at H
  refine F_in X_ref01_Less rfl ?_
  refine K_seq (K_r [] [] (by kernel_rfl) trivial ?_)
  refine K_seq ?_
  obtain ⟨x1, hx1, H⟩ := bind_some' H
  refine K_r [.r (I x1) []] [C_T_ref01_Cmp k p1 p2 p3 p4 x1] (by kernel_rfl) (A1 (T_ref01_Cmp_ok k p1 p2 p3 p4 x1 hx1)) ?_
  refine K_g (by kernel_rfl) ?_
  cases H
  refine K_ret ?_
  kernel_rfl
def T_ref23_Sooner (k : Nat) (p1 : Int) (p2 : Int) (p3 : Int) (p4 : Int) : Option Unit := match k with
 | 0 => none
 | k + 1 => some ()
abbrev C_T_ref23_Sooner (k : Nat) (p1 : Int) (p2 : Int) (p3 : Int) (p4 : Int) (r : Unit) : Prop := evF X k n_ref23_Sooner [(.agg [cI p1, cI p2]), (.agg [cI p3, cI p4])] [] = some ((B (decide (p1 < p3) || (decide (p1 = p3) && decide (p2 < p4)))), [])
theorem T_ref23_Sooner_ok (k : Nat) (p1 : Int) (p2 : Int) (p3 : Int) (p4 : Int) (r : Unit) : T_ref23_Sooner k p1 p2 p3 p4 = some r → C_T_ref23_Sooner k p1 p2 p3 p4 r := by
 intro H
 cases k with
 | zero => simp [T_ref23_Sooner] at H
 | succ k =>
  simp only [T_ref23_Sooner] at H
  refine F_in X_ref23_Sooner rfl ?_
  refine K_seq (K_r [] [] (by kernel_rfl) trivial ?_)
  refine K_seq (K_r [.m, .m] ((fun (z1 : Heap) => [decide (p1 < p3) = false → AllT [z1 = z1], z1 = z1]) [.cells [cI p1, cI p2], .cells [cI p3, cI p4]]) (by kernel_rfl) (AC (fun _ => (A1 rfl)) (A1 rfl)) ?_)
  refine K_g (by kernel_rfl) ?_
  cases H
  refine K_ret ?_
  kernel_rfl
def T_ref23_Before (k : Nat) (p1 : Int) (p2 : Int) (p3 : Int) (p4 : Int) (p5 : Int) (p6 : Int) (p7 : Int) (p8 : Int) : Option Bool := match k with
 | 0 => none
 | k + 1 => ((T_ref01_Less k p1 p2 p5 p6).bind fun x1 => (if x1 = true then some true else ((((T_ref01_Less k p5 p6 p1 p2).bind fun x3 => (if (!x3) = true then ((T_ref23_Sooner k p3 p4 p7 p8).bind fun x6 => some (decide (p3 < p7) || (decide (p3 = p7) && decide (p4 < p8)))) else some false))).bind fun x7 => some x7)))
abbrev C_T_ref23_Before (k : Nat) (p1 : Int) (p2 : Int) (p3 : Int) (p4 : Int) (p5 : Int) (p6 : Int) (p7 : Int) (p8 : Int) (r : Bool) : Prop := evF X k n_ref23_Before [(.agg [cI p1, cI p2, cI p3, cI p4]), (.agg [cI p5, cI p6, cI p7, cI p8])] [] = some ((B r), [])
theorem T_ref23_Before_ok (k : Nat) (p1 : Int) (p2 : Int) (p3 : Int) (p4 : Int) (p5 : Int) (p6 : Int) (p7 : Int) (p8 : Int) (r : Bool) : T_ref23_Before k p1 p2 p3 p4 p5 p6 p7 p8 = some r → C_T_ref23_Before k p1 p2 p3 p4 p5 p6 p7 p8 r := by
 intro H
 cases k with
 | zero => simp [T_ref23_Before] at H
 | succ k =>
  simp only [T_ref23_Before] at H
  refine F_in X_ref23_Before rfl ?_
  refine K_seq (K_r [] [] (by kernel_rfl) trivial ?_)
  refine K_seq ?_
  refine K_seq ?_
  obtain ⟨x1, hx1, H⟩ := bind_some' H
  refine K_r [.r (B x1) []] [C_T_ref01_Less k p1 p2 p5 p6 x1] (by kernel_rfl) (A1 (T_ref01_Less_ok k p1 p2 p5 p6 x1 hx1)) ?_
  rcases ite_some H with ⟨hx2, H⟩ | ⟨hx2, H⟩
  · refine K_t (by kernel_rfl) hx2 ?_
    refine K_seq (K_r [] [] (by kernel_rfl) trivial ?_)
    refine K_g (by kernel_rfl) ?_
    cases H
    refine K_ret ?_
    kernel_rfl
  · refine K_f (by kernel_rfl) (Bool.eq_false_iff.2 hx2) ?_
    refine K_g (by kernel_rfl) ?_
    refine K_skip ?_
    refine K_seq ?_
    obtain ⟨x7, hx7, H⟩ := bind_some' H
    refine K_of ⟨[(4, (B x7))], []⟩ ?_ ?_
    · clear H; have H := hx7; clear hx7; refine K_in ?_
      obtain ⟨x3, hx3, H⟩ := bind_some' H
      rcases ite_some H with ⟨hx5, H⟩ | ⟨hx5, H⟩
      · obtain ⟨x6, hx6, H⟩ := bind_some' H
        refine K_r [.r (B x3) [], .b true, .r (B (decide (p3 < p7) || (decide (p3 = p7) && decide (p4 < p8)))) []] [C_T_ref01_Less k p5 p6 p1 p2 x3, (!x3) = true, C_T_ref23_Sooner k p3 p4 p7 p8 x6] (by kernel_rfl) (AC (T_ref01_Less_ok k p5 p6 p1 p2 x3 hx3) (AC hx5 (A1 (T_ref23_Sooner_ok k p3 p4 p7 p8 x6 hx6)))) ?_
        cases H
        exact K_end (by kernel_rfl)
      · refine K_r [.r (B x3) [], .b false] [C_T_ref01_Less k p5 p6 p1 p2 x3, (!x3) = false] (by kernel_rfl) (AC (T_ref01_Less_ok k p5 p6 p1 p2 x3 hx3) (A1 (Bool.eq_false_iff.2 hx5))) ?_
        cases H
        exact K_end (by kernel_rfl)
    refine K_g (by kernel_rfl) ?_
    cases H
    refine K_ret ?_
    kernel_rfl
def T_law23_agree (k : Nat) (p1 : List (List Int)) (p2 : Int) (p3 : Int) (p4 : Int) (p5 : Int) (p6 : Int) (p7 : Int) (p8 : Int) (p9 : Int) (p10 : Int) (p11 : Int) (p12 : Int) : Option Bool := match k with
 | 0 => none
 | k + 1 => ((T_store_Places k p1 p4).bind fun x1 => (T_ref23_Places k p1 p4).bind fun x2 => (T_store_Window k p1 p2 p3 p4).bind fun x3 => (T_ref23_Window k p1 p2 p3 p4).bind fun x4 => ((if (decide (x1.2 = x2.2) && decide (x3.2 = x4.2)) = true then ((T_ref23_SamePlaces k x1.1 x2.1).bind fun x7 => (if x7 = true then ((T_ref23_SameInts k x3.1 x4.1).bind fun x10 => (if x10 = true then ((T_store_Check k p1).bind fun x14 => (T_ref23_Check k p1).bind fun x15 => (if x14 = x15 then ((T_store_Before k p5 p6 p7 p8 p9 p10 p11 p12).bind fun x19 => (T_ref23_Before k p5 p6 p7 p8 p9 p10 p11 p12).bind fun x20 => some ((x19 == x20) && true)) else some false)) else some false)) else some false)) else some false)).bind fun x21 => some x21)
abbrev C_T_law23_agree (k : Nat) (p1 : List (List Int)) (p2 : Int) (p3 : Int) (p4 : Int) (p5 : Int) (p6 : Int) (p7 : Int) (p8 : Int) (p9 : Int) (p10 : Int) (p11 : Int) (p12 : Int) (r : Bool) : Prop := evF X k n_law23_agree [(.agg [.d (.list (p1.map (el (D.int .i64))))]), (.agg [cI p2, cI p3]), (I p4), (.agg [cI p5, cI p6, cI p7, cI p8]), (.agg [cI p9, cI p10, cI p11, cI p12])] [] = some ((B r), [])
theorem T_law23_agree_ok (k : Nat) (p1 : List (List Int)) (p2 : Int) (p3 : Int) (p4 : Int) (p5 : Int) (p6 : Int) (p7 : Int) (p8 : Int) (p9 : Int) (p10 : Int) (p11 : Int) (p12 : Int) (r : Bool) : T_law23_agree k p1 p2 p3 p4 p5 p6 p7 p8 p9 p10 p11 p12 = some r → C_T_law23_agree k p1 p2 p3 p4 p5 p6 p7 p8 p9 p10 p11 p12 r := by
 intro H
 cases k with
 | zero => simp [T_law23_agree] at H
 | succ k =>
  simp only [T_law23_agree] at H
  refine F_in X_law23_agree rfl ?_
  refine K_seq (K_r [] [] (by kernel_rfl) trivial ?_)
  refine K_seq ?_
  obtain ⟨x1, hx1, H⟩ := bind_some' H
  refine K_r [.r (.tup [(false, [.d (.list (x1.1.map e_st0))]), (false, [cI x1.2])]) []] [C_T_store_Places k p1 p4 x1] (by kernel_rfl) (A1 (T_store_Places_ok k p1 p4 x1 hx1)) ?_
  refine K_seq ?_
  obtain ⟨x2, hx2, H⟩ := bind_some' H
  refine K_r [.r (.tup [(false, [.d (.list (x2.1.map e_st0))]), (false, [cI x2.2])]) []] [C_T_ref23_Places k p1 p4 x2] (by kernel_rfl) (A1 (T_ref23_Places_ok k p1 p4 x2 hx2)) ?_
  refine K_seq ?_
  obtain ⟨x3, hx3, H⟩ := bind_some' H
  refine K_r [.r (.tup [(false, [cL x3.1]), (false, [cI x3.2])]) []] [C_T_store_Window k p1 p2 p3 p4 x3] (by kernel_rfl) (A1 (T_store_Window_ok k p1 p2 p3 p4 x3 hx3)) ?_
  refine K_seq ?_
  obtain ⟨x4, hx4, H⟩ := bind_some' H
  refine K_r [.r (.tup [(false, [cL x4.1]), (false, [cI x4.2])]) []] [C_T_ref23_Window k p1 p2 p3 p4 x4] (by kernel_rfl) (A1 (T_ref23_Window_ok k p1 p2 p3 p4 x4 hx4)) ?_
  refine K_seq ?_
  obtain ⟨x21, hx21, H⟩ := bind_some' H
  refine K_of ⟨[(10, (B x21))], []⟩ ?_ ?_
  · clear H; have H := hx21; clear hx21; refine K_in ?_
    rcases ite_some H with ⟨hx6, H⟩ | ⟨hx6, H⟩
    · obtain ⟨x7, hx7, H⟩ := bind_some' H
      rcases ite_some H with ⟨hx9, H⟩ | ⟨hx9, H⟩
      · obtain ⟨x10, hx10, H⟩ := bind_some' H
        rcases ite_some H with ⟨hx13, H⟩ | ⟨hx13, H⟩
        · obtain ⟨x14, hx14, H⟩ := bind_some' H
          obtain ⟨x15, hx15, H⟩ := bind_some' H
          rcases ite_some H with ⟨hx18, H⟩ | ⟨hx18, H⟩
          · obtain ⟨x19, hx19, H⟩ := bind_some' H
            obtain ⟨x20, hx20, H⟩ := bind_some' H
            refine K_r [.m, .b true, .r (B x7) [], .b true, .r (B x10) [], .b true, .r (I x14) [], .r (I x15) [], .b true, .r (B x19) [], .r (B x20) []] ((fun (z1 : Heap) => [z1 = z1, (decide (x1.2 = x2.2) && decide (x3.2 = x4.2)) = true, C_T_ref23_SamePlaces k x1.1 x2.1 x7, x7 = true, C_T_ref23_SameInts k x3.1 x4.1 x10, x10 = true, C_T_store_Check k p1 x14, C_T_ref23_Check k p1 x15, decide (x14 = x15) = true, C_T_store_Before k p5 p6 p7 p8 p9 p10 p11 p12 x19, C_T_ref23_Before k p5 p6 p7 p8 p9 p10 p11 p12 x20]) [.cells [.d (.list (p1.map (el (D.int .i64))))], .cells [cI p5, cI p6, cI p7, cI p8], .cells [cI p9, cI p10, cI p11, cI p12]]) (by kernel_rfl) (AC rfl (AC hx6 (AC (T_ref23_SamePlaces_ok k x1.1 x2.1 x7 hx7) (AC hx9 (AC (T_ref23_SameInts_ok k x3.1 x4.1 x10 hx10) (AC hx13 (AC (T_store_Check_ok k p1 x14 hx14) (AC (T_ref23_Check_ok k p1 x15 hx15) (AC (decide_eq_true hx18) (AC (T_store_Before_ok k p5 p6 p7 p8 p9 p10 p11 p12 x19 hx19) (A1 (T_ref23_Before_ok k p5 p6 p7 p8 p9 p10 p11 p12 x20 hx20)))))))))))) ?_
            cases H
            exact K_end (by kernel_rfl)
          · refine K_r [.m, .b true, .r (B x7) [], .b true, .r (B x10) [], .b true, .r (I x14) [], .r (I x15) [], .b false] ((fun (z1 : Heap) => [z1 = z1, (decide (x1.2 = x2.2) && decide (x3.2 = x4.2)) = true, C_T_ref23_SamePlaces k x1.1 x2.1 x7, x7 = true, C_T_ref23_SameInts k x3.1 x4.1 x10, x10 = true, C_T_store_Check k p1 x14, C_T_ref23_Check k p1 x15, decide (x14 = x15) = false]) [.cells [.d (.list (p1.map (el (D.int .i64))))], .cells [cI p5, cI p6, cI p7, cI p8], .cells [cI p9, cI p10, cI p11, cI p12]]) (by kernel_rfl) (AC rfl (AC hx6 (AC (T_ref23_SamePlaces_ok k x1.1 x2.1 x7 hx7) (AC hx9 (AC (T_ref23_SameInts_ok k x3.1 x4.1 x10 hx10) (AC hx13 (AC (T_store_Check_ok k p1 x14 hx14) (AC (T_ref23_Check_ok k p1 x15 hx15) (A1 (decide_eq_false hx18)))))))))) ?_
            cases H
            exact K_end (by kernel_rfl)
        · refine K_r [.m, .b true, .r (B x7) [], .b true, .r (B x10) [], .b false, .b false] ((fun (z1 : Heap) => [z1 = z1, (decide (x1.2 = x2.2) && decide (x3.2 = x4.2)) = true, C_T_ref23_SamePlaces k x1.1 x2.1 x7, x7 = true, C_T_ref23_SameInts k x3.1 x4.1 x10, x10 = false, false = false]) [.cells [.d (.list (p1.map (el (D.int .i64))))], .cells [cI p5, cI p6, cI p7, cI p8], .cells [cI p9, cI p10, cI p11, cI p12]]) (by kernel_rfl) (AC rfl (AC hx6 (AC (T_ref23_SamePlaces_ok k x1.1 x2.1 x7 hx7) (AC hx9 (AC (T_ref23_SameInts_ok k x3.1 x4.1 x10 hx10) (AC (Bool.eq_false_iff.2 hx13) (A1 rfl))))))) ?_
          cases H
          exact K_end (by kernel_rfl)
      · refine K_r [.m, .b true, .r (B x7) [], .b false, .b false, .b false] ((fun (z1 : Heap) => [z1 = z1, (decide (x1.2 = x2.2) && decide (x3.2 = x4.2)) = true, C_T_ref23_SamePlaces k x1.1 x2.1 x7, x7 = false, false = false, false = false]) [.cells [.d (.list (p1.map (el (D.int .i64))))], .cells [cI p5, cI p6, cI p7, cI p8], .cells [cI p9, cI p10, cI p11, cI p12]]) (by kernel_rfl) (AC rfl (AC hx6 (AC (T_ref23_SamePlaces_ok k x1.1 x2.1 x7 hx7) (AC (Bool.eq_false_iff.2 hx9) (AC rfl (A1 rfl)))))) ?_
        cases H
        exact K_end (by kernel_rfl)
    · refine K_r [.m, .b false, .b false, .b false, .b false] ((fun (z1 : Heap) => [z1 = z1, (decide (x1.2 = x2.2) && decide (x3.2 = x4.2)) = false, false = false, false = false, false = false]) [.cells [.d (.list (p1.map (el (D.int .i64))))], .cells [cI p5, cI p6, cI p7, cI p8], .cells [cI p9, cI p10, cI p11, cI p12]]) (by kernel_rfl) (AC rfl (AC (Bool.eq_false_iff.2 hx6) (AC rfl (AC rfl (A1 rfl))))) ?_
      cases H
      exact K_end (by kernel_rfl)
  refine K_g (by kernel_rfl) ?_
  cases H
  refine K_ret ?_
  kernel_rfl
def T_law23_StoreMade (k : Nat) (p1 : List Int) (p2 : Int) (p3 : Int) (p4 : Int) (p5 : Int) : Option Bool := match k with
 | 0 => none
 | k + 1 => ((T_shapesearchsecond_Few k p1).bind fun x1 => (if (!decide ((p1.length : Int) ≤ 400)) = true then ((T_law23_awake k).bind fun x3 => some x3) else (T_shapesearchsecond_New k p1).bind fun x4 => (T_shapesearchsecond_Deck_Store k 40 p1 0).bind fun x5 => (if (0 : Int) ≤ 0 ∧ 0 < ((x5.1 : Nat) : Int) then (x5.2.2[(0 + 0)]?).bind fun x7 => (T_shapesearchsecond_Mod k p2 4).bind fun x8 => ((if (decide (((w64 ((p2.tmod 4) + 4)).tmod 4) = 0) && decide (0 < ((x7.length : Nat) : Int))) = true then (T_shapesearchsecond_Mod k p3 ((x7.length : Nat) : Int)).bind fun x10 => (if (0 : Int) ≤ ((w64 ((p3.tmod ((x7.length : Nat) : Int)) + ((x7.length : Nat) : Int))).tmod ((x7.length : Nat) : Int)) ∧ ((w64 ((p3.tmod ((x7.length : Nat) : Int)) + ((x7.length : Nat) : Int))).tmod ((x7.length : Nat) : Int)) < ((x7.length : Nat) : Int) then some (x5.2.2.set (0 + 0) (x7.set (0 + ((w64 ((p3.tmod ((x7.length : Nat) : Int)) + ((x7.length : Nat) : Int))).tmod ((x7.length : Nat) : Int)).toNat) p3)) else none) else some (x5.2.2.set (0 + 0) x7))).bind fun x12 => (T_shapesearchsecond_Mod k p4 6).bind fun x13 => (T_shapesearchsecond_Mod k p5 45).bind fun x14 => (T_shapesearchsecond_Deck_Next k 5 p1 x5.2.1).bind fun x15 => (T_shapesearchsecond_Deck_Next k 3 p1 x15.2).bind fun x16 => (T_ref01_Make k x15.1 (w64 (1 + x16.1))).bind fun x17 => (T_shapesearchsecond_Deck_Next k 5 p1 x16.2).bind fun x18 => (T_shapesearchsecond_Deck_Next k 3 p1 x18.2).bind fun x19 => (T_ref01_Make k x18.1 (w64 (1 + x19.1))).bind fun x20 => (T_shapesearchsecond_Deck_Next k 2 p1 x19.2).bind fun x21 => (T_shapesearchsecond_Deck_Next k 2 p1 x21.2).bind fun x22 => (T_shapesearchsecond_Deck_Next k 2 p1 x22.2).bind fun x23 => (T_shapesearchsecond_Deck_Next k 2 p1 x23.2).bind fun x24 => (((T_shapesearchsecond_Mod k (w64 (p2.tdiv 4)) 8).bind fun x25 => (T_law23_agree k ((x12.drop 0).take x5.1) (w64 (((w64 ((p4.tmod 6) + 6)).tmod 6) - 1)) (w64 (((w64 ((p5.tmod 45) + 45)).tmod 45) - 2)) ((w64 (((w64 (p2.tdiv 4)).tmod 8) + 8)).tmod 8) x17.1 x17.2.1 x21.1 x22.1 x20.1 x20.2.1 x23.1 x24.1).bind fun x26 => (if x26 = true then ((T_law23_awake k).bind fun x29 => some x29) else some false))).bind fun x30 => some x30 else none)))
abbrev C_T_law23_StoreMade (k : Nat) (p1 : List Int) (p2 : Int) (p3 : Int) (p4 : Int) (p5 : Int) (r : Bool) : Prop := evF X k n_law23_StoreMade [(LI p1), (I p2), (I p3), (.agg [cI p4, cI p5])] [] = some ((B r), [])
theorem T_law23_StoreMade_ok (k : Nat) (p1 : List Int) (p2 : Int) (p3 : Int) (p4 : Int) (p5 : Int) (r : Bool) : T_law23_StoreMade k p1 p2 p3 p4 p5 = some r → C_T_law23_StoreMade k p1 p2 p3 p4 p5 r := by
 intro H
 cases k with
 | zero => simp [T_law23_StoreMade] at H
 | succ k =>
  simp only [T_law23_StoreMade] at H
  refine F_in X_law23_StoreMade rfl ?_
  refine K_seq (K_r [] [] (by kernel_rfl) trivial ?_)
  refine K_seq ?_
  refine K_seq ?_
  obtain ⟨x1, hx1, H⟩ := bind_some' H
  refine K_r [.r (B (decide ((p1.length : Int) ≤ 400))) []] [C_T_shapesearchsecond_Few k p1 x1] (by kernel_rfl) (A1 (T_shapesearchsecond_Few_ok k p1 x1 hx1)) ?_
  rcases ite_some H with ⟨hx2, H⟩ | ⟨hx2, H⟩
  · refine K_t (by kernel_rfl) hx2 ?_
    refine K_seq ?_
    obtain ⟨x3, hx3, H⟩ := bind_some' H
    refine K_r [.r (B x3) []] [C_T_law23_awake k x3] (by kernel_rfl) (A1 (T_law23_awake_ok k x3 hx3)) ?_
    refine K_g (by kernel_rfl) ?_
    cases H
    refine K_ret ?_
    kernel_rfl
  · refine K_f (by kernel_rfl) (Bool.eq_false_iff.2 hx2) ?_
    refine K_g (by kernel_rfl) ?_
    refine K_skip ?_
    refine K_seq ?_
    obtain ⟨x4, hx4, H⟩ := bind_some' H
    refine K_r [.r (Pt 0) [.cells [cL p1, cI 0]]] [C_T_shapesearchsecond_New k p1 x4] (by kernel_rfl) (A1 (T_shapesearchsecond_New_ok k p1 x4 hx4)) ?_
    refine K_seq ?_
    obtain ⟨x5, hx5, H⟩ := bind_some' H
    refine K_r [.r (.agg [.own 1 0 x5.1]) [.cells [cL p1, cI x5.2.1], .rows (.int .i64 0) (x5.2.2.map (List.map (D.int .i64))) []]] [C_T_shapesearchsecond_Deck_Store k 40 p1 0 x5] (by kernel_rfl) (A1 (T_shapesearchsecond_Deck_Store_ok k 40 p1 0 x5 hx5)) ?_
    refine K_seq ?_
    refine K_seq ?_
    obtain ⟨hx6, H⟩ := guard_some H
    obtain ⟨x7, hx7, H⟩ := bind_some' H
    refine K_r [.n 0, .l (x7.map (D.int .i64)), .n x7.length] [(0 : Int) ≤ 0 ∧ 0 < ((x5.1 : Nat) : Int), (x5.2.2.map (List.map (D.int .i64))).getD (0 + 0) [] = x7.map (D.int .i64), (x7.map (D.int .i64)).length = x7.length] (by kernel_rfl) (AC hx6 (AC (rg_ok hx7 (D.int .i64)) (A1 (List.length_map _)))) ?_
    refine K_seq ?_
    obtain ⟨x8, hx8, H⟩ := bind_some' H
    refine K_r [.r (I ((w64 ((p2.tmod 4) + 4)).tmod 4)) [], .m] ((fun (z1 : Heap) => [C_T_shapesearchsecond_Mod k p2 4 x8, z1 = z1]) [.cells [cI p4, cI p5], .cells [cL p1, cI x5.2.1], .cells [.own 3 0 x5.1], .rows (.int .i64 0) (x5.2.2.map (List.map (D.int .i64))) [((0 + 0), .own 4 0 x7.length)], VI x7]) (by kernel_rfl) (AC (T_shapesearchsecond_Mod_ok k p2 4 x8 hx8) (A1 rfl)) ?_
    obtain ⟨x12, hx12, H⟩ := bind_some' H
    refine K_of ⟨[(1, (I p2)), (7, (Pt 0)), (9, (Pt 1)), (10, (Pt 2))], [.cells [cI p4, cI p5], .cells [cL p1, cI x5.2.1], .cells [.own 3 0 x5.1], .rows (.int .i64 0) (x12.map (List.map (D.int .i64))) []]⟩ ?_ ?_
    · clear H; have H := hx12; clear hx12; refine K_in ?_
      rcases ite_some H with ⟨hx9, H⟩ | ⟨hx9, H⟩
      · refine K_t (by kernel_rfl) hx9 ?_
        obtain ⟨x10, hx10, H⟩ := bind_some' H
        obtain ⟨hx11, H⟩ := guard_some H
        refine K_r [.r (I ((w64 ((p3.tmod ((x7.length : Nat) : Int)) + ((x7.length : Nat) : Int))).tmod ((x7.length : Nat) : Int))) [], .l ((x7.set (0 + ((w64 ((p3.tmod ((x7.length : Nat) : Int)) + ((x7.length : Nat) : Int))).tmod ((x7.length : Nat) : Int)).toNat) p3).map (D.int .i64)), .n (0 + 0), .n x7.length, .ll ((x5.2.2.set (0 + 0) (x7.set (0 + ((w64 ((p3.tmod ((x7.length : Nat) : Int)) + ((x7.length : Nat) : Int))).tmod ((x7.length : Nat) : Int)).toNat) p3)).map (List.map (D.int .i64))), .br []] [C_T_shapesearchsecond_Mod k p3 ((x7.length : Nat) : Int) x10, (0 : Int) ≤ ((w64 ((p3.tmod ((x7.length : Nat) : Int)) + ((x7.length : Nat) : Int))).tmod ((x7.length : Nat) : Int)) ∧ ((w64 ((p3.tmod ((x7.length : Nat) : Int)) + ((x7.length : Nat) : Int))).tmod ((x7.length : Nat) : Int)) < ((x7.length : Nat) : Int), (x7.map (D.int .i64)).set (0 + ((w64 ((p3.tmod ((x7.length : Nat) : Int)) + ((x7.length : Nat) : Int))).tmod ((x7.length : Nat) : Int)).toNat) (elemOf (.int .i64 0) (splice ((x7.map (D.int .i64)).getD (0 + ((w64 ((p3.tmod ((x7.length : Nat) : Int)) + ((x7.length : Nat) : Int))).tmod ((x7.length : Nat) : Int)).toNat) (.int .i64 0)).cells 0 [.int .i64 p3])) = (x7.set (0 + ((w64 ((p3.tmod ((x7.length : Nat) : Int)) + ((x7.length : Nat) : Int))).tmod ((x7.length : Nat) : Int)).toNat) p3).map (D.int .i64), brHas 4 [((0 + 0), .own 4 0 x7.length)] [((0 + 0), .own 4 0 x7.length)] = some ((0 + 0), x7.length), (x5.2.2.map (List.map (D.int .i64))).set (0 + 0) (((x7.set (0 + ((w64 ((p3.tmod ((x7.length : Nat) : Int)) + ((x7.length : Nat) : Int))).tmod ((x7.length : Nat) : Int)).toNat) p3).map (D.int .i64)).take x7.length) = (x5.2.2.set (0 + 0) (x7.set (0 + ((w64 ((p3.tmod ((x7.length : Nat) : Int)) + ((x7.length : Nat) : Int))).tmod ((x7.length : Nat) : Int)).toNat) p3)).map (List.map (D.int .i64)), brDel [((0 + 0), .own 4 0 x7.length)] (0 + 0) = []] (by kernel_rfl) (AC (T_shapesearchsecond_Mod_ok k p3 ((x7.length : Nat) : Int) x10 hx10) (AC hx11 (AC (st_one x7 (0 + ((w64 ((p3.tmod ((x7.length : Nat) : Int)) + ((x7.length : Nat) : Int))).tmod ((x7.length : Nat) : Int)).toNat) p3 (D.int .i64) (.int .i64 0) rfl (fun _ => rfl) rfl) (AC bh_1 (AC (bk_all (D.int .i64) x5.2.2 (0 + 0) (x7.set (0 + ((w64 ((p3.tmod ((x7.length : Nat) : Int)) + ((x7.length : Nat) : Int))).tmod ((x7.length : Nat) : Int)).toNat) p3) x7.length (by simp)) (A1 bd_1)))))) ?_
        cases H
        exact K_end (by kernel_rfl)
      · refine K_f (by kernel_rfl) (Bool.eq_false_iff.2 hx9) ?_
        refine K_go [.n (0 + 0), .n x7.length, .ll ((x5.2.2.set (0 + 0) x7).map (List.map (D.int .i64))), .br []] [brHas 4 [((0 + 0), .own 4 0 x7.length)] [((0 + 0), .own 4 0 x7.length)] = some ((0 + 0), x7.length), (x5.2.2.map (List.map (D.int .i64))).set (0 + 0) ((x7.map (D.int .i64)).take x7.length) = (x5.2.2.set (0 + 0) x7).map (List.map (D.int .i64)), brDel [((0 + 0), .own 4 0 x7.length)] (0 + 0) = []] (by kernel_rfl) (AC bh_1 (AC (bk_all (D.int .i64) x5.2.2 (0 + 0) x7 x7.length (by simp)) (A1 bd_1))) ?_
        refine K_skip ?_
        cases H
        exact K_end (by kernel_rfl)
    refine K_seq ?_
    obtain ⟨x13, hx13, H⟩ := bind_some' H
    obtain ⟨x14, hx14, H⟩ := bind_some' H
    refine K_r [.r (I ((w64 ((p4.tmod 6) + 6)).tmod 6)) [], .r (I ((w64 ((p5.tmod 45) + 45)).tmod 45)) []] [C_T_shapesearchsecond_Mod k p4 6 x13, C_T_shapesearchsecond_Mod k p5 45 x14] (by kernel_rfl) (AC (T_shapesearchsecond_Mod_ok k p4 6 x13 hx13) (A1 (T_shapesearchsecond_Mod_ok k p5 45 x14 hx14))) ?_
    refine K_seq (K_r [] [] (by kernel_rfl) trivial ?_)
    refine K_seq ?_
    obtain ⟨x15, hx15, H⟩ := bind_some' H
    obtain ⟨x16, hx16, H⟩ := bind_some' H
    obtain ⟨x17, hx17, H⟩ := bind_some' H
    refine K_r [.r (I x15.1) [.cells [cL p1, cI x15.2]], .r (I x16.1) [.cells [cL p1, cI x16.2]], .r (.tup [(true, [cI x17.1, cI x17.2.1]), (false, [cI x17.2.2])]) []] [C_T_shapesearchsecond_Deck_Next k 5 p1 x5.2.1 x15, C_T_shapesearchsecond_Deck_Next k 3 p1 x15.2 x16, C_T_ref01_Make k x15.1 (w64 (1 + x16.1)) x17] (by kernel_rfl) (AC (T_shapesearchsecond_Deck_Next_ok k 5 p1 x5.2.1 x15 hx15) (AC (T_shapesearchsecond_Deck_Next_ok k 3 p1 x15.2 x16 hx16) (A1 (T_ref01_Make_ok k x15.1 (w64 (1 + x16.1)) x17 hx17)))) ?_
    refine K_seq ?_
    obtain ⟨x18, hx18, H⟩ := bind_some' H
    obtain ⟨x19, hx19, H⟩ := bind_some' H
    obtain ⟨x20, hx20, H⟩ := bind_some' H
    refine K_r [.r (I x18.1) [.cells [cL p1, cI x18.2]], .r (I x19.1) [.cells [cL p1, cI x19.2]], .r (.tup [(true, [cI x20.1, cI x20.2.1]), (false, [cI x20.2.2])]) []] [C_T_shapesearchsecond_Deck_Next k 5 p1 x16.2 x18, C_T_shapesearchsecond_Deck_Next k 3 p1 x18.2 x19, C_T_ref01_Make k x18.1 (w64 (1 + x19.1)) x20] (by kernel_rfl) (AC (T_shapesearchsecond_Deck_Next_ok k 5 p1 x16.2 x18 hx18) (AC (T_shapesearchsecond_Deck_Next_ok k 3 p1 x18.2 x19 hx19) (A1 (T_ref01_Make_ok k x18.1 (w64 (1 + x19.1)) x20 hx20)))) ?_
    refine K_seq ?_
    obtain ⟨x21, hx21, H⟩ := bind_some' H
    obtain ⟨x22, hx22, H⟩ := bind_some' H
    obtain ⟨x23, hx23, H⟩ := bind_some' H
    obtain ⟨x24, hx24, H⟩ := bind_some' H
    refine K_r [.r (I x21.1) [.cells [cL p1, cI x21.2]], .r (I x22.1) [.cells [cL p1, cI x22.2]], .r (I x23.1) [.cells [cL p1, cI x23.2]], .r (I x24.1) [.cells [cL p1, cI x24.2]]] [C_T_shapesearchsecond_Deck_Next k 2 p1 x19.2 x21, C_T_shapesearchsecond_Deck_Next k 2 p1 x21.2 x22, C_T_shapesearchsecond_Deck_Next k 2 p1 x22.2 x23, C_T_shapesearchsecond_Deck_Next k 2 p1 x23.2 x24] (by kernel_rfl) (AC (T_shapesearchsecond_Deck_Next_ok k 2 p1 x19.2 x21 hx21) (AC (T_shapesearchsecond_Deck_Next_ok k 2 p1 x21.2 x22 hx22) (AC (T_shapesearchsecond_Deck_Next_ok k 2 p1 x22.2 x23 hx23) (A1 (T_shapesearchsecond_Deck_Next_ok k 2 p1 x23.2 x24 hx24))))) ?_
    refine K_seq (K_gh ⟨[(1, (I p2)), (7, (Pt 0)), (10, (Pt 1)), (12, (Pt 2)), (13, (Pt 3))], [.cells [cI (w64 (((w64 ((p4.tmod 6) + 6)).tmod 6) - 1)), cI (w64 (((w64 ((p5.tmod 45) + 45)).tmod 45) - 2))], .cells [.d (.list ((((x12.map (List.map (D.int .i64))).drop 0).take x5.1).map D.list))], .cells [cI x17.1, cI x17.2.1, cI x21.1, cI x22.1], .cells [cI x20.1, cI x20.2.1, cI x23.1, cI x24.1]]⟩ (by kernel_rfl) ?_)
    refine K_conv (σ' := ⟨[(1, (I p2)), (7, (Pt 0)), (10, (Pt 1)), (12, (Pt 2)), (13, (Pt 3))], [.cells [cI (w64 (((w64 ((p4.tmod 6) + 6)).tmod 6) - 1)), cI (w64 (((w64 ((p5.tmod 45) + 45)).tmod 45) - 2))], .cells [.d (.list (((x12.drop 0).take x5.1).map (el (D.int .i64))))], .cells [cI x17.1, cI x17.2.1, cI x21.1, cI x22.1], .cells [cI x20.1, cI x20.2.1, cI x23.1, cI x24.1]]⟩) (by simp only [dt_map, rl_map, LI, VI]) ?_
    obtain ⟨x30, hx30, H⟩ := bind_some' H
    refine K_of ⟨[(8, (B x30))], []⟩ ?_ ?_
    · clear H; have H := hx30; clear hx30; refine K_in ?_
      obtain ⟨x25, hx25, H⟩ := bind_some' H
      obtain ⟨x26, hx26, H⟩ := bind_some' H
      rcases ite_some H with ⟨hx28, H⟩ | ⟨hx28, H⟩
      · obtain ⟨x29, hx29, H⟩ := bind_some' H
        refine K_r [.r (I ((w64 (((w64 (p2.tdiv 4)).tmod 8) + 8)).tmod 8)) [], .r (B x26) [], .b true, .r (B x29) []] [4 ≠ (0 : Int), C_T_shapesearchsecond_Mod k (w64 (p2.tdiv 4)) 8 x25, C_T_law23_agree k ((x12.drop 0).take x5.1) (w64 (((w64 ((p4.tmod 6) + 6)).tmod 6) - 1)) (w64 (((w64 ((p5.tmod 45) + 45)).tmod 45) - 2)) ((w64 (((w64 (p2.tdiv 4)).tmod 8) + 8)).tmod 8) x17.1 x17.2.1 x21.1 x22.1 x20.1 x20.2.1 x23.1 x24.1 x26, x26 = true, C_T_law23_awake k x29] (by kernel_rfl) (AC (by decide) (AC (T_shapesearchsecond_Mod_ok k (w64 (p2.tdiv 4)) 8 x25 hx25) (AC (T_law23_agree_ok k ((x12.drop 0).take x5.1) (w64 (((w64 ((p4.tmod 6) + 6)).tmod 6) - 1)) (w64 (((w64 ((p5.tmod 45) + 45)).tmod 45) - 2)) ((w64 (((w64 (p2.tdiv 4)).tmod 8) + 8)).tmod 8) x17.1 x17.2.1 x21.1 x22.1 x20.1 x20.2.1 x23.1 x24.1 x26 hx26) (AC hx28 (A1 (T_law23_awake_ok k x29 hx29)))))) ?_
        cases H
        exact K_end (by kernel_rfl)
      · refine K_r [.r (I ((w64 (((w64 (p2.tdiv 4)).tmod 8) + 8)).tmod 8)) [], .r (B x26) [], .b false] [4 ≠ (0 : Int), C_T_shapesearchsecond_Mod k (w64 (p2.tdiv 4)) 8 x25, C_T_law23_agree k ((x12.drop 0).take x5.1) (w64 (((w64 ((p4.tmod 6) + 6)).tmod 6) - 1)) (w64 (((w64 ((p5.tmod 45) + 45)).tmod 45) - 2)) ((w64 (((w64 (p2.tdiv 4)).tmod 8) + 8)).tmod 8) x17.1 x17.2.1 x21.1 x22.1 x20.1 x20.2.1 x23.1 x24.1 x26, x26 = false] (by kernel_rfl) (AC (by decide) (AC (T_shapesearchsecond_Mod_ok k (w64 (p2.tdiv 4)) 8 x25 hx25) (AC (T_law23_agree_ok k ((x12.drop 0).take x5.1) (w64 (((w64 ((p4.tmod 6) + 6)).tmod 6) - 1)) (w64 (((w64 ((p5.tmod 45) + 45)).tmod 45) - 2)) ((w64 (((w64 (p2.tdiv 4)).tmod 8) + 8)).tmod 8) x17.1 x17.2.1 x21.1 x22.1 x20.1 x20.2.1 x23.1 x24.1 x26 hx26) (A1 (Bool.eq_false_iff.2 hx28))))) ?_
        cases H
        exact K_end (by kernel_rfl)
    refine K_g (by kernel_rfl) ?_
    cases H
    refine K_ret ?_
    kernel_rfl
end Go.Proofs.YtkeddnagijjbaaaGreat.storeMade
