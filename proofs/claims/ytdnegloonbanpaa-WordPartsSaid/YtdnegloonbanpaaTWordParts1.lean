/- What the functions that the statement WordParts reaches compute, told as functions of Lean, and that the theory's language computes the same: part 2 of 2. There are no conditions. -/
import Derived.Test.YtdnegloonbanpaaTWordParts0
set_option maxRecDepth 100000
set_option linter.unusedVariables false
set_option linter.unusedSimpArgs false
namespace Go.Proofs.Ytdnegloonbanpaa.wordParts
open Go
def T_ref19_Of_l1 (k : Nat) (p1 : Int) (p2 : Int) (p3 : Int) (x3 : List Int) (x4 : Int) (p4 : Int) (p5 : Int) (p6 : List Int) (x51 : Int) (x54 : Int) (x55 : Int) (x63 : Nat) (x64 : Nat) (x65 : List Int) (x66 : List Int) (x72 : Int × Int) : Option ((Int × Int) ⊕ Int) :=
 (if x72.2 < x55 then ((at? p6 x72.2).bind fun x74 => (at? x3 x51).bind fun x75 => ((if x74 ≤ x75 then some (w64 (x72.1 + 1)) else some x72.1)).bind fun x77 => some (.inl (x77, (w64 (x72.2 + 1))))) else some (.inr x72.1))
theorem T_ref19_Of_l1_ok (k : Nat) (p1 : Int) (p2 : Int) (p3 : Int) (x3 : List Int) (x4 : Int) (p4 : Int) (p5 : Int) (p6 : List Int) (x51 : Int) (x54 : Int) (x55 : Int) (x63 : Nat) (x64 : Nat) (x65 : List Int) (x66 : List Int) : ∀ (x72 : Int × Int) (x : (Int × Int) ⊕ Int), T_ref19_Of_l1 k p1 p2 p3 x3 x4 p4 p5 p6 x51 x54 x55 x63 x64 x65 x66 x72 = some x → evC X (evF X k) k 0 l_ref19_Of_1 ⟨[(2, (Pt 0)), (4, (Pt 1)), (6, (LI x3)), (8, (Pt 2)), (9, (I x51)), (10, (I x72.1)), (23, (I x4)), (24, (I x54)), (29, (I x55)), (30, (I x72.2))], [.cells [cI p1, cI p2, cI p3, cI p4, cI p5, cL p6], .cells [.nil, .nil], .cells [.own 3 0 x63, .own 4 0 x64], VI x65, VI x66]⟩ = some (outS (fun (s : Int × Int) => ⟨[(2, (Pt 0)), (4, (Pt 1)), (6, (LI x3)), (8, (Pt 2)), (9, (I x51)), (10, (I s.1)), (23, (I x4)), (24, (I x54)), (29, (I x55)), (30, (I s.2))], [.cells [cI p1, cI p2, cI p3, cI p4, cI p5, cL p6], .cells [.nil, .nil], .cells [.own 3 0 x63, .own 4 0 x64], VI x65, VI x66]⟩) (fun (r : Int) => (.exit 2, ⟨[(2, (Pt 0)), (4, (Pt 1)), (6, (LI x3)), (8, (Pt 2)), (10, (I r)), (23, (I x4)), (24, (I x54))], [.cells [cI p1, cI p2, cI p3, cI p4, cI p5, cL p6], .cells [.nil, .nil], .cells [.own 3 0 x63, .own 4 0 x64], VI x65, VI x66]⟩)) x) := by
 intro x72 x H
 unfold T_ref19_Of_l1 at H
 refine K_in ?_
 refine K_seq (K_r [] [] (by kernel_rfl) trivial ?_)
 refine K_seq ?_
 rcases ite_some H with ⟨hx73, H⟩ | ⟨hx73, H⟩
 · refine K_t (by kernel_rfl) (decide_eq_true hx73) ?_
   refine K_g (by kernel_rfl) ?_
   refine K_skip (K_seq (K_block (K_seq (K_r [] [] (by kernel_rfl) trivial ?_))))
   refine K_seq ?_
   obtain ⟨x74, hx74, H⟩ := bind_some' H
   obtain ⟨x75, hx75, H⟩ := bind_some' H
   refine K_r [.l [.int .i64 x74], .l [.int .i64 x75]] [(0 : Int) ≤ x72.2 ∧ x72.2 < (((p6.map (D.int .i64))).length : Int), ((p6.map (D.int .i64)).getD x72.2.toNat (.int .i64 0)).cells = [.int .i64 x74], (0 : Int) ≤ x51 ∧ x51 < (((x3.map (D.int .i64))).length : Int), ((x3.map (D.int .i64)).getD x51.toNat (.int .i64 0)).cells = [.int .i64 x75]] (by kernel_rfl) (AC (at_ok hx74 (D.int .i64) (.int .i64 0)).1 (AC (at_ok hx74 (D.int .i64) (.int .i64 0)).2 (AC (at_ok hx75 (D.int .i64) (.int .i64 0)).1 (A1 (at_ok hx75 (D.int .i64) (.int .i64 0)).2)))) ?_
   obtain ⟨x77, hx77, H⟩ := bind_some' H
   refine K_of ⟨[(2, (Pt 0)), (4, (Pt 1)), (6, (LI x3)), (8, (Pt 2)), (9, (I x51)), (10, (I x77)), (23, (I x4)), (24, (I x54)), (29, (I x55)), (30, (I x72.2))], [.cells [cI p1, cI p2, cI p3, cI p4, cI p5, cL p6], .cells [.nil, .nil], .cells [.own 3 0 x63, .own 4 0 x64], VI x65, VI x66]⟩ ?_ ?_
   · clear H; have H := hx77; clear hx77; refine K_in ?_
     rcases ite_some H with ⟨hx76, H⟩ | ⟨hx76, H⟩
     · refine K_t (by kernel_rfl) (decide_eq_true hx76) ?_
       refine K_r [] [] (by kernel_rfl) trivial ?_
       cases H
       exact K_end (by kernel_rfl)
     · refine K_f (by kernel_rfl) (decide_eq_false hx76) ?_
       refine K_g (by kernel_rfl) ?_
       refine K_skip ?_
       cases H
       exact K_end (by kernel_rfl)
   refine K_blk (K_r [] [] (by kernel_rfl) trivial ?_)
   cases H
   exact K_end (by kernel_rfl)
 · refine K_f (by kernel_rfl) (decide_eq_false hx73) ?_
   refine K_g (by kernel_rfl) ?_
   cases H
   exact K_exit0 rfl (by kernel_rfl)
def T_ref19_Of_l2 (k : Nat) (p1 : Int) (p2 : Int) (p3 : Int) (x3 : List Int) (x4 : Int) (p4 : Int) (p5 : Int) (p6 : List Int) (x48 : Int × Nat × Nat × (List Int) × (List Int)) : Option ((Int × Nat × Nat × (List Int) × (List Int)) ⊕ ((Nat × Nat × (List Int) × (List Int)))) :=
 (if x48.1 < x4 then (loopT (T_ref19_Of_l1 k p1 p2 p3 x3 x4 p4 p5 p6 x48.1 x48.1 (p6.length : Int) x48.2.1 x48.2.2.1 x48.2.2.2.1 x48.2.2.2.2) k (0, 0)).bind fun x78 => (if x48.2.1 + 1 ≤ LIM then (if x48.2.2.1 + 1 ≤ LIM then some (.inl ((w64 (x48.1 + 1)), (x48.2.1 + 1), (x48.2.2.1 + 1), ((x48.2.2.2.1.drop 0).take x48.2.1 ++ ([x78] : List Int)), ((x48.2.2.2.2.drop 0).take x48.2.2.1 ++ ([4] : List Int)))) else none) else none) else some (.inr (x48.2.1, x48.2.2.1, x48.2.2.2.1, x48.2.2.2.2)))
theorem T_ref19_Of_l2_ok (k : Nat) (p1 : Int) (p2 : Int) (p3 : Int) (x3 : List Int) (x4 : Int) (p4 : Int) (p5 : Int) (p6 : List Int) : ∀ (x48 : Int × Nat × Nat × (List Int) × (List Int)) (x : (Int × Nat × Nat × (List Int) × (List Int)) ⊕ ((Nat × Nat × (List Int) × (List Int)))), T_ref19_Of_l2 k p1 p2 p3 x3 x4 p4 p5 p6 x48 = some x → evC X (evF X k) k 0 l_ref19_Of_2 ⟨[(2, (Pt 0)), (4, (Pt 1)), (6, (LI x3)), (8, (Pt 2)), (23, (I x4)), (24, (I x48.1))], [.cells [cI p1, cI p2, cI p3, cI p4, cI p5, cL p6], .cells [.nil, .nil], .cells [.own 3 0 x48.2.1, .own 4 0 x48.2.2.1], VI x48.2.2.2.1, VI x48.2.2.2.2]⟩ = some (outS (fun (s : Int × Nat × Nat × (List Int) × (List Int)) => ⟨[(2, (Pt 0)), (4, (Pt 1)), (6, (LI x3)), (8, (Pt 2)), (23, (I x4)), (24, (I s.1))], [.cells [cI p1, cI p2, cI p3, cI p4, cI p5, cL p6], .cells [.nil, .nil], .cells [.own 3 0 s.2.1, .own 4 0 s.2.2.1], VI s.2.2.2.1, VI s.2.2.2.2]⟩) (fun (r : (Nat × Nat × (List Int) × (List Int))) => (.exit 0, ⟨[(4, (Pt 0)), (8, (Pt 1))], [.cells [.nil, .nil], .cells [.own 2 0 r.1, .own 3 0 r.2.1], VI r.2.2.1, VI r.2.2.2]⟩)) x) := by
 intro x48 x H
 unfold T_ref19_Of_l2 at H
 refine K_in ?_
 refine K_seq (K_r [] [] (by kernel_rfl) trivial ?_)
 refine K_seq ?_
 rcases ite_some H with ⟨hx49, H⟩ | ⟨hx49, H⟩
 · refine K_t (by kernel_rfl) (decide_eq_true hx49) ?_
   refine K_g (by kernel_rfl) ?_
   refine K_skip (K_seq (K_block (K_seq (K_r [] [] (by kernel_rfl) trivial ?_))))
   refine K_seq (K_r [] [] (by kernel_rfl) trivial ?_)
   refine K_seq (K_seq (K_r [.n p6.length] [((p6.map (D.int .i64))).length = p6.length] (by kernel_rfl) (A1 (List.length_map _)) ?_))
   refine K_block (K_conv (σ' := ⟨[(2, (Pt 0)), (4, (Pt 1)), (6, (LI x3)), (8, (Pt 2)), (9, (I x48.1)), (10, (I 0)), (23, (I x4)), (24, (I x48.1)), (29, (I (p6.length : Int))), (30, (I 0))], [.cells [cI p1, cI p2, cI p3, cI p4, cI p5, cL p6], .cells [.nil, .nil], .cells [.own 3 0 x48.2.1, .own 4 0 x48.2.2.1], VI x48.2.2.2.1, VI x48.2.2.2.2]⟩) (by kernel_rfl) ?_)
   obtain ⟨x78, hx78, H⟩ := bind_some' H
   refine K_loop ⟨[(2, (Pt 0)), (4, (Pt 1)), (6, (LI x3)), (8, (Pt 2)), (10, (I x78)), (23, (I x4)), (24, (I x48.1))], [.cells [cI p1, cI p2, cI p3, cI p4, cI p5, cL p6], .cells [.nil, .nil], .cells [.own 3 0 x48.2.1, .own 4 0 x48.2.2.1], VI x48.2.2.2.1, VI x48.2.2.2.2]⟩ (loop_ok (fun (s : Int × Int) => ⟨[(2, (Pt 0)), (4, (Pt 1)), (6, (LI x3)), (8, (Pt 2)), (9, (I x48.1)), (10, (I s.1)), (23, (I x4)), (24, (I x48.1)), (29, (I (p6.length : Int))), (30, (I s.2))], [.cells [cI p1, cI p2, cI p3, cI p4, cI p5, cL p6], .cells [.nil, .nil], .cells [.own 3 0 x48.2.1, .own 4 0 x48.2.2.1], VI x48.2.2.2.1, VI x48.2.2.2.2]⟩) (fun (r : Int) => (.exit 2, ⟨[(2, (Pt 0)), (4, (Pt 1)), (6, (LI x3)), (8, (Pt 2)), (10, (I r)), (23, (I x4)), (24, (I x48.1))], [.cells [cI p1, cI p2, cI p3, cI p4, cI p5, cL p6], .cells [.nil, .nil], .cells [.own 3 0 x48.2.1, .own 4 0 x48.2.2.1], VI x48.2.2.2.1, VI x48.2.2.2.2]⟩)) (fun r h => by cases h) (T_ref19_Of_l1_ok k p1 p2 p3 x3 x4 p4 p5 p6 x48.1 x48.1 (p6.length : Int) x48.2.1 x48.2.2.1 x48.2.2.2.1 x48.2.2.2.2) k (0, 0) x78 hx78) rfl ?_
   obtain ⟨hx79, H⟩ := guard_some H
   obtain ⟨hx80, H⟩ := guard_some H
   refine K_rD [.n 1, .l (((x48.2.2.2.1.drop 0).take x48.2.1 ++ ([x78] : List Int)).map (D.int .i64)), .n 1, .l (((x48.2.2.2.2.drop 0).take x48.2.2.1 ++ ([4] : List Int)).map (D.int .i64)), .n 1, .l (((x48.2.2.2.1.drop 0).take x48.2.1 ++ ([x78] : List Int)).map (D.int .i64)), .n 1, .l (((x48.2.2.2.2.drop 0).take x48.2.2.1 ++ ([4] : List Int)).map (D.int .i64)), .n 1, .l (((x48.2.2.2.1.drop 0).take x48.2.1 ++ ([x78] : List Int)).map (D.int .i64)), .n 1, .l (((x48.2.2.2.2.drop 0).take x48.2.2.1 ++ ([4] : List Int)).map (D.int .i64))] ((fun (z1 : St) => [(List.all (([x78] : List Int).map (D.int .i64)) fun d => d.cells.length == (D.cells (.int .i64 0)).length) = true, x48.2.1 + 1 ≤ LIM, (([x78] : List Int).map (D.int .i64)).length = 1, ((x48.2.2.2.1.map (D.int .i64)).drop 0).take x48.2.1 ++ (([x78] : List Int).map (D.int .i64)) = ((x48.2.2.2.1.drop 0).take x48.2.1 ++ ([x78] : List Int)).map (D.int .i64), (List.all (([4] : List Int).map (D.int .i64)) fun d => d.cells.length == (D.cells (.int .i64 0)).length) = true, x48.2.2.1 + 1 ≤ LIM, (([4] : List Int).map (D.int .i64)).length = 1, ((x48.2.2.2.2.map (D.int .i64)).drop 0).take x48.2.2.1 ++ (([4] : List Int).map (D.int .i64)) = ((x48.2.2.2.2.drop 0).take x48.2.2.1 ++ ([4] : List Int)).map (D.int .i64), (List.all (([x78] : List Int).map (D.int .i64)) fun d => d.cells.length == (D.cells (.int .i64 0)).length) = true, x48.2.1 + 1 ≤ LIM, (([x78] : List Int).map (D.int .i64)).length = 1, ((x48.2.2.2.1.map (D.int .i64)).drop 0).take x48.2.1 ++ (([x78] : List Int).map (D.int .i64)) = ((x48.2.2.2.1.drop 0).take x48.2.1 ++ ([x78] : List Int)).map (D.int .i64), (List.all (([4] : List Int).map (D.int .i64)) fun d => d.cells.length == (D.cells (.int .i64 0)).length) = true, x48.2.2.1 + 1 ≤ LIM, (([4] : List Int).map (D.int .i64)).length = 1, ((x48.2.2.2.2.map (D.int .i64)).drop 0).take x48.2.2.1 ++ (([4] : List Int).map (D.int .i64)) = ((x48.2.2.2.2.drop 0).take x48.2.2.1 ++ ([4] : List Int)).map (D.int .i64), z1 = z1, (List.all (([x78] : List Int).map (D.int .i64)) fun d => d.cells.length == (D.cells (.int .i64 0)).length) = true, x48.2.1 + 1 ≤ LIM, (([x78] : List Int).map (D.int .i64)).length = 1, ((x48.2.2.2.1.map (D.int .i64)).drop 0).take x48.2.1 ++ (([x78] : List Int).map (D.int .i64)) = ((x48.2.2.2.1.drop 0).take x48.2.1 ++ ([x78] : List Int)).map (D.int .i64), (List.all (([4] : List Int).map (D.int .i64)) fun d => d.cells.length == (D.cells (.int .i64 0)).length) = true, x48.2.2.1 + 1 ≤ LIM, (([4] : List Int).map (D.int .i64)).length = 1, ((x48.2.2.2.2.map (D.int .i64)).drop 0).take x48.2.2.1 ++ (([4] : List Int).map (D.int .i64)) = ((x48.2.2.2.2.drop 0).take x48.2.2.1 ++ ([4] : List Int)).map (D.int .i64), z1 = z1]) (⟨[(2, (Pt 0)), (4, (Pt 1)), (6, (LI x3)), (8, (Pt 2)), (23, (I x4)), (24, (I x48.1))], [.cells [cI p1, cI p2, cI p3, cI p4, cI p5, cL p6], .cells [.nil, .nil], .cells [.own 3 0 (x48.2.1 + 1), .own 4 0 (x48.2.2.1 + 1)], VI ((x48.2.2.2.1.drop 0).take x48.2.1 ++ ([x78] : List Int)), VI ((x48.2.2.2.2.drop 0).take x48.2.2.1 ++ ([4] : List Int))]⟩)) (by kernel_rfl) (AC (all_ok (D.int .i64) 1 ([x78] : List Int) (fun _ => rfl)) (AC hx79 (AC (by simp) (AC (ap_map (D.int .i64) x48.2.2.2.1 ([x78] : List Int) 0 x48.2.1) (AC (all_ok (D.int .i64) 1 ([4] : List Int) (fun _ => rfl)) (AC hx80 (AC (by simp) (AC (ap_map (D.int .i64) x48.2.2.2.2 ([4] : List Int) 0 x48.2.2.1) (AC (all_ok (D.int .i64) 1 ([x78] : List Int) (fun _ => rfl)) (AC hx79 (AC (by simp) (AC (ap_map (D.int .i64) x48.2.2.2.1 ([x78] : List Int) 0 x48.2.1) (AC (all_ok (D.int .i64) 1 ([4] : List Int) (fun _ => rfl)) (AC hx80 (AC (by simp) (AC (ap_map (D.int .i64) x48.2.2.2.2 ([4] : List Int) 0 x48.2.2.1) (AC rfl (AC (all_ok (D.int .i64) 1 ([x78] : List Int) (fun _ => rfl)) (AC hx79 (AC (by simp) (AC (ap_map (D.int .i64) x48.2.2.2.1 ([x78] : List Int) 0 x48.2.1) (AC (all_ok (D.int .i64) 1 ([4] : List Int) (fun _ => rfl)) (AC hx80 (AC (by simp) (AC (ap_map (D.int .i64) x48.2.2.2.2 ([4] : List Int) 0 x48.2.2.1) (A1 rfl)))))))))))))))))))))))))) ?_
   refine K_blk (K_r [] [] (by kernel_rfl) trivial ?_)
   cases H
   exact K_end (by kernel_rfl)
 · refine K_f (by kernel_rfl) (decide_eq_false hx49) ?_
   refine K_g (by kernel_rfl) ?_
   cases H
   exact K_exit0 rfl (by kernel_rfl)
def T_ref19_Of (k : Nat) (p1 : Int) (p2 : Int) (p3 : Int) (p4 : Int) (p5 : Int) (p6 : List Int) (p7 : List Int) : Option ((List Int) × (List Int) × Int) := match k with
 | 0 => none
 | k + 1 => ((T_ref19_Coordinates k p1 p2 p3 p4 p5 p6 p7).bind fun x1 => (if (!decide (x1.2 = 0)) = true then some ([], [], x1.2) else ((loopT (T_ref19_Of_l2 k p1 p2 p3 x1.1 (x1.1.length : Int) p4 p5 p6) k (0, 0, 0, [], [])).bind fun x81 => some (((x81.2.2.1.drop 0).take x81.1), ((x81.2.2.2.drop 0).take x81.2.1), 0))))
abbrev C_T_ref19_Of (k : Nat) (p1 : Int) (p2 : Int) (p3 : Int) (p4 : Int) (p5 : Int) (p6 : List Int) (p7 : List Int) (r : (List Int) × (List Int) × Int) : Prop := evF X k n_ref19_Of [(.agg [cI p1, cI p2, cI p3, cI p4, cI p5, cL p6]), (LI p7)] [] = some ((.tup [(true, [cL r.1, cL r.2.1]), (false, [cI r.2.2])]), [])
theorem T_ref19_Of_ok (k : Nat) (p1 : Int) (p2 : Int) (p3 : Int) (p4 : Int) (p5 : Int) (p6 : List Int) (p7 : List Int) (r : (List Int) × (List Int) × Int) : T_ref19_Of k p1 p2 p3 p4 p5 p6 p7 = some r → C_T_ref19_Of k p1 p2 p3 p4 p5 p6 p7 r := by
 intro H
 cases k with
 | zero => simp [T_ref19_Of] at H
 | succ k =>
  simp only [T_ref19_Of] at H
  refine F_in X_ref19_Of rfl ?_
  refine K_seq (K_r [] [] (by kernel_rfl) trivial ?_)
  refine K_seq ?_
  obtain ⟨x1, hx1, H⟩ := bind_some' H
  refine K_r [.r (.tup [(false, [cL x1.1]), (false, [cI x1.2])]) []] [C_T_ref19_Coordinates k p1 p2 p3 p4 p5 p6 p7 x1] (by kernel_rfl) (A1 (T_ref19_Coordinates_ok k p1 p2 p3 p4 p5 p6 p7 x1 hx1)) ?_
  refine K_seq (K_seq (K_r [] [] (by kernel_rfl) trivial ?_))
  rcases ite_some H with ⟨hx2, H⟩ | ⟨hx2, H⟩
  · refine K_t (by kernel_rfl) hx2 ?_
    refine K_seq (K_r [] [] (by kernel_rfl) trivial ?_)
    refine K_g (by kernel_rfl) ?_
    cases H
    refine K_ret ?_
    kernel_rfl
  · refine K_f (by kernel_rfl) (Bool.eq_false_iff.2 hx2) ?_
    refine K_g (by kernel_rfl) ?_
    refine K_skip (K_seq (K_r [] [] (by kernel_rfl) trivial ?_))
    refine K_seq (K_seq (K_r [.n x1.1.length] [((x1.1.map (D.int .i64))).length = x1.1.length] (by kernel_rfl) (A1 (List.length_map _)) ?_))
    refine K_block (K_g (by kernel_rfl) ?_)
    refine K_conv (σ' := ⟨[(2, (Pt 0)), (4, (Pt 1)), (6, (LI x1.1)), (8, (Pt 2)), (23, (I (x1.1.length : Int))), (24, (I 0))], [.cells [cI p1, cI p2, cI p3, cI p4, cI p5, cL p6], .cells [.nil, .nil], .cells [.own 3 0 0, .own 4 0 0], VI [], VI []]⟩) (by kernel_rfl) ?_
    obtain ⟨x81, hx81, H⟩ := bind_some' H
    refine K_loop ⟨[(4, (Pt 0)), (8, (Pt 1))], [.cells [.nil, .nil], .cells [.own 2 0 x81.1, .own 3 0 x81.2.1], VI x81.2.2.1, VI x81.2.2.2]⟩ (loop_ok (fun (s : Int × Nat × Nat × (List Int) × (List Int)) => ⟨[(2, (Pt 0)), (4, (Pt 1)), (6, (LI x1.1)), (8, (Pt 2)), (23, (I (x1.1.length : Int))), (24, (I s.1))], [.cells [cI p1, cI p2, cI p3, cI p4, cI p5, cL p6], .cells [.nil, .nil], .cells [.own 3 0 s.2.1, .own 4 0 s.2.2.1], VI s.2.2.2.1, VI s.2.2.2.2]⟩) (fun (r : (Nat × Nat × (List Int) × (List Int))) => (.exit 0, ⟨[(4, (Pt 0)), (8, (Pt 1))], [.cells [.nil, .nil], .cells [.own 2 0 r.1, .own 3 0 r.2.1], VI r.2.2.1, VI r.2.2.2]⟩)) (fun r h => by cases h) (T_ref19_Of_l2_ok k p1 p2 p3 x1.1 (x1.1.length : Int) p4 p5 p6) k (0, 0, 0, [], []) x81 hx81) rfl ?_
    refine K_seq (K_r [] [] (by kernel_rfl) trivial ?_)
    refine K_g (by kernel_rfl) ?_
    cases H
    refine K_ret ?_
    exact Eq.trans (b := some ((.tup [(true, [.d (.list (((x81.2.2.1.map (D.int .i64)).drop 0).take x81.1)), .d (.list (((x81.2.2.2.map (D.int .i64)).drop 0).take x81.2.1))]), (false, [cI 0])]), [])) (by kernel_rfl) (by simp only [dt_map, LI, VI])
def T_keep_Src_Word_l1 (k : Nat) (p1 : Int) (p2 : Int) (p3 : Int) (p4 : Int) (p5 : Int) (p6 : List Int) (p7 : List Int) (x20 : Int × Int × Nat × Nat × (List Int) × (List Int)) : Option ((Int × Int × Nat × Nat × (List Int) × (List Int)) ⊕ ((Int × Nat × Nat × (List Int) × (List Int)))) :=
 (if x20.1 < p5 then (T_keep_Src_N k 5 p7 x20.2.1).bind fun x22 => (if (0 : Int) ≤ x22.1 then (T_keep_Src_N k (w64 (1 * 2 ^ (Nat.min x22.1.toNat (IntKind.bits .i64)))) p7 x22.2).bind fun x24 => (if x20.2.2.1 + 1 ≤ LIM then (if x20.2.2.2.1 + 1 ≤ LIM then some (.inl ((w64 (x20.1 + 1)), x24.2, (x20.2.2.1 + 1), (x20.2.2.2.1 + 1), ((x20.2.2.2.2.1.drop 0).take x20.2.2.1 ++ ([x24.1] : List Int)), ((x20.2.2.2.2.2.drop 0).take x20.2.2.2.1 ++ ([x22.1] : List Int)))) else none) else none) else none) else some (.inr (x20.2.1, x20.2.2.1, x20.2.2.2.1, x20.2.2.2.2.1, x20.2.2.2.2.2)))
theorem T_keep_Src_Word_l1_ok (k : Nat) (p1 : Int) (p2 : Int) (p3 : Int) (p4 : Int) (p5 : Int) (p6 : List Int) (p7 : List Int) : ∀ (x20 : Int × Int × Nat × Nat × (List Int) × (List Int)) (x : (Int × Int × Nat × Nat × (List Int) × (List Int)) ⊕ ((Int × Nat × Nat × (List Int) × (List Int)))), T_keep_Src_Word_l1 k p1 p2 p3 p4 p5 p6 p7 x20 = some x → evC X (evF X k) k 1 l_keep_Src_Word_1 ⟨[(0, (Pt 0)), (3, (Pt 1)), (4, (Pt 2)), (5, (Pt 3)), (6, (I x20.1))], [.cells [cL p7, cI x20.2.1], .cells [cI p1, cI p2, cI p3, cI p4, cI p5, cL p6], .cells [.nil, .nil], .cells [.own 4 0 x20.2.2.1, .own 5 0 x20.2.2.2.1], VI x20.2.2.2.2.1, VI x20.2.2.2.2.2]⟩ = some (outS (fun (s : Int × Int × Nat × Nat × (List Int) × (List Int)) => ⟨[(0, (Pt 0)), (3, (Pt 1)), (4, (Pt 2)), (5, (Pt 3)), (6, (I s.1))], [.cells [cL p7, cI s.2.1], .cells [cI p1, cI p2, cI p3, cI p4, cI p5, cL p6], .cells [.nil, .nil], .cells [.own 4 0 s.2.2.1, .own 5 0 s.2.2.2.1], VI s.2.2.2.2.1, VI s.2.2.2.2.2]⟩) (fun (r : (Int × Nat × Nat × (List Int) × (List Int))) => (.exit 0, ⟨[(4, (Pt 1)), (5, (Pt 2))], [.cells [cL p7, cI r.1], .cells [.nil, .nil], .cells [.own 3 0 r.2.1, .own 4 0 r.2.2.1], VI r.2.2.2.1, VI r.2.2.2.2]⟩)) x) := by
 intro x20 x H
 unfold T_keep_Src_Word_l1 at H
 refine K_in ?_
 refine K_seq (K_seq (K_r [] [] (by kernel_rfl) trivial ?_))
 rcases ite_some H with ⟨hx21, H⟩ | ⟨hx21, H⟩
 · refine K_t (by kernel_rfl) (decide_eq_true hx21) ?_
   refine K_g (by kernel_rfl) ?_
   refine K_skip ?_
   refine K_seq ?_
   refine K_block ?_
   refine K_seq ?_
   obtain ⟨x22, hx22, H⟩ := bind_some' H
   refine K_r [.r (I x22.1) [.cells [cL p7, cI x22.2]]] [C_T_keep_Src_N k 5 p7 x20.2.1 x22] (by kernel_rfl) (A1 (T_keep_Src_N_ok k 5 p7 x20.2.1 x22 hx22)) ?_
   obtain ⟨hx23, H⟩ := guard_some H
   obtain ⟨x24, hx24, H⟩ := bind_some' H
   obtain ⟨hx25, H⟩ := guard_some H
   obtain ⟨hx26, H⟩ := guard_some H
   refine K_rD [.r (I x24.1) [.cells [cL p7, cI x24.2]], .n 1, .l (((x20.2.2.2.2.1.drop 0).take x20.2.2.1 ++ ([x24.1] : List Int)).map (D.int .i64)), .n 1, .l (((x20.2.2.2.2.2.drop 0).take x20.2.2.2.1 ++ ([x22.1] : List Int)).map (D.int .i64)), .n 1, .l (((x20.2.2.2.2.1.drop 0).take x20.2.2.1 ++ ([x24.1] : List Int)).map (D.int .i64)), .n 1, .l (((x20.2.2.2.2.2.drop 0).take x20.2.2.2.1 ++ ([x22.1] : List Int)).map (D.int .i64)), .r (I x24.1) [.cells [cL p7, cI x24.2]], .n 1, .l (((x20.2.2.2.2.1.drop 0).take x20.2.2.1 ++ ([x24.1] : List Int)).map (D.int .i64)), .n 1, .l (((x20.2.2.2.2.2.drop 0).take x20.2.2.2.1 ++ ([x22.1] : List Int)).map (D.int .i64)), .r (I x24.1) [.cells [cL p7, cI x24.2]], .n 1, .l (((x20.2.2.2.2.1.drop 0).take x20.2.2.1 ++ ([x24.1] : List Int)).map (D.int .i64)), .n 1, .l (((x20.2.2.2.2.2.drop 0).take x20.2.2.2.1 ++ ([x22.1] : List Int)).map (D.int .i64)), .n 1, .l (((x20.2.2.2.2.1.drop 0).take x20.2.2.1 ++ ([x24.1] : List Int)).map (D.int .i64)), .n 1, .l (((x20.2.2.2.2.2.drop 0).take x20.2.2.2.1 ++ ([x22.1] : List Int)).map (D.int .i64)), .n 1, .l (((x20.2.2.2.2.1.drop 0).take x20.2.2.1 ++ ([x24.1] : List Int)).map (D.int .i64)), .n 1, .l (((x20.2.2.2.2.2.drop 0).take x20.2.2.2.1 ++ ([x22.1] : List Int)).map (D.int .i64)), .r (I x24.1) [.cells [cL p7, cI x24.2]], .n 1, .l (((x20.2.2.2.2.1.drop 0).take x20.2.2.1 ++ ([x24.1] : List Int)).map (D.int .i64)), .n 1, .l (((x20.2.2.2.2.2.drop 0).take x20.2.2.2.1 ++ ([x22.1] : List Int)).map (D.int .i64)), .r (I x24.1) [.cells [cL p7, cI x24.2]], .n 1, .l (((x20.2.2.2.2.1.drop 0).take x20.2.2.1 ++ ([x24.1] : List Int)).map (D.int .i64)), .n 1, .l (((x20.2.2.2.2.2.drop 0).take x20.2.2.2.1 ++ ([x22.1] : List Int)).map (D.int .i64))] ((fun (z1 : St) => [(0 : Int) ≤ x22.1, C_T_keep_Src_N k (w64 (1 * 2 ^ (Nat.min x22.1.toNat (IntKind.bits .i64)))) p7 x22.2 x24, (List.all (([x24.1] : List Int).map (D.int .i64)) fun d => d.cells.length == (D.cells (.int .i64 0)).length) = true, x20.2.2.1 + 1 ≤ LIM, (([x24.1] : List Int).map (D.int .i64)).length = 1, ((x20.2.2.2.2.1.map (D.int .i64)).drop 0).take x20.2.2.1 ++ (([x24.1] : List Int).map (D.int .i64)) = ((x20.2.2.2.2.1.drop 0).take x20.2.2.1 ++ ([x24.1] : List Int)).map (D.int .i64), (List.all (([x22.1] : List Int).map (D.int .i64)) fun d => d.cells.length == (D.cells (.int .i64 0)).length) = true, x20.2.2.2.1 + 1 ≤ LIM, (([x22.1] : List Int).map (D.int .i64)).length = 1, ((x20.2.2.2.2.2.map (D.int .i64)).drop 0).take x20.2.2.2.1 ++ (([x22.1] : List Int).map (D.int .i64)) = ((x20.2.2.2.2.2.drop 0).take x20.2.2.2.1 ++ ([x22.1] : List Int)).map (D.int .i64), (List.all (([x24.1] : List Int).map (D.int .i64)) fun d => d.cells.length == (D.cells (.int .i64 0)).length) = true, x20.2.2.1 + 1 ≤ LIM, (([x24.1] : List Int).map (D.int .i64)).length = 1, ((x20.2.2.2.2.1.map (D.int .i64)).drop 0).take x20.2.2.1 ++ (([x24.1] : List Int).map (D.int .i64)) = ((x20.2.2.2.2.1.drop 0).take x20.2.2.1 ++ ([x24.1] : List Int)).map (D.int .i64), (List.all (([x22.1] : List Int).map (D.int .i64)) fun d => d.cells.length == (D.cells (.int .i64 0)).length) = true, x20.2.2.2.1 + 1 ≤ LIM, (([x22.1] : List Int).map (D.int .i64)).length = 1, ((x20.2.2.2.2.2.map (D.int .i64)).drop 0).take x20.2.2.2.1 ++ (([x22.1] : List Int).map (D.int .i64)) = ((x20.2.2.2.2.2.drop 0).take x20.2.2.2.1 ++ ([x22.1] : List Int)).map (D.int .i64), z1 = z1, C_T_keep_Src_N k (w64 (1 * 2 ^ (Nat.min x22.1.toNat (IntKind.bits .i64)))) p7 x22.2 x24, (List.all (([x24.1] : List Int).map (D.int .i64)) fun d => d.cells.length == (D.cells (.int .i64 0)).length) = true, x20.2.2.1 + 1 ≤ LIM, (([x24.1] : List Int).map (D.int .i64)).length = 1, ((x20.2.2.2.2.1.map (D.int .i64)).drop 0).take x20.2.2.1 ++ (([x24.1] : List Int).map (D.int .i64)) = ((x20.2.2.2.2.1.drop 0).take x20.2.2.1 ++ ([x24.1] : List Int)).map (D.int .i64), (List.all (([x22.1] : List Int).map (D.int .i64)) fun d => d.cells.length == (D.cells (.int .i64 0)).length) = true, x20.2.2.2.1 + 1 ≤ LIM, (([x22.1] : List Int).map (D.int .i64)).length = 1, ((x20.2.2.2.2.2.map (D.int .i64)).drop 0).take x20.2.2.2.1 ++ (([x22.1] : List Int).map (D.int .i64)) = ((x20.2.2.2.2.2.drop 0).take x20.2.2.2.1 ++ ([x22.1] : List Int)).map (D.int .i64), z1 = z1, C_T_keep_Src_N k (w64 (1 * 2 ^ (Nat.min x22.1.toNat (IntKind.bits .i64)))) p7 x22.2 x24, (List.all (([x24.1] : List Int).map (D.int .i64)) fun d => d.cells.length == (D.cells (.int .i64 0)).length) = true, x20.2.2.1 + 1 ≤ LIM, (([x24.1] : List Int).map (D.int .i64)).length = 1, ((x20.2.2.2.2.1.map (D.int .i64)).drop 0).take x20.2.2.1 ++ (([x24.1] : List Int).map (D.int .i64)) = ((x20.2.2.2.2.1.drop 0).take x20.2.2.1 ++ ([x24.1] : List Int)).map (D.int .i64), (List.all (([x22.1] : List Int).map (D.int .i64)) fun d => d.cells.length == (D.cells (.int .i64 0)).length) = true, x20.2.2.2.1 + 1 ≤ LIM, (([x22.1] : List Int).map (D.int .i64)).length = 1, ((x20.2.2.2.2.2.map (D.int .i64)).drop 0).take x20.2.2.2.1 ++ (([x22.1] : List Int).map (D.int .i64)) = ((x20.2.2.2.2.2.drop 0).take x20.2.2.2.1 ++ ([x22.1] : List Int)).map (D.int .i64), (List.all (([x24.1] : List Int).map (D.int .i64)) fun d => d.cells.length == (D.cells (.int .i64 0)).length) = true, x20.2.2.1 + 1 ≤ LIM, (([x24.1] : List Int).map (D.int .i64)).length = 1, ((x20.2.2.2.2.1.map (D.int .i64)).drop 0).take x20.2.2.1 ++ (([x24.1] : List Int).map (D.int .i64)) = ((x20.2.2.2.2.1.drop 0).take x20.2.2.1 ++ ([x24.1] : List Int)).map (D.int .i64), (List.all (([x22.1] : List Int).map (D.int .i64)) fun d => d.cells.length == (D.cells (.int .i64 0)).length) = true, x20.2.2.2.1 + 1 ≤ LIM, (([x22.1] : List Int).map (D.int .i64)).length = 1, ((x20.2.2.2.2.2.map (D.int .i64)).drop 0).take x20.2.2.2.1 ++ (([x22.1] : List Int).map (D.int .i64)) = ((x20.2.2.2.2.2.drop 0).take x20.2.2.2.1 ++ ([x22.1] : List Int)).map (D.int .i64), z1 = z1, (List.all (([x24.1] : List Int).map (D.int .i64)) fun d => d.cells.length == (D.cells (.int .i64 0)).length) = true, x20.2.2.1 + 1 ≤ LIM, (([x24.1] : List Int).map (D.int .i64)).length = 1, ((x20.2.2.2.2.1.map (D.int .i64)).drop 0).take x20.2.2.1 ++ (([x24.1] : List Int).map (D.int .i64)) = ((x20.2.2.2.2.1.drop 0).take x20.2.2.1 ++ ([x24.1] : List Int)).map (D.int .i64), (List.all (([x22.1] : List Int).map (D.int .i64)) fun d => d.cells.length == (D.cells (.int .i64 0)).length) = true, x20.2.2.2.1 + 1 ≤ LIM, (([x22.1] : List Int).map (D.int .i64)).length = 1, ((x20.2.2.2.2.2.map (D.int .i64)).drop 0).take x20.2.2.2.1 ++ (([x22.1] : List Int).map (D.int .i64)) = ((x20.2.2.2.2.2.drop 0).take x20.2.2.2.1 ++ ([x22.1] : List Int)).map (D.int .i64), z1 = z1, z1 = z1, C_T_keep_Src_N k (w64 (1 * 2 ^ (Nat.min x22.1.toNat (IntKind.bits .i64)))) p7 x22.2 x24, (List.all (([x24.1] : List Int).map (D.int .i64)) fun d => d.cells.length == (D.cells (.int .i64 0)).length) = true, x20.2.2.1 + 1 ≤ LIM, (([x24.1] : List Int).map (D.int .i64)).length = 1, ((x20.2.2.2.2.1.map (D.int .i64)).drop 0).take x20.2.2.1 ++ (([x24.1] : List Int).map (D.int .i64)) = ((x20.2.2.2.2.1.drop 0).take x20.2.2.1 ++ ([x24.1] : List Int)).map (D.int .i64), (List.all (([x22.1] : List Int).map (D.int .i64)) fun d => d.cells.length == (D.cells (.int .i64 0)).length) = true, x20.2.2.2.1 + 1 ≤ LIM, (([x22.1] : List Int).map (D.int .i64)).length = 1, ((x20.2.2.2.2.2.map (D.int .i64)).drop 0).take x20.2.2.2.1 ++ (([x22.1] : List Int).map (D.int .i64)) = ((x20.2.2.2.2.2.drop 0).take x20.2.2.2.1 ++ ([x22.1] : List Int)).map (D.int .i64), C_T_keep_Src_N k (w64 (1 * 2 ^ (Nat.min x22.1.toNat (IntKind.bits .i64)))) p7 x22.2 x24, (List.all (([x24.1] : List Int).map (D.int .i64)) fun d => d.cells.length == (D.cells (.int .i64 0)).length) = true, x20.2.2.1 + 1 ≤ LIM, (([x24.1] : List Int).map (D.int .i64)).length = 1, ((x20.2.2.2.2.1.map (D.int .i64)).drop 0).take x20.2.2.1 ++ (([x24.1] : List Int).map (D.int .i64)) = ((x20.2.2.2.2.1.drop 0).take x20.2.2.1 ++ ([x24.1] : List Int)).map (D.int .i64), (List.all (([x22.1] : List Int).map (D.int .i64)) fun d => d.cells.length == (D.cells (.int .i64 0)).length) = true, x20.2.2.2.1 + 1 ≤ LIM, (([x22.1] : List Int).map (D.int .i64)).length = 1, ((x20.2.2.2.2.2.map (D.int .i64)).drop 0).take x20.2.2.2.1 ++ (([x22.1] : List Int).map (D.int .i64)) = ((x20.2.2.2.2.2.drop 0).take x20.2.2.2.1 ++ ([x22.1] : List Int)).map (D.int .i64), z1 = z1, z1 = z1]) (⟨[(0, (Pt 0)), (3, (Pt 1)), (4, (Pt 2)), (5, (Pt 3)), (6, (I x20.1))], [.cells [cL p7, cI x24.2], .cells [cI p1, cI p2, cI p3, cI p4, cI p5, cL p6], .cells [.nil, .nil], .cells [.own 4 0 (x20.2.2.1 + 1), .own 5 0 (x20.2.2.2.1 + 1)], VI ((x20.2.2.2.2.1.drop 0).take x20.2.2.1 ++ ([x24.1] : List Int)), VI ((x20.2.2.2.2.2.drop 0).take x20.2.2.2.1 ++ ([x22.1] : List Int))]⟩)) (by kernel_rfl) (AC hx23 (AC (T_keep_Src_N_ok k (w64 (1 * 2 ^ (Nat.min x22.1.toNat (IntKind.bits .i64)))) p7 x22.2 x24 hx24) (AC (all_ok (D.int .i64) 1 ([x24.1] : List Int) (fun _ => rfl)) (AC hx25 (AC (by simp) (AC (ap_map (D.int .i64) x20.2.2.2.2.1 ([x24.1] : List Int) 0 x20.2.2.1) (AC (all_ok (D.int .i64) 1 ([x22.1] : List Int) (fun _ => rfl)) (AC hx26 (AC (by simp) (AC (ap_map (D.int .i64) x20.2.2.2.2.2 ([x22.1] : List Int) 0 x20.2.2.2.1) (AC (all_ok (D.int .i64) 1 ([x24.1] : List Int) (fun _ => rfl)) (AC hx25 (AC (by simp) (AC (ap_map (D.int .i64) x20.2.2.2.2.1 ([x24.1] : List Int) 0 x20.2.2.1) (AC (all_ok (D.int .i64) 1 ([x22.1] : List Int) (fun _ => rfl)) (AC hx26 (AC (by simp) (AC (ap_map (D.int .i64) x20.2.2.2.2.2 ([x22.1] : List Int) 0 x20.2.2.2.1) (AC rfl (AC (T_keep_Src_N_ok k (w64 (1 * 2 ^ (Nat.min x22.1.toNat (IntKind.bits .i64)))) p7 x22.2 x24 hx24) (AC (all_ok (D.int .i64) 1 ([x24.1] : List Int) (fun _ => rfl)) (AC hx25 (AC (by simp) (AC (ap_map (D.int .i64) x20.2.2.2.2.1 ([x24.1] : List Int) 0 x20.2.2.1) (AC (all_ok (D.int .i64) 1 ([x22.1] : List Int) (fun _ => rfl)) (AC hx26 (AC (by simp) (AC (ap_map (D.int .i64) x20.2.2.2.2.2 ([x22.1] : List Int) 0 x20.2.2.2.1) (AC rfl (AC (T_keep_Src_N_ok k (w64 (1 * 2 ^ (Nat.min x22.1.toNat (IntKind.bits .i64)))) p7 x22.2 x24 hx24) (AC (all_ok (D.int .i64) 1 ([x24.1] : List Int) (fun _ => rfl)) (AC hx25 (AC (by simp) (AC (ap_map (D.int .i64) x20.2.2.2.2.1 ([x24.1] : List Int) 0 x20.2.2.1) (AC (all_ok (D.int .i64) 1 ([x22.1] : List Int) (fun _ => rfl)) (AC hx26 (AC (by simp) (AC (ap_map (D.int .i64) x20.2.2.2.2.2 ([x22.1] : List Int) 0 x20.2.2.2.1) (AC (all_ok (D.int .i64) 1 ([x24.1] : List Int) (fun _ => rfl)) (AC hx25 (AC (by simp) (AC (ap_map (D.int .i64) x20.2.2.2.2.1 ([x24.1] : List Int) 0 x20.2.2.1) (AC (all_ok (D.int .i64) 1 ([x22.1] : List Int) (fun _ => rfl)) (AC hx26 (AC (by simp) (AC (ap_map (D.int .i64) x20.2.2.2.2.2 ([x22.1] : List Int) 0 x20.2.2.2.1) (AC rfl (AC (all_ok (D.int .i64) 1 ([x24.1] : List Int) (fun _ => rfl)) (AC hx25 (AC (by simp) (AC (ap_map (D.int .i64) x20.2.2.2.2.1 ([x24.1] : List Int) 0 x20.2.2.1) (AC (all_ok (D.int .i64) 1 ([x22.1] : List Int) (fun _ => rfl)) (AC hx26 (AC (by simp) (AC (ap_map (D.int .i64) x20.2.2.2.2.2 ([x22.1] : List Int) 0 x20.2.2.2.1) (AC rfl (AC rfl (AC (T_keep_Src_N_ok k (w64 (1 * 2 ^ (Nat.min x22.1.toNat (IntKind.bits .i64)))) p7 x22.2 x24 hx24) (AC (all_ok (D.int .i64) 1 ([x24.1] : List Int) (fun _ => rfl)) (AC hx25 (AC (by simp) (AC (ap_map (D.int .i64) x20.2.2.2.2.1 ([x24.1] : List Int) 0 x20.2.2.1) (AC (all_ok (D.int .i64) 1 ([x22.1] : List Int) (fun _ => rfl)) (AC hx26 (AC (by simp) (AC (ap_map (D.int .i64) x20.2.2.2.2.2 ([x22.1] : List Int) 0 x20.2.2.2.1) (AC (T_keep_Src_N_ok k (w64 (1 * 2 ^ (Nat.min x22.1.toNat (IntKind.bits .i64)))) p7 x22.2 x24 hx24) (AC (all_ok (D.int .i64) 1 ([x24.1] : List Int) (fun _ => rfl)) (AC hx25 (AC (by simp) (AC (ap_map (D.int .i64) x20.2.2.2.2.1 ([x24.1] : List Int) 0 x20.2.2.1) (AC (all_ok (D.int .i64) 1 ([x22.1] : List Int) (fun _ => rfl)) (AC hx26 (AC (by simp) (AC (ap_map (D.int .i64) x20.2.2.2.2.2 ([x22.1] : List Int) 0 x20.2.2.2.1) (AC rfl (A1 rfl))))))))))))))))))))))))))))))))))))))))))))))))))))))))))))))))))))))))))))) ?_
   refine K_blk (K_r [] [] (by kernel_rfl) trivial ?_)
   cases H
   exact K_end (by kernel_rfl)
 · refine K_f (by kernel_rfl) (decide_eq_false hx21) ?_
   refine K_g (by kernel_rfl) ?_
   cases H
   exact K_exit0 rfl (by kernel_rfl)
def T_keep_Src_Word (k : Nat) (p1 : Int) (p2 : Int) (p3 : Int) (p4 : Int) (p5 : Int) (p6 : List Int) (p7 : List Int) (p8 : Int) : Option (Nat × Nat × Int × (List Int) × (List Int)) := match k with
 | 0 => none
 | k + 1 => ((loopT (T_keep_Src_Word_l1 k p1 p2 p3 p4 p5 p6 p7) k (0, p8, 0, 0, [], [])).bind fun x27 => some (x27.2.1, x27.2.2.1, x27.1, x27.2.2.2.1, x27.2.2.2.2))
abbrev C_T_keep_Src_Word (k : Nat) (p1 : Int) (p2 : Int) (p3 : Int) (p4 : Int) (p5 : Int) (p6 : List Int) (p7 : List Int) (p8 : Int) (r : Nat × Nat × Int × (List Int) × (List Int)) : Prop := evF X k n_keep_Src_Word [(Pt 0), (.agg [cI p1, cI p2, cI p3, cI p4, cI p5, cL p6])] [.cells [cL p7, cI p8]] = some ((.agg [.own 1 0 r.1, .own 2 0 r.2.1]), [.cells [cL p7, cI r.2.2.1], VI r.2.2.2.1, VI r.2.2.2.2])
theorem T_keep_Src_Word_ok (k : Nat) (p1 : Int) (p2 : Int) (p3 : Int) (p4 : Int) (p5 : Int) (p6 : List Int) (p7 : List Int) (p8 : Int) (r : Nat × Nat × Int × (List Int) × (List Int)) : T_keep_Src_Word k p1 p2 p3 p4 p5 p6 p7 p8 = some r → C_T_keep_Src_Word k p1 p2 p3 p4 p5 p6 p7 p8 r := by
 intro H
 cases k with
 | zero => simp [T_keep_Src_Word] at H
 | succ k =>
  simp only [T_keep_Src_Word] at H
  refine F_in X_keep_Src_Word rfl ?_
  refine K_seq (K_r [] [] (by kernel_rfl) trivial ?_)
  refine K_seq (K_r [] [] (by kernel_rfl) trivial ?_)
  refine K_seq (K_seq (K_r [] [] (by kernel_rfl) trivial ?_))
  refine K_block (K_g (by kernel_rfl) ?_)
  refine K_conv (σ' := ⟨[(0, (Pt 0)), (3, (Pt 1)), (4, (Pt 2)), (5, (Pt 3)), (6, (I 0))], [.cells [cL p7, cI p8], .cells [cI p1, cI p2, cI p3, cI p4, cI p5, cL p6], .cells [.nil, .nil], .cells [.own 4 0 0, .own 5 0 0], VI [], VI []]⟩) (by kernel_rfl) ?_
  obtain ⟨x27, hx27, H⟩ := bind_some' H
  refine K_loop ⟨[(4, (Pt 1)), (5, (Pt 2))], [.cells [cL p7, cI x27.1], .cells [.nil, .nil], .cells [.own 3 0 x27.2.1, .own 4 0 x27.2.2.1], VI x27.2.2.2.1, VI x27.2.2.2.2]⟩ (loop_ok (fun (s : Int × Int × Nat × Nat × (List Int) × (List Int)) => ⟨[(0, (Pt 0)), (3, (Pt 1)), (4, (Pt 2)), (5, (Pt 3)), (6, (I s.1))], [.cells [cL p7, cI s.2.1], .cells [cI p1, cI p2, cI p3, cI p4, cI p5, cL p6], .cells [.nil, .nil], .cells [.own 4 0 s.2.2.1, .own 5 0 s.2.2.2.1], VI s.2.2.2.2.1, VI s.2.2.2.2.2]⟩) (fun (r : (Int × Nat × Nat × (List Int) × (List Int))) => (.exit 0, ⟨[(4, (Pt 1)), (5, (Pt 2))], [.cells [cL p7, cI r.1], .cells [.nil, .nil], .cells [.own 3 0 r.2.1, .own 4 0 r.2.2.1], VI r.2.2.2.1, VI r.2.2.2.2]⟩)) (fun r h => by cases h) (T_keep_Src_Word_l1_ok k p1 p2 p3 p4 p5 p6 p7) k (0, p8, 0, 0, [], []) x27 hx27) rfl ?_
  refine K_seq (K_r [] [] (by kernel_rfl) trivial ?_)
  refine K_g (by kernel_rfl) ?_
  cases H
  refine K_ret ?_
  kernel_rfl
def T_keep_Src_Upper_l1 (k : Nat) (x1 : Int) (p1 : List Int) (p2 : List Int) (p3 : List Int) (x17 : Int × Int × Nat × Nat × (List Int) × (List Int)) : Option ((Int × Int × Nat × Nat × (List Int) × (List Int)) ⊕ ((Int × Nat × Nat × (List Int) × (List Int)))) :=
 (if x17.1 < x1 then (T_keep_Src_N k 5 p3 x17.2.1).bind fun x19 => (at? p1 x17.1).bind fun x20 => (if (0 : Int) ≤ (w64 (4 - x19.1)) then (if x17.2.2.1 + 1 ≤ LIM then (if x17.2.2.2.1 + 1 ≤ LIM then some (.inl ((w64 (x17.1 + 1)), x19.2, (x17.2.2.1 + 1), (x17.2.2.2.1 + 1), ((x17.2.2.2.2.1.drop 0).take x17.2.2.1 ++ ([(x20.fdiv (2 ^ (Nat.min (w64 (4 - x19.1)).toNat (IntKind.bits .i64))))] : List Int)), ((x17.2.2.2.2.2.drop 0).take x17.2.2.2.1 ++ ([x19.1] : List Int)))) else none) else none) else none) else some (.inr (x17.2.1, x17.2.2.1, x17.2.2.2.1, x17.2.2.2.2.1, x17.2.2.2.2.2)))
theorem T_keep_Src_Upper_l1_ok (k : Nat) (x1 : Int) (p1 : List Int) (p2 : List Int) (p3 : List Int) : ∀ (x17 : Int × Int × Nat × Nat × (List Int) × (List Int)) (x : (Int × Int × Nat × Nat × (List Int) × (List Int)) ⊕ ((Int × Nat × Nat × (List Int) × (List Int)))), T_keep_Src_Upper_l1 k x1 p1 p2 p3 x17 = some x → evC X (evF X k) k 1 l_keep_Src_Upper_1 ⟨[(0, (Pt 0)), (3, (Pt 1)), (4, (Pt 2)), (5, (Pt 3)), (10, (I x1)), (11, (I x17.1))], [.cells [cL p3, cI x17.2.1], .cells [cL p1, cL p2], .cells [.nil, .nil], .cells [.own 4 0 x17.2.2.1, .own 5 0 x17.2.2.2.1], VI x17.2.2.2.2.1, VI x17.2.2.2.2.2]⟩ = some (outS (fun (s : Int × Int × Nat × Nat × (List Int) × (List Int)) => ⟨[(0, (Pt 0)), (3, (Pt 1)), (4, (Pt 2)), (5, (Pt 3)), (10, (I x1)), (11, (I s.1))], [.cells [cL p3, cI s.2.1], .cells [cL p1, cL p2], .cells [.nil, .nil], .cells [.own 4 0 s.2.2.1, .own 5 0 s.2.2.2.1], VI s.2.2.2.2.1, VI s.2.2.2.2.2]⟩) (fun (r : (Int × Nat × Nat × (List Int) × (List Int))) => (.exit 0, ⟨[(4, (Pt 1)), (5, (Pt 2))], [.cells [cL p3, cI r.1], .cells [.nil, .nil], .cells [.own 3 0 r.2.1, .own 4 0 r.2.2.1], VI r.2.2.2.1, VI r.2.2.2.2]⟩)) x) := by
 intro x17 x H
 unfold T_keep_Src_Upper_l1 at H
 refine K_in ?_
 refine K_seq (K_r [] [] (by kernel_rfl) trivial ?_)
 refine K_seq ?_
 rcases ite_some H with ⟨hx18, H⟩ | ⟨hx18, H⟩
 · refine K_t (by kernel_rfl) (decide_eq_true hx18) ?_
   refine K_g (by kernel_rfl) ?_
   refine K_skip (K_seq (K_block (K_seq (K_r [] [] (by kernel_rfl) trivial ?_))))
   refine K_seq ?_
   obtain ⟨x19, hx19, H⟩ := bind_some' H
   refine K_r [.r (I x19.1) [.cells [cL p3, cI x19.2]]] [C_T_keep_Src_N k 5 p3 x17.2.1 x19] (by kernel_rfl) (A1 (T_keep_Src_N_ok k 5 p3 x17.2.1 x19 hx19)) ?_
   obtain ⟨x20, hx20, H⟩ := bind_some' H
   obtain ⟨hx21, H⟩ := guard_some H
   obtain ⟨hx22, H⟩ := guard_some H
   obtain ⟨hx23, H⟩ := guard_some H
   refine K_rD [.l [.int .i64 x20], .n 1, .l (((x17.2.2.2.2.1.drop 0).take x17.2.2.1 ++ ([(x20.fdiv (2 ^ (Nat.min (w64 (4 - x19.1)).toNat (IntKind.bits .i64))))] : List Int)).map (D.int .i64)), .n 1, .l (((x17.2.2.2.2.2.drop 0).take x17.2.2.2.1 ++ ([x19.1] : List Int)).map (D.int .i64)), .n 1, .l (((x17.2.2.2.2.1.drop 0).take x17.2.2.1 ++ ([(x20.fdiv (2 ^ (Nat.min (w64 (4 - x19.1)).toNat (IntKind.bits .i64))))] : List Int)).map (D.int .i64)), .n 1, .l (((x17.2.2.2.2.2.drop 0).take x17.2.2.2.1 ++ ([x19.1] : List Int)).map (D.int .i64)), .l [.int .i64 x20], .n 1, .l (((x17.2.2.2.2.1.drop 0).take x17.2.2.1 ++ ([(x20.fdiv (2 ^ (Nat.min (w64 (4 - x19.1)).toNat (IntKind.bits .i64))))] : List Int)).map (D.int .i64)), .n 1, .l (((x17.2.2.2.2.2.drop 0).take x17.2.2.2.1 ++ ([x19.1] : List Int)).map (D.int .i64)), .l [.int .i64 x20], .n 1, .l (((x17.2.2.2.2.1.drop 0).take x17.2.2.1 ++ ([(x20.fdiv (2 ^ (Nat.min (w64 (4 - x19.1)).toNat (IntKind.bits .i64))))] : List Int)).map (D.int .i64)), .n 1, .l (((x17.2.2.2.2.2.drop 0).take x17.2.2.2.1 ++ ([x19.1] : List Int)).map (D.int .i64)), .n 1, .l (((x17.2.2.2.2.1.drop 0).take x17.2.2.1 ++ ([(x20.fdiv (2 ^ (Nat.min (w64 (4 - x19.1)).toNat (IntKind.bits .i64))))] : List Int)).map (D.int .i64)), .n 1, .l (((x17.2.2.2.2.2.drop 0).take x17.2.2.2.1 ++ ([x19.1] : List Int)).map (D.int .i64)), .n 1, .l (((x17.2.2.2.2.1.drop 0).take x17.2.2.1 ++ ([(x20.fdiv (2 ^ (Nat.min (w64 (4 - x19.1)).toNat (IntKind.bits .i64))))] : List Int)).map (D.int .i64)), .n 1, .l (((x17.2.2.2.2.2.drop 0).take x17.2.2.2.1 ++ ([x19.1] : List Int)).map (D.int .i64)), .l [.int .i64 x20], .n 1, .l (((x17.2.2.2.2.1.drop 0).take x17.2.2.1 ++ ([(x20.fdiv (2 ^ (Nat.min (w64 (4 - x19.1)).toNat (IntKind.bits .i64))))] : List Int)).map (D.int .i64)), .n 1, .l (((x17.2.2.2.2.2.drop 0).take x17.2.2.2.1 ++ ([x19.1] : List Int)).map (D.int .i64)), .l [.int .i64 x20], .n 1, .l (((x17.2.2.2.2.1.drop 0).take x17.2.2.1 ++ ([(x20.fdiv (2 ^ (Nat.min (w64 (4 - x19.1)).toNat (IntKind.bits .i64))))] : List Int)).map (D.int .i64)), .n 1, .l (((x17.2.2.2.2.2.drop 0).take x17.2.2.2.1 ++ ([x19.1] : List Int)).map (D.int .i64))] ((fun (z1 : St) => [(0 : Int) ≤ x17.1 ∧ x17.1 < (((p1.map (D.int .i64))).length : Int), ((p1.map (D.int .i64)).getD x17.1.toNat (.int .i64 0)).cells = [.int .i64 x20], (0 : Int) ≤ (w64 (4 - x19.1)), (List.all (([(x20.fdiv (2 ^ (Nat.min (w64 (4 - x19.1)).toNat (IntKind.bits .i64))))] : List Int).map (D.int .i64)) fun d => d.cells.length == (D.cells (.int .i64 0)).length) = true, x17.2.2.1 + 1 ≤ LIM, (([(x20.fdiv (2 ^ (Nat.min (w64 (4 - x19.1)).toNat (IntKind.bits .i64))))] : List Int).map (D.int .i64)).length = 1, ((x17.2.2.2.2.1.map (D.int .i64)).drop 0).take x17.2.2.1 ++ (([(x20.fdiv (2 ^ (Nat.min (w64 (4 - x19.1)).toNat (IntKind.bits .i64))))] : List Int).map (D.int .i64)) = ((x17.2.2.2.2.1.drop 0).take x17.2.2.1 ++ ([(x20.fdiv (2 ^ (Nat.min (w64 (4 - x19.1)).toNat (IntKind.bits .i64))))] : List Int)).map (D.int .i64), (List.all (([x19.1] : List Int).map (D.int .i64)) fun d => d.cells.length == (D.cells (.int .i64 0)).length) = true, x17.2.2.2.1 + 1 ≤ LIM, (([x19.1] : List Int).map (D.int .i64)).length = 1, ((x17.2.2.2.2.2.map (D.int .i64)).drop 0).take x17.2.2.2.1 ++ (([x19.1] : List Int).map (D.int .i64)) = ((x17.2.2.2.2.2.drop 0).take x17.2.2.2.1 ++ ([x19.1] : List Int)).map (D.int .i64), (List.all (([(x20.fdiv (2 ^ (Nat.min (w64 (4 - x19.1)).toNat (IntKind.bits .i64))))] : List Int).map (D.int .i64)) fun d => d.cells.length == (D.cells (.int .i64 0)).length) = true, x17.2.2.1 + 1 ≤ LIM, (([(x20.fdiv (2 ^ (Nat.min (w64 (4 - x19.1)).toNat (IntKind.bits .i64))))] : List Int).map (D.int .i64)).length = 1, ((x17.2.2.2.2.1.map (D.int .i64)).drop 0).take x17.2.2.1 ++ (([(x20.fdiv (2 ^ (Nat.min (w64 (4 - x19.1)).toNat (IntKind.bits .i64))))] : List Int).map (D.int .i64)) = ((x17.2.2.2.2.1.drop 0).take x17.2.2.1 ++ ([(x20.fdiv (2 ^ (Nat.min (w64 (4 - x19.1)).toNat (IntKind.bits .i64))))] : List Int)).map (D.int .i64), (List.all (([x19.1] : List Int).map (D.int .i64)) fun d => d.cells.length == (D.cells (.int .i64 0)).length) = true, x17.2.2.2.1 + 1 ≤ LIM, (([x19.1] : List Int).map (D.int .i64)).length = 1, ((x17.2.2.2.2.2.map (D.int .i64)).drop 0).take x17.2.2.2.1 ++ (([x19.1] : List Int).map (D.int .i64)) = ((x17.2.2.2.2.2.drop 0).take x17.2.2.2.1 ++ ([x19.1] : List Int)).map (D.int .i64), z1 = z1, (0 : Int) ≤ x17.1 ∧ x17.1 < (((p1.map (D.int .i64))).length : Int), ((p1.map (D.int .i64)).getD x17.1.toNat (.int .i64 0)).cells = [.int .i64 x20], (0 : Int) ≤ (w64 (4 - x19.1)), (List.all (([(x20.fdiv (2 ^ (Nat.min (w64 (4 - x19.1)).toNat (IntKind.bits .i64))))] : List Int).map (D.int .i64)) fun d => d.cells.length == (D.cells (.int .i64 0)).length) = true, x17.2.2.1 + 1 ≤ LIM, (([(x20.fdiv (2 ^ (Nat.min (w64 (4 - x19.1)).toNat (IntKind.bits .i64))))] : List Int).map (D.int .i64)).length = 1, ((x17.2.2.2.2.1.map (D.int .i64)).drop 0).take x17.2.2.1 ++ (([(x20.fdiv (2 ^ (Nat.min (w64 (4 - x19.1)).toNat (IntKind.bits .i64))))] : List Int).map (D.int .i64)) = ((x17.2.2.2.2.1.drop 0).take x17.2.2.1 ++ ([(x20.fdiv (2 ^ (Nat.min (w64 (4 - x19.1)).toNat (IntKind.bits .i64))))] : List Int)).map (D.int .i64), (List.all (([x19.1] : List Int).map (D.int .i64)) fun d => d.cells.length == (D.cells (.int .i64 0)).length) = true, x17.2.2.2.1 + 1 ≤ LIM, (([x19.1] : List Int).map (D.int .i64)).length = 1, ((x17.2.2.2.2.2.map (D.int .i64)).drop 0).take x17.2.2.2.1 ++ (([x19.1] : List Int).map (D.int .i64)) = ((x17.2.2.2.2.2.drop 0).take x17.2.2.2.1 ++ ([x19.1] : List Int)).map (D.int .i64), z1 = z1, (0 : Int) ≤ x17.1 ∧ x17.1 < (((p1.map (D.int .i64))).length : Int), ((p1.map (D.int .i64)).getD x17.1.toNat (.int .i64 0)).cells = [.int .i64 x20], (0 : Int) ≤ (w64 (4 - x19.1)), (List.all (([(x20.fdiv (2 ^ (Nat.min (w64 (4 - x19.1)).toNat (IntKind.bits .i64))))] : List Int).map (D.int .i64)) fun d => d.cells.length == (D.cells (.int .i64 0)).length) = true, x17.2.2.1 + 1 ≤ LIM, (([(x20.fdiv (2 ^ (Nat.min (w64 (4 - x19.1)).toNat (IntKind.bits .i64))))] : List Int).map (D.int .i64)).length = 1, ((x17.2.2.2.2.1.map (D.int .i64)).drop 0).take x17.2.2.1 ++ (([(x20.fdiv (2 ^ (Nat.min (w64 (4 - x19.1)).toNat (IntKind.bits .i64))))] : List Int).map (D.int .i64)) = ((x17.2.2.2.2.1.drop 0).take x17.2.2.1 ++ ([(x20.fdiv (2 ^ (Nat.min (w64 (4 - x19.1)).toNat (IntKind.bits .i64))))] : List Int)).map (D.int .i64), (List.all (([x19.1] : List Int).map (D.int .i64)) fun d => d.cells.length == (D.cells (.int .i64 0)).length) = true, x17.2.2.2.1 + 1 ≤ LIM, (([x19.1] : List Int).map (D.int .i64)).length = 1, ((x17.2.2.2.2.2.map (D.int .i64)).drop 0).take x17.2.2.2.1 ++ (([x19.1] : List Int).map (D.int .i64)) = ((x17.2.2.2.2.2.drop 0).take x17.2.2.2.1 ++ ([x19.1] : List Int)).map (D.int .i64), (List.all (([(x20.fdiv (2 ^ (Nat.min (w64 (4 - x19.1)).toNat (IntKind.bits .i64))))] : List Int).map (D.int .i64)) fun d => d.cells.length == (D.cells (.int .i64 0)).length) = true, x17.2.2.1 + 1 ≤ LIM, (([(x20.fdiv (2 ^ (Nat.min (w64 (4 - x19.1)).toNat (IntKind.bits .i64))))] : List Int).map (D.int .i64)).length = 1, ((x17.2.2.2.2.1.map (D.int .i64)).drop 0).take x17.2.2.1 ++ (([(x20.fdiv (2 ^ (Nat.min (w64 (4 - x19.1)).toNat (IntKind.bits .i64))))] : List Int).map (D.int .i64)) = ((x17.2.2.2.2.1.drop 0).take x17.2.2.1 ++ ([(x20.fdiv (2 ^ (Nat.min (w64 (4 - x19.1)).toNat (IntKind.bits .i64))))] : List Int)).map (D.int .i64), (List.all (([x19.1] : List Int).map (D.int .i64)) fun d => d.cells.length == (D.cells (.int .i64 0)).length) = true, x17.2.2.2.1 + 1 ≤ LIM, (([x19.1] : List Int).map (D.int .i64)).length = 1, ((x17.2.2.2.2.2.map (D.int .i64)).drop 0).take x17.2.2.2.1 ++ (([x19.1] : List Int).map (D.int .i64)) = ((x17.2.2.2.2.2.drop 0).take x17.2.2.2.1 ++ ([x19.1] : List Int)).map (D.int .i64), z1 = z1, (List.all (([(x20.fdiv (2 ^ (Nat.min (w64 (4 - x19.1)).toNat (IntKind.bits .i64))))] : List Int).map (D.int .i64)) fun d => d.cells.length == (D.cells (.int .i64 0)).length) = true, x17.2.2.1 + 1 ≤ LIM, (([(x20.fdiv (2 ^ (Nat.min (w64 (4 - x19.1)).toNat (IntKind.bits .i64))))] : List Int).map (D.int .i64)).length = 1, ((x17.2.2.2.2.1.map (D.int .i64)).drop 0).take x17.2.2.1 ++ (([(x20.fdiv (2 ^ (Nat.min (w64 (4 - x19.1)).toNat (IntKind.bits .i64))))] : List Int).map (D.int .i64)) = ((x17.2.2.2.2.1.drop 0).take x17.2.2.1 ++ ([(x20.fdiv (2 ^ (Nat.min (w64 (4 - x19.1)).toNat (IntKind.bits .i64))))] : List Int)).map (D.int .i64), (List.all (([x19.1] : List Int).map (D.int .i64)) fun d => d.cells.length == (D.cells (.int .i64 0)).length) = true, x17.2.2.2.1 + 1 ≤ LIM, (([x19.1] : List Int).map (D.int .i64)).length = 1, ((x17.2.2.2.2.2.map (D.int .i64)).drop 0).take x17.2.2.2.1 ++ (([x19.1] : List Int).map (D.int .i64)) = ((x17.2.2.2.2.2.drop 0).take x17.2.2.2.1 ++ ([x19.1] : List Int)).map (D.int .i64), z1 = z1, z1 = z1, (0 : Int) ≤ x17.1 ∧ x17.1 < (((p1.map (D.int .i64))).length : Int), ((p1.map (D.int .i64)).getD x17.1.toNat (.int .i64 0)).cells = [.int .i64 x20], (0 : Int) ≤ (w64 (4 - x19.1)), (List.all (([(x20.fdiv (2 ^ (Nat.min (w64 (4 - x19.1)).toNat (IntKind.bits .i64))))] : List Int).map (D.int .i64)) fun d => d.cells.length == (D.cells (.int .i64 0)).length) = true, x17.2.2.1 + 1 ≤ LIM, (([(x20.fdiv (2 ^ (Nat.min (w64 (4 - x19.1)).toNat (IntKind.bits .i64))))] : List Int).map (D.int .i64)).length = 1, ((x17.2.2.2.2.1.map (D.int .i64)).drop 0).take x17.2.2.1 ++ (([(x20.fdiv (2 ^ (Nat.min (w64 (4 - x19.1)).toNat (IntKind.bits .i64))))] : List Int).map (D.int .i64)) = ((x17.2.2.2.2.1.drop 0).take x17.2.2.1 ++ ([(x20.fdiv (2 ^ (Nat.min (w64 (4 - x19.1)).toNat (IntKind.bits .i64))))] : List Int)).map (D.int .i64), (List.all (([x19.1] : List Int).map (D.int .i64)) fun d => d.cells.length == (D.cells (.int .i64 0)).length) = true, x17.2.2.2.1 + 1 ≤ LIM, (([x19.1] : List Int).map (D.int .i64)).length = 1, ((x17.2.2.2.2.2.map (D.int .i64)).drop 0).take x17.2.2.2.1 ++ (([x19.1] : List Int).map (D.int .i64)) = ((x17.2.2.2.2.2.drop 0).take x17.2.2.2.1 ++ ([x19.1] : List Int)).map (D.int .i64), (0 : Int) ≤ x17.1 ∧ x17.1 < (((p1.map (D.int .i64))).length : Int), ((p1.map (D.int .i64)).getD x17.1.toNat (.int .i64 0)).cells = [.int .i64 x20], (0 : Int) ≤ (w64 (4 - x19.1)), (List.all (([(x20.fdiv (2 ^ (Nat.min (w64 (4 - x19.1)).toNat (IntKind.bits .i64))))] : List Int).map (D.int .i64)) fun d => d.cells.length == (D.cells (.int .i64 0)).length) = true, x17.2.2.1 + 1 ≤ LIM, (([(x20.fdiv (2 ^ (Nat.min (w64 (4 - x19.1)).toNat (IntKind.bits .i64))))] : List Int).map (D.int .i64)).length = 1, ((x17.2.2.2.2.1.map (D.int .i64)).drop 0).take x17.2.2.1 ++ (([(x20.fdiv (2 ^ (Nat.min (w64 (4 - x19.1)).toNat (IntKind.bits .i64))))] : List Int).map (D.int .i64)) = ((x17.2.2.2.2.1.drop 0).take x17.2.2.1 ++ ([(x20.fdiv (2 ^ (Nat.min (w64 (4 - x19.1)).toNat (IntKind.bits .i64))))] : List Int)).map (D.int .i64), (List.all (([x19.1] : List Int).map (D.int .i64)) fun d => d.cells.length == (D.cells (.int .i64 0)).length) = true, x17.2.2.2.1 + 1 ≤ LIM, (([x19.1] : List Int).map (D.int .i64)).length = 1, ((x17.2.2.2.2.2.map (D.int .i64)).drop 0).take x17.2.2.2.1 ++ (([x19.1] : List Int).map (D.int .i64)) = ((x17.2.2.2.2.2.drop 0).take x17.2.2.2.1 ++ ([x19.1] : List Int)).map (D.int .i64), z1 = z1, z1 = z1]) (⟨[(0, (Pt 0)), (3, (Pt 1)), (4, (Pt 2)), (5, (Pt 3)), (10, (I x1)), (11, (I x17.1))], [.cells [cL p3, cI x19.2], .cells [cL p1, cL p2], .cells [.nil, .nil], .cells [.own 4 0 (x17.2.2.1 + 1), .own 5 0 (x17.2.2.2.1 + 1)], VI ((x17.2.2.2.2.1.drop 0).take x17.2.2.1 ++ ([(x20.fdiv (2 ^ (Nat.min (w64 (4 - x19.1)).toNat (IntKind.bits .i64))))] : List Int)), VI ((x17.2.2.2.2.2.drop 0).take x17.2.2.2.1 ++ ([x19.1] : List Int))]⟩)) (by kernel_rfl) (AC (at_ok hx20 (D.int .i64) (.int .i64 0)).1 (AC (at_ok hx20 (D.int .i64) (.int .i64 0)).2 (AC hx21 (AC (all_ok (D.int .i64) 1 ([(x20.fdiv (2 ^ (Nat.min (w64 (4 - x19.1)).toNat (IntKind.bits .i64))))] : List Int) (fun _ => rfl)) (AC hx22 (AC (by simp) (AC (ap_map (D.int .i64) x17.2.2.2.2.1 ([(x20.fdiv (2 ^ (Nat.min (w64 (4 - x19.1)).toNat (IntKind.bits .i64))))] : List Int) 0 x17.2.2.1) (AC (all_ok (D.int .i64) 1 ([x19.1] : List Int) (fun _ => rfl)) (AC hx23 (AC (by simp) (AC (ap_map (D.int .i64) x17.2.2.2.2.2 ([x19.1] : List Int) 0 x17.2.2.2.1) (AC (all_ok (D.int .i64) 1 ([(x20.fdiv (2 ^ (Nat.min (w64 (4 - x19.1)).toNat (IntKind.bits .i64))))] : List Int) (fun _ => rfl)) (AC hx22 (AC (by simp) (AC (ap_map (D.int .i64) x17.2.2.2.2.1 ([(x20.fdiv (2 ^ (Nat.min (w64 (4 - x19.1)).toNat (IntKind.bits .i64))))] : List Int) 0 x17.2.2.1) (AC (all_ok (D.int .i64) 1 ([x19.1] : List Int) (fun _ => rfl)) (AC hx23 (AC (by simp) (AC (ap_map (D.int .i64) x17.2.2.2.2.2 ([x19.1] : List Int) 0 x17.2.2.2.1) (AC rfl (AC (at_ok hx20 (D.int .i64) (.int .i64 0)).1 (AC (at_ok hx20 (D.int .i64) (.int .i64 0)).2 (AC hx21 (AC (all_ok (D.int .i64) 1 ([(x20.fdiv (2 ^ (Nat.min (w64 (4 - x19.1)).toNat (IntKind.bits .i64))))] : List Int) (fun _ => rfl)) (AC hx22 (AC (by simp) (AC (ap_map (D.int .i64) x17.2.2.2.2.1 ([(x20.fdiv (2 ^ (Nat.min (w64 (4 - x19.1)).toNat (IntKind.bits .i64))))] : List Int) 0 x17.2.2.1) (AC (all_ok (D.int .i64) 1 ([x19.1] : List Int) (fun _ => rfl)) (AC hx23 (AC (by simp) (AC (ap_map (D.int .i64) x17.2.2.2.2.2 ([x19.1] : List Int) 0 x17.2.2.2.1) (AC rfl (AC (at_ok hx20 (D.int .i64) (.int .i64 0)).1 (AC (at_ok hx20 (D.int .i64) (.int .i64 0)).2 (AC hx21 (AC (all_ok (D.int .i64) 1 ([(x20.fdiv (2 ^ (Nat.min (w64 (4 - x19.1)).toNat (IntKind.bits .i64))))] : List Int) (fun _ => rfl)) (AC hx22 (AC (by simp) (AC (ap_map (D.int .i64) x17.2.2.2.2.1 ([(x20.fdiv (2 ^ (Nat.min (w64 (4 - x19.1)).toNat (IntKind.bits .i64))))] : List Int) 0 x17.2.2.1) (AC (all_ok (D.int .i64) 1 ([x19.1] : List Int) (fun _ => rfl)) (AC hx23 (AC (by simp) (AC (ap_map (D.int .i64) x17.2.2.2.2.2 ([x19.1] : List Int) 0 x17.2.2.2.1) (AC (all_ok (D.int .i64) 1 ([(x20.fdiv (2 ^ (Nat.min (w64 (4 - x19.1)).toNat (IntKind.bits .i64))))] : List Int) (fun _ => rfl)) (AC hx22 (AC (by simp) (AC (ap_map (D.int .i64) x17.2.2.2.2.1 ([(x20.fdiv (2 ^ (Nat.min (w64 (4 - x19.1)).toNat (IntKind.bits .i64))))] : List Int) 0 x17.2.2.1) (AC (all_ok (D.int .i64) 1 ([x19.1] : List Int) (fun _ => rfl)) (AC hx23 (AC (by simp) (AC (ap_map (D.int .i64) x17.2.2.2.2.2 ([x19.1] : List Int) 0 x17.2.2.2.1) (AC rfl (AC (all_ok (D.int .i64) 1 ([(x20.fdiv (2 ^ (Nat.min (w64 (4 - x19.1)).toNat (IntKind.bits .i64))))] : List Int) (fun _ => rfl)) (AC hx22 (AC (by simp) (AC (ap_map (D.int .i64) x17.2.2.2.2.1 ([(x20.fdiv (2 ^ (Nat.min (w64 (4 - x19.1)).toNat (IntKind.bits .i64))))] : List Int) 0 x17.2.2.1) (AC (all_ok (D.int .i64) 1 ([x19.1] : List Int) (fun _ => rfl)) (AC hx23 (AC (by simp) (AC (ap_map (D.int .i64) x17.2.2.2.2.2 ([x19.1] : List Int) 0 x17.2.2.2.1) (AC rfl (AC rfl (AC (at_ok hx20 (D.int .i64) (.int .i64 0)).1 (AC (at_ok hx20 (D.int .i64) (.int .i64 0)).2 (AC hx21 (AC (all_ok (D.int .i64) 1 ([(x20.fdiv (2 ^ (Nat.min (w64 (4 - x19.1)).toNat (IntKind.bits .i64))))] : List Int) (fun _ => rfl)) (AC hx22 (AC (by simp) (AC (ap_map (D.int .i64) x17.2.2.2.2.1 ([(x20.fdiv (2 ^ (Nat.min (w64 (4 - x19.1)).toNat (IntKind.bits .i64))))] : List Int) 0 x17.2.2.1) (AC (all_ok (D.int .i64) 1 ([x19.1] : List Int) (fun _ => rfl)) (AC hx23 (AC (by simp) (AC (ap_map (D.int .i64) x17.2.2.2.2.2 ([x19.1] : List Int) 0 x17.2.2.2.1) (AC (at_ok hx20 (D.int .i64) (.int .i64 0)).1 (AC (at_ok hx20 (D.int .i64) (.int .i64 0)).2 (AC hx21 (AC (all_ok (D.int .i64) 1 ([(x20.fdiv (2 ^ (Nat.min (w64 (4 - x19.1)).toNat (IntKind.bits .i64))))] : List Int) (fun _ => rfl)) (AC hx22 (AC (by simp) (AC (ap_map (D.int .i64) x17.2.2.2.2.1 ([(x20.fdiv (2 ^ (Nat.min (w64 (4 - x19.1)).toNat (IntKind.bits .i64))))] : List Int) 0 x17.2.2.1) (AC (all_ok (D.int .i64) 1 ([x19.1] : List Int) (fun _ => rfl)) (AC hx23 (AC (by simp) (AC (ap_map (D.int .i64) x17.2.2.2.2.2 ([x19.1] : List Int) 0 x17.2.2.2.1) (AC rfl (A1 rfl)))))))))))))))))))))))))))))))))))))))))))))))))))))))))))))))))))))))))))))))))))))) ?_
   refine K_blk (K_r [] [] (by kernel_rfl) trivial ?_)
   cases H
   exact K_end (by kernel_rfl)
 · refine K_f (by kernel_rfl) (decide_eq_false hx18) ?_
   refine K_g (by kernel_rfl) ?_
   cases H
   exact K_exit0 rfl (by kernel_rfl)
def T_keep_Src_Upper (k : Nat) (p1 : List Int) (p2 : List Int) (p3 : List Int) (p4 : Int) : Option ((List Int) × (List Int) × Int) := match k with
 | 0 => none
 | k + 1 => ((loopT (T_keep_Src_Upper_l1 k (p1.length : Int) p1 p2 p3) k (0, p4, 0, 0, [], [])).bind fun x24 => some (((x24.2.2.2.1.drop 0).take x24.2.1), ((x24.2.2.2.2.drop 0).take x24.2.2.1), x24.1))
abbrev C_T_keep_Src_Upper (k : Nat) (p1 : List Int) (p2 : List Int) (p3 : List Int) (p4 : Int) (r : (List Int) × (List Int) × Int) : Prop := evF X k n_keep_Src_Upper [(Pt 0), (.agg [cL p1, cL p2])] [.cells [cL p3, cI p4]] = some ((.agg [cL r.1, cL r.2.1]), [.cells [cL p3, cI r.2.2]])
theorem T_keep_Src_Upper_ok (k : Nat) (p1 : List Int) (p2 : List Int) (p3 : List Int) (p4 : Int) (r : (List Int) × (List Int) × Int) : T_keep_Src_Upper k p1 p2 p3 p4 = some r → C_T_keep_Src_Upper k p1 p2 p3 p4 r := by
 intro H
 cases k with
 | zero => simp [T_keep_Src_Upper] at H
 | succ k =>
  simp only [T_keep_Src_Upper] at H
  refine F_in X_keep_Src_Upper rfl ?_
  refine K_seq (K_r [] [] (by kernel_rfl) trivial ?_)
  refine K_seq (K_r [] [] (by kernel_rfl) trivial ?_)
  refine K_seq (K_seq (K_r [.n p1.length] [((p1.map (D.int .i64))).length = p1.length] (by kernel_rfl) (A1 (List.length_map _)) ?_))
  refine K_block (K_g (by kernel_rfl) ?_)
  refine K_conv (σ' := ⟨[(0, (Pt 0)), (3, (Pt 1)), (4, (Pt 2)), (5, (Pt 3)), (10, (I (p1.length : Int))), (11, (I 0))], [.cells [cL p3, cI p4], .cells [cL p1, cL p2], .cells [.nil, .nil], .cells [.own 4 0 0, .own 5 0 0], VI [], VI []]⟩) (by kernel_rfl) ?_
  obtain ⟨x24, hx24, H⟩ := bind_some' H
  refine K_loop ⟨[(4, (Pt 1)), (5, (Pt 2))], [.cells [cL p3, cI x24.1], .cells [.nil, .nil], .cells [.own 3 0 x24.2.1, .own 4 0 x24.2.2.1], VI x24.2.2.2.1, VI x24.2.2.2.2]⟩ (loop_ok (fun (s : Int × Int × Nat × Nat × (List Int) × (List Int)) => ⟨[(0, (Pt 0)), (3, (Pt 1)), (4, (Pt 2)), (5, (Pt 3)), (10, (I (p1.length : Int))), (11, (I s.1))], [.cells [cL p3, cI s.2.1], .cells [cL p1, cL p2], .cells [.nil, .nil], .cells [.own 4 0 s.2.2.1, .own 5 0 s.2.2.2.1], VI s.2.2.2.2.1, VI s.2.2.2.2.2]⟩) (fun (r : (Int × Nat × Nat × (List Int) × (List Int))) => (.exit 0, ⟨[(4, (Pt 1)), (5, (Pt 2))], [.cells [cL p3, cI r.1], .cells [.nil, .nil], .cells [.own 3 0 r.2.1, .own 4 0 r.2.2.1], VI r.2.2.2.1, VI r.2.2.2.2]⟩)) (fun r h => by cases h) (T_keep_Src_Upper_l1_ok k (p1.length : Int) p1 p2 p3) k (0, p4, 0, 0, [], []) x24 hx24) rfl ?_
  refine K_seq (K_r [] [] (by kernel_rfl) trivial ?_)
  refine K_g (by kernel_rfl) ?_
  cases H
  refine K_ret ?_
  exact Eq.trans (b := some ((.agg [.d (.list (((x24.2.2.2.1.map (D.int .i64)).drop 0).take x24.2.1)), .d (.list (((x24.2.2.2.2.map (D.int .i64)).drop 0).take x24.2.2.1))]), [.cells [cL p3, cI x24.1]])) (by kernel_rfl) (by simp only [dt_map, LI, VI])
def T_keep_Src_Odd (k : Nat) (p1 : Int) (p2 : Int) (p3 : Int) (p4 : List Int) (p5 : Int) : Option (Int × Int × Int × Int) := match k with
 | 0 => none
 | k + 1 => ((T_keep_Src_N k 4 p4 p5).bind fun x1 => ((if x1.1 = 0 then ((T_keep_Src_Pick k ([(-1), 0, 6, 1, 4] : List Int) p4 x1.2).bind fun x3 => some (x3.2, x3.1, p2, p3)) else (if x1.1 = 1 then ((T_keep_Src_Pick k ([(-1), 1, 32, 33] : List Int) p4 x1.2).bind fun x5 => some (x5.2, p1, x5.1, p3)) else (if x1.1 = 2 then ((T_keep_Src_Pick k ([(-1001), 1, 1000, 1001] : List Int) p4 x1.2).bind fun x7 => some (x7.2, p1, p2, x7.1)) else some (x1.2, p1, p2, p3))))).bind fun x8 => some (x8.2.1, x8.2.2.1, x8.2.2.2, x8.1))
abbrev C_T_keep_Src_Odd (k : Nat) (p1 : Int) (p2 : Int) (p3 : Int) (p4 : List Int) (p5 : Int) (r : Int × Int × Int × Int) : Prop := evF X k n_keep_Src_Odd [(Pt 0), (.agg [cI p1, cI p2, cI p3])] [.cells [cL p4, cI p5]] = some ((.agg [cI r.1, cI r.2.1, cI r.2.2.1]), [.cells [cL p4, cI r.2.2.2]])
theorem T_keep_Src_Odd_ok (k : Nat) (p1 : Int) (p2 : Int) (p3 : Int) (p4 : List Int) (p5 : Int) (r : Int × Int × Int × Int) : T_keep_Src_Odd k p1 p2 p3 p4 p5 = some r → C_T_keep_Src_Odd k p1 p2 p3 p4 p5 r := by
 intro H
 cases k with
 | zero => simp [T_keep_Src_Odd] at H
 | succ k =>
  simp only [T_keep_Src_Odd] at H
  refine F_in X_keep_Src_Odd rfl ?_
  refine K_seq (K_r [] [] (by kernel_rfl) trivial ?_)
  refine K_seq ?_
  refine K_seq ?_
  obtain ⟨x1, hx1, H⟩ := bind_some' H
  refine K_r [.r (I x1.1) [.cells [cL p4, cI x1.2]]] [C_T_keep_Src_N k 4 p4 p5 x1] (by kernel_rfl) (A1 (T_keep_Src_N_ok k 4 p4 p5 x1 hx1)) ?_
  refine K_block (K_seq (K_r [] [] (by kernel_rfl) trivial ?_))
  obtain ⟨x8, hx8, H⟩ := bind_some' H
  refine K_of ⟨[(3, (Pt 1)), (4, (Pt 2))], [.cells [cL p4, cI x8.1], .cells [cI x8.2.1, cI x8.2.2.1, cI x8.2.2.2], .cells [cI 0, cI 0, cI 0]]⟩ ?_ ?_
  · clear H; have H := hx8; clear hx8; refine K_in ?_
    rcases ite_some H with ⟨hx2, H⟩ | ⟨hx2, H⟩
    · refine K_t (by kernel_rfl) (decide_eq_true hx2) ?_
      obtain ⟨x3, hx3, H⟩ := bind_some' H
      refine K_r [.r (I x3.1) [.cells [cL p4, cI x3.2]]] [C_T_keep_Src_Pick k ([(-1), 0, 6, 1, 4] : List Int) p4 x1.2 x3] (by kernel_rfl) (A1 (T_keep_Src_Pick_ok k ([(-1), 0, 6, 1, 4] : List Int) p4 x1.2 x3 hx3)) ?_
      cases H
      exact K_end (by kernel_rfl)
    · refine K_f (by kernel_rfl) (decide_eq_false hx2) ?_
      refine K_seq (K_r [] [] (by kernel_rfl) trivial ?_)
      rcases ite_some H with ⟨hx4, H⟩ | ⟨hx4, H⟩
      · refine K_t (by kernel_rfl) (decide_eq_true hx4) ?_
        obtain ⟨x5, hx5, H⟩ := bind_some' H
        refine K_r [.r (I x5.1) [.cells [cL p4, cI x5.2]]] [C_T_keep_Src_Pick k ([(-1), 1, 32, 33] : List Int) p4 x1.2 x5] (by kernel_rfl) (A1 (T_keep_Src_Pick_ok k ([(-1), 1, 32, 33] : List Int) p4 x1.2 x5 hx5)) ?_
        cases H
        exact K_end (by kernel_rfl)
      · refine K_f (by kernel_rfl) (decide_eq_false hx4) ?_
        refine K_seq (K_r [] [] (by kernel_rfl) trivial ?_)
        rcases ite_some H with ⟨hx6, H⟩ | ⟨hx6, H⟩
        · refine K_t (by kernel_rfl) (decide_eq_true hx6) ?_
          obtain ⟨x7, hx7, H⟩ := bind_some' H
          refine K_r [.r (I x7.1) [.cells [cL p4, cI x7.2]]] [C_T_keep_Src_Pick k ([(-1001), 1, 1000, 1001] : List Int) p4 x1.2 x7] (by kernel_rfl) (A1 (T_keep_Src_Pick_ok k ([(-1001), 1, 1000, 1001] : List Int) p4 x1.2 x7 hx7)) ?_
          cases H
          exact K_end (by kernel_rfl)
        · refine K_f (by kernel_rfl) (decide_eq_false hx6) ?_
          refine K_g (by kernel_rfl) ?_
          refine K_skip ?_
          cases H
          exact K_end (by kernel_rfl)
  refine K_blk (K_seq (K_r [] [] (by kernel_rfl) trivial ?_))
  refine K_g (by kernel_rfl) ?_
  cases H
  refine K_ret ?_
  kernel_rfl
def T_keep_Src_Queer (k : Nat) (p1 : Int) (p2 : Int) (p3 : Int) (p4 : Int) (p5 : Int) (p6 : List Int) (p7 : List Int) (p8 : Int) : Option (Int × Int × Int × Int × Int × (List Int) × Int) := match k with
 | 0 => none
 | k + 1 => ((T_keep_Src_N k 5 p7 p8).bind fun x1 => (if x1.1 = 0 then ((T_keep_Src_Odd k p1 p2 p3 p7 x1.2).bind fun x16 => some (x16.1, x16.2.1, x16.2.2.1, p4, p5, p6, x16.2.2.2)) else (if x1.1 = 1 then ((T_keep_Src_Pick k ([0, 1, 2, 32, 33] : List Int) p7 x1.2).bind fun x29 => some (p1, p2, p3, x29.1, p5, p6, x29.2)) else (if x1.1 = 2 then ((T_keep_Src_Pick k ([0, 1, 8, 9, p4, (w64 (p4 + 1))] : List Int) p7 x1.2).bind fun x40 => some (p1, p2, p3, p4, x40.1, p6, x40.2)) else (((if x1.1 = 3 then (if 0 + p6.length ≤ LIM then (T_keep_Src_Range k (-9) 9 p7 x1.2).bind fun x43 => (T_keep_Src_Pick k ([2000, 2001, 0] : List Int) p7 x43.2).bind fun x44 => (if (0 + p6.length) + 2 ≤ LIM then some (x44.2, ((0 + p6.length) + 2), ((((([] : List Int).drop 0).take 0 ++ p6).drop 0).take (0 + p6.length) ++ ([x43.1, x44.1] : List Int))) else none) else none) else (T_keep_Src_Pick k ([1, 2, 16] : List Int) p7 x1.2).bind fun x46 => (if (0 : Int) ≤ x46.1 ∧ x46.1 ≤ x46.1 ∧ x46.1 ≤ (LIM : Int) then some (x46.2, x46.1.toNat, (List.replicate x46.1.toNat (0 : Int))) else none))).bind fun x48 => some (p1, p2, p3, p4, p5, ((x48.2.2.drop 0).take x48.2.1), x48.1))))))
abbrev C_T_keep_Src_Queer (k : Nat) (p1 : Int) (p2 : Int) (p3 : Int) (p4 : Int) (p5 : Int) (p6 : List Int) (p7 : List Int) (p8 : Int) (r : Int × Int × Int × Int × Int × (List Int) × Int) : Prop := evF X k n_keep_Src_Queer [(Pt 0), (.agg [cI p1, cI p2, cI p3, cI p4, cI p5, cL p6])] [.cells [cL p7, cI p8]] = some ((.agg [cI r.1, cI r.2.1, cI r.2.2.1, cI r.2.2.2.1, cI r.2.2.2.2.1, cL r.2.2.2.2.2.1]), [.cells [cL p7, cI r.2.2.2.2.2.2]])
theorem T_keep_Src_Queer_ok (k : Nat) (p1 : Int) (p2 : Int) (p3 : Int) (p4 : Int) (p5 : Int) (p6 : List Int) (p7 : List Int) (p8 : Int) (r : Int × Int × Int × Int × Int × (List Int) × Int) : T_keep_Src_Queer k p1 p2 p3 p4 p5 p6 p7 p8 = some r → C_T_keep_Src_Queer k p1 p2 p3 p4 p5 p6 p7 p8 r := by
 intro H
 cases k with
 | zero => simp [T_keep_Src_Queer] at H
 | succ k =>
  simp only [T_keep_Src_Queer] at H
  refine F_in X_keep_Src_Queer rfl ?_
  refine K_seq (K_r [] [] (by kernel_rfl) trivial ?_)
  refine K_seq ?_
  refine K_seq ?_
  obtain ⟨x1, hx1, H⟩ := bind_some' H
  refine K_r [.r (I x1.1) [.cells [cL p7, cI x1.2]]] [C_T_keep_Src_N k 5 p7 p8 x1] (by kernel_rfl) (A1 (T_keep_Src_N_ok k 5 p7 p8 x1 hx1)) ?_
  refine K_block (K_seq (K_r [] [] (by kernel_rfl) trivial ?_))
  rcases ite_some H with ⟨hx15, H⟩ | ⟨hx15, H⟩
  · refine K_t (by kernel_rfl) (decide_eq_true hx15) ?_
    obtain ⟨x16, hx16, H⟩ := bind_some' H
    refine K_r [.r (.agg [cI x16.1, cI x16.2.1, cI x16.2.2.1]) [.cells [cL p7, cI x16.2.2.2]]] [C_T_keep_Src_Odd k p1 p2 p3 p7 x1.2 x16] (by kernel_rfl) (A1 (T_keep_Src_Odd_ok k p1 p2 p3 p7 x1.2 x16 hx16)) ?_
    refine K_blk (K_seq (K_r [] [] (by kernel_rfl) trivial ?_))
    refine K_g (by kernel_rfl) ?_
    cases H
    refine K_ret ?_
    kernel_rfl
  · refine K_f (by kernel_rfl) (decide_eq_false hx15) ?_
    refine K_seq (K_r [] [] (by kernel_rfl) trivial ?_)
    rcases ite_some H with ⟨hx28, H⟩ | ⟨hx28, H⟩
    · refine K_t (by kernel_rfl) (decide_eq_true hx28) ?_
      obtain ⟨x29, hx29, H⟩ := bind_some' H
      refine K_r [.r (I x29.1) [.cells [cL p7, cI x29.2]]] [C_T_keep_Src_Pick k ([0, 1, 2, 32, 33] : List Int) p7 x1.2 x29] (by kernel_rfl) (A1 (T_keep_Src_Pick_ok k ([0, 1, 2, 32, 33] : List Int) p7 x1.2 x29 hx29)) ?_
      refine K_blk (K_seq (K_r [] [] (by kernel_rfl) trivial ?_))
      refine K_g (by kernel_rfl) ?_
      cases H
      refine K_ret ?_
      kernel_rfl
    · refine K_f (by kernel_rfl) (decide_eq_false hx28) ?_
      refine K_seq (K_r [] [] (by kernel_rfl) trivial ?_)
      rcases ite_some H with ⟨hx39, H⟩ | ⟨hx39, H⟩
      · refine K_t (by kernel_rfl) (decide_eq_true hx39) ?_
        obtain ⟨x40, hx40, H⟩ := bind_some' H
        refine K_r [.r (I x40.1) [.cells [cL p7, cI x40.2]]] [C_T_keep_Src_Pick k ([0, 1, 8, 9, p4, (w64 (p4 + 1))] : List Int) p7 x1.2 x40] (by kernel_rfl) (A1 (T_keep_Src_Pick_ok k ([0, 1, 8, 9, p4, (w64 (p4 + 1))] : List Int) p7 x1.2 x40 hx40)) ?_
        refine K_blk (K_seq (K_r [] [] (by kernel_rfl) trivial ?_))
        refine K_g (by kernel_rfl) ?_
        cases H
        refine K_ret ?_
        kernel_rfl
      · refine K_f (by kernel_rfl) (decide_eq_false hx39) ?_
        refine K_seq (K_r [] [] (by kernel_rfl) trivial ?_)
        obtain ⟨x48, hx48, H⟩ := bind_some' H
        refine K_of ⟨[(3, (Pt 1)), (4, (Pt 3))], [.cells [cL p7, cI x48.1], .cells [cI p1, cI p2, cI p3, cI p4, cI p5, .own 2 0 x48.2.1], VI x48.2.2, .cells [cI 0, cI 0, cI 0, cI 0, cI 0, .nil]]⟩ ?_ ?_
        · clear H; have H := hx48; clear hx48; refine K_in ?_
          rcases ite_some H with ⟨hx41, H⟩ | ⟨hx41, H⟩
          · refine K_t (by kernel_rfl) (decide_eq_true hx41) ?_
            obtain ⟨hx42, H⟩ := guard_some H
            obtain ⟨x43, hx43, H⟩ := bind_some' H
            obtain ⟨x44, hx44, H⟩ := bind_some' H
            obtain ⟨hx45, H⟩ := guard_some H
            refine K_r [.n p6.length, .l (((([] : List Int).drop 0).take 0 ++ p6).map (D.int .i64)), .r (I x43.1) [.cells [cL p7, cI x43.2]], .r (I x44.1) [.cells [cL p7, cI x44.2]], .n 2, .l (((((([] : List Int).drop 0).take 0 ++ p6).drop 0).take (0 + p6.length) ++ ([x43.1, x44.1] : List Int)).map (D.int .i64))] [(List.all (p6.map (D.int .i64)) fun d => d.cells.length == (D.cells (.int .i64 0)).length) = true, 0 + p6.length ≤ LIM, (p6.map (D.int .i64)).length = p6.length, ((([] : List Int).map (D.int .i64)).drop 0).take 0 ++ (p6.map (D.int .i64)) = ((([] : List Int).drop 0).take 0 ++ p6).map (D.int .i64), C_T_keep_Src_Range k (-9) 9 p7 x1.2 x43, C_T_keep_Src_Pick k ([2000, 2001, 0] : List Int) p7 x43.2 x44, (List.all (([x43.1, x44.1] : List Int).map (D.int .i64)) fun d => d.cells.length == (D.cells (.int .i64 0)).length) = true, (0 + p6.length) + 2 ≤ LIM, (([x43.1, x44.1] : List Int).map (D.int .i64)).length = 2, ((((([] : List Int).drop 0).take 0 ++ p6).map (D.int .i64)).drop 0).take (0 + p6.length) ++ (([x43.1, x44.1] : List Int).map (D.int .i64)) = ((((([] : List Int).drop 0).take 0 ++ p6).drop 0).take (0 + p6.length) ++ ([x43.1, x44.1] : List Int)).map (D.int .i64)] (by kernel_rfl) (AC (all_ok (D.int .i64) 1 p6 (fun _ => rfl)) (AC hx42 (AC (by simp) (AC (ap_map (D.int .i64) ([] : List Int) p6 0 0) (AC (T_keep_Src_Range_ok k (-9) 9 p7 x1.2 x43 hx43) (AC (T_keep_Src_Pick_ok k ([2000, 2001, 0] : List Int) p7 x43.2 x44 hx44) (AC (all_ok (D.int .i64) 1 ([x43.1, x44.1] : List Int) (fun _ => rfl)) (AC hx45 (AC (by simp) (A1 (ap_map (D.int .i64) ((([] : List Int).drop 0).take 0 ++ p6) ([x43.1, x44.1] : List Int) 0 (0 + p6.length)))))))))))) ?_
            cases H
            exact K_end (by kernel_rfl)
          · refine K_f (by kernel_rfl) (decide_eq_false hx41) ?_
            obtain ⟨x46, hx46, H⟩ := bind_some' H
            obtain ⟨hx47, H⟩ := guard_some H
            refine K_r [.r (I x46.1) [.cells [cL p7, cI x46.2]], .l ((List.replicate x46.1.toNat (0 : Int)).map (D.int .i64))] [C_T_keep_Src_Pick k ([1, 2, 16] : List Int) p7 x1.2 x46, (0 : Int) ≤ x46.1 ∧ x46.1 ≤ x46.1 ∧ x46.1 ≤ (LIM : Int), List.replicate x46.1.toNat (.int .i64 0) = (List.replicate x46.1.toNat (0 : Int)).map (D.int .i64)] (by kernel_rfl) (AC (T_keep_Src_Pick_ok k ([1, 2, 16] : List Int) p7 x1.2 x46 hx46) (AC hx47 (A1 (rep_map (D.int .i64) _ (0 : Int))))) ?_
            cases H
            exact K_end (by kernel_rfl)
        refine K_blk (K_seq (K_r [] [] (by kernel_rfl) trivial ?_))
        refine K_g (by kernel_rfl) ?_
        cases H
        refine K_ret ?_
        exact Eq.trans (b := some ((.agg [cI p1, cI p2, cI p3, cI p4, cI p5, .d (.list (((x48.2.2.map (D.int .i64)).drop 0).take x48.2.1))]), [.cells [cL p7, cI x48.1]])) (by kernel_rfl) (by simp only [dt_map, LI, VI])
def T_ref19_Valid_l1 (k : Nat) (x3 : Int) (p7 : List Int) (p8 : List Int) (x17 : Int) : Option (Int ⊕ (Unit ⊕ Unit)) :=
 (if x17 < x3 then ((((at? p8 x17).bind fun x19 => (if (decide (x19 < 0) || decide (4 < x19)) = true then some true else ((at? p7 x17).bind fun x22 => (if x22 < 0 then some true else (if (0 : Int) ≤ x19 then some (decide ((w64 (1 * 2 ^ (Nat.min x19.toNat (IntKind.bits .i64)))) ≤ x22)) else none)))))).bind fun x26 => (if x26 = true then some (.inr (.inr ())) else some (.inl (w64 (x17 + 1))))) else some (.inr (.inl ())))
theorem T_ref19_Valid_l1_ok (k : Nat) (x3 : Int) (p7 : List Int) (p8 : List Int) : ∀ (x17 : Int) (x : Int ⊕ (Unit ⊕ Unit)), T_ref19_Valid_l1 k x3 p7 p8 x17 = some x → evC X (evF X k) k 0 l_ref19_Valid_1 ⟨[(3, (Pt 0)), (27, (I x3)), (28, (I x17))], [.cells [cL p7, cL p8]]⟩ = some (outS (fun (s : Int) => ⟨[(3, (Pt 0)), (27, (I x3)), (28, (I s))], [.cells [cL p7, cL p8]]⟩) (fun (r : Unit ⊕ Unit) => Sum.elim (fun y => (.exit 0, ⟨[], []⟩)) (fun y => (.ret, ⟨[(4, (B false))], []⟩)) r) x) := by
 intro x17 x H
 unfold T_ref19_Valid_l1 at H
 refine K_in ?_
 refine K_seq (K_r [] [] (by kernel_rfl) trivial ?_)
 refine K_seq ?_
 rcases ite_some H with ⟨hx18, H⟩ | ⟨hx18, H⟩
 · refine K_t (by kernel_rfl) (decide_eq_true hx18) ?_
   refine K_g (by kernel_rfl) ?_
   refine K_skip (K_seq (K_block (K_seq (K_r [] [] (by kernel_rfl) trivial ?_))))
   refine K_seq ?_
   obtain ⟨x26, hx26, H⟩ := bind_some' H
   refine K_of ⟨[(3, (Pt 0)), (27, (I x3)), (28, (I x17)), (66, (B x26))], [.cells [cL p7, cL p8]]⟩ ?_ ?_
   · clear H; have H := hx26; clear hx26; refine K_in ?_
     obtain ⟨x19, hx19, H⟩ := bind_some' H
     rcases ite_some H with ⟨hx21, H⟩ | ⟨hx21, H⟩
     · refine K_r [.l [.int .i64 x19], .m, .l [.int .i64 x19], .b true, .b true] [(0 : Int) ≤ x17 ∧ x17 < (((p8.map (D.int .i64))).length : Int), ((p8.map (D.int .i64)).getD x17.toNat (.int .i64 0)).cells = [.int .i64 x19], decide (x19 < 0) = false → AllT [(0 : Int) ≤ x17 ∧ x17 < (((p8.map (D.int .i64))).length : Int), ((p8.map (D.int .i64)).getD x17.toNat (.int .i64 0)).cells = [.int .i64 x19]], ([.cells [cL p7, cL p8]] : Heap) = [.cells [cL p7, cL p8]], (decide (x19 < 0) || decide (4 < x19)) = true, true = true] (by kernel_rfl) (AC (at_ok hx19 (D.int .i64) (.int .i64 0)).1 (AC (at_ok hx19 (D.int .i64) (.int .i64 0)).2 (AC (fun _ => (AC (at_ok hx19 (D.int .i64) (.int .i64 0)).1 (A1 (at_ok hx19 (D.int .i64) (.int .i64 0)).2))) (AC rfl (AC hx21 (A1 rfl)))))) ?_
       cases H
       exact K_end (by kernel_rfl)
     · obtain ⟨x22, hx22, H⟩ := bind_some' H
       rcases ite_some H with ⟨hx24, H⟩ | ⟨hx24, H⟩
       · refine K_r [.l [.int .i64 x19], .m, .l [.int .i64 x19], .b false, .l [.int .i64 x22], .b true] [(0 : Int) ≤ x17 ∧ x17 < (((p8.map (D.int .i64))).length : Int), ((p8.map (D.int .i64)).getD x17.toNat (.int .i64 0)).cells = [.int .i64 x19], decide (x19 < 0) = false → AllT [(0 : Int) ≤ x17 ∧ x17 < (((p8.map (D.int .i64))).length : Int), ((p8.map (D.int .i64)).getD x17.toNat (.int .i64 0)).cells = [.int .i64 x19]], ([.cells [cL p7, cL p8]] : Heap) = [.cells [cL p7, cL p8]], (decide (x19 < 0) || decide (4 < x19)) = false, (0 : Int) ≤ x17 ∧ x17 < (((p7.map (D.int .i64))).length : Int), ((p7.map (D.int .i64)).getD x17.toNat (.int .i64 0)).cells = [.int .i64 x22], decide (x22 < 0) = true] (by kernel_rfl) (AC (at_ok hx19 (D.int .i64) (.int .i64 0)).1 (AC (at_ok hx19 (D.int .i64) (.int .i64 0)).2 (AC (fun _ => (AC (at_ok hx19 (D.int .i64) (.int .i64 0)).1 (A1 (at_ok hx19 (D.int .i64) (.int .i64 0)).2))) (AC rfl (AC (Bool.eq_false_iff.2 hx21) (AC (at_ok hx22 (D.int .i64) (.int .i64 0)).1 (AC (at_ok hx22 (D.int .i64) (.int .i64 0)).2 (A1 (decide_eq_true hx24))))))))) ?_
         cases H
         exact K_end (by kernel_rfl)
       · obtain ⟨hx25, H⟩ := guard_some H
         refine K_r [.l [.int .i64 x19], .m, .l [.int .i64 x19], .b false, .l [.int .i64 x22], .b false, .l [.int .i64 x22], .l [.int .i64 x19]] [(0 : Int) ≤ x17 ∧ x17 < (((p8.map (D.int .i64))).length : Int), ((p8.map (D.int .i64)).getD x17.toNat (.int .i64 0)).cells = [.int .i64 x19], decide (x19 < 0) = false → AllT [(0 : Int) ≤ x17 ∧ x17 < (((p8.map (D.int .i64))).length : Int), ((p8.map (D.int .i64)).getD x17.toNat (.int .i64 0)).cells = [.int .i64 x19]], ([.cells [cL p7, cL p8]] : Heap) = [.cells [cL p7, cL p8]], (decide (x19 < 0) || decide (4 < x19)) = false, (0 : Int) ≤ x17 ∧ x17 < (((p7.map (D.int .i64))).length : Int), ((p7.map (D.int .i64)).getD x17.toNat (.int .i64 0)).cells = [.int .i64 x22], decide (x22 < 0) = false, (0 : Int) ≤ x17 ∧ x17 < (((p7.map (D.int .i64))).length : Int), ((p7.map (D.int .i64)).getD x17.toNat (.int .i64 0)).cells = [.int .i64 x22], (0 : Int) ≤ x17 ∧ x17 < (((p8.map (D.int .i64))).length : Int), ((p8.map (D.int .i64)).getD x17.toNat (.int .i64 0)).cells = [.int .i64 x19], (0 : Int) ≤ x19] (by kernel_rfl) (AC (at_ok hx19 (D.int .i64) (.int .i64 0)).1 (AC (at_ok hx19 (D.int .i64) (.int .i64 0)).2 (AC (fun _ => (AC (at_ok hx19 (D.int .i64) (.int .i64 0)).1 (A1 (at_ok hx19 (D.int .i64) (.int .i64 0)).2))) (AC rfl (AC (Bool.eq_false_iff.2 hx21) (AC (at_ok hx22 (D.int .i64) (.int .i64 0)).1 (AC (at_ok hx22 (D.int .i64) (.int .i64 0)).2 (AC (decide_eq_false hx24) (AC (at_ok hx22 (D.int .i64) (.int .i64 0)).1 (AC (at_ok hx22 (D.int .i64) (.int .i64 0)).2 (AC (at_ok hx19 (D.int .i64) (.int .i64 0)).1 (AC (at_ok hx19 (D.int .i64) (.int .i64 0)).2 (A1 hx25))))))))))))) ?_
         cases H
         exact K_end (by kernel_rfl)
   rcases ite_some H with ⟨hx27, H⟩ | ⟨hx27, H⟩
   · refine K_t (by kernel_rfl) hx27 ?_
     refine K_seq (K_r [] [] (by kernel_rfl) trivial ?_)
     refine K_g (by kernel_rfl) ?_
     cases H
     exact K_ret (by kernel_rfl)
   · refine K_f (by kernel_rfl) (Bool.eq_false_iff.2 hx27) ?_
     refine K_g (by kernel_rfl) ?_
     refine K_skip (K_blk (K_r [] [] (by kernel_rfl) trivial ?_))
     cases H
     exact K_end (by kernel_rfl)
 · refine K_f (by kernel_rfl) (decide_eq_false hx18) ?_
   refine K_g (by kernel_rfl) ?_
   cases H
   exact K_exit0 rfl (by kernel_rfl)
def T_ref19_Valid (k : Nat) (p1 : Int) (p2 : Int) (p3 : Int) (p4 : Int) (p5 : Int) (p6 : List Int) (p7 : List Int) (p8 : List Int) : Option Bool := match k with
 | 0 => none
 | k + 1 => ((T_ref19_Check k p1 p2 p3 p4 p5 p6).bind fun x1 => (if (((!decide (x1 = 0)) || (!decide ((p7.length : Int) = p5))) || (!decide ((p8.length : Int) = p5))) = true then some false else ((loopT (T_ref19_Valid_l1 k (p8.length : Int) p7 p8) k 0).bind fun x28 => (match x28 with | .inl x29 => some true | .inr x30 => some false))))
abbrev C_T_ref19_Valid (k : Nat) (p1 : Int) (p2 : Int) (p3 : Int) (p4 : Int) (p5 : Int) (p6 : List Int) (p7 : List Int) (p8 : List Int) (r : Bool) : Prop := evF X k n_ref19_Valid [(.agg [cI p1, cI p2, cI p3, cI p4, cI p5, cL p6]), (.agg [cL p7, cL p8])] [] = some ((B r), [])
theorem T_ref19_Valid_ok (k : Nat) (p1 : Int) (p2 : Int) (p3 : Int) (p4 : Int) (p5 : Int) (p6 : List Int) (p7 : List Int) (p8 : List Int) (r : Bool) : T_ref19_Valid k p1 p2 p3 p4 p5 p6 p7 p8 = some r → C_T_ref19_Valid k p1 p2 p3 p4 p5 p6 p7 p8 r := by
 intro H
 cases k with
 | zero => simp [T_ref19_Valid] at H
 | succ k =>
  simp only [T_ref19_Valid] at H
  refine F_in X_ref19_Valid rfl ?_
  refine K_seq (K_r [] [] (by kernel_rfl) trivial ?_)
  refine K_seq ?_
  refine K_seq ?_
  obtain ⟨x1, hx1, H⟩ := bind_some' H
  refine K_r [.r (I x1) [], .m, .n p7.length, .m, .n p8.length] ((fun (z1 : Heap) => [C_T_ref19_Check k p1 p2 p3 p4 p5 p6 x1, (!decide (x1 = 0)) = false → AllT [((p7.map (D.int .i64))).length = p7.length], z1 = z1, ((!decide (x1 = 0)) || (!decide ((p7.length : Int) = p5))) = false → AllT [((p8.map (D.int .i64))).length = p8.length], z1 = z1]) [.cells [cI p1, cI p2, cI p3, cI p4, cI p5, cL p6], .cells [cL p7, cL p8]]) (by kernel_rfl) (AC (T_ref19_Check_ok k p1 p2 p3 p4 p5 p6 x1 hx1) (AC (fun _ => (A1 (List.length_map _))) (AC rfl (AC (fun _ => (A1 (List.length_map _))) (A1 rfl))))) ?_
  rcases ite_some H with ⟨hx2, H⟩ | ⟨hx2, H⟩
  · refine K_t (by kernel_rfl) hx2 ?_
    refine K_seq (K_r [] [] (by kernel_rfl) trivial ?_)
    refine K_g (by kernel_rfl) ?_
    cases H
    refine K_ret ?_
    kernel_rfl
  · refine K_f (by kernel_rfl) (Bool.eq_false_iff.2 hx2) ?_
    refine K_g (by kernel_rfl) ?_
    refine K_skip (K_seq (K_seq (K_r [.n p8.length] [((p8.map (D.int .i64))).length = p8.length] (by kernel_rfl) (A1 (List.length_map _)) ?_)))
    refine K_block (K_conv (σ' := ⟨[(3, (Pt 0)), (27, (I (p8.length : Int))), (28, (I 0))], [.cells [cL p7, cL p8]]⟩) (by kernel_rfl) ?_)
    obtain ⟨x28, hx28, H⟩ := bind_some' H
    cases x28 with
    | inl x29 =>
     dsimp only at H
     refine K_loop ⟨[], []⟩ (loop_ok (fun (s : Int) => ⟨[(3, (Pt 0)), (27, (I (p8.length : Int))), (28, (I s))], [.cells [cL p7, cL p8]]⟩) (fun (r : Unit ⊕ Unit) => Sum.elim (fun y => (.exit 0, ⟨[], []⟩)) (fun y => (.ret, ⟨[(4, (B false))], []⟩)) r) (fun r h => by cases r <;> cases h) (T_ref19_Valid_l1_ok k (p8.length : Int) p7 p8) k 0 (.inl x29) hx28) rfl ?_
     refine K_seq (K_r [] [] (by kernel_rfl) trivial ?_)
     refine K_g (by kernel_rfl) ?_
     cases H
     refine K_ret ?_
     kernel_rfl
    | inr x30 =>
     dsimp only at H
     cases H
     refine K_loopr ⟨[(4, (B false))], []⟩ (loop_ok (fun (s : Int) => ⟨[(3, (Pt 0)), (27, (I (p8.length : Int))), (28, (I s))], [.cells [cL p7, cL p8]]⟩) (fun (r : Unit ⊕ Unit) => Sum.elim (fun y => (.exit 0, ⟨[], []⟩)) (fun y => (.ret, ⟨[(4, (B false))], []⟩)) r) (fun r h => by cases r <;> cases h) (T_ref19_Valid_l1_ok k (p8.length : Int) p7 p8) k 0 (.inr x30) hx28) ?_
     kernel_rfl
def T_ref19_Region_l1 (k : Nat) (p1 : Int) (p2 : Int) (p3 : Int) (x4 : Int) (p4 : Int) (p5 : Int) (p6 : List Int) (p7 : List Int) (p8 : List Int) (x30 : Nat × Int × (List (Int × Int))) : Option ((Nat × Int × (List (Int × Int))) ⊕ ((Nat × (List (Int × Int))))) :=
 (if x30.2.1 < x4 then (at? p7 x30.2.1).bind fun x32 => (at? p8 x30.2.1).bind fun x33 => (if (0 : Int) ≤ (w64 (4 - x33)) then (at? p8 x30.2.1).bind fun x35 => (if (0 : Int) ≤ (w64 (4 - x35)) then ((if (decide (0 < (w64 (x32 * 2 ^ (Nat.min (w64 (4 - x33)).toNat (IntKind.bits .i64))))) && decide ((w64 (x32 * 2 ^ (Nat.min (w64 (4 - x33)).toNat (IntKind.bits .i64)))) ≤ (p6.length : Int))) = true then ((at? p6 (w64 ((w64 (x32 * 2 ^ (Nat.min (w64 (4 - x33)).toNat (IntKind.bits .i64)))) - 1))).bind fun x38 => some x38) else some (-1099511627776))).bind fun x39 => ((if (w64 ((w64 ((w64 (x32 * 2 ^ (Nat.min (w64 (4 - x33)).toNat (IntKind.bits .i64)))) + (w64 (1 * 2 ^ (Nat.min (w64 (4 - x35)).toNat (IntKind.bits .i64)))))) - 1)) < (p6.length : Int) then ((at? p6 (w64 ((w64 ((w64 (x32 * 2 ^ (Nat.min (w64 (4 - x33)).toNat (IntKind.bits .i64)))) + (w64 (1 * 2 ^ (Nat.min (w64 (4 - x35)).toNat (IntKind.bits .i64)))))) - 1))).bind fun x41 => some (w64 (x41 - 1))) else some 1099511627776)).bind fun x42 => ((if (p6.length : Int) < (w64 (x32 * 2 ^ (Nat.min (w64 (4 - x33)).toNat (IntKind.bits .i64)))) then some (1, 0) else some (x39, x42))).bind fun x44 => (if x30.1 + 1 ≤ LIM then some (.inl ((x30.1 + 1), (w64 (x30.2.1 + 1)), ((x30.2.2.drop 0).take x30.1 ++ ([(x44.1, x44.2)] : List (Int × Int))))) else none) else none) else none) else some (.inr (x30.1, x30.2.2)))
theorem T_ref19_Region_l1_ok (k : Nat) (p1 : Int) (p2 : Int) (p3 : Int) (x4 : Int) (p4 : Int) (p5 : Int) (p6 : List Int) (p7 : List Int) (p8 : List Int) : ∀ (x30 : Nat × Int × (List (Int × Int))) (x : (Nat × Int × (List (Int × Int))) ⊕ ((Nat × (List (Int × Int))))), T_ref19_Region_l1 k p1 p2 p3 x4 p4 p5 p6 p7 p8 x30 = some x → evC X (evF X k) k 0 l_ref19_Region_1 ⟨[(2, (Pt 0)), (3, (Pt 1)), (6, (.one (.own 2 0 x30.1))), (17, (I x4)), (18, (I x30.2.1))], [.cells [cI p1, cI p2, cI p3, cI p4, cI p5, cL p6], .cells [cL p7, cL p8], .vals (.agg [(.int .i64 0), (.int .i64 0)]) (x30.2.2.map e_st0)]⟩ = some (outS (fun (s : Nat × Int × (List (Int × Int))) => ⟨[(2, (Pt 0)), (3, (Pt 1)), (6, (.one (.own 2 0 s.1))), (17, (I x4)), (18, (I s.2.1))], [.cells [cI p1, cI p2, cI p3, cI p4, cI p5, cL p6], .cells [cL p7, cL p8], .vals (.agg [(.int .i64 0), (.int .i64 0)]) (s.2.2.map e_st0)]⟩) (fun (r : (Nat × (List (Int × Int)))) => (.exit 0, ⟨[(6, (.one (.own 0 0 r.1)))], [.vals (.agg [(.int .i64 0), (.int .i64 0)]) (r.2.map e_st0)]⟩)) x) := by
 intro x30 x H
 unfold T_ref19_Region_l1 at H
 refine K_in ?_
 refine K_seq (K_r [] [] (by kernel_rfl) trivial ?_)
 refine K_seq ?_
 rcases ite_some H with ⟨hx31, H⟩ | ⟨hx31, H⟩
 · refine K_t (by kernel_rfl) (decide_eq_true hx31) ?_
   refine K_g (by kernel_rfl) ?_
   refine K_skip (K_seq (K_block (K_seq (K_r [] [] (by kernel_rfl) trivial ?_))))
   refine K_seq ?_
   obtain ⟨x32, hx32, H⟩ := bind_some' H
   obtain ⟨x33, hx33, H⟩ := bind_some' H
   obtain ⟨hx34, H⟩ := guard_some H
   refine K_r [.l [.int .i64 x32], .l [.int .i64 x33]] [(0 : Int) ≤ x30.2.1 ∧ x30.2.1 < (((p7.map (D.int .i64))).length : Int), ((p7.map (D.int .i64)).getD x30.2.1.toNat (.int .i64 0)).cells = [.int .i64 x32], (0 : Int) ≤ x30.2.1 ∧ x30.2.1 < (((p8.map (D.int .i64))).length : Int), ((p8.map (D.int .i64)).getD x30.2.1.toNat (.int .i64 0)).cells = [.int .i64 x33], (0 : Int) ≤ (w64 (4 - x33))] (by kernel_rfl) (AC (at_ok hx32 (D.int .i64) (.int .i64 0)).1 (AC (at_ok hx32 (D.int .i64) (.int .i64 0)).2 (AC (at_ok hx33 (D.int .i64) (.int .i64 0)).1 (AC (at_ok hx33 (D.int .i64) (.int .i64 0)).2 (A1 hx34))))) ?_
   refine K_seq ?_
   obtain ⟨x35, hx35, H⟩ := bind_some' H
   obtain ⟨hx36, H⟩ := guard_some H
   refine K_r [.l [.int .i64 x35]] [(0 : Int) ≤ x30.2.1 ∧ x30.2.1 < (((p8.map (D.int .i64))).length : Int), ((p8.map (D.int .i64)).getD x30.2.1.toNat (.int .i64 0)).cells = [.int .i64 x35], (0 : Int) ≤ (w64 (4 - x35))] (by kernel_rfl) (AC (at_ok hx35 (D.int .i64) (.int .i64 0)).1 (AC (at_ok hx35 (D.int .i64) (.int .i64 0)).2 (A1 hx36))) ?_
   refine K_seq (K_r [] [] (by kernel_rfl) trivial ?_)
   refine K_seq (K_seq (K_r [.m, .n p6.length] ((fun (z1 : Heap) => [decide (0 < (w64 (x32 * 2 ^ (Nat.min (w64 (4 - x33)).toNat (IntKind.bits .i64))))) = true → AllT [((p6.map (D.int .i64))).length = p6.length], z1 = z1]) [.cells [cI p1, cI p2, cI p3, cI p4, cI p5, cL p6], .cells [cL p7, cL p8], .vals (.agg [(.int .i64 0), (.int .i64 0)]) (x30.2.2.map e_st0), .cells [cI (-1099511627776), cI 1099511627776]]) (by kernel_rfl) (AC (fun _ => (A1 (List.length_map _))) (A1 rfl)) ?_))
   obtain ⟨x39, hx39, H⟩ := bind_some' H
   refine K_of ⟨[(2, (Pt 0)), (3, (Pt 1)), (6, (.one (.own 2 0 x30.1))), (8, (I (w64 (x32 * 2 ^ (Nat.min (w64 (4 - x33)).toNat (IntKind.bits .i64)))))), (9, (I (w64 ((w64 ((w64 (x32 * 2 ^ (Nat.min (w64 (4 - x33)).toNat (IntKind.bits .i64)))) + (w64 (1 * 2 ^ (Nat.min (w64 (4 - x35)).toNat (IntKind.bits .i64)))))) - 1)))), (10, (Pt 3)), (17, (I x4)), (18, (I x30.2.1))], [.cells [cI p1, cI p2, cI p3, cI p4, cI p5, cL p6], .cells [cL p7, cL p8], .vals (.agg [(.int .i64 0), (.int .i64 0)]) (x30.2.2.map e_st0), .cells [cI x39, cI 1099511627776]]⟩ ?_ ?_
   · clear H; have H := hx39; clear hx39; refine K_in ?_
     rcases ite_some H with ⟨hx37, H⟩ | ⟨hx37, H⟩
     · refine K_t (by kernel_rfl) hx37 ?_
       obtain ⟨x38, hx38, H⟩ := bind_some' H
       refine K_r [.l [.int .i64 x38]] [(0 : Int) ≤ (w64 ((w64 (x32 * 2 ^ (Nat.min (w64 (4 - x33)).toNat (IntKind.bits .i64)))) - 1)) ∧ (w64 ((w64 (x32 * 2 ^ (Nat.min (w64 (4 - x33)).toNat (IntKind.bits .i64)))) - 1)) < (((p6.map (D.int .i64))).length : Int), ((p6.map (D.int .i64)).getD (w64 ((w64 (x32 * 2 ^ (Nat.min (w64 (4 - x33)).toNat (IntKind.bits .i64)))) - 1)).toNat (.int .i64 0)).cells = [.int .i64 x38]] (by kernel_rfl) (AC (at_ok hx38 (D.int .i64) (.int .i64 0)).1 (A1 (at_ok hx38 (D.int .i64) (.int .i64 0)).2)) ?_
       cases H
       exact K_end (by kernel_rfl)
     · refine K_f (by kernel_rfl) (Bool.eq_false_iff.2 hx37) ?_
       refine K_g (by kernel_rfl) ?_
       refine K_skip ?_
       cases H
       exact K_end (by kernel_rfl)
   refine K_seq (K_seq (K_r [.n p6.length] [((p6.map (D.int .i64))).length = p6.length] (by kernel_rfl) (A1 (List.length_map _)) ?_))
   obtain ⟨x42, hx42, H⟩ := bind_some' H
   refine K_of ⟨[(2, (Pt 0)), (3, (Pt 1)), (6, (.one (.own 2 0 x30.1))), (8, (I (w64 (x32 * 2 ^ (Nat.min (w64 (4 - x33)).toNat (IntKind.bits .i64)))))), (10, (Pt 3)), (17, (I x4)), (18, (I x30.2.1))], [.cells [cI p1, cI p2, cI p3, cI p4, cI p5, cL p6], .cells [cL p7, cL p8], .vals (.agg [(.int .i64 0), (.int .i64 0)]) (x30.2.2.map e_st0), .cells [cI x39, cI x42]]⟩ ?_ ?_
   · clear H; have H := hx42; clear hx42; refine K_in ?_
     rcases ite_some H with ⟨hx40, H⟩ | ⟨hx40, H⟩
     · refine K_t (by kernel_rfl) (decide_eq_true hx40) ?_
       obtain ⟨x41, hx41, H⟩ := bind_some' H
       refine K_r [.l [.int .i64 x41]] [(0 : Int) ≤ (w64 ((w64 ((w64 (x32 * 2 ^ (Nat.min (w64 (4 - x33)).toNat (IntKind.bits .i64)))) + (w64 (1 * 2 ^ (Nat.min (w64 (4 - x35)).toNat (IntKind.bits .i64)))))) - 1)) ∧ (w64 ((w64 ((w64 (x32 * 2 ^ (Nat.min (w64 (4 - x33)).toNat (IntKind.bits .i64)))) + (w64 (1 * 2 ^ (Nat.min (w64 (4 - x35)).toNat (IntKind.bits .i64)))))) - 1)) < (((p6.map (D.int .i64))).length : Int), ((p6.map (D.int .i64)).getD (w64 ((w64 ((w64 (x32 * 2 ^ (Nat.min (w64 (4 - x33)).toNat (IntKind.bits .i64)))) + (w64 (1 * 2 ^ (Nat.min (w64 (4 - x35)).toNat (IntKind.bits .i64)))))) - 1)).toNat (.int .i64 0)).cells = [.int .i64 x41]] (by kernel_rfl) (AC (at_ok hx41 (D.int .i64) (.int .i64 0)).1 (A1 (at_ok hx41 (D.int .i64) (.int .i64 0)).2)) ?_
       cases H
       exact K_end (by kernel_rfl)
     · refine K_f (by kernel_rfl) (decide_eq_false hx40) ?_
       refine K_g (by kernel_rfl) ?_
       refine K_skip ?_
       cases H
       exact K_end (by kernel_rfl)
   refine K_seq (K_seq (K_r [.n p6.length] [((p6.map (D.int .i64))).length = p6.length] (by kernel_rfl) (A1 (List.length_map _)) ?_))
   obtain ⟨x44, hx44, H⟩ := bind_some' H
   refine K_of ⟨[(2, (Pt 0)), (3, (Pt 1)), (6, (.one (.own 2 0 x30.1))), (10, (Pt 3)), (17, (I x4)), (18, (I x30.2.1))], [.cells [cI p1, cI p2, cI p3, cI p4, cI p5, cL p6], .cells [cL p7, cL p8], .vals (.agg [(.int .i64 0), (.int .i64 0)]) (x30.2.2.map e_st0), .cells [cI x44.1, cI x44.2]]⟩ ?_ ?_
   · clear H; have H := hx44; clear hx44; refine K_in ?_
     rcases ite_some H with ⟨hx43, H⟩ | ⟨hx43, H⟩
     · refine K_t (by kernel_rfl) (decide_eq_true hx43) ?_
       refine K_r [] [] (by kernel_rfl) trivial ?_
       cases H
       exact K_end (by kernel_rfl)
     · refine K_f (by kernel_rfl) (decide_eq_false hx43) ?_
       refine K_g (by kernel_rfl) ?_
       refine K_skip ?_
       cases H
       exact K_end (by kernel_rfl)
   obtain ⟨hx45, H⟩ := guard_some H
   refine K_r [.n 1, .l (((x30.2.2.drop 0).take x30.1 ++ ([(x44.1, x44.2)] : List (Int × Int))).map e_st0)] [(List.all (([(x44.1, x44.2)] : List (Int × Int)).map e_st0) fun d => d.cells.length == (D.cells (.agg [(.int .i64 0), (.int .i64 0)])).length) = true, x30.1 + 1 ≤ LIM, (([(x44.1, x44.2)] : List (Int × Int)).map e_st0).length = 1, ((x30.2.2.map e_st0).drop 0).take x30.1 ++ (([(x44.1, x44.2)] : List (Int × Int)).map e_st0) = ((x30.2.2.drop 0).take x30.1 ++ ([(x44.1, x44.2)] : List (Int × Int))).map e_st0] (by kernel_rfl) (AC (all_ok e_st0 2 ([(x44.1, x44.2)] : List (Int × Int)) (fun _ => rfl)) (AC hx45 (AC (by simp) (A1 (ap_map e_st0 x30.2.2 ([(x44.1, x44.2)] : List (Int × Int)) 0 x30.1))))) ?_
   refine K_blk (K_r [] [] (by kernel_rfl) trivial ?_)
   cases H
   exact K_end (by kernel_rfl)
 · refine K_f (by kernel_rfl) (decide_eq_false hx31) ?_
   refine K_g (by kernel_rfl) ?_
   cases H
   exact K_exit0 rfl (by kernel_rfl)
def T_ref19_Region (k : Nat) (p1 : Int) (p2 : Int) (p3 : Int) (p4 : Int) (p5 : Int) (p6 : List Int) (p7 : List Int) (p8 : List Int) : Option ((List (Int × Int)) × Int) := match k with
 | 0 => none
 | k + 1 => ((T_ref19_Valid k p1 p2 p3 p4 p5 p6 p7 p8).bind fun x1 => (if (!x1) = true then some ([], 10) else ((loopT (T_ref19_Region_l1 k p1 p2 p3 (p8.length : Int) p4 p5 p6 p7 p8) k (0, 0, [])).bind fun x46 => some (((x46.2.drop 0).take x46.1), 0))))
abbrev C_T_ref19_Region (k : Nat) (p1 : Int) (p2 : Int) (p3 : Int) (p4 : Int) (p5 : Int) (p6 : List Int) (p7 : List Int) (p8 : List Int) (r : (List (Int × Int)) × Int) : Prop := evF X k n_ref19_Region [(.agg [cI p1, cI p2, cI p3, cI p4, cI p5, cL p6]), (.agg [cL p7, cL p8])] [] = some ((.tup [(false, [.d (.list (r.1.map e_st0))]), (false, [cI r.2])]), [])
theorem T_ref19_Region_ok (k : Nat) (p1 : Int) (p2 : Int) (p3 : Int) (p4 : Int) (p5 : Int) (p6 : List Int) (p7 : List Int) (p8 : List Int) (r : (List (Int × Int)) × Int) : T_ref19_Region k p1 p2 p3 p4 p5 p6 p7 p8 = some r → C_T_ref19_Region k p1 p2 p3 p4 p5 p6 p7 p8 r := by
 intro H
 cases k with
 | zero => simp [T_ref19_Region] at H
 | succ k =>
  simp only [T_ref19_Region] at H
  refine F_in X_ref19_Region rfl ?_
  refine K_seq (K_r [] [] (by kernel_rfl) trivial ?_)
  refine K_seq ?_
  refine K_seq ?_
  obtain ⟨x1, hx1, H⟩ := bind_some' H
  refine K_r [.r (B x1) []] [C_T_ref19_Valid k p1 p2 p3 p4 p5 p6 p7 p8 x1] (by kernel_rfl) (A1 (T_ref19_Valid_ok k p1 p2 p3 p4 p5 p6 p7 p8 x1 hx1)) ?_
  rcases ite_some H with ⟨hx2, H⟩ | ⟨hx2, H⟩
  · refine K_t (by kernel_rfl) hx2 ?_
    refine K_seq (K_r [] [] (by kernel_rfl) trivial ?_)
    refine K_g (by kernel_rfl) ?_
    cases H
    refine K_ret ?_
    kernel_rfl
  · refine K_f (by kernel_rfl) (Bool.eq_false_iff.2 hx2) ?_
    refine K_g (by kernel_rfl) ?_
    refine K_skip (K_seq (K_r [] [] (by kernel_rfl) trivial ?_))
    refine K_seq (K_seq (K_r [.n p8.length] [((p8.map (D.int .i64))).length = p8.length] (by kernel_rfl) (A1 (List.length_map _)) ?_))
    refine K_block (K_g (by kernel_rfl) ?_)
    refine K_conv (σ' := ⟨[(2, (Pt 0)), (3, (Pt 1)), (6, (.one (.own 2 0 0))), (17, (I (p8.length : Int))), (18, (I 0))], [.cells [cI p1, cI p2, cI p3, cI p4, cI p5, cL p6], .cells [cL p7, cL p8], .vals (.agg [(.int .i64 0), (.int .i64 0)]) ([].map e_st0)]⟩) (by kernel_rfl) ?_
    obtain ⟨x46, hx46, H⟩ := bind_some' H
    refine K_loop ⟨[(6, (.one (.own 0 0 x46.1)))], [.vals (.agg [(.int .i64 0), (.int .i64 0)]) (x46.2.map e_st0)]⟩ (loop_ok (fun (s : Nat × Int × (List (Int × Int))) => ⟨[(2, (Pt 0)), (3, (Pt 1)), (6, (.one (.own 2 0 s.1))), (17, (I (p8.length : Int))), (18, (I s.2.1))], [.cells [cI p1, cI p2, cI p3, cI p4, cI p5, cL p6], .cells [cL p7, cL p8], .vals (.agg [(.int .i64 0), (.int .i64 0)]) (s.2.2.map e_st0)]⟩) (fun (r : (Nat × (List (Int × Int)))) => (.exit 0, ⟨[(6, (.one (.own 0 0 r.1)))], [.vals (.agg [(.int .i64 0), (.int .i64 0)]) (r.2.map e_st0)]⟩)) (fun r h => by cases h) (T_ref19_Region_l1_ok k p1 p2 p3 (p8.length : Int) p4 p5 p6 p7 p8) k (0, 0, []) x46 hx46) rfl ?_
    refine K_seq (K_r [] [] (by kernel_rfl) trivial ?_)
    refine K_g (by kernel_rfl) ?_
    cases H
    refine K_ret ?_
    exact Eq.trans (b := some ((.tup [(false, [.d (.list (((x46.2.map e_st0).drop 0).take x46.1))]), (false, [cI 0])]), [])) (by kernel_rfl) (by simp only [dt_map, LI, VI])
def T_slices_Clone_b354 (k : Nat) (p1 : List Int) : Option Unit := match k with
 | 0 => none
 | k + 1 => (if 0 < p1.length then (if 0 + p1.length ≤ LIM then some () else none) else none)
abbrev C_T_slices_Clone_b354 (k : Nat) (p1 : List Int) (r : Unit) : Prop := evF X k n_slices_Clone_b354 [(LI p1)] [] = some ((.one (.own 0 0 (0 + p1.length))), [VI ((([] : List Int).drop 0).take 0 ++ p1)])
theorem T_slices_Clone_b354_ok (k : Nat) (p1 : List Int) (r : Unit) : T_slices_Clone_b354 k p1 = some r → C_T_slices_Clone_b354 k p1 r := by
 intro H
 cases k with
 | zero => simp [T_slices_Clone_b354] at H
 | succ k =>
  simp only [T_slices_Clone_b354] at H
  refine F_in X_slices_Clone_b354 rfl ?_
  refine K_seq (K_r [] [] (by kernel_rfl) trivial ?_)
  refine K_seq ?_
  refine K_seq ?_
  obtain ⟨hx1, H⟩ := guard_some H
  refine K_r [] [0 < ((p1.map (D.int .i64))).length] (by kernel_rfl) (A1 (by simpa using hx1)) ?_
  refine K_f (by kernel_rfl) rfl ?_
  refine K_g (by kernel_rfl) ?_
  refine K_skip ?_
  refine K_seq ?_
  obtain ⟨hx2, H⟩ := guard_some H
  refine K_r [.n p1.length, .l (((([] : List Int).drop 0).take 0 ++ p1).map (D.int .i64))] [(List.all (p1.map (D.int .i64)) fun d => d.cells.length == (D.cells (.int .i64 0)).length) = true, 0 + p1.length ≤ LIM, (p1.map (D.int .i64)).length = p1.length, ((([] : List Int).map (D.int .i64)).drop 0).take 0 ++ (p1.map (D.int .i64)) = ((([] : List Int).drop 0).take 0 ++ p1).map (D.int .i64)] (by kernel_rfl) (AC (all_ok (D.int .i64) 1 p1 (fun _ => rfl)) (AC hx2 (AC (by simp) (A1 (ap_map (D.int .i64) ([] : List Int) p1 0 0))))) ?_
  refine K_g (by kernel_rfl) ?_
  cases H
  refine K_ret ?_
  kernel_rfl
def T_word_Split_l1 (k : Nat) (p7 : List Int) (p8 : List Int) (p9 : Int) (x19 : Int × (List ((List Int) × (List Int)))) : Option ((Int × (List ((List Int) × (List Int)))) ⊕ (((List ((List Int) × (List Int)))))) :=
 (if x19.1 < 2 then (T_slices_Clone_b354 k p7).bind fun x21 => (T_slices_Clone_b354 k p8).bind fun x22 => (if (0 : Int) ≤ p9 ∧ p9 < (((0 + p7.length) : Nat) : Int) then (((([] : List Int).drop 0).take 0 ++ p7)[(0 + p9.toNat)]?).bind fun x24 => (if (0 : Int) ≤ p9 ∧ p9 < (((0 + p8.length) : Nat) : Int) then (((([] : List Int).drop 0).take 0 ++ p8)[(0 + p9.toNat)]?).bind fun x26 => (if (0 : Int) ≤ x19.1 ∧ x19.1 < 2 ∧ x19.1 < (x19.2.length : Int) then some (.inl ((w64 (x19.1 + 1)), (x19.2.set x19.1.toNat ((((((([] : List Int).drop 0).take 0 ++ p7).set (0 + p9.toNat) (w64 ((w64 (2 * x24)) + x19.1))).drop 0).take (0 + p7.length)), (((((([] : List Int).drop 0).take 0 ++ p8).set (0 + p9.toNat) (w64 (x26 + 1))).drop 0).take (0 + p8.length)))))) else none) else none) else none) else some (.inr x19.2))
theorem T_word_Split_l1_ok (k : Nat) (p7 : List Int) (p8 : List Int) (p9 : Int) : ∀ (x19 : Int × (List ((List Int) × (List Int)))) (x : (Int × (List ((List Int) × (List Int)))) ⊕ (((List ((List Int) × (List Int)))))), T_word_Split_l1 k p7 p8 p9 x19 = some x → evC X (evF X k) k 0 l_word_Split_1 ⟨[(2, (I p9)), (4, (Pt 0)), (6, (Pt 1)), (7, (Pt 2)), (9, (Pt 3)), (39, (I x19.1))], [.cells [cL p7, cL p8], .cells [.nil, .nil], .cells [.nil, .nil], .vals (.agg [(.list []), (.list [])]) (x19.2.map e_st2)]⟩ = some (outS (fun (s : Int × (List ((List Int) × (List Int)))) => ⟨[(2, (I p9)), (4, (Pt 0)), (6, (Pt 1)), (7, (Pt 2)), (9, (Pt 3)), (39, (I s.1))], [.cells [cL p7, cL p8], .cells [.nil, .nil], .cells [.nil, .nil], .vals (.agg [(.list []), (.list [])]) (s.2.map e_st2)]⟩) (fun (r : ((List ((List Int) × (List Int))))) => (.exit 1, ⟨[(6, (Pt 0)), (7, (Pt 1)), (9, (Pt 2))], [.cells [.nil, .nil], .cells [.nil, .nil], .vals (.agg [(.list []), (.list [])]) (r.map e_st2)]⟩)) x) := by
 intro x19 x H
 unfold T_word_Split_l1 at H
 refine K_in ?_
 refine K_seq (K_r [] [] (by kernel_rfl) trivial ?_)
 refine K_seq ?_
 rcases ite_some H with ⟨hx20, H⟩ | ⟨hx20, H⟩
 · refine K_t (by kernel_rfl) (decide_eq_true hx20) ?_
   refine K_g (by kernel_rfl) ?_
   refine K_skip (K_seq (K_block (K_seq (K_r [] [] (by kernel_rfl) trivial ?_))))
   refine K_seq ?_
   obtain ⟨x21, hx21, H⟩ := bind_some' H
   obtain ⟨x22, hx22, H⟩ := bind_some' H
   refine K_rD [.r (.one (.own 0 0 (0 + p7.length))) [VI ((([] : List Int).drop 0).take 0 ++ p7)], .r (.one (.own 0 0 (0 + p8.length))) [VI ((([] : List Int).drop 0).take 0 ++ p8)], .r (.one (.own 0 0 (0 + p8.length))) [VI ((([] : List Int).drop 0).take 0 ++ p8)], .r (.one (.own 0 0 (0 + p8.length))) [VI ((([] : List Int).drop 0).take 0 ++ p8)], .r (.one (.own 0 0 (0 + p7.length))) [VI ((([] : List Int).drop 0).take 0 ++ p7)], .r (.one (.own 0 0 (0 + p8.length))) [VI ((([] : List Int).drop 0).take 0 ++ p8)], .r (.one (.own 0 0 (0 + p8.length))) [VI ((([] : List Int).drop 0).take 0 ++ p8)], .r (.one (.own 0 0 (0 + p7.length))) [VI ((([] : List Int).drop 0).take 0 ++ p7)], .r (.one (.own 0 0 (0 + p8.length))) [VI ((([] : List Int).drop 0).take 0 ++ p8)], .r (.one (.own 0 0 (0 + p7.length))) [VI ((([] : List Int).drop 0).take 0 ++ p7)], .r (.one (.own 0 0 (0 + p8.length))) [VI ((([] : List Int).drop 0).take 0 ++ p8)], .r (.one (.own 0 0 (0 + p7.length))) [VI ((([] : List Int).drop 0).take 0 ++ p7)], .r (.one (.own 0 0 (0 + p8.length))) [VI ((([] : List Int).drop 0).take 0 ++ p8)], .r (.one (.own 0 0 (0 + p7.length))) [VI ((([] : List Int).drop 0).take 0 ++ p7)], .r (.one (.own 0 0 (0 + p8.length))) [VI ((([] : List Int).drop 0).take 0 ++ p8)], .r (.one (.own 0 0 (0 + p8.length))) [VI ((([] : List Int).drop 0).take 0 ++ p8)], .r (.one (.own 0 0 (0 + p7.length))) [VI ((([] : List Int).drop 0).take 0 ++ p7)], .r (.one (.own 0 0 (0 + p8.length))) [VI ((([] : List Int).drop 0).take 0 ++ p8)], .r (.one (.own 0 0 (0 + p7.length))) [VI ((([] : List Int).drop 0).take 0 ++ p7)], .r (.one (.own 0 0 (0 + p8.length))) [VI ((([] : List Int).drop 0).take 0 ++ p8)], .r (.one (.own 0 0 (0 + p7.length))) [VI ((([] : List Int).drop 0).take 0 ++ p7)], .r (.one (.own 0 0 (0 + p8.length))) [VI ((([] : List Int).drop 0).take 0 ++ p8)], .r (.one (.own 0 0 (0 + p7.length))) [VI ((([] : List Int).drop 0).take 0 ++ p7)], .r (.one (.own 0 0 (0 + p8.length))) [VI ((([] : List Int).drop 0).take 0 ++ p8)], .r (.one (.own 0 0 (0 + p7.length))) [VI ((([] : List Int).drop 0).take 0 ++ p7)], .r (.one (.own 0 0 (0 + p8.length))) [VI ((([] : List Int).drop 0).take 0 ++ p8)]] ((fun (z1 : St) => [C_T_slices_Clone_b354 k p7 x21, C_T_slices_Clone_b354 k p8 x22, C_T_slices_Clone_b354 k p8 x22, z1 = z1, C_T_slices_Clone_b354 k p8 x22, z1 = z1, C_T_slices_Clone_b354 k p7 x21, C_T_slices_Clone_b354 k p8 x22, C_T_slices_Clone_b354 k p8 x22, z1 = z1, C_T_slices_Clone_b354 k p7 x21, C_T_slices_Clone_b354 k p8 x22, z1 = z1, z1 = z1, C_T_slices_Clone_b354 k p7 x21, C_T_slices_Clone_b354 k p8 x22, C_T_slices_Clone_b354 k p7 x21, C_T_slices_Clone_b354 k p8 x22, z1 = z1, z1 = z1, C_T_slices_Clone_b354 k p7 x21, C_T_slices_Clone_b354 k p8 x22, C_T_slices_Clone_b354 k p8 x22, z1 = z1, C_T_slices_Clone_b354 k p7 x21, C_T_slices_Clone_b354 k p8 x22, z1 = z1, C_T_slices_Clone_b354 k p7 x21, C_T_slices_Clone_b354 k p8 x22, z1 = z1, z1 = z1, C_T_slices_Clone_b354 k p7 x21, C_T_slices_Clone_b354 k p8 x22, C_T_slices_Clone_b354 k p7 x21, C_T_slices_Clone_b354 k p8 x22, z1 = z1, C_T_slices_Clone_b354 k p7 x21, C_T_slices_Clone_b354 k p8 x22, z1 = z1, z1 = z1]) (⟨[(2, (I p9)), (4, (Pt 0)), (6, (Pt 1)), (7, (Pt 2)), (9, (Pt 3)), (10, (I x19.1)), (11, (Pt 4)), (39, (I x19.1))], [.cells [cL p7, cL p8], .cells [.nil, .nil], .cells [.nil, .nil], .vals (.agg [(.list []), (.list [])]) (x19.2.map e_st2), .cells [.own 5 0 (0 + p7.length), .own 6 0 (0 + p8.length)], VI ((([] : List Int).drop 0).take 0 ++ p7), VI ((([] : List Int).drop 0).take 0 ++ p8)]⟩)) (by kernel_rfl) (AC (T_slices_Clone_b354_ok k p7 x21 hx21) (AC (T_slices_Clone_b354_ok k p8 x22 hx22) (AC (T_slices_Clone_b354_ok k p8 x22 hx22) (AC rfl (AC (T_slices_Clone_b354_ok k p8 x22 hx22) (AC rfl (AC (T_slices_Clone_b354_ok k p7 x21 hx21) (AC (T_slices_Clone_b354_ok k p8 x22 hx22) (AC (T_slices_Clone_b354_ok k p8 x22 hx22) (AC rfl (AC (T_slices_Clone_b354_ok k p7 x21 hx21) (AC (T_slices_Clone_b354_ok k p8 x22 hx22) (AC rfl (AC rfl (AC (T_slices_Clone_b354_ok k p7 x21 hx21) (AC (T_slices_Clone_b354_ok k p8 x22 hx22) (AC (T_slices_Clone_b354_ok k p7 x21 hx21) (AC (T_slices_Clone_b354_ok k p8 x22 hx22) (AC rfl (AC rfl (AC (T_slices_Clone_b354_ok k p7 x21 hx21) (AC (T_slices_Clone_b354_ok k p8 x22 hx22) (AC (T_slices_Clone_b354_ok k p8 x22 hx22) (AC rfl (AC (T_slices_Clone_b354_ok k p7 x21 hx21) (AC (T_slices_Clone_b354_ok k p8 x22 hx22) (AC rfl (AC (T_slices_Clone_b354_ok k p7 x21 hx21) (AC (T_slices_Clone_b354_ok k p8 x22 hx22) (AC rfl (AC rfl (AC (T_slices_Clone_b354_ok k p7 x21 hx21) (AC (T_slices_Clone_b354_ok k p8 x22 hx22) (AC (T_slices_Clone_b354_ok k p7 x21 hx21) (AC (T_slices_Clone_b354_ok k p8 x22 hx22) (AC rfl (AC (T_slices_Clone_b354_ok k p7 x21 hx21) (AC (T_slices_Clone_b354_ok k p8 x22 hx22) (AC rfl (A1 rfl)))))))))))))))))))))))))))))))))))))))) ?_
   refine K_seq ?_
   obtain ⟨hx23, H⟩ := guard_some H
   obtain ⟨x24, hx24, H⟩ := bind_some' H
   refine K_r [.l [.int .i64 x24], .l ((((([] : List Int).drop 0).take 0 ++ p7).set (0 + p9.toNat) (w64 ((w64 (2 * x24)) + x19.1))).map (D.int .i64))] [(0 : Int) ≤ p9 ∧ p9 < (((0 + p7.length) : Nat) : Int), ((((([] : List Int).drop 0).take 0 ++ p7).map (D.int .i64)).getD (0 + p9.toNat) (.int .i64 0)).cells = [.int .i64 x24], (0 : Int) ≤ p9 ∧ p9 < (((0 + p7.length) : Nat) : Int), (((([] : List Int).drop 0).take 0 ++ p7).map (D.int .i64)).set (0 + p9.toNat) (elemOf (.int .i64 0) (splice ((((([] : List Int).drop 0).take 0 ++ p7).map (D.int .i64)).getD (0 + p9.toNat) (.int .i64 0)).cells 0 [.int .i64 (w64 ((w64 (2 * x24)) + x19.1))])) = (((([] : List Int).drop 0).take 0 ++ p7).set (0 + p9.toNat) (w64 ((w64 (2 * x24)) + x19.1))).map (D.int .i64)] (by kernel_rfl) (AC hx23 (AC (ld_ok hx24 (D.int .i64) (.int .i64 0)) (AC hx23 (A1 (st_one ((([] : List Int).drop 0).take 0 ++ p7) (0 + p9.toNat) (w64 ((w64 (2 * x24)) + x19.1)) (D.int .i64) (.int .i64 0) rfl (fun _ => rfl) rfl))))) ?_
   refine K_seq ?_
   obtain ⟨hx25, H⟩ := guard_some H
   obtain ⟨x26, hx26, H⟩ := bind_some' H
   refine K_r [.l [.int .i64 x26], .l ((((([] : List Int).drop 0).take 0 ++ p8).set (0 + p9.toNat) (w64 (x26 + 1))).map (D.int .i64))] [(0 : Int) ≤ p9 ∧ p9 < (((0 + p8.length) : Nat) : Int), ((((([] : List Int).drop 0).take 0 ++ p8).map (D.int .i64)).getD (0 + p9.toNat) (.int .i64 0)).cells = [.int .i64 x26], (0 : Int) ≤ p9 ∧ p9 < (((0 + p8.length) : Nat) : Int), (((([] : List Int).drop 0).take 0 ++ p8).map (D.int .i64)).set (0 + p9.toNat) (elemOf (.int .i64 0) (splice ((((([] : List Int).drop 0).take 0 ++ p8).map (D.int .i64)).getD (0 + p9.toNat) (.int .i64 0)).cells 0 [.int .i64 (w64 (x26 + 1))])) = (((([] : List Int).drop 0).take 0 ++ p8).set (0 + p9.toNat) (w64 (x26 + 1))).map (D.int .i64)] (by kernel_rfl) (AC hx25 (AC (ld_ok hx26 (D.int .i64) (.int .i64 0)) (AC hx25 (A1 (st_one ((([] : List Int).drop 0).take 0 ++ p8) (0 + p9.toNat) (w64 (x26 + 1)) (D.int .i64) (.int .i64 0) rfl (fun _ => rfl) rfl))))) ?_
   refine K_gh ⟨[(2, (I p9)), (4, (Pt 0)), (6, (Pt 1)), (7, (Pt 2)), (9, (Pt 3)), (10, (I x19.1)), (11, (Pt 4)), (39, (I x19.1))], [.cells [cL p7, cL p8], .cells [.nil, .nil], .cells [.nil, .nil], .vals (.agg [(.list []), (.list [])]) (x19.2.map e_st2), .cells [.d (.list ((((((([] : List Int).drop 0).take 0 ++ p7).set (0 + p9.toNat) (w64 ((w64 (2 * x24)) + x19.1))).map (D.int .i64)).drop 0).take (0 + p7.length))), .d (.list ((((((([] : List Int).drop 0).take 0 ++ p8).set (0 + p9.toNat) (w64 (x26 + 1))).map (D.int .i64)).drop 0).take (0 + p8.length)))]]⟩ (by kernel_rfl) ?_
   refine K_conv (σ' := ⟨[(2, (I p9)), (4, (Pt 0)), (6, (Pt 1)), (7, (Pt 2)), (9, (Pt 3)), (10, (I x19.1)), (11, (Pt 4)), (39, (I x19.1))], [.cells [cL p7, cL p8], .cells [.nil, .nil], .cells [.nil, .nil], .vals (.agg [(.list []), (.list [])]) (x19.2.map e_st2), .cells [cL (((((([] : List Int).drop 0).take 0 ++ p7).set (0 + p9.toNat) (w64 ((w64 (2 * x24)) + x19.1))).drop 0).take (0 + p7.length)), cL (((((([] : List Int).drop 0).take 0 ++ p8).set (0 + p9.toNat) (w64 (x26 + 1))).drop 0).take (0 + p8.length))]]⟩) (by simp only [dt_map, LI, VI]) ?_
   obtain ⟨hx27, H⟩ := guard_some H
   refine K_r [.l ((x19.2.set x19.1.toNat ((((((([] : List Int).drop 0).take 0 ++ p7).set (0 + p9.toNat) (w64 ((w64 (2 * x24)) + x19.1))).drop 0).take (0 + p7.length)), (((((([] : List Int).drop 0).take 0 ++ p8).set (0 + p9.toNat) (w64 (x26 + 1))).drop 0).take (0 + p8.length)))).map e_st2)] [(0 : Int) ≤ x19.1 ∧ x19.1 < ((2 : Nat) : Int) ∧ x19.1 < ((x19.2.map e_st2).length : Int), (x19.2.map e_st2).set x19.1.toNat (elemOf (.agg [(.list []), (.list [])]) (splice ((x19.2.map e_st2).getD x19.1.toNat (.agg [(.list []), (.list [])])).cells 0 [.list ((((((([] : List Int).drop 0).take 0 ++ p7).set (0 + p9.toNat) (w64 ((w64 (2 * x24)) + x19.1))).drop 0).take (0 + p7.length)).map (D.int .i64)), .list ((((((([] : List Int).drop 0).take 0 ++ p8).set (0 + p9.toNat) (w64 (x26 + 1))).drop 0).take (0 + p8.length)).map (D.int .i64))])) = (x19.2.set x19.1.toNat ((((((([] : List Int).drop 0).take 0 ++ p7).set (0 + p9.toNat) (w64 ((w64 (2 * x24)) + x19.1))).drop 0).take (0 + p7.length)), (((((([] : List Int).drop 0).take 0 ++ p8).set (0 + p9.toNat) (w64 (x26 + 1))).drop 0).take (0 + p8.length)))).map e_st2] (by kernel_rfl) (AC (by simpa using hx27) (A1 (st_agg x19.2 x19.1.toNat ((((((([] : List Int).drop 0).take 0 ++ p7).set (0 + p9.toNat) (w64 ((w64 (2 * x24)) + x19.1))).drop 0).take (0 + p7.length)), (((((([] : List Int).drop 0).take 0 ++ p8).set (0 + p9.toNat) (w64 (x26 + 1))).drop 0).take (0 + p8.length))) e_st2 [(.list []), (.list [])] 2 (fun _ => ⟨_, rfl, rfl⟩) rfl))) ?_
   refine K_blk (K_r [] [] (by kernel_rfl) trivial ?_)
   cases H
   exact K_end (by kernel_rfl)
 · refine K_f (by kernel_rfl) (decide_eq_false hx20) ?_
   refine K_g (by kernel_rfl) ?_
   cases H
   exact K_exit0 rfl (by kernel_rfl)
def T_word_Split (k : Nat) (p1 : Int) (p2 : Int) (p3 : Int) (p4 : Int) (p5 : Int) (p6 : List Int) (p7 : List Int) (p8 : List Int) (p9 : Int) : Option ((List Int) × (List Int) × (List Int) × (List Int) × Int) := match k with
 | 0 => none
 | k + 1 => ((T_word_Valid k p1 p2 p3 p4 p5 p6 p7 p8).bind fun x1 => (if (!x1) = true then some ([], [], [], [], 10) else (if (decide (p9 < 0) || decide (p5 ≤ p9)) = true then some ([], [], [], [], 1) else ((at? p8 p9).bind fun x4 => (if x4 = 4 then some ([], [], [], [], 4) else (loopT (T_word_Split_l1 k p7 p8 p9) k (0, [(([] : List Int), ([] : List Int)), (([] : List Int), ([] : List Int))])).bind fun x28 => (if (0 : Int) ≤ 0 ∧ 0 < 2 ∧ 0 < (x28.length : Int) then (x28[0]?).bind fun x30 => (if (0 : Int) ≤ 1 ∧ 1 < 2 ∧ 1 < (x28.length : Int) then (x28[1]?).bind fun x32 => some (x30.1, x30.2, x32.1, x32.2, 0) else none) else none))))))
abbrev C_T_word_Split (k : Nat) (p1 : Int) (p2 : Int) (p3 : Int) (p4 : Int) (p5 : Int) (p6 : List Int) (p7 : List Int) (p8 : List Int) (p9 : Int) (r : (List Int) × (List Int) × (List Int) × (List Int) × Int) : Prop := evF X k n_word_Split [(.agg [cI p1, cI p2, cI p3, cI p4, cI p5, cL p6]), (.agg [cL p7, cL p8]), (I p9)] [] = some ((.tup [(true, [cL r.1, cL r.2.1]), (true, [cL r.2.2.1, cL r.2.2.2.1]), (false, [cI r.2.2.2.2])]), [])
theorem T_word_Split_ok (k : Nat) (p1 : Int) (p2 : Int) (p3 : Int) (p4 : Int) (p5 : Int) (p6 : List Int) (p7 : List Int) (p8 : List Int) (p9 : Int) (r : (List Int) × (List Int) × (List Int) × (List Int) × Int) : T_word_Split k p1 p2 p3 p4 p5 p6 p7 p8 p9 = some r → C_T_word_Split k p1 p2 p3 p4 p5 p6 p7 p8 p9 r := by
 intro H
 cases k with
 | zero => simp [T_word_Split] at H
 | succ k =>
  simp only [T_word_Split] at H
  refine F_in X_word_Split rfl ?_
  refine K_seq (K_r [] [] (by kernel_rfl) trivial ?_)
  refine K_seq ?_
  refine K_block ?_
  refine K_seq ?_
  obtain ⟨x1, hx1, H⟩ := bind_some' H
  refine K_r [.r (B x1) []] [C_T_word_Valid k p1 p2 p3 p4 p5 p6 p7 p8 x1] (by kernel_rfl) (A1 (T_word_Valid_ok k p1 p2 p3 p4 p5 p6 p7 p8 x1 hx1)) ?_
  rcases ite_some H with ⟨hx2, H⟩ | ⟨hx2, H⟩
  · refine K_t (by kernel_rfl) hx2 ?_
    refine K_seq (K_r [] [] (by kernel_rfl) trivial ?_)
    refine K_g (by kernel_rfl) ?_
    cases H
    refine K_ret ?_
    kernel_rfl
  · refine K_f (by kernel_rfl) (Bool.eq_false_iff.2 hx2) ?_
    refine K_seq (K_r [.m] ((fun (z1 : Heap) => [z1 = z1]) [.cells [cI p1, cI p2, cI p3, cI p4, cI p5, cL p6], .cells [cL p7, cL p8], .cells [.nil, .nil], .cells [.nil, .nil]]) (by kernel_rfl) (A1 rfl) ?_)
    rcases ite_some H with ⟨hx3, H⟩ | ⟨hx3, H⟩
    · refine K_t (by kernel_rfl) hx3 ?_
      refine K_seq (K_r [] [] (by kernel_rfl) trivial ?_)
      refine K_g (by kernel_rfl) ?_
      cases H
      refine K_ret ?_
      kernel_rfl
    · refine K_f (by kernel_rfl) (Bool.eq_false_iff.2 hx3) ?_
      refine K_seq ?_
      obtain ⟨x4, hx4, H⟩ := bind_some' H
      refine K_r [.l [.int .i64 x4]] [(0 : Int) ≤ p9 ∧ p9 < (((p8.map (D.int .i64))).length : Int), ((p8.map (D.int .i64)).getD p9.toNat (.int .i64 0)).cells = [.int .i64 x4]] (by kernel_rfl) (AC (at_ok hx4 (D.int .i64) (.int .i64 0)).1 (A1 (at_ok hx4 (D.int .i64) (.int .i64 0)).2)) ?_
      rcases ite_some H with ⟨hx5, H⟩ | ⟨hx5, H⟩
      · refine K_t (by kernel_rfl) (decide_eq_true hx5) ?_
        refine K_seq (K_r [] [] (by kernel_rfl) trivial ?_)
        refine K_g (by kernel_rfl) ?_
        cases H
        refine K_ret ?_
        kernel_rfl
      · refine K_f (by kernel_rfl) (decide_eq_false hx5) ?_
        refine K_g (by kernel_rfl) ?_
        refine K_skip (K_blk (K_seq (K_r [] [] (by kernel_rfl) trivial ?_)))
        refine K_seq (K_seq (K_r [] [] (by kernel_rfl) trivial ?_))
        refine K_block (K_conv (σ' := ⟨[(2, (I p9)), (4, (Pt 0)), (6, (Pt 1)), (7, (Pt 2)), (9, (Pt 3)), (39, (I 0))], [.cells [cL p7, cL p8], .cells [.nil, .nil], .cells [.nil, .nil], .vals (.agg [(.list []), (.list [])]) ([(([] : List Int), ([] : List Int)), (([] : List Int), ([] : List Int))].map e_st2)]⟩) (by kernel_rfl) ?_)
        obtain ⟨x28, hx28, H⟩ := bind_some' H
        refine K_loop ⟨[(6, (Pt 0)), (7, (Pt 1)), (9, (Pt 2))], [.cells [.nil, .nil], .cells [.nil, .nil], .vals (.agg [(.list []), (.list [])]) (x28.map e_st2)]⟩ (loop_ok (fun (s : Int × (List ((List Int) × (List Int)))) => ⟨[(2, (I p9)), (4, (Pt 0)), (6, (Pt 1)), (7, (Pt 2)), (9, (Pt 3)), (39, (I s.1))], [.cells [cL p7, cL p8], .cells [.nil, .nil], .cells [.nil, .nil], .vals (.agg [(.list []), (.list [])]) (s.2.map e_st2)]⟩) (fun (r : ((List ((List Int) × (List Int))))) => (.exit 1, ⟨[(6, (Pt 0)), (7, (Pt 1)), (9, (Pt 2))], [.cells [.nil, .nil], .cells [.nil, .nil], .vals (.agg [(.list []), (.list [])]) (r.map e_st2)]⟩)) (fun r h => by cases h) (T_word_Split_l1_ok k p7 p8 p9) k (0, [(([] : List Int), ([] : List Int)), (([] : List Int), ([] : List Int))]) x28 hx28) rfl ?_
        refine K_seq ?_
        obtain ⟨hx29, H⟩ := guard_some H
        obtain ⟨x30, hx30, H⟩ := bind_some' H
        obtain ⟨hx31, H⟩ := guard_some H
        obtain ⟨x32, hx32, H⟩ := bind_some' H
        refine K_rD [.l [.list (x30.1.map (D.int .i64)), .list (x30.2.map (D.int .i64))], .l [.list (x32.1.map (D.int .i64)), .list (x32.2.map (D.int .i64))], .l [.list (x32.1.map (D.int .i64)), .list (x32.2.map (D.int .i64))], .l [.list (x32.1.map (D.int .i64)), .list (x32.2.map (D.int .i64))], .l [.list (x30.1.map (D.int .i64)), .list (x30.2.map (D.int .i64))], .l [.list (x32.1.map (D.int .i64)), .list (x32.2.map (D.int .i64))], .l [.list (x32.1.map (D.int .i64)), .list (x32.2.map (D.int .i64))], .l [.list (x32.1.map (D.int .i64)), .list (x32.2.map (D.int .i64))], .l [.list (x30.1.map (D.int .i64)), .list (x30.2.map (D.int .i64))], .l [.list (x30.1.map (D.int .i64)), .list (x30.2.map (D.int .i64))], .l [.list (x32.1.map (D.int .i64)), .list (x32.2.map (D.int .i64))], .l [.list (x32.1.map (D.int .i64)), .list (x32.2.map (D.int .i64))], .l [.list (x32.1.map (D.int .i64)), .list (x32.2.map (D.int .i64))], .l [.list (x30.1.map (D.int .i64)), .list (x30.2.map (D.int .i64))], .l [.list (x32.1.map (D.int .i64)), .list (x32.2.map (D.int .i64))], .l [.list (x30.1.map (D.int .i64)), .list (x30.2.map (D.int .i64))]] ((fun (z1 : St) => [(0 : Int) ≤ 0 ∧ 0 < ((2 : Nat) : Int) ∧ 0 < ((x28.map e_st2).length : Int), ((x28.map e_st2).getD 0 (.agg [(.list []), (.list [])])).cells = [.list (x30.1.map (D.int .i64)), .list (x30.2.map (D.int .i64))], (0 : Int) ≤ 1 ∧ 1 < ((2 : Nat) : Int) ∧ 1 < ((x28.map e_st2).length : Int), ((x28.map e_st2).getD 1 (.agg [(.list []), (.list [])])).cells = [.list (x32.1.map (D.int .i64)), .list (x32.2.map (D.int .i64))], ((x28.map e_st2).getD 1 (.agg [(.list []), (.list [])])).cells = [.list (x32.1.map (D.int .i64)), .list (x32.2.map (D.int .i64))], z1 = z1, (0 : Int) ≤ 1 ∧ 1 < ((2 : Nat) : Int) ∧ 1 < ((x28.map e_st2).length : Int), ((x28.map e_st2).getD 1 (.agg [(.list []), (.list [])])).cells = [.list (x32.1.map (D.int .i64)), .list (x32.2.map (D.int .i64))], z1 = z1, (0 : Int) ≤ 1 ∧ 1 < ((2 : Nat) : Int) ∧ 1 < ((x28.map e_st2).length : Int), ((x28.map e_st2).getD 0 (.agg [(.list []), (.list [])])).cells = [.list (x30.1.map (D.int .i64)), .list (x30.2.map (D.int .i64))], ((x28.map e_st2).getD 1 (.agg [(.list []), (.list [])])).cells = [.list (x32.1.map (D.int .i64)), .list (x32.2.map (D.int .i64))], ((x28.map e_st2).getD 1 (.agg [(.list []), (.list [])])).cells = [.list (x32.1.map (D.int .i64)), .list (x32.2.map (D.int .i64))], z1 = z1, ((x28.map e_st2).getD 1 (.agg [(.list []), (.list [])])).cells = [.list (x32.1.map (D.int .i64)), .list (x32.2.map (D.int .i64))], ((x28.map e_st2).getD 0 (.agg [(.list []), (.list [])])).cells = [.list (x30.1.map (D.int .i64)), .list (x30.2.map (D.int .i64))], z1 = z1, z1 = z1, (0 : Int) ≤ 1 ∧ 1 < ((2 : Nat) : Int) ∧ 1 < ((x28.map e_st2).length : Int), (0 : Int) ≤ 0 ∧ 0 < ((2 : Nat) : Int) ∧ 0 < ((x28.map e_st2).length : Int), ((x28.map e_st2).getD 0 (.agg [(.list []), (.list [])])).cells = [.list (x30.1.map (D.int .i64)), .list (x30.2.map (D.int .i64))], ((x28.map e_st2).getD 1 (.agg [(.list []), (.list [])])).cells = [.list (x32.1.map (D.int .i64)), .list (x32.2.map (D.int .i64))], ((x28.map e_st2).getD 1 (.agg [(.list []), (.list [])])).cells = [.list (x32.1.map (D.int .i64)), .list (x32.2.map (D.int .i64))], z1 = z1, ((x28.map e_st2).getD 1 (.agg [(.list []), (.list [])])).cells = [.list (x32.1.map (D.int .i64)), .list (x32.2.map (D.int .i64))], ((x28.map e_st2).getD 0 (.agg [(.list []), (.list [])])).cells = [.list (x30.1.map (D.int .i64)), .list (x30.2.map (D.int .i64))], z1 = z1, ((x28.map e_st2).getD 1 (.agg [(.list []), (.list [])])).cells = [.list (x32.1.map (D.int .i64)), .list (x32.2.map (D.int .i64))], (0 : Int) ≤ 0 ∧ 0 < ((2 : Nat) : Int) ∧ 0 < ((x28.map e_st2).length : Int), ((x28.map e_st2).getD 0 (.agg [(.list []), (.list [])])).cells = [.list (x30.1.map (D.int .i64)), .list (x30.2.map (D.int .i64))], z1 = z1, z1 = z1]) (⟨[(6, (Pt 0)), (7, (Pt 1)), (8, (I 0))], [.cells [cL x30.1, cL x30.2], .cells [cL x32.1, cL x32.2]]⟩)) (by kernel_rfl) (AC (by simpa using hx29) (AC (ld_ok hx30 e_st2 (.agg [(.list []), (.list [])])) (AC (by simpa using hx31) (AC (ld_ok hx32 e_st2 (.agg [(.list []), (.list [])])) (AC (ld_ok hx32 e_st2 (.agg [(.list []), (.list [])])) (AC rfl (AC (by simpa using hx31) (AC (ld_ok hx32 e_st2 (.agg [(.list []), (.list [])])) (AC rfl (AC (by simpa using hx31) (AC (ld_ok hx30 e_st2 (.agg [(.list []), (.list [])])) (AC (ld_ok hx32 e_st2 (.agg [(.list []), (.list [])])) (AC (ld_ok hx32 e_st2 (.agg [(.list []), (.list [])])) (AC rfl (AC (ld_ok hx32 e_st2 (.agg [(.list []), (.list [])])) (AC (ld_ok hx30 e_st2 (.agg [(.list []), (.list [])])) (AC rfl (AC rfl (AC (by simpa using hx31) (AC (by simpa using hx29) (AC (ld_ok hx30 e_st2 (.agg [(.list []), (.list [])])) (AC (ld_ok hx32 e_st2 (.agg [(.list []), (.list [])])) (AC (ld_ok hx32 e_st2 (.agg [(.list []), (.list [])])) (AC rfl (AC (ld_ok hx32 e_st2 (.agg [(.list []), (.list [])])) (AC (ld_ok hx30 e_st2 (.agg [(.list []), (.list [])])) (AC rfl (AC (ld_ok hx32 e_st2 (.agg [(.list []), (.list [])])) (AC (by simpa using hx29) (AC (ld_ok hx30 e_st2 (.agg [(.list []), (.list [])])) (AC rfl (A1 rfl)))))))))))))))))))))))))))))))) ?_
        refine K_g (by kernel_rfl) ?_
        cases H
        refine K_ret ?_
        kernel_rfl
def T_ref19_with (k : Nat) (p1 : List Int) (p2 : List Int) (p3 : Int) (p4 : Int) : Option ((List Int) × (List Int)) := match k with
 | 0 => none
 | k + 1 => (if 0 + p1.length ≤ LIM then (if 0 + p2.length ≤ LIM then (if (0 : Int) ≤ p3 ∧ p3 < (((0 + p1.length) : Nat) : Int) then (((([] : List Int).drop 0).take 0 ++ p1)[(0 + p3.toNat)]?).bind fun x4 => (if (0 : Int) ≤ p3 ∧ p3 < (((0 + p2.length) : Nat) : Int) then (((([] : List Int).drop 0).take 0 ++ p2)[(0 + p3.toNat)]?).bind fun x6 => some ((((((([] : List Int).drop 0).take 0 ++ p1).set (0 + p3.toNat) (w64 ((w64 (2 * x4)) + p4))).drop 0).take (0 + p1.length)), (((((([] : List Int).drop 0).take 0 ++ p2).set (0 + p3.toNat) (w64 (x6 + 1))).drop 0).take (0 + p2.length))) else none) else none) else none) else none)
abbrev C_T_ref19_with (k : Nat) (p1 : List Int) (p2 : List Int) (p3 : Int) (p4 : Int) (r : (List Int) × (List Int)) : Prop := evF X k n_ref19_with [(.agg [cL p1, cL p2]), (I p3), (I p4)] [] = some ((.agg [cL r.1, cL r.2]), [])
theorem T_ref19_with_ok (k : Nat) (p1 : List Int) (p2 : List Int) (p3 : Int) (p4 : Int) (r : (List Int) × (List Int)) : T_ref19_with k p1 p2 p3 p4 = some r → C_T_ref19_with k p1 p2 p3 p4 r := by
 intro H
 cases k with
 | zero => simp [T_ref19_with] at H
 | succ k =>
  simp only [T_ref19_with] at H
  refine F_in X_ref19_with rfl ?_
  refine K_seq (K_r [] [] (by kernel_rfl) trivial ?_)
  refine K_seq (K_g (by kernel_rfl) ?_)
  obtain ⟨hx1, H⟩ := guard_some H
  obtain ⟨hx2, H⟩ := guard_some H
  refine K_rD [.n p1.length, .l (((([] : List Int).drop 0).take 0 ++ p1).map (D.int .i64)), .n p2.length, .l (((([] : List Int).drop 0).take 0 ++ p2).map (D.int .i64)), .n p2.length, .l (((([] : List Int).drop 0).take 0 ++ p2).map (D.int .i64)), .n p2.length, .l (((([] : List Int).drop 0).take 0 ++ p2).map (D.int .i64)), .n p1.length, .l (((([] : List Int).drop 0).take 0 ++ p1).map (D.int .i64)), .n p2.length, .l (((([] : List Int).drop 0).take 0 ++ p2).map (D.int .i64)), .n p2.length, .l (((([] : List Int).drop 0).take 0 ++ p2).map (D.int .i64)), .n p1.length, .l (((([] : List Int).drop 0).take 0 ++ p1).map (D.int .i64)), .n p2.length, .l (((([] : List Int).drop 0).take 0 ++ p2).map (D.int .i64)), .n p1.length, .l (((([] : List Int).drop 0).take 0 ++ p1).map (D.int .i64)), .n p2.length, .l (((([] : List Int).drop 0).take 0 ++ p2).map (D.int .i64)), .n p1.length, .l (((([] : List Int).drop 0).take 0 ++ p1).map (D.int .i64)), .n p2.length, .l (((([] : List Int).drop 0).take 0 ++ p2).map (D.int .i64)), .n p1.length, .l (((([] : List Int).drop 0).take 0 ++ p1).map (D.int .i64)), .n p2.length, .l (((([] : List Int).drop 0).take 0 ++ p2).map (D.int .i64)), .n p2.length, .l (((([] : List Int).drop 0).take 0 ++ p2).map (D.int .i64)), .n p1.length, .l (((([] : List Int).drop 0).take 0 ++ p1).map (D.int .i64)), .n p2.length, .l (((([] : List Int).drop 0).take 0 ++ p2).map (D.int .i64)), .n p1.length, .l (((([] : List Int).drop 0).take 0 ++ p1).map (D.int .i64)), .n p2.length, .l (((([] : List Int).drop 0).take 0 ++ p2).map (D.int .i64)), .n p1.length, .l (((([] : List Int).drop 0).take 0 ++ p1).map (D.int .i64)), .n p2.length, .l (((([] : List Int).drop 0).take 0 ++ p2).map (D.int .i64)), .n p1.length, .l (((([] : List Int).drop 0).take 0 ++ p1).map (D.int .i64)), .n p2.length, .l (((([] : List Int).drop 0).take 0 ++ p2).map (D.int .i64)), .n p1.length, .l (((([] : List Int).drop 0).take 0 ++ p1).map (D.int .i64)), .n p2.length, .l (((([] : List Int).drop 0).take 0 ++ p2).map (D.int .i64))] ((fun (z1 : St) => [(List.all (p1.map (D.int .i64)) fun d => d.cells.length == (D.cells (.int .i64 0)).length) = true, 0 + p1.length ≤ LIM, (p1.map (D.int .i64)).length = p1.length, ((([] : List Int).map (D.int .i64)).drop 0).take 0 ++ (p1.map (D.int .i64)) = ((([] : List Int).drop 0).take 0 ++ p1).map (D.int .i64), (List.all (p2.map (D.int .i64)) fun d => d.cells.length == (D.cells (.int .i64 0)).length) = true, 0 + p2.length ≤ LIM, (p2.map (D.int .i64)).length = p2.length, ((([] : List Int).map (D.int .i64)).drop 0).take 0 ++ (p2.map (D.int .i64)) = ((([] : List Int).drop 0).take 0 ++ p2).map (D.int .i64), (List.all (p2.map (D.int .i64)) fun d => d.cells.length == (D.cells (.int .i64 0)).length) = true, 0 + p2.length ≤ LIM, (p2.map (D.int .i64)).length = p2.length, ((([] : List Int).map (D.int .i64)).drop 0).take 0 ++ (p2.map (D.int .i64)) = ((([] : List Int).drop 0).take 0 ++ p2).map (D.int .i64), z1 = z1, (List.all (p2.map (D.int .i64)) fun d => d.cells.length == (D.cells (.int .i64 0)).length) = true, 0 + p2.length ≤ LIM, (p2.map (D.int .i64)).length = p2.length, ((([] : List Int).map (D.int .i64)).drop 0).take 0 ++ (p2.map (D.int .i64)) = ((([] : List Int).drop 0).take 0 ++ p2).map (D.int .i64), z1 = z1, (List.all (p1.map (D.int .i64)) fun d => d.cells.length == (D.cells (.int .i64 0)).length) = true, 0 + p1.length ≤ LIM, (p1.map (D.int .i64)).length = p1.length, ((([] : List Int).map (D.int .i64)).drop 0).take 0 ++ (p1.map (D.int .i64)) = ((([] : List Int).drop 0).take 0 ++ p1).map (D.int .i64), (List.all (p2.map (D.int .i64)) fun d => d.cells.length == (D.cells (.int .i64 0)).length) = true, 0 + p2.length ≤ LIM, (p2.map (D.int .i64)).length = p2.length, ((([] : List Int).map (D.int .i64)).drop 0).take 0 ++ (p2.map (D.int .i64)) = ((([] : List Int).drop 0).take 0 ++ p2).map (D.int .i64), (List.all (p2.map (D.int .i64)) fun d => d.cells.length == (D.cells (.int .i64 0)).length) = true, 0 + p2.length ≤ LIM, (p2.map (D.int .i64)).length = p2.length, ((([] : List Int).map (D.int .i64)).drop 0).take 0 ++ (p2.map (D.int .i64)) = ((([] : List Int).drop 0).take 0 ++ p2).map (D.int .i64), z1 = z1, (List.all (p1.map (D.int .i64)) fun d => d.cells.length == (D.cells (.int .i64 0)).length) = true, 0 + p1.length ≤ LIM, (p1.map (D.int .i64)).length = p1.length, ((([] : List Int).map (D.int .i64)).drop 0).take 0 ++ (p1.map (D.int .i64)) = ((([] : List Int).drop 0).take 0 ++ p1).map (D.int .i64), (List.all (p2.map (D.int .i64)) fun d => d.cells.length == (D.cells (.int .i64 0)).length) = true, 0 + p2.length ≤ LIM, (p2.map (D.int .i64)).length = p2.length, ((([] : List Int).map (D.int .i64)).drop 0).take 0 ++ (p2.map (D.int .i64)) = ((([] : List Int).drop 0).take 0 ++ p2).map (D.int .i64), z1 = z1, z1 = z1, (List.all (p1.map (D.int .i64)) fun d => d.cells.length == (D.cells (.int .i64 0)).length) = true, 0 + p1.length ≤ LIM, (p1.map (D.int .i64)).length = p1.length, ((([] : List Int).map (D.int .i64)).drop 0).take 0 ++ (p1.map (D.int .i64)) = ((([] : List Int).drop 0).take 0 ++ p1).map (D.int .i64), (List.all (p2.map (D.int .i64)) fun d => d.cells.length == (D.cells (.int .i64 0)).length) = true, 0 + p2.length ≤ LIM, (p2.map (D.int .i64)).length = p2.length, ((([] : List Int).map (D.int .i64)).drop 0).take 0 ++ (p2.map (D.int .i64)) = ((([] : List Int).drop 0).take 0 ++ p2).map (D.int .i64), (List.all (p1.map (D.int .i64)) fun d => d.cells.length == (D.cells (.int .i64 0)).length) = true, 0 + p1.length ≤ LIM, (p1.map (D.int .i64)).length = p1.length, ((([] : List Int).map (D.int .i64)).drop 0).take 0 ++ (p1.map (D.int .i64)) = ((([] : List Int).drop 0).take 0 ++ p1).map (D.int .i64), (List.all (p2.map (D.int .i64)) fun d => d.cells.length == (D.cells (.int .i64 0)).length) = true, 0 + p2.length ≤ LIM, (p2.map (D.int .i64)).length = p2.length, ((([] : List Int).map (D.int .i64)).drop 0).take 0 ++ (p2.map (D.int .i64)) = ((([] : List Int).drop 0).take 0 ++ p2).map (D.int .i64), z1 = z1, z1 = z1, (List.all (p1.map (D.int .i64)) fun d => d.cells.length == (D.cells (.int .i64 0)).length) = true, 0 + p1.length ≤ LIM, (p1.map (D.int .i64)).length = p1.length, ((([] : List Int).map (D.int .i64)).drop 0).take 0 ++ (p1.map (D.int .i64)) = ((([] : List Int).drop 0).take 0 ++ p1).map (D.int .i64), (List.all (p2.map (D.int .i64)) fun d => d.cells.length == (D.cells (.int .i64 0)).length) = true, 0 + p2.length ≤ LIM, (p2.map (D.int .i64)).length = p2.length, ((([] : List Int).map (D.int .i64)).drop 0).take 0 ++ (p2.map (D.int .i64)) = ((([] : List Int).drop 0).take 0 ++ p2).map (D.int .i64), (List.all (p2.map (D.int .i64)) fun d => d.cells.length == (D.cells (.int .i64 0)).length) = true, 0 + p2.length ≤ LIM, (p2.map (D.int .i64)).length = p2.length, ((([] : List Int).map (D.int .i64)).drop 0).take 0 ++ (p2.map (D.int .i64)) = ((([] : List Int).drop 0).take 0 ++ p2).map (D.int .i64), z1 = z1, (List.all (p1.map (D.int .i64)) fun d => d.cells.length == (D.cells (.int .i64 0)).length) = true, 0 + p1.length ≤ LIM, (p1.map (D.int .i64)).length = p1.length, ((([] : List Int).map (D.int .i64)).drop 0).take 0 ++ (p1.map (D.int .i64)) = ((([] : List Int).drop 0).take 0 ++ p1).map (D.int .i64), (List.all (p2.map (D.int .i64)) fun d => d.cells.length == (D.cells (.int .i64 0)).length) = true, 0 + p2.length ≤ LIM, (p2.map (D.int .i64)).length = p2.length, ((([] : List Int).map (D.int .i64)).drop 0).take 0 ++ (p2.map (D.int .i64)) = ((([] : List Int).drop 0).take 0 ++ p2).map (D.int .i64), z1 = z1, (List.all (p1.map (D.int .i64)) fun d => d.cells.length == (D.cells (.int .i64 0)).length) = true, 0 + p1.length ≤ LIM, (p1.map (D.int .i64)).length = p1.length, ((([] : List Int).map (D.int .i64)).drop 0).take 0 ++ (p1.map (D.int .i64)) = ((([] : List Int).drop 0).take 0 ++ p1).map (D.int .i64), (List.all (p2.map (D.int .i64)) fun d => d.cells.length == (D.cells (.int .i64 0)).length) = true, 0 + p2.length ≤ LIM, (p2.map (D.int .i64)).length = p2.length, ((([] : List Int).map (D.int .i64)).drop 0).take 0 ++ (p2.map (D.int .i64)) = ((([] : List Int).drop 0).take 0 ++ p2).map (D.int .i64), z1 = z1, z1 = z1, (List.all (p1.map (D.int .i64)) fun d => d.cells.length == (D.cells (.int .i64 0)).length) = true, 0 + p1.length ≤ LIM, (p1.map (D.int .i64)).length = p1.length, ((([] : List Int).map (D.int .i64)).drop 0).take 0 ++ (p1.map (D.int .i64)) = ((([] : List Int).drop 0).take 0 ++ p1).map (D.int .i64), (List.all (p2.map (D.int .i64)) fun d => d.cells.length == (D.cells (.int .i64 0)).length) = true, 0 + p2.length ≤ LIM, (p2.map (D.int .i64)).length = p2.length, ((([] : List Int).map (D.int .i64)).drop 0).take 0 ++ (p2.map (D.int .i64)) = ((([] : List Int).drop 0).take 0 ++ p2).map (D.int .i64), (List.all (p1.map (D.int .i64)) fun d => d.cells.length == (D.cells (.int .i64 0)).length) = true, 0 + p1.length ≤ LIM, (p1.map (D.int .i64)).length = p1.length, ((([] : List Int).map (D.int .i64)).drop 0).take 0 ++ (p1.map (D.int .i64)) = ((([] : List Int).drop 0).take 0 ++ p1).map (D.int .i64), (List.all (p2.map (D.int .i64)) fun d => d.cells.length == (D.cells (.int .i64 0)).length) = true, 0 + p2.length ≤ LIM, (p2.map (D.int .i64)).length = p2.length, ((([] : List Int).map (D.int .i64)).drop 0).take 0 ++ (p2.map (D.int .i64)) = ((([] : List Int).drop 0).take 0 ++ p2).map (D.int .i64), z1 = z1, (List.all (p1.map (D.int .i64)) fun d => d.cells.length == (D.cells (.int .i64 0)).length) = true, 0 + p1.length ≤ LIM, (p1.map (D.int .i64)).length = p1.length, ((([] : List Int).map (D.int .i64)).drop 0).take 0 ++ (p1.map (D.int .i64)) = ((([] : List Int).drop 0).take 0 ++ p1).map (D.int .i64), (List.all (p2.map (D.int .i64)) fun d => d.cells.length == (D.cells (.int .i64 0)).length) = true, 0 + p2.length ≤ LIM, (p2.map (D.int .i64)).length = p2.length, ((([] : List Int).map (D.int .i64)).drop 0).take 0 ++ (p2.map (D.int .i64)) = ((([] : List Int).drop 0).take 0 ++ p2).map (D.int .i64), z1 = z1, z1 = z1]) (⟨[(1, (I p3)), (2, (I p4)), (6, (Pt 0)), (7, (Pt 1))], [.cells [.nil, .nil], .cells [.own 2 0 (0 + p1.length), .own 3 0 (0 + p2.length)], VI ((([] : List Int).drop 0).take 0 ++ p1), VI ((([] : List Int).drop 0).take 0 ++ p2)]⟩)) (by kernel_rfl) (AC (all_ok (D.int .i64) 1 p1 (fun _ => rfl)) (AC hx1 (AC (by simp) (AC (ap_map (D.int .i64) ([] : List Int) p1 0 0) (AC (all_ok (D.int .i64) 1 p2 (fun _ => rfl)) (AC hx2 (AC (by simp) (AC (ap_map (D.int .i64) ([] : List Int) p2 0 0) (AC (all_ok (D.int .i64) 1 p2 (fun _ => rfl)) (AC hx2 (AC (by simp) (AC (ap_map (D.int .i64) ([] : List Int) p2 0 0) (AC rfl (AC (all_ok (D.int .i64) 1 p2 (fun _ => rfl)) (AC hx2 (AC (by simp) (AC (ap_map (D.int .i64) ([] : List Int) p2 0 0) (AC rfl (AC (all_ok (D.int .i64) 1 p1 (fun _ => rfl)) (AC hx1 (AC (by simp) (AC (ap_map (D.int .i64) ([] : List Int) p1 0 0) (AC (all_ok (D.int .i64) 1 p2 (fun _ => rfl)) (AC hx2 (AC (by simp) (AC (ap_map (D.int .i64) ([] : List Int) p2 0 0) (AC (all_ok (D.int .i64) 1 p2 (fun _ => rfl)) (AC hx2 (AC (by simp) (AC (ap_map (D.int .i64) ([] : List Int) p2 0 0) (AC rfl (AC (all_ok (D.int .i64) 1 p1 (fun _ => rfl)) (AC hx1 (AC (by simp) (AC (ap_map (D.int .i64) ([] : List Int) p1 0 0) (AC (all_ok (D.int .i64) 1 p2 (fun _ => rfl)) (AC hx2 (AC (by simp) (AC (ap_map (D.int .i64) ([] : List Int) p2 0 0) (AC rfl (AC rfl (AC (all_ok (D.int .i64) 1 p1 (fun _ => rfl)) (AC hx1 (AC (by simp) (AC (ap_map (D.int .i64) ([] : List Int) p1 0 0) (AC (all_ok (D.int .i64) 1 p2 (fun _ => rfl)) (AC hx2 (AC (by simp) (AC (ap_map (D.int .i64) ([] : List Int) p2 0 0) (AC (all_ok (D.int .i64) 1 p1 (fun _ => rfl)) (AC hx1 (AC (by simp) (AC (ap_map (D.int .i64) ([] : List Int) p1 0 0) (AC (all_ok (D.int .i64) 1 p2 (fun _ => rfl)) (AC hx2 (AC (by simp) (AC (ap_map (D.int .i64) ([] : List Int) p2 0 0) (AC rfl (AC rfl (AC (all_ok (D.int .i64) 1 p1 (fun _ => rfl)) (AC hx1 (AC (by simp) (AC (ap_map (D.int .i64) ([] : List Int) p1 0 0) (AC (all_ok (D.int .i64) 1 p2 (fun _ => rfl)) (AC hx2 (AC (by simp) (AC (ap_map (D.int .i64) ([] : List Int) p2 0 0) (AC (all_ok (D.int .i64) 1 p2 (fun _ => rfl)) (AC hx2 (AC (by simp) (AC (ap_map (D.int .i64) ([] : List Int) p2 0 0) (AC rfl (AC (all_ok (D.int .i64) 1 p1 (fun _ => rfl)) (AC hx1 (AC (by simp) (AC (ap_map (D.int .i64) ([] : List Int) p1 0 0) (AC (all_ok (D.int .i64) 1 p2 (fun _ => rfl)) (AC hx2 (AC (by simp) (AC (ap_map (D.int .i64) ([] : List Int) p2 0 0) (AC rfl (AC (all_ok (D.int .i64) 1 p1 (fun _ => rfl)) (AC hx1 (AC (by simp) (AC (ap_map (D.int .i64) ([] : List Int) p1 0 0) (AC (all_ok (D.int .i64) 1 p2 (fun _ => rfl)) (AC hx2 (AC (by simp) (AC (ap_map (D.int .i64) ([] : List Int) p2 0 0) (AC rfl (AC rfl (AC (all_ok (D.int .i64) 1 p1 (fun _ => rfl)) (AC hx1 (AC (by simp) (AC (ap_map (D.int .i64) ([] : List Int) p1 0 0) (AC (all_ok (D.int .i64) 1 p2 (fun _ => rfl)) (AC hx2 (AC (by simp) (AC (ap_map (D.int .i64) ([] : List Int) p2 0 0) (AC (all_ok (D.int .i64) 1 p1 (fun _ => rfl)) (AC hx1 (AC (by simp) (AC (ap_map (D.int .i64) ([] : List Int) p1 0 0) (AC (all_ok (D.int .i64) 1 p2 (fun _ => rfl)) (AC hx2 (AC (by simp) (AC (ap_map (D.int .i64) ([] : List Int) p2 0 0) (AC rfl (AC (all_ok (D.int .i64) 1 p1 (fun _ => rfl)) (AC hx1 (AC (by simp) (AC (ap_map (D.int .i64) ([] : List Int) p1 0 0) (AC (all_ok (D.int .i64) 1 p2 (fun _ => rfl)) (AC hx2 (AC (by simp) (AC (ap_map (D.int .i64) ([] : List Int) p2 0 0) (AC rfl (A1 rfl)))))))))))))))))))))))))))))))))))))))))))))))))))))))))))))))))))))))))))))))))))))))))))))))))))))))))))))))))))))) ?_
  refine K_seq ?_
  obtain ⟨hx3, H⟩ := guard_some H
  obtain ⟨x4, hx4, H⟩ := bind_some' H
  refine K_r [.l [.int .i64 x4], .l ((((([] : List Int).drop 0).take 0 ++ p1).set (0 + p3.toNat) (w64 ((w64 (2 * x4)) + p4))).map (D.int .i64))] [(0 : Int) ≤ p3 ∧ p3 < (((0 + p1.length) : Nat) : Int), ((((([] : List Int).drop 0).take 0 ++ p1).map (D.int .i64)).getD (0 + p3.toNat) (.int .i64 0)).cells = [.int .i64 x4], (0 : Int) ≤ p3 ∧ p3 < (((0 + p1.length) : Nat) : Int), (((([] : List Int).drop 0).take 0 ++ p1).map (D.int .i64)).set (0 + p3.toNat) (elemOf (.int .i64 0) (splice ((((([] : List Int).drop 0).take 0 ++ p1).map (D.int .i64)).getD (0 + p3.toNat) (.int .i64 0)).cells 0 [.int .i64 (w64 ((w64 (2 * x4)) + p4))])) = (((([] : List Int).drop 0).take 0 ++ p1).set (0 + p3.toNat) (w64 ((w64 (2 * x4)) + p4))).map (D.int .i64)] (by kernel_rfl) (AC hx3 (AC (ld_ok hx4 (D.int .i64) (.int .i64 0)) (AC hx3 (A1 (st_one ((([] : List Int).drop 0).take 0 ++ p1) (0 + p3.toNat) (w64 ((w64 (2 * x4)) + p4)) (D.int .i64) (.int .i64 0) rfl (fun _ => rfl) rfl))))) ?_
  refine K_seq ?_
  obtain ⟨hx5, H⟩ := guard_some H
  obtain ⟨x6, hx6, H⟩ := bind_some' H
  refine K_r [.l [.int .i64 x6], .l ((((([] : List Int).drop 0).take 0 ++ p2).set (0 + p3.toNat) (w64 (x6 + 1))).map (D.int .i64))] [(0 : Int) ≤ p3 ∧ p3 < (((0 + p2.length) : Nat) : Int), ((((([] : List Int).drop 0).take 0 ++ p2).map (D.int .i64)).getD (0 + p3.toNat) (.int .i64 0)).cells = [.int .i64 x6], (0 : Int) ≤ p3 ∧ p3 < (((0 + p2.length) : Nat) : Int), (((([] : List Int).drop 0).take 0 ++ p2).map (D.int .i64)).set (0 + p3.toNat) (elemOf (.int .i64 0) (splice ((((([] : List Int).drop 0).take 0 ++ p2).map (D.int .i64)).getD (0 + p3.toNat) (.int .i64 0)).cells 0 [.int .i64 (w64 (x6 + 1))])) = (((([] : List Int).drop 0).take 0 ++ p2).set (0 + p3.toNat) (w64 (x6 + 1))).map (D.int .i64)] (by kernel_rfl) (AC hx5 (AC (ld_ok hx6 (D.int .i64) (.int .i64 0)) (AC hx5 (A1 (st_one ((([] : List Int).drop 0).take 0 ++ p2) (0 + p3.toNat) (w64 (x6 + 1)) (D.int .i64) (.int .i64 0) rfl (fun _ => rfl) rfl))))) ?_
  refine K_seq (K_r [] [] (by kernel_rfl) trivial ?_)
  refine K_g (by kernel_rfl) ?_
  cases H
  refine K_ret ?_
  exact Eq.trans (b := some ((.agg [.d (.list ((((((([] : List Int).drop 0).take 0 ++ p1).set (0 + p3.toNat) (w64 ((w64 (2 * x4)) + p4))).map (D.int .i64)).drop 0).take (0 + p1.length))), .d (.list ((((((([] : List Int).drop 0).take 0 ++ p2).set (0 + p3.toNat) (w64 (x6 + 1))).map (D.int .i64)).drop 0).take (0 + p2.length)))]), [])) (by kernel_rfl) (by simp only [dt_map, LI, VI])
def T_ref19_Split (k : Nat) (p1 : Int) (p2 : Int) (p3 : Int) (p4 : Int) (p5 : Int) (p6 : List Int) (p7 : List Int) (p8 : List Int) (p9 : Int) : Option ((List Int) × (List Int) × (List Int) × (List Int) × Int) := match k with
 | 0 => none
 | k + 1 => ((T_ref19_Valid k p1 p2 p3 p4 p5 p6 p7 p8).bind fun x1 => (if (!x1) = true then some ([], [], [], [], 10) else (if (decide (p9 < 0) || decide (p5 ≤ p9)) = true then some ([], [], [], [], 1) else ((at? p8 p9).bind fun x4 => (if x4 = 4 then some ([], [], [], [], 4) else ((T_ref19_with k p7 p8 p9 0).bind fun x6 => (T_ref19_with k p7 p8 p9 1).bind fun x7 => some (x6.1, x6.2, x7.1, x7.2, 0)))))))
abbrev C_T_ref19_Split (k : Nat) (p1 : Int) (p2 : Int) (p3 : Int) (p4 : Int) (p5 : Int) (p6 : List Int) (p7 : List Int) (p8 : List Int) (p9 : Int) (r : (List Int) × (List Int) × (List Int) × (List Int) × Int) : Prop := evF X k n_ref19_Split [(.agg [cI p1, cI p2, cI p3, cI p4, cI p5, cL p6]), (.agg [cL p7, cL p8]), (I p9)] [] = some ((.tup [(true, [cL r.1, cL r.2.1]), (true, [cL r.2.2.1, cL r.2.2.2.1]), (false, [cI r.2.2.2.2])]), [])
theorem T_ref19_Split_ok (k : Nat) (p1 : Int) (p2 : Int) (p3 : Int) (p4 : Int) (p5 : Int) (p6 : List Int) (p7 : List Int) (p8 : List Int) (p9 : Int) (r : (List Int) × (List Int) × (List Int) × (List Int) × Int) : T_ref19_Split k p1 p2 p3 p4 p5 p6 p7 p8 p9 = some r → C_T_ref19_Split k p1 p2 p3 p4 p5 p6 p7 p8 p9 r := by
 intro H
 cases k with
 | zero => simp [T_ref19_Split] at H
 | succ k =>
  simp only [T_ref19_Split] at H
  refine F_in X_ref19_Split rfl ?_
  refine K_seq (K_r [] [] (by kernel_rfl) trivial ?_)
  refine K_seq ?_
  refine K_block ?_
  refine K_seq ?_
  obtain ⟨x1, hx1, H⟩ := bind_some' H
  refine K_r [.r (B x1) []] [C_T_ref19_Valid k p1 p2 p3 p4 p5 p6 p7 p8 x1] (by kernel_rfl) (A1 (T_ref19_Valid_ok k p1 p2 p3 p4 p5 p6 p7 p8 x1 hx1)) ?_
  rcases ite_some H with ⟨hx2, H⟩ | ⟨hx2, H⟩
  · refine K_t (by kernel_rfl) hx2 ?_
    refine K_seq (K_r [] [] (by kernel_rfl) trivial ?_)
    refine K_g (by kernel_rfl) ?_
    cases H
    refine K_ret ?_
    kernel_rfl
  · refine K_f (by kernel_rfl) (Bool.eq_false_iff.2 hx2) ?_
    refine K_seq (K_r [.m] ((fun (z1 : Heap) => [z1 = z1]) [.cells [cI p1, cI p2, cI p3, cI p4, cI p5, cL p6], .cells [cL p7, cL p8], .cells [.nil, .nil], .cells [.nil, .nil]]) (by kernel_rfl) (A1 rfl) ?_)
    rcases ite_some H with ⟨hx3, H⟩ | ⟨hx3, H⟩
    · refine K_t (by kernel_rfl) hx3 ?_
      refine K_seq (K_r [] [] (by kernel_rfl) trivial ?_)
      refine K_g (by kernel_rfl) ?_
      cases H
      refine K_ret ?_
      kernel_rfl
    · refine K_f (by kernel_rfl) (Bool.eq_false_iff.2 hx3) ?_
      refine K_seq ?_
      obtain ⟨x4, hx4, H⟩ := bind_some' H
      refine K_r [.l [.int .i64 x4]] [(0 : Int) ≤ p9 ∧ p9 < (((p8.map (D.int .i64))).length : Int), ((p8.map (D.int .i64)).getD p9.toNat (.int .i64 0)).cells = [.int .i64 x4]] (by kernel_rfl) (AC (at_ok hx4 (D.int .i64) (.int .i64 0)).1 (A1 (at_ok hx4 (D.int .i64) (.int .i64 0)).2)) ?_
      rcases ite_some H with ⟨hx5, H⟩ | ⟨hx5, H⟩
      · refine K_t (by kernel_rfl) (decide_eq_true hx5) ?_
        refine K_seq (K_r [] [] (by kernel_rfl) trivial ?_)
        refine K_g (by kernel_rfl) ?_
        cases H
        refine K_ret ?_
        kernel_rfl
      · refine K_f (by kernel_rfl) (decide_eq_false hx5) ?_
        refine K_g (by kernel_rfl) ?_
        refine K_skip ?_
        refine K_blk ?_
        refine K_seq ?_
        obtain ⟨x6, hx6, H⟩ := bind_some' H
        obtain ⟨x7, hx7, H⟩ := bind_some' H
        refine K_r [.r (.agg [cL x6.1, cL x6.2]) [], .r (.agg [cL x7.1, cL x7.2]) []] [C_T_ref19_with k p7 p8 p9 0 x6, C_T_ref19_with k p7 p8 p9 1 x7] (by kernel_rfl) (AC (T_ref19_with_ok k p7 p8 p9 0 x6 hx6) (A1 (T_ref19_with_ok k p7 p8 p9 1 x7 hx7))) ?_
        refine K_g (by kernel_rfl) ?_
        cases H
        refine K_ret ?_
        kernel_rfl
def T_word_full_1 (k : Nat) (p1 : Int) : Option Unit := match k with
 | 0 => none
 | k + 1 => some ()
abbrev C_T_word_full_1 (k : Nat) (p1 : Int) (r : Unit) : Prop := evF X k n_word_full_1 [(I p1)] [] = some ((B (!decide (p1 = 4))), [])
theorem T_word_full_1_ok (k : Nat) (p1 : Int) (r : Unit) : T_word_full_1 k p1 = some r → C_T_word_full_1 k p1 r := by
 intro H
 cases k with
 | zero => simp [T_word_full_1] at H
 | succ k =>
  simp only [T_word_full_1] at H
  refine F_in X_word_full_1 rfl ?_
  refine K_seq (K_r [] [] (by kernel_rfl) trivial ?_)
  refine K_seq (K_r [] [] (by kernel_rfl) trivial ?_)
  refine K_g (by kernel_rfl) ?_
  cases H
  refine K_ret ?_
  kernel_rfl
def T_slices_IndexFunc_b354_l1 (k : Nat) (p1 : List Int) (x2 : Int) (x8 : Int) : Option (Int ⊕ (Unit ⊕ Int)) :=
 (if x8 < x2 then ((at? p1 x8).bind fun x10 => (T_word_full_1 k x10).bind fun x11 => (if (!decide (x10 = 4)) = true then some (.inr (.inr x8)) else some (.inl (w64 (x8 + 1))))) else some (.inr (.inl ())))
theorem T_slices_IndexFunc_b354_l1_ok (k : Nat) (p1 : List Int) (x2 : Int) : ∀ (x8 : Int) (x : Int ⊕ (Unit ⊕ Int)), T_slices_IndexFunc_b354_l1 k p1 x2 x8 = some x → evC X (evF X k) k 0 l_slices_IndexFunc_b354_1 ⟨[(0, (LI p1)), (1, (.one (.fn (.func n_word_full_1) []))), (7, (I x2)), (8, (I x8))], []⟩ = some (outS (fun (s : Int) => ⟨[(0, (LI p1)), (1, (.one (.fn (.func n_word_full_1) []))), (7, (I x2)), (8, (I s))], []⟩) (fun (r : Unit ⊕ Int) => Sum.elim (fun y => (.exit 0, ⟨[], []⟩)) (fun y => (.ret, ⟨[(4, (I y))], []⟩)) r) x) := by
 intro x8 x H
 unfold T_slices_IndexFunc_b354_l1 at H
 refine K_in ?_
 refine K_seq (K_r [] [] (by kernel_rfl) trivial ?_)
 refine K_seq ?_
 rcases ite_some H with ⟨hx9, H⟩ | ⟨hx9, H⟩
 · refine K_t (by kernel_rfl) (decide_eq_true hx9) ?_
   refine K_g (by kernel_rfl) ?_
   refine K_skip (K_seq (K_block (K_seq (K_r [] [] (by kernel_rfl) trivial ?_))))
   refine K_seq ?_
   obtain ⟨x10, hx10, H⟩ := bind_some' H
   obtain ⟨x11, hx11, H⟩ := bind_some' H
   refine K_r [.l [.int .i64 x10], .r (B (!decide (x10 = 4))) []] [(0 : Int) ≤ x8 ∧ x8 < (((p1.map (D.int .i64))).length : Int), ((p1.map (D.int .i64)).getD x8.toNat (.int .i64 0)).cells = [.int .i64 x10], C_T_word_full_1 k x10 x11] (by kernel_rfl) (AC (at_ok hx10 (D.int .i64) (.int .i64 0)).1 (AC (at_ok hx10 (D.int .i64) (.int .i64 0)).2 (A1 (T_word_full_1_ok k x10 x11 hx11)))) ?_
   rcases ite_some H with ⟨hx12, H⟩ | ⟨hx12, H⟩
   · refine K_t (by kernel_rfl) hx12 ?_
     refine K_seq (K_r [] [] (by kernel_rfl) trivial ?_)
     refine K_g (by kernel_rfl) ?_
     cases H
     exact K_ret (by kernel_rfl)
   · refine K_f (by kernel_rfl) (Bool.eq_false_iff.2 hx12) ?_
     refine K_g (by kernel_rfl) ?_
     refine K_skip (K_blk (K_r [] [] (by kernel_rfl) trivial ?_))
     cases H
     exact K_end (by kernel_rfl)
 · refine K_f (by kernel_rfl) (decide_eq_false hx9) ?_
   refine K_g (by kernel_rfl) ?_
   cases H
   exact K_exit0 rfl (by kernel_rfl)
def T_slices_IndexFunc_b354 (k : Nat) (p1 : List Int) : Option Int := match k with
 | 0 => none
 | k + 1 => ((loopT (T_slices_IndexFunc_b354_l1 k p1 (p1.length : Int)) k 0).bind fun x13 => (match x13 with | .inl x14 => some (-1) | .inr x15 => some x15))
abbrev C_T_slices_IndexFunc_b354 (k : Nat) (p1 : List Int) (r : Int) : Prop := evF X k n_slices_IndexFunc_b354 [(LI p1), (.one (.fn (.func n_word_full_1) []))] [] = some ((I r), [])
theorem T_slices_IndexFunc_b354_ok (k : Nat) (p1 : List Int) (r : Int) : T_slices_IndexFunc_b354 k p1 = some r → C_T_slices_IndexFunc_b354 k p1 r := by
 intro H
 cases k with
 | zero => simp [T_slices_IndexFunc_b354] at H
 | succ k =>
  simp only [T_slices_IndexFunc_b354] at H
  refine F_in X_slices_IndexFunc_b354 rfl ?_
  refine K_seq (K_r [] [] (by kernel_rfl) trivial ?_)
  refine K_seq (K_seq (K_r [.n p1.length] [((p1.map (D.int .i64))).length = p1.length] (by kernel_rfl) (A1 (List.length_map _)) ?_))
  refine K_block (K_conv (σ' := ⟨[(0, (LI p1)), (1, (.one (.fn (.func n_word_full_1) []))), (7, (I (p1.length : Int))), (8, (I 0))], []⟩) (by kernel_rfl) ?_)
  obtain ⟨x13, hx13, H⟩ := bind_some' H
  cases x13 with
  | inl x14 =>
   dsimp only at H
   refine K_loop ⟨[], []⟩ (loop_ok (fun (s : Int) => ⟨[(0, (LI p1)), (1, (.one (.fn (.func n_word_full_1) []))), (7, (I (p1.length : Int))), (8, (I s))], []⟩) (fun (r : Unit ⊕ Int) => Sum.elim (fun y => (.exit 0, ⟨[], []⟩)) (fun y => (.ret, ⟨[(4, (I y))], []⟩)) r) (fun r h => by cases r <;> cases h) (T_slices_IndexFunc_b354_l1_ok k p1 (p1.length : Int)) k 0 (.inl x14) hx13) rfl ?_
   refine K_seq (K_r [] [] (by kernel_rfl) trivial ?_)
   refine K_g (by kernel_rfl) ?_
   cases H
   refine K_ret ?_
   kernel_rfl
  | inr x15 =>
   dsimp only at H
   have H := Option.some.inj H; subst H
   refine K_loopr ⟨[(4, (I x15))], []⟩ (loop_ok (fun (s : Int) => ⟨[(0, (LI p1)), (1, (.one (.fn (.func n_word_full_1) []))), (7, (I (p1.length : Int))), (8, (I s))], []⟩) (fun (r : Unit ⊕ Int) => Sum.elim (fun y => (.exit 0, ⟨[], []⟩)) (fun y => (.ret, ⟨[(4, (I y))], []⟩)) r) (fun r h => by cases r <;> cases h) (T_slices_IndexFunc_b354_l1_ok k p1 (p1.length : Int)) k 0 (.inr x15) hx13) ?_
   kernel_rfl
def T_slices_ContainsFunc_b354 (k : Nat) (p1 : List Int) : Option Bool := match k with
 | 0 => none
 | k + 1 => ((T_slices_IndexFunc_b354 k p1).bind fun x1 => some (decide (0 ≤ x1)))
abbrev C_T_slices_ContainsFunc_b354 (k : Nat) (p1 : List Int) (r : Bool) : Prop := evF X k n_slices_ContainsFunc_b354 [(LI p1), (.one (.fn (.func n_word_full_1) []))] [] = some ((B r), [])
theorem T_slices_ContainsFunc_b354_ok (k : Nat) (p1 : List Int) (r : Bool) : T_slices_ContainsFunc_b354 k p1 = some r → C_T_slices_ContainsFunc_b354 k p1 r := by
 intro H
 cases k with
 | zero => simp [T_slices_ContainsFunc_b354] at H
 | succ k =>
  simp only [T_slices_ContainsFunc_b354] at H
  refine F_in X_slices_ContainsFunc_b354 rfl ?_
  refine K_seq (K_r [] [] (by kernel_rfl) trivial ?_)
  refine K_seq ?_
  obtain ⟨x1, hx1, H⟩ := bind_some' H
  refine K_r [.r (I x1) []] [C_T_slices_IndexFunc_b354 k p1 x1] (by kernel_rfl) (A1 (T_slices_IndexFunc_b354_ok k p1 x1 hx1)) ?_
  refine K_g (by kernel_rfl) ?_
  cases H
  refine K_ret ?_
  kernel_rfl
def T_word_full (k : Nat) (p1 : List Int) (p2 : List Int) : Option Bool := match k with
 | 0 => none
 | k + 1 => ((T_slices_ContainsFunc_b354 k p2).bind fun x1 => some (!x1))
abbrev C_T_word_full (k : Nat) (p1 : List Int) (p2 : List Int) (r : Bool) : Prop := evF X k n_word_full [(.agg [cL p1, cL p2])] [] = some ((B r), [])
theorem T_word_full_ok (k : Nat) (p1 : List Int) (p2 : List Int) (r : Bool) : T_word_full k p1 p2 = some r → C_T_word_full k p1 p2 r := by
 intro H
 cases k with
 | zero => simp [T_word_full] at H
 | succ k =>
  simp only [T_word_full] at H
  refine F_in X_word_full rfl ?_
  refine K_seq (K_r [] [] (by kernel_rfl) trivial ?_)
  refine K_seq ?_
  obtain ⟨x1, hx1, H⟩ := bind_some' H
  refine K_r [.r (B x1) []] [C_T_slices_ContainsFunc_b354 k p2 x1] (by kernel_rfl) (A1 (T_slices_ContainsFunc_b354_ok k p2 x1 hx1)) ?_
  refine K_g (by kernel_rfl) ?_
  cases H
  refine K_ret ?_
  kernel_rfl
def T_word_Belongs_l1 (k : Nat) (p7 : List Int) (p8 : List Int) (p9 : List Int) (p10 : List Int) (x11 : Int) (x23 : Int) : Option (Int ⊕ (Unit ⊕ Unit)) :=
 (if x23 < x11 then (at? p8 x23).bind fun x25 => (at? p9 x23).bind fun x26 => (if (0 : Int) ≤ (w64 (4 - x25)) then (at? p7 x23).bind fun x28 => (if (!decide ((x26.fdiv (2 ^ (Nat.min (w64 (4 - x25)).toNat (IntKind.bits .i64)))) = x28)) = true then some (.inr (.inr ())) else some (.inl (w64 (x23 + 1)))) else none) else some (.inr (.inl ())))
theorem T_word_Belongs_l1_ok (k : Nat) (p7 : List Int) (p8 : List Int) (p9 : List Int) (p10 : List Int) (x11 : Int) : ∀ (x23 : Int) (x : Int ⊕ (Unit ⊕ Unit)), T_word_Belongs_l1 k p7 p8 p9 p10 x11 x23 = some x → evC X (evF X k) k 0 l_word_Belongs_1 ⟨[(4, (Pt 0)), (5, (Pt 1)), (25, (LI p8)), (26, (I x11)), (27, (I x23))], [.cells [cL p7, cL p8], .cells [cL p9, cL p10]]⟩ = some (outS (fun (s : Int) => ⟨[(4, (Pt 0)), (5, (Pt 1)), (25, (LI p8)), (26, (I x11)), (27, (I s))], [.cells [cL p7, cL p8], .cells [cL p9, cL p10]]⟩) (fun (r : Unit ⊕ Unit) => Sum.elim (fun y => (.exit 0, ⟨[], []⟩)) (fun y => (.ret, ⟨[(6, (B false))], []⟩)) r) x) := by
 intro x23 x H
 unfold T_word_Belongs_l1 at H
 refine K_in ?_
 refine K_seq (K_r [] [] (by kernel_rfl) trivial ?_)
 refine K_seq ?_
 rcases ite_some H with ⟨hx24, H⟩ | ⟨hx24, H⟩
 · refine K_t (by kernel_rfl) (decide_eq_true hx24) ?_
   refine K_g (by kernel_rfl) ?_
   refine K_skip ?_
   refine K_seq ?_
   refine K_block ?_
   refine K_seq ?_
   obtain ⟨x25, hx25, H⟩ := bind_some' H
   refine K_r [.l [.int .i64 x25]] [(0 : Int) ≤ x23 ∧ x23 < (((p8.map (D.int .i64))).length : Int), ((p8.map (D.int .i64)).getD x23.toNat (.int .i64 0)).cells = [.int .i64 x25]] (by kernel_rfl) (AC (at_ok hx25 (D.int .i64) (.int .i64 0)).1 (A1 (at_ok hx25 (D.int .i64) (.int .i64 0)).2)) ?_
   refine K_seq ?_
   obtain ⟨x26, hx26, H⟩ := bind_some' H
   obtain ⟨hx27, H⟩ := guard_some H
   obtain ⟨x28, hx28, H⟩ := bind_some' H
   refine K_r [.l [.int .i64 x26], .l [.int .i64 x28]] [(0 : Int) ≤ x23 ∧ x23 < (((p9.map (D.int .i64))).length : Int), ((p9.map (D.int .i64)).getD x23.toNat (.int .i64 0)).cells = [.int .i64 x26], (0 : Int) ≤ (w64 (4 - x25)), (0 : Int) ≤ x23 ∧ x23 < (((p7.map (D.int .i64))).length : Int), ((p7.map (D.int .i64)).getD x23.toNat (.int .i64 0)).cells = [.int .i64 x28]] (by kernel_rfl) (AC (at_ok hx26 (D.int .i64) (.int .i64 0)).1 (AC (at_ok hx26 (D.int .i64) (.int .i64 0)).2 (AC hx27 (AC (at_ok hx28 (D.int .i64) (.int .i64 0)).1 (A1 (at_ok hx28 (D.int .i64) (.int .i64 0)).2))))) ?_
   rcases ite_some H with ⟨hx29, H⟩ | ⟨hx29, H⟩
   · refine K_t (by kernel_rfl) hx29 ?_
     refine K_seq (K_r [] [] (by kernel_rfl) trivial ?_)
     refine K_g (by kernel_rfl) ?_
     cases H
     exact K_ret (by kernel_rfl)
   · refine K_f (by kernel_rfl) (Bool.eq_false_iff.2 hx29) ?_
     refine K_g (by kernel_rfl) ?_
     refine K_skip (K_blk (K_r [] [] (by kernel_rfl) trivial ?_))
     cases H
     exact K_end (by kernel_rfl)
 · refine K_f (by kernel_rfl) (decide_eq_false hx24) ?_
   refine K_g (by kernel_rfl) ?_
   cases H
   exact K_exit0 rfl (by kernel_rfl)
def T_word_Belongs (k : Nat) (p1 : Int) (p2 : Int) (p3 : Int) (p4 : Int) (p5 : Int) (p6 : List Int) (p7 : List Int) (p8 : List Int) (p9 : List Int) (p10 : List Int) : Option Bool := match k with
 | 0 => none
 | k + 1 => ((((T_word_Valid k p1 p2 p3 p4 p5 p6 p7 p8).bind fun x1 => (if (!x1) = true then some true else ((T_word_Valid k p1 p2 p3 p4 p5 p6 p9 p10).bind fun x4 => (if (!x4) = true then some true else ((T_word_full k p9 p10).bind fun x7 => some (!x7))))))).bind fun x8 => (if x8 = true then some false else ((loopT (T_word_Belongs_l1 k p7 p8 p9 p10 (p8.length : Int)) k 0).bind fun x30 => (match x30 with | .inl x31 => some true | .inr x32 => some false))))
abbrev C_T_word_Belongs (k : Nat) (p1 : Int) (p2 : Int) (p3 : Int) (p4 : Int) (p5 : Int) (p6 : List Int) (p7 : List Int) (p8 : List Int) (p9 : List Int) (p10 : List Int) (r : Bool) : Prop := evF X k n_word_Belongs [(.agg [cI p1, cI p2, cI p3, cI p4, cI p5, cL p6]), (.agg [cL p7, cL p8]), (.agg [cL p9, cL p10])] [] = some ((B r), [])
theorem T_word_Belongs_ok (k : Nat) (p1 : Int) (p2 : Int) (p3 : Int) (p4 : Int) (p5 : Int) (p6 : List Int) (p7 : List Int) (p8 : List Int) (p9 : List Int) (p10 : List Int) (r : Bool) : T_word_Belongs k p1 p2 p3 p4 p5 p6 p7 p8 p9 p10 = some r → C_T_word_Belongs k p1 p2 p3 p4 p5 p6 p7 p8 p9 p10 r := by
 intro H
 cases k with
 | zero => simp [T_word_Belongs] at H
 | succ k =>
  simp only [T_word_Belongs] at H
  refine F_in X_word_Belongs rfl ?_
  refine K_seq (K_r [] [] (by kernel_rfl) trivial ?_)
  refine K_seq ?_
  refine K_seq ?_
  obtain ⟨x8, hx8, H⟩ := bind_some' H
  refine K_of ⟨[(4, (Pt 0)), (5, (Pt 1)), (23, (B x8))], [.cells [cL p7, cL p8], .cells [cL p9, cL p10]]⟩ ?_ ?_
  · clear H; have H := hx8; clear hx8; refine K_in ?_
    obtain ⟨x1, hx1, H⟩ := bind_some' H
    rcases ite_some H with ⟨hx3, H⟩ | ⟨hx3, H⟩
    · refine K_r [.r (B x1) [], .b true, .b true] [C_T_word_Valid k p1 p2 p3 p4 p5 p6 p7 p8 x1, (!x1) = true, true = true] (by kernel_rfl) (AC (T_word_Valid_ok k p1 p2 p3 p4 p5 p6 p7 p8 x1 hx1) (AC hx3 (A1 rfl))) ?_
      cases H
      exact K_end (by kernel_rfl)
    · obtain ⟨x4, hx4, H⟩ := bind_some' H
      rcases ite_some H with ⟨hx6, H⟩ | ⟨hx6, H⟩
      · refine K_r [.r (B x1) [], .b false, .r (B x4) [], .b true] [C_T_word_Valid k p1 p2 p3 p4 p5 p6 p7 p8 x1, (!x1) = false, C_T_word_Valid k p1 p2 p3 p4 p5 p6 p9 p10 x4, (!x4) = true] (by kernel_rfl) (AC (T_word_Valid_ok k p1 p2 p3 p4 p5 p6 p7 p8 x1 hx1) (AC (Bool.eq_false_iff.2 hx3) (AC (T_word_Valid_ok k p1 p2 p3 p4 p5 p6 p9 p10 x4 hx4) (A1 hx6)))) ?_
        cases H
        exact K_end (by kernel_rfl)
      · obtain ⟨x7, hx7, H⟩ := bind_some' H
        refine K_r [.r (B x1) [], .b false, .r (B x4) [], .b false, .r (B x7) []] [C_T_word_Valid k p1 p2 p3 p4 p5 p6 p7 p8 x1, (!x1) = false, C_T_word_Valid k p1 p2 p3 p4 p5 p6 p9 p10 x4, (!x4) = false, C_T_word_full k p9 p10 x7] (by kernel_rfl) (AC (T_word_Valid_ok k p1 p2 p3 p4 p5 p6 p7 p8 x1 hx1) (AC (Bool.eq_false_iff.2 hx3) (AC (T_word_Valid_ok k p1 p2 p3 p4 p5 p6 p9 p10 x4 hx4) (AC (Bool.eq_false_iff.2 hx6) (A1 (T_word_full_ok k p9 p10 x7 hx7)))))) ?_
        cases H
        exact K_end (by kernel_rfl)
  rcases ite_some H with ⟨hx9, H⟩ | ⟨hx9, H⟩
  · refine K_t (by kernel_rfl) hx9 ?_
    refine K_seq (K_r [] [] (by kernel_rfl) trivial ?_)
    refine K_g (by kernel_rfl) ?_
    cases H
    refine K_ret ?_
    kernel_rfl
  · refine K_f (by kernel_rfl) (Bool.eq_false_iff.2 hx9) ?_
    refine K_g (by kernel_rfl) ?_
    refine K_skip (K_seq (K_seq (K_r [.n p8.length] [((p8.map (D.int .i64))).length = p8.length] (by kernel_rfl) (A1 (List.length_map _)) ?_)))
    refine K_block (K_conv (σ' := ⟨[(4, (Pt 0)), (5, (Pt 1)), (25, (LI p8)), (26, (I (p8.length : Int))), (27, (I 0))], [.cells [cL p7, cL p8], .cells [cL p9, cL p10]]⟩) (by kernel_rfl) ?_)
    obtain ⟨x30, hx30, H⟩ := bind_some' H
    cases x30 with
    | inl x31 =>
     dsimp only at H
     refine K_loop ⟨[], []⟩ (loop_ok (fun (s : Int) => ⟨[(4, (Pt 0)), (5, (Pt 1)), (25, (LI p8)), (26, (I (p8.length : Int))), (27, (I s))], [.cells [cL p7, cL p8], .cells [cL p9, cL p10]]⟩) (fun (r : Unit ⊕ Unit) => Sum.elim (fun y => (.exit 0, ⟨[], []⟩)) (fun y => (.ret, ⟨[(6, (B false))], []⟩)) r) (fun r h => by cases r <;> cases h) (T_word_Belongs_l1_ok k p7 p8 p9 p10 (p8.length : Int)) k 0 (.inl x31) hx30) rfl ?_
     refine K_seq (K_r [] [] (by kernel_rfl) trivial ?_)
     refine K_g (by kernel_rfl) ?_
     cases H
     refine K_ret ?_
     kernel_rfl
    | inr x32 =>
     dsimp only at H
     cases H
     refine K_loopr ⟨[(6, (B false))], []⟩ (loop_ok (fun (s : Int) => ⟨[(4, (Pt 0)), (5, (Pt 1)), (25, (LI p8)), (26, (I (p8.length : Int))), (27, (I s))], [.cells [cL p7, cL p8], .cells [cL p9, cL p10]]⟩) (fun (r : Unit ⊕ Unit) => Sum.elim (fun y => (.exit 0, ⟨[], []⟩)) (fun y => (.ret, ⟨[(6, (B false))], []⟩)) r) (fun r h => by cases r <;> cases h) (T_word_Belongs_l1_ok k p7 p8 p9 p10 (p8.length : Int)) k 0 (.inr x32) hx30) ?_
     kernel_rfl
def T_ref19_Full_l1 (k : Nat) (x3 : Int) (p7 : List Int) (p8 : List Int) (x10 : Int) : Option (Int ⊕ (Unit ⊕ Unit)) :=
 (if x10 < x3 then ((at? p8 x10).bind fun x12 => (if (!decide (x12 = 4)) = true then some (.inr (.inr ())) else some (.inl (w64 (x10 + 1))))) else some (.inr (.inl ())))
theorem T_ref19_Full_l1_ok (k : Nat) (x3 : Int) (p7 : List Int) (p8 : List Int) : ∀ (x10 : Int) (x : Int ⊕ (Unit ⊕ Unit)), T_ref19_Full_l1 k x3 p7 p8 x10 = some x → evC X (evF X k) k 0 l_ref19_Full_1 ⟨[(3, (Pt 0)), (12, (I x3)), (13, (I x10))], [.cells [cL p7, cL p8]]⟩ = some (outS (fun (s : Int) => ⟨[(3, (Pt 0)), (12, (I x3)), (13, (I s))], [.cells [cL p7, cL p8]]⟩) (fun (r : Unit ⊕ Unit) => Sum.elim (fun y => (.exit 0, ⟨[], []⟩)) (fun y => (.ret, ⟨[(4, (B false))], []⟩)) r) x) := by
 intro x10 x H
 unfold T_ref19_Full_l1 at H
 refine K_in ?_
 refine K_seq (K_r [] [] (by kernel_rfl) trivial ?_)
 refine K_seq ?_
 rcases ite_some H with ⟨hx11, H⟩ | ⟨hx11, H⟩
 · refine K_t (by kernel_rfl) (decide_eq_true hx11) ?_
   refine K_g (by kernel_rfl) ?_
   refine K_skip (K_seq (K_block (K_seq (K_r [] [] (by kernel_rfl) trivial ?_))))
   refine K_seq ?_
   obtain ⟨x12, hx12, H⟩ := bind_some' H
   refine K_r [.l [.int .i64 x12]] [(0 : Int) ≤ x10 ∧ x10 < (((p8.map (D.int .i64))).length : Int), ((p8.map (D.int .i64)).getD x10.toNat (.int .i64 0)).cells = [.int .i64 x12]] (by kernel_rfl) (AC (at_ok hx12 (D.int .i64) (.int .i64 0)).1 (A1 (at_ok hx12 (D.int .i64) (.int .i64 0)).2)) ?_
   rcases ite_some H with ⟨hx13, H⟩ | ⟨hx13, H⟩
   · refine K_t (by kernel_rfl) hx13 ?_
     refine K_seq (K_r [] [] (by kernel_rfl) trivial ?_)
     refine K_g (by kernel_rfl) ?_
     cases H
     exact K_ret (by kernel_rfl)
   · refine K_f (by kernel_rfl) (Bool.eq_false_iff.2 hx13) ?_
     refine K_g (by kernel_rfl) ?_
     refine K_skip (K_blk (K_r [] [] (by kernel_rfl) trivial ?_))
     cases H
     exact K_end (by kernel_rfl)
 · refine K_f (by kernel_rfl) (decide_eq_false hx11) ?_
   refine K_g (by kernel_rfl) ?_
   cases H
   exact K_exit0 rfl (by kernel_rfl)
def T_ref19_Full (k : Nat) (p1 : Int) (p2 : Int) (p3 : Int) (p4 : Int) (p5 : Int) (p6 : List Int) (p7 : List Int) (p8 : List Int) : Option Bool := match k with
 | 0 => none
 | k + 1 => ((T_ref19_Valid k p1 p2 p3 p4 p5 p6 p7 p8).bind fun x1 => (if (!x1) = true then some false else ((loopT (T_ref19_Full_l1 k (p8.length : Int) p7 p8) k 0).bind fun x14 => (match x14 with | .inl x15 => some true | .inr x16 => some false))))
abbrev C_T_ref19_Full (k : Nat) (p1 : Int) (p2 : Int) (p3 : Int) (p4 : Int) (p5 : Int) (p6 : List Int) (p7 : List Int) (p8 : List Int) (r : Bool) : Prop := evF X k n_ref19_Full [(.agg [cI p1, cI p2, cI p3, cI p4, cI p5, cL p6]), (.agg [cL p7, cL p8])] [] = some ((B r), [])
theorem T_ref19_Full_ok (k : Nat) (p1 : Int) (p2 : Int) (p3 : Int) (p4 : Int) (p5 : Int) (p6 : List Int) (p7 : List Int) (p8 : List Int) (r : Bool) : T_ref19_Full k p1 p2 p3 p4 p5 p6 p7 p8 = some r → C_T_ref19_Full k p1 p2 p3 p4 p5 p6 p7 p8 r := by
 intro H
 cases k with
 | zero => simp [T_ref19_Full] at H
 | succ k =>
  simp only [T_ref19_Full] at H
  refine F_in X_ref19_Full rfl ?_
  refine K_seq (K_r [] [] (by kernel_rfl) trivial ?_)
  refine K_seq ?_
  refine K_seq ?_
  obtain ⟨x1, hx1, H⟩ := bind_some' H
  refine K_r [.r (B x1) []] [C_T_ref19_Valid k p1 p2 p3 p4 p5 p6 p7 p8 x1] (by kernel_rfl) (A1 (T_ref19_Valid_ok k p1 p2 p3 p4 p5 p6 p7 p8 x1 hx1)) ?_
  rcases ite_some H with ⟨hx2, H⟩ | ⟨hx2, H⟩
  · refine K_t (by kernel_rfl) hx2 ?_
    refine K_seq (K_r [] [] (by kernel_rfl) trivial ?_)
    refine K_g (by kernel_rfl) ?_
    cases H
    refine K_ret ?_
    kernel_rfl
  · refine K_f (by kernel_rfl) (Bool.eq_false_iff.2 hx2) ?_
    refine K_g (by kernel_rfl) ?_
    refine K_skip (K_seq (K_seq (K_r [.n p8.length] [((p8.map (D.int .i64))).length = p8.length] (by kernel_rfl) (A1 (List.length_map _)) ?_)))
    refine K_block (K_conv (σ' := ⟨[(3, (Pt 0)), (12, (I (p8.length : Int))), (13, (I 0))], [.cells [cL p7, cL p8]]⟩) (by kernel_rfl) ?_)
    obtain ⟨x14, hx14, H⟩ := bind_some' H
    cases x14 with
    | inl x15 =>
     dsimp only at H
     refine K_loop ⟨[], []⟩ (loop_ok (fun (s : Int) => ⟨[(3, (Pt 0)), (12, (I (p8.length : Int))), (13, (I s))], [.cells [cL p7, cL p8]]⟩) (fun (r : Unit ⊕ Unit) => Sum.elim (fun y => (.exit 0, ⟨[], []⟩)) (fun y => (.ret, ⟨[(4, (B false))], []⟩)) r) (fun r h => by cases r <;> cases h) (T_ref19_Full_l1_ok k (p8.length : Int) p7 p8) k 0 (.inl x15) hx14) rfl ?_
     refine K_seq (K_r [] [] (by kernel_rfl) trivial ?_)
     refine K_g (by kernel_rfl) ?_
     cases H
     refine K_ret ?_
     kernel_rfl
    | inr x16 =>
     dsimp only at H
     cases H
     refine K_loopr ⟨[(4, (B false))], []⟩ (loop_ok (fun (s : Int) => ⟨[(3, (Pt 0)), (12, (I (p8.length : Int))), (13, (I s))], [.cells [cL p7, cL p8]]⟩) (fun (r : Unit ⊕ Unit) => Sum.elim (fun y => (.exit 0, ⟨[], []⟩)) (fun y => (.ret, ⟨[(4, (B false))], []⟩)) r) (fun r h => by cases r <;> cases h) (T_ref19_Full_l1_ok k (p8.length : Int) p7 p8) k 0 (.inr x16) hx14) ?_
     kernel_rfl
def T_ref19_Belongs_l1 (k : Nat) (x7 : Int) (p7 : List Int) (p8 : List Int) (p9 : List Int) (p10 : List Int) (x19 : Int) : Option (Int ⊕ (Unit ⊕ Unit)) :=
 (if x19 < x7 then (at? p9 x19).bind fun x21 => (at? p8 x19).bind fun x22 => (if (0 : Int) ≤ (w64 (4 - x22)) then (at? p7 x19).bind fun x24 => (if (!decide ((x21.fdiv (2 ^ (Nat.min (w64 (4 - x22)).toNat (IntKind.bits .i64)))) = x24)) = true then some (.inr (.inr ())) else some (.inl (w64 (x19 + 1)))) else none) else some (.inr (.inl ())))
theorem T_ref19_Belongs_l1_ok (k : Nat) (x7 : Int) (p7 : List Int) (p8 : List Int) (p9 : List Int) (p10 : List Int) : ∀ (x19 : Int) (x : Int ⊕ (Unit ⊕ Unit)), T_ref19_Belongs_l1 k x7 p7 p8 p9 p10 x19 = some x → evC X (evF X k) k 0 l_ref19_Belongs_1 ⟨[(4, (Pt 0)), (5, (Pt 1)), (20, (I x7)), (21, (I x19))], [.cells [cL p7, cL p8], .cells [cL p9, cL p10]]⟩ = some (outS (fun (s : Int) => ⟨[(4, (Pt 0)), (5, (Pt 1)), (20, (I x7)), (21, (I s))], [.cells [cL p7, cL p8], .cells [cL p9, cL p10]]⟩) (fun (r : Unit ⊕ Unit) => Sum.elim (fun y => (.exit 0, ⟨[], []⟩)) (fun y => (.ret, ⟨[(6, (B false))], []⟩)) r) x) := by
 intro x19 x H
 unfold T_ref19_Belongs_l1 at H
 refine K_in ?_
 refine K_seq (K_r [] [] (by kernel_rfl) trivial ?_)
 refine K_seq ?_
 rcases ite_some H with ⟨hx20, H⟩ | ⟨hx20, H⟩
 · refine K_t (by kernel_rfl) (decide_eq_true hx20) ?_
   refine K_g (by kernel_rfl) ?_
   refine K_skip (K_seq (K_block (K_seq (K_r [] [] (by kernel_rfl) trivial ?_))))
   refine K_seq ?_
   obtain ⟨x21, hx21, H⟩ := bind_some' H
   obtain ⟨x22, hx22, H⟩ := bind_some' H
   obtain ⟨hx23, H⟩ := guard_some H
   obtain ⟨x24, hx24, H⟩ := bind_some' H
   refine K_r [.l [.int .i64 x21], .l [.int .i64 x22], .l [.int .i64 x24]] [(0 : Int) ≤ x19 ∧ x19 < (((p9.map (D.int .i64))).length : Int), ((p9.map (D.int .i64)).getD x19.toNat (.int .i64 0)).cells = [.int .i64 x21], (0 : Int) ≤ x19 ∧ x19 < (((p8.map (D.int .i64))).length : Int), ((p8.map (D.int .i64)).getD x19.toNat (.int .i64 0)).cells = [.int .i64 x22], (0 : Int) ≤ (w64 (4 - x22)), (0 : Int) ≤ x19 ∧ x19 < (((p7.map (D.int .i64))).length : Int), ((p7.map (D.int .i64)).getD x19.toNat (.int .i64 0)).cells = [.int .i64 x24]] (by kernel_rfl) (AC (at_ok hx21 (D.int .i64) (.int .i64 0)).1 (AC (at_ok hx21 (D.int .i64) (.int .i64 0)).2 (AC (at_ok hx22 (D.int .i64) (.int .i64 0)).1 (AC (at_ok hx22 (D.int .i64) (.int .i64 0)).2 (AC hx23 (AC (at_ok hx24 (D.int .i64) (.int .i64 0)).1 (A1 (at_ok hx24 (D.int .i64) (.int .i64 0)).2))))))) ?_
   rcases ite_some H with ⟨hx25, H⟩ | ⟨hx25, H⟩
   · refine K_t (by kernel_rfl) hx25 ?_
     refine K_seq (K_r [] [] (by kernel_rfl) trivial ?_)
     refine K_g (by kernel_rfl) ?_
     cases H
     exact K_ret (by kernel_rfl)
   · refine K_f (by kernel_rfl) (Bool.eq_false_iff.2 hx25) ?_
     refine K_g (by kernel_rfl) ?_
     refine K_skip (K_blk (K_r [] [] (by kernel_rfl) trivial ?_))
     cases H
     exact K_end (by kernel_rfl)
 · refine K_f (by kernel_rfl) (decide_eq_false hx20) ?_
   refine K_g (by kernel_rfl) ?_
   cases H
   exact K_exit0 rfl (by kernel_rfl)
def T_ref19_Belongs (k : Nat) (p1 : Int) (p2 : Int) (p3 : Int) (p4 : Int) (p5 : Int) (p6 : List Int) (p7 : List Int) (p8 : List Int) (p9 : List Int) (p10 : List Int) : Option Bool := match k with
 | 0 => none
 | k + 1 => ((((T_ref19_Valid k p1 p2 p3 p4 p5 p6 p7 p8).bind fun x1 => (if (!x1) = true then some true else ((T_ref19_Full k p1 p2 p3 p4 p5 p6 p9 p10).bind fun x4 => some (!x4))))).bind fun x5 => (if x5 = true then some false else ((loopT (T_ref19_Belongs_l1 k (p8.length : Int) p7 p8 p9 p10) k 0).bind fun x26 => (match x26 with | .inl x27 => some true | .inr x28 => some false))))
abbrev C_T_ref19_Belongs (k : Nat) (p1 : Int) (p2 : Int) (p3 : Int) (p4 : Int) (p5 : Int) (p6 : List Int) (p7 : List Int) (p8 : List Int) (p9 : List Int) (p10 : List Int) (r : Bool) : Prop := evF X k n_ref19_Belongs [(.agg [cI p1, cI p2, cI p3, cI p4, cI p5, cL p6]), (.agg [cL p7, cL p8]), (.agg [cL p9, cL p10])] [] = some ((B r), [])
theorem T_ref19_Belongs_ok (k : Nat) (p1 : Int) (p2 : Int) (p3 : Int) (p4 : Int) (p5 : Int) (p6 : List Int) (p7 : List Int) (p8 : List Int) (p9 : List Int) (p10 : List Int) (r : Bool) : T_ref19_Belongs k p1 p2 p3 p4 p5 p6 p7 p8 p9 p10 = some r → C_T_ref19_Belongs k p1 p2 p3 p4 p5 p6 p7 p8 p9 p10 r := by
 intro H
 cases k with
 | zero => simp [T_ref19_Belongs] at H
 | succ k =>
  simp only [T_ref19_Belongs] at H
  refine F_in X_ref19_Belongs rfl ?_
  refine K_seq (K_r [] [] (by kernel_rfl) trivial ?_)
  refine K_seq ?_
  refine K_seq ?_
  obtain ⟨x5, hx5, H⟩ := bind_some' H
  refine K_of ⟨[(4, (Pt 0)), (5, (Pt 1)), (17, (B x5))], [.cells [cL p7, cL p8], .cells [cL p9, cL p10]]⟩ ?_ ?_
  · clear H; have H := hx5; clear hx5; refine K_in ?_
    obtain ⟨x1, hx1, H⟩ := bind_some' H
    rcases ite_some H with ⟨hx3, H⟩ | ⟨hx3, H⟩
    · refine K_r [.r (B x1) [], .b true] [C_T_ref19_Valid k p1 p2 p3 p4 p5 p6 p7 p8 x1, (!x1) = true] (by kernel_rfl) (AC (T_ref19_Valid_ok k p1 p2 p3 p4 p5 p6 p7 p8 x1 hx1) (A1 hx3)) ?_
      cases H
      exact K_end (by kernel_rfl)
    · obtain ⟨x4, hx4, H⟩ := bind_some' H
      refine K_r [.r (B x1) [], .b false, .r (B x4) []] [C_T_ref19_Valid k p1 p2 p3 p4 p5 p6 p7 p8 x1, (!x1) = false, C_T_ref19_Full k p1 p2 p3 p4 p5 p6 p9 p10 x4] (by kernel_rfl) (AC (T_ref19_Valid_ok k p1 p2 p3 p4 p5 p6 p7 p8 x1 hx1) (AC (Bool.eq_false_iff.2 hx3) (A1 (T_ref19_Full_ok k p1 p2 p3 p4 p5 p6 p9 p10 x4 hx4)))) ?_
      cases H
      exact K_end (by kernel_rfl)
  rcases ite_some H with ⟨hx6, H⟩ | ⟨hx6, H⟩
  · refine K_t (by kernel_rfl) hx6 ?_
    refine K_seq (K_r [] [] (by kernel_rfl) trivial ?_)
    refine K_g (by kernel_rfl) ?_
    cases H
    refine K_ret ?_
    kernel_rfl
  · refine K_f (by kernel_rfl) (Bool.eq_false_iff.2 hx6) ?_
    refine K_g (by kernel_rfl) ?_
    refine K_skip (K_seq (K_seq (K_r [.n p8.length] [((p8.map (D.int .i64))).length = p8.length] (by kernel_rfl) (A1 (List.length_map _)) ?_)))
    refine K_block (K_conv (σ' := ⟨[(4, (Pt 0)), (5, (Pt 1)), (20, (I (p8.length : Int))), (21, (I 0))], [.cells [cL p7, cL p8], .cells [cL p9, cL p10]]⟩) (by kernel_rfl) ?_)
    obtain ⟨x26, hx26, H⟩ := bind_some' H
    cases x26 with
    | inl x27 =>
     dsimp only at H
     refine K_loop ⟨[], []⟩ (loop_ok (fun (s : Int) => ⟨[(4, (Pt 0)), (5, (Pt 1)), (20, (I (p8.length : Int))), (21, (I s))], [.cells [cL p7, cL p8], .cells [cL p9, cL p10]]⟩) (fun (r : Unit ⊕ Unit) => Sum.elim (fun y => (.exit 0, ⟨[], []⟩)) (fun y => (.ret, ⟨[(6, (B false))], []⟩)) r) (fun r h => by cases r <;> cases h) (T_ref19_Belongs_l1_ok k (p8.length : Int) p7 p8 p9 p10) k 0 (.inl x27) hx26) rfl ?_
     refine K_seq (K_r [] [] (by kernel_rfl) trivial ?_)
     refine K_g (by kernel_rfl) ?_
     cases H
     refine K_ret ?_
     kernel_rfl
    | inr x28 =>
     dsimp only at H
     cases H
     refine K_loopr ⟨[(6, (B false))], []⟩ (loop_ok (fun (s : Int) => ⟨[(4, (Pt 0)), (5, (Pt 1)), (20, (I (p8.length : Int))), (21, (I s))], [.cells [cL p7, cL p8], .cells [cL p9, cL p10]]⟩) (fun (r : Unit ⊕ Unit) => Sum.elim (fun y => (.exit 0, ⟨[], []⟩)) (fun y => (.ret, ⟨[(6, (B false))], []⟩)) r) (fun r h => by cases r <;> cases h) (T_ref19_Belongs_l1_ok k (p8.length : Int) p7 p8 p9 p10) k 0 (.inr x28) hx26) ?_
     kernel_rfl
def T_word_shuffled_l1 (k : Nat) (p1 : List Int) (p2 : List Int) (x24 : Int) (x26 : Int) (x33 : Int × Int) : Option ((Int × Int) ⊕ Int) :=
 (if x33.2 < x26 then (at? p1 x33.2).bind fun x35 => (if (0 : Int) ≤ x24 then some (.inl ((w64 ((w64 (2 * x33.1)) + (bAnd .i64 (x35.fdiv (2 ^ (Nat.min x24.toNat (IntKind.bits .i64)))) 1))), (w64 (x33.2 + 1)))) else none) else some (.inr x33.1))
theorem T_word_shuffled_l1_ok (k : Nat) (p1 : List Int) (p2 : List Int) (x24 : Int) (x26 : Int) : ∀ (x33 : Int × Int) (x : (Int × Int) ⊕ Int), T_word_shuffled_l1 k p1 p2 x24 x26 x33 = some x → evC X (evF X k) k 0 l_word_shuffled_1 ⟨[(1, (Pt 0)), (3, (I x33.1)), (4, (I x24)), (12, (LI p1)), (13, (I x26)), (14, (I x33.2))], [.cells [cL p1, cL p2]]⟩ = some (outS (fun (s : Int × Int) => ⟨[(1, (Pt 0)), (3, (I s.1)), (4, (I x24)), (12, (LI p1)), (13, (I x26)), (14, (I s.2))], [.cells [cL p1, cL p2]]⟩) (fun (r : Int) => (.exit 2, ⟨[(1, (Pt 0)), (3, (I r)), (4, (I x24))], [.cells [cL p1, cL p2]]⟩)) x) := by
 intro x33 x H
 unfold T_word_shuffled_l1 at H
 refine K_in ?_
 refine K_seq (K_r [] [] (by kernel_rfl) trivial ?_)
 refine K_seq ?_
 rcases ite_some H with ⟨hx34, H⟩ | ⟨hx34, H⟩
 · refine K_t (by kernel_rfl) (decide_eq_true hx34) ?_
   refine K_g (by kernel_rfl) ?_
   refine K_skip ?_
   refine K_seq ?_
   refine K_block ?_
   refine K_seq ?_
   obtain ⟨x35, hx35, H⟩ := bind_some' H
   refine K_r [.l [.int .i64 x35]] [(0 : Int) ≤ x33.2 ∧ x33.2 < (((p1.map (D.int .i64))).length : Int), ((p1.map (D.int .i64)).getD x33.2.toNat (.int .i64 0)).cells = [.int .i64 x35]] (by kernel_rfl) (AC (at_ok hx35 (D.int .i64) (.int .i64 0)).1 (A1 (at_ok hx35 (D.int .i64) (.int .i64 0)).2)) ?_
   obtain ⟨hx36, H⟩ := guard_some H
   refine K_r [] [(0 : Int) ≤ x24] (by kernel_rfl) (A1 hx36) ?_
   refine K_blk (K_r [] [] (by kernel_rfl) trivial ?_)
   cases H
   exact K_end (by kernel_rfl)
 · refine K_f (by kernel_rfl) (decide_eq_false hx34) ?_
   refine K_g (by kernel_rfl) ?_
   cases H
   exact K_exit0 rfl (by kernel_rfl)
def T_word_shuffled_l2 (k : Nat) (p1 : List Int) (p2 : List Int) (x21 : Int × Int) : Option ((Int × Int) ⊕ Int) :=
 (if 0 ≤ x21.2 then ((loopT (T_word_shuffled_l1 k p1 p2 x21.2 (p1.length : Int)) k (x21.1, 0)).bind fun x37 => some (.inl (x37, (w64 (x21.2 - 1))))) else some (.inr x21.1))
theorem T_word_shuffled_l2_ok (k : Nat) (p1 : List Int) (p2 : List Int) : ∀ (x21 : Int × Int) (x : (Int × Int) ⊕ Int), T_word_shuffled_l2 k p1 p2 x21 = some x → evC X (evF X k) k 0 l_word_shuffled_2 ⟨[(1, (Pt 0)), (3, (I x21.1)), (4, (I x21.2))], [.cells [cL p1, cL p2]]⟩ = some (outS (fun (s : Int × Int) => ⟨[(1, (Pt 0)), (3, (I s.1)), (4, (I s.2))], [.cells [cL p1, cL p2]]⟩) (fun (r : Int) => (.exit 0, ⟨[(3, (I r))], []⟩)) x) := by
 intro x21 x H
 unfold T_word_shuffled_l2 at H
 refine K_in ?_
 refine K_seq (K_seq (K_r [] [] (by kernel_rfl) trivial ?_))
 rcases ite_some H with ⟨hx22, H⟩ | ⟨hx22, H⟩
 · refine K_t (by kernel_rfl) (decide_eq_true hx22) ?_
   refine K_g (by kernel_rfl) ?_
   refine K_skip (K_seq (K_block (K_seq (K_r [.n p1.length] [((p1.map (D.int .i64))).length = p1.length] (by kernel_rfl) (A1 (List.length_map _)) ?_))))
   refine K_block (K_conv (σ' := ⟨[(1, (Pt 0)), (3, (I x21.1)), (4, (I x21.2)), (12, (LI p1)), (13, (I (p1.length : Int))), (14, (I 0))], [.cells [cL p1, cL p2]]⟩) (by kernel_rfl) ?_)
   obtain ⟨x37, hx37, H⟩ := bind_some' H
   refine K_loop ⟨[(1, (Pt 0)), (3, (I x37)), (4, (I x21.2))], [.cells [cL p1, cL p2]]⟩ (loop_ok (fun (s : Int × Int) => ⟨[(1, (Pt 0)), (3, (I s.1)), (4, (I x21.2)), (12, (LI p1)), (13, (I (p1.length : Int))), (14, (I s.2))], [.cells [cL p1, cL p2]]⟩) (fun (r : Int) => (.exit 2, ⟨[(1, (Pt 0)), (3, (I r)), (4, (I x21.2))], [.cells [cL p1, cL p2]]⟩)) (fun r h => by cases h) (T_word_shuffled_l1_ok k p1 p2 x21.2 (p1.length : Int)) k (x21.1, 0) x37 hx37) rfl ?_
   refine K_blk (K_r [] [] (by kernel_rfl) trivial ?_)
   cases H
   exact K_end (by kernel_rfl)
 · refine K_f (by kernel_rfl) (decide_eq_false hx22) ?_
   refine K_g (by kernel_rfl) ?_
   cases H
   exact K_exit0 rfl (by kernel_rfl)
def T_word_shuffled (k : Nat) (p1 : List Int) (p2 : List Int) : Option Int := match k with
 | 0 => none
 | k + 1 => ((loopT (T_word_shuffled_l2 k p1 p2) k (0, 3)).bind fun x38 => some x38)
abbrev C_T_word_shuffled (k : Nat) (p1 : List Int) (p2 : List Int) (r : Int) : Prop := evF X k n_word_shuffled [(.agg [cL p1, cL p2])] [] = some ((I r), [])
theorem T_word_shuffled_ok (k : Nat) (p1 : List Int) (p2 : List Int) (r : Int) : T_word_shuffled k p1 p2 = some r → C_T_word_shuffled k p1 p2 r := by
 intro H
 cases k with
 | zero => simp [T_word_shuffled] at H
 | succ k =>
  simp only [T_word_shuffled] at H
  refine F_in X_word_shuffled rfl ?_
  refine K_seq (K_r [] [] (by kernel_rfl) trivial ?_)
  refine K_seq (K_r [] [] (by kernel_rfl) trivial ?_)
  refine K_seq (K_seq (K_r [] [] (by kernel_rfl) trivial ?_))
  refine K_block (K_conv (σ' := ⟨[(1, (Pt 0)), (3, (I 0)), (4, (I 3))], [.cells [cL p1, cL p2]]⟩) (by kernel_rfl) ?_)
  obtain ⟨x38, hx38, H⟩ := bind_some' H
  refine K_loop ⟨[(3, (I x38))], []⟩ (loop_ok (fun (s : Int × Int) => ⟨[(1, (Pt 0)), (3, (I s.1)), (4, (I s.2))], [.cells [cL p1, cL p2]]⟩) (fun (r : Int) => (.exit 0, ⟨[(3, (I r))], []⟩)) (fun r h => by cases h) (T_word_shuffled_l2_ok k p1 p2) k (0, 3) x38 hx38) rfl ?_
  refine K_seq (K_r [] [] (by kernel_rfl) trivial ?_)
  refine K_g (by kernel_rfl) ?_
  cases H
  refine K_ret ?_
  kernel_rfl
def T_cmp_Compare_557a (k : Nat) (p1 : Int) (p2 : Int) : Option Int := match k with
 | 0 => none
 | k + 1 => ((T_cmp_isNaN_557a k p1).bind fun x1 => (T_cmp_isNaN_557a k p2).bind fun x2 => (if (!decide (p1 = p1)) = true then (if (!decide (p2 = p2)) = true then some 0 else some (-1)) else (if (!decide (p2 = p2)) = true then some 1 else (if p1 < p2 then some (-1) else (if p2 < p1 then some 1 else some 0)))))
abbrev C_T_cmp_Compare_557a (k : Nat) (p1 : Int) (p2 : Int) (r : Int) : Prop := evF X k n_cmp_Compare_557a [(I p1), (I p2)] [] = some ((I r), [])
theorem T_cmp_Compare_557a_ok (k : Nat) (p1 : Int) (p2 : Int) (r : Int) : T_cmp_Compare_557a k p1 p2 = some r → C_T_cmp_Compare_557a k p1 p2 r := by
 intro H
 cases k with
 | zero => simp [T_cmp_Compare_557a] at H
 | succ k =>
  rw [T_cmp_Compare_557a] at H
  refine F_in X_cmp_Compare_557a rfl ?_
  refine K_seq (K_r [] [] (by kernel_rfl) trivial ?_)
  refine K_seq ?_
  obtain ⟨x1, hx1, H⟩ := bind_some' H
  refine K_r [.r (B (!decide (p1 = p1))) []] [C_T_cmp_isNaN_557a k p1 x1] (by kernel_rfl) (A1 (T_cmp_isNaN_557a_ok k p1 x1 hx1)) ?_
  refine K_seq ?_
  obtain ⟨x2, hx2, H⟩ := bind_some' H
  refine K_r [.r (B (!decide (p2 = p2))) []] [C_T_cmp_isNaN_557a k p2 x2] (by kernel_rfl) (A1 (T_cmp_isNaN_557a_ok k p2 x2 hx2)) ?_
  refine K_seq (K_seq (K_r [] [] (by kernel_rfl) trivial ?_))
  rcases ite_some H with ⟨hx3, H⟩ | ⟨hx3, H⟩
  · refine K_t (by kernel_rfl) hx3 ?_
    refine K_seq (K_seq (K_r [] [] (by kernel_rfl) trivial ?_))
    rcases ite_some H with ⟨hx4, H⟩ | ⟨hx4, H⟩
    · refine K_t (by kernel_rfl) hx4 ?_
      refine K_seq (K_r [] [] (by kernel_rfl) trivial ?_)
      refine K_g (by kernel_rfl) ?_
      cases H
      refine K_ret ?_
      kernel_rfl
    · refine K_f (by kernel_rfl) (Bool.eq_false_iff.2 hx4) ?_
      refine K_g (by kernel_rfl) ?_
      refine K_skip (K_seq (K_r [] [] (by kernel_rfl) trivial ?_))
      refine K_g (by kernel_rfl) ?_
      cases H
      refine K_ret ?_
      kernel_rfl
  · refine K_f (by kernel_rfl) (Bool.eq_false_iff.2 hx3) ?_
    refine K_g (by kernel_rfl) ?_
    refine K_skip (K_seq (K_seq (K_r [] [] (by kernel_rfl) trivial ?_)))
    rcases ite_some H with ⟨hx5, H⟩ | ⟨hx5, H⟩
    · refine K_t (by kernel_rfl) hx5 ?_
      refine K_seq (K_r [] [] (by kernel_rfl) trivial ?_)
      refine K_g (by kernel_rfl) ?_
      cases H
      refine K_ret ?_
      kernel_rfl
    · refine K_f (by kernel_rfl) (Bool.eq_false_iff.2 hx5) ?_
      refine K_g (by kernel_rfl) ?_
      refine K_skip (K_seq (K_seq (K_r [] [] (by kernel_rfl) trivial ?_)))
      rcases ite_some H with ⟨hx6, H⟩ | ⟨hx6, H⟩
      · refine K_t (by kernel_rfl) (decide_eq_true hx6) ?_
        refine K_seq (K_r [] [] (by kernel_rfl) trivial ?_)
        refine K_g (by kernel_rfl) ?_
        cases H
        refine K_ret ?_
        kernel_rfl
      · refine K_f (by kernel_rfl) (decide_eq_false hx6) ?_
        refine K_g (by kernel_rfl) ?_
        refine K_skip (K_seq (K_seq (K_r [] [] (by kernel_rfl) trivial ?_)))
        rcases ite_some H with ⟨hx7, H⟩ | ⟨hx7, H⟩
        · refine K_t (by kernel_rfl) (decide_eq_true hx7) ?_
          refine K_seq (K_r [] [] (by kernel_rfl) trivial ?_)
          refine K_g (by kernel_rfl) ?_
          cases H
          refine K_ret ?_
          kernel_rfl
        · refine K_f (by kernel_rfl) (decide_eq_false hx7) ?_
          refine K_g (by kernel_rfl) ?_
          refine K_skip (K_seq (K_r [] [] (by kernel_rfl) trivial ?_))
          refine K_g (by kernel_rfl) ?_
          cases H
          refine K_ret ?_
          kernel_rfl
def T_word_Cmp (k : Nat) (p1 : Int) (p2 : Int) (p3 : Int) (p4 : Int) (p5 : Int) (p6 : List Int) (p7 : List Int) (p8 : List Int) (p9 : List Int) (p10 : List Int) : Option Int := match k with
 | 0 => none
 | k + 1 => ((((T_word_Valid k p1 p2 p3 p4 p5 p6 p7 p8).bind fun x1 => (if (!x1) = true then some true else ((T_word_Valid k p1 p2 p3 p4 p5 p6 p9 p10).bind fun x4 => (if (!x4) = true then some true else ((T_word_full k p7 p8).bind fun x7 => (if (!x7) = true then some true else ((T_word_full k p9 p10).bind fun x10 => some (!x10))))))))).bind fun x11 => (if x11 = true then some 0 else ((T_word_shuffled k p7 p8).bind fun x13 => (T_word_shuffled k p9 p10).bind fun x14 => (T_cmp_Compare_557a k x13 x14).bind fun x15 => some x15)))
abbrev C_T_word_Cmp (k : Nat) (p1 : Int) (p2 : Int) (p3 : Int) (p4 : Int) (p5 : Int) (p6 : List Int) (p7 : List Int) (p8 : List Int) (p9 : List Int) (p10 : List Int) (r : Int) : Prop := evF X k n_word_Cmp [(.agg [cI p1, cI p2, cI p3, cI p4, cI p5, cL p6]), (.agg [cL p7, cL p8]), (.agg [cL p9, cL p10])] [] = some ((I r), [])
theorem T_word_Cmp_ok (k : Nat) (p1 : Int) (p2 : Int) (p3 : Int) (p4 : Int) (p5 : Int) (p6 : List Int) (p7 : List Int) (p8 : List Int) (p9 : List Int) (p10 : List Int) (r : Int) : T_word_Cmp k p1 p2 p3 p4 p5 p6 p7 p8 p9 p10 = some r → C_T_word_Cmp k p1 p2 p3 p4 p5 p6 p7 p8 p9 p10 r := by
 intro H
 cases k with
 | zero => simp [T_word_Cmp] at H
 | succ k =>
  simp only [T_word_Cmp] at H
  refine F_in X_word_Cmp rfl ?_
  refine K_seq (K_r [] [] (by kernel_rfl) trivial ?_)
  refine K_seq ?_
  refine K_seq ?_
  obtain ⟨x11, hx11, H⟩ := bind_some' H
  refine K_of ⟨[(4, (Pt 0)), (5, (Pt 1)), (26, (B x11))], [.cells [cL p7, cL p8], .cells [cL p9, cL p10]]⟩ ?_ ?_
  · clear H; have H := hx11; clear hx11; refine K_in ?_
    obtain ⟨x1, hx1, H⟩ := bind_some' H
    rcases ite_some H with ⟨hx3, H⟩ | ⟨hx3, H⟩
    · refine K_r [.r (B x1) [], .b true, .b true, .b true] [C_T_word_Valid k p1 p2 p3 p4 p5 p6 p7 p8 x1, (!x1) = true, true = true, true = true] (by kernel_rfl) (AC (T_word_Valid_ok k p1 p2 p3 p4 p5 p6 p7 p8 x1 hx1) (AC hx3 (AC rfl (A1 rfl)))) ?_
      cases H
      exact K_end (by kernel_rfl)
    · obtain ⟨x4, hx4, H⟩ := bind_some' H
      rcases ite_some H with ⟨hx6, H⟩ | ⟨hx6, H⟩
      · refine K_r [.r (B x1) [], .b false, .r (B x4) [], .b true, .b true] [C_T_word_Valid k p1 p2 p3 p4 p5 p6 p7 p8 x1, (!x1) = false, C_T_word_Valid k p1 p2 p3 p4 p5 p6 p9 p10 x4, (!x4) = true, true = true] (by kernel_rfl) (AC (T_word_Valid_ok k p1 p2 p3 p4 p5 p6 p7 p8 x1 hx1) (AC (Bool.eq_false_iff.2 hx3) (AC (T_word_Valid_ok k p1 p2 p3 p4 p5 p6 p9 p10 x4 hx4) (AC hx6 (A1 rfl))))) ?_
        cases H
        exact K_end (by kernel_rfl)
      · obtain ⟨x7, hx7, H⟩ := bind_some' H
        rcases ite_some H with ⟨hx9, H⟩ | ⟨hx9, H⟩
        · refine K_r [.r (B x1) [], .b false, .r (B x4) [], .b false, .r (B x7) [], .b true] [C_T_word_Valid k p1 p2 p3 p4 p5 p6 p7 p8 x1, (!x1) = false, C_T_word_Valid k p1 p2 p3 p4 p5 p6 p9 p10 x4, (!x4) = false, C_T_word_full k p7 p8 x7, (!x7) = true] (by kernel_rfl) (AC (T_word_Valid_ok k p1 p2 p3 p4 p5 p6 p7 p8 x1 hx1) (AC (Bool.eq_false_iff.2 hx3) (AC (T_word_Valid_ok k p1 p2 p3 p4 p5 p6 p9 p10 x4 hx4) (AC (Bool.eq_false_iff.2 hx6) (AC (T_word_full_ok k p7 p8 x7 hx7) (A1 hx9)))))) ?_
          cases H
          exact K_end (by kernel_rfl)
        · obtain ⟨x10, hx10, H⟩ := bind_some' H
          refine K_r [.r (B x1) [], .b false, .r (B x4) [], .b false, .r (B x7) [], .b false, .r (B x10) []] [C_T_word_Valid k p1 p2 p3 p4 p5 p6 p7 p8 x1, (!x1) = false, C_T_word_Valid k p1 p2 p3 p4 p5 p6 p9 p10 x4, (!x4) = false, C_T_word_full k p7 p8 x7, (!x7) = false, C_T_word_full k p9 p10 x10] (by kernel_rfl) (AC (T_word_Valid_ok k p1 p2 p3 p4 p5 p6 p7 p8 x1 hx1) (AC (Bool.eq_false_iff.2 hx3) (AC (T_word_Valid_ok k p1 p2 p3 p4 p5 p6 p9 p10 x4 hx4) (AC (Bool.eq_false_iff.2 hx6) (AC (T_word_full_ok k p7 p8 x7 hx7) (AC (Bool.eq_false_iff.2 hx9) (A1 (T_word_full_ok k p9 p10 x10 hx10)))))))) ?_
          cases H
          exact K_end (by kernel_rfl)
  rcases ite_some H with ⟨hx12, H⟩ | ⟨hx12, H⟩
  · refine K_t (by kernel_rfl) hx12 ?_
    refine K_seq (K_r [] [] (by kernel_rfl) trivial ?_)
    refine K_g (by kernel_rfl) ?_
    cases H
    refine K_ret ?_
    kernel_rfl
  · refine K_f (by kernel_rfl) (Bool.eq_false_iff.2 hx12) ?_
    refine K_g (by kernel_rfl) ?_
    refine K_skip ?_
    refine K_seq ?_
    obtain ⟨x13, hx13, H⟩ := bind_some' H
    obtain ⟨x14, hx14, H⟩ := bind_some' H
    obtain ⟨x15, hx15, H⟩ := bind_some' H
    refine K_r [.r (I x13) [], .r (I x14) [], .r (I x15) []] [C_T_word_shuffled k p7 p8 x13, C_T_word_shuffled k p9 p10 x14, C_T_cmp_Compare_557a k x13 x14 x15] (by kernel_rfl) (AC (T_word_shuffled_ok k p7 p8 x13 hx13) (AC (T_word_shuffled_ok k p9 p10 x14 hx14) (A1 (T_cmp_Compare_557a_ok k x13 x14 x15 hx15)))) ?_
    refine K_g (by kernel_rfl) ?_
    cases H
    refine K_ret ?_
    kernel_rfl
def T_ref19_Cmp_l1 (k : Nat) (p7 : List Int) (p8 : List Int) (p9 : List Int) (p10 : List Int) (x36 : Int) (x39 : Int) (x51 : Int) : Option (Int ⊕ (Unit ⊕ Int)) :=
 (if x51 < x39 then (at? p7 x51).bind fun x53 => (if (0 : Int) ≤ x36 then (at? p9 x51).bind fun x55 => (if (bAnd .i64 (x53.fdiv (2 ^ (Nat.min x36.toNat (IntKind.bits .i64)))) 1) < (bAnd .i64 (x55.fdiv (2 ^ (Nat.min x36.toNat (IntKind.bits .i64)))) 1) then some (.inr (.inr (-1))) else (if (bAnd .i64 (x55.fdiv (2 ^ (Nat.min x36.toNat (IntKind.bits .i64)))) 1) < (bAnd .i64 (x53.fdiv (2 ^ (Nat.min x36.toNat (IntKind.bits .i64)))) 1) then some (.inr (.inr 1)) else some (.inl (w64 (x51 + 1))))) else none) else some (.inr (.inl ())))
theorem T_ref19_Cmp_l1_ok (k : Nat) (p7 : List Int) (p8 : List Int) (p9 : List Int) (p10 : List Int) (x36 : Int) (x39 : Int) : ∀ (x51 : Int) (x : Int ⊕ (Unit ⊕ Int)), T_ref19_Cmp_l1 k p7 p8 p9 p10 x36 x39 x51 = some x → evC X (evF X k) k 0 l_ref19_Cmp_1 ⟨[(4, (Pt 0)), (5, (Pt 1)), (7, (I x36)), (27, (I x39)), (28, (I x51))], [.cells [cL p7, cL p8], .cells [cL p9, cL p10]]⟩ = some (outS (fun (s : Int) => ⟨[(4, (Pt 0)), (5, (Pt 1)), (7, (I x36)), (27, (I x39)), (28, (I s))], [.cells [cL p7, cL p8], .cells [cL p9, cL p10]]⟩) (fun (r : Unit ⊕ Int) => Sum.elim (fun y => (.exit 2, ⟨[(4, (Pt 0)), (5, (Pt 1)), (7, (I x36))], [.cells [cL p7, cL p8], .cells [cL p9, cL p10]]⟩)) (fun y => (.ret, ⟨[(6, (I y))], []⟩)) r) x) := by
 intro x51 x H
 unfold T_ref19_Cmp_l1 at H
 refine K_in ?_
 refine K_seq (K_r [] [] (by kernel_rfl) trivial ?_)
 refine K_seq ?_
 rcases ite_some H with ⟨hx52, H⟩ | ⟨hx52, H⟩
 · refine K_t (by kernel_rfl) (decide_eq_true hx52) ?_
   refine K_g (by kernel_rfl) ?_
   refine K_skip (K_seq (K_block (K_seq (K_r [] [] (by kernel_rfl) trivial ?_))))
   refine K_seq ?_
   obtain ⟨x53, hx53, H⟩ := bind_some' H
   obtain ⟨hx54, H⟩ := guard_some H
   obtain ⟨x55, hx55, H⟩ := bind_some' H
   refine K_r [.l [.int .i64 x53], .l [.int .i64 x55]] [(0 : Int) ≤ x51 ∧ x51 < (((p7.map (D.int .i64))).length : Int), ((p7.map (D.int .i64)).getD x51.toNat (.int .i64 0)).cells = [.int .i64 x53], (0 : Int) ≤ x36, (0 : Int) ≤ x51 ∧ x51 < (((p9.map (D.int .i64))).length : Int), ((p9.map (D.int .i64)).getD x51.toNat (.int .i64 0)).cells = [.int .i64 x55], (0 : Int) ≤ x36] (by kernel_rfl) (AC (at_ok hx53 (D.int .i64) (.int .i64 0)).1 (AC (at_ok hx53 (D.int .i64) (.int .i64 0)).2 (AC hx54 (AC (at_ok hx55 (D.int .i64) (.int .i64 0)).1 (AC (at_ok hx55 (D.int .i64) (.int .i64 0)).2 (A1 hx54)))))) ?_
   refine K_seq (K_seq (K_r [] [] (by kernel_rfl) trivial ?_))
   rcases ite_some H with ⟨hx56, H⟩ | ⟨hx56, H⟩
   · refine K_t (by kernel_rfl) (decide_eq_true hx56) ?_
     refine K_seq (K_r [] [] (by kernel_rfl) trivial ?_)
     refine K_g (by kernel_rfl) ?_
     cases H
     exact K_ret (by kernel_rfl)
   · refine K_f (by kernel_rfl) (decide_eq_false hx56) ?_
     refine K_g (by kernel_rfl) ?_
     refine K_skip (K_seq (K_r [] [] (by kernel_rfl) trivial ?_))
     rcases ite_some H with ⟨hx57, H⟩ | ⟨hx57, H⟩
     · refine K_t (by kernel_rfl) (decide_eq_true hx57) ?_
       refine K_seq (K_r [] [] (by kernel_rfl) trivial ?_)
       refine K_g (by kernel_rfl) ?_
       cases H
       exact K_ret (by kernel_rfl)
     · refine K_f (by kernel_rfl) (decide_eq_false hx57) ?_
       refine K_g (by kernel_rfl) ?_
       refine K_skip (K_blk (K_r [] [] (by kernel_rfl) trivial ?_))
       cases H
       exact K_end (by kernel_rfl)
 · refine K_f (by kernel_rfl) (decide_eq_false hx52) ?_
   refine K_g (by kernel_rfl) ?_
   cases H
   exact K_exit0 rfl (by kernel_rfl)
def T_ref19_Cmp_l2 (k : Nat) (p7 : List Int) (p8 : List Int) (p9 : List Int) (p10 : List Int) (x36 : Int) : Option (Int ⊕ (Unit ⊕ Int)) :=
 (if 0 ≤ x36 then ((loopT (T_ref19_Cmp_l1 k p7 p8 p9 p10 x36 (p7.length : Int)) k 0).bind fun x58 => (match x58 with | .inl x59 => some (.inl (w64 (x36 - 1))) | .inr x60 => some (.inr (.inr x60)))) else some (.inr (.inl ())))
theorem T_ref19_Cmp_l2_ok (k : Nat) (p7 : List Int) (p8 : List Int) (p9 : List Int) (p10 : List Int) : ∀ (x36 : Int) (x : Int ⊕ (Unit ⊕ Int)), T_ref19_Cmp_l2 k p7 p8 p9 p10 x36 = some x → evC X (evF X k) k 0 l_ref19_Cmp_2 ⟨[(4, (Pt 0)), (5, (Pt 1)), (7, (I x36))], [.cells [cL p7, cL p8], .cells [cL p9, cL p10]]⟩ = some (outS (fun (s : Int) => ⟨[(4, (Pt 0)), (5, (Pt 1)), (7, (I s))], [.cells [cL p7, cL p8], .cells [cL p9, cL p10]]⟩) (fun (r : Unit ⊕ Int) => Sum.elim (fun y => (.exit 0, ⟨[], []⟩)) (fun y => (.ret, ⟨[(6, (I y))], []⟩)) r) x) := by
 intro x36 x H
 unfold T_ref19_Cmp_l2 at H
 refine K_in ?_
 refine K_seq (K_seq (K_r [] [] (by kernel_rfl) trivial ?_))
 rcases ite_some H with ⟨hx37, H⟩ | ⟨hx37, H⟩
 · refine K_t (by kernel_rfl) (decide_eq_true hx37) ?_
   refine K_g (by kernel_rfl) ?_
   refine K_skip (K_seq (K_block (K_seq (K_r [.n p7.length] [((p7.map (D.int .i64))).length = p7.length] (by kernel_rfl) (A1 (List.length_map _)) ?_))))
   refine K_block (K_conv (σ' := ⟨[(4, (Pt 0)), (5, (Pt 1)), (7, (I x36)), (27, (I (p7.length : Int))), (28, (I 0))], [.cells [cL p7, cL p8], .cells [cL p9, cL p10]]⟩) (by kernel_rfl) ?_)
   obtain ⟨x58, hx58, H⟩ := bind_some' H
   cases x58 with
   | inl x59 =>
    dsimp only at H
    refine K_loop ⟨[(4, (Pt 0)), (5, (Pt 1)), (7, (I x36))], [.cells [cL p7, cL p8], .cells [cL p9, cL p10]]⟩ (loop_ok (fun (s : Int) => ⟨[(4, (Pt 0)), (5, (Pt 1)), (7, (I x36)), (27, (I (p7.length : Int))), (28, (I s))], [.cells [cL p7, cL p8], .cells [cL p9, cL p10]]⟩) (fun (r : Unit ⊕ Int) => Sum.elim (fun y => (.exit 2, ⟨[(4, (Pt 0)), (5, (Pt 1)), (7, (I x36))], [.cells [cL p7, cL p8], .cells [cL p9, cL p10]]⟩)) (fun y => (.ret, ⟨[(6, (I y))], []⟩)) r) (fun r h => by cases r <;> cases h) (T_ref19_Cmp_l1_ok k p7 p8 p9 p10 x36 (p7.length : Int)) k 0 (.inl x59) hx58) rfl ?_
    refine K_blk (K_r [] [] (by kernel_rfl) trivial ?_)
    cases H
    exact K_end (by kernel_rfl)
   | inr x60 =>
    dsimp only at H
    cases H
    exact K_loopr ⟨[(6, (I x60))], []⟩ (loop_ok (fun (s : Int) => ⟨[(4, (Pt 0)), (5, (Pt 1)), (7, (I x36)), (27, (I (p7.length : Int))), (28, (I s))], [.cells [cL p7, cL p8], .cells [cL p9, cL p10]]⟩) (fun (r : Unit ⊕ Int) => Sum.elim (fun y => (.exit 2, ⟨[(4, (Pt 0)), (5, (Pt 1)), (7, (I x36))], [.cells [cL p7, cL p8], .cells [cL p9, cL p10]]⟩)) (fun y => (.ret, ⟨[(6, (I y))], []⟩)) r) (fun r h => by cases r <;> cases h) (T_ref19_Cmp_l1_ok k p7 p8 p9 p10 x36 (p7.length : Int)) k 0 (.inr x60) hx58) (by kernel_rfl)
 · refine K_f (by kernel_rfl) (decide_eq_false hx37) ?_
   refine K_g (by kernel_rfl) ?_
   cases H
   exact K_exit0 rfl (by kernel_rfl)
def T_ref19_Cmp (k : Nat) (p1 : Int) (p2 : Int) (p3 : Int) (p4 : Int) (p5 : Int) (p6 : List Int) (p7 : List Int) (p8 : List Int) (p9 : List Int) (p10 : List Int) : Option Int := match k with
 | 0 => none
 | k + 1 => ((((T_ref19_Full k p1 p2 p3 p4 p5 p6 p7 p8).bind fun x1 => (if (!x1) = true then some true else ((T_ref19_Full k p1 p2 p3 p4 p5 p6 p9 p10).bind fun x4 => some (!x4))))).bind fun x5 => (if x5 = true then some 0 else ((loopT (T_ref19_Cmp_l2 k p7 p8 p9 p10) k 3).bind fun x61 => (match x61 with | .inl x62 => some 0 | .inr x63 => some x63))))
abbrev C_T_ref19_Cmp (k : Nat) (p1 : Int) (p2 : Int) (p3 : Int) (p4 : Int) (p5 : Int) (p6 : List Int) (p7 : List Int) (p8 : List Int) (p9 : List Int) (p10 : List Int) (r : Int) : Prop := evF X k n_ref19_Cmp [(.agg [cI p1, cI p2, cI p3, cI p4, cI p5, cL p6]), (.agg [cL p7, cL p8]), (.agg [cL p9, cL p10])] [] = some ((I r), [])
theorem T_ref19_Cmp_ok (k : Nat) (p1 : Int) (p2 : Int) (p3 : Int) (p4 : Int) (p5 : Int) (p6 : List Int) (p7 : List Int) (p8 : List Int) (p9 : List Int) (p10 : List Int) (r : Int) : T_ref19_Cmp k p1 p2 p3 p4 p5 p6 p7 p8 p9 p10 = some r → C_T_ref19_Cmp k p1 p2 p3 p4 p5 p6 p7 p8 p9 p10 r := by
 intro H
 cases k with
 | zero => simp [T_ref19_Cmp] at H
 | succ k =>
  simp only [T_ref19_Cmp] at H
  refine F_in X_ref19_Cmp rfl ?_
  refine K_seq (K_r [] [] (by kernel_rfl) trivial ?_)
  refine K_seq ?_
  refine K_seq ?_
  obtain ⟨x5, hx5, H⟩ := bind_some' H
  refine K_of ⟨[(4, (Pt 0)), (5, (Pt 1)), (20, (B x5))], [.cells [cL p7, cL p8], .cells [cL p9, cL p10]]⟩ ?_ ?_
  · clear H; have H := hx5; clear hx5; refine K_in ?_
    obtain ⟨x1, hx1, H⟩ := bind_some' H
    rcases ite_some H with ⟨hx3, H⟩ | ⟨hx3, H⟩
    · refine K_r [.r (B x1) [], .b true] [C_T_ref19_Full k p1 p2 p3 p4 p5 p6 p7 p8 x1, (!x1) = true] (by kernel_rfl) (AC (T_ref19_Full_ok k p1 p2 p3 p4 p5 p6 p7 p8 x1 hx1) (A1 hx3)) ?_
      cases H
      exact K_end (by kernel_rfl)
    · obtain ⟨x4, hx4, H⟩ := bind_some' H
      refine K_r [.r (B x1) [], .b false, .r (B x4) []] [C_T_ref19_Full k p1 p2 p3 p4 p5 p6 p7 p8 x1, (!x1) = false, C_T_ref19_Full k p1 p2 p3 p4 p5 p6 p9 p10 x4] (by kernel_rfl) (AC (T_ref19_Full_ok k p1 p2 p3 p4 p5 p6 p7 p8 x1 hx1) (AC (Bool.eq_false_iff.2 hx3) (A1 (T_ref19_Full_ok k p1 p2 p3 p4 p5 p6 p9 p10 x4 hx4)))) ?_
      cases H
      exact K_end (by kernel_rfl)
  rcases ite_some H with ⟨hx6, H⟩ | ⟨hx6, H⟩
  · refine K_t (by kernel_rfl) hx6 ?_
    refine K_seq (K_r [] [] (by kernel_rfl) trivial ?_)
    refine K_g (by kernel_rfl) ?_
    cases H
    refine K_ret ?_
    kernel_rfl
  · refine K_f (by kernel_rfl) (Bool.eq_false_iff.2 hx6) ?_
    refine K_g (by kernel_rfl) ?_
    refine K_skip (K_seq (K_seq (K_r [] [] (by kernel_rfl) trivial ?_)))
    refine K_block (K_conv (σ' := ⟨[(4, (Pt 0)), (5, (Pt 1)), (7, (I 3))], [.cells [cL p7, cL p8], .cells [cL p9, cL p10]]⟩) (by kernel_rfl) ?_)
    obtain ⟨x61, hx61, H⟩ := bind_some' H
    cases x61 with
    | inl x62 =>
     dsimp only at H
     refine K_loop ⟨[], []⟩ (loop_ok (fun (s : Int) => ⟨[(4, (Pt 0)), (5, (Pt 1)), (7, (I s))], [.cells [cL p7, cL p8], .cells [cL p9, cL p10]]⟩) (fun (r : Unit ⊕ Int) => Sum.elim (fun y => (.exit 0, ⟨[], []⟩)) (fun y => (.ret, ⟨[(6, (I y))], []⟩)) r) (fun r h => by cases r <;> cases h) (T_ref19_Cmp_l2_ok k p7 p8 p9 p10) k 3 (.inl x62) hx61) rfl ?_
     refine K_seq (K_r [] [] (by kernel_rfl) trivial ?_)
     refine K_g (by kernel_rfl) ?_
     cases H
     refine K_ret ?_
     kernel_rfl
    | inr x63 =>
     dsimp only at H
     have H := Option.some.inj H; subst H
     refine K_loopr ⟨[(6, (I x63))], []⟩ (loop_ok (fun (s : Int) => ⟨[(4, (Pt 0)), (5, (Pt 1)), (7, (I s))], [.cells [cL p7, cL p8], .cells [cL p9, cL p10]]⟩) (fun (r : Unit ⊕ Int) => Sum.elim (fun y => (.exit 0, ⟨[], []⟩)) (fun y => (.ret, ⟨[(6, (I y))], []⟩)) r) (fun r h => by cases r <;> cases h) (T_ref19_Cmp_l2_ok k p7 p8 p9 p10) k 3 (.inr x63) hx61) ?_
     kernel_rfl
def T_law19_WordParts_l1 (k : Nat) (p11 : Int) (x24 : List ((List Int) × (List Int))) (x25 : List (Int × Int × Int × Int × Int × (List Int))) (x26 : Int) (x28 : List Int) (x267 : Int) (x269 : Int) (x273 : Int) (x274 : Int) (x275 : Int) (x276 : Int) (x277 : Int) (x278 : List Int) (x403 : Int) (x404 : List Int) (x405 : Int) (x408 : Int) (x415 : List Int) (x416 : List Int) (x427 : Int) : Option (Int ⊕ (Unit ⊕ Unit)) :=
 (if x427 < x405 then ((at? x404 x427).bind fun x429 => (T_word_Split k x273 x274 x275 x276 x277 x278 x415 x416 x429).bind fun x430 => (T_ref19_Split k x273 x274 x275 x276 x277 x278 x415 x416 x429).bind fun x431 => (((T_ref19_Same k x430.1 x430.2.1 x431.1 x431.2.1).bind fun x432 => (if (!x432) = true then some true else ((T_ref19_Same k x430.2.2.1 x430.2.2.2.1 x431.2.2.1 x431.2.2.2.1).bind fun x435 => some ((!x435) || (!decide (x430.2.2.2.2 = x431.2.2.2.2))))))).bind fun x436 => (if x436 = true then some (.inr (.inr ())) else some (.inl (w64 (x427 + 1))))) else some (.inr (.inl ())))
theorem T_law19_WordParts_l1_ok (k : Nat) (p11 : Int) (x24 : List ((List Int) × (List Int))) (x25 : List (Int × Int × Int × Int × Int × (List Int))) (x26 : Int) (x28 : List Int) (x267 : Int) (x269 : Int) (x273 : Int) (x274 : Int) (x275 : Int) (x276 : Int) (x277 : Int) (x278 : List Int) (x403 : Int) (x404 : List Int) (x405 : Int) (x408 : Int) (x415 : List Int) (x416 : List Int) : ∀ (x427 : Int) (x : Int ⊕ (Unit ⊕ Unit)), T_law19_WordParts_l1 k p11 x24 x25 x26 x28 x267 x269 x273 x274 x275 x276 x277 x278 x403 x404 x405 x408 x415 x416 x427 = some x → evC X (evF X k) k 0 l_law19_WordParts_1 ⟨[(3, (I p11)), (11, (Pt 0)), (21, (.one (.d (.list (x24.map e_st2))))), (23, (Pt 1)), (25, (Pt 2)), (143, (.one (.d (.list (x25.map e_st1))))), (144, (I x26)), (145, (I x267)), (149, (.one (.d (.list (x24.map e_st2))))), (150, (I x269)), (151, (I x403)), (188, (LI x404)), (189, (I x405)), (190, (I x427))], [.cells [cL x28, cI x408], .cells [cI x273, cI x274, cI x275, cI x276, cI x277, cL x278], .cells [cL x415, cL x416]]⟩ = some (outS (fun (s : Int) => ⟨[(3, (I p11)), (11, (Pt 0)), (21, (.one (.d (.list (x24.map e_st2))))), (23, (Pt 1)), (25, (Pt 2)), (143, (.one (.d (.list (x25.map e_st1))))), (144, (I x26)), (145, (I x267)), (149, (.one (.d (.list (x24.map e_st2))))), (150, (I x269)), (151, (I x403)), (188, (LI x404)), (189, (I x405)), (190, (I s))], [.cells [cL x28, cI x408], .cells [cI x273, cI x274, cI x275, cI x276, cI x277, cL x278], .cells [cL x415, cL x416]]⟩) (fun (r : Unit ⊕ Unit) => Sum.elim (fun y => (.exit 5, ⟨[(3, (I p11)), (11, (Pt 0)), (21, (.one (.d (.list (x24.map e_st2))))), (23, (Pt 1)), (25, (Pt 2)), (143, (.one (.d (.list (x25.map e_st1))))), (144, (I x26)), (145, (I x267)), (149, (.one (.d (.list (x24.map e_st2))))), (150, (I x269)), (151, (I x403))], [.cells [cL x28, cI x408], .cells [cI x273, cI x274, cI x275, cI x276, cI x277, cL x278], .cells [cL x415, cL x416]]⟩)) (fun y => (.ret, ⟨[(10, (B false))], []⟩)) r) x) := by
 intro x427 x H
 unfold T_law19_WordParts_l1 at H
 refine K_in ?_
 refine K_seq (K_r [] [] (by kernel_rfl) trivial ?_)
 refine K_seq ?_
 rcases ite_some H with ⟨hx428, H⟩ | ⟨hx428, H⟩
 · refine K_t (by kernel_rfl) (decide_eq_true hx428) ?_
   refine K_g (by kernel_rfl) ?_
   refine K_skip ?_
   refine K_seq ?_
   refine K_block ?_
   refine K_seq ?_
   obtain ⟨x429, hx429, H⟩ := bind_some' H
   refine K_r [.l [.int .i64 x429]] [(0 : Int) ≤ x427 ∧ x427 < (((x404.map (D.int .i64))).length : Int), ((x404.map (D.int .i64)).getD x427.toNat (.int .i64 0)).cells = [.int .i64 x429]] (by kernel_rfl) (AC (at_ok hx429 (D.int .i64) (.int .i64 0)).1 (A1 (at_ok hx429 (D.int .i64) (.int .i64 0)).2)) ?_
   refine K_seq ?_
   obtain ⟨x430, hx430, H⟩ := bind_some' H
   refine K_r [.r (.tup [(true, [cL x430.1, cL x430.2.1]), (true, [cL x430.2.2.1, cL x430.2.2.2.1]), (false, [cI x430.2.2.2.2])]) []] [C_T_word_Split k x273 x274 x275 x276 x277 x278 x415 x416 x429 x430] (by kernel_rfl) (A1 (T_word_Split_ok k x273 x274 x275 x276 x277 x278 x415 x416 x429 x430 hx430)) ?_
   refine K_seq ?_
   obtain ⟨x431, hx431, H⟩ := bind_some' H
   refine K_r [.r (.tup [(true, [cL x431.1, cL x431.2.1]), (true, [cL x431.2.2.1, cL x431.2.2.2.1]), (false, [cI x431.2.2.2.2])]) []] [C_T_ref19_Split k x273 x274 x275 x276 x277 x278 x415 x416 x429 x431] (by kernel_rfl) (A1 (T_ref19_Split_ok k x273 x274 x275 x276 x277 x278 x415 x416 x429 x431 hx431)) ?_
   refine K_seq ?_
   obtain ⟨x436, hx436, H⟩ := bind_some' H
   refine K_of ⟨[(3, (I p11)), (11, (Pt 0)), (21, (.one (.d (.list (x24.map e_st2))))), (23, (Pt 1)), (25, (Pt 2)), (143, (.one (.d (.list (x25.map e_st1))))), (144, (I x26)), (145, (I x267)), (149, (.one (.d (.list (x24.map e_st2))))), (150, (I x269)), (151, (I x403)), (188, (LI x404)), (189, (I x405)), (190, (I x427)), (224, (B x436))], [.cells [cL x28, cI x408], .cells [cI x273, cI x274, cI x275, cI x276, cI x277, cL x278], .cells [cL x415, cL x416]]⟩ ?_ ?_
   · clear H; have H := hx436; clear hx436; refine K_in ?_
     obtain ⟨x432, hx432, H⟩ := bind_some' H
     rcases ite_some H with ⟨hx434, H⟩ | ⟨hx434, H⟩
     · refine K_r [.r (B x432) [], .b true, .b true] [C_T_ref19_Same k x430.1 x430.2.1 x431.1 x431.2.1 x432, (!x432) = true, true = true] (by kernel_rfl) (AC (T_ref19_Same_ok k x430.1 x430.2.1 x431.1 x431.2.1 x432 hx432) (AC hx434 (A1 rfl))) ?_
       cases H
       exact K_end (by kernel_rfl)
     · obtain ⟨x435, hx435, H⟩ := bind_some' H
       refine K_r [.r (B x432) [], .b false, .r (B x435) [], .m] ((fun (z1 : Heap) => [C_T_ref19_Same k x430.1 x430.2.1 x431.1 x431.2.1 x432, (!x432) = false, C_T_ref19_Same k x430.2.2.1 x430.2.2.2.1 x431.2.2.1 x431.2.2.2.1 x435, z1 = z1]) [.cells [cL x28, cI x408], .cells [cI x273, cI x274, cI x275, cI x276, cI x277, cL x278], .cells [cL x415, cL x416], .cells [cL x430.1, cL x430.2.1], .cells [cL x430.2.2.1, cL x430.2.2.2.1], .cells [cL x431.1, cL x431.2.1], .cells [cL x431.2.2.1, cL x431.2.2.2.1]]) (by kernel_rfl) (AC (T_ref19_Same_ok k x430.1 x430.2.1 x431.1 x431.2.1 x432 hx432) (AC (Bool.eq_false_iff.2 hx434) (AC (T_ref19_Same_ok k x430.2.2.1 x430.2.2.2.1 x431.2.2.1 x431.2.2.2.1 x435 hx435) (A1 rfl)))) ?_
       cases H
       exact K_end (by kernel_rfl)
   rcases ite_some H with ⟨hx437, H⟩ | ⟨hx437, H⟩
   · refine K_t (by kernel_rfl) hx437 ?_
     refine K_seq (K_r [] [] (by kernel_rfl) trivial ?_)
     refine K_g (by kernel_rfl) ?_
     cases H
     exact K_ret (by kernel_rfl)
   · refine K_f (by kernel_rfl) (Bool.eq_false_iff.2 hx437) ?_
     refine K_g (by kernel_rfl) ?_
     refine K_skip (K_blk (K_r [] [] (by kernel_rfl) trivial ?_))
     cases H
     exact K_end (by kernel_rfl)
 · refine K_f (by kernel_rfl) (decide_eq_false hx428) ?_
   refine K_g (by kernel_rfl) ?_
   cases H
   exact K_exit0 rfl (by kernel_rfl)
def T_law19_WordParts_l2 (k : Nat) (p11 : Int) (x24 : List ((List Int) × (List Int))) (x25 : List (Int × Int × Int × Int × Int × (List Int))) (x26 : Int) (x28 : List Int) (x267 : Int) (x269 : Int) (x273 : Int) (x274 : Int) (x275 : Int) (x276 : Int) (x277 : Int) (x278 : List Int) (x447 : Int) (x449 : Int) (x452 : Int) (x459 : List Int) (x460 : List Int) (x472 : Int) : Option (Int ⊕ (Unit ⊕ Unit)) :=
 (if x472 < x449 then ((at? x24 x472).bind fun x474 => (((T_word_Belongs k x273 x274 x275 x276 x277 x278 x459 x460 x474.1 x474.2).bind fun x475 => (T_ref19_Belongs k x273 x274 x275 x276 x277 x278 x459 x460 x474.1 x474.2).bind fun x476 => (if (!((x475 == x476) && true)) = true then some true else ((T_word_Cmp k x273 x274 x275 x276 x277 x278 x459 x460 x474.1 x474.2).bind fun x480 => (T_ref19_Cmp k x273 x274 x275 x276 x277 x278 x459 x460 x474.1 x474.2).bind fun x481 => some (!decide (x480 = x481)))))).bind fun x482 => (if x482 = true then some (.inr (.inr ())) else some (.inl (w64 (x472 + 1))))) else some (.inr (.inl ())))
theorem T_law19_WordParts_l2_ok (k : Nat) (p11 : Int) (x24 : List ((List Int) × (List Int))) (x25 : List (Int × Int × Int × Int × Int × (List Int))) (x26 : Int) (x28 : List Int) (x267 : Int) (x269 : Int) (x273 : Int) (x274 : Int) (x275 : Int) (x276 : Int) (x277 : Int) (x278 : List Int) (x447 : Int) (x449 : Int) (x452 : Int) (x459 : List Int) (x460 : List Int) : ∀ (x472 : Int) (x : Int ⊕ (Unit ⊕ Unit)), T_law19_WordParts_l2 k p11 x24 x25 x26 x28 x267 x269 x273 x274 x275 x276 x277 x278 x447 x449 x452 x459 x460 x472 = some x → evC X (evF X k) k 0 l_law19_WordParts_2 ⟨[(3, (I p11)), (11, (Pt 0)), (21, (.one (.d (.list (x24.map e_st2))))), (23, (Pt 1)), (25, (Pt 2)), (143, (.one (.d (.list (x25.map e_st1))))), (144, (I x26)), (145, (I x267)), (149, (.one (.d (.list (x24.map e_st2))))), (150, (I x269)), (151, (I x447)), (226, (.one (.d (.list (x24.map e_st2))))), (227, (I x449)), (228, (I x472))], [.cells [cL x28, cI x452], .cells [cI x273, cI x274, cI x275, cI x276, cI x277, cL x278], .cells [cL x459, cL x460]]⟩ = some (outS (fun (s : Int) => ⟨[(3, (I p11)), (11, (Pt 0)), (21, (.one (.d (.list (x24.map e_st2))))), (23, (Pt 1)), (25, (Pt 2)), (143, (.one (.d (.list (x25.map e_st1))))), (144, (I x26)), (145, (I x267)), (149, (.one (.d (.list (x24.map e_st2))))), (150, (I x269)), (151, (I x447)), (226, (.one (.d (.list (x24.map e_st2))))), (227, (I x449)), (228, (I s))], [.cells [cL x28, cI x452], .cells [cI x273, cI x274, cI x275, cI x276, cI x277, cL x278], .cells [cL x459, cL x460]]⟩) (fun (r : Unit ⊕ Unit) => Sum.elim (fun y => (.exit 7, ⟨[(3, (I p11)), (11, (Pt 0)), (21, (.one (.d (.list (x24.map e_st2))))), (23, (Pt 1)), (143, (.one (.d (.list (x25.map e_st1))))), (144, (I x26)), (145, (I x267)), (149, (.one (.d (.list (x24.map e_st2))))), (150, (I x269)), (151, (I x447))], [.cells [cL x28, cI x452], .cells [cI x273, cI x274, cI x275, cI x276, cI x277, cL x278]]⟩)) (fun y => (.ret, ⟨[(10, (B false))], []⟩)) r) x) := by
 intro x472 x H
 unfold T_law19_WordParts_l2 at H
 refine K_in ?_
 refine K_seq (K_r [] [] (by kernel_rfl) trivial ?_)
 refine K_seq ?_
 rcases ite_some H with ⟨hx473, H⟩ | ⟨hx473, H⟩
 · refine K_t (by kernel_rfl) (decide_eq_true hx473) ?_
   refine K_g (by kernel_rfl) ?_
   refine K_skip ?_
   refine K_seq ?_
   refine K_block ?_
   refine K_seq ?_
   obtain ⟨x474, hx474, H⟩ := bind_some' H
   refine K_r [.l [.list (x474.1.map (D.int .i64)), .list (x474.2.map (D.int .i64))]] [(0 : Int) ≤ x472 ∧ x472 < (((x24.map e_st2)).length : Int), ((x24.map e_st2).getD x472.toNat (.agg [(.list []), (.list [])])).cells = [.list (x474.1.map (D.int .i64)), .list (x474.2.map (D.int .i64))]] (by kernel_rfl) (AC (at_ok hx474 e_st2 (.agg [(.list []), (.list [])])).1 (A1 (at_ok hx474 e_st2 (.agg [(.list []), (.list [])])).2)) ?_
   refine K_seq ?_
   obtain ⟨x482, hx482, H⟩ := bind_some' H
   refine K_of ⟨[(3, (I p11)), (11, (Pt 0)), (21, (.one (.d (.list (x24.map e_st2))))), (23, (Pt 1)), (25, (Pt 2)), (143, (.one (.d (.list (x25.map e_st1))))), (144, (I x26)), (145, (I x267)), (149, (.one (.d (.list (x24.map e_st2))))), (150, (I x269)), (151, (I x447)), (226, (.one (.d (.list (x24.map e_st2))))), (227, (I x449)), (228, (I x472)), (251, (B x482))], [.cells [cL x28, cI x452], .cells [cI x273, cI x274, cI x275, cI x276, cI x277, cL x278], .cells [cL x459, cL x460]]⟩ ?_ ?_
   · clear H; have H := hx482; clear hx482; refine K_in ?_
     obtain ⟨x475, hx475, H⟩ := bind_some' H
     obtain ⟨x476, hx476, H⟩ := bind_some' H
     rcases ite_some H with ⟨hx479, H⟩ | ⟨hx479, H⟩
     · refine K_r [.r (B x475) [], .r (B x476) [], .b true] [C_T_word_Belongs k x273 x274 x275 x276 x277 x278 x459 x460 x474.1 x474.2 x475, C_T_ref19_Belongs k x273 x274 x275 x276 x277 x278 x459 x460 x474.1 x474.2 x476, (!((x475 == x476) && true)) = true] (by kernel_rfl) (AC (T_word_Belongs_ok k x273 x274 x275 x276 x277 x278 x459 x460 x474.1 x474.2 x475 hx475) (AC (T_ref19_Belongs_ok k x273 x274 x275 x276 x277 x278 x459 x460 x474.1 x474.2 x476 hx476) (A1 hx479))) ?_
       cases H
       exact K_end (by kernel_rfl)
     · obtain ⟨x480, hx480, H⟩ := bind_some' H
       obtain ⟨x481, hx481, H⟩ := bind_some' H
       refine K_r [.r (B x475) [], .r (B x476) [], .b false, .r (I x480) [], .r (I x481) []] [C_T_word_Belongs k x273 x274 x275 x276 x277 x278 x459 x460 x474.1 x474.2 x475, C_T_ref19_Belongs k x273 x274 x275 x276 x277 x278 x459 x460 x474.1 x474.2 x476, (!((x475 == x476) && true)) = false, C_T_word_Cmp k x273 x274 x275 x276 x277 x278 x459 x460 x474.1 x474.2 x480, C_T_ref19_Cmp k x273 x274 x275 x276 x277 x278 x459 x460 x474.1 x474.2 x481] (by kernel_rfl) (AC (T_word_Belongs_ok k x273 x274 x275 x276 x277 x278 x459 x460 x474.1 x474.2 x475 hx475) (AC (T_ref19_Belongs_ok k x273 x274 x275 x276 x277 x278 x459 x460 x474.1 x474.2 x476 hx476) (AC (Bool.eq_false_iff.2 hx479) (AC (T_word_Cmp_ok k x273 x274 x275 x276 x277 x278 x459 x460 x474.1 x474.2 x480 hx480) (A1 (T_ref19_Cmp_ok k x273 x274 x275 x276 x277 x278 x459 x460 x474.1 x474.2 x481 hx481)))))) ?_
       cases H
       exact K_end (by kernel_rfl)
   rcases ite_some H with ⟨hx483, H⟩ | ⟨hx483, H⟩
   · refine K_t (by kernel_rfl) hx483 ?_
     refine K_seq (K_r [] [] (by kernel_rfl) trivial ?_)
     refine K_g (by kernel_rfl) ?_
     cases H
     exact K_ret (by kernel_rfl)
   · refine K_f (by kernel_rfl) (Bool.eq_false_iff.2 hx483) ?_
     refine K_g (by kernel_rfl) ?_
     refine K_skip (K_blk (K_r [] [] (by kernel_rfl) trivial ?_))
     cases H
     exact K_end (by kernel_rfl)
 · refine K_f (by kernel_rfl) (decide_eq_false hx473) ?_
   refine K_g (by kernel_rfl) ?_
   cases H
   exact K_exit0 rfl (by kernel_rfl)
def T_law19_WordParts_l3 (k : Nat) (p11 : Int) (x24 : List ((List Int) × (List Int))) (x25 : List (Int × Int × Int × Int × Int × (List Int))) (x26 : Int) (x28 : List Int) (x267 : Int) (x269 : Int) (x273 : Int) (x274 : Int) (x275 : Int) (x276 : Int) (x277 : Int) (x278 : List Int) (x383 : Int × Int) : Option ((Int × Int) ⊕ (Int ⊕ Unit)) :=
 (if x383.1 < x269 then ((at? x24 x383.1).bind fun x385 => (T_word_Region k x273 x274 x275 x276 x277 x278 x385.1 x385.2).bind fun x386 => (T_ref19_Region k x273 x274 x275 x276 x277 x278 x385.1 x385.2).bind fun x387 => (((T_word_Valid k x273 x274 x275 x276 x277 x278 x385.1 x385.2).bind fun x388 => (T_ref19_Valid k x273 x274 x275 x276 x277 x278 x385.1 x385.2).bind fun x389 => (if (!((x388 == x389) && true)) = true then some true else ((T_ref19_SameRegion k x386.1 x387.1).bind fun x392 => some ((!x392) || (!decide (x386.2 = x387.2))))))).bind fun x393 => (if x393 = true then some (.inr (.inr ())) else ((T_keep_Src_Range k (-1) 8 x28 x383.2).bind fun x395 => (loopT (T_law19_WordParts_l1 k p11 x24 x25 x26 x28 x267 x269 x273 x274 x275 x276 x277 x278 x383.1 ([p11, x395.1] : List Int) (([p11, x395.1] : List Int).length : Int) x395.2 x385.1 x385.2) k 0).bind fun x438 => (match x438 with | .inl x439 => ((loopT (T_law19_WordParts_l2 k p11 x24 x25 x26 x28 x267 x269 x273 x274 x275 x276 x277 x278 x383.1 (x24.length : Int) x395.2 x385.1 x385.2) k 0).bind fun x484 => (match x484 with | .inl x485 => some (.inl ((w64 (x383.1 + 1)), x395.2)) | .inr x486 => some (.inr (.inr ())))) | .inr x487 => some (.inr (.inr ())))))) else some (.inr (.inl x383.2)))
theorem T_law19_WordParts_l3_ok (k : Nat) (p11 : Int) (x24 : List ((List Int) × (List Int))) (x25 : List (Int × Int × Int × Int × Int × (List Int))) (x26 : Int) (x28 : List Int) (x267 : Int) (x269 : Int) (x273 : Int) (x274 : Int) (x275 : Int) (x276 : Int) (x277 : Int) (x278 : List Int) : ∀ (x383 : Int × Int) (x : (Int × Int) ⊕ (Int ⊕ Unit)), T_law19_WordParts_l3 k p11 x24 x25 x26 x28 x267 x269 x273 x274 x275 x276 x277 x278 x383 = some x → evC X (evF X k) k 0 l_law19_WordParts_3 ⟨[(3, (I p11)), (11, (Pt 0)), (21, (.one (.d (.list (x24.map e_st2))))), (23, (Pt 1)), (143, (.one (.d (.list (x25.map e_st1))))), (144, (I x26)), (145, (I x267)), (149, (.one (.d (.list (x24.map e_st2))))), (150, (I x269)), (151, (I x383.1))], [.cells [cL x28, cI x383.2], .cells [cI x273, cI x274, cI x275, cI x276, cI x277, cL x278]]⟩ = some (outS (fun (s : Int × Int) => ⟨[(3, (I p11)), (11, (Pt 0)), (21, (.one (.d (.list (x24.map e_st2))))), (23, (Pt 1)), (143, (.one (.d (.list (x25.map e_st1))))), (144, (I x26)), (145, (I x267)), (149, (.one (.d (.list (x24.map e_st2))))), (150, (I x269)), (151, (I s.1))], [.cells [cL x28, cI s.2], .cells [cI x273, cI x274, cI x275, cI x276, cI x277, cL x278]]⟩) (fun (r : Int ⊕ Unit) => Sum.elim (fun y => (.exit 3, ⟨[(3, (I p11)), (11, (Pt 0)), (21, (.one (.d (.list (x24.map e_st2))))), (143, (.one (.d (.list (x25.map e_st1))))), (144, (I x26)), (145, (I x267))], [.cells [cL x28, cI y]]⟩)) (fun y => (.ret, ⟨[(10, (B false))], []⟩)) r) x) := by
 intro x383 x H
 unfold T_law19_WordParts_l3 at H
 refine K_in ?_
 refine K_seq (K_r [] [] (by kernel_rfl) trivial ?_)
 refine K_seq ?_
 rcases ite_some H with ⟨hx384, H⟩ | ⟨hx384, H⟩
 · refine K_t (by kernel_rfl) (decide_eq_true hx384) ?_
   refine K_g (by kernel_rfl) ?_
   refine K_skip ?_
   refine K_seq ?_
   refine K_block ?_
   refine K_seq ?_
   obtain ⟨x385, hx385, H⟩ := bind_some' H
   refine K_r [.l [.list (x385.1.map (D.int .i64)), .list (x385.2.map (D.int .i64))]] [(0 : Int) ≤ x383.1 ∧ x383.1 < (((x24.map e_st2)).length : Int), ((x24.map e_st2).getD x383.1.toNat (.agg [(.list []), (.list [])])).cells = [.list (x385.1.map (D.int .i64)), .list (x385.2.map (D.int .i64))]] (by kernel_rfl) (AC (at_ok hx385 e_st2 (.agg [(.list []), (.list [])])).1 (A1 (at_ok hx385 e_st2 (.agg [(.list []), (.list [])])).2)) ?_
   refine K_seq ?_
   obtain ⟨x386, hx386, H⟩ := bind_some' H
   refine K_r [.r (.tup [(false, [.d (.list (x386.1.map e_st0))]), (false, [cI x386.2])]) []] [C_T_word_Region k x273 x274 x275 x276 x277 x278 x385.1 x385.2 x386] (by kernel_rfl) (A1 (T_word_Region_ok k x273 x274 x275 x276 x277 x278 x385.1 x385.2 x386 hx386)) ?_
   refine K_seq ?_
   obtain ⟨x387, hx387, H⟩ := bind_some' H
   refine K_r [.r (.tup [(false, [.d (.list (x387.1.map e_st0))]), (false, [cI x387.2])]) []] [C_T_ref19_Region k x273 x274 x275 x276 x277 x278 x385.1 x385.2 x387] (by kernel_rfl) (A1 (T_ref19_Region_ok k x273 x274 x275 x276 x277 x278 x385.1 x385.2 x387 hx387)) ?_
   refine K_seq ?_
   refine K_seq ?_
   obtain ⟨x393, hx393, H⟩ := bind_some' H
   refine K_of ⟨[(3, (I p11)), (11, (Pt 0)), (21, (.one (.d (.list (x24.map e_st2))))), (23, (Pt 1)), (25, (Pt 2)), (143, (.one (.d (.list (x25.map e_st1))))), (144, (I x26)), (145, (I x267)), (149, (.one (.d (.list (x24.map e_st2))))), (150, (I x269)), (151, (I x383.1)), (184, (B x393))], [.cells [cL x28, cI x383.2], .cells [cI x273, cI x274, cI x275, cI x276, cI x277, cL x278], .cells [cL x385.1, cL x385.2]]⟩ ?_ ?_
   · clear H; have H := hx393; clear hx393; refine K_in ?_
     obtain ⟨x388, hx388, H⟩ := bind_some' H
     obtain ⟨x389, hx389, H⟩ := bind_some' H
     rcases ite_some H with ⟨hx391, H⟩ | ⟨hx391, H⟩
     · refine K_r [.r (B x388) [], .r (B x389) [], .b true, .b true] [C_T_word_Valid k x273 x274 x275 x276 x277 x278 x385.1 x385.2 x388, C_T_ref19_Valid k x273 x274 x275 x276 x277 x278 x385.1 x385.2 x389, (!((x388 == x389) && true)) = true, true = true] (by kernel_rfl) (AC (T_word_Valid_ok k x273 x274 x275 x276 x277 x278 x385.1 x385.2 x388 hx388) (AC (T_ref19_Valid_ok k x273 x274 x275 x276 x277 x278 x385.1 x385.2 x389 hx389) (AC hx391 (A1 rfl)))) ?_
       cases H
       exact K_end (by kernel_rfl)
     · obtain ⟨x392, hx392, H⟩ := bind_some' H
       refine K_r [.r (B x388) [], .r (B x389) [], .b false, .r (B x392) [], .m] ((fun (z1 : Heap) => [C_T_word_Valid k x273 x274 x275 x276 x277 x278 x385.1 x385.2 x388, C_T_ref19_Valid k x273 x274 x275 x276 x277 x278 x385.1 x385.2 x389, (!((x388 == x389) && true)) = false, C_T_ref19_SameRegion k x386.1 x387.1 x392, z1 = z1]) [.cells [cL x28, cI x383.2], .cells [cI x273, cI x274, cI x275, cI x276, cI x277, cL x278], .cells [cL x385.1, cL x385.2]]) (by kernel_rfl) (AC (T_word_Valid_ok k x273 x274 x275 x276 x277 x278 x385.1 x385.2 x388 hx388) (AC (T_ref19_Valid_ok k x273 x274 x275 x276 x277 x278 x385.1 x385.2 x389 hx389) (AC (Bool.eq_false_iff.2 hx391) (AC (T_ref19_SameRegion_ok k x386.1 x387.1 x392 hx392) (A1 rfl))))) ?_
       cases H
       exact K_end (by kernel_rfl)
   rcases ite_some H with ⟨hx394, H⟩ | ⟨hx394, H⟩
   · refine K_t (by kernel_rfl) hx394 ?_
     refine K_seq (K_r [] [] (by kernel_rfl) trivial ?_)
     refine K_g (by kernel_rfl) ?_
     cases H
     exact K_ret (by kernel_rfl)
   · refine K_f (by kernel_rfl) (Bool.eq_false_iff.2 hx394) ?_
     refine K_g (by kernel_rfl) ?_
     refine K_skip ?_
     refine K_seq ?_
     refine K_seq ?_
     obtain ⟨x395, hx395, H⟩ := bind_some' H
     refine K_r [.r (I x395.1) [.cells [cL x28, cI x395.2]], .n ([p11, x395.1] : List Int).length] [C_T_keep_Src_Range k (-1) 8 x28 x383.2 x395, ((([p11, x395.1] : List Int).map (D.int .i64))).length = ([p11, x395.1] : List Int).length] (by kernel_rfl) (AC (T_keep_Src_Range_ok k (-1) 8 x28 x383.2 x395 hx395) (A1 (List.length_map _))) ?_
     refine K_block (K_conv (σ' := ⟨[(3, (I p11)), (11, (Pt 0)), (21, (.one (.d (.list (x24.map e_st2))))), (23, (Pt 1)), (25, (Pt 2)), (143, (.one (.d (.list (x25.map e_st1))))), (144, (I x26)), (145, (I x267)), (149, (.one (.d (.list (x24.map e_st2))))), (150, (I x269)), (151, (I x383.1)), (188, (LI ([p11, x395.1] : List Int))), (189, (I (([p11, x395.1] : List Int).length : Int))), (190, (I 0))], [.cells [cL x28, cI x395.2], .cells [cI x273, cI x274, cI x275, cI x276, cI x277, cL x278], .cells [cL x385.1, cL x385.2]]⟩) (by kernel_rfl) ?_)
     obtain ⟨x438, hx438, H⟩ := bind_some' H
     cases x438 with
     | inl x439 =>
      dsimp only at H
      refine K_loop ⟨[(3, (I p11)), (11, (Pt 0)), (21, (.one (.d (.list (x24.map e_st2))))), (23, (Pt 1)), (25, (Pt 2)), (143, (.one (.d (.list (x25.map e_st1))))), (144, (I x26)), (145, (I x267)), (149, (.one (.d (.list (x24.map e_st2))))), (150, (I x269)), (151, (I x383.1))], [.cells [cL x28, cI x395.2], .cells [cI x273, cI x274, cI x275, cI x276, cI x277, cL x278], .cells [cL x385.1, cL x385.2]]⟩ (loop_ok (fun (s : Int) => ⟨[(3, (I p11)), (11, (Pt 0)), (21, (.one (.d (.list (x24.map e_st2))))), (23, (Pt 1)), (25, (Pt 2)), (143, (.one (.d (.list (x25.map e_st1))))), (144, (I x26)), (145, (I x267)), (149, (.one (.d (.list (x24.map e_st2))))), (150, (I x269)), (151, (I x383.1)), (188, (LI ([p11, x395.1] : List Int))), (189, (I (([p11, x395.1] : List Int).length : Int))), (190, (I s))], [.cells [cL x28, cI x395.2], .cells [cI x273, cI x274, cI x275, cI x276, cI x277, cL x278], .cells [cL x385.1, cL x385.2]]⟩) (fun (r : Unit ⊕ Unit) => Sum.elim (fun y => (.exit 5, ⟨[(3, (I p11)), (11, (Pt 0)), (21, (.one (.d (.list (x24.map e_st2))))), (23, (Pt 1)), (25, (Pt 2)), (143, (.one (.d (.list (x25.map e_st1))))), (144, (I x26)), (145, (I x267)), (149, (.one (.d (.list (x24.map e_st2))))), (150, (I x269)), (151, (I x383.1))], [.cells [cL x28, cI x395.2], .cells [cI x273, cI x274, cI x275, cI x276, cI x277, cL x278], .cells [cL x385.1, cL x385.2]]⟩)) (fun y => (.ret, ⟨[(10, (B false))], []⟩)) r) (fun r h => by cases r <;> cases h) (T_law19_WordParts_l1_ok k p11 x24 x25 x26 x28 x267 x269 x273 x274 x275 x276 x277 x278 x383.1 ([p11, x395.1] : List Int) (([p11, x395.1] : List Int).length : Int) x395.2 x385.1 x385.2) k 0 (.inl x439) hx438) rfl ?_
      refine K_seq (K_r [.n x24.length] [((x24.map e_st2)).length = x24.length] (by kernel_rfl) (A1 (List.length_map _)) ?_)
      refine K_block (K_conv (σ' := ⟨[(3, (I p11)), (11, (Pt 0)), (21, (.one (.d (.list (x24.map e_st2))))), (23, (Pt 1)), (25, (Pt 2)), (143, (.one (.d (.list (x25.map e_st1))))), (144, (I x26)), (145, (I x267)), (149, (.one (.d (.list (x24.map e_st2))))), (150, (I x269)), (151, (I x383.1)), (226, (.one (.d (.list (x24.map e_st2))))), (227, (I (x24.length : Int))), (228, (I 0))], [.cells [cL x28, cI x395.2], .cells [cI x273, cI x274, cI x275, cI x276, cI x277, cL x278], .cells [cL x385.1, cL x385.2]]⟩) (by kernel_rfl) ?_)
      obtain ⟨x484, hx484, H⟩ := bind_some' H
      cases x484 with
      | inl x485 =>
       dsimp only at H
       refine K_loop ⟨[(3, (I p11)), (11, (Pt 0)), (21, (.one (.d (.list (x24.map e_st2))))), (23, (Pt 1)), (143, (.one (.d (.list (x25.map e_st1))))), (144, (I x26)), (145, (I x267)), (149, (.one (.d (.list (x24.map e_st2))))), (150, (I x269)), (151, (I x383.1))], [.cells [cL x28, cI x395.2], .cells [cI x273, cI x274, cI x275, cI x276, cI x277, cL x278]]⟩ (loop_ok (fun (s : Int) => ⟨[(3, (I p11)), (11, (Pt 0)), (21, (.one (.d (.list (x24.map e_st2))))), (23, (Pt 1)), (25, (Pt 2)), (143, (.one (.d (.list (x25.map e_st1))))), (144, (I x26)), (145, (I x267)), (149, (.one (.d (.list (x24.map e_st2))))), (150, (I x269)), (151, (I x383.1)), (226, (.one (.d (.list (x24.map e_st2))))), (227, (I (x24.length : Int))), (228, (I s))], [.cells [cL x28, cI x395.2], .cells [cI x273, cI x274, cI x275, cI x276, cI x277, cL x278], .cells [cL x385.1, cL x385.2]]⟩) (fun (r : Unit ⊕ Unit) => Sum.elim (fun y => (.exit 7, ⟨[(3, (I p11)), (11, (Pt 0)), (21, (.one (.d (.list (x24.map e_st2))))), (23, (Pt 1)), (143, (.one (.d (.list (x25.map e_st1))))), (144, (I x26)), (145, (I x267)), (149, (.one (.d (.list (x24.map e_st2))))), (150, (I x269)), (151, (I x383.1))], [.cells [cL x28, cI x395.2], .cells [cI x273, cI x274, cI x275, cI x276, cI x277, cL x278]]⟩)) (fun y => (.ret, ⟨[(10, (B false))], []⟩)) r) (fun r h => by cases r <;> cases h) (T_law19_WordParts_l2_ok k p11 x24 x25 x26 x28 x267 x269 x273 x274 x275 x276 x277 x278 x383.1 (x24.length : Int) x395.2 x385.1 x385.2) k 0 (.inl x485) hx484) rfl ?_
       refine K_blk (K_r [] [] (by kernel_rfl) trivial ?_)
       cases H
       exact K_end (by kernel_rfl)
      | inr x486 =>
       dsimp only at H
       cases H
       exact K_loopr ⟨[(10, (B false))], []⟩ (loop_ok (fun (s : Int) => ⟨[(3, (I p11)), (11, (Pt 0)), (21, (.one (.d (.list (x24.map e_st2))))), (23, (Pt 1)), (25, (Pt 2)), (143, (.one (.d (.list (x25.map e_st1))))), (144, (I x26)), (145, (I x267)), (149, (.one (.d (.list (x24.map e_st2))))), (150, (I x269)), (151, (I x383.1)), (226, (.one (.d (.list (x24.map e_st2))))), (227, (I (x24.length : Int))), (228, (I s))], [.cells [cL x28, cI x395.2], .cells [cI x273, cI x274, cI x275, cI x276, cI x277, cL x278], .cells [cL x385.1, cL x385.2]]⟩) (fun (r : Unit ⊕ Unit) => Sum.elim (fun y => (.exit 7, ⟨[(3, (I p11)), (11, (Pt 0)), (21, (.one (.d (.list (x24.map e_st2))))), (23, (Pt 1)), (143, (.one (.d (.list (x25.map e_st1))))), (144, (I x26)), (145, (I x267)), (149, (.one (.d (.list (x24.map e_st2))))), (150, (I x269)), (151, (I x383.1))], [.cells [cL x28, cI x395.2], .cells [cI x273, cI x274, cI x275, cI x276, cI x277, cL x278]]⟩)) (fun y => (.ret, ⟨[(10, (B false))], []⟩)) r) (fun r h => by cases r <;> cases h) (T_law19_WordParts_l2_ok k p11 x24 x25 x26 x28 x267 x269 x273 x274 x275 x276 x277 x278 x383.1 (x24.length : Int) x395.2 x385.1 x385.2) k 0 (.inr x486) hx484) (by kernel_rfl)
     | inr x487 =>
      dsimp only at H
      cases H
      exact K_loopr ⟨[(10, (B false))], []⟩ (loop_ok (fun (s : Int) => ⟨[(3, (I p11)), (11, (Pt 0)), (21, (.one (.d (.list (x24.map e_st2))))), (23, (Pt 1)), (25, (Pt 2)), (143, (.one (.d (.list (x25.map e_st1))))), (144, (I x26)), (145, (I x267)), (149, (.one (.d (.list (x24.map e_st2))))), (150, (I x269)), (151, (I x383.1)), (188, (LI ([p11, x395.1] : List Int))), (189, (I (([p11, x395.1] : List Int).length : Int))), (190, (I s))], [.cells [cL x28, cI x395.2], .cells [cI x273, cI x274, cI x275, cI x276, cI x277, cL x278], .cells [cL x385.1, cL x385.2]]⟩) (fun (r : Unit ⊕ Unit) => Sum.elim (fun y => (.exit 5, ⟨[(3, (I p11)), (11, (Pt 0)), (21, (.one (.d (.list (x24.map e_st2))))), (23, (Pt 1)), (25, (Pt 2)), (143, (.one (.d (.list (x25.map e_st1))))), (144, (I x26)), (145, (I x267)), (149, (.one (.d (.list (x24.map e_st2))))), (150, (I x269)), (151, (I x383.1))], [.cells [cL x28, cI x395.2], .cells [cI x273, cI x274, cI x275, cI x276, cI x277, cL x278], .cells [cL x385.1, cL x385.2]]⟩)) (fun y => (.ret, ⟨[(10, (B false))], []⟩)) r) (fun r h => by cases r <;> cases h) (T_law19_WordParts_l1_ok k p11 x24 x25 x26 x28 x267 x269 x273 x274 x275 x276 x277 x278 x383.1 ([p11, x395.1] : List Int) (([p11, x395.1] : List Int).length : Int) x395.2 x385.1 x385.2) k 0 (.inr x487) hx438) (by kernel_rfl)
 · refine K_f (by kernel_rfl) (decide_eq_false hx384) ?_
   refine K_g (by kernel_rfl) ?_
   cases H
   exact K_exit0 rfl (by kernel_rfl)
def T_law19_WordParts_l4 (k : Nat) (p11 : Int) (x24 : List ((List Int) × (List Int))) (x25 : List (Int × Int × Int × Int × Int × (List Int))) (x26 : Int) (x28 : List Int) (x260 : Int × Int) : Option ((Int × Int) ⊕ (Unit ⊕ Unit)) :=
 (if x260.1 < x26 then ((at? x25 x260.1).bind fun x262 => (loopT (T_law19_WordParts_l3 k p11 x24 x25 x26 x28 x260.1 (x24.length : Int) x262.1 x262.2.1 x262.2.2.1 x262.2.2.2.1 x262.2.2.2.2.1 x262.2.2.2.2.2) k (0, x260.2)).bind fun x488 => (match x488 with | .inl x489 => some (.inl ((w64 (x260.1 + 1)), x489)) | .inr x490 => some (.inr (.inr ())))) else some (.inr (.inl ())))
theorem T_law19_WordParts_l4_ok (k : Nat) (p11 : Int) (x24 : List ((List Int) × (List Int))) (x25 : List (Int × Int × Int × Int × Int × (List Int))) (x26 : Int) (x28 : List Int) : ∀ (x260 : Int × Int) (x : (Int × Int) ⊕ (Unit ⊕ Unit)), T_law19_WordParts_l4 k p11 x24 x25 x26 x28 x260 = some x → evC X (evF X k) k 0 l_law19_WordParts_4 ⟨[(3, (I p11)), (11, (Pt 0)), (21, (.one (.d (.list (x24.map e_st2))))), (143, (.one (.d (.list (x25.map e_st1))))), (144, (I x26)), (145, (I x260.1))], [.cells [cL x28, cI x260.2]]⟩ = some (outS (fun (s : Int × Int) => ⟨[(3, (I p11)), (11, (Pt 0)), (21, (.one (.d (.list (x24.map e_st2))))), (143, (.one (.d (.list (x25.map e_st1))))), (144, (I x26)), (145, (I s.1))], [.cells [cL x28, cI s.2]]⟩) (fun (r : Unit ⊕ Unit) => Sum.elim (fun y => (.exit 1, ⟨[], []⟩)) (fun y => (.ret, ⟨[(10, (B false))], []⟩)) r) x) := by
 intro x260 x H
 unfold T_law19_WordParts_l4 at H
 refine K_in ?_
 refine K_seq (K_r [] [] (by kernel_rfl) trivial ?_)
 refine K_seq ?_
 rcases ite_some H with ⟨hx261, H⟩ | ⟨hx261, H⟩
 · refine K_t (by kernel_rfl) (decide_eq_true hx261) ?_
   refine K_g (by kernel_rfl) ?_
   refine K_skip ?_
   refine K_seq ?_
   refine K_block ?_
   refine K_seq ?_
   obtain ⟨x262, hx262, H⟩ := bind_some' H
   refine K_r [.l [.int .i64 x262.1, .int .i64 x262.2.1, .int .i64 x262.2.2.1, .int .i64 x262.2.2.2.1, .int .i64 x262.2.2.2.2.1, .list (x262.2.2.2.2.2.map (D.int .i64))]] [(0 : Int) ≤ x260.1 ∧ x260.1 < (((x25.map e_st1)).length : Int), ((x25.map e_st1).getD x260.1.toNat (.agg [(.int .i64 0), (.int .i64 0), (.int .i64 0), (.int .i64 0), (.int .i64 0), (.list [])])).cells = [.int .i64 x262.1, .int .i64 x262.2.1, .int .i64 x262.2.2.1, .int .i64 x262.2.2.2.1, .int .i64 x262.2.2.2.2.1, .list (x262.2.2.2.2.2.map (D.int .i64))]] (by kernel_rfl) (AC (at_ok hx262 e_st1 (.agg [(.int .i64 0), (.int .i64 0), (.int .i64 0), (.int .i64 0), (.int .i64 0), (.list [])])).1 (A1 (at_ok hx262 e_st1 (.agg [(.int .i64 0), (.int .i64 0), (.int .i64 0), (.int .i64 0), (.int .i64 0), (.list [])])).2)) ?_
   refine K_seq (K_r [.n x24.length] [((x24.map e_st2)).length = x24.length] (by kernel_rfl) (A1 (List.length_map _)) ?_)
   refine K_block (K_conv (σ' := ⟨[(3, (I p11)), (11, (Pt 0)), (21, (.one (.d (.list (x24.map e_st2))))), (23, (Pt 1)), (143, (.one (.d (.list (x25.map e_st1))))), (144, (I x26)), (145, (I x260.1)), (149, (.one (.d (.list (x24.map e_st2))))), (150, (I (x24.length : Int))), (151, (I 0))], [.cells [cL x28, cI x260.2], .cells [cI x262.1, cI x262.2.1, cI x262.2.2.1, cI x262.2.2.2.1, cI x262.2.2.2.2.1, cL x262.2.2.2.2.2]]⟩) (by kernel_rfl) ?_)
   obtain ⟨x488, hx488, H⟩ := bind_some' H
   cases x488 with
   | inl x489 =>
    dsimp only at H
    refine K_loop ⟨[(3, (I p11)), (11, (Pt 0)), (21, (.one (.d (.list (x24.map e_st2))))), (143, (.one (.d (.list (x25.map e_st1))))), (144, (I x26)), (145, (I x260.1))], [.cells [cL x28, cI x489]]⟩ (loop_ok (fun (s : Int × Int) => ⟨[(3, (I p11)), (11, (Pt 0)), (21, (.one (.d (.list (x24.map e_st2))))), (23, (Pt 1)), (143, (.one (.d (.list (x25.map e_st1))))), (144, (I x26)), (145, (I x260.1)), (149, (.one (.d (.list (x24.map e_st2))))), (150, (I (x24.length : Int))), (151, (I s.1))], [.cells [cL x28, cI s.2], .cells [cI x262.1, cI x262.2.1, cI x262.2.2.1, cI x262.2.2.2.1, cI x262.2.2.2.2.1, cL x262.2.2.2.2.2]]⟩) (fun (r : Int ⊕ Unit) => Sum.elim (fun y => (.exit 3, ⟨[(3, (I p11)), (11, (Pt 0)), (21, (.one (.d (.list (x24.map e_st2))))), (143, (.one (.d (.list (x25.map e_st1))))), (144, (I x26)), (145, (I x260.1))], [.cells [cL x28, cI y]]⟩)) (fun y => (.ret, ⟨[(10, (B false))], []⟩)) r) (fun r h => by cases r <;> cases h) (T_law19_WordParts_l3_ok k p11 x24 x25 x26 x28 x260.1 (x24.length : Int) x262.1 x262.2.1 x262.2.2.1 x262.2.2.2.1 x262.2.2.2.2.1 x262.2.2.2.2.2) k (0, x260.2) (.inl x489) hx488) rfl ?_
    refine K_blk (K_r [] [] (by kernel_rfl) trivial ?_)
    cases H
    exact K_end (by kernel_rfl)
   | inr x490 =>
    dsimp only at H
    cases H
    exact K_loopr ⟨[(10, (B false))], []⟩ (loop_ok (fun (s : Int × Int) => ⟨[(3, (I p11)), (11, (Pt 0)), (21, (.one (.d (.list (x24.map e_st2))))), (23, (Pt 1)), (143, (.one (.d (.list (x25.map e_st1))))), (144, (I x26)), (145, (I x260.1)), (149, (.one (.d (.list (x24.map e_st2))))), (150, (I (x24.length : Int))), (151, (I s.1))], [.cells [cL x28, cI s.2], .cells [cI x262.1, cI x262.2.1, cI x262.2.2.1, cI x262.2.2.2.1, cI x262.2.2.2.2.1, cL x262.2.2.2.2.2]]⟩) (fun (r : Int ⊕ Unit) => Sum.elim (fun y => (.exit 3, ⟨[(3, (I p11)), (11, (Pt 0)), (21, (.one (.d (.list (x24.map e_st2))))), (143, (.one (.d (.list (x25.map e_st1))))), (144, (I x26)), (145, (I x260.1))], [.cells [cL x28, cI y]]⟩)) (fun y => (.ret, ⟨[(10, (B false))], []⟩)) r) (fun r h => by cases r <;> cases h) (T_law19_WordParts_l3_ok k p11 x24 x25 x26 x28 x260.1 (x24.length : Int) x262.1 x262.2.1 x262.2.2.1 x262.2.2.2.1 x262.2.2.2.2.1 x262.2.2.2.2.2) k (0, x260.2) (.inr x490) hx488) (by kernel_rfl)
 · refine K_f (by kernel_rfl) (decide_eq_false hx261) ?_
   refine K_g (by kernel_rfl) ?_
   cases H
   exact K_exit0 rfl (by kernel_rfl)
def T_law19_WordParts (k : Nat) (p1 : Int) (p2 : Int) (p3 : Int) (p4 : Int) (p5 : Int) (p6 : List Int) (p7 : List Int) (p8 : List Int) (p9 : List Int) (p10 : List Int) (p11 : Int) (p12 : List Int) : Option Bool := match k with
 | 0 => none
 | k + 1 => (if ((((decide (40 < (p6.length : Int)) || decide (20 < (p8.length : Int))) || decide (20 < (p7.length : Int))) || decide (20 < (p10.length : Int))) || decide (20 < (p9.length : Int))) = true then ((T_law19_awake k).bind fun x2 => some x2) else ((T_keep_New k p12).bind fun x3 => (T_keep_Src_Scheme k ((p12.drop 0).take ((imin (p12.length : Int) 2000).toNat - 0)) 0).bind fun x4 => (T_keep_Src_List k x4.2.2.2.1 ((p12.drop 0).take ((imin (p12.length : Int) 2000).toNat - 0)) x4.2.2.2.2.2.2).bind fun x5 => (T_ref19_Of k x4.1 x4.2.1 x4.2.2.1 x4.2.2.2.1 x4.2.2.2.2.1 x4.2.2.2.2.2.1 x5.1).bind fun x6 => (T_keep_Src_List k x4.2.2.2.1 ((p12.drop 0).take ((imin (p12.length : Int) 2000).toNat - 0)) x5.2).bind fun x7 => (T_ref19_Of k x4.1 x4.2.1 x4.2.2.1 x4.2.2.2.1 x4.2.2.2.2.1 x4.2.2.2.2.2.1 x7.1).bind fun x8 => (T_keep_Src_Word k x4.1 x4.2.1 x4.2.2.1 x4.2.2.2.1 x4.2.2.2.2.1 x4.2.2.2.2.2.1 ((p12.drop 0).take ((imin (p12.length : Int) 2000).toNat - 0)) x7.2).bind fun x9 => (T_keep_Src_Upper k x6.1 x6.2.1 ((p12.drop 0).take ((imin (p12.length : Int) 2000).toNat - 0)) x9.2.2.1).bind fun x10 => (T_keep_Src_Word k x4.1 x4.2.1 x4.2.2.1 x4.2.2.2.1 x4.2.2.2.2.1 x4.2.2.2.2.2.1 ((p12.drop 0).take ((imin (p12.length : Int) 2000).toNat - 0)) x10.2.2).bind fun x11 => (T_keep_Src_N k ((x11.2.1 : Nat) : Int) ((p12.drop 0).take ((imin (p12.length : Int) 2000).toNat - 0)) x11.2.2.1).bind fun x12 => (T_keep_Src_N k 3 ((p12.drop 0).take ((imin (p12.length : Int) 2000).toNat - 0)) x12.2).bind fun x13 => ((if x13.1 = 0 then (T_keep_Src_Pick k ([(-1), 5, 0, 4] : List Int) ((p12.drop 0).take ((imin (p12.length : Int) 2000).toNat - 0)) x13.2).bind fun x15 => (if (0 : Int) ≤ x12.1 ∧ x12.1 < ((x11.2.1 : Nat) : Int) then some (x15.2, x11.1, x11.2.2.2.1, (x11.2.2.2.2.set (0 + x12.1.toNat) x15.1)) else none) else (if x13.1 = 1 then (T_keep_Src_Pick k ([(-1), 16, 1, 15] : List Int) ((p12.drop 0).take ((imin (p12.length : Int) 2000).toNat - 0)) x13.2).bind fun x18 => (if (0 : Int) ≤ x12.1 ∧ x12.1 < ((x11.1 : Nat) : Int) then some (x18.2, x11.1, (x11.2.2.2.1.set (0 + x12.1.toNat) x18.1), x11.2.2.2.2) else none) else (if x11.1 + 1 ≤ LIM then some (x13.2, (x11.1 + 1), ((x11.2.2.2.1.drop 0).take x11.1 ++ ([0] : List Int)), x11.2.2.2.2) else none)))).bind fun x21 => (T_keep_Src_Queer k x4.1 x4.2.1 x4.2.2.1 x4.2.2.2.1 x4.2.2.2.2.1 x4.2.2.2.2.2.1 ((p12.drop 0).take ((imin (p12.length : Int) 2000).toNat - 0)) x21.1).bind fun x22 => (loopT (T_law19_WordParts_l4 k p11 ([(p7, p8), (p9, p10), (x6.1, x6.2.1), (x8.1, x8.2.1), (((x9.2.2.2.1.drop 0).take x9.1), ((x9.2.2.2.2.drop 0).take x9.2.1)), (x10.1, x10.2.1), (((x21.2.2.1.drop 0).take x21.2.1), ((x21.2.2.2.drop 0).take x11.2.1))] : List ((List Int) × (List Int))) ([(p1, p2, p3, p4, p5, p6), (x4.1, x4.2.1, x4.2.2.1, x4.2.2.2.1, x4.2.2.2.2.1, x4.2.2.2.2.2.1), (x22.1, x22.2.1, x22.2.2.1, x22.2.2.2.1, x22.2.2.2.2.1, x22.2.2.2.2.2.1)] : List (Int × Int × Int × Int × Int × (List Int))) (([(p1, p2, p3, p4, p5, p6), (x4.1, x4.2.1, x4.2.2.1, x4.2.2.2.1, x4.2.2.2.2.1, x4.2.2.2.2.2.1), (x22.1, x22.2.1, x22.2.2.1, x22.2.2.2.1, x22.2.2.2.2.1, x22.2.2.2.2.2.1)] : List (Int × Int × Int × Int × Int × (List Int))).length : Int) ((p12.drop 0).take ((imin (p12.length : Int) 2000).toNat - 0))) k (0, x22.2.2.2.2.2.2)).bind fun x491 => (match x491 with | .inl x492 => ((T_law19_awake k).bind fun x493 => some x493) | .inr x494 => some false)))
abbrev C_T_law19_WordParts (k : Nat) (p1 : Int) (p2 : Int) (p3 : Int) (p4 : Int) (p5 : Int) (p6 : List Int) (p7 : List Int) (p8 : List Int) (p9 : List Int) (p10 : List Int) (p11 : Int) (p12 : List Int) (r : Bool) : Prop := evF X k n_law19_WordParts [(.agg [cI p1, cI p2, cI p3, cI p4, cI p5, cL p6]), (.agg [cL p7, cL p8]), (.agg [cL p9, cL p10]), (I p11), (LI p12)] [] = some ((B r), [])
theorem T_law19_WordParts_ok (k : Nat) (p1 : Int) (p2 : Int) (p3 : Int) (p4 : Int) (p5 : Int) (p6 : List Int) (p7 : List Int) (p8 : List Int) (p9 : List Int) (p10 : List Int) (p11 : Int) (p12 : List Int) (r : Bool) : T_law19_WordParts k p1 p2 p3 p4 p5 p6 p7 p8 p9 p10 p11 p12 = some r → C_T_law19_WordParts k p1 p2 p3 p4 p5 p6 p7 p8 p9 p10 p11 p12 r := by
 intro H
 cases k with
 | zero => simp [T_law19_WordParts] at H
 | succ k =>
  simp only [T_law19_WordParts] at H
  refine F_in X_law19_WordParts rfl ?_
  refine K_seq (K_r [] [] (by kernel_rfl) trivial ?_)
  refine K_seq (K_seq (K_g (by kernel_rfl) ?_))
  refine K_r [.n p6.length, .m, .n p8.length, .m, .n p7.length, .m, .n p10.length, .m, .n p9.length] [((p6.map (D.int .i64))).length = p6.length, decide (40 < (p6.length : Int)) = false → AllT [((p8.map (D.int .i64))).length = p8.length], ([] : Heap) = [], (decide (40 < (p6.length : Int)) || decide (20 < (p8.length : Int))) = false → AllT [((p7.map (D.int .i64))).length = p7.length], ([] : Heap) = [], ((decide (40 < (p6.length : Int)) || decide (20 < (p8.length : Int))) || decide (20 < (p7.length : Int))) = false → AllT [((p10.map (D.int .i64))).length = p10.length], ([] : Heap) = [], (((decide (40 < (p6.length : Int)) || decide (20 < (p8.length : Int))) || decide (20 < (p7.length : Int))) || decide (20 < (p10.length : Int))) = false → AllT [((p9.map (D.int .i64))).length = p9.length], ([] : Heap) = []] (by kernel_rfl) (AC (List.length_map _) (AC (fun _ => (A1 (List.length_map _))) (AC rfl (AC (fun _ => (A1 (List.length_map _))) (AC rfl (AC (fun _ => (A1 (List.length_map _))) (AC rfl (AC (fun _ => (A1 (List.length_map _))) (A1 rfl))))))))) ?_
  rcases ite_some H with ⟨hx1, H⟩ | ⟨hx1, H⟩
  · refine K_t (by kernel_rfl) hx1 ?_
    refine K_seq ?_
    obtain ⟨x2, hx2, H⟩ := bind_some' H
    refine K_r [.r (B x2) []] [C_T_law19_awake k x2] (by kernel_rfl) (A1 (T_law19_awake_ok k x2 hx2)) ?_
    refine K_g (by kernel_rfl) ?_
    cases H
    refine K_ret ?_
    kernel_rfl
  · refine K_f (by kernel_rfl) (Bool.eq_false_iff.2 hx1) ?_
    refine K_g (by kernel_rfl) ?_
    refine K_skip ?_
    refine K_seq ?_
    obtain ⟨x3, hx3, H⟩ := bind_some' H
    refine K_r [.r (Pt 0) [.cells [cL ((p12.drop 0).take ((imin (p12.length : Int) 2000).toNat - 0)), cI 0]]] [C_T_keep_New k p12 x3] (by kernel_rfl) (A1 (T_keep_New_ok k p12 x3 hx3)) ?_
    refine K_seq ?_
    obtain ⟨x4, hx4, H⟩ := bind_some' H
    refine K_r [.r (.agg [cI x4.1, cI x4.2.1, cI x4.2.2.1, cI x4.2.2.2.1, cI x4.2.2.2.2.1, cL x4.2.2.2.2.2.1]) [.cells [cL ((p12.drop 0).take ((imin (p12.length : Int) 2000).toNat - 0)), cI x4.2.2.2.2.2.2]]] [C_T_keep_Src_Scheme k ((p12.drop 0).take ((imin (p12.length : Int) 2000).toNat - 0)) 0 x4] (by kernel_rfl) (A1 (T_keep_Src_Scheme_ok k ((p12.drop 0).take ((imin (p12.length : Int) 2000).toNat - 0)) 0 x4 hx4)) ?_
    refine K_seq (K_g (by kernel_rfl) ?_)
    obtain ⟨x5, hx5, H⟩ := bind_some' H
    obtain ⟨x6, hx6, H⟩ := bind_some' H
    refine K_rD [.r (LI x5.1) [.cells [cL ((p12.drop 0).take ((imin (p12.length : Int) 2000).toNat - 0)), cI x5.2]], .r (.tup [(true, [cL x6.1, cL x6.2.1]), (false, [cI x6.2.2])]) [], .r (LI x5.1) [.cells [cL ((p12.drop 0).take ((imin (p12.length : Int) 2000).toNat - 0)), cI x5.2]], .r (.tup [(true, [cL x6.1, cL x6.2.1]), (false, [cI x6.2.2])]) []] ((fun (z1 : St) => [C_T_keep_Src_List k x4.2.2.2.1 ((p12.drop 0).take ((imin (p12.length : Int) 2000).toNat - 0)) x4.2.2.2.2.2.2 x5, C_T_ref19_Of k x4.1 x4.2.1 x4.2.2.1 x4.2.2.2.1 x4.2.2.2.2.1 x4.2.2.2.2.2.1 x5.1 x6, C_T_keep_Src_List k x4.2.2.2.1 ((p12.drop 0).take ((imin (p12.length : Int) 2000).toNat - 0)) x4.2.2.2.2.2.2 x5, C_T_ref19_Of k x4.1 x4.2.1 x4.2.2.1 x4.2.2.2.1 x4.2.2.2.2.1 x4.2.2.2.2.2.1 x5.1 x6, z1 = z1]) (⟨[(3, (I p11)), (5, (.one (.d (.ref [.int .i64 p1, .int .i64 p2, .int .i64 p3, .int .i64 p4, .int .i64 p5, .list (p6.map (D.int .i64))])))), (6, (.one (.d (.ref [.list (p7.map (D.int .i64)), .list (p8.map (D.int .i64))])))), (7, (.one (.d (.ref [.list (p9.map (D.int .i64)), .list (p10.map (D.int .i64))])))), (11, (Pt 0)), (12, (.one (.d (.ref [.int .i64 x4.1, .int .i64 x4.2.1, .int .i64 x4.2.2.1, .int .i64 x4.2.2.2.1, .int .i64 x4.2.2.2.2.1, .list (x4.2.2.2.2.2.1.map (D.int .i64))])))), (13, (Pt 1))], [.cells [cL ((p12.drop 0).take ((imin (p12.length : Int) 2000).toNat - 0)), cI x5.2], .cells [cL x6.1, cL x6.2.1]]⟩)) (by kernel_rfl) (AC (T_keep_Src_List_ok k x4.2.2.2.1 ((p12.drop 0).take ((imin (p12.length : Int) 2000).toNat - 0)) x4.2.2.2.2.2.2 x5 hx5) (AC (T_ref19_Of_ok k x4.1 x4.2.1 x4.2.2.1 x4.2.2.2.1 x4.2.2.2.2.1 x4.2.2.2.2.2.1 x5.1 x6 hx6) (AC (T_keep_Src_List_ok k x4.2.2.2.1 ((p12.drop 0).take ((imin (p12.length : Int) 2000).toNat - 0)) x4.2.2.2.2.2.2 x5 hx5) (AC (T_ref19_Of_ok k x4.1 x4.2.1 x4.2.2.1 x4.2.2.2.1 x4.2.2.2.2.1 x4.2.2.2.2.2.1 x5.1 x6 hx6) (A1 rfl))))) ?_
    refine K_seq ?_
    obtain ⟨x7, hx7, H⟩ := bind_some' H
    obtain ⟨x8, hx8, H⟩ := bind_some' H
    refine K_rD [.r (LI x7.1) [.cells [cL ((p12.drop 0).take ((imin (p12.length : Int) 2000).toNat - 0)), cI x7.2]], .r (.tup [(true, [cL x8.1, cL x8.2.1]), (false, [cI x8.2.2])]) [], .r (LI x7.1) [.cells [cL ((p12.drop 0).take ((imin (p12.length : Int) 2000).toNat - 0)), cI x7.2]], .r (.tup [(true, [cL x8.1, cL x8.2.1]), (false, [cI x8.2.2])]) []] ((fun (z1 : St) => [C_T_keep_Src_List k x4.2.2.2.1 ((p12.drop 0).take ((imin (p12.length : Int) 2000).toNat - 0)) x5.2 x7, C_T_ref19_Of k x4.1 x4.2.1 x4.2.2.1 x4.2.2.2.1 x4.2.2.2.2.1 x4.2.2.2.2.2.1 x7.1 x8, C_T_keep_Src_List k x4.2.2.2.1 ((p12.drop 0).take ((imin (p12.length : Int) 2000).toNat - 0)) x5.2 x7, C_T_ref19_Of k x4.1 x4.2.1 x4.2.2.1 x4.2.2.2.1 x4.2.2.2.2.1 x4.2.2.2.2.2.1 x7.1 x8, z1 = z1]) (⟨[(3, (I p11)), (5, (.one (.d (.ref [.int .i64 p1, .int .i64 p2, .int .i64 p3, .int .i64 p4, .int .i64 p5, .list (p6.map (D.int .i64))])))), (6, (.one (.d (.ref [.list (p7.map (D.int .i64)), .list (p8.map (D.int .i64))])))), (7, (.one (.d (.ref [.list (p9.map (D.int .i64)), .list (p10.map (D.int .i64))])))), (11, (Pt 0)), (12, (.one (.d (.ref [.int .i64 x4.1, .int .i64 x4.2.1, .int .i64 x4.2.2.1, .int .i64 x4.2.2.2.1, .int .i64 x4.2.2.2.2.1, .list (x4.2.2.2.2.2.1.map (D.int .i64))])))), (13, (Pt 1)), (15, (Pt 2))], [.cells [cL ((p12.drop 0).take ((imin (p12.length : Int) 2000).toNat - 0)), cI x7.2], .cells [cL x6.1, cL x6.2.1], .cells [cL x8.1, cL x8.2.1]]⟩)) (by kernel_rfl) (AC (T_keep_Src_List_ok k x4.2.2.2.1 ((p12.drop 0).take ((imin (p12.length : Int) 2000).toNat - 0)) x5.2 x7 hx7) (AC (T_ref19_Of_ok k x4.1 x4.2.1 x4.2.2.1 x4.2.2.2.1 x4.2.2.2.2.1 x4.2.2.2.2.2.1 x7.1 x8 hx8) (AC (T_keep_Src_List_ok k x4.2.2.2.1 ((p12.drop 0).take ((imin (p12.length : Int) 2000).toNat - 0)) x5.2 x7 hx7) (AC (T_ref19_Of_ok k x4.1 x4.2.1 x4.2.2.1 x4.2.2.2.1 x4.2.2.2.2.1 x4.2.2.2.2.2.1 x7.1 x8 hx8) (A1 rfl))))) ?_
    refine K_seq (K_g (by kernel_rfl) ?_)
    obtain ⟨x9, hx9, H⟩ := bind_some' H
    obtain ⟨x10, hx10, H⟩ := bind_some' H
    refine K_rD [.r (.agg [.own 1 0 x9.1, .own 2 0 x9.2.1]) [.cells [cL ((p12.drop 0).take ((imin (p12.length : Int) 2000).toNat - 0)), cI x9.2.2.1], VI x9.2.2.2.1, VI x9.2.2.2.2], .r (.agg [cL x10.1, cL x10.2.1]) [.cells [cL ((p12.drop 0).take ((imin (p12.length : Int) 2000).toNat - 0)), cI x10.2.2]], .r (.agg [cL x10.1, cL x10.2.1]) [.cells [cL ((p12.drop 0).take ((imin (p12.length : Int) 2000).toNat - 0)), cI x10.2.2]], .r (.agg [cL x10.1, cL x10.2.1]) [.cells [cL ((p12.drop 0).take ((imin (p12.length : Int) 2000).toNat - 0)), cI x10.2.2]], .r (.agg [cL x10.1, cL x10.2.1]) [.cells [cL ((p12.drop 0).take ((imin (p12.length : Int) 2000).toNat - 0)), cI x10.2.2]], .r (.agg [cL x10.1, cL x10.2.1]) [.cells [cL ((p12.drop 0).take ((imin (p12.length : Int) 2000).toNat - 0)), cI x10.2.2]], .r (.agg [.own 1 0 x9.1, .own 2 0 x9.2.1]) [.cells [cL ((p12.drop 0).take ((imin (p12.length : Int) 2000).toNat - 0)), cI x9.2.2.1], VI x9.2.2.2.1, VI x9.2.2.2.2], .r (.agg [cL x10.1, cL x10.2.1]) [.cells [cL ((p12.drop 0).take ((imin (p12.length : Int) 2000).toNat - 0)), cI x10.2.2]], .r (.agg [cL x10.1, cL x10.2.1]) [.cells [cL ((p12.drop 0).take ((imin (p12.length : Int) 2000).toNat - 0)), cI x10.2.2]], .r (.agg [.own 1 0 x9.1, .own 2 0 x9.2.1]) [.cells [cL ((p12.drop 0).take ((imin (p12.length : Int) 2000).toNat - 0)), cI x9.2.2.1], VI x9.2.2.2.1, VI x9.2.2.2.2], .r (.agg [cL x10.1, cL x10.2.1]) [.cells [cL ((p12.drop 0).take ((imin (p12.length : Int) 2000).toNat - 0)), cI x10.2.2]], .r (.agg [.own 1 0 x9.1, .own 2 0 x9.2.1]) [.cells [cL ((p12.drop 0).take ((imin (p12.length : Int) 2000).toNat - 0)), cI x9.2.2.1], VI x9.2.2.2.1, VI x9.2.2.2.2], .r (.agg [cL x10.1, cL x10.2.1]) [.cells [cL ((p12.drop 0).take ((imin (p12.length : Int) 2000).toNat - 0)), cI x10.2.2]], .r (.agg [cL x10.1, cL x10.2.1]) [.cells [cL ((p12.drop 0).take ((imin (p12.length : Int) 2000).toNat - 0)), cI x10.2.2]], .r (.agg [.own 1 0 x9.1, .own 2 0 x9.2.1]) [.cells [cL ((p12.drop 0).take ((imin (p12.length : Int) 2000).toNat - 0)), cI x9.2.2.1], VI x9.2.2.2.1, VI x9.2.2.2.2], .r (.agg [cL x10.1, cL x10.2.1]) [.cells [cL ((p12.drop 0).take ((imin (p12.length : Int) 2000).toNat - 0)), cI x10.2.2]]] ((fun (z1 : St) => [C_T_keep_Src_Word k x4.1 x4.2.1 x4.2.2.1 x4.2.2.2.1 x4.2.2.2.2.1 x4.2.2.2.2.2.1 ((p12.drop 0).take ((imin (p12.length : Int) 2000).toNat - 0)) x7.2 x9, C_T_keep_Src_Upper k x6.1 x6.2.1 ((p12.drop 0).take ((imin (p12.length : Int) 2000).toNat - 0)) x9.2.2.1 x10, z1 = z1, C_T_keep_Src_Upper k x6.1 x6.2.1 ((p12.drop 0).take ((imin (p12.length : Int) 2000).toNat - 0)) x9.2.2.1 x10, C_T_keep_Src_Upper k x6.1 x6.2.1 ((p12.drop 0).take ((imin (p12.length : Int) 2000).toNat - 0)) x9.2.2.1 x10, z1 = z1, z1 = z1, C_T_keep_Src_Upper k x6.1 x6.2.1 ((p12.drop 0).take ((imin (p12.length : Int) 2000).toNat - 0)) x9.2.2.1 x10, C_T_keep_Src_Upper k x6.1 x6.2.1 ((p12.drop 0).take ((imin (p12.length : Int) 2000).toNat - 0)) x9.2.2.1 x10, z1 = z1, z1 = z1, C_T_keep_Src_Word k x4.1 x4.2.1 x4.2.2.1 x4.2.2.2.1 x4.2.2.2.2.1 x4.2.2.2.2.2.1 ((p12.drop 0).take ((imin (p12.length : Int) 2000).toNat - 0)) x7.2 x9, C_T_keep_Src_Upper k x6.1 x6.2.1 ((p12.drop 0).take ((imin (p12.length : Int) 2000).toNat - 0)) x9.2.2.1 x10, C_T_keep_Src_Upper k x6.1 x6.2.1 ((p12.drop 0).take ((imin (p12.length : Int) 2000).toNat - 0)) x9.2.2.1 x10, z1 = z1, C_T_keep_Src_Word k x4.1 x4.2.1 x4.2.2.1 x4.2.2.2.1 x4.2.2.2.2.1 x4.2.2.2.2.2.1 ((p12.drop 0).take ((imin (p12.length : Int) 2000).toNat - 0)) x7.2 x9, C_T_keep_Src_Upper k x6.1 x6.2.1 ((p12.drop 0).take ((imin (p12.length : Int) 2000).toNat - 0)) x9.2.2.1 x10, z1 = z1, z1 = z1, C_T_keep_Src_Word k x4.1 x4.2.1 x4.2.2.1 x4.2.2.2.1 x4.2.2.2.2.1 x4.2.2.2.2.2.1 ((p12.drop 0).take ((imin (p12.length : Int) 2000).toNat - 0)) x7.2 x9, C_T_keep_Src_Upper k x6.1 x6.2.1 ((p12.drop 0).take ((imin (p12.length : Int) 2000).toNat - 0)) x9.2.2.1 x10, C_T_keep_Src_Upper k x6.1 x6.2.1 ((p12.drop 0).take ((imin (p12.length : Int) 2000).toNat - 0)) x9.2.2.1 x10, z1 = z1, C_T_keep_Src_Word k x4.1 x4.2.1 x4.2.2.1 x4.2.2.2.1 x4.2.2.2.2.1 x4.2.2.2.2.2.1 ((p12.drop 0).take ((imin (p12.length : Int) 2000).toNat - 0)) x7.2 x9, C_T_keep_Src_Upper k x6.1 x6.2.1 ((p12.drop 0).take ((imin (p12.length : Int) 2000).toNat - 0)) x9.2.2.1 x10, z1 = z1, z1 = z1]) (⟨[(3, (I p11)), (5, (.one (.d (.ref [.int .i64 p1, .int .i64 p2, .int .i64 p3, .int .i64 p4, .int .i64 p5, .list (p6.map (D.int .i64))])))), (6, (.one (.d (.ref [.list (p7.map (D.int .i64)), .list (p8.map (D.int .i64))])))), (7, (.one (.d (.ref [.list (p9.map (D.int .i64)), .list (p10.map (D.int .i64))])))), (11, (Pt 0)), (12, (.one (.d (.ref [.int .i64 x4.1, .int .i64 x4.2.1, .int .i64 x4.2.2.1, .int .i64 x4.2.2.2.1, .int .i64 x4.2.2.2.2.1, .list (x4.2.2.2.2.2.1.map (D.int .i64))])))), (13, (.one (.d (.ref [.list (x6.1.map (D.int .i64)), .list (x6.2.1.map (D.int .i64))])))), (15, (.one (.d (.ref [.list (x8.1.map (D.int .i64)), .list (x8.2.1.map (D.int .i64))])))), (17, (Pt 1)), (18, (Pt 4))], [.cells [cL ((p12.drop 0).take ((imin (p12.length : Int) 2000).toNat - 0)), cI x10.2.2], .cells [.own 2 0 x9.1, .own 3 0 x9.2.1], VI x9.2.2.2.1, VI x9.2.2.2.2, .cells [cL x10.1, cL x10.2.1]]⟩)) (by kernel_rfl) (AC (T_keep_Src_Word_ok k x4.1 x4.2.1 x4.2.2.1 x4.2.2.2.1 x4.2.2.2.2.1 x4.2.2.2.2.2.1 ((p12.drop 0).take ((imin (p12.length : Int) 2000).toNat - 0)) x7.2 x9 hx9) (AC (T_keep_Src_Upper_ok k x6.1 x6.2.1 ((p12.drop 0).take ((imin (p12.length : Int) 2000).toNat - 0)) x9.2.2.1 x10 hx10) (AC rfl (AC (T_keep_Src_Upper_ok k x6.1 x6.2.1 ((p12.drop 0).take ((imin (p12.length : Int) 2000).toNat - 0)) x9.2.2.1 x10 hx10) (AC (T_keep_Src_Upper_ok k x6.1 x6.2.1 ((p12.drop 0).take ((imin (p12.length : Int) 2000).toNat - 0)) x9.2.2.1 x10 hx10) (AC rfl (AC rfl (AC (T_keep_Src_Upper_ok k x6.1 x6.2.1 ((p12.drop 0).take ((imin (p12.length : Int) 2000).toNat - 0)) x9.2.2.1 x10 hx10) (AC (T_keep_Src_Upper_ok k x6.1 x6.2.1 ((p12.drop 0).take ((imin (p12.length : Int) 2000).toNat - 0)) x9.2.2.1 x10 hx10) (AC rfl (AC rfl (AC (T_keep_Src_Word_ok k x4.1 x4.2.1 x4.2.2.1 x4.2.2.2.1 x4.2.2.2.2.1 x4.2.2.2.2.2.1 ((p12.drop 0).take ((imin (p12.length : Int) 2000).toNat - 0)) x7.2 x9 hx9) (AC (T_keep_Src_Upper_ok k x6.1 x6.2.1 ((p12.drop 0).take ((imin (p12.length : Int) 2000).toNat - 0)) x9.2.2.1 x10 hx10) (AC (T_keep_Src_Upper_ok k x6.1 x6.2.1 ((p12.drop 0).take ((imin (p12.length : Int) 2000).toNat - 0)) x9.2.2.1 x10 hx10) (AC rfl (AC (T_keep_Src_Word_ok k x4.1 x4.2.1 x4.2.2.1 x4.2.2.2.1 x4.2.2.2.2.1 x4.2.2.2.2.2.1 ((p12.drop 0).take ((imin (p12.length : Int) 2000).toNat - 0)) x7.2 x9 hx9) (AC (T_keep_Src_Upper_ok k x6.1 x6.2.1 ((p12.drop 0).take ((imin (p12.length : Int) 2000).toNat - 0)) x9.2.2.1 x10 hx10) (AC rfl (AC rfl (AC (T_keep_Src_Word_ok k x4.1 x4.2.1 x4.2.2.1 x4.2.2.2.1 x4.2.2.2.2.1 x4.2.2.2.2.2.1 ((p12.drop 0).take ((imin (p12.length : Int) 2000).toNat - 0)) x7.2 x9 hx9) (AC (T_keep_Src_Upper_ok k x6.1 x6.2.1 ((p12.drop 0).take ((imin (p12.length : Int) 2000).toNat - 0)) x9.2.2.1 x10 hx10) (AC (T_keep_Src_Upper_ok k x6.1 x6.2.1 ((p12.drop 0).take ((imin (p12.length : Int) 2000).toNat - 0)) x9.2.2.1 x10 hx10) (AC rfl (AC (T_keep_Src_Word_ok k x4.1 x4.2.1 x4.2.2.1 x4.2.2.2.1 x4.2.2.2.2.1 x4.2.2.2.2.2.1 ((p12.drop 0).take ((imin (p12.length : Int) 2000).toNat - 0)) x7.2 x9 hx9) (AC (T_keep_Src_Upper_ok k x6.1 x6.2.1 ((p12.drop 0).take ((imin (p12.length : Int) 2000).toNat - 0)) x9.2.2.1 x10 hx10) (AC rfl (A1 rfl))))))))))))))))))))))))))) ?_
    refine K_seq ?_
    obtain ⟨x11, hx11, H⟩ := bind_some' H
    refine K_r [.r (.agg [.own 1 0 x11.1, .own 2 0 x11.2.1]) [.cells [cL ((p12.drop 0).take ((imin (p12.length : Int) 2000).toNat - 0)), cI x11.2.2.1], VI x11.2.2.2.1, VI x11.2.2.2.2]] [C_T_keep_Src_Word k x4.1 x4.2.1 x4.2.2.1 x4.2.2.2.1 x4.2.2.2.2.1 x4.2.2.2.2.2.1 ((p12.drop 0).take ((imin (p12.length : Int) 2000).toNat - 0)) x10.2.2 x11] (by kernel_rfl) (A1 (T_keep_Src_Word_ok k x4.1 x4.2.1 x4.2.2.1 x4.2.2.2.1 x4.2.2.2.2.1 x4.2.2.2.2.2.1 ((p12.drop 0).take ((imin (p12.length : Int) 2000).toNat - 0)) x10.2.2 x11 hx11)) ?_
    refine K_seq ?_
    refine K_seq ?_
    obtain ⟨x12, hx12, H⟩ := bind_some' H
    refine K_r [.r (I x12.1) [.cells [cL ((p12.drop 0).take ((imin (p12.length : Int) 2000).toNat - 0)), cI x12.2]]] [C_T_keep_Src_N k ((x11.2.1 : Nat) : Int) ((p12.drop 0).take ((imin (p12.length : Int) 2000).toNat - 0)) x11.2.2.1 x12] (by kernel_rfl) (A1 (T_keep_Src_N_ok k ((x11.2.1 : Nat) : Int) ((p12.drop 0).take ((imin (p12.length : Int) 2000).toNat - 0)) x11.2.2.1 x12 hx12)) ?_
    refine K_seq ?_
    obtain ⟨x13, hx13, H⟩ := bind_some' H
    refine K_r [.r (I x13.1) [.cells [cL ((p12.drop 0).take ((imin (p12.length : Int) 2000).toNat - 0)), cI x13.2]]] [C_T_keep_Src_N k 3 ((p12.drop 0).take ((imin (p12.length : Int) 2000).toNat - 0)) x12.2 x13] (by kernel_rfl) (A1 (T_keep_Src_N_ok k 3 ((p12.drop 0).take ((imin (p12.length : Int) 2000).toNat - 0)) x12.2 x13 hx13)) ?_
    refine K_block (K_seq (K_r [] [] (by kernel_rfl) trivial ?_))
    obtain ⟨x21, hx21, H⟩ := bind_some' H
    refine K_of ⟨[(3, (I p11)), (5, (.one (.d (.ref [.int .i64 p1, .int .i64 p2, .int .i64 p3, .int .i64 p4, .int .i64 p5, .list (p6.map (D.int .i64))])))), (6, (.one (.d (.ref [.list (p7.map (D.int .i64)), .list (p8.map (D.int .i64))])))), (7, (.one (.d (.ref [.list (p9.map (D.int .i64)), .list (p10.map (D.int .i64))])))), (11, (Pt 0)), (12, (.one (.d (.ref [.int .i64 x4.1, .int .i64 x4.2.1, .int .i64 x4.2.2.1, .int .i64 x4.2.2.2.1, .int .i64 x4.2.2.2.2.1, .list (x4.2.2.2.2.2.1.map (D.int .i64))])))), (13, (.one (.d (.ref [.list (x6.1.map (D.int .i64)), .list (x6.2.1.map (D.int .i64))])))), (15, (.one (.d (.ref [.list (x8.1.map (D.int .i64)), .list (x8.2.1.map (D.int .i64))])))), (17, (Pt 1)), (18, (Pt 4)), (19, (Pt 5))], [.cells [cL ((p12.drop 0).take ((imin (p12.length : Int) 2000).toNat - 0)), cI x21.1], .cells [.own 2 0 x9.1, .own 3 0 x9.2.1], VI x9.2.2.2.1, VI x9.2.2.2.2, .cells [cL x10.1, cL x10.2.1], .cells [.own 6 0 x21.2.1, .own 7 0 x11.2.1], VI x21.2.2.1, VI x21.2.2.2]⟩ ?_ ?_
    · clear H; have H := hx21; clear hx21; refine K_in ?_
      rcases ite_some H with ⟨hx14, H⟩ | ⟨hx14, H⟩
      · refine K_t (by kernel_rfl) (decide_eq_true hx14) ?_
        obtain ⟨x15, hx15, H⟩ := bind_some' H
        obtain ⟨hx16, H⟩ := guard_some H
        refine K_rD [.r (I x15.1) [.cells [cL ((p12.drop 0).take ((imin (p12.length : Int) 2000).toNat - 0)), cI x15.2]], .l ((x11.2.2.2.2.set (0 + x12.1.toNat) x15.1).map (D.int .i64)), .r (I x15.1) [.cells [cL ((p12.drop 0).take ((imin (p12.length : Int) 2000).toNat - 0)), cI x15.2]], .l ((x11.2.2.2.2.set (0 + x12.1.toNat) x15.1).map (D.int .i64))] ((fun (z1 : St) => [C_T_keep_Src_Pick k ([(-1), 5, 0, 4] : List Int) ((p12.drop 0).take ((imin (p12.length : Int) 2000).toNat - 0)) x13.2 x15, (0 : Int) ≤ x12.1 ∧ x12.1 < ((x11.2.1 : Nat) : Int), (x11.2.2.2.2.map (D.int .i64)).set (0 + x12.1.toNat) (elemOf (.int .i64 0) (splice ((x11.2.2.2.2.map (D.int .i64)).getD (0 + x12.1.toNat) (.int .i64 0)).cells 0 [.int .i64 x15.1])) = (x11.2.2.2.2.set (0 + x12.1.toNat) x15.1).map (D.int .i64), C_T_keep_Src_Pick k ([(-1), 5, 0, 4] : List Int) ((p12.drop 0).take ((imin (p12.length : Int) 2000).toNat - 0)) x13.2 x15, (0 : Int) ≤ x12.1 ∧ x12.1 < ((x11.2.1 : Nat) : Int), (x11.2.2.2.2.map (D.int .i64)).set (0 + x12.1.toNat) (elemOf (.int .i64 0) (splice ((x11.2.2.2.2.map (D.int .i64)).getD (0 + x12.1.toNat) (.int .i64 0)).cells 0 [.int .i64 x15.1])) = (x11.2.2.2.2.set (0 + x12.1.toNat) x15.1).map (D.int .i64), z1 = z1]) (⟨[(3, (I p11)), (5, (.one (.d (.ref [.int .i64 p1, .int .i64 p2, .int .i64 p3, .int .i64 p4, .int .i64 p5, .list (p6.map (D.int .i64))])))), (6, (.one (.d (.ref [.list (p7.map (D.int .i64)), .list (p8.map (D.int .i64))])))), (7, (.one (.d (.ref [.list (p9.map (D.int .i64)), .list (p10.map (D.int .i64))])))), (11, (Pt 0)), (12, (.one (.d (.ref [.int .i64 x4.1, .int .i64 x4.2.1, .int .i64 x4.2.2.1, .int .i64 x4.2.2.2.1, .int .i64 x4.2.2.2.2.1, .list (x4.2.2.2.2.2.1.map (D.int .i64))])))), (13, (.one (.d (.ref [.list (x6.1.map (D.int .i64)), .list (x6.2.1.map (D.int .i64))])))), (15, (.one (.d (.ref [.list (x8.1.map (D.int .i64)), .list (x8.2.1.map (D.int .i64))])))), (17, (Pt 1)), (18, (Pt 4)), (19, (Pt 5))], [.cells [cL ((p12.drop 0).take ((imin (p12.length : Int) 2000).toNat - 0)), cI x15.2], .cells [.own 2 0 x9.1, .own 3 0 x9.2.1], VI x9.2.2.2.1, VI x9.2.2.2.2, .cells [cL x10.1, cL x10.2.1], .cells [.own 6 0 x11.1, .own 7 0 x11.2.1], VI x11.2.2.2.1, VI (x11.2.2.2.2.set (0 + x12.1.toNat) x15.1)]⟩)) (by kernel_rfl) (AC (T_keep_Src_Pick_ok k ([(-1), 5, 0, 4] : List Int) ((p12.drop 0).take ((imin (p12.length : Int) 2000).toNat - 0)) x13.2 x15 hx15) (AC hx16 (AC (st_one x11.2.2.2.2 (0 + x12.1.toNat) x15.1 (D.int .i64) (.int .i64 0) rfl (fun _ => rfl) rfl) (AC (T_keep_Src_Pick_ok k ([(-1), 5, 0, 4] : List Int) ((p12.drop 0).take ((imin (p12.length : Int) 2000).toNat - 0)) x13.2 x15 hx15) (AC hx16 (AC (st_one x11.2.2.2.2 (0 + x12.1.toNat) x15.1 (D.int .i64) (.int .i64 0) rfl (fun _ => rfl) rfl) (A1 rfl))))))) ?_
        cases H
        exact K_end (by kernel_rfl)
      · refine K_f (by kernel_rfl) (decide_eq_false hx14) ?_
        refine K_seq (K_r [] [] (by kernel_rfl) trivial ?_)
        rcases ite_some H with ⟨hx17, H⟩ | ⟨hx17, H⟩
        · refine K_t (by kernel_rfl) (decide_eq_true hx17) ?_
          obtain ⟨x18, hx18, H⟩ := bind_some' H
          obtain ⟨hx19, H⟩ := guard_some H
          refine K_rD [.r (I x18.1) [.cells [cL ((p12.drop 0).take ((imin (p12.length : Int) 2000).toNat - 0)), cI x18.2]], .l ((x11.2.2.2.1.set (0 + x12.1.toNat) x18.1).map (D.int .i64)), .r (I x18.1) [.cells [cL ((p12.drop 0).take ((imin (p12.length : Int) 2000).toNat - 0)), cI x18.2]], .l ((x11.2.2.2.1.set (0 + x12.1.toNat) x18.1).map (D.int .i64))] ((fun (z1 : St) => [C_T_keep_Src_Pick k ([(-1), 16, 1, 15] : List Int) ((p12.drop 0).take ((imin (p12.length : Int) 2000).toNat - 0)) x13.2 x18, (0 : Int) ≤ x12.1 ∧ x12.1 < ((x11.1 : Nat) : Int), (x11.2.2.2.1.map (D.int .i64)).set (0 + x12.1.toNat) (elemOf (.int .i64 0) (splice ((x11.2.2.2.1.map (D.int .i64)).getD (0 + x12.1.toNat) (.int .i64 0)).cells 0 [.int .i64 x18.1])) = (x11.2.2.2.1.set (0 + x12.1.toNat) x18.1).map (D.int .i64), C_T_keep_Src_Pick k ([(-1), 16, 1, 15] : List Int) ((p12.drop 0).take ((imin (p12.length : Int) 2000).toNat - 0)) x13.2 x18, (0 : Int) ≤ x12.1 ∧ x12.1 < ((x11.1 : Nat) : Int), (x11.2.2.2.1.map (D.int .i64)).set (0 + x12.1.toNat) (elemOf (.int .i64 0) (splice ((x11.2.2.2.1.map (D.int .i64)).getD (0 + x12.1.toNat) (.int .i64 0)).cells 0 [.int .i64 x18.1])) = (x11.2.2.2.1.set (0 + x12.1.toNat) x18.1).map (D.int .i64), z1 = z1]) (⟨[(3, (I p11)), (5, (.one (.d (.ref [.int .i64 p1, .int .i64 p2, .int .i64 p3, .int .i64 p4, .int .i64 p5, .list (p6.map (D.int .i64))])))), (6, (.one (.d (.ref [.list (p7.map (D.int .i64)), .list (p8.map (D.int .i64))])))), (7, (.one (.d (.ref [.list (p9.map (D.int .i64)), .list (p10.map (D.int .i64))])))), (11, (Pt 0)), (12, (.one (.d (.ref [.int .i64 x4.1, .int .i64 x4.2.1, .int .i64 x4.2.2.1, .int .i64 x4.2.2.2.1, .int .i64 x4.2.2.2.2.1, .list (x4.2.2.2.2.2.1.map (D.int .i64))])))), (13, (.one (.d (.ref [.list (x6.1.map (D.int .i64)), .list (x6.2.1.map (D.int .i64))])))), (15, (.one (.d (.ref [.list (x8.1.map (D.int .i64)), .list (x8.2.1.map (D.int .i64))])))), (17, (Pt 1)), (18, (Pt 4)), (19, (Pt 5))], [.cells [cL ((p12.drop 0).take ((imin (p12.length : Int) 2000).toNat - 0)), cI x18.2], .cells [.own 2 0 x9.1, .own 3 0 x9.2.1], VI x9.2.2.2.1, VI x9.2.2.2.2, .cells [cL x10.1, cL x10.2.1], .cells [.own 6 0 x11.1, .own 7 0 x11.2.1], VI (x11.2.2.2.1.set (0 + x12.1.toNat) x18.1), VI x11.2.2.2.2]⟩)) (by kernel_rfl) (AC (T_keep_Src_Pick_ok k ([(-1), 16, 1, 15] : List Int) ((p12.drop 0).take ((imin (p12.length : Int) 2000).toNat - 0)) x13.2 x18 hx18) (AC hx19 (AC (st_one x11.2.2.2.1 (0 + x12.1.toNat) x18.1 (D.int .i64) (.int .i64 0) rfl (fun _ => rfl) rfl) (AC (T_keep_Src_Pick_ok k ([(-1), 16, 1, 15] : List Int) ((p12.drop 0).take ((imin (p12.length : Int) 2000).toNat - 0)) x13.2 x18 hx18) (AC hx19 (AC (st_one x11.2.2.2.1 (0 + x12.1.toNat) x18.1 (D.int .i64) (.int .i64 0) rfl (fun _ => rfl) rfl) (A1 rfl))))))) ?_
          cases H
          exact K_end (by kernel_rfl)
        · refine K_f (by kernel_rfl) (decide_eq_false hx17) ?_
          obtain ⟨hx20, H⟩ := guard_some H
          refine K_r [.n 1, .l (((x11.2.2.2.1.drop 0).take x11.1 ++ ([0] : List Int)).map (D.int .i64))] [(List.all (([0] : List Int).map (D.int .i64)) fun d => d.cells.length == (D.cells (.int .i64 0)).length) = true, x11.1 + 1 ≤ LIM, (([0] : List Int).map (D.int .i64)).length = 1, ((x11.2.2.2.1.map (D.int .i64)).drop 0).take x11.1 ++ (([0] : List Int).map (D.int .i64)) = ((x11.2.2.2.1.drop 0).take x11.1 ++ ([0] : List Int)).map (D.int .i64)] (by kernel_rfl) (AC (all_ok (D.int .i64) 1 ([0] : List Int) (fun _ => rfl)) (AC hx20 (AC (by simp) (A1 (ap_map (D.int .i64) x11.2.2.2.1 ([0] : List Int) 0 x11.1))))) ?_
          cases H
          exact K_end (by kernel_rfl)
    refine K_blk (K_seq (K_gh ⟨[(3, (I p11)), (5, (.one (.d (.ref [.int .i64 p1, .int .i64 p2, .int .i64 p3, .int .i64 p4, .int .i64 p5, .list (p6.map (D.int .i64))])))), (6, (.one (.d (.ref [.list (p7.map (D.int .i64)), .list (p8.map (D.int .i64))])))), (7, (.one (.d (.ref [.list (p9.map (D.int .i64)), .list (p10.map (D.int .i64))])))), (11, (Pt 0)), (12, (.one (.d (.ref [.int .i64 x4.1, .int .i64 x4.2.1, .int .i64 x4.2.2.1, .int .i64 x4.2.2.2.1, .int .i64 x4.2.2.2.2.1, .list (x4.2.2.2.2.2.1.map (D.int .i64))])))), (13, (.one (.d (.ref [.list (x6.1.map (D.int .i64)), .list (x6.2.1.map (D.int .i64))])))), (15, (.one (.d (.ref [.list (x8.1.map (D.int .i64)), .list (x8.2.1.map (D.int .i64))])))), (17, (Pt 1)), (18, (Pt 2)), (19, (Pt 3))], [.cells [cL ((p12.drop 0).take ((imin (p12.length : Int) 2000).toNat - 0)), cI x21.1], .cells [.d (.list (((x9.2.2.2.1.map (D.int .i64)).drop 0).take x9.1)), .d (.list (((x9.2.2.2.2.map (D.int .i64)).drop 0).take x9.2.1))], .cells [cL x10.1, cL x10.2.1], .cells [.d (.list (((x21.2.2.1.map (D.int .i64)).drop 0).take x21.2.1)), .d (.list (((x21.2.2.2.map (D.int .i64)).drop 0).take x11.2.1))]]⟩ (by kernel_rfl) ?_))
    refine K_conv (σ' := ⟨[(3, (I p11)), (5, (.one (.d (.ref [.int .i64 p1, .int .i64 p2, .int .i64 p3, .int .i64 p4, .int .i64 p5, .list (p6.map (D.int .i64))])))), (6, (.one (.d (.ref [.list (p7.map (D.int .i64)), .list (p8.map (D.int .i64))])))), (7, (.one (.d (.ref [.list (p9.map (D.int .i64)), .list (p10.map (D.int .i64))])))), (11, (Pt 0)), (12, (.one (.d (.ref [.int .i64 x4.1, .int .i64 x4.2.1, .int .i64 x4.2.2.1, .int .i64 x4.2.2.2.1, .int .i64 x4.2.2.2.2.1, .list (x4.2.2.2.2.2.1.map (D.int .i64))])))), (13, (.one (.d (.ref [.list (x6.1.map (D.int .i64)), .list (x6.2.1.map (D.int .i64))])))), (15, (.one (.d (.ref [.list (x8.1.map (D.int .i64)), .list (x8.2.1.map (D.int .i64))])))), (17, (Pt 1)), (18, (Pt 2)), (19, (Pt 3))], [.cells [cL ((p12.drop 0).take ((imin (p12.length : Int) 2000).toNat - 0)), cI x21.1], .cells [cL ((x9.2.2.2.1.drop 0).take x9.1), cL ((x9.2.2.2.2.drop 0).take x9.2.1)], .cells [cL x10.1, cL x10.2.1], .cells [cL ((x21.2.2.1.drop 0).take x21.2.1), cL ((x21.2.2.2.drop 0).take x11.2.1)]]⟩) (by simp only [dt_map, LI, VI]) ?_
    refine K_r [] [] (by kernel_rfl) trivial ?_
    refine K_seq ?_
    refine K_seq ?_
    obtain ⟨x22, hx22, H⟩ := bind_some' H
    refine K_rD [.r (.agg [cI x22.1, cI x22.2.1, cI x22.2.2.1, cI x22.2.2.2.1, cI x22.2.2.2.2.1, cL x22.2.2.2.2.2.1]) [.cells [cL ((p12.drop 0).take ((imin (p12.length : Int) 2000).toNat - 0)), cI x22.2.2.2.2.2.2]], .n ([(p1, p2, p3, p4, p5, p6), (x4.1, x4.2.1, x4.2.2.1, x4.2.2.2.1, x4.2.2.2.2.1, x4.2.2.2.2.2.1), (x22.1, x22.2.1, x22.2.2.1, x22.2.2.2.1, x22.2.2.2.2.1, x22.2.2.2.2.2.1)] : List (Int × Int × Int × Int × Int × (List Int))).length] [C_T_keep_Src_Queer k x4.1 x4.2.1 x4.2.2.1 x4.2.2.2.1 x4.2.2.2.2.1 x4.2.2.2.2.2.1 ((p12.drop 0).take ((imin (p12.length : Int) 2000).toNat - 0)) x21.1 x22, ((([(p1, p2, p3, p4, p5, p6), (x4.1, x4.2.1, x4.2.2.1, x4.2.2.2.1, x4.2.2.2.2.1, x4.2.2.2.2.2.1), (x22.1, x22.2.1, x22.2.2.1, x22.2.2.2.1, x22.2.2.2.2.1, x22.2.2.2.2.2.1)] : List (Int × Int × Int × Int × Int × (List Int))).map e_st1)).length = ([(p1, p2, p3, p4, p5, p6), (x4.1, x4.2.1, x4.2.2.1, x4.2.2.2.1, x4.2.2.2.2.1, x4.2.2.2.2.2.1), (x22.1, x22.2.1, x22.2.2.1, x22.2.2.2.1, x22.2.2.2.2.1, x22.2.2.2.2.2.1)] : List (Int × Int × Int × Int × Int × (List Int))).length] (by kernel_rfl) (AC (T_keep_Src_Queer_ok k x4.1 x4.2.1 x4.2.2.1 x4.2.2.2.1 x4.2.2.2.2.1 x4.2.2.2.2.2.1 ((p12.drop 0).take ((imin (p12.length : Int) 2000).toNat - 0)) x21.1 x22 hx22) (A1 (List.length_map _))) ?_
    refine K_block (K_conv (σ' := ⟨[(3, (I p11)), (11, (Pt 0)), (21, (.one (.d (.list (([(p7, p8), (p9, p10), (x6.1, x6.2.1), (x8.1, x8.2.1), (((x9.2.2.2.1.drop 0).take x9.1), ((x9.2.2.2.2.drop 0).take x9.2.1)), (x10.1, x10.2.1), (((x21.2.2.1.drop 0).take x21.2.1), ((x21.2.2.2.drop 0).take x11.2.1))] : List ((List Int) × (List Int))).map e_st2))))), (143, (.one (.d (.list (([(p1, p2, p3, p4, p5, p6), (x4.1, x4.2.1, x4.2.2.1, x4.2.2.2.1, x4.2.2.2.2.1, x4.2.2.2.2.2.1), (x22.1, x22.2.1, x22.2.2.1, x22.2.2.2.1, x22.2.2.2.2.1, x22.2.2.2.2.2.1)] : List (Int × Int × Int × Int × Int × (List Int))).map e_st1))))), (144, (I (([(p1, p2, p3, p4, p5, p6), (x4.1, x4.2.1, x4.2.2.1, x4.2.2.2.1, x4.2.2.2.2.1, x4.2.2.2.2.2.1), (x22.1, x22.2.1, x22.2.2.1, x22.2.2.2.1, x22.2.2.2.2.1, x22.2.2.2.2.2.1)] : List (Int × Int × Int × Int × Int × (List Int))).length : Int))), (145, (I 0))], [.cells [cL ((p12.drop 0).take ((imin (p12.length : Int) 2000).toNat - 0)), cI x22.2.2.2.2.2.2]]⟩) (by kernel_rfl) ?_)
    obtain ⟨x491, hx491, H⟩ := bind_some' H
    cases x491 with
    | inl x492 =>
     dsimp only at H
     refine K_loop ⟨[], []⟩ (loop_ok (fun (s : Int × Int) => ⟨[(3, (I p11)), (11, (Pt 0)), (21, (.one (.d (.list (([(p7, p8), (p9, p10), (x6.1, x6.2.1), (x8.1, x8.2.1), (((x9.2.2.2.1.drop 0).take x9.1), ((x9.2.2.2.2.drop 0).take x9.2.1)), (x10.1, x10.2.1), (((x21.2.2.1.drop 0).take x21.2.1), ((x21.2.2.2.drop 0).take x11.2.1))] : List ((List Int) × (List Int))).map e_st2))))), (143, (.one (.d (.list (([(p1, p2, p3, p4, p5, p6), (x4.1, x4.2.1, x4.2.2.1, x4.2.2.2.1, x4.2.2.2.2.1, x4.2.2.2.2.2.1), (x22.1, x22.2.1, x22.2.2.1, x22.2.2.2.1, x22.2.2.2.2.1, x22.2.2.2.2.2.1)] : List (Int × Int × Int × Int × Int × (List Int))).map e_st1))))), (144, (I (([(p1, p2, p3, p4, p5, p6), (x4.1, x4.2.1, x4.2.2.1, x4.2.2.2.1, x4.2.2.2.2.1, x4.2.2.2.2.2.1), (x22.1, x22.2.1, x22.2.2.1, x22.2.2.2.1, x22.2.2.2.2.1, x22.2.2.2.2.2.1)] : List (Int × Int × Int × Int × Int × (List Int))).length : Int))), (145, (I s.1))], [.cells [cL ((p12.drop 0).take ((imin (p12.length : Int) 2000).toNat - 0)), cI s.2]]⟩) (fun (r : Unit ⊕ Unit) => Sum.elim (fun y => (.exit 1, ⟨[], []⟩)) (fun y => (.ret, ⟨[(10, (B false))], []⟩)) r) (fun r h => by cases r <;> cases h) (T_law19_WordParts_l4_ok k p11 ([(p7, p8), (p9, p10), (x6.1, x6.2.1), (x8.1, x8.2.1), (((x9.2.2.2.1.drop 0).take x9.1), ((x9.2.2.2.2.drop 0).take x9.2.1)), (x10.1, x10.2.1), (((x21.2.2.1.drop 0).take x21.2.1), ((x21.2.2.2.drop 0).take x11.2.1))] : List ((List Int) × (List Int))) ([(p1, p2, p3, p4, p5, p6), (x4.1, x4.2.1, x4.2.2.1, x4.2.2.2.1, x4.2.2.2.2.1, x4.2.2.2.2.2.1), (x22.1, x22.2.1, x22.2.2.1, x22.2.2.2.1, x22.2.2.2.2.1, x22.2.2.2.2.2.1)] : List (Int × Int × Int × Int × Int × (List Int))) (([(p1, p2, p3, p4, p5, p6), (x4.1, x4.2.1, x4.2.2.1, x4.2.2.2.1, x4.2.2.2.2.1, x4.2.2.2.2.2.1), (x22.1, x22.2.1, x22.2.2.1, x22.2.2.2.1, x22.2.2.2.2.1, x22.2.2.2.2.2.1)] : List (Int × Int × Int × Int × Int × (List Int))).length : Int) ((p12.drop 0).take ((imin (p12.length : Int) 2000).toNat - 0))) k (0, x22.2.2.2.2.2.2) (.inl x492) hx491) rfl ?_
     refine K_seq ?_
     obtain ⟨x493, hx493, H⟩ := bind_some' H
     refine K_r [.r (B x493) []] [C_T_law19_awake k x493] (by kernel_rfl) (A1 (T_law19_awake_ok k x493 hx493)) ?_
     refine K_g (by kernel_rfl) ?_
     cases H
     refine K_ret ?_
     kernel_rfl
    | inr x494 =>
     dsimp only at H
     cases H
     refine K_loopr ⟨[(10, (B false))], []⟩ (loop_ok (fun (s : Int × Int) => ⟨[(3, (I p11)), (11, (Pt 0)), (21, (.one (.d (.list (([(p7, p8), (p9, p10), (x6.1, x6.2.1), (x8.1, x8.2.1), (((x9.2.2.2.1.drop 0).take x9.1), ((x9.2.2.2.2.drop 0).take x9.2.1)), (x10.1, x10.2.1), (((x21.2.2.1.drop 0).take x21.2.1), ((x21.2.2.2.drop 0).take x11.2.1))] : List ((List Int) × (List Int))).map e_st2))))), (143, (.one (.d (.list (([(p1, p2, p3, p4, p5, p6), (x4.1, x4.2.1, x4.2.2.1, x4.2.2.2.1, x4.2.2.2.2.1, x4.2.2.2.2.2.1), (x22.1, x22.2.1, x22.2.2.1, x22.2.2.2.1, x22.2.2.2.2.1, x22.2.2.2.2.2.1)] : List (Int × Int × Int × Int × Int × (List Int))).map e_st1))))), (144, (I (([(p1, p2, p3, p4, p5, p6), (x4.1, x4.2.1, x4.2.2.1, x4.2.2.2.1, x4.2.2.2.2.1, x4.2.2.2.2.2.1), (x22.1, x22.2.1, x22.2.2.1, x22.2.2.2.1, x22.2.2.2.2.1, x22.2.2.2.2.2.1)] : List (Int × Int × Int × Int × Int × (List Int))).length : Int))), (145, (I s.1))], [.cells [cL ((p12.drop 0).take ((imin (p12.length : Int) 2000).toNat - 0)), cI s.2]]⟩) (fun (r : Unit ⊕ Unit) => Sum.elim (fun y => (.exit 1, ⟨[], []⟩)) (fun y => (.ret, ⟨[(10, (B false))], []⟩)) r) (fun r h => by cases r <;> cases h) (T_law19_WordParts_l4_ok k p11 ([(p7, p8), (p9, p10), (x6.1, x6.2.1), (x8.1, x8.2.1), (((x9.2.2.2.1.drop 0).take x9.1), ((x9.2.2.2.2.drop 0).take x9.2.1)), (x10.1, x10.2.1), (((x21.2.2.1.drop 0).take x21.2.1), ((x21.2.2.2.drop 0).take x11.2.1))] : List ((List Int) × (List Int))) ([(p1, p2, p3, p4, p5, p6), (x4.1, x4.2.1, x4.2.2.1, x4.2.2.2.1, x4.2.2.2.2.1, x4.2.2.2.2.2.1), (x22.1, x22.2.1, x22.2.2.1, x22.2.2.2.1, x22.2.2.2.2.1, x22.2.2.2.2.2.1)] : List (Int × Int × Int × Int × Int × (List Int))) (([(p1, p2, p3, p4, p5, p6), (x4.1, x4.2.1, x4.2.2.1, x4.2.2.2.1, x4.2.2.2.2.1, x4.2.2.2.2.2.1), (x22.1, x22.2.1, x22.2.2.1, x22.2.2.2.1, x22.2.2.2.2.1, x22.2.2.2.2.2.1)] : List (Int × Int × Int × Int × Int × (List Int))).length : Int) ((p12.drop 0).take ((imin (p12.length : Int) 2000).toNat - 0))) k (0, x22.2.2.2.2.2.2) (.inr x494) hx491) ?_
     kernel_rfl
end Go.Proofs.Ytdnegloonbanpaa.wordParts
