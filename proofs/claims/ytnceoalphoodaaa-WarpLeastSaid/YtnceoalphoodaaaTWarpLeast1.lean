/- What the functions that the statement WarpLeast reaches compute, told as functions of Lean, and that the theory's language computes the same: part 2 of 2. There are no conditions. -/
import Derived.Test.YtnceoalphoodaaaTWarpLeast0
set_option maxRecDepth 100000
set_option linter.unusedVariables false
set_option linter.unusedSimpArgs false
namespace Go.Proofs.Ytnceoalphoodaaa.warpLeast
open Go
def T_warp_Cost_l1 (k : Nat) (p1 : List Int) (p2 : List Int) (p3 : Int) (p4 : List (Int × Int)) (x17 : Int) (x36 : Int × Int) : Option ((Int × Int) ⊕ (Int ⊕ Unit)) :=
 (if x36.2 < x17 then ((at? p4 x36.2).bind fun x38 => ((if (((decide (x38.1 < 0) || decide ((p1.length : Int) ≤ x38.1)) || decide (x38.2 < 0)) || decide ((p2.length : Int) ≤ x38.2)) = true then some true else ((T_warp_near k x38.1 x38.2 p3).bind fun x41 => (if (!(decide ((w64 (x38.1 - x38.2)) ≤ p3) && decide ((w64 (x38.2 - x38.1)) ≤ p3))) = true then some true else (if 0 < x36.2 then ((at? p4 (w64 (x36.2 - 1))).bind fun x48 => (T_warp_follows k x48.1 x48.2 x38.1 x38.2).bind fun x49 => some (!((((decide (0 ≤ (w64 (x38.1 - x48.1))) && decide ((w64 (x38.1 - x48.1)) ≤ 1)) && decide (0 ≤ (w64 (x38.2 - x48.2)))) && decide ((w64 (x38.2 - x48.2)) ≤ 1)) && decide (0 < (w64 ((w64 (x38.1 - x48.1)) + (w64 (x38.2 - x48.2)))))))) else some false))))).bind fun x50 => (if x50 = true then some (.inr (.inr ())) else ((at? p1 x38.1).bind fun x52 => (at? p2 x38.2).bind fun x53 => some (.inl ((w64 (x36.1 + (w64 ((w64 (x52 - x53)) * (w64 (x52 - x53)))))), (w64 (x36.2 + 1))))))) else some (.inr (.inl x36.1)))
theorem T_warp_Cost_l1_ok (k : Nat) (p1 : List Int) (p2 : List Int) (p3 : Int) (p4 : List (Int × Int)) (x17 : Int) : ∀ (x36 : Int × Int) (x : (Int × Int) ⊕ (Int ⊕ Unit)), T_warp_Cost_l1 k p1 p2 p3 p4 x17 x36 = some x → evC X (evF X k) k 0 l_warp_Cost_1 ⟨[(0, (LI p1)), (1, (LI p2)), (2, (I p3)), (3, (.one (.d (.list (p4.map e_st0))))), (11, (I x36.1)), (47, (.one (.d (.list (p4.map e_st0))))), (48, (I x17)), (49, (I x36.2))], []⟩ = some (outS (fun (s : Int × Int) => ⟨[(0, (LI p1)), (1, (LI p2)), (2, (I p3)), (3, (.one (.d (.list (p4.map e_st0))))), (11, (I s.1)), (47, (.one (.d (.list (p4.map e_st0))))), (48, (I x17)), (49, (I s.2))], []⟩) (fun (r : Int ⊕ Unit) => Sum.elim (fun y => (.exit 0, ⟨[(11, (I y))], []⟩)) (fun y => (.ret, ⟨[(8, (I 0)), (9, (I 11))], []⟩)) r) x) := by
 intro x36 x H
 unfold T_warp_Cost_l1 at H
 refine K_in ?_
 refine K_seq (K_r [] [] (by kernel_rfl) trivial ?_)
 refine K_seq ?_
 rcases ite_some H with ⟨hx37, H⟩ | ⟨hx37, H⟩
 · refine K_t (by kernel_rfl) (decide_eq_true hx37) ?_
   refine K_g (by kernel_rfl) ?_
   refine K_skip ?_
   refine K_seq ?_
   refine K_block ?_
   refine K_seq ?_
   obtain ⟨x38, hx38, H⟩ := bind_some' H
   refine K_r [.l [.int .i64 x38.1, .int .i64 x38.2]] [(0 : Int) ≤ x36.2 ∧ x36.2 < (((p4.map e_st0)).length : Int), ((p4.map e_st0).getD x36.2.toNat (.agg [(.int .i64 0), (.int .i64 0)])).cells = [.int .i64 x38.1, .int .i64 x38.2]] (by kernel_rfl) (AC (at_ok hx38 e_st0 (.agg [(.int .i64 0), (.int .i64 0)])).1 (A1 (at_ok hx38 e_st0 (.agg [(.int .i64 0), (.int .i64 0)])).2)) ?_
   refine K_seq ?_
   refine K_seq ?_
   obtain ⟨x50, hx50, H⟩ := bind_some' H
   refine K_of ⟨[(0, (LI p1)), (1, (LI p2)), (2, (I p3)), (3, (.one (.d (.list (p4.map e_st0))))), (11, (I x36.1)), (13, (Pt 0)), (47, (.one (.d (.list (p4.map e_st0))))), (48, (I x17)), (49, (I x36.2)), (98, (B x50))], [.cells [cI x38.1, cI x38.2]]⟩ ?_ ?_
   · clear H; have H := hx50; clear hx50; refine K_in ?_
     rcases ite_some H with ⟨hx40, H⟩ | ⟨hx40, H⟩
     · refine K_r [.m, .n p1.length, .m, .m, .n p2.length, .b true, .b true] ((fun (z1 : Heap) => [decide (x38.1 < 0) = false → AllT [((p1.map (D.int .i64))).length = p1.length], z1 = z1, z1 = z1, ((decide (x38.1 < 0) || decide ((p1.length : Int) ≤ x38.1)) || decide (x38.2 < 0)) = false → AllT [((p2.map (D.int .i64))).length = p2.length], z1 = z1, (((decide (x38.1 < 0) || decide ((p1.length : Int) ≤ x38.1)) || decide (x38.2 < 0)) || decide ((p2.length : Int) ≤ x38.2)) = true, true = true]) [.cells [cI x38.1, cI x38.2]]) (by kernel_rfl) (AC (fun _ => (A1 (List.length_map _))) (AC rfl (AC rfl (AC (fun _ => (A1 (List.length_map _))) (AC rfl (AC hx40 (A1 rfl))))))) ?_
       cases H
       exact K_end (by kernel_rfl)
     · obtain ⟨x41, hx41, H⟩ := bind_some' H
       rcases ite_some H with ⟨hx44, H⟩ | ⟨hx44, H⟩
       · refine K_r [.m, .n p1.length, .m, .m, .n p2.length, .b false, .r (B (decide ((w64 (x38.1 - x38.2)) ≤ p3) && decide ((w64 (x38.2 - x38.1)) ≤ p3))) [], .b true] ((fun (z1 : Heap) => [decide (x38.1 < 0) = false → AllT [((p1.map (D.int .i64))).length = p1.length], z1 = z1, z1 = z1, ((decide (x38.1 < 0) || decide ((p1.length : Int) ≤ x38.1)) || decide (x38.2 < 0)) = false → AllT [((p2.map (D.int .i64))).length = p2.length], z1 = z1, (((decide (x38.1 < 0) || decide ((p1.length : Int) ≤ x38.1)) || decide (x38.2 < 0)) || decide ((p2.length : Int) ≤ x38.2)) = false, C_T_warp_near k x38.1 x38.2 p3 x41, (!(decide ((w64 (x38.1 - x38.2)) ≤ p3) && decide ((w64 (x38.2 - x38.1)) ≤ p3))) = true]) [.cells [cI x38.1, cI x38.2]]) (by kernel_rfl) (AC (fun _ => (A1 (List.length_map _))) (AC rfl (AC rfl (AC (fun _ => (A1 (List.length_map _))) (AC rfl (AC (Bool.eq_false_iff.2 hx40) (AC (T_warp_near_ok k x38.1 x38.2 p3 x41 hx41) (A1 hx44)))))))) ?_
         cases H
         exact K_end (by kernel_rfl)
       · rcases ite_some H with ⟨hx47, H⟩ | ⟨hx47, H⟩
         · obtain ⟨x48, hx48, H⟩ := bind_some' H
           obtain ⟨x49, hx49, H⟩ := bind_some' H
           refine K_r [.m, .n p1.length, .m, .m, .n p2.length, .b false, .r (B (decide ((w64 (x38.1 - x38.2)) ≤ p3) && decide ((w64 (x38.2 - x38.1)) ≤ p3))) [], .b false, .b true, .l [.int .i64 x48.1, .int .i64 x48.2], .r (B ((((decide (0 ≤ (w64 (x38.1 - x48.1))) && decide ((w64 (x38.1 - x48.1)) ≤ 1)) && decide (0 ≤ (w64 (x38.2 - x48.2)))) && decide ((w64 (x38.2 - x48.2)) ≤ 1)) && decide (0 < (w64 ((w64 (x38.1 - x48.1)) + (w64 (x38.2 - x48.2))))))) []] ((fun (z1 : Heap) => [decide (x38.1 < 0) = false → AllT [((p1.map (D.int .i64))).length = p1.length], z1 = z1, z1 = z1, ((decide (x38.1 < 0) || decide ((p1.length : Int) ≤ x38.1)) || decide (x38.2 < 0)) = false → AllT [((p2.map (D.int .i64))).length = p2.length], z1 = z1, (((decide (x38.1 < 0) || decide ((p1.length : Int) ≤ x38.1)) || decide (x38.2 < 0)) || decide ((p2.length : Int) ≤ x38.2)) = false, C_T_warp_near k x38.1 x38.2 p3 x41, (!(decide ((w64 (x38.1 - x38.2)) ≤ p3) && decide ((w64 (x38.2 - x38.1)) ≤ p3))) = false, decide (0 < x36.2) = true, (0 : Int) ≤ (w64 (x36.2 - 1)) ∧ (w64 (x36.2 - 1)) < (((p4.map e_st0)).length : Int), ((p4.map e_st0).getD (w64 (x36.2 - 1)).toNat (.agg [(.int .i64 0), (.int .i64 0)])).cells = [.int .i64 x48.1, .int .i64 x48.2], C_T_warp_follows k x48.1 x48.2 x38.1 x38.2 x49]) [.cells [cI x38.1, cI x38.2]]) (by kernel_rfl) (AC (fun _ => (A1 (List.length_map _))) (AC rfl (AC rfl (AC (fun _ => (A1 (List.length_map _))) (AC rfl (AC (Bool.eq_false_iff.2 hx40) (AC (T_warp_near_ok k x38.1 x38.2 p3 x41 hx41) (AC (Bool.eq_false_iff.2 hx44) (AC (decide_eq_true hx47) (AC (at_ok hx48 e_st0 (.agg [(.int .i64 0), (.int .i64 0)])).1 (AC (at_ok hx48 e_st0 (.agg [(.int .i64 0), (.int .i64 0)])).2 (A1 (T_warp_follows_ok k x48.1 x48.2 x38.1 x38.2 x49 hx49))))))))))))) ?_
           cases H
           exact K_end (by kernel_rfl)
         · refine K_r [.m, .n p1.length, .m, .m, .n p2.length, .b false, .r (B (decide ((w64 (x38.1 - x38.2)) ≤ p3) && decide ((w64 (x38.2 - x38.1)) ≤ p3))) [], .b false, .b false] ((fun (z1 : Heap) => [decide (x38.1 < 0) = false → AllT [((p1.map (D.int .i64))).length = p1.length], z1 = z1, z1 = z1, ((decide (x38.1 < 0) || decide ((p1.length : Int) ≤ x38.1)) || decide (x38.2 < 0)) = false → AllT [((p2.map (D.int .i64))).length = p2.length], z1 = z1, (((decide (x38.1 < 0) || decide ((p1.length : Int) ≤ x38.1)) || decide (x38.2 < 0)) || decide ((p2.length : Int) ≤ x38.2)) = false, C_T_warp_near k x38.1 x38.2 p3 x41, (!(decide ((w64 (x38.1 - x38.2)) ≤ p3) && decide ((w64 (x38.2 - x38.1)) ≤ p3))) = false, decide (0 < x36.2) = false]) [.cells [cI x38.1, cI x38.2]]) (by kernel_rfl) (AC (fun _ => (A1 (List.length_map _))) (AC rfl (AC rfl (AC (fun _ => (A1 (List.length_map _))) (AC rfl (AC (Bool.eq_false_iff.2 hx40) (AC (T_warp_near_ok k x38.1 x38.2 p3 x41 hx41) (AC (Bool.eq_false_iff.2 hx44) (A1 (decide_eq_false hx47)))))))))) ?_
           cases H
           exact K_end (by kernel_rfl)
   rcases ite_some H with ⟨hx51, H⟩ | ⟨hx51, H⟩
   · refine K_t (by kernel_rfl) hx51 ?_
     refine K_seq (K_r [] [] (by kernel_rfl) trivial ?_)
     refine K_g (by kernel_rfl) ?_
     cases H
     exact K_ret (by kernel_rfl)
   · refine K_f (by kernel_rfl) (Bool.eq_false_iff.2 hx51) ?_
     refine K_g (by kernel_rfl) ?_
     refine K_skip ?_
     obtain ⟨x52, hx52, H⟩ := bind_some' H
     obtain ⟨x53, hx53, H⟩ := bind_some' H
     refine K_r [.l [.int .i64 x52], .l [.int .i64 x53], .l [.int .i64 x52], .l [.int .i64 x53]] [(0 : Int) ≤ x38.1 ∧ x38.1 < (((p1.map (D.int .i64))).length : Int), ((p1.map (D.int .i64)).getD x38.1.toNat (.int .i64 0)).cells = [.int .i64 x52], (0 : Int) ≤ x38.2 ∧ x38.2 < (((p2.map (D.int .i64))).length : Int), ((p2.map (D.int .i64)).getD x38.2.toNat (.int .i64 0)).cells = [.int .i64 x53], (0 : Int) ≤ x38.1 ∧ x38.1 < (((p1.map (D.int .i64))).length : Int), ((p1.map (D.int .i64)).getD x38.1.toNat (.int .i64 0)).cells = [.int .i64 x52], (0 : Int) ≤ x38.2 ∧ x38.2 < (((p2.map (D.int .i64))).length : Int), ((p2.map (D.int .i64)).getD x38.2.toNat (.int .i64 0)).cells = [.int .i64 x53]] (by kernel_rfl) (AC (at_ok hx52 (D.int .i64) (.int .i64 0)).1 (AC (at_ok hx52 (D.int .i64) (.int .i64 0)).2 (AC (at_ok hx53 (D.int .i64) (.int .i64 0)).1 (AC (at_ok hx53 (D.int .i64) (.int .i64 0)).2 (AC (at_ok hx52 (D.int .i64) (.int .i64 0)).1 (AC (at_ok hx52 (D.int .i64) (.int .i64 0)).2 (AC (at_ok hx53 (D.int .i64) (.int .i64 0)).1 (A1 (at_ok hx53 (D.int .i64) (.int .i64 0)).2)))))))) ?_
     refine K_blk (K_r [] [] (by kernel_rfl) trivial ?_)
     cases H
     exact K_end (by kernel_rfl)
 · refine K_f (by kernel_rfl) (decide_eq_false hx37) ?_
   refine K_g (by kernel_rfl) ?_
   cases H
   exact K_exit0 rfl (by kernel_rfl)
def T_warp_Cost (k : Nat) (p1 : List Int) (p2 : List Int) (p3 : Int) (p4 : List (Int × Int)) : Option (Int × Int) := match k with
 | 0 => none
 | k + 1 => ((T_warp_check k p1 p2 p3).bind fun x1 => (if (!decide (x1 = 0)) = true then some (0, x1) else (((if (p4.length : Int) = 0 then some true else ((at? p4 0).bind fun x5 => (if (!(decide (x5.1 = 0) && (decide (x5.2 = 0) && true))) = true then some true else ((at? p4 (w64 ((p4.length : Int) - 1))).bind fun x8 => some (!(decide (x8.1 = (w64 ((p1.length : Int) - 1))) && (decide (x8.2 = (w64 ((p2.length : Int) - 1))) && true)))))))).bind fun x9 => (if x9 = true then some (0, 11) else ((loopT (T_warp_Cost_l1 k p1 p2 p3 p4 (p4.length : Int)) k (0, 0)).bind fun x54 => (match x54 with | .inl x55 => some (x55, 0) | .inr x56 => some (0, 11)))))))
abbrev C_T_warp_Cost (k : Nat) (p1 : List Int) (p2 : List Int) (p3 : Int) (p4 : List (Int × Int)) (r : Int × Int) : Prop := evF X k n_warp_Cost [(LI p1), (LI p2), (I p3), (.one (.d (.list (p4.map e_st0))))] [] = some ((.tup [(false, [cI r.1]), (false, [cI r.2])]), [])
theorem T_warp_Cost_ok (k : Nat) (p1 : List Int) (p2 : List Int) (p3 : Int) (p4 : List (Int × Int)) (r : Int × Int) : T_warp_Cost k p1 p2 p3 p4 = some r → C_T_warp_Cost k p1 p2 p3 p4 r := by
 intro H
 cases k with
 | zero => simp [T_warp_Cost] at H
 | succ k =>
  simp only [T_warp_Cost] at H
  refine F_in X_warp_Cost rfl ?_
  refine K_seq (K_r [] [] (by kernel_rfl) trivial ?_)
  refine K_seq ?_
  refine K_seq ?_
  obtain ⟨x1, hx1, H⟩ := bind_some' H
  refine K_r [.r (I x1) []] [C_T_warp_check k p1 p2 p3 x1] (by kernel_rfl) (A1 (T_warp_check_ok k p1 p2 p3 x1 hx1)) ?_
  refine K_seq (K_r [] [] (by kernel_rfl) trivial ?_)
  rcases ite_some H with ⟨hx2, H⟩ | ⟨hx2, H⟩
  · refine K_t (by kernel_rfl) hx2 ?_
    refine K_seq (K_r [] [] (by kernel_rfl) trivial ?_)
    refine K_g (by kernel_rfl) ?_
    cases H
    refine K_ret ?_
    kernel_rfl
  · refine K_f (by kernel_rfl) (Bool.eq_false_iff.2 hx2) ?_
    refine K_g (by kernel_rfl) ?_
    refine K_skip ?_
    refine K_seq ?_
    refine K_seq ?_
    obtain ⟨x9, hx9, H⟩ := bind_some' H
    refine K_of ⟨[(0, (LI p1)), (1, (LI p2)), (2, (I p3)), (3, (.one (.d (.list (p4.map e_st0))))), (46, (B x9))], []⟩ ?_ ?_
    · clear H; have H := hx9; clear hx9; refine K_in ?_
      rcases ite_some H with ⟨hx4, H⟩ | ⟨hx4, H⟩
      · refine K_r [.n p4.length, .b true, .b true] [((p4.map e_st0)).length = p4.length, decide ((p4.length : Int) = 0) = true, true = true] (by kernel_rfl) (AC (List.length_map _) (AC (decide_eq_true hx4) (A1 rfl))) ?_
        cases H
        exact K_end (by kernel_rfl)
      · obtain ⟨x5, hx5, H⟩ := bind_some' H
        rcases ite_some H with ⟨hx7, H⟩ | ⟨hx7, H⟩
        · refine K_r [.n p4.length, .b false, .l [.int .i64 x5.1, .int .i64 x5.2], .b true] [((p4.map e_st0)).length = p4.length, decide ((p4.length : Int) = 0) = false, (0 : Int) ≤ 0 ∧ 0 < (((p4.map e_st0)).length : Int), ((p4.map e_st0).getD 0 (.agg [(.int .i64 0), (.int .i64 0)])).cells = [.int .i64 x5.1, .int .i64 x5.2], (!(decide (x5.1 = 0) && (decide (x5.2 = 0) && true))) = true] (by kernel_rfl) (AC (List.length_map _) (AC (decide_eq_false hx4) (AC (at_ok hx5 e_st0 (.agg [(.int .i64 0), (.int .i64 0)])).1 (AC (at_ok hx5 e_st0 (.agg [(.int .i64 0), (.int .i64 0)])).2 (A1 hx7))))) ?_
          cases H
          exact K_end (by kernel_rfl)
        · obtain ⟨x8, hx8, H⟩ := bind_some' H
          refine K_r [.n p4.length, .b false, .l [.int .i64 x5.1, .int .i64 x5.2], .b false, .n p4.length, .l [.int .i64 x8.1, .int .i64 x8.2], .n p1.length, .n p2.length] [((p4.map e_st0)).length = p4.length, decide ((p4.length : Int) = 0) = false, (0 : Int) ≤ 0 ∧ 0 < (((p4.map e_st0)).length : Int), ((p4.map e_st0).getD 0 (.agg [(.int .i64 0), (.int .i64 0)])).cells = [.int .i64 x5.1, .int .i64 x5.2], (!(decide (x5.1 = 0) && (decide (x5.2 = 0) && true))) = false, ((p4.map e_st0)).length = p4.length, (0 : Int) ≤ (w64 ((p4.length : Int) - 1)) ∧ (w64 ((p4.length : Int) - 1)) < (((p4.map e_st0)).length : Int), ((p4.map e_st0).getD (w64 ((p4.length : Int) - 1)).toNat (.agg [(.int .i64 0), (.int .i64 0)])).cells = [.int .i64 x8.1, .int .i64 x8.2], ((p1.map (D.int .i64))).length = p1.length, ((p2.map (D.int .i64))).length = p2.length] (by kernel_rfl) (AC (List.length_map _) (AC (decide_eq_false hx4) (AC (at_ok hx5 e_st0 (.agg [(.int .i64 0), (.int .i64 0)])).1 (AC (at_ok hx5 e_st0 (.agg [(.int .i64 0), (.int .i64 0)])).2 (AC (Bool.eq_false_iff.2 hx7) (AC (List.length_map _) (AC (at_ok hx8 e_st0 (.agg [(.int .i64 0), (.int .i64 0)])).1 (AC (at_ok hx8 e_st0 (.agg [(.int .i64 0), (.int .i64 0)])).2 (AC (List.length_map _) (A1 (List.length_map _))))))))))) ?_
          cases H
          exact K_end (by kernel_rfl)
    rcases ite_some H with ⟨hx10, H⟩ | ⟨hx10, H⟩
    · refine K_t (by kernel_rfl) hx10 ?_
      refine K_seq (K_r [] [] (by kernel_rfl) trivial ?_)
      refine K_g (by kernel_rfl) ?_
      cases H
      refine K_ret ?_
      kernel_rfl
    · refine K_f (by kernel_rfl) (Bool.eq_false_iff.2 hx10) ?_
      refine K_g (by kernel_rfl) ?_
      refine K_skip (K_seq (K_r [] [] (by kernel_rfl) trivial ?_))
      refine K_seq (K_seq (K_r [.n p4.length] [((p4.map e_st0)).length = p4.length] (by kernel_rfl) (A1 (List.length_map _)) ?_))
      refine K_block (K_conv (σ' := ⟨[(0, (LI p1)), (1, (LI p2)), (2, (I p3)), (3, (.one (.d (.list (p4.map e_st0))))), (11, (I 0)), (47, (.one (.d (.list (p4.map e_st0))))), (48, (I (p4.length : Int))), (49, (I 0))], []⟩) (by kernel_rfl) ?_)
      obtain ⟨x54, hx54, H⟩ := bind_some' H
      cases x54 with
      | inl x55 =>
       dsimp only at H
       refine K_loop ⟨[(11, (I x55))], []⟩ (loop_ok (fun (s : Int × Int) => ⟨[(0, (LI p1)), (1, (LI p2)), (2, (I p3)), (3, (.one (.d (.list (p4.map e_st0))))), (11, (I s.1)), (47, (.one (.d (.list (p4.map e_st0))))), (48, (I (p4.length : Int))), (49, (I s.2))], []⟩) (fun (r : Int ⊕ Unit) => Sum.elim (fun y => (.exit 0, ⟨[(11, (I y))], []⟩)) (fun y => (.ret, ⟨[(8, (I 0)), (9, (I 11))], []⟩)) r) (fun r h => by cases r <;> cases h) (T_warp_Cost_l1_ok k p1 p2 p3 p4 (p4.length : Int)) k (0, 0) (.inl x55) hx54) rfl ?_
       refine K_seq (K_r [] [] (by kernel_rfl) trivial ?_)
       refine K_g (by kernel_rfl) ?_
       cases H
       refine K_ret ?_
       kernel_rfl
      | inr x56 =>
       dsimp only at H
       cases H
       refine K_loopr ⟨[(8, (I 0)), (9, (I 11))], []⟩ (loop_ok (fun (s : Int × Int) => ⟨[(0, (LI p1)), (1, (LI p2)), (2, (I p3)), (3, (.one (.d (.list (p4.map e_st0))))), (11, (I s.1)), (47, (.one (.d (.list (p4.map e_st0))))), (48, (I (p4.length : Int))), (49, (I s.2))], []⟩) (fun (r : Int ⊕ Unit) => Sum.elim (fun y => (.exit 0, ⟨[(11, (I y))], []⟩)) (fun y => (.ret, ⟨[(8, (I 0)), (9, (I 11))], []⟩)) r) (fun r h => by cases r <;> cases h) (T_warp_Cost_l1_ok k p1 p2 p3 p4 (p4.length : Int)) k (0, 0) (.inr x56) hx54) ?_
       kernel_rfl
def T_law14_walk_l1 (k : Nat) (p1 : Int) (p2 : Int) (p3 : Int) (p4 : List Int) (x18 : Nat × Int × Int × Int × (List (Int × Int))) : Option ((Nat × Int × Int × Int × (List (Int × Int))) ⊕ ((Nat × Int × (List (Int × Int))))) :=
 (if (decide (x18.2.2.1 < (w64 (p1 - 1))) || decide (x18.2.2.2.1 < (w64 (p2 - 1)))) = true then (T_keep_Src_N k 3 p4 x18.2.1).bind fun x20 => ((if x20.1 = 0 then some ((w64 (x18.2.2.1 + 1)), (w64 (x18.2.2.2.1 + 1))) else (if x20.1 = 1 then some ((w64 (x18.2.2.1 + 1)), x18.2.2.2.1) else some (x18.2.2.1, (w64 (x18.2.2.2.1 + 1)))))).bind fun x23 => ((if (((decide ((w64 (p1 - 1)) < x23.1) || decide ((w64 (p2 - 1)) < x23.2)) || decide (p3 < (w64 (x23.1 - x23.2)))) || decide (p3 < (w64 (x23.2 - x23.1)))) = true then some ((imin (w64 (x18.2.2.1 + 1)) (w64 (p1 - 1))), (imin (w64 (x18.2.2.2.1 + 1)) (w64 (p2 - 1)))) else some (x23.1, x23.2))).bind fun x25 => (if x18.1 + 1 ≤ LIM then some (.inl ((x18.1 + 1), x20.2, x25.1, x25.2, ((x18.2.2.2.2.drop 0).take x18.1 ++ ([(x25.1, x25.2)] : List (Int × Int))))) else none) else some (.inr (x18.1, x18.2.1, x18.2.2.2.2)))
theorem T_law14_walk_l1_ok (k : Nat) (p1 : Int) (p2 : Int) (p3 : Int) (p4 : List Int) : ∀ (x18 : Nat × Int × Int × Int × (List (Int × Int))) (x : (Nat × Int × Int × Int × (List (Int × Int))) ⊕ ((Nat × Int × (List (Int × Int))))), T_law14_walk_l1 k p1 p2 p3 p4 x18 = some x → evC X (evF X k) k 1 l_law14_walk_1 ⟨[(0, (Pt 0)), (1, (I p1)), (2, (I p2)), (3, (I p3)), (9, (Pt 1)), (10, (.one (.own 2 0 x18.1)))], [.cells [cL p4, cI x18.2.1], .cells [cI x18.2.2.1, cI x18.2.2.2.1], .vals (.agg [(.int .i64 0), (.int .i64 0)]) (x18.2.2.2.2.map e_st0)]⟩ = some (outS (fun (s : Nat × Int × Int × Int × (List (Int × Int))) => ⟨[(0, (Pt 0)), (1, (I p1)), (2, (I p2)), (3, (I p3)), (9, (Pt 1)), (10, (.one (.own 2 0 s.1)))], [.cells [cL p4, cI s.2.1], .cells [cI s.2.2.1, cI s.2.2.2.1], .vals (.agg [(.int .i64 0), (.int .i64 0)]) (s.2.2.2.2.map e_st0)]⟩) (fun (r : (Nat × Int × (List (Int × Int)))) => (.exit 0, ⟨[(10, (.one (.own 1 0 r.1)))], [.cells [cL p4, cI r.2.1], .vals (.agg [(.int .i64 0), (.int .i64 0)]) (r.2.2.map e_st0)]⟩)) x) := by
 intro x18 x H
 unfold T_law14_walk_l1 at H
 refine K_in ?_
 refine K_seq (K_seq (K_r [.m] ((fun (z1 : Heap) => [z1 = z1]) [.cells [cL p4, cI x18.2.1], .cells [cI x18.2.2.1, cI x18.2.2.2.1], .vals (.agg [(.int .i64 0), (.int .i64 0)]) (x18.2.2.2.2.map e_st0)]) (by kernel_rfl) (A1 rfl) ?_))
 rcases ite_some H with ⟨hx19, H⟩ | ⟨hx19, H⟩
 · refine K_t (by kernel_rfl) hx19 ?_
   refine K_g (by kernel_rfl) ?_
   refine K_skip (K_block (K_seq (K_r [] [] (by kernel_rfl) trivial ?_)))
   refine K_seq ?_
   refine K_seq ?_
   obtain ⟨x20, hx20, H⟩ := bind_some' H
   refine K_r [.r (I x20.1) [.cells [cL p4, cI x20.2]]] [C_T_keep_Src_N k 3 p4 x18.2.1 x20] (by kernel_rfl) (A1 (T_keep_Src_N_ok k 3 p4 x18.2.1 x20 hx20)) ?_
   refine K_block (K_seq (K_r [] [] (by kernel_rfl) trivial ?_))
   obtain ⟨x23, hx23, H⟩ := bind_some' H
   refine K_of ⟨[(0, (Pt 0)), (1, (I p1)), (2, (I p2)), (3, (I p3)), (9, (Pt 1)), (10, (.one (.own 2 0 x18.1))), (11, (Pt 3))], [.cells [cL p4, cI x20.2], .cells [cI x18.2.2.1, cI x18.2.2.2.1], .vals (.agg [(.int .i64 0), (.int .i64 0)]) (x18.2.2.2.2.map e_st0), .cells [cI x23.1, cI x23.2]]⟩ ?_ ?_
   · clear H; have H := hx23; clear hx23; refine K_in ?_
     rcases ite_some H with ⟨hx21, H⟩ | ⟨hx21, H⟩
     · refine K_t (by kernel_rfl) (decide_eq_true hx21) ?_
       refine K_r [] [] (by kernel_rfl) trivial ?_
       cases H
       exact K_end (by kernel_rfl)
     · refine K_f (by kernel_rfl) (decide_eq_false hx21) ?_
       refine K_seq (K_r [] [] (by kernel_rfl) trivial ?_)
       rcases ite_some H with ⟨hx22, H⟩ | ⟨hx22, H⟩
       · refine K_t (by kernel_rfl) (decide_eq_true hx22) ?_
         refine K_r [] [] (by kernel_rfl) trivial ?_
         cases H
         exact K_end (by kernel_rfl)
       · refine K_f (by kernel_rfl) (decide_eq_false hx22) ?_
         refine K_r [] [] (by kernel_rfl) trivial ?_
         cases H
         exact K_end (by kernel_rfl)
   refine K_blk (K_seq (K_seq (K_r [.m, .m, .m] ((fun (z1 : Heap) => [z1 = z1, z1 = z1, z1 = z1]) [.cells [cL p4, cI x20.2], .cells [cI x18.2.2.1, cI x18.2.2.2.1], .vals (.agg [(.int .i64 0), (.int .i64 0)]) (x18.2.2.2.2.map e_st0), .cells [cI x23.1, cI x23.2]]) (by kernel_rfl) (AC rfl (AC rfl (A1 rfl))) ?_)))
   obtain ⟨x25, hx25, H⟩ := bind_some' H
   refine K_of ⟨[(0, (Pt 0)), (1, (I p1)), (2, (I p2)), (3, (I p3)), (9, (Pt 1)), (10, (.one (.own 2 0 x18.1))), (11, (Pt 3))], [.cells [cL p4, cI x20.2], .cells [cI x18.2.2.1, cI x18.2.2.2.1], .vals (.agg [(.int .i64 0), (.int .i64 0)]) (x18.2.2.2.2.map e_st0), .cells [cI x25.1, cI x25.2]]⟩ ?_ ?_
   · clear H; have H := hx25; clear hx25; refine K_in ?_
     rcases ite_some H with ⟨hx24, H⟩ | ⟨hx24, H⟩
     · refine K_t (by kernel_rfl) hx24 ?_
       refine K_r [] [] (by kernel_rfl) trivial ?_
       cases H
       exact K_end (by kernel_rfl)
     · refine K_f (by kernel_rfl) (Bool.eq_false_iff.2 hx24) ?_
       refine K_g (by kernel_rfl) ?_
       refine K_skip ?_
       cases H
       exact K_end (by kernel_rfl)
   refine K_seq (K_r [] [] (by kernel_rfl) trivial ?_)
   obtain ⟨hx26, H⟩ := guard_some H
   refine K_r [.n 1, .l (((x18.2.2.2.2.drop 0).take x18.1 ++ ([(x25.1, x25.2)] : List (Int × Int))).map e_st0)] [(List.all (([(x25.1, x25.2)] : List (Int × Int)).map e_st0) fun d => d.cells.length == (D.cells (.agg [(.int .i64 0), (.int .i64 0)])).length) = true, x18.1 + 1 ≤ LIM, (([(x25.1, x25.2)] : List (Int × Int)).map e_st0).length = 1, ((x18.2.2.2.2.map e_st0).drop 0).take x18.1 ++ (([(x25.1, x25.2)] : List (Int × Int)).map e_st0) = ((x18.2.2.2.2.drop 0).take x18.1 ++ ([(x25.1, x25.2)] : List (Int × Int))).map e_st0] (by kernel_rfl) (AC (all_ok e_st0 2 ([(x25.1, x25.2)] : List (Int × Int)) (fun _ => rfl)) (AC hx26 (AC (by simp) (A1 (ap_map e_st0 x18.2.2.2.2 ([(x25.1, x25.2)] : List (Int × Int)) 0 x18.1))))) ?_
   refine K_blk ?_
   cases H
   exact K_end (by kernel_rfl)
 · refine K_f (by kernel_rfl) (Bool.eq_false_iff.2 hx19) ?_
   refine K_g (by kernel_rfl) ?_
   cases H
   exact K_exit0 rfl (by kernel_rfl)
def T_law14_walk (k : Nat) (p1 : Int) (p2 : Int) (p3 : Int) (p4 : List Int) (p5 : Int) : Option ((List (Int × Int)) × Int) := match k with
 | 0 => none
 | k + 1 => ((loopT (T_law14_walk_l1 k p1 p2 p3 p4) k (1, p5, 0, 0, [(0, 0)])).bind fun x27 => some (((x27.2.2.drop 0).take x27.1), x27.2.1))
abbrev C_T_law14_walk (k : Nat) (p1 : Int) (p2 : Int) (p3 : Int) (p4 : List Int) (p5 : Int) (r : (List (Int × Int)) × Int) : Prop := evF X k n_law14_walk [(Pt 0), (I p1), (I p2), (I p3)] [.cells [cL p4, cI p5]] = some ((.one (.d (.list (r.1.map e_st0)))), [.cells [cL p4, cI r.2]])
theorem T_law14_walk_ok (k : Nat) (p1 : Int) (p2 : Int) (p3 : Int) (p4 : List Int) (p5 : Int) (r : (List (Int × Int)) × Int) : T_law14_walk k p1 p2 p3 p4 p5 = some r → C_T_law14_walk k p1 p2 p3 p4 p5 r := by
 intro H
 cases k with
 | zero => simp [T_law14_walk] at H
 | succ k =>
  simp only [T_law14_walk] at H
  refine F_in X_law14_walk rfl ?_
  refine K_seq (K_r [] [] (by kernel_rfl) trivial ?_)
  refine K_seq (K_r [] [] (by kernel_rfl) trivial ?_)
  refine K_seq (K_r [] [] (by kernel_rfl) trivial ?_)
  refine K_seq (K_block (K_conv (σ' := ⟨[(0, (Pt 0)), (1, (I p1)), (2, (I p2)), (3, (I p3)), (9, (Pt 1)), (10, (.one (.own 2 0 1)))], [.cells [cL p4, cI p5], .cells [cI 0, cI 0], .vals (.agg [(.int .i64 0), (.int .i64 0)]) ([(0, 0)].map e_st0)]⟩) (by kernel_rfl) ?_))
  obtain ⟨x27, hx27, H⟩ := bind_some' H
  refine K_loop ⟨[(10, (.one (.own 1 0 x27.1)))], [.cells [cL p4, cI x27.2.1], .vals (.agg [(.int .i64 0), (.int .i64 0)]) (x27.2.2.map e_st0)]⟩ (loop_ok (fun (s : Nat × Int × Int × Int × (List (Int × Int))) => ⟨[(0, (Pt 0)), (1, (I p1)), (2, (I p2)), (3, (I p3)), (9, (Pt 1)), (10, (.one (.own 2 0 s.1)))], [.cells [cL p4, cI s.2.1], .cells [cI s.2.2.1, cI s.2.2.2.1], .vals (.agg [(.int .i64 0), (.int .i64 0)]) (s.2.2.2.2.map e_st0)]⟩) (fun (r : (Nat × Int × (List (Int × Int)))) => (.exit 0, ⟨[(10, (.one (.own 1 0 r.1)))], [.cells [cL p4, cI r.2.1], .vals (.agg [(.int .i64 0), (.int .i64 0)]) (r.2.2.map e_st0)]⟩)) (fun r h => by cases h) (T_law14_walk_l1_ok k p1 p2 p3 p4) k (1, p5, 0, 0, [(0, 0)]) x27 hx27) rfl ?_
  refine K_seq (K_r [] [] (by kernel_rfl) trivial ?_)
  refine K_g (by kernel_rfl) ?_
  cases H
  refine K_ret ?_
  exact Eq.trans (b := some ((.one (.d (.list (((x27.2.2.map e_st0).drop 0).take x27.1)))), [.cells [cL p4, cI x27.2.1]])) (by kernel_rfl) (by simp only [dt_map, rl_map, LI, VI])
def T_ref14_Same_l1 (k : Nat) (p1 : List (Int × Int)) (p2 : List (Int × Int)) (x4 : Int) (x10 : Int) : Option (Int ⊕ (Unit ⊕ Unit)) :=
 (if x10 < x4 then ((at? p1 x10).bind fun x12 => (at? p2 x10).bind fun x13 => (if (!(decide (x12.1 = x13.1) && (decide (x12.2 = x13.2) && true))) = true then some (.inr (.inr ())) else some (.inl (w64 (x10 + 1))))) else some (.inr (.inl ())))
theorem T_ref14_Same_l1_ok (k : Nat) (p1 : List (Int × Int)) (p2 : List (Int × Int)) (x4 : Int) : ∀ (x10 : Int) (x : Int ⊕ (Unit ⊕ Unit)), T_ref14_Same_l1 k p1 p2 x4 x10 = some x → evC X (evF X k) k 0 l_ref14_Same_1 ⟨[(0, (.one (.d (.list (p1.map e_st0))))), (1, (.one (.d (.list (p2.map e_st0))))), (12, (I x4)), (13, (I x10))], []⟩ = some (outS (fun (s : Int) => ⟨[(0, (.one (.d (.list (p1.map e_st0))))), (1, (.one (.d (.list (p2.map e_st0))))), (12, (I x4)), (13, (I s))], []⟩) (fun (r : Unit ⊕ Unit) => Sum.elim (fun y => (.exit 0, ⟨[], []⟩)) (fun y => (.ret, ⟨[(4, (B false))], []⟩)) r) x) := by
 intro x10 x H
 unfold T_ref14_Same_l1 at H
 refine K_in ?_
 refine K_seq (K_r [] [] (by kernel_rfl) trivial ?_)
 refine K_seq ?_
 rcases ite_some H with ⟨hx11, H⟩ | ⟨hx11, H⟩
 · refine K_t (by kernel_rfl) (decide_eq_true hx11) ?_
   refine K_g (by kernel_rfl) ?_
   refine K_skip (K_seq (K_block (K_seq (K_r [] [] (by kernel_rfl) trivial ?_))))
   refine K_seq ?_
   obtain ⟨x12, hx12, H⟩ := bind_some' H
   obtain ⟨x13, hx13, H⟩ := bind_some' H
   refine K_r [.l [.int .i64 x12.1, .int .i64 x12.2], .l [.int .i64 x13.1, .int .i64 x13.2]] [(0 : Int) ≤ x10 ∧ x10 < (((p1.map e_st0)).length : Int), ((p1.map e_st0).getD x10.toNat (.agg [(.int .i64 0), (.int .i64 0)])).cells = [.int .i64 x12.1, .int .i64 x12.2], (0 : Int) ≤ x10 ∧ x10 < (((p2.map e_st0)).length : Int), ((p2.map e_st0).getD x10.toNat (.agg [(.int .i64 0), (.int .i64 0)])).cells = [.int .i64 x13.1, .int .i64 x13.2]] (by kernel_rfl) (AC (at_ok hx12 e_st0 (.agg [(.int .i64 0), (.int .i64 0)])).1 (AC (at_ok hx12 e_st0 (.agg [(.int .i64 0), (.int .i64 0)])).2 (AC (at_ok hx13 e_st0 (.agg [(.int .i64 0), (.int .i64 0)])).1 (A1 (at_ok hx13 e_st0 (.agg [(.int .i64 0), (.int .i64 0)])).2)))) ?_
   rcases ite_some H with ⟨hx14, H⟩ | ⟨hx14, H⟩
   · refine K_t (by kernel_rfl) hx14 ?_
     refine K_seq (K_r [] [] (by kernel_rfl) trivial ?_)
     refine K_g (by kernel_rfl) ?_
     cases H
     exact K_ret (by kernel_rfl)
   · refine K_f (by kernel_rfl) (Bool.eq_false_iff.2 hx14) ?_
     refine K_g (by kernel_rfl) ?_
     refine K_skip (K_blk (K_r [] [] (by kernel_rfl) trivial ?_))
     cases H
     exact K_end (by kernel_rfl)
 · refine K_f (by kernel_rfl) (decide_eq_false hx11) ?_
   refine K_g (by kernel_rfl) ?_
   cases H
   exact K_exit0 rfl (by kernel_rfl)
def T_ref14_Same (k : Nat) (p1 : List (Int × Int)) (p2 : List (Int × Int)) : Option Bool := match k with
 | 0 => none
 | k + 1 => (if (!decide ((p1.length : Int) = (p2.length : Int))) = true then some false else ((loopT (T_ref14_Same_l1 k p1 p2 (p1.length : Int)) k 0).bind fun x15 => (match x15 with | .inl x16 => some true | .inr x17 => some false)))
abbrev C_T_ref14_Same (k : Nat) (p1 : List (Int × Int)) (p2 : List (Int × Int)) (r : Bool) : Prop := evF X k n_ref14_Same [(.one (.d (.list (p1.map e_st0)))), (.one (.d (.list (p2.map e_st0))))] [] = some ((B r), [])
theorem T_ref14_Same_ok (k : Nat) (p1 : List (Int × Int)) (p2 : List (Int × Int)) (r : Bool) : T_ref14_Same k p1 p2 = some r → C_T_ref14_Same k p1 p2 r := by
 intro H
 cases k with
 | zero => simp [T_ref14_Same] at H
 | succ k =>
  simp only [T_ref14_Same] at H
  refine F_in X_ref14_Same rfl ?_
  refine K_seq (K_r [] [] (by kernel_rfl) trivial ?_)
  refine K_seq (K_seq (K_r [.n p1.length, .n p2.length] [((p1.map e_st0)).length = p1.length, ((p2.map e_st0)).length = p2.length] (by kernel_rfl) (AC (List.length_map _) (A1 (List.length_map _))) ?_))
  rcases ite_some H with ⟨hx1, H⟩ | ⟨hx1, H⟩
  · refine K_t (by kernel_rfl) hx1 ?_
    refine K_seq (K_r [] [] (by kernel_rfl) trivial ?_)
    refine K_g (by kernel_rfl) ?_
    cases H
    refine K_ret ?_
    kernel_rfl
  · refine K_f (by kernel_rfl) (Bool.eq_false_iff.2 hx1) ?_
    refine K_g (by kernel_rfl) ?_
    refine K_skip (K_seq (K_seq (K_r [.n p1.length] [((p1.map e_st0)).length = p1.length] (by kernel_rfl) (A1 (List.length_map _)) ?_)))
    refine K_block (K_conv (σ' := ⟨[(0, (.one (.d (.list (p1.map e_st0))))), (1, (.one (.d (.list (p2.map e_st0))))), (12, (I (p1.length : Int))), (13, (I 0))], []⟩) (by kernel_rfl) ?_)
    obtain ⟨x15, hx15, H⟩ := bind_some' H
    cases x15 with
    | inl x16 =>
     dsimp only at H
     refine K_loop ⟨[], []⟩ (loop_ok (fun (s : Int) => ⟨[(0, (.one (.d (.list (p1.map e_st0))))), (1, (.one (.d (.list (p2.map e_st0))))), (12, (I (p1.length : Int))), (13, (I s))], []⟩) (fun (r : Unit ⊕ Unit) => Sum.elim (fun y => (.exit 0, ⟨[], []⟩)) (fun y => (.ret, ⟨[(4, (B false))], []⟩)) r) (fun r h => by cases r <;> cases h) (T_ref14_Same_l1_ok k p1 p2 (p1.length : Int)) k 0 (.inl x16) hx15) rfl ?_
     refine K_seq (K_r [] [] (by kernel_rfl) trivial ?_)
     refine K_g (by kernel_rfl) ?_
     cases H
     refine K_ret ?_
     kernel_rfl
    | inr x17 =>
     dsimp only at H
     cases H
     refine K_loopr ⟨[(4, (B false))], []⟩ (loop_ok (fun (s : Int) => ⟨[(0, (.one (.d (.list (p1.map e_st0))))), (1, (.one (.d (.list (p2.map e_st0))))), (12, (I (p1.length : Int))), (13, (I s))], []⟩) (fun (r : Unit ⊕ Unit) => Sum.elim (fun y => (.exit 0, ⟨[], []⟩)) (fun y => (.ret, ⟨[(4, (B false))], []⟩)) r) (fun r h => by cases r <;> cases h) (T_ref14_Same_l1_ok k p1 p2 (p1.length : Int)) k 0 (.inr x17) hx15) ?_
     kernel_rfl
def T_law14_awake (k : Nat) : Option Bool := match k with
 | 0 => none
 | k + 1 => ((T_warp_Distance k ([0, 9] : List Int) ([0, 5, 9] : List Int) 1).bind fun x1 => (T_warp_Path k ([0, 0, 5] : List Int) ([0, 5, 5] : List Int) 1).bind fun x2 => ((if ((decide (x1.2 = 0) && decide (x1.1 = 16)) && decide (x2.2 = 0)) = true then ((T_ref14_Same k x2.1 ([(0, 0), (1, 0), (2, 1), (2, 2)] : List (Int × Int))).bind fun x5 => some x5) else some false)).bind fun x6 => some x6)
abbrev C_T_law14_awake (k : Nat) (r : Bool) : Prop := evF X k n_law14_awake [] [] = some ((B r), [])
theorem T_law14_awake_ok (k : Nat) (r : Bool) : T_law14_awake k = some r → C_T_law14_awake k r := by
 intro H
 cases k with
 | zero => simp [T_law14_awake] at H
 | succ k =>
  simp only [T_law14_awake] at H
  refine F_in X_law14_awake rfl ?_
  refine K_seq (K_r [] [] (by kernel_rfl) trivial ?_)
  refine K_seq ?_
  obtain ⟨x1, hx1, H⟩ := bind_some' H
  refine K_r [.r (.tup [(false, [cI x1.1]), (false, [cI x1.2])]) []] [C_T_warp_Distance k ([0, 9] : List Int) ([0, 5, 9] : List Int) 1 x1] (by kernel_rfl) (A1 (T_warp_Distance_ok k ([0, 9] : List Int) ([0, 5, 9] : List Int) 1 x1 hx1)) ?_
  refine K_seq ?_
  obtain ⟨x2, hx2, H⟩ := bind_some' H
  refine K_r [.r (.tup [(false, [.d (.list (x2.1.map e_st0))]), (false, [cI x2.2])]) []] [C_T_warp_Path k ([0, 0, 5] : List Int) ([0, 5, 5] : List Int) 1 x2] (by kernel_rfl) (A1 (T_warp_Path_ok k ([0, 0, 5] : List Int) ([0, 5, 5] : List Int) 1 x2 hx2)) ?_
  refine K_seq ?_
  obtain ⟨x6, hx6, H⟩ := bind_some' H
  refine K_of ⟨[(0, (B x6))], []⟩ ?_ ?_
  · clear H; have H := hx6; clear hx6; refine K_in ?_
    rcases ite_some H with ⟨hx4, H⟩ | ⟨hx4, H⟩
    · obtain ⟨x5, hx5, H⟩ := bind_some' H
      refine K_r [.m, .m, .b true, .r (B x5) []] [([] : Heap) = [], ([] : Heap) = [], ((decide (x1.2 = 0) && decide (x1.1 = 16)) && decide (x2.2 = 0)) = true, C_T_ref14_Same k x2.1 ([(0, 0), (1, 0), (2, 1), (2, 2)] : List (Int × Int)) x5] (by kernel_rfl) (AC rfl (AC rfl (AC hx4 (A1 (T_ref14_Same_ok k x2.1 ([(0, 0), (1, 0), (2, 1), (2, 2)] : List (Int × Int)) x5 hx5))))) ?_
      cases H
      exact K_end (by kernel_rfl)
    · refine K_r [.m, .m, .b false] [([] : Heap) = [], ([] : Heap) = [], ((decide (x1.2 = 0) && decide (x1.1 = 16)) && decide (x2.2 = 0)) = false] (by kernel_rfl) (AC rfl (AC rfl (A1 (Bool.eq_false_iff.2 hx4)))) ?_
      cases H
      exact K_end (by kernel_rfl)
  refine K_g (by kernel_rfl) ?_
  cases H
  refine K_ret ?_
  kernel_rfl
def T_law14_WarpLeast (k : Nat) (p1 : List Int) (p2 : List Int) : Option Bool := match k with
 | 0 => none
 | k + 1 => ((T_keep_New k p1).bind fun x1 => (T_keep_Src_Uneven k ((p1.drop 0).take ((imin (p1.length : Int) 2000).toNat - 0)) 0).bind fun x2 => (T_warp_Distance k x2.1 x2.2.1 x2.2.2.1).bind fun x3 => (T_warp_Path k x2.1 x2.2.1 x2.2.2.1).bind fun x4 => (T_warp_Cost k x2.1 x2.2.1 x2.2.2.1 x4.1).bind fun x5 => (T_keep_New k p2).bind fun x6 => (T_law14_walk k (x2.1.length : Int) (x2.2.1.length : Int) x2.2.2.1 ((p2.drop 0).take ((imin (p2.length : Int) 2000).toNat - 0)) 0).bind fun x7 => (T_warp_Cost k x2.1 x2.2.1 x2.2.2.1 x7.1).bind fun x8 => ((if (((((decide (x3.2 = 0) && decide (x4.2 = 0)) && decide (x5.2 = 0)) && decide (x5.1 = x3.1)) && decide (x8.2 = 0)) && decide (x3.1 ≤ x8.1)) = true then ((T_law14_awake k).bind fun x11 => some x11) else some false)).bind fun x12 => some x12)
abbrev C_T_law14_WarpLeast (k : Nat) (p1 : List Int) (p2 : List Int) (r : Bool) : Prop := evF X k n_law14_WarpLeast [(LI p1), (LI p2)] [] = some ((B r), [])
theorem T_law14_WarpLeast_ok (k : Nat) (p1 : List Int) (p2 : List Int) (r : Bool) : T_law14_WarpLeast k p1 p2 = some r → C_T_law14_WarpLeast k p1 p2 r := by
 intro H
 cases k with
 | zero => simp [T_law14_WarpLeast] at H
 | succ k =>
  simp only [T_law14_WarpLeast] at H
  refine F_in X_law14_WarpLeast rfl ?_
  refine K_seq (K_r [] [] (by kernel_rfl) trivial ?_)
  refine K_seq ?_
  obtain ⟨x1, hx1, H⟩ := bind_some' H
  obtain ⟨x2, hx2, H⟩ := bind_some' H
  refine K_r [.r (Pt 0) [.cells [cL ((p1.drop 0).take ((imin (p1.length : Int) 2000).toNat - 0)), cI 0]], .r (.tup [(false, [cL x2.1]), (false, [cL x2.2.1]), (false, [cI x2.2.2.1])]) [.cells [cL ((p1.drop 0).take ((imin (p1.length : Int) 2000).toNat - 0)), cI x2.2.2.2]]] [C_T_keep_New k p1 x1, C_T_keep_Src_Uneven k ((p1.drop 0).take ((imin (p1.length : Int) 2000).toNat - 0)) 0 x2] (by kernel_rfl) (AC (T_keep_New_ok k p1 x1 hx1) (A1 (T_keep_Src_Uneven_ok k ((p1.drop 0).take ((imin (p1.length : Int) 2000).toNat - 0)) 0 x2 hx2))) ?_
  refine K_seq ?_
  obtain ⟨x3, hx3, H⟩ := bind_some' H
  refine K_r [.r (.tup [(false, [cI x3.1]), (false, [cI x3.2])]) []] [C_T_warp_Distance k x2.1 x2.2.1 x2.2.2.1 x3] (by kernel_rfl) (A1 (T_warp_Distance_ok k x2.1 x2.2.1 x2.2.2.1 x3 hx3)) ?_
  refine K_seq ?_
  obtain ⟨x4, hx4, H⟩ := bind_some' H
  refine K_r [.r (.tup [(false, [.d (.list (x4.1.map e_st0))]), (false, [cI x4.2])]) []] [C_T_warp_Path k x2.1 x2.2.1 x2.2.2.1 x4] (by kernel_rfl) (A1 (T_warp_Path_ok k x2.1 x2.2.1 x2.2.2.1 x4 hx4)) ?_
  refine K_seq ?_
  obtain ⟨x5, hx5, H⟩ := bind_some' H
  refine K_r [.r (.tup [(false, [cI x5.1]), (false, [cI x5.2])]) []] [C_T_warp_Cost k x2.1 x2.2.1 x2.2.2.1 x4.1 x5] (by kernel_rfl) (A1 (T_warp_Cost_ok k x2.1 x2.2.1 x2.2.2.1 x4.1 x5 hx5)) ?_
  refine K_seq ?_
  obtain ⟨x6, hx6, H⟩ := bind_some' H
  obtain ⟨x7, hx7, H⟩ := bind_some' H
  obtain ⟨x8, hx8, H⟩ := bind_some' H
  refine K_r [.r (Pt 0) [.cells [cL ((p2.drop 0).take ((imin (p2.length : Int) 2000).toNat - 0)), cI 0]], .n x2.1.length, .n x2.2.1.length, .r (.one (.d (.list (x7.1.map e_st0)))) [.cells [cL ((p2.drop 0).take ((imin (p2.length : Int) 2000).toNat - 0)), cI x7.2]], .r (.tup [(false, [cI x8.1]), (false, [cI x8.2])]) []] [C_T_keep_New k p2 x6, ((x2.1.map (D.int .i64))).length = x2.1.length, ((x2.2.1.map (D.int .i64))).length = x2.2.1.length, C_T_law14_walk k (x2.1.length : Int) (x2.2.1.length : Int) x2.2.2.1 ((p2.drop 0).take ((imin (p2.length : Int) 2000).toNat - 0)) 0 x7, C_T_warp_Cost k x2.1 x2.2.1 x2.2.2.1 x7.1 x8] (by kernel_rfl) (AC (T_keep_New_ok k p2 x6 hx6) (AC (List.length_map _) (AC (List.length_map _) (AC (T_law14_walk_ok k (x2.1.length : Int) (x2.2.1.length : Int) x2.2.2.1 ((p2.drop 0).take ((imin (p2.length : Int) 2000).toNat - 0)) 0 x7 hx7) (A1 (T_warp_Cost_ok k x2.1 x2.2.1 x2.2.2.1 x7.1 x8 hx8)))))) ?_
  refine K_seq ?_
  obtain ⟨x12, hx12, H⟩ := bind_some' H
  refine K_of ⟨[(4, (B x12))], []⟩ ?_ ?_
  · clear H; have H := hx12; clear hx12; refine K_in ?_
    rcases ite_some H with ⟨hx10, H⟩ | ⟨hx10, H⟩
    · obtain ⟨x11, hx11, H⟩ := bind_some' H
      refine K_r [.m, .m, .m, .m, .m, .b true, .r (B x11) []] [([] : Heap) = [], ([] : Heap) = [], ([] : Heap) = [], ([] : Heap) = [], ([] : Heap) = [], (((((decide (x3.2 = 0) && decide (x4.2 = 0)) && decide (x5.2 = 0)) && decide (x5.1 = x3.1)) && decide (x8.2 = 0)) && decide (x3.1 ≤ x8.1)) = true, C_T_law14_awake k x11] (by kernel_rfl) (AC rfl (AC rfl (AC rfl (AC rfl (AC rfl (AC hx10 (A1 (T_law14_awake_ok k x11 hx11)))))))) ?_
      cases H
      exact K_end (by kernel_rfl)
    · refine K_r [.m, .m, .m, .m, .m, .b false] [([] : Heap) = [], ([] : Heap) = [], ([] : Heap) = [], ([] : Heap) = [], ([] : Heap) = [], (((((decide (x3.2 = 0) && decide (x4.2 = 0)) && decide (x5.2 = 0)) && decide (x5.1 = x3.1)) && decide (x8.2 = 0)) && decide (x3.1 ≤ x8.1)) = false] (by kernel_rfl) (AC rfl (AC rfl (AC rfl (AC rfl (AC rfl (A1 (Bool.eq_false_iff.2 hx10))))))) ?_
      cases H
      exact K_end (by kernel_rfl)
  refine K_g (by kernel_rfl) ?_
  cases H
  refine K_ret ?_
  kernel_rfl
end Go.Proofs.Ytnceoalphoodaaa.warpLeast
